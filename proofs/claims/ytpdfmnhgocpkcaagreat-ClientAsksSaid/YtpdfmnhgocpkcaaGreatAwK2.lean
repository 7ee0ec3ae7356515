/- Parts of the logic that the proof runs in, one behind the other. -/
import Derived.Test.YtpdfmnhgocpkcaaGreatAwK1
namespace Go.Proofs.Aw
open Go
def nd (n:Nat):Nat->List (List AV)->Dl
 | _,[]=>[]
 | k,c::cs=>((n,k),some c)::nd n (k+1) cs
def nJ (n:Nat) (m:Nm):Nm:=(n,m.2)
theorem U_ (n:Nat):∀(cs:List (List AV)) (k:Nat) (h:Hp) (m:Nm),ae (aE (nd n k cs) h) m=if m.1=n/\k<=m.2/\m.2<k+cs.length then cs[m.2-k]? else ae h m
 | [],k,h,m=>by
  simp only[nd,aE,List.length_nil,Nat.add_zero]
  rw[if_neg (by omega)]
 | c::cs,k,h,m=>by
  simp only[nd,aE]
  rw[U_ n cs (k+1) _ m,dO]
  by_cases A:m.1=n
  ·by_cases E:m.2=k
   ·rw[if_neg (by omega),if_pos (by rw[<-A,<-E]),if_pos ⟨A,by omega,by simp;omega⟩,E,Nat.sub_self]
    rfl
   ·have ay:¬(n,k)=m:=fun e=>E (by rw[<-e])
    rw[if_neg ay]
    by_cases h3:k+1<=m.2/\m.2<k+1+cs.length
    ·rw[if_pos ⟨A,h3⟩,if_pos ⟨A,by omega,by simp;omega⟩,show m.2-k=m.2-(k+1)+1 from by omega,List.getElem?_cons_succ]
    ·rw[if_neg (fun h=>h3 h.2),if_neg (by simp;omega)]
  ·have ay:¬(n,k)=m:=fun e=>A (by rw[<-e])
   rw[if_neg (fun h=>A h.1),if_neg ay,if_neg (fun h=>A h.1)]
theorem WU (n:Nat):∀(cs:List (List AV)) (k:Nat) (m:Nm),m∈(nd n k cs).map (·.1)->m.1=n
 | [],_,m,h=>by simp[nd]at h
 | c::cs,k,m,h=>by
  simp only[nd,List.map_cons,List.mem_cons]at h
  rcases h with rfl | h
  ·rfl
  ·exact WU n cs (k+1) m h
mutual
theorem PD (f g:Nm->Nm):∀v,aW f (aW g v)=aW (fun m=>f (g m)) v
 | .top=>rfl
 | .sc _=>rfl
 | .agg cs=>by simp only[aW,tO f g cs]
 | .tup cs=>by simp only[aW,tO f g cs]
 | .ptr _ _=>rfl
 | .sl _ _ _ _ _=>rfl
 | .ip cs _=>by simp only[aW,tO f g cs]
 | .ro _ D _=>by simp only[aW,Yg f g D]
 | .fn _ xs ys=>by simp only[aW,tO f g xs,tO f g ys]
 | .ifc _ v=>by simp only[aW,PD f g v]
theorem tO (f g:Nm->Nm):∀cs,bu f (bu g cs)=bu (fun m=>f (g m)) cs
 | []=>rfl
 | c::cs=>by simp only[bu,PD f g c,tO f g cs]
theorem Yg (f g:Nm->Nm):∀D,dJ f (dJ g D)=dJ (fun m=>f (g m)) D
 | []=>rfl
 | e::D=>by simp only[dJ,tO f g e,Yg f g D]
end
mutual
theorem OM (n:Nat):∀v,ca (fun m=>m.1==n) (aW (nJ n) v)=true
 | .top=>rfl
 | .sc _=>rfl
 | .agg cs=>tC n cs
 | .tup cs=>tC n cs
 | .ptr _ _=>by simp[aW,ca,nJ]
 | .sl _ _ _ _ _=>by simp[aW,ca,nJ]
 | .ip cs _=>tC n cs
 | .ro _ D _=>W5 n D
 | .fn _ xs ys=>by simp only[aW,ca,tC n xs,tC n ys,Bool.and_self]
 | .ifc _ v=>OM n v
theorem tC (n:Nat):∀cs,a4 (fun m=>m.1==n) (bu (nJ n) cs)=true
 | []=>rfl
 | c::cs=>by simp only[bu,a4,OM n c,tC n cs,Bool.and_self]
theorem W5 (n:Nat):∀D,cw (fun m=>m.1==n) (dJ (nJ n) D)=true
 | []=>rfl
 | e::D=>by simp only[dJ,cw,tC n e,W5 n D,Bool.and_self]
end
mutual
theorem zd (f:Nm->Nm):∀v,ca (fun _=>false) v=true->aW f v=v
 | .top,_=>rfl
 | .sc _,_=>rfl
 | .agg cs,h=>by simp only[aW,lN f cs h]
 | .tup cs,h=>by simp only[aW,lN f cs h]
 | .ptr _ _,h=>by cases h
 | .sl _ _ _ _ _,h=>by cases h
 | .ip cs _,h=>by simp only[aW,lN f cs h]
 | .ro _ D _,h=>by simp only[aW,p9 f D h]
 | .fn _ xs ys,h=>by
   simp only[ca,Bool.and_eq_true]at h
   simp only[aW,lN f xs h.1,lN f ys h.2]
 | .ifc _ v,h=>by simp only[aW,zd f v h]
theorem lN (f:Nm->Nm):∀cs,a4 (fun _=>false) cs=true->bu f cs=cs
 | [],_=>rfl
 | c::cs,h=>by
   simp only[a4,Bool.and_eq_true]at h
   simp only[bu,zd f c h.1,lN f cs h.2]
theorem p9 (f:Nm->Nm):∀D,cw (fun _=>false) D=true->dJ f D=D
 | [],_=>rfl
 | e::D,h=>by
   simp only[cw,Bool.and_eq_true]at h
   simp only[dJ,lN f e h.1,p9 f D h.2]
end
def abI (P:Program) (rs:List ResultVar) (aF:Nat->Nm) (r:AV) (news:List (List AV)) (e:Exit) (V:St):Prop :=
 (e = .ret\/e = .normal)/\(kW P V rs fun vs=>oneOf vs=aW (fun m=>aF m.2) r)/\(∀k cs,news[k]? = some cs->ae V.h (aF k)=some (bu (fun m=>aF m.2) cs))/\(∀j k,j<news.length->k<news.length->aF j=aF k->j=k)
theorem JJ {C:Ctx}:∀(k:Nat) (args:List AV) (vs:List Value) (tmps:Array Value),aD C args vs->(∀i v,vs[i]? = some v->tmps[k+i]? = some v)->∀i,ak C (bU (gN k args) i) (tmps.getD i undef)
 | _,[],_,_,_,_,i=>by simp only[gN,bU,ak]
 | k,a::args,vs,tmps,hL,R,i=>by
  simp only[aD]at hL
  obtain⟨Y,us,rfl,H,O⟩:=hL
  simp only[gN,bU]
  split
  ·rename_i hik
   subst hik
   have:=R 0 Y rfl
   rw[Nat.add_zero]at this
   simp only[Array.getD_eq_getD_getElem?,this,Option.getD_some]
   exact H
  ·exact JJ (k+1) args us tmps O (fun j v M=>by
    have:=R (j+1) v (by simpa using M)
    rwa[show k+(j+1)=k+1+j from by omega]at this) i
theorem abz {P : Program} {f : FuncId} {fn : Func} {c : Code} {args : List AV} {r : AV} {news : List (List AV)} (aF : Nat -> Nm) (hf : P.funcs[f]? = some fn) (hb : fn.body = some c) (hN : args.length <= fn.ntmps) (hA : a4 (fun _ => false) args = true)
    (h : ∀ ac : Env, ac.N = fn.ntmps -> (∀ b, ¬ ac.wr b) -> (∀ m, ¬ ac.c0.kn m) -> AW P ac c (abI P fn.results.toList aF r news) ⟨gN 0 args, [], 0⟩) (n : Nat) (h0 : Hp) : CY P n f args h0 (aW (nJ n) r) (nd n 0 (news.map (bu (nJ n)))) := by
  intro C vs W hL hn
  refine calls_of_wp hf hb ?_
  let C0 : Ctx := { ρ := C.ρ, bs := C.bs, live := fun _ => False, kn := fun _ => False, mt := C.mt, w := C.w }
  let ac : Env := { N := fn.ntmps, w0 := C.w, wr := fun _ => False, Od := C.mt, c0 := C0 }
  have hlen : vs.length = args.length := hL.length.symm
  have sub0 : C.sub C0 id (fun _ => false) := ⟨rfl, fun _ _ h => h, fun m hm => (nomatch hm), fun m hm => (nomatch hm)⟩
  have L3 : aD C0 args vs := aD.aW sub0 args vs hA (by rw [p_]; exact hL)
  have BR : Rel ac ⟨gN 0 args, [], 0⟩ { tmps := vs.toArray ++ Array.replicate (fn.ntmps - vs.toArray.size) undef, defers := [] } C.w := by
    refine ⟨C0, rfl, ⟨⟨fun m => by simp [C0, ae], fun m cs Z => by simp [ae] at Z, fun m m' hm => hm.elim, fun m hm => hm.elim, fun m hm => hm.elim⟩, ?_, ?_, rfl, fun m hm => hm.elim, ⟨rfl, rfl, rfl, Nat.le_refl _, fun _ _ _ => rfl, fun _ _ => Iff.rfl, fun m hm => hm.elim, Ctx.le.refl _⟩⟩⟩
    · refine JJ 0 args vs _ L3 fun i v R => ?_
      have hi := (List.getElem?_eq_some_iff.1 R).1
      rw [Nat.zero_add, Array.getElem?_append_left (by simpa using hi)]
      simpa using R
    · simp [ac]; omega
  refine Code.wp_mono ?_ (h ac rfl (fun _ k => k) (fun _ k => k) _ _ BR)
  rintro e bz w' ⟨aM, ⟨Cb, rfl, df⟩, F, MI, Vk, qZ⟩
  obtain ⟨us, Y, bJ, a', fL⟩ := Y3 df.heap df.t MI
  have pC : ∀ m, C.live m -> m.1 ≠ n := fun m hm e => hn m.2 (by have := W.kn m hm; rwa [show m = (n, m.2) from by rw [<- e]] at this)
  let C' : Ctx := { ρ := fun m => if m.1 = n then Cb.ρ (aF m.2) else C.ρ m, bs := fun m => if m.1 = n then Cb.bs (aF m.2) else C.bs m, live := fun m => C.live m \/ (m.1 = n /\ m.2 < news.length), kn := fun m => C.kn m \/ m.1 = n,
                    mt := fun b => (C.mt b /\ b < C.w.heap.size) \/ ∃ k, k < news.length /\ b = Cb.ρ (aF k), w := Cb.w }
  have fm : ∀ b, b < C.w.heap.size -> Cb.w.heap[b]? = C.w.heap[b]? := fun b hb => df.frame.same b hb (fun h => h)
  have dP : ∀ k, k < news.length -> Cb.live (aF k) := fun k u => df.heap.get (Vk k _ (List.getElem?_eq_getElem u))
  have ne : ∀ k, k < news.length -> C.w.heap.size <= Cb.ρ (aF k) := fun k u => by
    rcases Nat.lt_or_ge (Cb.ρ (aF k)) C.w.heap.size with E | E
    · exact (df.frame.wr _ (dP k u) E).elim
    · exact E
  have le : C.le C' := by
    refine ⟨df.frame.size, fun b hb _ => fm b hb, fun b hb hm => ?_, fun _ h => .inl h, fun m u O => ?_, fun m u O cs ty H => ?_⟩
    · rcases hm with A | ⟨k, u, A⟩
      · exact A.1
      · have := ne k u; omega
    · have hm : m.1 ≠ n := fun e => hn m.2 (by rwa [show m = (n, m.2) from by rw [<- e]] at u)
      rcases O with A | A
      · exact ⟨A, by simp [C', hm], by simp [C', hm]⟩
      · exact absurd A.1 hm
    · have aT : C.ρ m < C.w.heap.size := by
        rcases Nat.lt_or_ge (C.ρ m) C.w.heap.size with E | E
        · exact E
        · rw [Array.getElem?_eq_none E] at H; cases H
      exact ⟨cs, ty, (fm _ aT).trans H, rfl⟩
  have sub : Cb.sub C' (fun m => aF m.2) (fun m => m.1 == n) := by
    refine ⟨rfl, fun b hb hm => ?_, fun m hm _ => .inr (by simpa using hm), fun m hm u O => ?_⟩
    · rcases hm with A | ⟨k, u, A⟩
      · exact (df.frame.mt b A.2).2 A.1
      · rw [A]; exact df.heap.mt _ (dP k u)
    · have a1 : m.1 = n := by simpa using hm
      rcases O with A | A
      · exact absurd a1 (pC m A)
      · exact ⟨dP _ A.2, by simp [C', a1], by simp [C', a1]⟩
  have oe : ak C' (aW (nJ n) r) Y := by
    refine ak.aW sub _ Y (OM n r) ?_
    rw [PD]
    show ak Cb (aW (fun m => aF m.2) r) Y
    rw [<- fL]; exact a'
  have BP : c8 C n h0 (aW (nJ n) r) (nd n 0 (news.map (bu (nJ n)))) Y C' := by
    have i6 : ∀ m, ae (aE (nd n 0 (news.map (bu (nJ n)))) h0) m = if m.1 = n /\ m.2 < news.length then (news.map (bu (nJ n)))[m.2]? else ae h0 m := fun m => by
      rw [U_]
      simp only [Nat.zero_le, true_and, Nat.zero_add, List.length_map, Nat.sub_zero]
    refine ⟨le, fun _ => Iff.rfl, ⟨fun m => ?_, fun m cs Z => ?_, fun m m' hm a1 F => ?_, fun m hm => ?_, fun m hm => ?_⟩, oe, fun b hb _ => fm b hb, fun b hb => ?_, df.frame.os, df.frame.tape, df.frame.output, fun m hm => ?_, fun m hm => .inr (WU _ _ _ _ hm)⟩
    · rw [i6]
      by_cases A : m.1 = n /\ m.2 < news.length
      · rw [if_pos A]
        simp [C', A]
      · rw [if_neg A, <- W.live m]
        simp only [C', A, or_false]
    · rw [i6] at Z
      by_cases A : m.1 = n /\ m.2 < news.length
      · rw [if_pos A, List.getElem?_map] at Z
        have E : news[m.2]? = some news[m.2] := List.getElem?_eq_getElem A.2
        rw [E] at Z
        simp only [Option.map_some, Option.some.injEq] at Z
        obtain ⟨arr, ty, ha, H⟩ := df.heap.obj _ _ (Vk _ _ E)
        refine ⟨arr, ty, by simp only [C', A.1, if_true]; exact ha, fun j c M => ?_⟩
        rw [<- Z] at M
        have hx : (bu (fun m => aF m.2) news[m.2])[j]? = some (aW (fun m => aF m.2) c) := by
          have := za (fun m => aF m.2) _ j c M
          rw [tO] at this
          exact this
        obtain ⟨u', a3, kr⟩ := H j _ hx
        exact ⟨u', by simp only [C', A.1, if_true]; exact a3, ak.aW sub c u' (pW (tC n _) M) kr⟩
      · rw [if_neg A] at Z
        have O := W.get Z
        obtain ⟨arr, ty, ha, H⟩ := W.obj m cs Z
        refine ⟨arr, ty, ?_, fun j c M => ?_⟩
        · simp only [C', pC m O, if_false]
          exact (fm _ (W.lt O)).trans ha
        · obtain ⟨u', a3, kr⟩ := H j c M
          exact ⟨u', by simp only [C', pC m O, if_false]; exact a3, kr.mono le⟩
    · rcases hm with A | A <;> rcases a1 with E | E
      · simp only [C', pC m A, pC m' E, if_false] at F
        exact W.inj m m' A E F
      · simp only [C', pC m A, E.1, if_false, if_true] at F
        have := W.lt A
        have := ne _ E.2
        omega
      · simp only [C', pC m' E, A.1, if_false, if_true] at F
        have := W.lt E
        have := ne _ A.2
        omega
      · simp only [C', A.1, E.1, if_true] at F
        have e1 := df.heap.inj _ _ (dP _ A.2) (dP _ E.2) F
        have e2 := qZ _ _ A.2 E.2 e1
        exact Prod.ext (A.1.trans E.1.symm) e2
    · rcases hm with A | A
      · simp only [C', pC m A, if_false]
        exact .inl ⟨W.mt m A, W.lt A⟩
      · simp only [C', A.1, if_true]
        exact .inr ⟨m.2, A.2, rfl⟩
    · rcases hm with A | A
      · exact .inl (W.kn m A)
      · exact .inr A.1
    · constructor
      · rintro (A | ⟨k, u, A⟩)
        · exact A.1
        · have := ne k u; omega
      · intro A; exact .inl ⟨A, hb⟩
    · rcases hm with A | A
      · exact .inl ⟨A, by simp only [C', pC m A, if_false]⟩
      · exact .inr (.inl (by simp only [C', A.1, if_true]; exact ne _ A.2))
  rcases F with rfl | rfl
  · exact ⟨df.defers, Y, bJ, Y, C', rfl, rfl, BP⟩
  · exact ⟨df.defers, Y, bJ, Y, C', rfl, rfl, BP⟩
theorem Jx {P:Program} {f:FuncId} {fn:Func} {c:Code} {args:List AV} {r:AV} (hf:P.funcs[f]? = some fn) (hb:fn.body=some c) (hN:args.length<=fn.ntmps) (hA:a4 (fun _=>false) args=true) (hR:ca (fun _=>false) r=true)
  (h:∀ac:Env,ac.N=fn.ntmps->(∀b,¬ac.wr b)->(∀m,¬ac.c0.kn m)->AW P ac c (Eg P fn.results.toList r) ⟨gN 0 args,[],0⟩) (n:Nat) (h0:Hp):CY P n f args h0 r []:=by
 have:=abz (r:=r) (news:=[]) (fun _=>(0,0)) hf hb hN hA (fun ac hE hw u=>dB (fun e V hq=>⟨hq.1,by rw[zd _ r hR];exact hq.2,by simp,by simp⟩) (h ac hE hw u)) n h0
 rw[zd _ r hR]at this
 exact this
theorem abA {P:Program} {f:FuncId} {fn:Func} {c:Code} {args:List AV} {r:AV} (hf:P.funcs[f]? = some fn) (hb:fn.body=some c) (hN:args.length<=fn.ntmps) (hA:a4 (fun _=>false) args=true) (hR:ca (fun _=>false) r=true)
  (h:∀ac:Env,ac.N=fn.ntmps->AW P ac c (Eg P fn.results.toList r) ⟨gN 0 args,[],0⟩) (n:Nat) (h0:Hp):CY P n f args h0 r [] :=
 Jx hf hb hN hA hR (fun ac hE _ _=>h ac hE) n h0
end Go.Proofs.Aw
namespace Go.Proofs.Aw
open Go
structure En where
 dst:Option Tmp
 r:AV
 d:Dl
 ms:Nat
def bk:List En->Nat->Option En
 | [],_=>none
 | e::D,j=>if j=D.length then some e else bk D j
def b5 (ab:Nat->Bool):List En->Tp->Tp
 | [],t=>t
 | e::D,t=>gP e.dst (if ab D.length=true then e.r else .top) (b5 ab D t)
def aL (ab:Nat->Bool):List En->Hp->Hp
 | [],h=>h
 | e::D,h=>if ab D.length=true then aE e.d (aL ab D h)else aL ab D h
def er (n:Nat):Dl->Bool
 | []=>true
 | (m,some _)::d=>m.1==n&&er n d
 | (_,none)::_=>false
def u2 (D:List En) (j:Nat):Nat:=match bk D j with | some e=>e.ms | none=>0
def rA (D:List En):List Edge->Nat
 | []=>0
 | e::l=>if Region.binds .any e=true then(2 ^ e.on ||| u2 D e.on) ||| rA D l else rA D l
def once:List Oper->Bool
 | []=>true
 | o::l=>(match o.dst with | some d=>l.all fun o'=>o'.dst != some d | none=>true)&&once l
def fb (ops:List Oper):Tp->Tp
 | []=>[]
 | p::t=>if ops.any (fun o=>o.dst==some p.1)=true then fb ops t else p::fb ops t
theorem n_:∀{D:List En} {j:Nat} {e:En},bk D j=some e->j<D.length
 | [],j,e,h=>by simp[bk]at h
 | x::D,j,e,h=>by
  simp only[bk]at h
  split at h
  ·rename_i M;subst M;simp
  ·have:=n_ h;simp;omega
theorem E9:∀{D:List En} {j:Nat},j<D.length->∃e,bk D j=some e
 | [],j,h=>by simp at h
 | x::D,j,h=>by
  simp only[bk]
  split
  ·exact⟨x,rfl⟩
  ·exact E9 (by simp at h;omega)
theorem DC (d:Option Tmp) (v:AV) (t:Tp) (x:Nat):bU (gP d v t) x=if d=some x then v else bU t x:=by
 cases d with
 | none=>simp[gP]
 | some d=>simp[gP,bU]
theorem qj (ab:Nat->Bool) (t0:Tp) (x:Nat):∀(D:List En),(∃j e,bk D j=some e/\e.dst=some x/\bU (b5 ab D t0) x=(if ab j=true then e.r else .top)) \/
  ((∀j e,bk D j=some e->e.dst≠some x)/\bU (b5 ab D t0) x=bU t0 x)
 | [] => .inr ⟨fun j e h=>by simp[bk]at h,rfl⟩
 | e::D=>by
  simp only[b5,DC]
  by_cases F:e.dst=some x
  ·exact .inl ⟨D.length,e,by simp[bk],F,by rw[if_pos F]⟩
  ·rw[if_neg F]
   rcases qj ab t0 x D with⟨j,e',A,E,h3⟩ | ⟨A,E⟩
   ·exact .inl ⟨j,e',by simp only[bk];rw[if_neg (by have:=n_ A;omega)];exact A,E,h3⟩
   ·refine .inr ⟨fun j e' M => ?_,E⟩
    simp only[bk]at M
    split at M
    ·cases M;exact F
    ·exact A j e' M
theorem wO (ops:List Oper) (x:Nat):∀(t:Tp),bU (fb ops t) x=if ops.any (fun o=>o.dst==some x)=true then .top else bU t x
 | []=>by simp[fb,bU]
 | (i,v)::t=>by
  simp only[fb]
  by_cases hi:i=x
  ·subst hi
   split
   ·rename_i h;rw[wO ops i t,if_pos h]
   ·simp only[bU,if_true]
  ·split
   ·rw[wO ops x t];simp only[bU,hi,if_false]
   ·simp only[bU,hi,if_false];rw[wO ops x t]
theorem na (m:Nm):∀(d:Dl) (h:Hp),(m∈d.map (·.1)/\∀h',ae (aE d h) m=ae (aE d h') m)\/(m∉d.map (·.1)/\ae (aE d h) m=ae h m):=by
 intro d h
 by_cases hm:m∈d.map (·.1)
 ·refine .inl ⟨hm,?_⟩
  induction d generalizing h with
  | nil=>simp at hm
  | cons p d ih =>
   obtain⟨k,v⟩:=p
   intro h'
   by_cases hd:m∈d.map (·.1)
   ·cases v<;>exact ih _ hd _
   ·have u:k=m:=by
     simp only[List.map_cons,List.mem_cons]at hm
     rcases hm with A | A
     ·exact A.symm
     ·exact absurd A hd
    subst u
    cases v with
    | none=>simp only[aE];rw[gC d _ _ hd,gC d _ _ hd,vm,vm];simp
    | some v=>simp only[aE];rw[gC d _ _ hd,gC d _ _ hd,dO,dO];simp
 ·exact .inr ⟨hm,gC d h m hm⟩
theorem Fs {n:Nat}:∀{d:Dl},er n d=true->∀m∈d.map (·.1),m.1=n
 | [],_,m,h=>by simp at h
 | (k,some v)::d,hf,m,h=>by
  simp only[er,Bool.and_eq_true,beq_iff_eq]at hf
  simp only[List.map_cons,List.mem_cons]at h
  rcases h with rfl | h
  ·exact hf.1
  ·exact Fs hf.2 m h
 | (k,none)::d,hf,_,_=>by simp[er]at hf
theorem x5 {ab ad:Nat->Bool} {h0:Hp} {m:Nm}:∀(D:List En),(∀j e,bk D j=some e->m∈e.d.map (·.1)->ab j=ad j)->ae (aL ab D h0) m=ae (aL ad D h0) m
 | [],_=>rfl
 | e::D,h=>by
  have ih:=x5 (ab:=ab) (ad:=ad) (h0:=h0) (m:=m) D fun j e' M hm=>h j e' (by simp only[bk];rw[if_neg (by have:=n_ M;omega)];exact M) hm
  simp only[aL]
  by_cases hm:m∈e.d.map (·.1)
  ·have xU:=h D.length e (by simp[bk]) hm
   rw[xU]
   split
   ·rcases na m e.d (aL ab D h0)with⟨_,A⟩ | ⟨A,_⟩
    ·exact A _
    ·exact absurd hm A
   ·exact ih
  ·have e1:∀h,ae (aE e.d h) m=ae h m:=fun h=>gC e.d h m hm
   split<;>split<;>simp only[e1,ih]
def w_ (P:Program) (ops:List Oper) (n:Nat) (o:Oper) (t:Tp) (h:Hp) (r:AV) (d:Dl):Prop :=
 (o.guard=none/\Yields P n o.op t h r d) \/
  (∃j want b,o.guard=some (j,want)/\yv ops t j = .sc (.bool b)/\b=want/\Yields P n o.op t h r d) \/
  (∃j want,o.guard=some (j,want)/\((∃b,yv ops t j = .sc (.bool b)/\b≠want)\/∃x,yv ops t j = .sc (.tuple x))/\r = .sc undef/\d=[])
def abH (n:Nat) (d:Dl):Prop:=(∀p∈d,p.2.isSome=true/\p.1.1≠n)\/∃m q cs,d=[(m,none),(q,some cs)]/\m.1≠n/\q.1=n
def Ef (P:Program) (ops:List Oper) (nx:Nat) (t0:Tp) (h0:Hp) (D:List En) (e:En):Prop :=
 abH (nx+D.length) e.d/\∀k ek o,k<D.length->e.ms.testBit k=false->bk D k=some ek->ops[k]? = some o ->
  ek.d=[]/\w_ P ops (nx+k) o (b5 ((ek.ms ||| e.ms) ||| 2 ^ D.length).testBit (e::D) t0) (aL ((ek.ms ||| e.ms) ||| 2 ^ D.length).testBit (e::D) h0) ek.r []
def abG (P:Program) (ops:List Oper) (nx:Nat) (t0:Tp) (h0:Hp) (D:List En) (e:En) (o:Oper) (j:Nat) (e':En):Prop :=
 e.d=[]/\w_ P ops (nx+D.length) o (b5 ((e.ms ||| e'.ms) ||| 2 ^ j).testBit D t0) (aL ((e.ms ||| e'.ms) ||| 2 ^ j).testBit D h0) e.r []
structure Shown (P:Program) (ops:List Oper) (nx:Nat) (t0:Tp) (h0:Hp) (D:List En) (e:En) (o:Oper):Prop where
 dst:e.dst=o.dst
 mask:e.ms=rA D o.after.toList
 lt:e.ms<2 ^ D.length
 Rq:(o.guard=none/\Yields P (nx+D.length) o.op (b5 e.ms.testBit D t0) (aL e.ms.testBit D h0) e.r e.d) \/
  (∃j want b,o.guard=some (j,want)/\yv ops (b5 e.ms.testBit D t0) j = .sc (.bool b)/\b=want/\Yields P (nx+D.length) o.op (b5 e.ms.testBit D t0) (aL e.ms.testBit D h0) e.r e.d) \/
  (∃j want,o.guard=some (j,want)/\((∃b,yv ops (b5 e.ms.testBit D t0) j = .sc (.bool b)/\b≠want)\/∃x,yv ops (b5 e.ms.testBit D t0) j = .sc (.tuple x))/\e.r = .sc undef/\e.d=[])
 fresh:er (nx+D.length) e.d=true\/e.ms+1=2 ^ D.length\/Ef P ops nx t0 h0 D e
 waits:∀j e',bk D j=some e'->er (nx+j) e'.d=false->e.ms.testBit j=true\/abG P ops nx t0 h0 D e o j e'
def jt (P:Program) (ops:List Oper) (nx:Nat) (t0:Tp) (h0:Hp):List En->Prop
 | []=>True
 | e::D=>jt P ops nx t0 h0 D/\∃o,ops[D.length]? = some o/\Shown P ops nx t0 h0 D e o
end Go.Proofs.Aw
namespace Go.Proofs.Aw
open Go
theorem jt.get {P:Program} {ops:List Oper} {nx:Nat} {t0:Tp} {h0:Hp}:∀{D:List En},jt P ops nx t0 h0 D->∀{j:Nat} {e:En},bk D j=some e ->
  ∃bB o,bB.length=j/\(∀k,k<j->bk bB k=bk D k)/\ops[j]? = some o/\Shown P ops nx t0 h0 bB e o/\(∀(ab:Nat->Bool),(∀k,j<=k->ab k=false)->aL ab D h0=aL ab bB h0)/\(∀ab:Nat->Bool,ab j=true->(∀k,j<k->ab k=false)->aL ab D h0=aE e.d (aL ab bB h0))
 | [],_,j,e,h=>by simp[bk]at h
 | x::D,⟨hw,o,ho,hs⟩,j,e,h=>by
  simp only[bk]at h
  split at h
  ·rename_i M
   cases h
   subst M
   refine⟨D,o,rfl,fun k u=>by simp only[bk];rw[if_neg (by omega)],ho,hs,fun ab hA => ?_,fun ab hA _ => ?_⟩
   ·simp only[aL];rw[hA _ (Nat.le_refl _)];rfl
   ·simp only[aL];rw[if_pos hA]
  ·have aT:=n_ h
   obtain⟨bB,o',A,E,h3,h4,h5,h6⟩:=jt.get hw h
   refine⟨bB,o',A,fun k u=>by rw[E k u];simp only[bk];rw[if_neg (by omega)],h3,h4,fun ab hA => ?_,fun ab hA cK => ?_⟩
   ·simp only[aL];rw[hA D.length (by omega)];exact h5 ab hA
   ·simp only[aL];rw[cK D.length aT];exact h6 ab hA cK
theorem Cl {D:List En} {k:Nat}:∀{l:List Edge},(rA D l).testBit k=true↔∃e∈l,Region.binds .any e=true/\(e.on=k\/(u2 D e.on).testBit k=true)
 | []=>by simp[rA]
 | e::l=>by
  simp only[rA]
  split
  ·rename_i hb
   rw[Nat.testBit_or,Nat.testBit_or,Bool.or_eq_true,Bool.or_eq_true,Cl (l:=l),Nat.testBit_two_pow,decide_eq_true_eq]
   constructor
   ·rintro((h | h) | ⟨e',A,E⟩)
    ·exact⟨e,List.mem_cons_self,hb,.inl h⟩
    ·exact⟨e,List.mem_cons_self,hb,.inr h⟩
    ·exact⟨e',List.mem_cons_of_mem _ A,E⟩
   ·rintro⟨e',A,E,h3⟩
    rcases List.mem_cons.1 A with rfl | A
    ·exact .inl h3
    ·exact .inr ⟨e',A,E,h3⟩
  ·rename_i hb
   rw[Cl (l:=l)]
   constructor
   ·rintro⟨e',A,E⟩;exact⟨e',List.mem_cons_of_mem _ A,E⟩
   ·rintro⟨e',A,E,h3⟩
    rcases List.mem_cons.1 A with rfl | A
    ·exact absurd E hb
    ·exact⟨e',A,E,h3⟩
theorem XH:∀{ops:List Oper},once ops=true->∀{j k:Nat} {o o':Oper} {x:Nat},ops[j]? = some o->ops[k]? = some o'->o.dst=some x->o'.dst=some x->j=k
 | [],_,j,k,o,o',x,h,_,_,_=>by simp at h
 | p::l,ho,j,k,o,o',x,M,u,hx,MW=>by
  simp only[once,Bool.and_eq_true]at ho
  cases j with
  | zero =>
   cases k with
   | zero=>rfl
   | succ k =>
    simp at M u
    subst M
    have:=ho.1
    rw[hx]at this
    have A:=List.all_eq_true.1 this o' (List.mem_of_getElem? u)
    simp[MW]at A
  | succ j =>
   cases k with
   | zero =>
    simp at M u
    subst u
    have:=ho.1
    rw[MW]at this
    have A:=List.all_eq_true.1 this o (List.mem_of_getElem? M)
    simp[hx]at A
   | succ k=>exact congrArg (· + 1) (XH ho.2 (by simpa using M) (by simpa using u) hx MW)
theorem Fo {N:Nat} {ops:List Oper} (h:fits N ops=true) {j:Nat} {o:Oper} (M:ops[j]? = some o):∀x,o.dst=some x->x<N:=fun x hx=>by
 have:=List.all_eq_true.1 h o (List.mem_of_getElem? M)
 rw[hx]at this
 simpa [Nat.blt_eq]using this
structure gq (P:Program) (ac:Env) (ops:List Oper) (nx:Nat) (t0:Tp) (h0:Hp) (D:List En):Prop where
 walked:jt P ops nx t0 h0 D
 len:D.length=ops.length
 once:once ops=true
 fits:fits ac.N ops=true
 top:∀o∈ops,∀x,o.dst=some x->bU t0 x = .top
def Ctx.at_ (C:Ctx) (nx:Nat) (h0:Hp) (D:List En) (ab:Nat->Bool):Ctx :=
 { ρ:=C.ρ,bs:=C.bs,live:=fun m=>(ae (aL ab D h0) m).isSome=true,kn:=fun m=>m.1<nx\/∃j,ab j=true/\m.1=nx+j,mt:=C.mt,w:=C.w }
section
variable {P:Program} {ac:Env} {ops:List Oper} {nx:Nat} {t0:Tp} {h0:Hp} {D:List En}
theorem gq.entry (aU:gq P ac ops nx t0 h0 D) {j:Nat} {o:Oper} (ho:ops[j]? = some o):∃e,bk D j=some e/\e.dst=o.dst:=by
 have M:=(List.getElem?_eq_some_iff.1 ho).1
 obtain⟨e,F⟩:=E9 (D:=D) (j:=j) (by rw[aU.len];exact M)
 obtain⟨bB,o',A,E,h3,h4,_⟩:=aU.walked.get F
 rw[ho]at h3;cases h3
 exact⟨e,F,h4.dst⟩
theorem gq.op (aU:gq P ac ops nx t0 h0 D) {j:Nat} {e:En} (F:bk D j=some e):∃o,ops[j]? = some o/\e.dst=o.dst:=by
 obtain⟨bB,o',A,E,h3,h4,_⟩:=aU.walked.get F
 exact⟨o',h3,h4.dst⟩
theorem gq.qi (aU:gq P ac ops nx t0 h0 D) (ab:Nat->Bool) {i:Nat} {e:En} {x:Nat} (F:bk D i=some e) (hx:e.dst=some x):bU (b5 ab D t0) x=if ab i=true then e.r else .top:=by
 rcases qj ab t0 x D with⟨j,e',A,E,h3⟩ | ⟨A,_⟩
 ·obtain⟨o,ho,hd⟩:=aU.op F
  obtain⟨o',d3,xY⟩:=aU.op A
  have h1:=XH aU.once ho d3 (hd▸hx) (xY▸E)
  subst h1
  rw[F]at A;cases A
  exact h3
 ·exact absurd hx (A i e F)
theorem gq.DA (aU:gq P ac ops nx t0 h0 D) {ab ad:Nat->Bool} {x:Nat} (h:∀j e,bk D j=some e->e.dst=some x->ab j=ad j):bU (b5 ab D t0) x=bU (b5 ad D t0) x:=by
 rcases qj ab t0 x D with⟨j,e,A,E,h3⟩ | ⟨A,E⟩
 ·rw[aU.qi ab A E,aU.qi ad A E,h j e A E]
 ·rcases qj ad t0 x D with⟨j,e,h3,h4,_⟩ | ⟨_,h4⟩
  ·exact absurd h4 (A j e h3)
  ·rw[E,h4]
theorem gq.QD (aU:gq P ac ops nx t0 h0 D) {bB:List En} {j:Nat} (O:bB.length=j) (F:∀k,k<j->bk bB k=bk D k) {ab:Nat->Bool} (hA:∀k,j<=k->ab k=false) (x:Nat):bU (b5 ab bB t0) x=bU (b5 ab D t0) x:=by
 rcases qj ab t0 x bB with⟨k,e,A,E,h3⟩ | ⟨A,E⟩
 ·have u:=n_ A
  rw[O]at u
  rw[F k u]at A
  rw[h3,aU.qi ab A E]
 ·rcases qj ab t0 x D with⟨k,e,h3,h4,h5⟩ | ⟨_,h4⟩
  ·rcases Nat.lt_or_ge k j with u | u
   ·exact absurd h4 (A k e (by rw[F k u];exact h3))
   ·rw[E,h5,hA k u]
    obtain⟨o,ho,hd⟩:=aU.op h3
    exact aU.top o (List.mem_of_getElem? ho) x (hd▸h4)
  ·rw[E,h4]
theorem aeF {D:List En} {j:Nat} {e:En} (h:bk D j=some e):u2 D j=e.ms:=by simp[u2,h]
theorem gq.mask (aU:gq P ac ops nx t0 h0 D) {j:Nat} {e:En} {o:Oper} (F:bk D j=some e) (ho:ops[j]? = some o) :
  (∀k,e.ms.testBit k=true->k<j)/\(∀ed∈o.after,Region.binds .any ed=true->e.ms.testBit ed.on=true) /\
  (∀k,e.ms.testBit k=true->∃ed∈o.after,Region.binds .any ed=true/\(ed.on=k\/∃e',bk D ed.on=some e'/\e'.ms.testBit k=true)) /\
  (∀ed∈o.after,Region.binds .any ed=true->∀e',bk D ed.on=some e'->∀m,e'.ms.testBit m=true->e.ms.testBit m=true):=by
 obtain⟨bB,o',A,E,h3,h4,_⟩:=aU.walked.get F
 rw[ho]at h3;cases h3
 have aT:∀k,e.ms.testBit k=true->k<j:=fun k u=>by
  rcases Nat.lt_or_ge k j with h | h
  ·exact h
  ·have:=Nat.testBit_lt_two_pow (x:=e.ms) (i:=k) (Nat.lt_of_lt_of_le (by rw[<-A];exact h4.lt) (Nat.pow_le_pow_right (by omega) h))
   rw[u]at this;cases this
 have cu:∀ed∈o.after,Region.binds .any ed=true->e.ms.testBit ed.on=true:=fun ed d6 hb=>by
  rw[h4.mask]
  exact Cl.2 ⟨ed,by simpa using d6,hb,.inl rfl⟩
 refine⟨aT,cu,fun k u => ?_,fun ed d6 hb e' qY m hm => ?_⟩
 ·rw[h4.mask]at u
  obtain⟨ed,d6,hb,BO⟩:=Cl.1 u
  refine⟨ed,by simpa using d6,hb,?_⟩
  rcases BO with h | h
  ·exact .inl h
  ·refine .inr ?_
   unfold u2 at h
   cases hx:bk bB ed.on with
   | none=>rw[hx]at h;simp at h
   | some e' =>
    rw[hx]at h
    have FW:=n_ hx
    rw[A]at FW
    rw[E _ FW]at hx
    exact⟨e',hx,h⟩
 ·have O:=aT _ (cu ed d6 hb)
  have hx:bk bB ed.on=some e':=by rw[E _ O];exact qY
  rw[h4.mask]
  exact Cl.2 ⟨ed,by simpa using d6,hb,.inr (by rw[aeF hx];exact hm)⟩
theorem gq.trans (aU:gq P ac ops nx t0 h0 D):∀(j:Nat) {k:Nat} {e e':En},bk D j=some e->e.ms.testBit k=true->bk D k=some e'->∀m,e'.ms.testBit m=true->e.ms.testBit m=true:=by
 intro j
 induction j using Nat.strongRecOn with
 | _ j ih =>
  intro k e e' F u qY m hm
  obtain⟨o,ho,_⟩:=aU.op F
  obtain⟨aT,cu,hex,mq⟩:=aU.mask F ho
  obtain⟨ed,d6,hb,BO⟩:=hex k u
  rcases BO with h | ⟨e1,x2,bt⟩
  ·subst h;exact mq ed d6 hb e' qY m hm
  ·exact mq ed d6 hb e1 x2 m (ih ed.on (aT _ (cu ed d6 hb)) x2 bt qY m hm)
theorem yf {ab ad:Nat->Bool} {h0:Hp}:∀(D:List En),(∀j,j<D.length->ab j=ad j)->aL ab D h0=aL ad D h0
 | [],_=>rfl
 | e::D,h=>by
  simp only[aL]
  rw[yf D (fun j M=>h j (by simp;omega)),h D.length (by simp)]
theorem Z' {ab ad:Nat->Bool} {t0:Tp}:∀(D:List En),(∀j,j<D.length->ab j=ad j)->b5 ab D t0=b5 ad D t0
 | [],_=>rfl
 | e::D,h=>by
  simp only[b5]
  rw[Z' D (fun j M=>h j (by simp;omega)),h D.length (by simp)]
theorem vx {ab ad:Nat->Bool} {h0:Hp}:∀(D:List En),(∀j e,bk D j=some e->e.d≠[]->ab j=ad j)->aL ab D h0=aL ad D h0
 | [],_=>rfl
 | e::D,h=>by
  have ih:=vx (ab:=ab) (ad:=ad) (h0:=h0) D (fun j e' M hn=>h j e' (by simp only[bk];rw[if_neg (by have:=n_ M;omega)];exact M) hn)
  simp only[aL]
  rw[ih]
  by_cases hd:e.d=[]
  ·rw[hd];simp only[aE,ite_self]
  ·rw[h D.length e (by simp[bk]) hd]
structure ew (nx:Nat) (D:List En) (L ab:Nat->Bool):Prop where
 sub:∀j,ab j=true->L j=true
 closed:∀j e,ab j=true->bk D j=some e->∀k,e.ms.testBit k=true->ab k=true
 bars:∀j e,L j=true->bk D j=some e->er (nx+j) e.d=false->ab j=true
structure eD (ac:Env) (nx:Nat) (t0:Tp) (h0:Hp) (D:List En) (L:Nat->Bool) (C:Ctx) (a:Act):Prop where
 lt:∀j,L j=true->j<D.length
 closed:∀j e,L j=true->bk D j=some e->∀k,e.ms.testBit k=true->L k=true
 names:∀j e,L j=true->bk D j=some e->∀m∈e.d.map (·.1),m.1<nx\/∃k,(k=j\/e.ms.testBit k=true)/\m.1=nx+k
 size:a.tmps.size=ac.N
 defers:a.defers=[]
 ok:∀ab,ew nx D L ab->c6 (C.at_ nx h0 D ab) (aL ab D h0)/\gb (C.at_ nx h0 D ab) (b5 ab D t0) a/\mP ac (C.at_ nx h0 D ab)
def eF (L:Nat->Bool) (i:Nat):Nat->Bool:=fun j=>L j||j==i
theorem cP {L:Nat->Bool} {i j:Nat}:eF L i j=true↔L j=true\/j=i:=by simp[eF]
def Ctx.next (C C':Ctx) (n:Nat):Ctx:={ C' with ρ:=fun m=>if m.1=n then C'.ρ m else C.ρ m,bs:=fun m=>if m.1=n then C'.bs m else C.bs m }
theorem mP.of {ac:Env} {C C':Ctx} (h:mP ac C) (hw:C'.w=C.w) (hm:C'.mt=C.mt) (a0:ac.c0.le C') (hr:∀n,C'.live n->C'.ρ n<ac.w0.heap.size->ac.wr (C'.ρ n)):mP ac C' where
 os:=by rw[hw];exact h.os
 tape:=by rw[hw];exact h.tape
 output:=by rw[hw];exact h.output
 size:=by rw[hw];exact h.size
 same b hb hn:=by rw[hw];exact h.same b hb hn
 mt b hb:=by rw[hm];exact h.mt b hb
 wr:=hr
 le:=a0
theorem eD.step (aU : gq P ac ops nx t0 h0 D) {L : Nat -> Bool} {C : Ctx} {a : Act} (aC : eD ac nx t0 h0 D L C a) {i : Nat} {e : En} {o : Oper} (F : bk D i = some e) (ho : ops[i]? = some o) (cF : L i = false)
    (cu : ∀ k, e.ms.testBit k = true -> L k = true) {bB : List En} (bY : bB.length = i) (qY : ∀ k, k < i -> bk bB k = bk D k) (hs : Shown P ops nx t0 h0 bB e o)
    (h6 : ∀ ab : Nat -> Bool, ab i = true -> (∀ k, i < k -> ab k = false) -> aL ab D h0 = aE e.d (aL ab bB h0)) (h5 : aL e.ms.testBit D h0 = aL e.ms.testBit bB h0) {Y : Value} {C' : Ctx} (i2 : ew nx D L e.ms.testBit)
    (hp : c8 (C.at_ nx h0 D e.ms.testBit) (nx + i) (aL e.ms.testBit bB h0) e.r e.d Y C') (x3 : er (nx + i) e.d = false -> e.ms + 1 = 2 ^ bB.length) (aT : er (nx + i) e.d = false -> ∀ k, L k = true -> k < i \/ ∃ ek, bk D k = some ek /\ ek.d = []) :
    eD ac nx t0 h0 D (eF L i) (C.next C' (nx + i)) (a.put o.dst Y) := by
  obtain ⟨pR, _, _, _⟩ := aU.mask F ho
  have hi : i < D.length := n_ F
  obtain ⟨hH, hT, km⟩ := aC.ok _ i2
  have ko : mP ac C' := km.step hp
  have nameI : ∀ m ∈ e.d.map (·.1), m.1 < nx \/ ∃ k, (k = i \/ e.ms.testBit k = true) /\ m.1 = nx + k := fun m hm => by
    rcases hp.names m hm with h | h
    · rcases hH.kn m h with h | ⟨k, u, h⟩
      · exact .inl h
      · exact .inr ⟨k, .inr u, h⟩
    · exact .inr ⟨i, .inl rfl, h⟩
  have notKnown : ∀ m : Nm, m.1 = nx + i -> ¬ (C.at_ nx h0 D e.ms.testBit).kn m := fun m hm h => by
    rcases h with h | ⟨k, u, h⟩
    · omega
    · have := pR k u; omega
  have mlt' : ∀ k, i <= k -> e.ms.testBit k = false := fun k u => by
    cases h : e.ms.testBit k with
    | false => rfl
    | true => have := pR k h; omega
  have seeNew : ∀ A' : Nat -> Bool, A' i = true -> (∀ j, A' j = true -> eF L i j = true) -> (∀ k, e.ms.testBit k = true -> A' k = true) -> ∀ m : Nm, m.1 = nx + i -> ae (aL A' D h0) m = ae (aE e.d (aL e.ms.testBit bB h0)) m := by
    intro A' cK mq FY m hm
    have e1 : ae (aL A' D h0) m = ae (aL (eF e.ms.testBit i) D h0) m := x5 D fun j ej ba pE => by
      by_cases dU : j = i
      · subst dU; rw [cK, (cP.2 (.inr rfl) : eF e.ms.testBit j j = true)]
      · have i9 : L j = false := by
          cases jD : L j with
          | false => rfl
          | true =>
            rcases aC.names j ej jD ba m pE with h | ⟨k, u, h⟩
            · omega
            · have oj : k = i := by omega
              subst oj
              rcases u with u | u
              · exact absurd u.symm dU
              · rw [aC.closed j ej jD ba _ u] at cF; cases cF
        have A : A' j = false := by
          cases h : A' j with
          | false => rfl
          | true => rcases cP.1 (mq j h) with h | h
                    · rw [i9] at h; cases h
                    · exact absurd h dU
        have E : eF e.ms.testBit i j = false := by
          cases h : eF e.ms.testBit i j with
          | false => rfl
          | true => rcases cP.1 h with h | h
                    · rw [cu j h] at i9; cases i9
                    · exact absurd h dU
        rw [A, E]
    rw [e1, h6 _ (cP.2 (.inr rfl)) (fun k u => by
      cases h : eF e.ms.testBit i k with
      | false => rfl
      | true => rcases cP.1 h with h | h
                · rw [mlt' k (by omega)] at h; cases h
                · omega), yf (ab := eF e.ms.testBit i) (ad := e.ms.testBit) bB (fun k u => by
      rw [bY] at u
      simp [eF, Nat.ne_of_lt u])]
  have putOther : ∀ x, o.dst ≠ some x -> (a.put o.dst Y).tmps.getD x undef = a.tmps.getD x undef := fun x hx => by
    cases hd : o.dst with
    | none => simp [Act.put]
    | some d =>
      have Mj : d ≠ x := fun h => hx (by rw [hd, h])
      simp [Act.put, Array.getD_eq_getD_getElem?, Array.getElem?_setIfInBounds_ne Mj]
  have putSelf : ∀ x, o.dst = some x -> (a.put o.dst Y).tmps.getD x undef = Y := fun x hx => by
    have M : x < a.tmps.size := by rw [aC.size]; exact Fo aU.fits ho x hx
    rw [hx]
    simp [Act.put, Array.getD, M]
  have seeSlot : ∀ A' ab : Nat -> Bool, (∀ j, j ≠ i -> ab j = A' j) -> ∀ x, o.dst ≠ some x -> bU (b5 A' D t0) x = bU (b5 ab D t0) x := fun A' ab hAA x hx => aU.DA fun j ej ba hd => by
    refine (hAA j fun dU => hx ?_).symm
    subst dU
    rw [F] at ba; cases ba
    rw [<- hs.dst]; exact hd
  refine ⟨fun j M => ?_, fun j ej M ba k u => ?_, fun j ej M ba m hm => ?_, by rw [y3]; exact aC.size, by rw [put_defers]; exact aC.defers, fun A' cK => ?_⟩
  · rcases cP.1 M with h | h
    · exact aC.lt j h
    · omega
  · rcases cP.1 M with h | h
    · exact cP.2 (.inl (aC.closed j ej h ba k u))
    · subst h; rw [F] at ba; cases ba; exact cP.2 (.inl (cu k u))
  · rcases cP.1 M with h | h
    · exact aC.names j ej h ba m hm
    · subst h; rw [F] at ba; cases ba; exact nameI m hm
  · cases d5 : er (nx + i) e.d with
    | false =>
      have BL : e.ms = 2 ^ i - 1 := by
        have := x3 d5
        rw [<- bY]; omega
      have Id : ∀ k, k < i -> e.ms.testBit k = true := fun k u => by rw [BL, Nat.testBit_two_pow_sub_one]; simpa using u
      have dM : A' i = true := cK.bars i e (cP.2 (.inr rfl)) F d5
      have LE : ∀ k, k < i -> A' k = true := fun k u => cK.closed i e dM F k (Id k u)
      have sQ : ∀ k ek, i < k -> A' k = true -> bk D k = some ek -> ek.d = [] := fun k ek u h d7 => by
        rcases cP.1 (cK.sub k h) with h | h
        · rcases aT d5 k h with h | ⟨e2, E, h3⟩
          · omega
          · rw [d7] at E; cases E; exact h3
        · omega
      have vw : aL A' D h0 = aE e.d (aL e.ms.testBit bB h0) := by
        rw [vx (ab := A') (ad := fun k => A' k && decide (k <= i)) D (fun k ek d7 ay => by
          by_cases u : k <= i
          · simp [u]
          · cases h : A' k with
            | false => simp
            | true => exact absurd (sQ k ek (by omega) h d7) ay)]
        rw [h6 _ (by simp [dM]) (fun k u => by simp; omega), yf (ab := fun k => A' k && decide (k <= i)) (ad := e.ms.testBit) bB (fun k u => by rw [bY] at u; simp [LE k u, Id k u, show k <= i by omega])]
      have jd : C'.le ((C.next C' (nx + i)).at_ nx h0 D A') := by
        refine ⟨Nat.le_refl _, fun _ _ _ => rfl, fun _ _ h => h, fun m hm => ?_, fun m hm O => ?_, fun _ _ _ cs ty h => ⟨cs, ty, h, rfl⟩⟩
        · rcases (hp.kn m).1 hm with (h | ⟨k, u, h⟩) | h
          · exact .inl h
          · exact .inr ⟨k, LE k (pR k u), h⟩
          · exact .inr ⟨i, dM, h⟩
        · have bY : C'.live m := by
            refine (hp.heap.live m).2 ?_
            have : (ae (aL A' D h0) m).isSome = true := O
            rwa [vw] at this
          refine ⟨bY, ?_⟩
          simp only [Ctx.at_, Ctx.next]
          by_cases ay : m.1 = nx + i
          · rw [if_pos ay, if_pos ay]; exact ⟨rfl, rfl⟩
          · rw [if_neg ay, if_neg ay]
            have q := (hp.le.live m (((hp.kn m).1 hm).resolve_right ay) bY).2
            exact ⟨q.1.symm, q.2.symm⟩
      have live' : ∀ m, ((C.next C' (nx + i)).at_ nx h0 D A').live m ↔ C'.live m := fun m => by
        rw [hp.heap.live m, <- vw]; exact Iff.rfl
      refine ⟨?_, fun x => ?_, ?_⟩
      · rw [vw]
        exact hp.heap.mono jd live' (fun _ _ => rfl) (fun _ h _ => h)
      · by_cases hx : o.dst = some x
        · rw [aU.qi A' F (by rw [hs.dst]; exact hx), if_pos dM, putSelf x hx]
          exact hp.val.mono jd
        ·
          let ab : Nat -> Bool := fun j => A' j && !(j == i)
          have iY : ∀ j, ab j = true ↔ A' j = true /\ j ≠ i := fun j => by simp [ab]
          have hA : ew nx D L ab := by
            refine ⟨fun j M => ?_, fun j ej M ba k u => ?_, fun j ej M ba hf => (iY j).2 ⟨cK.bars j ej (cP.2 (.inl M)) ba hf, fun h => ?_⟩⟩
            · obtain ⟨A, E⟩ := (iY j).1 M
              exact (cP.1 (cK.sub j A)).resolve_right E
            · obtain ⟨A, E⟩ := (iY j).1 M
              refine (iY k).2 ⟨cK.closed j ej A ba k u, fun h => ?_⟩
              subst h
              rw [aC.closed j ej ((cP.1 (cK.sub j A)).resolve_right E) ba _ u] at cF; cases cF
            · subst h; rw [cF] at M; cases M
          obtain ⟨_, oT, _⟩ := aC.ok ab hA
          have sameH : aL ab D h0 = aL e.ms.testBit D h0 := vx D fun k ek d7 ay => by
            rcases Nat.lt_trichotomy k i with h | h | h
            · rw [Id k h]; exact (iY k).2 ⟨LE k h, by omega⟩
            · subst h; rw [mlt' k (Nat.le_refl _)]; simp [ab]
            · rw [mlt' k (by omega)]
              cases E : A' k with
              | false => simp [ab, E]
              | true => exact absurd (sQ k ek h E d7) ay
          have known : ∀ m, (C.at_ nx h0 D ab).kn m -> ((C.next C' (nx + i)).at_ nx h0 D A').live m -> (C.at_ nx h0 D e.ms.testBit).kn m := fun m hm O => by
            have bY := (live' m).1 O
            rcases (hp.kn m).1 (hp.heap.kn m bY) with h | h
            · exact h
            · exfalso
              rcases hm with g | ⟨k, u, g⟩
              · omega
              · have : k = i := by omega
                exact ((iY k).1 u).2 this
          have le : (C.at_ nx h0 D ab).le ((C.next C' (nx + i)).at_ nx h0 D A') := by
            refine ⟨hp.le.size, hp.le.same, hp.le.mt, fun m hm => ?_, fun m hm O => ?_, fun m hm O cs ty H => ?_⟩
            · rcases hm with h | ⟨k, u, h⟩
              · exact .inl h
              · exact .inr ⟨k, ((iY k).1 u).1, h⟩
            · have u := known m hm O
              obtain ⟨g1, g2⟩ := hp.le.live m u ((live' m).1 O)
              refine ⟨?_, ?_⟩
              · show (ae (aL ab D h0) m).isSome = true
                rw [sameH]; exact g1
              · simp only [Ctx.at_, Ctx.next]
                rw [if_neg (fun h => notKnown m h u), if_neg (fun h => notKnown m h u)]
                exact ⟨rfl, rfl⟩
            · exact hp.le.own m (known m hm O) ((live' m).1 O) cs ty H
          rw [putOther x hx, seeSlot A' ab (fun j M => by simp [ab, M]) x hx]
          exact (oT x).mono le
      · refine ko.of rfl rfl (ko.le.trans jd) fun m hm hb => ?_
        have nc := (live' m).1 hm
        rw [(jd.live m (hp.heap.kn m nc) hm).2.1] at hb ⊢
        exact ko.wr m nc hb
    | true =>
      have F1 : ∀ m ∈ e.d.map (·.1), m.1 = nx + i := Fs d5
      have blocks : ∀ b, b < C.w.heap.size -> C'.w.heap[b]? = C.w.heap[b]? := fun b hb => hp.same b hb fun m hm O => absurd (hH.kn m O) (notKnown m (F1 m hm))
      have tF : ∀ ab : Nat -> Bool, ew nx D L ab -> ∀ ad : Nat -> Bool, (∀ j, ad j = true -> ab j = true \/ j = i) -> (∀ j, ab j = true -> ad j = true) -> (∀ m : Nm, m.1 ≠ nx + i -> ae (aL ad D h0) m = ae (aL ab D h0) m) -> (C.at_ nx h0 D ab).le ((C.next C' (nx + i)).at_ nx h0 D ad) := by
        intro ab hA ad _ hAB ML
        refine ⟨hp.le.size, hp.le.same, hp.le.mt, fun m hm => ?_, fun m hm O => ?_, fun m hm _ cs ty H => ⟨cs, ty, ?_, rfl⟩⟩
        · rcases hm with h | ⟨k, u, h⟩
          · exact .inl h
          · exact .inr ⟨k, hAB k u, h⟩
        · have ay : m.1 ≠ nx + i := fun h => by
            rcases hm with g | ⟨k, u, g⟩
            · omega
            · have : k = i := by omega
              subst this
              rw [hA.sub k u] at cF; cases cF
          refine ⟨?_, ?_⟩
          · have : (ae (aL ad D h0) m).isSome = true := O
            rw [ML m ay] at this
            exact this
          · simp only [Ctx.at_, Ctx.next]; rw [if_neg ay, if_neg ay]; exact ⟨rfl, rfl⟩
        · have hb : C.ρ m < C.w.heap.size := by
            rcases Nat.lt_or_ge (C.ρ m) C.w.heap.size with E | E
            · exact E
            · have : C.w.heap[C.ρ m]? = some (.cells cs ty (0, 0)) := H
              rw [Array.getElem?_eq_none E] at this; cases this
          exact (blocks _ hb).trans H
      cases dM : A' i with
      | false =>
        have hA : ew nx D L A' := by
          refine ⟨fun j M => (cP.1 (cK.sub j M)).resolve_right fun h => ?_, cK.closed, fun j ej M => cK.bars j ej (cP.2 (.inl M))⟩
          subst h; rw [M] at dM; cases dM
        obtain ⟨oH, oT, oF⟩ := aC.ok A' hA
        have le := tF A' hA A' (fun j h => .inl h) (fun _ h => h) (fun _ _ => rfl)
        refine ⟨oH.mono le (fun _ => Iff.rfl) (fun m hm => blocks _ (oH.lt hm)) (fun b hb aT => (hp.mt b aT).2 hb), fun x => ?_, ?_⟩
        · by_cases hx : o.dst = some x
          · rw [aU.qi A' F (by rw [hs.dst]; exact hx), if_neg (by rw [dM]; simp)]
            trivial
          · rw [putOther x hx]
            exact (oT x).mono le
        · refine ko.of rfl rfl (oF.le.trans le) fun m hm hb => ?_
          rw [(le.live m (oH.kn m hm) hm).2.1] at hb ⊢
          exact oF.wr m hm hb
      | true =>
        let ab : Nat -> Bool := fun j => A' j && !(j == i)
        have iY : ∀ j, ab j = true ↔ A' j = true /\ j ≠ i := fun j => by simp [ab]
        have hA : ew nx D L ab := by
          refine ⟨fun j M => ?_, fun j ej M ba k u => ?_, fun j ej M ba hf => (iY j).2 ⟨cK.bars j ej (cP.2 (.inl M)) ba hf, fun h => ?_⟩⟩
          · obtain ⟨A, E⟩ := (iY j).1 M
            exact (cP.1 (cK.sub j A)).resolve_right E
          · obtain ⟨A, E⟩ := (iY j).1 M
            refine (iY k).2 ⟨cK.closed j ej A ba k u, fun h => ?_⟩
            subst h
            rw [aC.closed j ej ((cP.1 (cK.sub j A)).resolve_right E) ba _ u] at cF; cases cF
          · subst h; rw [cF] at M; cases M
        obtain ⟨oH, oT, oF⟩ := aC.ok ab hA
        have FY : ∀ k, e.ms.testBit k = true -> ab k = true := fun k u => (iY k).2 ⟨cK.closed i e dM F k u, fun h => by have := pR k u; omega⟩
        have seeOld : ∀ m : Nm, m.1 ≠ nx + i -> ae (aL A' D h0) m = ae (aL ab D h0) m := fun m hm => x5 D fun j ej ba pE => by
          by_cases dU : j = i
          · subst dU; rw [F] at ba; cases ba; exact absurd (F1 m pE) hm
          · simp [ab, dU]
        have seeNew' := seeNew A' dM cK.sub (fun k u => ((iY k).1 (FY k u)).1)
        have gm := tF ab hA A' (fun j h => by
          by_cases dU : j = i
          · exact .inr dU
          · exact .inl ((iY j).2 ⟨h, dU⟩)) (fun j h => ((iY j).1 h).1) seeOld
        have jd : C'.le ((C.next C' (nx + i)).at_ nx h0 D A') := by
          refine ⟨Nat.le_refl _, fun _ _ _ => rfl, fun _ _ h => h, fun m hm => ?_, fun m hm O => ?_, fun _ _ _ cs ty h => ⟨cs, ty, h, rfl⟩⟩
          · rcases (hp.kn m).1 hm with (h | ⟨k, u, h⟩) | h
            · exact .inl h
            · exact .inr ⟨k, ((iY k).1 (FY k u)).1, h⟩
            · exact .inr ⟨i, dM, h⟩
          · have eW : (ae (aL A' D h0) m).isSome = true := O
            by_cases ay : m.1 = nx + i
            · rw [seeNew' m ay] at eW
              refine ⟨(hp.heap.live m).2 eW, ?_⟩
              simp only [Ctx.at_, Ctx.next]; rw [if_pos ay, if_pos ay]; exact ⟨rfl, rfl⟩
            · have u := ((hp.kn m).1 hm).resolve_right ay
              have e1 : ae (aL ab D h0) m = ae (aL e.ms.testBit D h0) m := x5 D fun j ej ba pE => by
                cases jD : L j with
                | false =>
                  have A : ab j = false := by
                    cases h : ab j with
                    | false => rfl
                    | true => rw [hA.sub j h] at jD; cases jD
                  have E : e.ms.testBit j = false := by
                    cases h : e.ms.testBit j with
                    | false => rfl
                    | true => rw [cu j h] at jD; cases jD
                  rw [A, E]
                | true =>
                  cases vh : er (nx + j) ej.d with
                  | false => rw [hA.bars j ej jD ba vh, i2.bars j ej jD ba vh]
                  | true =>
                    have agA := Fs vh m pE
                    have xW : e.ms.testBit j = true := by
                      rcases u with h | ⟨k, u, h⟩
                      · omega
                      · have : k = j := by omega
                        subst this; exact u
                    rw [xW, FY j xW]
              have dP : (C.at_ nx h0 D e.ms.testBit).live m := by
                show (ae (aL e.ms.testBit D h0) m).isSome = true
                rw [<- e1, <- seeOld m ay]; exact eW
              have agx : (ae (aL e.ms.testBit bB h0) m).isSome = true := by
                rw [<- h5]; exact dP
              have bY : C'.live m := (hp.heap.live m).2 (by rw [gC _ _ _ (fun h => ay (F1 m h))]; exact agx)
              refine ⟨bY, ?_⟩
              simp only [Ctx.at_, Ctx.next]; rw [if_neg ay, if_neg ay]
              exact ⟨(hp.le.live m u bY).2.1.symm, (hp.le.live m u bY).2.2.symm⟩
        have newLive : ∀ m : Nm, m.1 = nx + i -> ((C.next C' (nx + i)).at_ nx h0 D A').live m -> C'.live m /\ ((C.next C' (nx + i)).at_ nx h0 D A').ρ m = C'.ρ m /\ ((C.next C' (nx + i)).at_ nx h0 D A').bs m = C'.bs m := fun m hm O => jd.live m ((hp.kn m).2 (.inr hm)) O
        have oldLive : ∀ m : Nm, m.1 ≠ nx + i -> ((C.next C' (nx + i)).at_ nx h0 D A').live m -> (C.at_ nx h0 D ab).live m /\ ((C.next C' (nx + i)).at_ nx h0 D A').ρ m = C.ρ m /\ ((C.next C' (nx + i)).at_ nx h0 D A').bs m = C.bs m := fun m hm O => by
          have eW : (ae (aL A' D h0) m).isSome = true := O
          rw [seeOld m hm] at eW
          exact ⟨eW, by simp only [Ctx.at_, Ctx.next]; rw [if_neg hm], by simp only [Ctx.at_, Ctx.next]; rw [if_neg hm]⟩
        have T0 : ∀ m : Nm, m.1 = nx + i -> C'.live m -> C.w.heap.size <= C'.ρ m := fun m hm O => by
          rcases hp.lM m O with ⟨A, _⟩ | A | ⟨m0, afH, A, _⟩
          · exact absurd (hH.kn m A) (notKnown m hm)
          · exact A
          · exact absurd (hH.kn m0 A) (notKnown m0 (F1 m0 afH))
        refine ⟨⟨fun m => Iff.rfl, fun m cs Z => ?_, fun m m' hm a1 dN => ?_, fun m hm => ?_, fun m hm => ?_⟩, fun x => ?_, ?_⟩
        · have dP : ((C.next C' (nx + i)).at_ nx h0 D A').live m := by show (ae (aL A' D h0) m).isSome = true; rw [Z]; rfl
          by_cases ay : m.1 = nx + i
          · rw [(newLive m ay dP).2.1, (newLive m ay dP).2.2]
            rw [seeNew' m ay] at Z
            obtain ⟨arr, ty, ha, H⟩ := hp.heap.obj m cs Z
            exact ⟨arr, ty, ha, fun j c M => by obtain ⟨v, R, co⟩ := H j c M; exact ⟨v, R, co.mono jd⟩⟩
          · rw [(oldLive m ay dP).2.1, (oldLive m ay dP).2.2]
            rw [seeOld m ay] at Z
            obtain ⟨arr, ty, ha, H⟩ := oH.obj m cs Z
            exact ⟨arr, ty, (blocks _ (oH.lt (oH.get Z))).trans ha, fun j c M => by obtain ⟨v, R, co⟩ := H j c M; exact ⟨v, R, co.mono gm⟩⟩
        · by_cases ay : m.1 = nx + i <;> by_cases BN : m'.1 = nx + i
          · obtain ⟨l1, r1, _⟩ := newLive m ay hm
            obtain ⟨l2, r2, _⟩ := newLive m' BN a1
            exact hp.heap.inj m m' l1 l2 (by rw [<- r1, <- r2]; exact dN)
          · obtain ⟨l1, r1, _⟩ := newLive m ay hm
            obtain ⟨l2, r2, _⟩ := oldLive m' BN a1
            have A := T0 m ay l1
            have E : C.ρ m' < C.w.heap.size := oH.lt l2
            rw [r1, r2] at dN; omega
          · obtain ⟨l1, r1, _⟩ := oldLive m ay hm
            obtain ⟨l2, r2, _⟩ := newLive m' BN a1
            have A := T0 m' BN l2
            have E : C.ρ m < C.w.heap.size := oH.lt l1
            rw [r1, r2] at dN; omega
          · obtain ⟨l1, r1, _⟩ := oldLive m ay hm
            obtain ⟨l2, r2, _⟩ := oldLive m' BN a1
            exact oH.inj m m' l1 l2 (by show C.ρ m = C.ρ m'; rw [<- r1, <- r2]; exact dN)
        · by_cases ay : m.1 = nx + i
          · obtain ⟨l1, r1, _⟩ := newLive m ay hm
            rw [r1]; exact hp.heap.mt m l1
          · obtain ⟨l1, r1, _⟩ := oldLive m ay hm
            rw [r1]; exact (hp.mt _ (oH.lt l1)).2 (oH.mt m l1)
        · by_cases ay : m.1 = nx + i
          · exact .inr ⟨i, dM, ay⟩
          · obtain ⟨l1, r1, _⟩ := oldLive m ay hm
            exact gm.kn m (oH.kn m l1)
        · by_cases hx : o.dst = some x
          · rw [aU.qi A' F (by rw [hs.dst]; exact hx), if_pos dM, putSelf x hx]
            exact hp.val.mono jd
          · rw [putOther x hx, seeSlot A' ab (fun j dU => by simp [ab, dU]) x hx]
            exact (oT x).mono gm
        · refine ko.of rfl rfl (ko.le.trans jd) fun m hm hb => ?_
          by_cases ay : m.1 = nx + i
          · obtain ⟨l1, r1, _⟩ := newLive m ay hm
            rw [r1] at hb ⊢; exact ko.wr m l1 hb
          · obtain ⟨l1, r1, _⟩ := oldLive m ay hm
            rw [r1] at hb ⊢; exact oF.wr m l1 hb
end
end Go.Proofs.Aw
namespace Go.Proofs.Aw
open Go
section
variable {P:Program} {ac:Env} {ops:List Oper} {nx:Nat} {t0:Tp} {h0:Hp} {D:List En}
theorem HR {a:Act} {d:Option Tmp} {Y:Value} {x:Nat} (hx:d≠some x):(a.put d Y).tmps.getD x undef=a.tmps.getD x undef:=by
 cases hd:d with
 | none=>simp[Act.put]
 | some gx =>
  have Mj:gx≠x:=fun h=>hx (by rw[hd,h])
  simp[Act.put,Array.getD_eq_getD_getElem?,Array.getElem?_setIfInBounds_ne Mj]
theorem Pv {a:Act} {d:Option Tmp} {Y:Value} {x:Nat} (hx:d=some x) (M:x<a.tmps.size):(a.put d Y).tmps.getD x undef=Y:=by
 rw[hx]
 simp[Act.put,Array.getD,M]
theorem eD.Qa {L:Nat->Bool} {C:Ctx} {a:Act} (_I:eD ac nx t0 h0 D L C a) {ab ad:Nat->Bool} (hA:ew nx D L ab) (hB:ew nx D L ad) {m:Nm} (u:m.1<nx\/∃k,(ab k=true/\ad k=true)/\m.1=nx+k):ae (aL ab D h0) m=ae (aL ad D h0) m :=
 x5 D fun j ej ba pE=>by
  cases jD:L j with
  | false =>
   have A:ab j=false:=by
    cases h:ab j with
    | false=>rfl
    | true=>rw[hA.sub j h]at jD;cases jD
   have E:ad j=false:=by
    cases h:ad j with
    | false=>rfl
    | true=>rw[hB.sub j h]at jD;cases jD
   rw[A,E]
  | true =>
   cases vh:er (nx+j) ej.d with
   | false=>rw[hA.bars j ej jD ba vh,hB.bars j ej jD ba vh]
   | true =>
    have agA:=Fs vh m pE
    rcases u with h | ⟨k,⟨bt,dV⟩,h⟩
    ·omega
    ·have:k=j:=by omega
     subst this;rw[bt,dV]
theorem ew.Rb {L:Nat->Bool} {C:Ctx} {a:Act} (aC:eD ac nx t0 h0 D L C a) {i:Nat} (cF:L i=false) {A':Nat->Bool} (cK:ew nx D (eF L i) A'):ew nx D L (fun j=>A' j && !(j==i)):=by
 have FK:∀j,(fun j=>A' j && !(j==i)) j=true↔A' j=true/\j≠i:=fun j=>by simp
 refine⟨fun j M => ?_,fun j ej M ba k u => ?_,fun j ej M ba hf=>(FK j).2 ⟨cK.bars j ej (cP.2 (.inl M)) ba hf,fun h => ?_⟩⟩
 ·obtain⟨A,E⟩:=(FK j).1 M
  exact(cP.1 (cK.sub j A)).resolve_right E
 ·obtain⟨A,E⟩:=(FK j).1 M
  refine(FK k).2 ⟨cK.closed j ej A ba k u,fun h => ?_⟩
  subst h
  rw[aC.closed j ej ((cP.1 (cK.sub j A)).resolve_right E) ba _ u]at cF;cases cF
 ·subst h;rw[cF]at M;cases M
theorem eD.ZD (aU:gq P ac ops nx t0 h0 D) {L:Nat->Bool} {C:Ctx} {a:Act} (aC:eD ac nx t0 h0 D L C a) {i:Nat} {e:En} {o:Oper} (F:bk D i=some e) (ho:ops[i]? = some o) (ku:e.dst=o.dst) (cF:L i=false)
  (cu:∀k,e.ms.testBit k=true->L k=true) (hd:e.d=[]) {ad:Nat->Bool} (hB:ew nx D L ad) (F3:∀A',ew nx D (eF L i) A'->A' i=true->∀k,ad k=true->A' k=true) {Y:Value} {C':Ctx}
  (hp:c8 (C.at_ nx h0 D ad) (nx+i) (aL ad D h0) e.r [] Y C'):eD ac nx t0 h0 D (eF L i) (C.next C' (nx+i)) (a.put o.dst Y):=by
 have hi:i<D.length:=n_ F
 obtain⟨hH,hT,km⟩:=aC.ok _ hB
 have ko:mP ac C':=km.step hp
 have Fz:ad i=false:=by
  cases h:ad i with
  | false=>rfl
  | true=>rw[hB.sub i h]at cF;cases cF
 have blocks:∀b,b<C.w.heap.size->C'.w.heap[b]? = C.w.heap[b]? := fun b hb=>hp.same b hb fun m hm=>by simp at hm
 have knB:∀m:Nm,m.1=nx+i->¬(C.at_ nx h0 D ad).kn m:=fun m hm h=>by
  rcases h with h | ⟨k,u,h⟩
  ·omega
  ·have:k=i:=by omega
   subst this;rw[Fz]at u;cases u
 refine⟨fun j M => ?_,fun j ej M ba k u => ?_,fun j ej M ba m hm => ?_,by rw[y3];exact aC.size,by rw[put_defers];exact aC.defers,fun A' cK => ?_⟩
 ·rcases cP.1 M with h | h
  ·exact aC.lt j h
  ·omega
 ·rcases cP.1 M with h | h
  ·exact cP.2 (.inl (aC.closed j ej h ba k u))
  ·subst h;rw[F]at ba;cases ba;exact cP.2 (.inl (cu k u))
 ·rcases cP.1 M with h | h
  ·exact aC.names j ej h ba m hm
  ·subst h;rw[F]at ba;cases ba;rw[hd]at hm;simp at hm
 ·
  let ab:Nat->Bool:=fun j=>A' j && !(j==i)
  have hA:ew nx D L ab:=ew.Rb aC cF cK
  obtain⟨oH,oT,oF⟩:=aC.ok ab hA
  have rY:∀m:Nm,ae (aL A' D h0) m=ae (aL ab D h0) m:=fun m=>x5 D fun j ej ba pE=>by
   by_cases dU:j=i
   ·subst dU;rw[F]at ba;cases ba;rw[hd]at pE;simp at pE
   ·simp[ab,dU]
  have notI:∀m:Nm,(C.at_ nx h0 D ab).live m->m.1≠nx+i:=fun m hm h=>by
   rcases oH.kn m hm with g | ⟨k,u,g⟩
   ·omega
   ·have:k=i:=by omega
    subst this
    simp[ab]at u
  have live':∀m,((C.next C' (nx+i)).at_ nx h0 D A').live m↔(C.at_ nx h0 D ab).live m:=fun m=>by
   show(ae (aL A' D h0) m).isSome=true↔(ae (aL ab D h0) m).isSome=true
   rw[rY m]
  have G:∀m,(C.at_ nx h0 D ab).live m->((C.next C' (nx+i)).at_ nx h0 D A').ρ m=C.ρ m:=fun m hm=>by
   simp only[Ctx.at_,Ctx.next];rw[if_neg (notI m hm)]
  have mb:∀m,(C.at_ nx h0 D ab).live m->((C.next C' (nx+i)).at_ nx h0 D A').bs m=C.bs m:=fun m hm=>by
   simp only[Ctx.at_,Ctx.next];rw[if_neg (notI m hm)]
  have gm:(C.at_ nx h0 D ab).le ((C.next C' (nx+i)).at_ nx h0 D A'):=by
   refine⟨hp.le.size,hp.le.same,hp.le.mt,fun m hm => ?_,fun m hm O=>⟨(live' m).1 O,G m ((live' m).1 O),mb m ((live' m).1 O)⟩,fun m hm _ cs ty H=>⟨cs,ty,?_,rfl⟩⟩
   ·rcases hm with h | ⟨k,u,h⟩
    ·exact .inl h
    ·exact .inr ⟨k,by simp[ab]at u;exact u.1,h⟩
   ·have hb:C.ρ m<C.w.heap.size:=by
     rcases Nat.lt_or_ge (C.ρ m) C.w.heap.size with E | E
     ·exact E
     ·have:C.w.heap[C.ρ m]? = some (.cells cs ty (0,0)):=H
      rw[Array.getElem?_eq_none E]at this;cases this
    exact(blocks _ hb).trans H
  by_cases dM:A' i=true
  ·have UI:=F3 A' cK dM
   have afN:∀k,ad k=true->ab k=true:=fun k u=>by
    have oj:k≠i:=fun h=>by subst h;rw[Fz]at u;cases u
    simp[ab,UI k u,oj]
   have jd:C'.le ((C.next C' (nx+i)).at_ nx h0 D A'):=by
    refine⟨Nat.le_refl _,fun _ _ _=>rfl,fun _ _ h=>h,fun m hm => ?_,fun m hm O => ?_,fun _ _ _ cs ty h=>⟨cs,ty,h,rfl⟩⟩
    ·rcases(hp.kn m).1 hm with(h | ⟨k,u,h⟩) | h
     ·exact .inl h
     ·exact .inr ⟨k,UI k u,h⟩
     ·exact .inr ⟨i,dM,h⟩
    ·have eW:=(live' m).1 O
     have ay:=notI m eW
     have u:=((hp.kn m).1 hm).resolve_right ay
     have e1:ae (aL ab D h0) m=ae (aL ad D h0) m:=aC.Qa hA hB (by
      rcases u with h | ⟨k,u,h⟩
      ·exact .inl h
      ·exact .inr ⟨k,⟨afN k u,u⟩,h⟩)
     have dP:C'.live m:=(hp.heap.live m).2 (by
      have:(ae (aL ab D h0) m).isSome=true:=eW
      rw[e1]at this;exact this)
     exact⟨dP,by rw[G m eW];exact((hp.le.live m u dP).2.1).symm,by rw[mb m eW];exact((hp.le.live m u dP).2.2).symm⟩
   refine⟨⟨fun m=>Iff.rfl,fun m cs Z => ?_,fun m m' hm a1 dN => ?_,fun m hm => ?_,fun m hm => ?_⟩,fun x => ?_,?_⟩
   ·rw[rY m]at Z
    rw[G m (oH.get Z),mb m (oH.get Z)]
    obtain⟨arr,ty,ha,H⟩:=oH.obj m cs Z
    exact⟨arr,ty,(blocks _ (oH.lt (oH.get Z))).trans ha,fun j c M=>by obtain⟨v,R,co⟩:=H j c M;exact⟨v,R,co.mono gm⟩⟩
   ·have l1:=(live' m).1 hm
    have l2:=(live' m').1 a1
    rw[G m l1,G m' l2]at dN
    exact oH.inj m m' l1 l2 dN
   ·have l1:=(live' m).1 hm
    rw[G m l1]
    exact(hp.mt _ (oH.lt l1)).2 (oH.mt m l1)
   ·exact gm.kn m (oH.kn m ((live' m).1 hm))
   ·by_cases hx:o.dst=some x
    ·rw[aU.qi A' F (by rw[ku];exact hx),if_pos dM,Pv hx (by rw[aC.size];exact Fo aU.fits ho x hx)]
     exact hp.val.mono jd
    ·rw[HR hx,aU.DA (ab:=A') (ad:=ab) (fun j ej ba ve=>by
      by_cases dU:j=i
      ·subst dU;rw[F]at ba;cases ba;exact absurd (by rw[<-ku];exact ve) hx
      ·simp[ab,dU])]
     exact(oT x).mono gm
   ·refine ko.of rfl rfl (oF.le.trans gm) fun m hm hb => ?_
    have l1:=(live' m).1 hm
    rw[G m l1]at hb ⊢
    exact oF.wr m l1 hb
  ·have av2:A' i=false:=by simpa using dM
   refine⟨⟨fun m=>Iff.rfl,fun m cs Z => ?_,fun m m' hm a1 dN => ?_,fun m hm => ?_,fun m hm => ?_⟩,fun x => ?_,?_⟩
   ·rw[rY m]at Z
    rw[G m (oH.get Z),mb m (oH.get Z)]
    obtain⟨arr,ty,ha,H⟩:=oH.obj m cs Z
    exact⟨arr,ty,(blocks _ (oH.lt (oH.get Z))).trans ha,fun j c M=>by obtain⟨v,R,co⟩:=H j c M;exact⟨v,R,co.mono gm⟩⟩
   ·have l1:=(live' m).1 hm
    have l2:=(live' m').1 a1
    rw[G m l1,G m' l2]at dN
    exact oH.inj m m' l1 l2 dN
   ·have l1:=(live' m).1 hm
    rw[G m l1]
    exact(hp.mt _ (oH.lt l1)).2 (oH.mt m l1)
   ·exact gm.kn m (oH.kn m ((live' m).1 hm))
   ·by_cases hx:o.dst=some x
    ·rw[aU.qi A' F (by rw[ku];exact hx),if_neg dM]
     simp only[ak]
    ·rw[HR hx,aU.DA (ab:=A') (ad:=ab) (fun j ej ba ve=>by
      by_cases dU:j=i
      ·subst dU;rw[F]at ba;cases ba;exact absurd (by rw[<-ku];exact ve) hx
      ·simp[ab,dU])]
     exact(oT x).mono gm
   ·refine ko.of rfl rfl (oF.le.trans gm) fun m hm hb => ?_
    have l1:=(live' m).1 hm
    rw[G m l1]at hb ⊢
    exact oF.wr m l1 hb
theorem UU:∀(d:Dl),(∀p∈d,p.2.isSome=true)->∀(h:Hp) (m:Nm),m∈d.map (·.1)->(ae (aE d h) m).isSome=true
 | [],_,_,m,hm=>by simp at hm
 | (k,none)::d,hd,_,_,_=>by have:=hd (k,none) List.mem_cons_self;cases this
 | (k,some v)::d,hd,h,m,hm=>by
  simp only[aE]
  by_cases c:m∈d.map (·.1)
  ·exact UU d (fun p hp=>hd p (List.mem_cons_of_mem _ hp)) _ m c
  ·have u:k=m:=by
    simp only[List.map_cons,List.mem_cons]at hm
    rcases hm with A | A
    ·exact A.symm
    ·exact absurd A c
   rw[gC d _ _ c,dO,if_pos u];rfl
theorem eD.arC (aU:gq P ac ops nx t0 h0 D) {L:Nat->Bool} {C:Ctx} {a:Act} (aC:eD ac nx t0 h0 D L C a) {i:Nat} {e:En} {o:Oper} (F:bk D i=some e) (ho:ops[i]? = some o) (ku:e.dst=o.dst) (cF:L i=false)
  (cu:∀k,e.ms.testBit k=true->L k=true) (hd:∀p∈e.d,p.2.isSome=true/\p.1.1≠nx+i) (d5:er (nx+i) e.d=false) (aT:∀k,L k=true->k<i\/∃ek,bk D k=some ek/\ek.d=[]) {bB:List En}
  (h6:∀ab:Nat->Bool,ab i=true->(∀k,i<k->ab k=false)->aL ab D h0=aE e.d (aL ab bB h0)) (h5:∀ab:Nat->Bool,(∀k,i<=k->ab k=false)->aL ab D h0=aL ab bB h0) (bY:bB.length=i)
  (i2:ew nx D L e.ms.testBit) {Y:Value} {C':Ctx} (hp:c8 (C.at_ nx h0 D e.ms.testBit) (nx+i) (aL e.ms.testBit D h0) e.r e.d Y C'):eD ac nx t0 h0 D (eF L i) (C.next C' (nx+i)) (a.put o.dst Y):=by
 have hi:i<D.length:=n_ F
 obtain⟨hH,hT,km⟩:=aC.ok _ i2
 have ko:mP ac C':=km.step hp
 have FX:∀m,m∈e.d.map (·.1)->m.1≠nx+i:=fun m hm=>by
  obtain⟨p,hp,rfl⟩:=List.mem_map.1 hm
  exact(hd p hp).2
 have BK:∀m,m∈e.d.map (·.1)->(C.at_ nx h0 D e.ms.testBit).live m:=fun m hm=>by
  rcases hp.names m hm with h | h
  ·exact h
  ·exact absurd h (FX m hm)
 have s5:=fun m hm=>hH.kn m (BK m hm)
 have d9:∀(h:Hp) m,m∈e.d.map (·.1)->(ae (aE e.d h) m).isSome=true:=fun h m hm=>UU _ (fun p hp=>(hd p hp).1) h m hm
 have My:∀m,m∈e.d.map (·.1)->C'.live m:=fun m hm=>(hp.heap.live m).2 (d9 _ m hm)
 have agN:∀m,m∈e.d.map (·.1)->C'.ρ m=C.ρ m:=fun m hm=>(hp.le.live m (s5 m hm) (My m hm)).2.1
 have af3:∀m,m∈e.d.map (·.1)->C'.bs m=C.bs m:=fun m hm=>(hp.le.live m (s5 m hm) (My m hm)).2.2
 have blocks:∀b,b<C.w.heap.size->(∀m,m∈e.d.map (·.1)->b≠C.ρ m)->C'.w.heap[b]? = C.w.heap[b]? := fun b hb ay=>hp.same b hb fun m hm _=>ay m hm
 refine⟨fun j M => ?_,fun j ej M ba k u => ?_,fun j ej M ba m hm => ?_,by rw[y3];exact aC.size,by rw[put_defers];exact aC.defers,fun A' cK => ?_⟩
 ·rcases cP.1 M with h | h
  ·exact aC.lt j h
  ·omega
 ·rcases cP.1 M with h | h
  ·exact cP.2 (.inl (aC.closed j ej h ba k u))
  ·subst h;rw[F]at ba;cases ba;exact cP.2 (.inl (cu k u))
 ·rcases cP.1 M with h | h
  ·exact aC.names j ej h ba m hm
  ·subst h;rw[F]at ba;cases ba
   rcases s5 m hm with h | ⟨k,u,h⟩
   ·exact .inl h
   ·exact .inr ⟨k,.inr u,h⟩
 ·have dM:A' i=true:=cK.bars i e (cP.2 (.inr rfl)) F d5
  let ab:Nat->Bool:=fun j=>A' j && !(j==i)
  have hA:ew nx D L ab:=ew.Rb aC cF cK
  obtain⟨oH,oT,oF⟩:=aC.ok ab hA
  have sQ:∀k ek,i<k->A' k=true->bk D k=some ek->ek.d=[]:=fun k ek u h d7=>by
   rcases cP.1 (cK.sub k h)with h | h
   ·rcases aT k h with h | ⟨e2,E,h3⟩
    ·omega
    ·rw[d7]at E;cases E;exact h3
   ·omega
  have vw:aL A' D h0=aE e.d (aL ab D h0):=by
   have e1:aL A' D h0=aL (fun k=>A' k&&decide (k<=i)) D h0:=vx D fun k ek d7 ay=>by
    by_cases u:k<=i
    ·simp[u]
    ·cases h:A' k with
     | false=>simp
     | true=>exact absurd (sQ k ek (by omega) h d7) ay
   have e2:aL ab D h0=aL (fun k=>ab k&&decide (k<=i)) D h0:=vx D fun k ek d7 ay=>by
    by_cases u:k<=i
    ·simp[u]
    ·cases h:A' k with
     | false=>simp[ab,h]
     | true=>exact absurd (sQ k ek (by omega) h d7) ay
   rw[e1,e2,h6 _ (by simp[dM]) (fun k u=>by simp;omega),h5 (fun k=>ab k&&decide (k<=i)) (fun k u=>by
    rcases Nat.lt_or_eq_of_le u with h | h
    ·simp;omega
    ·subst h;simp[ab])]
   congr 1
   exact yf bB fun j M=>by
    rw[bY]at M
    simp[ab,Nat.ne_of_lt M,Nat.le_of_lt M]
  have rY:∀m:Nm,ae (aL A' D h0) m=ae (aE e.d (aL ab D h0)) m:=fun m=>by rw[vw]
  have NE:∀k,e.ms.testBit k=true->ab k=true:=fun k u=>by
   have A:=cK.closed i e dM F k u
   have oj:k≠i:=fun h=>by subst h;rw[cu _ u]at cF;cases cF
   simp[ab,A,oj]
  have alike:∀m:Nm,(C.at_ nx h0 D e.ms.testBit).kn m->ae (aL ab D h0) m=ae (aL e.ms.testBit D h0) m:=fun m u=>aC.Qa hA i2 (by
   rcases u with h | ⟨k,u,h⟩
   ·exact .inl h
   ·exact .inr ⟨k,⟨NE k u,u⟩,h⟩)
  have sZ:∀m,m∈e.d.map (·.1)->(C.at_ nx h0 D ab).live m:=fun m hm=>by
   show(ae (aL ab D h0) m).isSome=true
   rw[alike m (s5 m hm)];exact BK m hm
  have notI:∀m:Nm,(C.at_ nx h0 D ab).live m->m.1≠nx+i:=fun m hm h=>by
   rcases oH.kn m hm with g | ⟨k,u,g⟩
   ·omega
   ·have:k=i:=by omega
    subst this
    simp[ab]at u
  have live':∀m,((C.next C' (nx+i)).at_ nx h0 D A').live m↔(C.at_ nx h0 D ab).live m:=fun m=>by
   show(ae (aL A' D h0) m).isSome=true↔(ae (aL ab D h0) m).isSome=true
   rw[rY m]
   rcases na m e.d (aL ab D h0)with⟨hm,_⟩ | ⟨_,h⟩
   ·exact⟨fun _=>sZ m hm,fun _=>d9 _ m hm⟩
   ·rw[h]
  have G:∀m,(C.at_ nx h0 D ab).live m->((C.next C' (nx+i)).at_ nx h0 D A').ρ m=C.ρ m:=fun m hm=>by
   simp only[Ctx.at_,Ctx.next];rw[if_neg (notI m hm)]
  have mb:∀m,(C.at_ nx h0 D ab).live m->((C.next C' (nx+i)).at_ nx h0 D A').bs m=C.bs m:=fun m hm=>by
   simp only[Ctx.at_,Ctx.next];rw[if_neg (notI m hm)]
  have g_:∀{b:Nat} {cs:Array Value} {ty:TypeId},C.w.heap[b]? = some (.cells cs ty (0,0))->b<C.w.heap.size:=fun {b cs ty} H=>by
   rcases Nat.lt_or_ge b C.w.heap.size with E | E
   ·exact E
   ·rw[Array.getElem?_eq_none E]at H;cases H
  have gm:(C.at_ nx h0 D ab).le ((C.next C' (nx+i)).at_ nx h0 D A'):=by
   refine⟨hp.le.size,hp.le.same,hp.le.mt,fun m hm => ?_,fun m hm O=>⟨(live' m).1 O,G m ((live' m).1 O),mb m ((live' m).1 O)⟩,fun m hm _ cs ty H => ?_⟩
   ·rcases hm with h | ⟨k,u,h⟩
    ·exact .inl h
    ·exact .inr ⟨k,by simp[ab]at u;exact u.1,h⟩
   ·have dH:C.w.heap[C.ρ m]? = some (.cells cs ty (0,0)):=H
    by_cases ls:∃m0,m0∈e.d.map (·.1)/\C.ρ m=C.ρ m0
    ·obtain⟨m0,mm,ls⟩:=ls
     have:=hp.le.own m0 (s5 m0 mm) (My m0 mm) cs ty (show C.w.heap[C.ρ m0]? = some (.cells cs ty (0,0))from by rw[<-ls];exact dH)
     obtain⟨bi,ty',A,E⟩:=this
     exact⟨bi,ty',by show C'.w.heap[C.ρ m]? = _;rw[ls];exact A,E⟩
    ·exact⟨cs,ty,(blocks _ (g_ dH) fun m0 mm h=>ls ⟨m0,mm,h⟩).trans dH,rfl⟩
  have jd:C'.le ((C.next C' (nx+i)).at_ nx h0 D A'):=by
   refine⟨Nat.le_refl _,fun _ _ _=>rfl,fun _ _ h=>h,fun m hm => ?_,fun m hm O => ?_,fun _ _ _ cs ty h=>⟨cs,ty,h,rfl⟩⟩
   ·rcases(hp.kn m).1 hm with(h | ⟨k,u,h⟩) | h
    ·exact .inl h
    ·exact .inr ⟨k,cK.closed i e dM F k u,h⟩
    ·exact .inr ⟨i,dM,h⟩
   ·have eW:=(live' m).1 O
    have ay:=notI m eW
    have u:=((hp.kn m).1 hm).resolve_right ay
    have dP:C'.live m:=(hp.heap.live m).2 (by
     have A:(ae (aL ab D h0) m).isSome=true:=eW
     rw[alike m u]at A
     rcases na m e.d (aL e.ms.testBit D h0)with⟨hm,_⟩ | ⟨_,h⟩
     ·exact d9 _ m hm
     ·rw[h];exact A)
    exact⟨dP,by rw[G m eW];exact((hp.le.live m u dP).2.1).symm,by rw[mb m eW];exact((hp.le.live m u dP).2.2).symm⟩
  refine⟨⟨fun m=>Iff.rfl,fun m cs Z => ?_,fun m m' hm a1 dN => ?_,fun m hm => ?_,fun m hm => ?_⟩,fun x => ?_,?_⟩
  ·rw[rY m]at Z
   rcases na m e.d (aL ab D h0)with⟨hm,ago⟩ | ⟨h,ng⟩
   ·rw[G m (sZ m hm),<-agN m hm,mb m (sZ m hm),<-af3 m hm]
    obtain⟨arr,ty,ha,H⟩:=hp.heap.obj m cs (by rw[<-Z];exact(ago _).symm)
    exact⟨arr,ty,ha,fun j c M=>by obtain⟨v,R,co⟩:=H j c M;exact⟨v,R,co.mono jd⟩⟩
   ·rw[ng]at Z
    have nc:=oH.get Z
    rw[G m nc,mb m nc]
    obtain⟨arr,ty,ha,H⟩:=oH.obj m cs Z
    have xX:∀m0,m0∈e.d.map (·.1)->C.ρ m≠C.ρ m0:=fun m0 mm W=>h (by rw[oH.inj m m0 nc (sZ m0 mm) W];exact mm)
    exact⟨arr,ty,(blocks _ (oH.lt nc) xX).trans ha,fun j c M=>by obtain⟨v,R,co⟩:=H j c M;exact⟨v,R,co.mono gm⟩⟩
  ·have l1:=(live' m).1 hm
   have l2:=(live' m').1 a1
   rw[G m l1,G m' l2]at dN
   exact oH.inj m m' l1 l2 dN
  ·have l1:=(live' m).1 hm
   rw[G m l1]
   exact(hp.mt _ (oH.lt l1)).2 (oH.mt m l1)
  ·exact gm.kn m (oH.kn m ((live' m).1 hm))
  ·by_cases hx:o.dst=some x
   ·rw[aU.qi A' F (by rw[ku];exact hx),if_pos dM,Pv hx (by rw[aC.size];exact Fo aU.fits ho x hx)]
    exact hp.val.mono jd
   ·rw[HR hx,aU.DA (ab:=A') (ad:=ab) (fun j ej ba ve=>by
     by_cases dU:j=i
     ·subst dU;rw[F]at ba;cases ba;exact absurd (by rw[<-ku];exact ve) hx
     ·simp[ab,dU])]
    exact(oT x).mono gm
  ·refine ko.of rfl rfl (oF.le.trans gm) fun m hm hb => ?_
   have l1:=(live' m).1 hm
   rw[G m l1]at hb ⊢
   exact oF.wr m l1 hb
end
end Go.Proofs.Aw
namespace Go.Proofs.Aw
open Go
section
variable {P:Program} {ac:Env} {ops:List Oper} {nx:Nat} {t0:Tp} {h0:Hp} {D:List En}
theorem eD.arz (aU:gq P ac ops nx t0 h0 D) {L:Nat->Bool} {C:Ctx} {a:Act} (aC:eD ac nx t0 h0 D L C a) {i:Nat} {e:En} {o:Oper} (F:bk D i=some e) (ho:ops[i]? = some o) (ku:e.dst=o.dst) (cF:L i=false)
  (cu:∀k,e.ms.testBit k=true->L k=true) {m0 q:Nm} {KG:List AV} (hd:e.d=[(m0,none),(q,some KG)]) (FX:m0.1≠nx+i) (vt:q.1=nx+i) (d5:er (nx+i) e.d=false) (aT:∀k,L k=true->k<i\/∃ek,bk D k=some ek/\ek.d=[]) {bB:List En}
  (h6:∀ab:Nat->Bool,ab i=true->(∀k,i<k->ab k=false)->aL ab D h0=aE e.d (aL ab bB h0)) (h5:∀ab:Nat->Bool,(∀k,i<=k->ab k=false)->aL ab D h0=aL ab bB h0) (bY:bB.length=i)
  (i2:ew nx D L e.ms.testBit) {Y:Value} {C':Ctx} (hp:c8 (C.at_ nx h0 D e.ms.testBit) (nx+i) (aL e.ms.testBit D h0) e.r e.d Y C'):eD ac nx t0 h0 D (eF L i) (C.next C' (nx+i)) (a.put o.dst Y):=by
 have hi:i<D.length:=n_ F
 obtain⟨hH,hT,km⟩:=aC.ok _ i2
 have ko:mP ac C':=km.step hp
 have hqm:q≠m0:=fun h=>FX (by rw[<-h];exact vt)
 have BK:(C.at_ nx h0 D e.ms.testBit).live m0:=by
  rcases hp.names m0 (by rw[hd];simp)with h | h
  ·exact h
  ·exact absurd h FX
 have s5:=hH.kn m0 BK
 have h2:C'.live q:=(hp.heap.live q).2 (by rw[hd];simp[aE,dO])
 have MG:¬(C.at_ nx h0 D e.ms.testBit).live q:=fun h=>by
  rcases hH.kn q h with g | ⟨k,u,g⟩
  ·omega
  ·have:k=i:=by omega
   subst this
   rw[cu _ u]at cF;cases cF
 have blocks:∀b,b<C.w.heap.size->b≠C.ρ m0->C'.w.heap[b]? = C.w.heap[b]? := fun b hb ay=>hp.same b hb fun m hm s6=>by
  rw[hd]at hm
  simp at hm
  rcases hm with rfl | rfl
  ·exact ay
  ·exact absurd s6 MG
 refine⟨fun j M => ?_,fun j ej M ba k u => ?_,fun j ej M ba m hm => ?_,by rw[y3];exact aC.size,by rw[put_defers];exact aC.defers,fun A' cK => ?_⟩
 ·rcases cP.1 M with h | h
  ·exact aC.lt j h
  ·omega
 ·rcases cP.1 M with h | h
  ·exact cP.2 (.inl (aC.closed j ej h ba k u))
  ·subst h;rw[F]at ba;cases ba;exact cP.2 (.inl (cu k u))
 ·rcases cP.1 M with h | h
  ·exact aC.names j ej h ba m hm
  ·subst h;rw[F]at ba;cases ba
   rw[hd]at hm
   simp at hm
   rcases hm with rfl | rfl
   ·rcases s5 with h | ⟨k,u,h⟩
    ·exact .inl h
    ·exact .inr ⟨k,.inr u,h⟩
   ·exact .inr ⟨_,.inl rfl,vt⟩
 ·have dM:A' i=true:=cK.bars i e (cP.2 (.inr rfl)) F d5
  let ab:Nat->Bool:=fun j=>A' j && !(j==i)
  have hA:ew nx D L ab:=ew.Rb aC cF cK
  obtain⟨oH,oT,oF⟩:=aC.ok ab hA
  have sQ:∀k ek,i<k->A' k=true->bk D k=some ek->ek.d=[]:=fun k ek u h d7=>by
   rcases cP.1 (cK.sub k h)with h | h
   ·rcases aT k h with h | ⟨e2,E,h3⟩
    ·omega
    ·rw[d7]at E;cases E;exact h3
   ·omega
  have vw:aL A' D h0=aE e.d (aL ab D h0):=by
   have e1:aL A' D h0=aL (fun k=>A' k&&decide (k<=i)) D h0:=vx D fun k ek d7 ay=>by
    by_cases u:k<=i
    ·simp[u]
    ·cases h:A' k with
     | false=>simp
     | true=>exact absurd (sQ k ek (by omega) h d7) ay
   have e2:aL ab D h0=aL (fun k=>ab k&&decide (k<=i)) D h0:=vx D fun k ek d7 ay=>by
    by_cases u:k<=i
    ·simp[u]
    ·cases h:A' k with
     | false=>simp[ab,h]
     | true=>exact absurd (sQ k ek (by omega) h d7) ay
   rw[e1,e2,h6 _ (by simp[dM]) (fun k u=>by simp;omega),h5 (fun k=>ab k&&decide (k<=i)) (fun k u=>by
    rcases Nat.lt_or_eq_of_le u with h | h
    ·simp;omega
    ·subst h;simp[ab])]
   congr 1
   exact yf bB fun j M=>by
    rw[bY]at M
    simp[ab,Nat.ne_of_lt M,Nat.le_of_lt M]
  have rY:∀m:Nm,ae (aL A' D h0) m=if q=m then some KG else if m0=m then none else ae (aL ab D h0) m:=fun m=>by
   rw[vw,hd]
   simp only[aE,dO,vm]
  have NE:∀k,e.ms.testBit k=true->ab k=true:=fun k u=>by
   have A:=cK.closed i e dM F k u
   have oj:k≠i:=fun h=>by subst h;rw[cu _ u]at cF;cases cF
   simp[ab,A,oj]
  have alike:∀m:Nm,(C.at_ nx h0 D e.ms.testBit).kn m->ae (aL ab D h0) m=ae (aL e.ms.testBit D h0) m:=fun m u=>aC.Qa hA i2 (by
   rcases u with h | ⟨k,u,h⟩
   ·exact .inl h
   ·exact .inr ⟨k,⟨NE k u,u⟩,h⟩)
  have sZ:(C.at_ nx h0 D ab).live m0:=by
   show(ae (aL ab D h0) m0).isSome=true
   rw[alike m0 s5];exact BK
  have notI:∀m:Nm,(C.at_ nx h0 D ab).kn m->m.1≠nx+i:=fun m hm h=>by
   rcases hm with g | ⟨k,u,g⟩
   ·omega
   ·have:k=i:=by omega
    subst this
    simp[ab]at u
  have live':∀m,((C.next C' (nx+i)).at_ nx h0 D A').live m↔m=q\/(m≠m0/\(C.at_ nx h0 D ab).live m):=fun m=>by
   show(ae (aL A' D h0) m).isSome=true↔_\/(_/\(ae (aL ab D h0) m).isSome=true)
   rw[rY m]
   by_cases A:q=m
   ·subst A;simp
   ·rw[if_neg A]
    by_cases E:m0=m
    ·subst E;simp[Ne.symm A]
    ·rw[if_neg E];simp[Ne.symm A,Ne.symm E]
  have G:∀m,(C.at_ nx h0 D ab).kn m->((C.next C' (nx+i)).at_ nx h0 D A').ρ m=C.ρ m:=fun m hm=>by
   simp only[Ctx.at_,Ctx.next];rw[if_neg (notI m hm)]
  have zT:((C.next C' (nx+i)).at_ nx h0 D A').ρ q=C'.ρ q:=by
   simp only[Ctx.at_,Ctx.next];rw[if_pos vt]
  have mb:∀m,(C.at_ nx h0 D ab).kn m->((C.next C' (nx+i)).at_ nx h0 D A').bs m=C.bs m:=fun m hm=>by
   simp only[Ctx.at_,Ctx.next];rw[if_neg (notI m hm)]
  have Sv:((C.next C' (nx+i)).at_ nx h0 D A').bs q=C'.bs q:=by
   simp only[Ctx.at_,Ctx.next];rw[if_pos vt]
  have g_:∀{b:Nat} {cs:Array Value} {ty:TypeId},C.w.heap[b]? = some (.cells cs ty (0,0))->b<C.w.heap.size:=fun {b cs ty} H=>by
   rcases Nat.lt_or_ge b C.w.heap.size with E | E
   ·exact E
   ·rw[Array.getElem?_eq_none E]at H;cases H
  have gm:(C.at_ nx h0 D ab).le ((C.next C' (nx+i)).at_ nx h0 D A'):=by
   have tF:∀m,(C.at_ nx h0 D ab).kn m->((C.next C' (nx+i)).at_ nx h0 D A').live m->m≠m0/\(C.at_ nx h0 D ab).live m:=fun m hm O=>by
    rcases(live' m).1 O with rfl | h
    ·exact absurd vt (notI _ hm)
    ·exact h
   refine⟨hp.le.size,hp.le.same,hp.le.mt,fun m hm => ?_,fun m hm O=>⟨(tF m hm O).2,G m hm,mb m hm⟩,fun m hm O cs ty H => ?_⟩
   ·rcases hm with h | ⟨k,u,h⟩
    ·exact .inl h
    ·exact .inr ⟨k,by simp[ab]at u;exact u.1,h⟩
   ·have dH:C.w.heap[C.ρ m]? = some (.cells cs ty (0,0)):=H
    obtain⟨ay,s6⟩:=tF m hm O
    have ls:C.ρ m≠C.ρ m0:=fun W=>ay (oH.inj m m0 s6 sZ W)
    exact⟨cs,ty,(blocks _ (g_ dH) ls).trans dH,rfl⟩
  have jd:C'.le ((C.next C' (nx+i)).at_ nx h0 D A'):=by
   refine⟨Nat.le_refl _,fun _ _ _=>rfl,fun _ _ h=>h,fun m hm => ?_,fun m hm O => ?_,fun _ _ _ cs ty h=>⟨cs,ty,h,rfl⟩⟩
   ·rcases(hp.kn m).1 hm with(h | ⟨k,u,h⟩) | h
    ·exact .inl h
    ·exact .inr ⟨k,cK.closed i e dM F k u,h⟩
    ·exact .inr ⟨i,dM,h⟩
   ·rcases(live' m).1 O with rfl | ⟨ay,eW⟩
    ·exact⟨h2,zT,Sv⟩
    ·have Ms:=oH.kn m eW
     have Vj:=notI m Ms
     have u:=((hp.kn m).1 hm).resolve_right Vj
     have dP:C'.live m:=(hp.heap.live m).2 (by
      have A:(ae (aL ab D h0) m).isSome=true:=eW
      rw[alike m u]at A
      rw[hd]
      simp only[aE,dO,vm]
      rw[if_neg (fun h=>Vj (by rw[<-h];exact vt)),if_neg (Ne.symm ay)]
      exact A)
     exact⟨dP,by rw[G m Ms];exact((hp.le.live m u dP).2.1).symm,by rw[mb m Ms];exact((hp.le.live m u dP).2.2).symm⟩
  have apart:∀m,m≠m0->(C.at_ nx h0 D ab).live m->C'.ρ q≠C.ρ m:=fun m ay s6 dN=>by
   rcases hp.lM q h2 with⟨h,_⟩ | h | ⟨m1,dI,sW,h⟩
   ·exact MG h
   ·have:=oH.lt s6
    have h':C.w.heap.size<=C'.ρ q:=h
    have avY:C.ρ m<C.w.heap.size:=this
    omega
   ·rw[hd]at dI
    simp at dI
    rcases dI with rfl | rfl
    ·exact ay (oH.inj m m1 s6 sZ (show C.ρ m=C.ρ m1 by rw[<-dN];exact h))
    ·exact MG sW
  refine⟨⟨fun m=>Iff.rfl,fun m cs Z => ?_,fun m m' hm a1 dN => ?_,fun m hm => ?_,fun m hm => ?_⟩,fun x => ?_,?_⟩
  ·rw[rY m]at Z
   split at Z
   ·rename_i h;subst h
    cases Z
    rw[zT,Sv]
    obtain⟨arr,ty,ha,H⟩:=hp.heap.obj q KG (by rw[hd];simp[aE,dO])
    exact⟨arr,ty,ha,fun j c M=>by obtain⟨v,R,co⟩:=H j c M;exact⟨v,R,co.mono jd⟩⟩
   ·split at Z
    ·cases Z
    ·rename_i h
     have nc:=oH.get Z
     rw[G m (oH.kn m nc),mb m (oH.kn m nc)]
     obtain⟨arr,ty,ha,H⟩:=oH.obj m cs Z
     have xX:C.ρ m≠C.ρ m0:=fun W=>h (oH.inj m m0 nc sZ W).symm
     exact⟨arr,ty,(blocks _ (oH.lt nc) xX).trans ha,fun j c M=>by obtain⟨v,R,co⟩:=H j c M;exact⟨v,R,co.mono gm⟩⟩
  ·rcases(live' m).1 hm with rfl | ⟨n1,l1⟩<;>rcases(live' m').1 a1 with h | ⟨n2,l2⟩
   ·exact h.symm
   ·rw[zT,G m' (oH.kn m' l2)]at dN
    exact absurd dN (apart m' n2 l2)
   ·subst h
    rw[zT,G m (oH.kn m l1)]at dN
    exact absurd dN.symm (apart m n1 l1)
   ·rw[G m (oH.kn m l1),G m' (oH.kn m' l2)]at dN
    exact oH.inj m m' l1 l2 dN
  ·rcases(live' m).1 hm with rfl | ⟨n1,l1⟩
   ·rw[zT];exact hp.heap.mt _ h2
   ·rw[G m (oH.kn m l1)]
    exact(hp.mt _ (oH.lt l1)).2 (oH.mt m l1)
  ·rcases(live' m).1 hm with rfl | ⟨n1,l1⟩
   ·exact .inr ⟨i,dM,vt⟩
   ·exact gm.kn m (oH.kn m l1)
  ·by_cases hx:o.dst=some x
   ·rw[aU.qi A' F (by rw[ku];exact hx),if_pos dM,Pv hx (by rw[aC.size];exact Fo aU.fits ho x hx)]
    exact hp.val.mono jd
   ·rw[HR hx,aU.DA (ab:=A') (ad:=ab) (fun j ej ba ve=>by
     by_cases dU:j=i
     ·subst dU;rw[F]at ba;cases ba;exact absurd (by rw[<-ku];exact ve) hx
     ·simp[ab,dU])]
    exact(oT x).mono gm
  ·refine ko.of rfl rfl (oF.le.trans gm) fun m hm hb => ?_
   rcases(live' m).1 hm with rfl | ⟨n1,l1⟩
   ·rw[zT]at hb ⊢
    exact ko.wr _ h2 hb
   ·rw[G m (oH.kn m l1)]at hb ⊢
    exact oF.wr m l1 hb
end
end Go.Proofs.Aw
namespace Go.Proofs.Aw
open Go
def left (L:Nat->Bool):Nat->Nat
 | 0=>0
 | n+1=>left L n+if L n=true then 0 else 1
theorem NH {L:Nat->Bool}:∀{n:Nat},left L n=0->∀j,j<n->L j=true
 | 0,_,j,M=>by omega
 | n+1,h,j,M=>by
  simp only[left]at h
  by_cases hn:L n=true
  ·rcases Nat.lt_or_ge j n with gE | gE
   ·exact NH (by omega) j gE
   ·rw[show j=n from by omega];exact hn
  ·rw[if_neg hn]at h;omega
theorem Gw {L dr:Nat->Bool}:∀{n:Nat},(∀j,j<n->L j=dr j)->left L n=left dr n
 | 0,_=>rfl
 | n+1,h=>by simp only[left];rw[Gw (fun j M=>h j (by omega)),h n (by omega)]
theorem NG {L:Nat->Bool} {i:Nat} (hi:L i=false):∀{n:Nat},i<n->left (eF L i) n+1=left L n
 | 0,h=>by omega
 | n+1,h=>by
  simp only[left]
  by_cases cu:i=n
  ·subst cu
   rw[if_pos (cP.2 (.inr rfl)),hi,Gw (L:=eF L i) (dr:=L) fun j M=>by simp[eF,Nat.ne_of_lt M]]
   simp
  ·have:=NG hi (n:=n) (by omega)
   have E:eF L i n=L n:=by
    have:(n==i)=false:=by simpa using Ne.symm cu
    simp[eF,this]
   rw[E];omega
def dh (listed:Array Bool):Nat->Bool:=fun j=>listed.getD j false
theorem NW {listed:Array Bool} {i:Nat} (hi:i<listed.size) (j:Nat):dh (listed.setIfInBounds i true) j=eF (dh listed) i j:=by
 unfold dh eF
 by_cases h:j=i
 ·subst h;simp[Array.getD,hi]
 ·have:(j==i)=false:=by simpa using h
  simp[Array.getD_eq_getD_getElem?,Array.getElem?_setIfInBounds_ne (Ne.symm h),this]
theorem vU {listed:Array Bool} {j:Nat}:listed.getD j true=false↔j<listed.size/\dh listed j=false:=by
 unfold dh
 by_cases h:j<listed.size
 ·simp[Array.getD,h]
 ·simp[Array.getD,h]
theorem ew.congr {nx:Nat} {D:List En} {L dr ab:Nat->Bool} (h:∀j,L j=dr j) (k:ew nx D L ab):ew nx D dr ab :=
 ⟨fun j M=>by rw[<-h];exact k.sub j M,k.closed,fun j e M=>k.bars j e (by rw[h];exact M)⟩
theorem eD.congr {ac:Env} {nx:Nat} {t0:Tp} {h0:Hp} {D:List En} {L dr:Nat->Bool} {C:Ctx} {a:Act} (h:∀j,L j=dr j) (aC:eD ac nx t0 h0 D L C a):eD ac nx t0 h0 D dr C a where
 lt j M:=aC.lt j (by rw[h];exact M)
 closed j e M F k u:=by rw[<-h];exact aC.closed j e (by rw[h];exact M) F k u
 names j e M:=aC.names j e (by rw[h];exact M)
 size:=aC.size
 defers:=aC.defers
 ok ab hA:=aC.ok ab (hA.congr fun j=>(h j).symm)
section
variable {P:Program} {ac:Env} {ops:List Oper} {nx:Nat} {t0:Tp} {h0:Hp} {D:List En}
theorem eD.adm (aU:gq P ac ops nx t0 h0 D) {L:Nat->Bool} {C:Ctx} {a:Act} (_I:eD ac nx t0 h0 D L C a) {i:Nat} {e:En} (F:bk D i=some e)
  (cu:∀k,e.ms.testBit k=true->L k=true) (i3:∀j ej,L j=true->bk D j=some ej->er (nx+j) ej.d=false->e.ms.testBit j=true):ew nx D L e.ms.testBit :=
 ⟨cu,fun _ _ M ba k u=>aU.trans i F M ba k u,fun j ej M ba hf=>i3 j ej M ba hf⟩
theorem TY {p:Nat->Prop}:∀n,(∃j,p j/\j<n)->∃j,(p j/\j<n)/\∀k,p k->k<n->k<=j
 | 0,⟨_,_,h⟩=>by omega
 | n+1,⟨j,hp,M⟩=>by
  by_cases hn:p n
  ·exact⟨n,⟨hn,by omega⟩,fun k _ u=>by omega⟩
  ·have oi:j<n:=by
    rcases Nat.lt_or_eq_of_le (Nat.le_of_lt_succ M)with h | h
    ·exact h
    ·subst h;exact absurd hp hn
   obtain⟨q,⟨A,E⟩,h3⟩:=TY n ⟨j,hp,oi⟩
   refine⟨q,⟨A,by omega⟩,fun k u bM=>h3 k u ?_⟩
   rcases Nat.lt_or_eq_of_le (Nat.le_of_lt_succ bM)with h | h
   ·exact h
   ·subst h;exact absurd u hn
theorem eD.wp (aU:gq P ac ops nx t0 h0 D) {Q:Exit->Act->World->Prop} (ii:∀C a,eD ac nx t0 h0 D (fun j=>decide (j<D.length)) C a->Q .normal a C.w) :
  ∀(fuel:Nat) (listed:Array Bool) (C:Ctx) (a:Act),listed.size=ops.length->left (dh listed) ops.length<=fuel->eD ac nx t0 h0 D (dh listed) C a->wpAny P .any ops.toArray Q fuel listed a C.w:=by
 have done:∀(listed:Array Bool) (C:Ctx) (a:Act),listed.size=ops.length->eD ac nx t0 h0 D (dh listed) C a->(∀j,j<ops.length->dh listed j=true)->Q .normal a C.w:=fun listed C a b9 aC i3 =>
  ii C a (aC.congr fun j=>by
   by_cases M:j<D.length
   ·rw[i3 j (by rw[<-aU.len];exact M)];simp[M]
   ·cases h:dh listed j with
    | false=>simp[M]
    | true=>exact absurd (aC.lt j h) M)
 have noneLeft:∀(listed:Array Bool),listed.size=ops.length->Region.ready .any ops.toArray listed=[]->∀j,j<ops.length->dh listed j=true:=by
  intro listed b9 hr j
  induction j using Nat.strongRecOn with
  | _ j ih =>
   intro M
   cases h:dh listed j with
   | true=>rfl
   | false =>
    exfalso
    have pD:j∈Region.ready .any ops.toArray listed:=by
     refine mem_ready.2 ⟨vU.2 ⟨by rw[b9];exact M,h⟩,ops[j],by simp[M],fun ed d6 hb => ?_⟩
     have ho:ops[j]? = some ops[j]:=by simp[M]
     obtain⟨e,F,_⟩:=aU.entry ho
     obtain⟨pR,min,_,_⟩:=aU.mask F ho
     have aT:=pR _ (min ed d6 hb)
     exact ih ed.on aT (by omega)
    rw[hr]at pD;cases pD
 intro fuel
 induction fuel with
 | zero =>
  intro listed C a b9 O aC
  have i3:=NH (Nat.le_zero.1 O)
  refine⟨?_,done listed C a b9 aC i3⟩
  apply List.eq_nil_iff_forall_not_mem.2
  intro j M
  obtain⟨A,_⟩:=mem_ready.1 M
  obtain⟨E,h3⟩:=vU.1 A
  rw[i3 j (by omega)]at h3;cases h3
 | succ fuel ih =>
  intro listed C a b9 O aC
  refine⟨fun hr=>done listed C a b9 aC (noneLeft listed b9 hr),fun i hi => ?_⟩
  obtain⟨A,o,d3,agf⟩:=mem_ready.1 hi
  obtain⟨Vb,cF⟩:=vU.1 A
  have ho:ops[i]? = some o:=by simpa using d3
  obtain⟨e,F,ku⟩:=aU.entry ho
  obtain⟨pR,_,mex,_⟩:=aU.mask F ho
  have cu:∀k,e.ms.testBit k=true->dh listed k=true:=fun k u=>by
   obtain⟨ed,d6,hb,BO⟩:=mex k u
   have Vn:dh listed ed.on=true:=agf ed d6 hb
   rcases BO with h | ⟨e1,x2,bt⟩
   ·rw[<-h];exact Vn
   ·exact aC.closed _ _ Vn x2 k bt
  have fin:∀(Eb:Ctx) (bj:Act),eD ac nx t0 h0 D (eF (dh listed) i) Eb bj->wpAny P .any ops.toArray Q fuel (listed.setIfInBounds i true) bj Eb.w:=fun Eb bj abs=>by
   refine ih (listed.setIfInBounds i true) Eb bj (by simpa using b9) ?_ (abs.congr fun j=>(NW Vb j).symm)
   have h7:=NG cF (n:=ops.length) (by omega)
   rw[Gw (L:=dh (listed.setIfInBounds i true)) (dr:=eF (dh listed) i) fun j _=>NW Vb j]
   omega
  have run:∀(ad:Nat->Bool) (l:List En),ew nx D (dh listed) ad->(∀x,bU (b5 ad l t0) x=bU (b5 ad D t0) x)->aL ad D h0=aL ad l h0->∀d,w_ P ops (nx+i) o (b5 ad l t0) (aL ad l h0) e.r d ->
    (∀(Y:Value) (C':Ctx),c8 (C.at_ nx h0 D ad) (nx+i) (aL ad D h0) e.r d Y C'->eD ac nx t0 h0 D (eF (dh listed) i) (C.next C' (nx+i)) (a.put o.dst Y))->wpOp P ops.toArray Q i (wpAny P .any ops.toArray Q fuel (listed.setIfInBounds i true)) a C.w:=by
   intro ad l hB ML R d hyg Mo
   obtain⟨hH,hT,km⟩:=aC.ok _ hB
   have Fz:ad i=false:=by
    cases h:ad i with
    | false=>rfl
    | true=>rw[hB.sub i h]at cF;cases cF
   have pp:gb (C.at_ nx h0 D ad) (b5 ad l t0) a:=fun x=>by rw[ML x];exact hT x
   have UN:c6 (C.at_ nx h0 D ad) (aL ad l h0):=by rw[<-R];exact hH
   have i9:∀k,¬(C.at_ nx h0 D ad).kn (nx+i,k):=fun k h=>by
    rcases h with h | ⟨q,hq,h⟩
    ·simp only at h;omega
    ·simp only at h
     have:q=i:=by omega
     subst this;rw[Fz]at hq;cases hq
   have goOn:∀(Y:Value) (C':Ctx),c8 (C.at_ nx h0 D ad) (nx+i) (aL ad l h0) e.r d Y C'->wpAny P .any ops.toArray Q fuel (listed.setIfInBounds i true) (a.put o.dst Y) C'.w:=fun Y C' hp =>
    fin (C.next C' (nx+i)) (a.put o.dst Y) (Mo Y C' (by rw[R];exact hp))
   obtain⟨y1,y2⟩:=Rp pp ops
    |> fun h=>(⟨fun j=>(h j).1,fun j=>(h j).2⟩:(∀j b,yv ops (b5 ad l t0) j = .sc (.bool b)->yielded ops.toArray a.tmps j=some b)/\(∀j x,yv ops (b5 ad l t0) j = .sc (.tuple x)->yielded ops.toArray a.tmps j=none))
   unfold wpOp
   rw[d3]
   simp only
   have wanted:Yields P (nx+i) o.op (b5 ad l t0) (aL ad l h0) e.r d->Region.wanted o (yielded ops.toArray a.tmps)=true ->
     if Region.wanted o (yielded ops.toArray a.tmps)then o.wp P a C.w (wpAny P .any ops.toArray Q fuel (listed.setIfInBounds i true)) Q\/(o.asks P a C.w/\LetsOut Q)else wpAny P .any ops.toArray Q fuel (listed.setIfInBounds i true) (a.put o.dst undef) C.w:=fun hy hw=>by
    rw[if_pos hw]
    exact .inl (hy (C.at_ nx h0 D ad) a o _ _ rfl UN pp i9 goOn)
   rcases hyg with⟨Z,hy⟩ | ⟨j,want,b,Z,hb,un,hy⟩ | ⟨j,want,Z,agB,hr,hd⟩
   ·exact wanted hy (by simp[Region.wanted,Z])
   ·exact wanted hy (by simp[Region.wanted,Z,y1 j b hb,un])
   ·have hw:Region.wanted o (yielded ops.toArray a.tmps)=false:=by
     rcases agB with⟨b,hb,un⟩ | ⟨x,hx⟩
     ·simp[Region.wanted,Z,y1 j b hb,un]
     ·simp[Region.wanted,Z,y2 j x hx]
    rw[if_neg (by rw[hw];simp)]
    have hp:c8 (C.at_ nx h0 D ad) (nx+i) (aL ad l h0) e.r d undef ((C.at_ nx h0 D ad).same (nx+i) C.w):=by
     rw[hr,hd]
     exact c8.pure UN (by simp only[ak]) rfl rfl rfl rfl
    exact goOn undef ((C.at_ nx h0 D ad).same (nx+i) C.w) hp
  obtain⟨bB,o',g1,g2,g3,hs,h5,h6⟩:=aU.walked.get F
  rw[ho]at g3;cases g3
  have mlt':∀k,i<=k->e.ms.testBit k=false:=fun k u=>by
   cases h:e.ms.testBit k with
   | false=>rfl
   | true=>have:=pR k h;omega
  by_cases Vf:∃j,(dh listed j=true/\e.ms.testBit j=false/\∃ej,bk D j=some ej/\er (nx+j) ej.d=false)/\j<D.length
  ·
   obtain⟨j,⟨⟨x6,FT,ej,ba,x7⟩,av3⟩,agy⟩:=TY D.length Vf
   obtain⟨AO,ajs,k1,k2,k3,k4,Gn,Ny⟩:=aU.walked.get ba
   have xW:ej.ms.testBit i=false:=by
    cases h:ej.ms.testBit i with
    | false=>rfl
    | true=>rw[aC.closed j ej x6 ba i h]at cF;cases cF
   have l9:∀k,(((e.ms ||| ej.ms) ||| 2 ^ j).testBit k=true)↔(e.ms.testBit k=true\/ej.ms.testBit k=true)\/k=j:=fun k=>by
    rw[Nat.testBit_or,Nat.testBit_or,Bool.or_eq_true,Bool.or_eq_true,Nat.testBit_two_pow]
    simp only[decide_eq_true_eq]
    exact or_congr Iff.rfl eq_comm
   obtain⟨mltj,_,_,_⟩:=aU.mask ba k3
   have hB:ew nx D (dh listed) ((e.ms ||| ej.ms) ||| 2 ^ j).testBit:=by
    refine⟨fun k u => ?_,fun k ek u d7 q hq => ?_,fun k ek u d7 hf => ?_⟩
    ·rcases(l9 k).1 u with(h | h) | h
     ·exact cu k h
     ·exact aC.closed j ej x6 ba k h
     ·subst h;exact x6
    ·rcases(l9 k).1 u with(h | h) | h
     ·exact(l9 q).2 (.inl (.inl (aU.trans i F h d7 q hq)))
     ·exact(l9 q).2 (.inl (.inr (aU.trans j ba h d7 q hq)))
     ·subst h;rw[ba]at d7;cases d7;exact(l9 q).2 (.inl (.inr hq))
    ·cases U5:e.ms.testBit k with
     | true=>exact(l9 k).2 (.inl (.inl U5))
     | false =>
      rcases Nat.lt_trichotomy k j with h | h | h
      ·rcases k4.waits k ek (by rw[k2 k h];exact d7) hf with g | g
       ·exact(l9 k).2 (.inl (.inr g))
       ·have:=g.1
        rw[this]at x7;cases x7
      ·exact(l9 k).2 (.inr h)
      ·have:=agy k ⟨u,U5,ek,d7,hf⟩ (aC.lt k u)
       omega
   have F3:∀A',ew nx D (eF (dh listed) i) A'->A' i=true->∀k,((e.ms ||| ej.ms) ||| 2 ^ j).testBit k=true->A' k=true:=fun A' cK dM k u=>by
    rcases(l9 k).1 u with(h | h) | h
    ·exact cK.closed i e dM F k h
    ·exact cK.closed j ej (cK.bars j ej (cP.2 (.inl x6)) ba x7) ba k h
    ·subst h;exact cK.bars k ej (cP.2 (.inl x6)) ba x7
   by_cases h1:i<j
   case neg =>
    have dU:j<i:=by
     rcases Nat.lt_trichotomy j i with h | h | h
     ·exact h
     ·subst h;rw[x6]at cF;cases cF
     ·exact absurd h h1
    rcases hs.waits j ej (by rw[g2 j dU];exact ba) x7 with g | ⟨hd,hy⟩
    ·rw[g]at FT;cases FT
    ·have vg:∀k,i<=k->((e.ms ||| ej.ms) ||| 2 ^ j).testBit k=false:=fun k u=>by
      cases h:((e.ms ||| ej.ms) ||| 2 ^ j).testBit k with
      | false=>rfl
      | true =>
       rcases(l9 k).1 h with(h | h) | h
       ·have:=pR k h;omega
       ·have:=mltj k h;omega
       ·omega
     rw[g1]at hy
     exact run _ bB hB (fun x=>aU.QD g1 g2 vg x) (h5 _ vg) [] hy (fun Y C' hp=>aC.ZD aU F ho ku cF cu hd hB F3 hp)
   have ags:Ef P ops nx t0 h0 AO ej:=by
    rcases k4.fresh with g | g | g
    ·rw[k1,x7]at g;cases g
    ·have:ej.ms.testBit i=true:=by
      rw[show ej.ms=2 ^ j-1 from by rw[<-k1];omega,Nat.testBit_two_pow_sub_one]
      simpa using h1
     rw[this]at xW;cases xW
    ·exact g
   have hei:bk AO i=some e:=by rw[k2 i h1];exact F
   obtain⟨hd,hy⟩:=ags.2 i e o (by rw[k1];exact h1) xW hei ho
   rw[k1]at hy
   have vg:∀k,j+1<=k->((e.ms ||| ej.ms) ||| 2 ^ j).testBit k=false:=fun k u=>by
    cases h:((e.ms ||| ej.ms) ||| 2 ^ j).testBit k with
    | false=>rfl
    | true =>
     rcases(l9 k).1 h with(h | h) | h
     ·have:=pR k h;omega
     ·have:=mltj k h;omega
     ·omega
   have agh:∀k,k<j+1->bk (ej::AO) k=bk D k:=fun k u=>by
    simp only[bk,k1]
    split
    ·rename_i h;subst h;exact ba.symm
    ·exact k2 k (by omega)
   refine run _ (ej::AO) hB (fun x=>aU.QD (by simp[k1]) agh vg x) ?_ [] hy (fun Y C' hp=>aC.ZD aU F ho ku cF cu hd hB F3 hp)
   rw[Ny _ ((l9 j).2 (.inr rfl)) (fun k u=>vg k u)]
   simp only[aL]
   rw[if_pos (by rw[k1];exact(l9 j).2 (.inr rfl))]
  ·have i9:∀j ej,dh listed j=true->bk D j=some ej->er (nx+j) ej.d=false->e.ms.testBit j=true:=fun j ej M ba hf=>by
    cases h:e.ms.testBit j with
    | true=>rfl
    | false=>exact absurd ⟨j,⟨M,h,ej,ba,hf⟩,aC.lt j M⟩ Vf
   have i2:=aC.adm aU F cu i9
   have R:=h5 e.ms.testBit mlt'
   have jH:=hs.Rq
   rw[g1]at jH
   refine run e.ms.testBit bB i2 (fun x=>aU.QD g1 g2 mlt' x) R e.d jH (fun Y C' hp => ?_)
   have aT:er (nx+i) e.d=false->∀k,dh listed k=true->k<i\/∃ek,bk D k=some ek/\ek.d=[]:=fun hf k u=>by
    rcases Nat.lt_trichotomy k i with h | h | h
    ·exact .inl h
    ·subst h;rw[u]at cF;cases cF
    ·obtain⟨ek,d7⟩:=E9 (D:=D) (aC.lt k u)
     obtain⟨AO,ajs,k1,k2,k3,k4,_⟩:=aU.walked.get d7
     rcases k4.waits i e (by rw[k2 i h];exact F) hf with hb | hb
     ·rw[aC.closed k ek u d7 i hb]at cF;cases cF
     ·exact .inr ⟨ek,d7,hb.1⟩
   by_cases x3:e.ms+1=2 ^ bB.length
   ·exact aC.step aU F ho cF cu g1 g2 hs h6 R i2 (by rw[<-R];exact hp) (fun _=>x3) aT
   rcases hs.fresh with g | g | g
   ·rw[g1]at g
    exact aC.step aU F ho cF cu g1 g2 hs h6 R i2 (by rw[<-R];exact hp) (fun hf=>by rw[g]at hf;cases hf) aT
   ·exact absurd g x3
   ·by_cases hf:er (nx+i) e.d=true
    ·exact aC.step aU F ho cF cu g1 g2 hs h6 R i2 (by rw[<-R];exact hp) (fun fw=>by rw[hf]at fw;cases fw) aT
    ·obtain⟨BA,_⟩:=g
     have fw:er (nx+i) e.d=false:=by simpa using hf
     rw[g1]at BA
     rcases BA with hd | ⟨m,q,cs,hd,hm,hq⟩
     ·exact aC.arC aU F ho ku cF cu hd fw (aT fw) h6 h5 g1 i2 hp
     ·exact aC.arz aU F ho ku cF cu hd hm hq fw (aT fw) h6 h5 g1 i2 hp
theorem Ts {Q:Exit->St->Prop} {V:St} (hf:fits ac.N ops=true) (ho:once ops=true) (D:List En) (hw:jt P ops V.nx (fb ops V.t) V.h D) (O:D.length=ops.length)
  (u:Q .normal ⟨b5 (fun _=>true) D (fb ops V.t),aL (fun _=>true) D V.h,V.nx+ops.length⟩) {a:Act} {w:World} (hr:Rel ac V a w) :
  wpAny P .any ops.toArray (fun e bz w'=>∃aM,Rel ac aM bz w'/\Q e aM) ops.toArray.size (Array.replicate ops.toArray.size false) a { w with drawn:=w.drawn+1 }:=by
 obtain⟨C0,rfl,hC⟩:=hr
 have aU:gq P ac ops V.nx (fb ops V.t) V.h D:=⟨hw,O,ho,hf,fun o MD x hx=>by
  rw[wO,if_pos (List.any_eq_true.2 ⟨o,MD,by simp[hx]⟩)]⟩
 let C:Ctx:={ C0 with w:={ C0.w with drawn:=C0.w.drawn+1 } }
 have hL:∀j,dh (Array.replicate ops.toArray.size false) j=false:=fun j=>by
  unfold dh
  rw[Array.getD_eq_getD_getElem?,Array.getElem?_replicate]
  split<;>rfl
 have start:eD ac V.nx (fb ops V.t) V.h D (dh (Array.replicate ops.toArray.size false)) C a:=by
  refine⟨fun j M=>absurd M (by rw[hL];simp),fun j e M=>absurd M (by rw[hL];simp),fun j e M=>absurd M (by rw[hL];simp),hC.size,hC.defers,fun ab hA => ?_⟩
  have Fr:∀j,ab j=false:=fun j=>by
   cases h:ab j with
   | false=>rfl
   | true=>have:=hA.sub j h;rw[hL]at this;cases this
  have R:∀l:List En,aL ab l V.h=V.h:=fun l=>by
   induction l with
   | nil=>rfl
   | cons e l ih=>simp only[aL];rw[if_neg (by rw[Fr];simp)];exact ih
  have le:C0.le (C.at_ V.nx V.h D ab):=by
   refine⟨Nat.le_refl _,fun _ _ _=>rfl,fun _ _ h=>h,fun m hm => .inl (hC.kn m hm),fun m hm O=>⟨(hC.heap.live m).2 ?_,rfl,rfl⟩,fun _ _ _ cs ty h=>⟨cs,ty,h,rfl⟩⟩
   have:(ae (aL ab D V.h) m).isSome=true:=O
   rwa[R]at this
  have live:∀m,(C.at_ V.nx V.h D ab).live m↔C0.live m:=fun m=>by
   rw[hC.heap.live m]
   have:aL ab D V.h=V.h:=R D
   show(ae (aL ab D V.h) m).isSome=true↔_
   rw[this]
  refine⟨?_,fun x => ?_,⟨hC.frame.os,hC.frame.tape,hC.frame.output,hC.frame.size,hC.frame.same,hC.frame.mt,fun m hm hb=>hC.frame.wr m ((live m).1 hm) hb,hC.frame.le.trans le⟩⟩
  ·rw[R]
   exact hC.heap.mono le live (fun _ _=>rfl) (fun _ h _=>h)
  ·rcases qj ab (fb ops V.t) x D with⟨j,e,_,_,h3⟩ | ⟨_,E⟩
   ·rw[h3,if_neg (by rw[Fr];simp)];trivial
   ·rw[E,wO]
    split
    ·trivial
    ·exact(hC.t x).mono le
 refine eD.wp aU (fun C' bz aC => ?_) ops.toArray.size (Array.replicate ops.toArray.size false) C a (by simp) ?_ start
 ·have i2:ew V.nx D (fun j=>decide (j<D.length)) (fun j=>decide (j<D.length)):=⟨fun _ h=>h,aC.closed,fun _ _ h _ _=>h⟩
  obtain⟨hH,hT,km⟩:=aC.ok _ i2
  have e1:aL (fun j=>decide (j<D.length)) D V.h=aL (fun _=>true) D V.h:=yf D fun j M=>by simp[M]
  have e2:b5 (fun j=>decide (j<D.length)) D (fb ops V.t)=b5 (fun _=>true) D (fb ops V.t):=Z' D fun j M=>by simp[M]
  rw[e1]at hH
  rw[e2]at hT
  refine⟨_,⟨C'.at_ V.nx V.h D (fun j=>decide (j<D.length)),rfl,hH,hT,aC.size,aC.defers,fun m hm => ?_,km⟩,u⟩
  rcases hm with h | ⟨j,M,h⟩
  ·simp only;omega
  ·simp at M;simp only;omega
 ·have:∀n,left (dh (Array.replicate ops.toArray.size false)) n<=n:=fun n=>by
   induction n with
   | zero=>simp[left]
   | succ n ih=>simp only[left];split<;>omega
  exact this _
theorem abr {Q:Exit->St->Prop} {V:St} {id:Nat} (hm:P.follows .mixedOrders=true) (hf:fits ac.N ops=true) (ho:once ops=true) (D:List En) (hw:jt P ops V.nx (fb ops V.t) V.h D) (O:D.length=ops.length)
  (u:Q .normal ⟨b5 (fun _=>true) D (fb ops V.t),aL (fun _=>true) D V.h,V.nx+ops.length⟩):AW P ac (.region id ops.toArray true) Q V:=fun _ _ hr =>
 wp_region_any hm (Ts hf ho D hw O u hr)
end
end Go.Proofs.Aw
namespace Go.Proofs.Aw
open Go
inductive cV where
 | no
 | ok (r:AV) (d:Dl)
 | call (f:FuncId) (args:List AV)
def da:Option AV->cV
 | some v => .ok v []
 | none => .no
def lC:Option (AV×Dl)->cV
 | some (v,d) => .ok v d
 | none => .no
def GA:Option Dl->cV
 | some d => .ok (.sc undef) d
 | none => .no
def jY:Option Bool->Nat->List AV->Nat->Option AV
 | some true,z,cs,off=>if 0<z/\off+z<=cs.length then some (.agg ((cs.drop off).take z))else none
 | some false,_,cs,off=>cs[off]?
 | none,_,_,_=>none
def HV (b:Option Bool) (z:Nat) (off:Nat):Option (List AV)->Option AV
 | some cs=>jY b z cs off
 | none=>none
def oC (P:Program) (h:Hp) (ty:TypeId):AV->Option AV
 | .ptr m off=>HV (e5 P ty) (P.cellsOf ty) off (ae h m)
 | .ip cs off=>jY (e5 P ty) (P.cellsOf ty) cs off
 | _=>none
def wY (z:Nat) (m:Nm) (off:Nat) (ys:List AV):Option (List AV)->Option Dl
 | some cs=>if 0<z/\ys.length=z/\off+z<=cs.length/\ys.all AV.one=true then some [(m,some (fY cs off ys))]else none
 | none=>none
def qf (P:Program) (h:Hp) (ty:TypeId):AV->List AV->Option Dl
 | .ptr m off,ys=>wY (P.cellsOf ty) m off ys (ae h m)
 | _,_=>none
def F' (m:Nm) (off:Nat) (j:Int) (live:Bool):Option (Nat×Nat)->Option AV
 | some (len,z)=>if live=true/\0<=j/\j<len then some (.ptr m (off+j.toNat*z))else none
 | none=>none
def M7 (cs:List AV) (off:Nat) (j:Int):Option (Nat×Nat)->Option AV
 | some (len,z)=>if 0<=j/\j<len then some (.ip cs (off+j.toNat*z))else none
 | none=>none
def Ga (m:Nm) (z off len:Nat) (j:Int) (live:Bool):Option (TypeId×Nat)->Option AV
 | some (_,z')=>if z'=z/\live=true/\0<=j/\j<len then some (.ptr m (off+j.toNat*z))else none
 | none=>none
def yi:Option (List AV)->Option AV
 | some n9=>some (.ip n9 0)
 | none=>none
def vF (z:Nat) (D:List (List AV)) (j:Int):Option (TypeId×Nat)->Option AV
 | some (_,z')=>if z'=z/\0<=j then yi D[j.toNat]? else none
 | none=>none
def jL (P:Program) (h:Hp) (ty:TypeId):AV->AV->Option AV
 | .ptr m off,.sc (.int _ j)=>F' m off j (ae h m).isSome (ey P ty)
 | .ip cs off,.sc (.int _ j)=>M7 cs off j (ey P ty)
 | .sl m z off len _,.sc (.int _ j)=>Ga m z off len j (ae h m).isSome (bE P ty)
 | .ro z D _,.sc (.int _ j)=>vF z D j (bE P ty)
 | _,_=>none
def LD (h:Hp) (x:AV):Option (Nat×Nat)->Option AV
 | some (o,_)=>match x with
  | .ptr m off=>if(ae h m).isSome=true then some (.ptr m (off+o))else none
  | .ip cs off=>some (.ip cs (off+o))
  | _=>none
 | none=>none
def A1 (P:Program) (h:Hp) (ty:TypeId) (f:Nat) (x:AV):Option AV:=match ji P ty with
 | some l=>LD h x l[f]?
 | none=>none
def Fk (cs:List AV):Option (Nat×Nat)->Option (Option Bool)->Option AV
 | some (o,z),some b=>jY b z cs o
 | _,_=>none
def A4 (P:Program) (ty:TypeId) (f:Nat):AV->Option AV
 | .agg cs=>match ji P ty,CZ P ty with
  | some l,some bs=>Fk cs l[f]? bs[f]?
  | _,_=>none
 | _=>none
def yl (P:Program) (ty:TypeId):AV->AV->Option AV
 | .agg cs,.sc (.int _ j)=>match ey P ty with
  | some (len,z)=>if 0<=j/\j<len then jY (sv P ty) z cs (j.toNat*z)else none
  | none=>none
 | .sc (.string s),.sc (.int _ j)=>if nE P ty=true/\0<=j then(s[j.toNat]?).map fun b => .sc (.int .u8 b.toNat)else none
 | _,_=>none
def ma (d:Nat):Option AV->Option Nat
 | none=>some d
 | some (.sc (.int _ i))=>if 0<=i then some i.toNat else none
 | _=>none
def r6 (P:Program) (h:Hp) (ty:TypeId) (x:AV) (lo hi:Option Nat):Option AV :=
 match lo,hi with
 | some l,some W=>match x with
  | .ro z D full=>match bE P ty with
   | some (_,z')=>if z'=z/\l<=W/\W<=D.length then some (.ro z ((D.take W).drop l) (full&&W==D.length))else none
   | none=>none
  | .sl m z off len own=>match bE P ty with
   | some (_,z')=>if z'=z/\(ae h m).isSome=true/\l<=W/\W<=len then some (.sl m z (off+l*z) (W-l) own)else none
   | none=>none
  | .ptr m off=>match ey P ty with
   | some (len,z)=>if(ae h m).isSome=true/\l<=W/\W<=len then some (.sl m z (off+l*z) (W-l) false)else none
   | none=>none
  | .sc (.string s)=>if nE P ty=true/\l<=W/\W<=s.size then some (.sc (.string (s.extract l W)))else none
  | .sc (.slice none 0 0)=>match bE P ty with
   | some _=>if l=0/\W=0 then some (.sc (.slice none 0 0))else none
   | none=>none
  | _=>none
 | _,_=>none
def kX (P:Program) (ty:TypeId):AV->Nat
 | .ro _ D _=>D.length
 | .sl _ _ _ len _=>len
 | .ptr _ _=>match ey P ty with | some (len,_)=>len | none=>0
 | .sc (.string s)=>s.size
 | _=>0
def IB (P:Program) (h:Hp) (ty:TypeId) (x:AV):Option Nat->Option Nat->Option Nat->Option AV
 | some l,some W,some m=>match x with
  | .ro z D _=>match bE P ty with
   | some (_,z')=>if z'=z/\l<=W/\W<=m/\m<=D.length then some (.ro z ((D.take W).drop l) (m==W))else none
   | none=>none
  | .sl n z _ len _=>match bE P ty with
   | some (_,z')=>if z'=z/\(ae h n).isSome=true/\W=l/\m=l/\l<=len then some (.ro z [] true)else none
   | none=>none
  | _=>none
 | _,_,_=>none
def qd (P:Program) (h:Hp) (ty:TypeId) (x:AV) (lo hi mx:Option AV):Option AV :=
 match mx with
 | none=>r6 P h ty x (ma 0 lo) (ma (kX P ty x) hi)
 | some m=>IB P h ty x (ma 0 lo) (match hi with | some v=>ma 0 (some v) | none=>none) (ma 0 (some m))
def nZ (P:Program) (n:Nat) (mu:Bool) (ty:TypeId) (len:Nat) (ps:List (Nat×AV)):Option (AV×Dl) :=
 match bE P ty with
 | some (e,z)=>if nL P e=some z/\len*z<=16777216/\ps.length=len/\ld z 0 ps=true then
   (match mu with
   | false=>some (.ro z (gL ps) true,[])
   | true=>some (.sl (n,0) z 0 len true,[((n,0),some (gL ps).flatten)]))
  else none
 | none=>none
def nW (n:Nat) (mu:Bool) (z:Nat) (k9:Nat) (fs:List (List AV)):Option (List (List AV))->Option (AV×Dl)
 | some D=>if(D.length+fs.length)*k9<=140737488355328/\D.length+fs.length<=9223372036854775807/\(mu=true->fs≠[])then
   (match mu with
   | false=>some (.ro z (D++fs) false,[])
   | true=>some (.sl (n,0) z 0 (D.length+fs.length) true,[((n,0),some (D.flatten++fs.flatten))]))
  else none
 | none=>none
def uJ (n:Nat) (z:Nat) (k9:Nat) (fs:List (List AV)) (m:Nm) (off len:Nat):Option (List AV)->Option (AV×Dl)
 | some cs=>if cs.length=off+len*z/\fs.flatten.all AV.one=true/\(len+fs.length)*k9<=140737488355328/\len+fs.length<=9223372036854775807 then some (.sl (n,0) z 0 (len+fs.length) true,[(m,none),((n,0),some (cs.drop off++fs.flatten))])else none
 | none=>none
def ju (P:Program) (n:Nat) (h:Hp) (mu:Bool) (e:TypeId) (z:Nat) (s:AV):Option (List (List AV))->Option (AV×Dl)
 | some fs=>match s with
  | .sl m z' off len own=>if z'=z/\own=true then uJ n z (c' P e) fs m off len (ae h m)else none
  | s=>nW n mu z (c' P e) fs (jv z s)
 | none=>none
def nX (P:Program) (n:Nat) (h:Hp) (mu:Bool) (ty xt:TypeId) (s x:AV):Option (AV×Dl) :=
 match bE P ty with
 | some (e,z)=>if bE P xt=some (e,z)/\nL P e=some z then ju P n h mu e z s (ez h z x)else none
 | none=>none
def yX:AV->AV->AV->Option AV
 | .sc (.bool true),a,_=>some a
 | .sc (.bool false),_,b=>some b
 | _,_,_=>none
def v9 (h:Hp):AV->Option AV
 | .ptr m off=>if(ae h m).isSome=true then some (.ptr m off)else none
 | .ip cs off=>some (.ip cs off)
 | .fn (.func f) xs ys=>some (.fn (.func f) xs ys)
 | _=>none
def mA:Option Int->Option AV
 | some m=>some (.sc (.int .i64 m))
 | none=>none
def mX (P:Program) (n:Nat) (mu:Bool) (h:Hp):Builtin->List TypeId->List AV->cV
 | .len,ty::_,x::_=>da (mA (je P h ty x))
 | .max,_,x::xs=>da (pO x xs)
 | .min,_,x::xs=>da (pP x xs)
 | .append,[ty,xt],[s,x]=>lC (nX P n h mu ty xt s x)
 | .copy,[ty,_],[s,x]=>lC (xw P h ty s x)
 | b,_,xs=>da (uV b xs)
def ED (n:Nat) (ys:List AV):cV:=if ys.all AV.one=true then .ok (.ptr (n,0) 0) [((n,0),some ys)]else .no
def ck (n:Nat):Option (List AV)->cV
 | some cs => .ok (.ptr (n,0) 0) [((n,0),some cs)]
 | none => .no
def Lx:AV->Nat->Option AV
 | .tup vs,i=>vs[i]?
 | _,_=>none
def EF (P:Program) (ty:TypeId) (ps:List (Nat×AV)):Option (List AV)->Option AV
 | some cs=>if((ey P ty).isSome||(ji P ty).isSome)=true then(mj (placeOf P ty) cs ps).map .agg else none
 | none=>none
def EH (args:List AV):AV->cV
 | .fn (.func f) xs ys => .call f (xs++(args++ys))
 | _ => .no
def xv (P:Program) (src dst:TypeId) (x:AV):Option AV:=if(P.underlying src).isSome=true then uU P dst x else none
def ll (t:Tp):Option Operand->Option AV
 | some x=>some (ev t x)
 | none=>none
def oa (t:Tp):List Operand->List AV
 | []=>[]
 | x::xs=>ev t x::oa t xs
def u7 (t:Tp):List (Nat×Operand)->List (Nat×AV)
 | []=>[]
 | (i,x)::xs=>(i,ev t x)::u7 t xs
theorem Lk (t:Tp) (x:Option Operand):ll t x=x.map (ev t):=by cases x<;>rfl
theorem Fe (t:Tp):∀l,oa t l=l.map (ev t)
 | []=>rfl
 | x::xs=>by simp only[oa,List.map_cons,Fe t xs]
theorem Lm (t:Tp):∀l:List (Nat×Operand),u7 t l=l.map fun p=>(p.1,ev t p.2)
 | []=>rfl
 | (i,x)::xs=>by simp only[u7,List.map_cons,Lm t xs]
def cH (P:Program) (n:Nat) (mu:Bool) (t:Tp) (h:Hp):Op->cV
 | .move x => .ok (ev t x) []
 | .assign x => .ok (ev t x) []
 | .pick c a b=>da (yX (ev t c) (ev t a) (ev t b))
 | .alloc e=>ck n (fE P e)
 | .box _ x=>ED n (ev t x).cells
 | .load ty x=>da (oC P h ty (ev t x))
 | .store ty x y=>GA (qf P h ty (ev t x) (ev t y).cells)
 | .nilCheck x=>da (v9 h (ev t x))
 | .indexAddr ty x i=>da (jL P h ty (ev t x) (ev t i))
 | .fieldAddr ty x f=>da (A1 P h ty f (ev t x))
 | .field ty x f=>da (A4 P ty f (ev t x))
 | .index ty x i=>da (yl P ty (ev t x) (ev t i))
 | .slice ty x lo hi mx=>da (qd P h ty (ev t x) (ll t lo) (ll t hi) (ll t mx))
 | .binOp op ty x y _=>da (gX P h op ty (ev t x) (ev t y))
 | .unOp op _ x=>da (si op (ev t x))
 | .convert src dst x=>da (xv P src dst (ev t x))
 | .extract x i=>da (Lx (ev t x) i)
 | .makeFunc f xs ys => .ok (.fn f (oa t xs.toList) (oa t ys.toList)) []
 | .build ty ps=>da (EF P ty (u7 t ps.toList) (fE P ty))
 | .buildSlice ty len ps=>lC (nZ P n mu ty len (u7 t ps.toList))
 | .makeSlice ty l c=>lC (tp P n ty (ev t l) (ev t c))
 | .call ⟨.builtin b,args,gQ⟩=>mX P n mu h b gQ.toList (oa t args.toList)
 | .call ⟨.value x,args,_⟩=>EH (oa t args.toList) (ev t x)
 | _ => .no
end Go.Proofs.Aw
namespace Go.Proofs.Aw
open Go
section
variable {P:Program} {n:Nat} {mu:Bool} {t:Tp} {h:Hp}
theorem jf {x:Option AV} {r:AV} {d:Dl} (F:da x = .ok r d):x=some r/\d=[]:=by
 cases x with
 | none=>cases F
 | some v=>cases F;exact⟨rfl,rfl⟩
theorem Cf {x:Option AV} {f:FuncId} {a:List AV} (F:da x = .call f a):False:=by cases x<;>cases F
theorem Gz {x:Option (AV×Dl)} {r:AV} {d:Dl} (F:lC x = .ok r d):x=some (r,d):=by
 cases x with
 | none=>cases F
 | some v=>obtain⟨v,e⟩:=v;cases F;rfl
theorem NM {x:Option (AV×Dl)} {f:FuncId} {a:List AV} (F:lC x = .call f a):False:=by
 cases x with
 | none=>cases F
 | some v=>obtain⟨v,e⟩:=v;cases F
theorem ah5 {x:Option Dl} {r:AV} {d:Dl} (F:GA x = .ok r d):x=some d/\r = .sc undef:=by
 cases x with
 | none=>cases F
 | some v=>cases F;exact⟨rfl,rfl⟩
theorem ah4 {x:Option Dl} {f:FuncId} {a:List AV} (F:GA x = .call f a):False:=by cases x<;>cases F
theorem HU {b:Option Bool} {z:Nat} {cs:List AV} {off:Nat} {v:AV} {K:AV->Prop} (F:jY b z cs off=some v) (u:K v):tK b z cs off K:=by
 unfold jY at F
 split at F
 ·split at F
  ·rename_i H;cases F;exact⟨H.1,H.2,u⟩
  ·cases F
 ·simp only[tK,F];exact u
 ·cases F
theorem Wb {ty:TypeId} {x v:AV} {K:AV->Prop} (F:oC P h ty x=some v) (u:K v):tn P h ty x K:=by
 unfold oC at F
 split at F
 ·rename_i m off
  unfold tn
  simp only
  cases Z:ae h m with
  | none=>rw[Z]at F;cases F
  | some cs=>rw[Z]at F;exact HU F u
 ·exact HU F u
 ·cases F
theorem arE {ty:TypeId} {x y:AV} {d:Dl} {K:Dl->Prop} (F:qf P h ty x y.cells=some d) (u:K d):Dm P h ty x y K:=by
 unfold qf at F
 split at F
 ·rename_i _ m off
  unfold Dm
  simp only
  cases Z:ae h m with
  | none=>rw[Z]at F;cases F
  | some cs =>
   rw[Z]at F
   simp only[wY]at F
   split at F
   ·rename_i H;cases F;exact⟨H.1,H.2.1,H.2.2.1,H.2.2.2,u⟩
   ·cases F
 ·cases F
theorem agV {ty:TypeId} {x i v:AV} {K:AV->Prop} (F:jL P h ty x i=some v) (u:K v):tc P h ty x i K:=by
 unfold jL at F
 split at F
 ·rename_i m off k j
  unfold tc
  simp only
  cases ha:ey P ty with
  | none=>rw[ha]at F;cases F
  | some p =>
   obtain⟨len,z⟩:=p
   rw[ha]at F
   simp only[F']at F
   split at F
   ·rename_i H;cases F;exact⟨H.1,H.2.1,H.2.2,u⟩
   ·cases F
 ·unfold tc
  simp only
  cases ha:ey P ty with
  | none=>rw[ha]at F;cases F
  | some p =>
   obtain⟨len,z⟩:=p
   rw[ha]at F
   simp only[M7]at F
   split at F
   ·rename_i H;cases F;exact⟨H.1,H.2,u⟩
   ·cases F
 ·unfold tc
  simp only
  cases ha:bE P ty with
  | none=>rw[ha]at F;cases F
  | some p =>
   obtain⟨len,z⟩:=p
   rw[ha]at F
   simp only[Ga]at F
   split at F
   ·rename_i H;cases F;exact⟨H.1,H.2.1,H.2.2.1,H.2.2.2,u⟩
   ·cases F
 ·unfold tc
  simp only
  cases ha:bE P ty with
  | none=>rw[ha]at F;cases F
  | some p =>
   obtain⟨len,z⟩:=p
   rw[ha]at F
   simp only[vF]at F
   split at F
   ·rename_i H
    refine⟨H.1,H.2,?_⟩
    rename_i D _ _ j
    cases Z:D[j.toNat]? with
    | none=>rw[Z]at F;cases F
    | some n9=>rw[Z]at F;cases F;exact u
   ·cases F
 ·cases F
theorem afe {ty:TypeId} {x v:AV} {f:Nat} {K:AV->Prop} (F:A1 P h ty f x=some v) (u:K v):A0 P h ty x f K:=by
 unfold A1 at F
 unfold A0
 cases hr:ji P ty with
 | none=>rw[hr]at F;cases F
 | some l =>
  rw[hr]at F
  simp only at F ⊢
  cases O:l[f]? with
  | none=>rw[O]at F;cases F
  | some p =>
   obtain⟨o,z⟩:=p
   rw[O]at F
   simp only[LD]at F ⊢
   split at F
   ·split at F
    ·rename_i H;cases F;exact⟨H,u⟩
    ·cases F
   ·cases F;exact u
   ·cases F
theorem afg {ty:TypeId} {x v:AV} {f:Nat} {K:AV->Prop} (F:A4 P ty f x=some v) (u:K v):A3 P ty x f K:=by
 unfold A4 at F
 split at F
 ·split at F
  ·rename_i l bs hr hb
   unfold A3
   rw[hr,hb]
   simp only
   cases O:l[f]? with
   | none=>rw[O]at F;simp[Fk]at F
   | some p =>
    obtain⟨o,z⟩:=p
    cases xV:bs[f]? with
    | none=>rw[O,xV]at F;simp[Fk]at F
    | some b=>rw[O,xV]at F;exact HU F u
  ·cases F
 ·cases F
theorem ag1 {ty:TypeId} {x i v:AV} {K:AV->Prop} (F:yl P ty x i=some v) (u:K v):yk P ty x i K:=by
 unfold yl at F
 split at F
 ·unfold yk
  simp only
  cases ha:ey P ty with
  | none=>rw[ha]at F;cases F
  | some p =>
   obtain⟨len,z⟩:=p
   rw[ha]at F
   simp only at F ⊢
   split at F
   ·rename_i H;exact⟨H.1,H.2,HU F u⟩
   ·cases F
 ·unfold yk
  simp only
  split at F
  ·rename_i s k j H
   refine⟨H.1,H.2,?_⟩
   cases hb:s[j.toNat]? with
   | none=>rw[hb]at F;cases F
   | some b=>rw[hb]at F;simp at F;subst F;exact u
  ·cases F
 ·cases F
theorem jy {d:Nat} {x:Option AV} {l:Nat} {K:Nat->Prop} (F:ma d x=some l) (u:K l):hQ d x K:=by
 unfold ma at F
 split at F
 ·cases F;exact u
 ·split at F
  ·rename_i H;cases F;exact⟨H,u⟩
  ·cases F
 ·cases F
theorem arp {ty:TypeId} {x v:AV} {lo hi mx:Option AV} {K:AV->Prop} (F:qd P h ty x lo hi mx=some v) (u:K v):o0 P h ty x lo hi mx K:=by
 unfold qd at F
 split at F
 ·unfold r6 at F
  split at F
  ·rename_i l W O e8
   split at F
   ·split at F
    ·rename_i hs
     split at F
     ·rename_i H
      cases F
      unfold o0
      simp only[hs]
      exact⟨H.1,jy O (jy e8 ⟨H.2.1,H.2.2,u⟩)⟩
     ·cases F
    ·cases F
   ·split at F
    ·rename_i hs
     split at F
     ·rename_i H
      cases F
      unfold o0
      simp only[hs]
      exact⟨H.1,H.2.1,jy O (jy e8 ⟨H.2.2.1,H.2.2.2,u⟩)⟩
     ·cases F
    ·cases F
   ·split at F
    ·rename_i ha
     split at F
     ·rename_i H
      cases F
      unfold o0
      simp only[ha]
      refine⟨H.1,trivial,jy O (jy (d:=_) (l:=W) ?_ ⟨H.2.1,H.2.2,u⟩)⟩
      simpa only[kX,ha]using e8
     ·cases F
    ·cases F
   ·split at F
    ·rename_i H
     cases F
     unfold o0
     simp only
     exact⟨H.1,trivial,jy O (jy e8 ⟨H.2.1,H.2.2,u⟩)⟩
    ·cases F
   ·split at F
    ·rename_i hs
     split at F
     ·rename_i H
      cases F
      unfold o0
      simp only[hs]
      exact⟨trivial,jy O (jy e8 ⟨H.1,H.2,u⟩)⟩
     ·cases F
    ·cases F
   ·cases F
  ·cases F
 ·rename_i m
  cases hi with
  | none=>simp only[IB]at F;split at F<;>simp_all
  | some hi =>
   simp only at F
   unfold IB at F
   split at F
   ·rename_i l W tA O e8 vp
    split at F
    ·split at F
     ·rename_i hs
      split at F
      ·rename_i H
       cases F
       unfold o0
       simp only[hs]
       exact⟨H.1,jy O (jy e8 (jy vp ⟨H.2.1,H.2.2.1,H.2.2.2,u⟩))⟩
      ·cases F
     ·cases F
    ·split at F
     ·rename_i hs
      split at F
      ·rename_i H
       cases F
       unfold o0
       simp only[hs]
       exact⟨H.1,H.2.1,jy O (jy e8 (jy vp ⟨H.2.2.1,H.2.2.2.1,H.2.2.2.2,u⟩))⟩
      ·cases F
     ·cases F
    ·cases F
   ·cases F
theorem adL {ty:TypeId} {len:Nat} {ps:List (Nat×AV)} {r:AV} {d:Dl} {K:AV->Dl->Prop} (F:nZ P n mu ty len ps=some (r,d)) (u:K r d):Al P n mu ty len ps K:=by
 unfold nZ at F
 unfold Al
 split at F
 ·rename_i hs
  split at F
  ·rename_i H
   rw[hs]
   refine⟨H.1,H.2.1,H.2.2.1,H.2.2.2,?_⟩
   cases mu<;>(simp only at F ⊢;cases F;exact u)
  ·cases F
 ·cases F
theorem qx {z b:Nat} {fs:List (List AV)} {s r:AV} {d:Dl} {K:AV->Dl->Prop} (F:nW n mu z b fs (jv z s)=some (r,d)) (u:K r d):match(generalizing:=false) jv z s with
  | some D=>(D.length+fs.length)*b<=140737488355328/\D.length+fs.length<=9223372036854775807 /\
   (match(generalizing:=false) mu with
   | false=>K (.ro z (D++fs) false) []
   | true=>fs≠[]/\K (.sl (n,0) z 0 (D.length+fs.length) true) [((n,0),some (D.flatten++fs.flatten))])
  | none=>False:=by
 cases hb:jv z s with
 | none=>rw[hb]at F;simp[nW]at F
 | some D =>
  rw[hb]at F
  simp only[nW]at F
  split at F
  ·rename_i sS
   refine⟨sS.1,sS.2.1,?_⟩
   cases mu with
   | false=>simp only at F ⊢;cases F;exact u
   | true=>simp only at F ⊢;cases F;exact⟨sS.2.2 rfl,u⟩
  ·cases F
theorem ac5 {ty xt:TypeId} {s x r:AV} {d:Dl} {K:AV->Dl->Prop} (F:nX P n h mu ty xt s x=some (r,d)) (u:K r d):z9 P n h mu ty xt s x K:=by
 unfold nX at F
 unfold z9
 split at F
 ·rename_i e z hs
  split at F
  ·rename_i H
   rw[hs]
   refine⟨H.1,H.2,?_⟩
   cases hf:ez h z x with
   | none=>rw[hf]at F;simp[ju]at F
   | some fs =>
    rw[hf]at F
    cases s with
    | sl m z' off len own =>
     simp only[ju]at F
     split at F
     ·rename_i kp
      simp only
      refine⟨kp.1,kp.2,?_⟩
      cases Z:ae h m with
      | none=>rw[Z]at F;cases F
      | some cs =>
       rw[Z]at F
       simp only[uJ]at F ⊢
       split at F
       ·rename_i sS;cases F;exact⟨sS.1,sS.2.1,sS.2.2.1,sS.2.2.2,u⟩
       ·cases F
     ·cases F
    | top=>exact qx (s := .top) (n:=n) (mu:=mu) (fs:=fs) (b:=c' P e) (z:=z) F u
    | sc bp=>exact qx (s := .sc bp) (n:=n) (mu:=mu) (fs:=fs) (b:=c' P e) (z:=z) F u
    | agg bp=>exact qx (s := .agg bp) (n:=n) (mu:=mu) (fs:=fs) (b:=c' P e) (z:=z) F u
    | tup bp=>exact qx (s := .tup bp) (n:=n) (mu:=mu) (fs:=fs) (b:=c' P e) (z:=z) F u
    | ptr bp bj=>exact qx (s := .ptr bp bj) (n:=n) (mu:=mu) (fs:=fs) (b:=c' P e) (z:=z) F u
    | ip bp bj=>exact qx (s := .ip bp bj) (n:=n) (mu:=mu) (fs:=fs) (b:=c' P e) (z:=z) F u
    | ro bp bj gU=>exact qx (s := .ro bp bj gU) (n:=n) (mu:=mu) (fs:=fs) (b:=c' P e) (z:=z) F u
    | fn bp bj gU=>exact qx (s := .fn bp bj gU) (n:=n) (mu:=mu) (fs:=fs) (b:=c' P e) (z:=z) F u
    | ifc bp bj=>exact qx (s := .ifc bp bj) (n:=n) (mu:=mu) (fs:=fs) (b:=c' P e) (z:=z) F u
  ·cases F
 ·cases F
theorem aou {c a b v:AV} {K:AV->Prop} (F:yX c a b=some v) (u:K v):CP c a b K:=by
 unfold yX at F
 split at F<;>first | (cases F;simp only[CP];exact⟨fun _=>u,fun e=>(nomatch e)⟩) | (cases F;simp only[CP];exact⟨fun e=>(nomatch e),fun _=>u⟩) | cases F
theorem ajc {x v:AV} {K:AV->Prop} (F:v9 h x=some v) (u:K v):OC h x K:=by
 unfold v9 at F
 split at F
 ·split at F
  ·rename_i H;cases F;exact⟨H,u⟩
  ·cases F
 ·cases F;exact u
 ·cases F;exact u
 ·cases F
theorem adO {b:Builtin} {gQ:List TypeId} {args:List AV} {r:AV} {d:Dl} {K:AV->Dl->Prop} (F:mX P n mu h b gQ args = .ok r d) (u:K r d):ph P n mu b h gQ args K:=by
 unfold mX at F
 split at F
 ·obtain⟨A,rfl⟩:=jf F
  unfold ph
  simp only
  rename_i ty _ x _
  cases O:je P h ty x with
  | none=>rw[O]at A;cases A
  | some m=>rw[O]at A;cases A;exact u
 ·obtain⟨A,rfl⟩:=jf F
  unfold ph jU;simp only[A];exact u
 ·obtain⟨A,rfl⟩:=jf F
  unfold ph jU;simp only[A];exact u
 ·unfold ph
  exact ac5 (Gz F) u
 ·unfold ph
  simp only[Gz F]
  exact u
 ·obtain⟨g1,rfl⟩:=jf F
  unfold ph
  split<;>first
   | (simp only[uV,reduceCtorEq]at g1;done)
   | (unfold jU;simp only[g1];exact u)
theorem adP {b:Builtin} {gQ:List TypeId} {args:List AV} {f:FuncId} {a:List AV} (F:mX P n mu h b gQ args = .call f a):False:=by
 unfold mX at F
 split at F
 ·exact Cf F
 ·exact Cf F
 ·exact Cf F
 ·exact NM F
 ·exact NM F
 ·exact Cf F
theorem ZA {op:Op} {r:AV} {d:Dl} {K:AV->Dl->Prop} (F:cH P n mu t h op = .ok r d) (u:K r d):j2 P n mu op t h K:=by
 unfold cH at F
 split at F
 ·cases F;exact u
 ·cases F;exact u
 ·obtain⟨A,rfl⟩:=jf F;exact aou (K:=fun v=>K v []) A u
 ·rename_i e
  simp only[j2]
  cases hz:fE P e with
  | none=>rw[hz]at F;cases F
  | some cs=>rw[hz]at F;cases F;exact u
 ·simp only[ED]at F
  split at F
  ·rename_i H;cases F;exact⟨H,u⟩
  ·cases F
 ·obtain⟨A,rfl⟩:=jf F;exact Wb (K:=fun v=>K v []) A u
 ·obtain⟨A,rfl⟩:=ah5 F;exact arE (K:=fun d=>K (.sc undef) d) A u
 ·obtain⟨A,rfl⟩:=jf F;exact ajc (K:=fun v=>K v []) A u
 ·obtain⟨A,rfl⟩:=jf F;exact agV (K:=fun v=>K v []) A u
 ·obtain⟨A,rfl⟩:=jf F;exact afe (K:=fun v=>K v []) A u
 ·obtain⟨A,rfl⟩:=jf F;exact afg (K:=fun v=>K v []) A u
 ·obtain⟨A,rfl⟩:=jf F;exact ag1 (K:=fun v=>K v []) A u
 ·obtain⟨A,rfl⟩:=jf F
  rw[Lk,Lk,Lk]at A
  exact arp (K:=fun v=>K v []) A u
 ·obtain⟨A,rfl⟩:=jf F;simp only[j2,A,jU];exact u
 ·obtain⟨A,rfl⟩:=jf F;simp only[j2,A,jU];exact u
 ·obtain⟨A,rfl⟩:=jf F
  simp only[xv]at A
  split at A
  ·rename_i H;exact⟨H,by simp only[A,jU];exact u⟩
  ·cases A
 ·obtain⟨A,rfl⟩:=jf F
  rename_i x i
  simp only[j2]
  unfold Lx at A
  split at A
  ·rename_i vs dN
   simp only[dN,A,jU];exact u
  ·cases A
 ·cases F
  simp only[Fe]at u
  exact u
 ·obtain⟨A,rfl⟩:=jf F
  rename_i ty ps
  rw[Lm]at A
  simp only[j2]
  cases hz:fE P ty with
  | none=>rw[hz]at A;cases A
  | some cs =>
   rw[hz]at A
   simp only[EF]at A
   split at A
   ·rename_i H
    simp only
    cases hf:mj (placeOf P ty) cs (ps.toList.map fun p=>(p.1,ev t p.2))with
    | none=>rw[hf]at A;cases A
    | some bi=>rw[hf]at A;cases A;exact⟨H,u⟩
   ·cases A
 ·rw[Lm]at F
  exact adL (Gz F) u
 ·simp only[j2,Gz F];exact u
 ·rw[Fe]at F
  exact adO F u
 ·unfold EH at F
  split at F<;>cases F
 ·cases F
theorem ZB {op:Op} {f:FuncId} {args:List AV} {K:AV->Dl->Prop} (F:cH P n mu t h op = .call f args) (u:Ke P n f args h K):j2 P n mu op t h K:=by
 unfold cH at F
 split at F<;>first | cases F | (exact(Cf F).elim) | (exact(NM F).elim) | (exact(ah4 F).elim) | (exact(adP F).elim) | skip
 ·rename_i e
  cases hz:fE P e with
  | none=>rw[hz]at F;cases F
  | some cs=>rw[hz]at F;cases F
 ·simp only[ED]at F
  split at F<;>cases F
 ·rename_i x as gQ
  unfold EH at F
  split at F
  ·rename_i g xs ys dN
   cases F
   simp only[j2,dN]
   rw[Fe]at u
   exact u
  ·cases F
end
end Go.Proofs.Aw
namespace Go.Proofs.Aw
open Go
def lH (P:Program) (n:Nat) (h:Hp):cV->(AV->Dl->Prop)->Prop
 | .ok r d,K=>K r d
 | .call f args,K=>Ke P n f args h K
 | .no,_=>False
theorem ai8 {P:Program} {n:Nat} {mu:Bool} {t:Tp} {h:Hp} {op:Op} {K:AV->Dl->Prop} (u:lH P n h (cH P n mu t h op) K):j2 P n mu op t h K:=by
 cases F:cH P n mu t h op with
 | no=>rw[F]at u;exact u.elim
 | ok r d=>rw[F]at u;exact ZA F u
 | call f args=>rw[F]at u;exact ZB F u
def xQ (v:AV) (want:Bool) (ab ad:Prop):Prop :=
 match v with
 | .sc (.bool true)=>match want with | true=>ab | false=>ad
 | .sc (.bool false)=>match want with | true=>ad | false=>ab
 | .sc (.tuple _)=>ad
 | _=>False
theorem afF {v:AV} {want:Bool} {ab ad A' RJ:Prop} (hA:ab->A') (hB:ad->RJ) (u:xQ v want ab ad):xQ v want A' RJ:=by
 cases v with
 | sc x=>cases x with
  | bool b=>cases b<;>cases want<;>first | exact hA u | exact hB u
  | tuple xs=>exact hB u
  | _=>exact u.elim
 | _=>exact u.elim
theorem afE {v:AV} {want:Bool} {ab ad A':Prop} (hA:ab->A') (u:xQ v want ab ad):Fw v want A' ad:=by
 unfold xQ at u
 unfold Fw
 split at u
 ·cases want<;>simp_all
 ·cases want<;>simp_all
 ·exact u
 ·exact u.elim
def iM (P:Program) (ms:List Nat) (ops:List Oper):List Oper->(St->Prop)->Tp->Hp->Nat->Prop
 | [],K,t,h,nx=>K ⟨t,h,nx⟩
 | o::l,K,t,h,nx =>
  match o.guard with
  | none=>lH P nx h (cH P nx (o.dst.any ms.contains) t h o.op) fun r d=>iM P ms ops l K (gP o.dst r t) (aE d h) (nx+1)
  | some (j,want)=>xQ (yv ops t j) want
    (lH P nx h (cH P nx (o.dst.any ms.contains) t h o.op) fun r d=>iM P ms ops l K (gP o.dst r t) (aE d h) (nx+1))
    (iM P ms ops l K (gP o.dst (.sc undef) t) h nx)
theorem D' {P:Program} {ms:List Nat} {ops:List Oper} {K:St->Prop}:∀(l:List Oper) (t:Tp) (h:Hp) (nx:Nat),iM P ms ops l K t h nx->nN P ms ops l K ⟨t,h,nx⟩
 | [],_,_,_,u=>u
 | o::l,t,h,nx,u=>by
  unfold iM at u
  unfold nN
  have go:lH P nx h (cH P nx (o.dst.any ms.contains) t h o.op) (fun r d=>iM P ms ops l K (gP o.dst r t) (aE d h) (nx+1))->j2 P nx (o.dst.any ms.contains) o.op t h fun r d=>nN P ms ops l K ⟨gP o.dst r t,aE d h,nx+1⟩:=fun W=>by
   refine ai8 ?_
   cases F:cH P nx (o.dst.any ms.contains) t h o.op with
   | no=>rw[F]at W;exact W.elim
   | ok r d=>rw[F]at W;exact D' l _ _ _ W
   | call f args =>
    rw[F]at W
    obtain⟨r,d,A,E,h3⟩:=W
    exact⟨r,d,A,E,D' l _ _ _ h3⟩
  cases Z:o.guard with
  | none=>rw[Z]at u;exact go u
  | some pI =>
   obtain⟨j,want⟩:=pI
   rw[Z]at u
   simp only at u ⊢
   exact afE go (afF id (D' l _ _ _) u)
def WZ (P:Program) (ms:List Nat) (ops l:List Oper) (K:St->Prop) (dst:Option Tmp) (t:Tp) (h:Hp) (nx:Nat) (Pi:cV):Prop:=lH P nx h Pi fun r d=>iM P ms ops l K (gP dst r t) (aE d h) (nx+1)
section
variable {P:Program} {ms:List Nat} {ops l:List Oper} {K:St->Prop} {t:Tp} {h:Hp} {nx:Nat} {dst:Option Tmp} {op:Op} {mu:Bool} {ty:TypeId} {pos:String} {D:Array Edge}
theorem j4:iM P ms ops (⟨dst,op,ty,pos,D,none⟩::l) K t h nx=WZ P ms ops l K dst t h nx (cH P nx (dst.any ms.contains) t h op):=by unfold WZ;exact rfl
end
theorem ux {P:Program} {ac:Env} {Q:Exit->St->Prop} {t:Tp} {h:Hp} {nx:Nat} {id:Nat} {ops:List Oper} (ms:List Nat) (hf:fits ac.N ops=true) (u:iM P ms ops ops (Q .normal) t h nx):AW P ac (.region id ops.toArray false) Q ⟨t,h,nx⟩:=abw ms hf (D' ops t h nx u)
def uA (P:Program) (ms:List Nat) (ops:List Oper) (nx:Nat) (t0:Tp) (h0:Hp) (K:Tp->Hp->Prop):List Oper->List En->Nat->Prop
 | [],D,_=>K (b5 (fun _=>true) D t0) (aL (fun _=>true) D h0)
 | o::l,D,cJ=>∀mk,rA D o.after.toList=mk->(mk<2 ^ D.length/\(cJ &&& mk)=cJ) /\
  match o.guard with
  | none=>lH P (nx+D.length) (aL mk.testBit D h0) (cH P (nx+D.length) (o.dst.any ms.contains) (b5 mk.testBit D t0) (aL mk.testBit D h0) o.op) fun r d =>
    if er (nx+D.length) d=true then uA P ms ops nx t0 h0 K l (⟨o.dst,r,d,mk⟩::D) cJ
    else mk+1=2 ^ D.length/\uA P ms ops nx t0 h0 K l (⟨o.dst,r,d,mk⟩::D) (cJ ||| 2 ^ D.length)
  | some (j,want)=>xQ (yv ops (b5 mk.testBit D t0) j) want
    (lH P (nx+D.length) (aL mk.testBit D h0) (cH P (nx+D.length) (o.dst.any ms.contains) (b5 mk.testBit D t0) (aL mk.testBit D h0) o.op) fun r d =>
     if er (nx+D.length) d=true then uA P ms ops nx t0 h0 K l (⟨o.dst,r,d,mk⟩::D) cJ
     else mk+1=2 ^ D.length/\uA P ms ops nx t0 h0 K l (⟨o.dst,r,d,mk⟩::D) (cJ ||| 2 ^ D.length))
    (uA P ms ops nx t0 h0 K l (⟨o.dst,.sc undef,[],mk⟩::D) cJ)
def HQ (P:Program) (ms:List Nat) (ops:List Oper) (nx:Nat) (t0:Tp) (h0:Hp) (K:Tp->Hp->Prop) (l:List Oper) (dst:Option Tmp) (D:List En) (cJ mk:Nat) (r:AV) (d:Dl) (fresh:Bool):Prop :=
 if fresh=true then uA P ms ops nx t0 h0 K l (⟨dst,r,d,mk⟩::D) cJ else mk+1=2 ^ D.length/\uA P ms ops nx t0 h0 K l (⟨dst,r,d,mk⟩::D) (cJ ||| 2 ^ D.length)
def Oz (P:Program) (ms:List Nat) (ops:List Oper) (nx:Nat) (t0:Tp) (h0:Hp) (K:Tp->Hp->Prop) (l:List Oper) (dst:Option Tmp) (D:List En) (cJ mk k:Nat) (h:Hp) (Pi:cV):Prop :=
 lH P k h Pi fun r d=>HQ P ms ops nx t0 h0 K l dst D cJ mk r d (er k d)
section
variable {P:Program} {ms:List Nat} {ops l:List Oper} {nx:Nat} {t0:Tp} {h0:Hp} {K:Tp->Hp->Prop} {D:List En} {cJ mk k:Nat} {dst:Option Tmp} {op:Op} {mu:Bool} {ty:TypeId} {pos:String} {ed:Array Edge} {o:Oper}
end
end Go.Proofs.Aw
namespace Go.Proofs.Aw
open Go
def ib (n:Nat) (aF:Nat->Nm) (m:Nm):Nm:=if m.1=n then aF m.2 else m
def eg (n:Nat) (hs:Hp) (m:Nm):Bool:=m.1==n||(ae hs m).isSome
def RT (P:Program) (rs:List ResultVar) (n:Nat) (aF:Nat->Nm) (hs h':Hp) (r:AV) (e:Exit) (V:St):Prop :=
 (e = .ret\/e = .normal)/\(kW P V rs fun vs=>oneOf vs=aW (ib n aF) r)/\∀m cs,ae h' m=some cs->eg n hs m=true->ae V.h (ib n aF m)=some (bu (ib n aF) cs)
theorem RO {P : Program} {f : FuncId} {fn : Func} {c : Code} {args : List AV} {r : AV} {n : Nat} {hs h0 : Hp} {d : Dl} (aF : Nat -> Nm) (hf : P.funcs[f]? = some fn) (hb : fn.body = some c) (hN : args.length <= fn.ntmps)
    (mq : ∀ m cs, ae hs m = some cs -> ae h0 m = some cs) (aT : ∀ m cs, ae hs m = some cs -> m.1 < n /\ a4 (fun k => Nat.blt k.1 n) cs = true) (hA : a4 (fun k => Nat.blt k.1 n) args = true)
    (xZ : ∀ m, m ∈ d.map (·.1) -> m.1 = n \/ (ae hs m).isSome = true) (x0 : ∀ m, (ae hs m).isSome = true -> m ∈ d.map (·.1))
    (hR : ca (eg n hs) r = true) (hC : ∀ m cs, ae (aE d h0) m = some cs -> eg n hs m = true -> a4 (eg n hs) cs = true)
    (VC : ∀ k, (ae (aE d h0) (n, k)).isSome = true -> n < (aF k).1) (agQ : ∀ j k, (ae (aE d h0) (n, j)).isSome = true -> (ae (aE d h0) (n, k)).isSome = true -> aF j = aF k -> j = k)
    (h : ∀ ac : Env, ac.N = fn.ntmps -> AW P ac c (RT P fn.results.toList n aF hs (aE d h0) r) ⟨gN 0 args, hs, n + 1⟩) : CY P n f args h0 r d := by
  intro C vs W hL hn
  refine calls_of_wp hf hb ?_
  let C0 : Ctx := { ρ := C.ρ, bs := C.bs, live := fun m => (ae hs m).isSome = true, kn := fun m => m.1 < n + 1, mt := C.mt, w := C.w }
  let ac : Env := { N := fn.ntmps, w0 := C.w, wr := fun b => ∃ m, (ae hs m).isSome = true /\ b = C.ρ m, Od := C.mt, c0 := C0 }
  have hlen : vs.length = args.length := hL.length.symm
  have d9 : ∀ m, (ae hs m).isSome = true -> C.live m := fun m hm => by
    obtain ⟨cs, aI⟩ := Option.isSome_iff_exists.1 hm
    exact W.get (mq m cs aI)
  have F2 : ∀ m, (ae hs m).isSome = true -> m.1 < n := fun m hm => by
    obtain ⟨cs, aI⟩ := Option.isSome_iff_exists.1 hm
    exact (aT m cs aI).1
  have sub0 : C.sub C0 id (fun k => Nat.blt k.1 n) := ⟨rfl, fun _ _ h => h, fun m hm _ => by simp only [Nat.blt_eq] at hm; exact Nat.lt_succ_of_lt hm, fun m _ _ hm => ⟨d9 m hm, rfl, rfl⟩⟩
  have L3 : aD C0 args vs := aD.aW sub0 args vs hA (by rw [p_]; exact hL)
  have hH0 : c6 C0 hs := by
    refine ⟨fun m => Iff.rfl, fun m cs Z => ?_, fun m m' hm a1 F => W.inj m m' (d9 m hm) (d9 m' a1) F, fun m hm => W.mt m (d9 m hm), fun m hm => Nat.lt_succ_of_lt (F2 m hm)⟩
    obtain ⟨arr, ty, ha, H⟩ := W.obj m cs (mq m cs Z)
    refine ⟨arr, ty, ha, fun j c M => ?_⟩
    obtain ⟨u', a3, kr⟩ := H j c M
    exact ⟨u', a3, ak.aW sub0 c u' (pW (aT m cs Z).2 M) (by rw [zb]; exact kr)⟩
  have BR : Rel ac ⟨gN 0 args, hs, n + 1⟩ { tmps := vs.toArray ++ Array.replicate (fn.ntmps - vs.toArray.size) undef, defers := [] } C.w := by
    refine ⟨C0, rfl, hH0, ?_, ?_, rfl, fun m hm => hm, ⟨rfl, rfl, rfl, Nat.le_refl _, fun _ _ _ => rfl, fun _ _ => Iff.rfl, fun m hm _ => ⟨m, hm, rfl⟩, Ctx.le.refl _⟩⟩
    · refine JJ 0 args vs _ L3 fun i v R => ?_
      have hi := (List.getElem?_eq_some_iff.1 R).1
      rw [Nat.zero_add, Array.getElem?_append_left (by simpa using hi)]
      simpa using R
    · simp [ac]; omega
  refine Code.wp_mono ?_ (h ac rfl _ _ BR)
  rintro e bz w' ⟨aM, ⟨Cb, rfl, df⟩, F, MI, om⟩
  obtain ⟨us, Y, bJ, a', fL⟩ := Y3 df.heap df.t MI
  have pC : ∀ m, C.live m -> m.1 ≠ n := fun m hm e => hn m.2 (by have := W.kn m hm; rwa [show m = (n, m.2) from by rw [<- e]] at this)
  have hold : ∀ m, m.1 ≠ n -> (ae hs m).isSome = false -> ae (aE d h0) m = ae h0 m := fun m A E => gC d h0 m fun hm => by
    rcases xZ m hm with h3 | h3
    · exact A h3
    · rw [E] at h3; cases h3
  let C' : Ctx := { ρ := fun m => if m.1 = n then Cb.ρ (aF m.2) else C.ρ m, bs := fun m => if m.1 = n then Cb.bs (aF m.2) else C.bs m, live := fun m => (ae (aE d h0) m).isSome = true, kn := fun m => C.kn m \/ m.1 = n,
                    mt := fun b => (C.mt b /\ b < C.w.heap.size) \/ ∃ k, (ae (aE d h0) (n, k)).isSome = true /\ b = Cb.ρ (aF k), w := Cb.w }
  have vV : ∀ m, (ae (aE d h0) m).isSome = true -> eg n hs m = true -> Cb.live (ib n aF m) := fun m hm hp => by
    obtain ⟨cs, aI⟩ := Option.isSome_iff_exists.1 hm
    exact df.heap.get (om m cs aI hp)
  have jP : ∀ k, (ae (aE d h0) (n, k)).isSome = true -> Cb.live (aF k) := fun k u => by
    have := vV (n, k) u (by simp [eg])
    simpa [ib] using this
  have nl : ∀ m, m.1 ≠ n -> (ae hs m).isSome = true -> (ae (aE d h0) m).isSome = true -> Cb.live m /\ Cb.ρ m = C.ρ m /\ Cb.bs m = C.bs m := fun m A E h3 => by
    have := vV m h3 (by simp [eg, E])
    rw [show ib n aF m = m from by simp [ib, A]] at this
    exact ⟨this, (df.frame.le.live m (Nat.lt_succ_of_lt (F2 m E)) this).2⟩
  have h9 : ∀ m, m.1 ≠ n -> (ae (aE d h0) m).isSome = true -> C.live m := fun m A h3 => by
    cases E : (ae hs m).isSome with
    | true => exact d9 m E
    | false =>
      rw [hold m A E] at h3
      exact (W.live m).2 h3
  have fm : ∀ b, b < C.w.heap.size -> (∀ m, (ae hs m).isSome = true -> b ≠ C.ρ m) -> Cb.w.heap[b]? = C.w.heap[b]? := fun b hb ay => df.frame.same b hb (fun ⟨m, hm, e⟩ => ay m hm e)
  have le : C.le C' := by
    refine ⟨df.frame.size, fun b hb hm => df.frame.le.same b hb hm, fun b hb hm => ?_, fun _ h => .inl h, fun m u O => ?_, fun m u O cs ty H => ?_⟩
    · rcases hm with A | ⟨k, u, A⟩
      · exact A.1
      · exact (df.frame.mt b hb).1 (by rw [A]; exact df.heap.mt _ (jP k u))
    · have hm : m.1 ≠ n := fun e => hn m.2 (by rwa [show m = (n, m.2) from by rw [<- e]] at u)
      exact ⟨h9 m hm O, by simp [C', hm], by simp [C', hm]⟩
    · have hm : m.1 ≠ n := fun e => hn m.2 (by rwa [show m = (n, m.2) from by rw [<- e]] at u)
      have ol := h9 m hm O
      have hb : C.ρ m < C.w.heap.size := W.lt ol
      cases E : (ae hs m).isSome with
      | true => exact df.frame.le.own m (Nat.lt_succ_of_lt (F2 m E)) (nl m hm E O).1 cs ty H
      | false =>
        refine ⟨cs, ty, (fm _ hb fun m' a1 e => ?_).trans H, rfl⟩
        have := W.inj m m' ol (d9 m' a1) e
        subst this
        rw [E] at a1; cases a1
  have sub : Cb.sub C' (ib n aF) (eg n hs) := by
    refine ⟨rfl, fun b hb hm => ?_, fun m hp _ => ?_, fun m hp u O => ?_⟩
    · rcases hm with A | ⟨k, u, A⟩
      · exact (df.frame.mt b A.2).2 A.1
      · rw [A]; exact df.heap.mt _ (jP k u)
    · simp only [eg, Bool.or_eq_true, beq_iff_eq] at hp
      rcases hp with A | A
      · exact .inr A
      · exact .inl (W.kn m (d9 m A))
    · refine ⟨vV m O hp, ?_⟩
      by_cases A : m.1 = n
      · simp [C', ib, A]
      · simp only [eg, Bool.or_eq_true, beq_iff_eq] at hp
        have E := hp.resolve_left A
        simp only [C', ib, A, if_false]
        exact ⟨(nl m A E O).2.1.symm, (nl m A E O).2.2.symm⟩
  have oe : ak C' r Y := ak.aW sub _ Y hR (by rw [<- fL]; exact a')
  have BP : c8 C n h0 r d Y C' := by
    refine ⟨le, fun _ => Iff.rfl, ⟨fun m => Iff.rfl, fun m cs Z => ?_, fun m m' hm a1 F => ?_, fun m hm => ?_, fun m hm => ?_⟩, oe, fun b hb ay => ?_, fun b hb => ?_, df.frame.os, df.frame.tape, df.frame.output, fun m hm => ?_, fun m hm => ?_⟩
    · cases hp : eg n hs m with
      | true =>
        obtain ⟨arr, ty, ha, H⟩ := df.heap.obj _ _ (om m cs Z hp)
        have iD : C'.ρ m = Cb.ρ (ib n aF m) := by
          by_cases A : m.1 = n
          · simp [C', ib, A]
          · simp only [eg, Bool.or_eq_true, beq_iff_eq] at hp
            simp only [C', ib, A, if_false]
            exact (nl m A (hp.resolve_left A) (by rw [Z]; rfl)).2.1.symm
        have od : C'.bs m = Cb.bs (ib n aF m) := by
          by_cases A : m.1 = n
          · simp [C', ib, A]
          · simp only [eg, Bool.or_eq_true, beq_iff_eq] at hp
            simp only [C', ib, A, if_false]
            exact (nl m A (hp.resolve_left A) (by rw [Z]; rfl)).2.2.symm
        refine ⟨arr, ty, by rw [iD]; exact ha, fun j c M => ?_⟩
        obtain ⟨u', a3, kr⟩ := H j _ (za _ cs j c M)
        exact ⟨u', by rw [od]; exact a3, ak.aW sub c u' (pW (hC m cs Z hp) M) kr⟩
      | false =>
        simp only [eg, Bool.or_eq_false_iff, beq_eq_false_iff_ne, ne_eq] at hp
        have g8 := Z
        rw [hold m hp.1 hp.2] at g8
        have O := W.get g8
        obtain ⟨arr, ty, ha, H⟩ := W.obj m cs g8
        refine ⟨arr, ty, ?_, fun j c M => ?_⟩
        · simp only [C', hp.1, if_false]
          refine (fm _ (W.lt O) fun m' a1 e => ?_).trans ha
          have := W.inj m m' O (d9 m' a1) e
          subst this
          rw [hp.2] at a1; cases a1
        · obtain ⟨u', a3, kr⟩ := H j c M
          exact ⟨u', by simp only [C', hp.1, if_false]; exact a3, kr.mono le⟩
    · have oldρ : ∀ m, m.1 ≠ n -> (ae (aE d h0) m).isSome = true -> ∀ k, (ae (aE d h0) (n, k)).isSome = true -> Cb.ρ (aF k) = C.ρ m -> False := fun m A h3 k u e => by
        cases E : (ae hs m).isSome with
        | true =>
          obtain ⟨l1, e1, _⟩ := nl m A E h3
          have := df.heap.inj _ _ (jP k u) l1 (by rw [e, e1])
          have h4 := VC k u
          have h5 := F2 m E
          rw [this] at h4
          omega
        | false =>
          have ol := h9 m A h3
          have hb := W.lt ol
          obtain ⟨m', a1, e'⟩ := df.frame.wr _ (jP k u) (by rw [e]; exact hb)
          have := W.inj m m' ol (d9 m' a1) (by rw [<- e, e'])
          subst this
          rw [E] at a1; cases a1
      by_cases A : m.1 = n <;> by_cases E : m'.1 = n
      · have dI : (ae (aE d h0) (n, m.2)).isSome = true := by rw [show (n, m.2) = m from by rw [<- A]]; exact hm
        have dW : (ae (aE d h0) (n, m'.2)).isSome = true := by rw [show (n, m'.2) = m' from by rw [<- E]]; exact a1
        simp only [C', A, E, if_true] at F
        have e1 := df.heap.inj _ _ (jP _ dI) (jP _ dW) F
        exact Prod.ext (A.trans E.symm) (agQ _ _ dI dW e1)
      · have dI : (ae (aE d h0) (n, m.2)).isSome = true := by rw [show (n, m.2) = m from by rw [<- A]]; exact hm
        simp only [C', A, E, if_true, if_false] at F
        exact (oldρ m' E a1 _ dI F).elim
      · have dW : (ae (aE d h0) (n, m'.2)).isSome = true := by rw [show (n, m'.2) = m' from by rw [<- E]]; exact a1
        simp only [C', A, E, if_true, if_false] at F
        exact (oldρ m A hm _ dW F.symm).elim
      · simp only [C', A, E, if_false] at F
        exact W.inj m m' (h9 m A hm) (h9 m' E a1) F
    · by_cases A : m.1 = n
      · have dI : (ae (aE d h0) (n, m.2)).isSome = true := by rw [show (n, m.2) = m from by rw [<- A]]; exact hm
        simp only [C', A, if_true]
        exact .inr ⟨m.2, dI, rfl⟩
      · simp only [C', A, if_false]
        exact .inl ⟨W.mt m (h9 m A hm), W.lt (h9 m A hm)⟩
    · by_cases A : m.1 = n
      · exact .inr A
      · exact .inl (W.kn m (h9 m A hm))
    · exact fm b hb fun m hm => ay m (x0 m hm) (d9 m hm)
    · constructor
      · rintro (A | ⟨k, u, A⟩)
        · exact A.1
        · exact (df.frame.mt b hb).1 (by rw [A]; exact df.heap.mt _ (jP k u))
      · intro A; exact .inl ⟨A, hb⟩
    · by_cases A : m.1 = n
      · have dI : (ae (aE d h0) (n, m.2)).isSome = true := by rw [show (n, m.2) = m from by rw [<- A]]; exact hm
        simp only [C', A, if_true]
        rcases Nat.lt_or_ge (Cb.ρ (aF m.2)) C.w.heap.size with E | E
        · obtain ⟨m', a1, e'⟩ := df.frame.wr _ (jP _ dI) E
          exact .inr (.inr ⟨m', x0 m' a1, d9 m' a1, e'⟩)
        · exact .inr (.inl E)
      · exact .inl ⟨h9 m A hm, by simp only [C', A, if_false]⟩
    · rcases xZ m hm with A | A
      · exact .inr A
      · exact .inl (d9 m A)
  rcases F with rfl | rfl
  · exact ⟨df.defers, Y, bJ, Y, C', rfl, rfl, BP⟩
  · exact ⟨df.defers, Y, bJ, Y, C', rfl, rfl, BP⟩
end Go.Proofs.Aw
namespace Go.Proofs.Aw
open Go
variable {P:Program} {ac:Env} {Q:Exit->St->Prop} {V aM:St}
theorem RG {c:Code} (h:(∀m,ac.c0.kn m->m.1<V.nx)->AW P ac c Q V):AW P ac c Q V:=fun a w hr=>by
 obtain⟨C,rfl,hC⟩:=hr
 exact h (fun m hm=>hC.kn m (hC.frame.le.kn m hm)) a C.w ⟨C,rfl,hC⟩
def Ctx.named (C:Ctx) (f:Nm->Nm) (h:Hp) (nx:Nat):Ctx where
 ρ:=fun m=>C.ρ (f m)
 bs:=fun m=>C.bs (f m)
 live:=fun m=>(ae h m).isSome=true
 kn:=fun m=>m.1<nx
 mt:=C.mt
 w:=C.w
theorem JC (f : Nm -> Nm) {k0 : Nat} (hb : ∀ m, ac.c0.kn m -> m.1 < k0) (hf : ∀ m : Nm, m.1 < k0 -> f m = m) (eV : k0 <= aM.nx)
    (ht : ∀ i, bU aM.t i = .top \/ (ca (fun m => Nat.blt m.1 aM.nx) (bU aM.t i) = true /\ bU V.t i = aW f (bU aM.t i)))
    (W : ∀ m cs, ae aM.h m = some cs -> a4 (fun m => Nat.blt m.1 aM.nx) cs = true /\ m.1 < aM.nx /\ ae V.h (f m) = some (bu f cs))
    (qZ : ∀ m m', (ae aM.h m).isSome = true -> (ae aM.h m').isSome = true -> f m = f m' -> m = m') : dL ac V aM := fun a w hr => by
  obtain ⟨C, rfl, hC⟩ := hr
  have gF : ∀ m, (ae aM.h m).isSome = true -> C.live (f m) := fun m hm => by
    obtain ⟨cs, aI⟩ := Option.isSome_iff_exists.1 hm
    exact hC.heap.get (W m cs aI).2.2
  have mq : C.sub (C.named f aM.h aM.nx) f (fun m => Nat.blt m.1 aM.nx) :=
    { w := rfl, mt := fun b _ h => h, kn := fun m hp _ => (by simpa using hp : m.1 < aM.nx), live := fun m _ _ O => ⟨gF m O, rfl, rfl⟩ }
  refine ⟨C.named f aM.h aM.nx, rfl, ?_⟩
  have lu : ∀ m cs, ae aM.h m = some cs -> JG (C.named f aM.h aM.nx) (C.ρ (f m)) (C.bs (f m)) cs := fun m cs aI => by
    obtain ⟨A, _, h3⟩ := W m cs aI
    obtain ⟨arr, ty, h4, h5⟩ := hC.heap.obj _ _ h3
    refine ⟨arr, ty, h4, fun j c M => ?_⟩
    obtain ⟨Y, hu, H⟩ := h5 j _ (za f cs j c M)
    exact ⟨Y, hu, ak.aW mq c Y (pW A M) H⟩
  exact {
    heap := { live := fun n => Iff.rfl, obj := lu, inj := fun n m hn hm F => qZ n m hn hm (hC.heap.inj _ _ (gF n hn) (gF m hm) F), mt := fun n hn => hC.heap.mt _ (gF n hn),
              kn := fun n hn => by
                obtain ⟨cs, aI⟩ := Option.isSome_iff_exists.1 hn
                exact (W n cs aI).2.1 }
    t := fun i => by
      rcases ht i with h | ⟨A, E⟩
      · rw [h]; simp only [ak]
      · have := hC.t i
        rw [E] at this
        exact ak.aW mq _ _ A this
    size := hC.size
    defers := hC.defers
    kn := fun m hm => hm
    frame := { os := hC.frame.os, tape := hC.frame.tape, output := hC.frame.output, size := hC.frame.size, same := hC.frame.same, mt := hC.frame.mt,
               wr := fun n hn => hC.frame.wr _ (gF n hn),
               le := { size := hC.frame.le.size, same := hC.frame.le.same, mt := hC.frame.le.mt, kn := fun i hi => Nat.lt_of_lt_of_le (hb i hi) eV,
                       live := fun n hn O => by
                         have vj := hf n (hb n hn)
                         have := gF n O
                         rw [vj] at this
                         obtain ⟨A, E⟩ := hC.frame.le.live n hn this
                         exact ⟨A, by show C.ρ (f n) = _; rw [vj]; exact E.1, by show C.bs (f n) = _; rw [vj]; exact E.2⟩
                       own := fun n hn O => by
                         have vj := hf n (hb n hn)
                         have := gF n O
                         rw [vj] at this
                         exact hC.frame.le.own n hn this } } }
end Go.Proofs.Aw
namespace Go.Proofs.Aw
open Go
mutual
def HH:AV->Bool
 | .top=>true
 | .sc _=>true
 | .agg cs=>wy cs
 | .tup cs=>wy cs
 | .ro _ [] _=>true
 | _=>false
def wy:List AV->Bool
 | []=>true
 | v::vs=>HH v&&wy vs
end
mutual
theorem ak.plain {C C':Ctx}:∀(v:AV) (Y:Value),HH v=true->ak C v Y->ak C' v Y
 | .top,_,_,_=>by simp only[ak]
 | .sc _,_,_,h=>h
 | .agg cs,_,hp,⟨us,e,h⟩=>⟨us,e,aD.plain cs _ hp h⟩
 | .tup cs,_,hp,⟨us,e,h⟩=>⟨us,e,aD.plain cs _ hp h⟩
 | .ptr _ _,_,hp,_=>by cases hp
 | .sl _ _ _ _ _,_,hp,_=>by cases hp
 | .ip _ _,_,hp,_=>by cases hp
 | .ro _ [] _,_,_,⟨ab,cap,A,E,h3,_⟩=>⟨ab,cap,A,E,h3,fun h=>absurd rfl h⟩
 | .ro _ (_::_) _,_,hp,_=>by cases hp
 | .fn _ _ _,_,hp,_=>by cases hp
 | .ifc _ _,_,hp,_=>by cases hp
theorem aD.plain {C C':Ctx}:∀(vs:List AV) (us:List Value),wy vs=true->aD C vs us->aD C' vs us
 | [],_,_,h=>h
 | v::vs,_,hp,⟨Y,us,e,A,E⟩=>by
  simp only[wy,Bool.and_eq_true]at hp
  exact⟨Y,us,e,ak.plain v Y hp.1 A,aD.plain vs us hp.2 E⟩
end
def so (h:Hp) (v v':AV):Prop :=
 (v' = .top\/v'=v/\ca (fun _=>false) v=true)\/∃m z off len own fs,v = .sl m z off len own/\0<z/\ez h z v=some fs/\cw (fun _=>false) fs=true/\v' = .ro z fs false
def lZ (h:Hp):List AV->List AV->Prop
 | [],cn=>cn=[]
 | v::vs,l=>∃v' cn,l=v'::cn/\so h v v'/\lZ h vs cn
theorem lZ.get {h:Hp}:∀{vs cn:List AV},lZ h vs cn->∀(j:Nat) (c:AV),cn[j]? = some c->∃d,vs[j]? = some d/\so h d c
 | [],_,hf,j,c,H=>by simp only[lZ]at hf;subst hf;simp at H
 | v::vs,_,⟨v',cn,rfl,A,E⟩,0,c,H=>by simp at H;subst H;exact⟨v,rfl,A⟩
 | v::vs,_,⟨v',cn,rfl,A,E⟩,j+1,c,H=>by simpa using lZ.get E j c (by simpa using H)
def Ed (h:Hp) (v v':AV):Prop:=so h v v'\/(∃m off cs fs,v = .ptr m off/\ae h m=some cs/\lZ h cs fs/\v' = .ip fs off)\/∃cs fs,v = .agg cs/\lZ h cs fs/\v' = .agg fs
def w3 (h:Hp):List AV->List AV->Prop
 | [],cn=>cn=[]
 | v::vs,l=>∃v' cn,l=v'::cn/\Ed h v v'/\w3 h vs cn
def JB (h:Hp) (v v':AV):Prop:=Ed h v v'\/∃f xs ys v6 wl,v = .fn f xs ys/\w3 h xs v6/\w3 h ys wl/\v' = .fn f v6 wl
def w2 (h:Hp):List AV->List AV->Prop
 | [],cn=>cn=[]
 | v::vs,l=>∃v' cn,l=v'::cn/\JB h v v'/\w2 h vs cn
def Ctx.bare (C:Ctx):Ctx:={ ρ:=C.ρ,bs:=C.bs,live:=fun _=>False,kn:=fun _=>False,mt:=fun _=>False,w:=C.w }
theorem Ctx.Sl (C:Ctx):C.sub C.bare id (fun _=>false):=⟨rfl,fun _ _ h=>h.elim,fun _ hm=>(nomatch hm),fun _ hm=>(nomatch hm)⟩
theorem W4 {p:Nm->Bool}:∀{D:List (List AV)} {i:Nat} {e:List AV},cw p D=true->D[i]? = some e->a4 p e=true
 | [],i,e,_,h=>by simp at h
 | d::D,0,e,hp,h=>by simp only[cw,Bool.and_eq_true]at hp;simp at h;rw[<-h];exact hp.1
 | d::D,i+1,e,hp,h=>by simp only[cw,Bool.and_eq_true]at hp;exact W4 hp.2 (by simpa using h)
theorem KB {C:Ctx} {h:Hp} (W:c6 C h) {v v':AV} {Y:Value} (hf:so h v v') (H:ak C v Y):ak C.bare v' Y:=by
 rcases hf with(rfl | ⟨rfl,hn⟩) | ⟨m,z,off,len,own,fs,rfl,h0,F,hn,rfl⟩
 ·simp only[ak]
 ·exact ak.aW C.Sl _ Y hn (by rw[zb];exact H)
 ·simp only[ez]at F
  obtain⟨cs,Z,F⟩:=Option.bind_eq_some_iff.1 F
  split at F
  ·rename_i hz
   cases F
   obtain⟨_,_,O⟩:=H
   have gF:=W.get Z
   obtain⟨cap,o,rfl,a0,q',_⟩:=O gF
   obtain⟨arr,ty,hb,hY⟩:=W.obj _ _ Z
   refine iU.2 ⟨some ⟨C.ρ m,o,none⟩,cap,by rw[qE],by rw[qE];exact a0,(fun hx=>nomatch hx),fun ay=>⟨_,rfl,?_,(fun hx=>hx),?_⟩⟩
   ·have:=(Array.getElem?_eq_some_iff.1 hb).1
    exact this
   ·have hlen:0<len:=by
     rcases Nat.eq_zero_or_pos len with A | A
     ·subst A;exact absurd rfl ay
     ·exact A
    obtain rfl:o=C.bs m+off:=by
     rcases q' with A | A
     ·exact A
     ·omega
    refine dR.mk fun j e M => ?_
    have gE:=AA z len _ j e M
    have cu:j*z+z<=len*z:=by rw[<-Nat.succ_mul];exact Nat.mul_le_mul_right z gE.1
    have sT:e.length=z:=by
     rw[gE.2];simp only[List.length_take,List.length_drop];omega
    refine⟨sT,dC.mk fun k c u => ?_⟩
    have aJ:k<z:=by
     have:=(List.getElem?_eq_some_iff.1 u).1
     omega
    have lu:cs[off+(j*z+k)]? = some c:=by
     rw[gE.2,List.getElem?_take,if_pos aJ,List.getElem?_drop,List.getElem?_drop]at u
     exact u
    obtain⟨Y,hu,kq⟩:=yR (C:=C) (b:=C.ρ m) (k:=C.bs m) (cs:=cs) ⟨arr,ty,hb,hY⟩ _ _ lu
    refine⟨Y,?_,ak.aW C.Sl c Y (pW (W4 hn M) u) (by rw[zb];exact kq)⟩
    simp only[j_]at hu ⊢
    have e1:C.bs m+off+(0+j)*z+(0+k)=C.bs m+(off+(j*z+k)):=by simp only[Nat.zero_add];omega
    rw[e1]
    exact hu
  ·cases F
theorem SW {C:Ctx} {h:Hp} (W:c6 C h):∀{vs cn:List AV} {us:List Value},lZ h vs cn->aD C vs us->aD C.bare cn us
 | [],_,us,hf,H=>by simp only[lZ]at hf;subst hf;exact H
 | v::vs,_,us,⟨v',cn,rfl,A,E⟩,H=>by
  obtain⟨Y,he,rfl,e7,kp⟩:=H
  exact⟨Y,he,rfl,KB W A e7,SW W E kp⟩
theorem S1 {C:Ctx} {h:Hp} (W:c6 C h) {v v':AV} {Y:Value} (hf:Ed h v v') (H:ak C v Y):ak C.bare v' Y:=by
 rcases hf with hf | ⟨m,off,cs,fs,rfl,Z,O,rfl⟩ | ⟨cs,fs,rfl,O,rfl⟩
 ·exact KB W hf H
 ·simp only[ak]at H ⊢
  have gF:=W.get Z
  refine⟨⟨C.ρ m,C.bs m,none⟩,?_,W.lt gF,(fun hx=>hx),dC.mk fun j c M => ?_⟩
  ·rw[H.2.2 gF,j_]
  ·obtain⟨d,hd,hf⟩:=O.get j c M
   obtain⟨Y,hu,a'⟩:=yR (W.obj m cs Z) j d hd
   rw[Nat.zero_add]
   exact⟨Y,hu,KB W hf a'⟩
 ·obtain⟨us,e,H⟩:=H
  exact⟨us,e,SW W O H⟩
theorem Kz {C:Ctx} {h:Hp} (W:c6 C h):∀{vs cn:List AV} {us:List Value},w3 h vs cn->aD C vs us->aD C.bare cn us
 | [],_,us,hf,H=>by simp only[w3]at hf;subst hf;exact H
 | v::vs,_,us,⟨v',cn,rfl,A,E⟩,H=>by
  obtain⟨Y,he,rfl,e7,kp⟩:=H
  exact⟨Y,he,rfl,S1 W A e7,Kz W E kp⟩
theorem aea {C:Ctx} {h:Hp} (W:c6 C h) {v v':AV} {Y:Value} (hf:JB h v v') (H:ak C v Y):ak C.bare v' Y:=by
 rcases hf with hf | ⟨f,xs,ys,v6,wl,rfl,A,E,rfl⟩
 ·exact S1 W hf H
 ·simp only[ak]at H ⊢
  obtain⟨us,vs,e,c1,c2⟩:=H
  exact⟨us,vs,e,Kz W A c1,Kz W E c2⟩
theorem Ky {C:Ctx} {h:Hp} (W:c6 C h):∀{vs cn:List AV} {us:List Value},w2 h vs cn->aD C vs us->aD C.bare cn us
 | [],_,us,hf,H=>by simp only[w2]at hf;subst hf;exact H
 | v::vs,_,us,⟨v',cn,rfl,A,E⟩,H=>by
  obtain⟨Y,he,rfl,e7,kp⟩:=H
  exact⟨Y,he,rfl,aea W A e7,Ky W E kp⟩
theorem RK {P:Program} {n:Nat} {f:FuncId} {args args':List AV} {h:Hp} {r:AV} (hf:w2 h args args') (hr:HH r=true) (H:CY P n f args' [] r []):CY P n f args h r []:=by
 intro C vs W hL hn
 have Md:c6 C.bare []:=⟨fun m=>by simp[Ctx.bare,ae],fun m cs Z=>by simp[ae]at Z,fun m m' hm=>hm.elim,fun m hm=>hm.elim,fun m hm=>hm.elim⟩
 refine(H C.bare vs Md (Ky W hf hL) (fun k u=>u)).mono ?_
 rintro e w' ⟨Y,C0,rfl,rfl,hp⟩
 have fm:∀b,b<C.w.heap.size->C0.w.heap[b]? = C.w.heap[b]? := fun b hb=>hp.same b hb (fun m hm=>by simp at hm)
 let C':Ctx:={ ρ:=C.ρ,bs:=C.bs,live:=C.live,kn:=fun m=>C.kn m\/m.1=n,mt:=fun b=>C.mt b/\b<C.w.heap.size,w:=C0.w }
 have le:C.le C':=by
  refine⟨hp.le.size,fun b hb _=>fm b hb,fun b hb hm=>hm.1,fun _ h => .inl h,fun m _ O=>⟨O,rfl,rfl⟩,fun m _ O cs ty aI => ?_⟩
  have aT:C.ρ m<C.w.heap.size:=by
   rcases Nat.lt_or_ge (C.ρ m) C.w.heap.size with E | E
   ·exact E
   ·rw[Array.getElem?_eq_none E]at aI;cases aI
  exact⟨cs,ty,(fm _ aT).trans aI,rfl⟩
 refine⟨Y,C',rfl,rfl,le,fun _=>Iff.rfl,?_,ak.plain r Y hr hp.val,fun b hb _=>fm b hb,fun b hb=>⟨fun h=>h.1,fun h=>⟨h,hb⟩⟩,hp.os,hp.tape,hp.output,fun m O => .inl ⟨O,rfl⟩,fun m hm=>by simp at hm⟩
 exact W.mono le (fun _=>Iff.rfl) (fun m hm=>fm _ (W.lt hm)) (fun b hb aT=>⟨hb,aT⟩)
end Go.Proofs.Aw
namespace Go.Proofs.Aw
open Go
mutual
def wq (n:Nat):AV->Bool
 | .top=>true
 | .sc _=>true
 | .agg cs=>jV n cs
 | .tup cs=>jV n cs
 | .ptr m _=>Nat.beq m.1 n
 | .sl m _ _ _ _=>Nat.beq m.1 n
 | .ro _ [] _=>true
 | _=>false
def jV (n:Nat):List AV->Bool
 | []=>true
 | v::vs=>wq n v&&jV n vs
end
theorem XM {n:Nat}:∀{cs:List AV} {j:Nat} {c:AV},jV n cs=true->cs[j]? = some c->wq n c=true
 | [],j,c,_,h=>by simp at h
 | d::cs,0,c,hp,h=>by simp only[jV,Bool.and_eq_true]at hp;simp at h;rw[<-h];exact hp.1
 | d::cs,j+1,c,hp,h=>by simp only[jV,Bool.and_eq_true]at hp;exact XM hp.2 (by simpa using h)
mutual
theorem ak.own {C C':Ctx} {n:Nat} (hw:C'.w=C.w) (u:∀m:Nm,m.1=n->C'.kn m) (O:∀m:Nm,m.1=n->C'.live m->C.live m/\C'.ρ m=C.ρ m/\C'.bs m=C.bs m):∀(v:AV) (Y:Value),wq n v=true->ak C v Y->ak C' v Y
 | .top,_,_,_=>by simp only[ak]
 | .sc _,_,_,h=>h
 | .agg cs,_,hp,⟨us,e,h⟩=>⟨us,e,aD.own hw u O cs _ hp h⟩
 | .tup cs,_,hp,⟨us,e,h⟩=>⟨us,e,aD.own hw u O cs _ hp h⟩
 | .ptr m off,Y,hp,h=>by
  have hm:m.1=n:=Nat.eq_of_beq_eq_true hp
  simp only[ak]at h ⊢
  refine⟨h.1,u m hm,fun dP => ?_⟩
  obtain⟨l1,l2,B9⟩:=O m hm dP
  rw[l2,B9];exact h.2.2 l1
 | .sl m z off len own,Y,hp,h=>by
  have hm:m.1=n:=Nat.eq_of_beq_eq_true hp
  simp only[ak]at h ⊢
  refine⟨h.1,u m hm,fun dP => ?_⟩
  obtain⟨l1,l2,B9⟩:=O m hm dP
  rw[l2,B9,hw];exact h.2.2 l1
 | .ip _ _,_,hp,_=>by cases hp
 | .ro _ [] _,_,_,⟨ab,cap,A,E,h3,_⟩=>⟨ab,cap,A,E,h3,fun h=>absurd rfl h⟩
 | .ro _ (_::_) _,_,hp,_=>by cases hp
 | .fn _ _ _,_,hp,_=>by cases hp
 | .ifc _ _,_,hp,_=>by cases hp
theorem aD.own {C C':Ctx} {n:Nat} (hw:C'.w=C.w) (u:∀m:Nm,m.1=n->C'.kn m) (O:∀m:Nm,m.1=n->C'.live m->C.live m/\C'.ρ m=C.ρ m/\C'.bs m=C.bs m):∀(vs:List AV) (us:List Value),jV n vs=true->aD C vs us->aD C' vs us
 | [],_,_,h=>h
 | v::vs,_,hp,⟨Y,us,e,A,E⟩=>by
  simp only[jV,Bool.and_eq_true]at hp
  exact⟨Y,us,e,ak.own hw u O v Y hp.1 A,aD.own hw u O vs us hp.2 E⟩
end
def O' (n:Nat) (d:Dl):Prop:=∀q∈d,q.1.1=n/\∃cs,q.2=some cs/\jV n cs=true
theorem XP {n:Nat} {m:Nm} {cs:List AV}:∀{d:Dl} {h:Hp},O' n d->(∀bi,ae h m=some bi->jV n bi=true)->ae (aE d h) m=some cs->jV n cs=true
 | [],h,_,W,Z=>W cs Z
 | (k,o)::d,h,hd,W,Z=>by
  obtain⟨_,c,E,h3⟩:=hd (k,o) List.mem_cons_self
  simp only at E
  subst E
  simp only[aE]at Z
  refine XP (fun q hq=>hd q (List.mem_cons_of_mem _ hq)) (fun bi h' => ?_) Z
  rw[dO]at h'
  split at h'
  ·cases h';exact h3
  ·exact W bi h'
theorem RM {P:Program} {n:Nat} {f:FuncId} {args args':List AV} {h:Hp} {r:AV} {d:Dl} (hf:w2 h args args') (hr:wq n r=true) (hd:O' n d) (H:CY P n f args' [] r d):CY P n f args h r d:=by
 intro C vs W hL hn
 have Md:c6 C.bare []:=⟨fun m=>by simp[Ctx.bare,ae],fun m cs Z=>by simp[ae]at Z,fun m m' hm=>hm.elim,fun m hm=>hm.elim,fun m hm=>hm.elim⟩
 refine(H C.bare vs Md (Ky W hf hL) (fun k u=>u)).mono ?_
 rintro e w' ⟨Y,C0,rfl,rfl,hp⟩
 have fm:∀b,b<C.w.heap.size->C0.w.heap[b]? = C.w.heap[b]? := fun b hb=>hp.same b hb (fun m _ O=>O.elim)
 have ay:∀m,C.kn m->m.1≠n:=fun m hm e=>hn m.2 (by rw[<-e];exact hm)
 have k0:∀m,C0.kn m->m.1=n:=fun m hm=>((hp.kn m).1 hm).elim (fun h=>h.elim) id
 have l0:∀m,C0.live m->m.1=n:=fun m hm=>k0 m (hp.heap.kn m hm)
 have s0:∀m,C0.live m->C.w.heap.size<=C0.ρ m:=fun m hm=>by
  rcases hp.lM m hm with⟨A,_⟩ | A | ⟨_,_,A,_⟩
  ·exact A.elim
  ·exact A
  ·exact A.elim
 have nd:∀m,m.1≠n->m∉d.map (·.1):=fun m hm hq=>by
  obtain⟨q,q1,rfl⟩:=List.mem_map.1 hq
  exact hm (hd q q1).1
 have hold:∀m,m.1≠n->ae (aE d h) m=ae h m:=fun m hm=>gC d h m (nd m hm)
 have s8:∀m,m.1=n->ae h m=none:=fun m hm=>by
  cases Z:ae h m with
  | none=>rfl
  | some cs=>exact absurd hm (ay m (W.kn m ((W.live m).2 (by rw[Z];rfl))))
 have ne:∀m,m.1=n->ae (aE d h) m=ae (aE d []) m:=fun m hm=>by
  rcases na m d h with⟨_,A⟩ | ⟨A,E⟩
  ·exact A []
  ·rw[E,gC d [] m A,s8 m hm];rfl
 let C':Ctx:={ ρ:=fun m=>if m.1=n then C0.ρ m else C.ρ m,bs:=fun m=>if m.1=n then C0.bs m else C.bs m,live:=fun m=>C.live m\/C0.live m,kn:=fun m=>C.kn m\/m.1=n,mt:=fun b=>(C.mt b/\b<C.w.heap.size)\/(C.w.heap.size<=b/\C0.mt b),w:=C0.w }
 have lt:∀m,C.live m->C.ρ m<C.w.heap.size:=fun m hm=>W.lt hm
 have eold:∀m,m.1≠n->C'.ρ m=C.ρ m/\C'.bs m=C.bs m:=fun m hm=>⟨if_neg hm,if_neg hm⟩
 have enew:∀m,m.1=n->C'.ρ m=C0.ρ m/\C'.bs m=C0.bs m:=fun m hm=>⟨if_pos hm,if_pos hm⟩
 have le:C.le C':=by
  refine⟨hp.le.size,fun b hb _=>fm b hb,fun b hb hm => ?_,fun _ h => .inl h,fun m hm O => ?_,fun m hm O cs ty aI => ?_⟩
  ·rcases hm with hm | hm
   ·exact hm.1
   ·omega
  ·rcases O with O | O
   ·exact⟨O,eold m (ay m hm)⟩
   ·exact absurd (l0 m O) (ay m hm)
  ·have aT:C.ρ m<C.w.heap.size:=by
    rcases Nat.lt_or_ge (C.ρ m) C.w.heap.size with E | E
    ·exact E
    ·rw[Array.getElem?_eq_none E]at aI;cases aI
   exact⟨cs,ty,(fm _ aT).trans aI,rfl⟩
 have bY:∀m:Nm,m.1=n->C'.live m->C0.live m/\C'.ρ m=C0.ρ m/\C'.bs m=C0.bs m:=fun m hm O=>by
  rcases O with O | O
  ·exact absurd hm (ay m (W.kn m O))
  ·exact⟨O,enew m hm⟩
 have conv:∀v Y,wq n v=true->ak C0 v Y->ak C' v Y:=ak.own rfl (fun m hm => .inr hm) bY
 refine⟨Y,C',rfl,rfl,le,fun _=>Iff.rfl,⟨fun m => ?_,fun m cs Z => ?_,fun m m' hm a1 F => ?_,fun m hm => ?_,fun m hm => ?_⟩,conv r Y hr hp.val,fun b hb _=>fm b hb,fun b hb=>⟨fun h => ?_,fun h => .inl ⟨h,hb⟩⟩,hp.os,hp.tape,hp.output,fun m O => ?_,fun m hm => ?_⟩
 ·by_cases c:m.1=n
  ·rw[ne m c,<-hp.heap.live m]
   exact⟨fun h=>h.elim (fun h=>absurd c (ay m (W.kn m h))) id,.inr⟩
  ·rw[hold m c,<-W.live m]
   exact⟨fun h=>h.elim id (fun h=>absurd (l0 m h) c),.inl⟩
 ·by_cases c:m.1=n
  ·rw[ne m c]at Z
   obtain⟨arr,ty,ha,aI⟩:=hp.heap.obj m cs Z
   have ho:=XP hd (fun bi h'=>by simp[ae]at h') Z
   refine⟨arr,ty,by rw[(enew m c).1];exact ha,fun j x M => ?_⟩
   obtain⟨v,v1,v2⟩:=aI j x M
   exact⟨v,by rw[(enew m c).2];exact v1,conv x v (XM ho M) v2⟩
  ·rw[hold m c]at Z
   have dP:=W.get Z
   obtain⟨arr,ty,ha,aI⟩:=W.obj m cs Z
   refine⟨arr,ty,by rw[(eold m c).1];show C0.w.heap[C.ρ m]? = _;rw[fm _ (lt m dP)];exact ha,fun j x M => ?_⟩
   obtain⟨v,v1,v2⟩:=aI j x M
   exact⟨v,by rw[(eold m c).2];exact v1,v2.mono le⟩
 ·rcases hm with hm | hm<;>rcases a1 with a1 | a1
  ·rw[(eold m (ay m (W.kn m hm))).1,(eold m' (ay m' (W.kn m' a1))).1]at F
   exact W.inj m m' hm a1 F
  ·rw[(eold m (ay m (W.kn m hm))).1,(enew m' (l0 m' a1)).1]at F
   have:=lt m hm;have:=s0 m' a1;omega
  ·rw[(enew m (l0 m hm)).1,(eold m' (ay m' (W.kn m' a1))).1]at F
   have:=lt m' a1;have:=s0 m hm;omega
  ·rw[(enew m (l0 m hm)).1,(enew m' (l0 m' a1)).1]at F
   exact hp.heap.inj m m' hm a1 F
 ·rcases hm with hm | hm
  ·rw[(eold m (ay m (W.kn m hm))).1]
   exact .inl ⟨W.mt m hm,lt m hm⟩
  ·rw[(enew m (l0 m hm)).1]
   exact .inr ⟨s0 m hm,hp.heap.mt m hm⟩
 ·rcases hm with hm | hm
  ·exact .inl (W.kn m hm)
  ·exact .inr (l0 m hm)
 ·rcases h with h | h
  ·exact h.1
  ·omega
 ·rcases O with O | O
  ·exact .inl ⟨O,(eold m (ay m (W.kn m O))).1⟩
  ·refine .inr (.inl ?_)
   rw[(enew m (l0 m O)).1]
   exact s0 m O
 ·obtain⟨q,q1,rfl⟩:=List.mem_map.1 hm
  exact .inr (hd q q1).1
end Go.Proofs.Aw
namespace Go.Proofs.Aw
open Go
theorem S2 {C bO:Ctx} {h g:Hp} (W:c6 C h) (a0:C.le bO) (hw:bO.w=C.w) (Z:∀m cs,ae g m=some cs->ae h m=some cs/\¬bO.mt (C.ρ m)) {v v':AV} {Y:Value} (hf:so g v v') (H:ak C v Y):ak bO v' Y:=by
 rcases hf with(rfl | ⟨rfl,_⟩) | ⟨m,z,off,len,own,fs,rfl,h0,F,hn,rfl⟩
 ·simp only[ak]
 ·exact H.mono a0
 ·simp only[ez]at F
  obtain⟨cs,BD,F⟩:=Option.bind_eq_some_iff.1 F
  split at F
  ·rename_i hz
   cases F
   obtain⟨U',BM⟩:=Z m cs BD
   obtain⟨_,_,O⟩:=H
   have gF:=W.get U'
   obtain⟨cap,o,rfl,gi,q',_⟩:=O gF
   obtain⟨arr,ty,hb,hY⟩:=W.obj _ _ U'
   refine iU.2 ⟨some ⟨C.ρ m,o,none⟩,cap,by rw[qE],by rw[qE];exact gi,(fun hx=>nomatch hx),fun ay=>⟨_,rfl,?_,BM,?_⟩⟩
   ·rw[hw];exact(Array.getElem?_eq_some_iff.1 hb).1
   ·have hlen:0<len:=by
     rcases Nat.eq_zero_or_pos len with A | A
     ·subst A;exact absurd rfl ay
     ·exact A
    obtain rfl:o=C.bs m+off:=by
     rcases q' with A | A
     ·exact A
     ·omega
    refine dR.mk fun j e M => ?_
    have gE:=AA z len _ j e M
    have cu:j*z+z<=len*z:=by rw[<-Nat.succ_mul];exact Nat.mul_le_mul_right z gE.1
    have sT:e.length=z:=by
     rw[gE.2];simp only[List.length_take,List.length_drop];omega
    refine⟨sT,dC.mk fun k c u => ?_⟩
    have aJ:k<z:=by
     have:=(List.getElem?_eq_some_iff.1 u).1
     omega
    have lu:cs[off+(j*z+k)]? = some c:=by
     rw[gE.2,List.getElem?_take,if_pos aJ,List.getElem?_drop,List.getElem?_drop]at u
     exact u
    obtain⟨Y,hu,kq⟩:=yR (C:=C) (b:=C.ρ m) (k:=C.bs m) (cs:=cs) ⟨arr,ty,hb,hY⟩ _ _ lu
    refine⟨Y,?_,kq.mono a0⟩
    simp only[j_]at hu ⊢
    have e1:C.bs m+off+(0+j)*z+(0+k)=C.bs m+(off+(j*z+k)):=by simp only[Nat.zero_add];omega
    rw[e1,hw]
    exact hu
  ·cases F
def Eh (g:Hp) (v v':AV):Prop:=so g v v'\/∃cs ds,v = .agg cs/\v' = .agg ds/\lZ g cs ds
def z0 (g:Hp):List AV->List AV->Prop
 | [],cn=>cn=[]
 | v::vs,l=>∃v' cn,l=v'::cn/\Eh g v v'/\z0 g vs cn
def Ro (g:Hp) (v v':AV):Prop:=Eh g v v'\/∃vs ws,v = .tup vs/\v' = .tup ws/\z0 g vs ws
section
variable {C bO:Ctx} {h g:Hp} (W:c6 C h) (a0:C.le bO) (hw:bO.w=C.w) (Z:∀m cs,ae g m=some cs->ae h m=some cs/\¬bO.mt (C.ρ m))
include W a0 hw Z
theorem SX:∀{vs cn:List AV} {us:List Value},lZ g vs cn->aD C vs us->aD bO cn us
 | [],_,us,hf,H=>by simp only[lZ]at hf;subst hf;exact H
 | v::vs,_,us,⟨v',cn,rfl,A,E⟩,H=>by
  obtain⟨Y,he,rfl,e7,kp⟩:=H
  exact⟨Y,he,rfl,S2 W a0 hw Z A e7,SX E kp⟩
theorem S3 {v v':AV} {Y:Value} (hf:Eh g v v') (H:ak C v Y):ak bO v' Y:=by
 rcases hf with hf | ⟨cs,ds,rfl,rfl,hf⟩
 ·exact S2 W a0 hw Z hf H
 ·obtain⟨us,e,H⟩:=H
  exact⟨us,e,SX W a0 hw Z hf H⟩
theorem SY:∀{vs cn:List AV} {us:List Value},z0 g vs cn->aD C vs us->aD bO cn us
 | [],_,us,hf,H=>by simp only[z0]at hf;subst hf;exact H
 | v::vs,_,us,⟨v',cn,rfl,A,E⟩,H=>by
  obtain⟨Y,he,rfl,e7,kp⟩:=H
  exact⟨Y,he,rfl,S3 W a0 hw Z A e7,SY E kp⟩
theorem S4 {v v':AV} {Y:Value} (hf:Ro g v v') (H:ak C v Y):ak bO v' Y:=by
 rcases hf with hf | ⟨vs,ws,rfl,rfl,hf⟩
 ·exact S3 W a0 hw Z hf H
 ·obtain⟨us,e,H⟩:=H
  exact⟨us,e,SY W a0 hw Z hf H⟩
end
theorem abC {P:Program} {n:Nat} {f:FuncId} {args:List AV} {h:Hp} {r r':AV} {d:Dl} (hd:∀q∈d,q.1.1=n) (hr:Ro (aE d []) r r') (H:CY P n f args h r d):CY P n f args h r' []:=by
 intro C vs W hL hn
 refine(H C vs W hL hn).mono ?_
 rintro e w' ⟨Y,C1,rfl,rfl,hp⟩
 have ay:∀m,C.kn m->m.1≠n:=fun m hm e=>hn m.2 (by rw[<-e];exact hm)
 have nd:∀m,m∈d.map (·.1)->m.1=n:=fun m hm=>by
  obtain⟨q,q1,rfl⟩:=List.mem_map.1 hm
  exact hd q q1
 have hold:∀m,m.1≠n->ae (aE d h) m=ae h m:=fun m hm=>gC d h m fun hq=>hm (nd m hq)
 have s8:∀m,m.1=n->ae h m=none:=fun m hm=>by
  cases Z:ae h m with
  | none=>rfl
  | some cs=>exact absurd hm (ay m (W.kn m ((W.live m).2 (by rw[Z];rfl))))
 have ne:∀m,m.1=n->ae (aE d h) m=ae (aE d []) m:=fun m hm=>by
  rcases na m d h with⟨_,A⟩ | ⟨A,E⟩
  ·exact A []
  ·rw[E,gC d [] m A,s8 m hm];rfl
 have s1:∀m,m.1=n->C1.live m->C.w.heap.size<=C1.ρ m:=fun m hm O=>by
  rcases hp.lM m O with⟨A,_⟩ | A | ⟨m0,h0,A,_⟩
  ·exact absurd hm (ay m (W.kn m A))
  ·exact A
  ·exact absurd (nd m0 h0) (ay m0 (W.kn m0 A))
 let bO:Ctx:={ ρ:=C1.ρ,bs:=C1.bs,live:=fun m=>C1.live m/\m.1≠n,kn:=C1.kn,mt:=fun b=>C1.mt b/\b<C.w.heap.size,w:=C1.w }
 have a0:C1.le bO:=⟨Nat.le_refl _,fun _ _ _=>rfl,fun _ _ h=>h.1,fun _ h=>h,fun m _ O=>⟨O.1,rfl,rfl⟩,fun _ _ _ cs ty h=>⟨cs,ty,h,rfl⟩⟩
 have tF:∀m,C1.live m->m.1≠n->C.live m/\C1.ρ m=C.ρ m:=fun m O hm=>by
  have:C.live m:=(W.live m).2 (by rw[<-hold m hm];exact(hp.heap.live m).1 O)
  exact⟨this,(hp.le.live m (W.kn m this) O).2.1⟩
 have BD:∀m cs,ae (aE d []) m=some cs->ae (aE d h) m=some cs/\¬bO.mt (C1.ρ m):=fun m cs Z=>by
  have hm:m.1=n:=by
   rcases na m d []with⟨A,_⟩ | ⟨_,E⟩
   ·exact nd m A
   ·rw[E]at Z;cases Z
  have g8:=(ne m hm).trans Z
  refine⟨g8,fun hx => ?_⟩
  have:=s1 m hm (hp.heap.get g8)
  have:=hx.2
  omega
 refine⟨Y,bO,rfl,rfl,hp.le.trans a0,hp.kn,⟨fun m => ?_,fun m cs Z => ?_,fun m m' hm a1 F=>hp.heap.inj m m' hm.1 a1.1 F,fun m hm => ?_,fun m hm=>hp.heap.kn m hm.1⟩,S4 hp.heap a0 rfl BD hr hp.val,fun b hb _=>hp.same b hb fun m hm O=>absurd (nd m hm) (ay m (W.kn m O)),fun b hb=>⟨fun h=>(hp.mt b hb).1 h.1,fun h=>⟨(hp.mt b hb).2 h,hb⟩⟩,hp.os,hp.tape,hp.output,fun m O => .inl (tF m O.1 O.2),fun m hm=>by simp at hm⟩
 ·show(C1.live m/\m.1≠n)↔(ae h m).isSome=true
  by_cases c:m.1=n
  ·rw[s8 m c]
   exact⟨fun h=>absurd c h.2,fun h=>by cases h⟩
  ·rw[<-hold m c,<-hp.heap.live m]
   exact⟨fun h=>h.1,fun h=>⟨h,c⟩⟩
 ·have c:m.1≠n:=fun c=>by
   have Z:ae h m=some cs:=Z
   rw[s8 m c]at Z;cases Z
  have g8:ae (aE d h) m=some cs:=(hold m c).trans Z
  obtain⟨arr,ty,ha,aI⟩:=hp.heap.obj m cs g8
  exact⟨arr,ty,ha,fun j x M=>by obtain⟨v,v1,v2⟩:=aI j x M;exact⟨v,v1,v2.mono a0⟩⟩
 ·obtain⟨l1,l2⟩:=tF m hm.1 hm.2
  refine⟨hp.heap.mt m hm.1,?_⟩
  show C1.ρ m<_
  rw[l2];exact W.lt l1
end Go.Proofs.Aw
namespace Go.Proofs.Aw
open Go
theorem RN {P : Program} {f : FuncId} {n n0 : Nat} {args0 args : List AV} {nf hs h0 : Hp} {r0 r : AV} {d0 d : Dl} (aF cE : Nm -> Nm) (qX : CY P n0 f args0 nf r0 d0)
    (Fr : a4 (fun k => Nat.blt k.1 n0) args0 = true) (Mb : args = bu aF args0)
    (MF : ∀ m cs, ae nf m = some cs -> m.1 < n0 /\ a4 (fun k => Nat.blt k.1 n0) cs = true /\ ae hs (aF m) = some (bu aF cs))
    (BQ : ∀ m, (ae hs m).isSome = true -> (ae nf (cE m)).isSome = true /\ aF (cE m) = m)
    (qZ : ∀ m m', (ae nf m).isSome = true -> (ae nf m').isSome = true -> aF m = aF m' -> m = m')
    (mq : ∀ m cs, ae hs m = some cs -> ae h0 m = some cs)
    (xZ : ∀ m, m ∈ d.map (·.1) -> m.1 = n \/ (ae hs m).isSome = true) (x0 : ∀ m, (ae hs m).isSome = true -> m ∈ d.map (·.1))
    (hR : ca (eg n hs) r = true) (hr : r0 = aW cE r)
    (hC : ∀ m cs, ae (aE d h0) m = some cs -> eg n hs m = true -> a4 (eg n hs) cs = true /\ ae (aE d0 nf) (cE m) = some (bu cE cs))
    (F0 : ∀ k, (ae (aE d h0) (n, k)).isSome = true -> n0 <= (cE (n, k)).1)
    (hni : ∀ j k, (ae (aE d h0) (n, j)).isSome = true -> (ae (aE d h0) (n, k)).isSome = true -> cE (n, j) = cE (n, k) -> j = k) : CY P n f args h0 r d := by
  intro C vs W hL hn
  let C1 : Ctx := { ρ := fun m => C.ρ (aF m), bs := fun m => C.bs (aF m), live := fun m => (ae nf m).isSome = true, kn := fun m => m.1 < n0, mt := C.mt, w := C.w }
  have d9 : ∀ m, (ae hs m).isSome = true -> C.live m := fun m hm => by
    obtain ⟨cs, aI⟩ := Option.isSome_iff_exists.1 hm
    exact W.get (mq m cs aI)
  have cu : ∀ m, (ae nf m).isSome = true -> (ae hs (aF m)).isSome = true := fun m hm => by
    obtain ⟨cs, aI⟩ := Option.isSome_iff_exists.1 hm
    rw [(MF m cs aI).2.2]; rfl
  have BJ : ∀ m, (ae nf m).isSome = true -> m.1 < n0 := fun m hm => by
    obtain ⟨cs, aI⟩ := Option.isSome_iff_exists.1 hm
    exact (MF m cs aI).1
  have sub0 : C.sub C1 aF (fun k => Nat.blt k.1 n0) := ⟨rfl, fun _ _ h => h, fun m hm _ => by simpa using hm, fun m _ _ hm => ⟨d9 _ (cu m hm), rfl, rfl⟩⟩
  have pm : aD C1 args0 vs := aD.aW sub0 args0 vs Fr (by rw [<- Mb]; exact hL)
  have hH1 : c6 C1 nf := by
    refine ⟨fun m => Iff.rfl, fun m cs Z => ?_, fun m m' hm a1 F => qZ m m' hm a1 (W.inj _ _ (d9 _ (cu m hm)) (d9 _ (cu m' a1)) F), fun m hm => W.mt _ (d9 _ (cu m hm)), fun m hm => BJ m hm⟩
    obtain ⟨_, g2, g3⟩ := MF m cs Z
    obtain ⟨arr, ty, ha, H⟩ := W.obj _ _ (mq _ _ g3)
    refine ⟨arr, ty, ha, fun j c M => ?_⟩
    obtain ⟨u', a3, kr⟩ := H j _ (za aF cs j c M)
    exact ⟨u', a3, ak.aW sub0 c u' (pW g2 M) kr⟩
  refine (qX C1 vs hH1 pm fun k h => absurd (show n0 < n0 from h) (Nat.lt_irrefl _)).mono ?_
  rintro e w' ⟨Y, Cb, F, hw, hp⟩
  have hold : ∀ m, m.1 ≠ n -> (ae hs m).isSome = false -> ae (aE d h0) m = ae h0 m := fun m A E => gC d h0 m fun hm => by
    rcases xZ m hm with h3 | h3
    · exact A h3
    · rw [E] at h3; cases h3
  let C' : Ctx := { ρ := fun m => if m.1 = n then Cb.ρ (cE m) else C.ρ m, bs := fun m => if m.1 = n then Cb.bs (cE m) else C.bs m, live := fun m => (ae (aE d h0) m).isSome = true, kn := fun m => C.kn m \/ m.1 = n,
                    mt := fun b => (C.mt b /\ b < C.w.heap.size) \/ ∃ k, (ae (aE d h0) (n, k)).isSome = true /\ b = Cb.ρ (cE (n, k)), w := Cb.w }
  have vV : ∀ m, (ae (aE d h0) m).isSome = true -> eg n hs m = true -> Cb.live (cE m) := fun m hm hq => by
    obtain ⟨cs, aI⟩ := Option.isSome_iff_exists.1 hm
    exact hp.heap.get (hC m cs aI hq).2
  have jP : ∀ k, (ae (aE d h0) (n, k)).isSome = true -> Cb.live (cE (n, k)) := fun k u => vV (n, k) u (by simp [eg])
  have jp : ∀ m : Nm, m.1 = n -> (n, m.2) = m := fun m A => by rw [<- A]
  have nl : ∀ m, m.1 ≠ n -> (ae hs m).isSome = true -> (ae (aE d h0) m).isSome = true -> Cb.live (cE m) /\ Cb.ρ (cE m) = C.ρ m /\ Cb.bs (cE m) = C.bs m := fun m _ E h3 => by
    have l := vV m h3 (by simp [eg, E])
    obtain ⟨g1, g2⟩ := BQ m E
    obtain ⟨_, e1, e2⟩ := hp.le.live (cE m) (BJ _ g1) l
    exact ⟨l, by rw [e1]; show C.ρ (aF (cE m)) = _; rw [g2], by rw [e2]; show C.bs (aF (cE m)) = _; rw [g2]⟩
  have h9 : ∀ m, m.1 ≠ n -> (ae (aE d h0) m).isSome = true -> C.live m := fun m A h3 => by
    cases E : (ae hs m).isSome with
    | true => exact d9 m E
    | false =>
      rw [hold m A E] at h3
      exact (W.live m).2 h3
  have ay : ∀ m, C.kn m -> m.1 ≠ n := fun m u e => hn m.2 (by rw [jp m e]; exact u)
  have fm : ∀ b, b < C.w.heap.size -> (∀ m, (ae hs m).isSome = true -> b ≠ C.ρ m) -> Cb.w.heap[b]? = C.w.heap[b]? := fun b hb hq => hp.same b hb fun m _ O => hq _ (cu m O)
  have XK : ∀ k, (ae (aE d h0) (n, k)).isSome = true -> C.w.heap.size <= Cb.ρ (cE (n, k)) \/ ∃ m', (ae hs m').isSome = true /\ Cb.ρ (cE (n, k)) = C.ρ m' := fun k u => by
    rcases hp.lM _ (jP k u) with ⟨A, _⟩ | A | ⟨m0, _, A, E⟩
    · have := BJ _ A
      have := F0 k u
      omega
    · exact .inl A
    · exact .inr ⟨aF m0, cu m0 A, E⟩
  have le : C.le C' := by
    refine ⟨hp.le.size, fun b hb hm => hp.le.same b hb hm, fun b hb hm => ?_, fun _ h => .inl h, fun m u O => ?_, fun m u O cs ty H => ?_⟩
    · rcases hm with A | ⟨k, u, A⟩
      · exact A.1
      · exact (hp.mt b hb).1 (by rw [A]; exact hp.heap.mt _ (jP k u))
    · have hm := ay m u
      exact ⟨h9 m hm O, by simp [C', hm], by simp [C', hm]⟩
    · have hm := ay m u
      have ol := h9 m hm O
      cases E : (ae hs m).isSome with
      | true =>
        obtain ⟨g1, g2⟩ := BQ m E
        have := hp.le.own (cE m) (BJ _ g1) (nl m hm E O).1 cs ty (by show C.w.heap[C.ρ (aF (cE m))]? = _; rw [g2]; exact H)
        have e : C1.ρ (cE m) = C.ρ m := by show C.ρ (aF (cE m)) = _; rw [g2]
        rw [e] at this
        exact this
      | false =>
        refine ⟨cs, ty, (fm _ (W.lt ol) fun m' a1 e => ?_).trans H, rfl⟩
        have := W.inj m m' ol (d9 m' a1) e
        subst this
        rw [E] at a1; cases a1
  have sub : Cb.sub C' cE (eg n hs) := by
    refine ⟨rfl, fun b hb hm => ?_, fun m hq _ => ?_, fun m hq u O => ?_⟩
    · rcases hm with A | ⟨k, u, A⟩
      · exact (hp.mt b A.2).2 A.1
      · rw [A]; exact hp.heap.mt _ (jP k u)
    · simp only [eg, Bool.or_eq_true, beq_iff_eq] at hq
      rcases hq with A | A
      · exact .inr A
      · exact .inl (W.kn m (d9 m A))
    · refine ⟨vV m O hq, ?_⟩
      by_cases A : m.1 = n
      · simp [C', A]
      · simp only [eg, Bool.or_eq_true, beq_iff_eq] at hq
        have E := hq.resolve_left A
        simp only [C', A, if_false]
        exact ⟨(nl m A E O).2.1.symm, (nl m A E O).2.2.symm⟩
  have oe : ak C' r Y := ak.aW sub _ Y hR (by rw [<- hr]; exact hp.val)
  refine ⟨Y, C', F, hw, le, fun _ => Iff.rfl, ⟨fun m => Iff.rfl, fun m cs Z => ?_, fun m m' hm a1 F => ?_, fun m hm => ?_, fun m hm => ?_⟩, oe, fun b hb hq => fm b hb fun m hm => hq m (x0 m hm) (d9 m hm), fun b hb => ?_, hp.os, hp.tape, hp.output, fun m hm => ?_, fun m hm => ?_⟩
  · cases hq : eg n hs m with
    | true =>
      obtain ⟨k1, k2⟩ := hC m cs Z hq
      obtain ⟨arr, ty, ha, H⟩ := hp.heap.obj _ _ k2
      have iD : C'.ρ m = Cb.ρ (cE m) /\ C'.bs m = Cb.bs (cE m) := by
        by_cases A : m.1 = n
        · simp [C', A]
        · simp only [eg, Bool.or_eq_true, beq_iff_eq] at hq
          simp only [C', A, if_false]
          have := nl m A (hq.resolve_left A) (by rw [Z]; rfl)
          exact ⟨this.2.1.symm, this.2.2.symm⟩
      refine ⟨arr, ty, by rw [iD.1]; exact ha, fun j c M => ?_⟩
      obtain ⟨u', a3, kr⟩ := H j _ (za _ cs j c M)
      exact ⟨u', by rw [iD.2]; exact a3, ak.aW sub c u' (pW k1 M) kr⟩
    | false =>
      simp only [eg, Bool.or_eq_false_iff, beq_eq_false_iff_ne, ne_eq] at hq
      have g8 := Z
      rw [hold m hq.1 hq.2] at g8
      have O := W.get g8
      obtain ⟨arr, ty, ha, H⟩ := W.obj m cs g8
      refine ⟨arr, ty, ?_, fun j c M => ?_⟩
      · simp only [C', hq.1, if_false]
        refine (fm _ (W.lt O) fun m' a1 e => ?_).trans ha
        have := W.inj m m' O (d9 m' a1) e
        subst this
        rw [hq.2] at a1; cases a1
      · obtain ⟨u', a3, kr⟩ := H j c M
        exact ⟨u', by simp only [C', hq.1, if_false]; exact a3, kr.mono le⟩
  · have oldρ : ∀ m, m.1 ≠ n -> (ae (aE d h0) m).isSome = true -> ∀ k, (ae (aE d h0) (n, k)).isSome = true -> Cb.ρ (cE (n, k)) = C.ρ m -> False := fun m A h3 k u e => by
      cases E : (ae hs m).isSome with
      | true =>
        obtain ⟨l1, e1, _⟩ := nl m A E h3
        have := hp.heap.inj _ _ (jP k u) l1 (by rw [e, e1])
        have h4 := F0 k u
        have h5 := BJ _ (BQ m E).1
        rw [this] at h4
        omega
      | false =>
        have ol := h9 m A h3
        have hb := W.lt ol
        rcases XK k u with h4 | ⟨m', a1, e'⟩
        · omega
        · have := W.inj m m' ol (d9 m' a1) (by rw [<- e, e'])
          subst this
          rw [E] at a1; cases a1
    by_cases A : m.1 = n <;> by_cases E : m'.1 = n
    · have dI : (ae (aE d h0) (n, m.2)).isSome = true := by rw [jp m A]; exact hm
      have dW : (ae (aE d h0) (n, m'.2)).isSome = true := by rw [jp m' E]; exact a1
      simp only [C', A, E, if_true] at F
      rw [<- jp m A, <- jp m' E] at F
      have e1 := hp.heap.inj _ _ (jP _ dI) (jP _ dW) F
      exact Prod.ext (A.trans E.symm) (hni _ _ dI dW e1)
    · have dI : (ae (aE d h0) (n, m.2)).isSome = true := by rw [jp m A]; exact hm
      simp only [C', A, E, if_true, if_false] at F
      rw [<- jp m A] at F
      exact (oldρ m' E a1 _ dI F).elim
    · have dW : (ae (aE d h0) (n, m'.2)).isSome = true := by rw [jp m' E]; exact a1
      simp only [C', A, E, if_true, if_false] at F
      rw [<- jp m' E] at F
      exact (oldρ m A hm _ dW F.symm).elim
    · simp only [C', A, E, if_false] at F
      exact W.inj m m' (h9 m A hm) (h9 m' E a1) F
  · by_cases A : m.1 = n
    · have dI : (ae (aE d h0) (n, m.2)).isSome = true := by rw [jp m A]; exact hm
      simp only [C', A, if_true]
      exact .inr ⟨m.2, dI, by rw [jp m A]⟩
    · simp only [C', A, if_false]
      exact .inl ⟨W.mt m (h9 m A hm), W.lt (h9 m A hm)⟩
  · by_cases A : m.1 = n
    · exact .inr A
    · exact .inl (W.kn m (h9 m A hm))
  · constructor
    · rintro (A | ⟨k, u, A⟩)
      · exact A.1
      · exact (hp.mt b hb).1 (by rw [A]; exact hp.heap.mt _ (jP k u))
    · intro A; exact .inl ⟨A, hb⟩
  · by_cases A : m.1 = n
    · have dI : (ae (aE d h0) (n, m.2)).isSome = true := by rw [jp m A]; exact hm
      simp only [C', A, if_true]
      rcases XK m.2 dI with E | ⟨m', a1, e'⟩
      · exact .inr (.inl (by rw [<- jp m A]; exact E))
      · exact .inr (.inr ⟨m', x0 m' a1, d9 m' a1, by rw [<- jp m A]; exact e'⟩)
    · exact .inl ⟨h9 m A hm, by simp only [C', A, if_false]⟩
  · rcases xZ m hm with A | A
    · exact .inr A
    · exact .inl (d9 m A)
theorem abB {P:Program} {n:Nat} {f:FuncId} {args:List AV} {h:Hp} {r:AV} {d:Dl} (H:CY P n f args h r []) (hd:∀m,ae (aE d h) m=ae h m) (hs:∀m,m∈d.map (·.1)->(ae h m).isSome=true):CY P n f args h r d:=by
 intro C vs W hL hn
 refine(H C vs W hL hn).mono ?_
 rintro e w' ⟨Y,C',F,hw,hp⟩
 refine⟨Y,C',F,hw,hp.le,hp.kn,⟨fun m => ?_,fun m cs Z => ?_,hp.heap.inj,hp.heap.mt,hp.heap.kn⟩,hp.val,fun b hb _=>hp.same b hb fun m hm=>(nomatch hm),hp.mt,hp.os,hp.tape,hp.output,fun m hm => ?_,fun m hm => .inl ((W.live m).2 (hs m hm))⟩
 ·rw[hd];exact hp.heap.live m
 ·rw[hd]at Z;exact hp.heap.obj m cs Z
 ·rcases hp.lM m hm with A | A | ⟨m0,A,_⟩
  ·exact .inl A
  ·exact .inr (.inl A)
  ·cases A
end Go.Proofs.Aw
namespace Go.Proofs.Aw
open Go
theorem atX {P:Program} {o:Oper} {a:Act} {w:World} {K:Act->World->Prop} {Q Q':Exit->Act->World->Prop} (h:∀e a w,e ≠ .normal->Q e a w->Q' e a w) (W:o.wp P a w K Q):o.wp P a w K Q':=by
 have O:LetsOut Q->LetsOut Q':=fun⟨a,w,hq⟩=>⟨a,w,h _ _ _ (by simp) hq⟩
 unfold Oper.wp at *
 generalize (execOp a.eval o).run P w=r at *
 cases r with
 | ok n w' =>
  cases n<;>simp only[Oper.upon]at W ⊢ <;>
   first
    | exact W
    | exact Calls.mono W (fun e awe F=>by cases e<;>first | exact F | exact h _ _ _ (by simp) F | exact O F)
    | exact Rows.mono W (fun _ _ F=>F)
 | halt x w'=>cases x<;>simp only[Oper.upon]at W ⊢ <;> first | exact W | exact h _ _ _ (by simp) W
structure JD (ops:List Oper) (o:Oper):Prop where
 all:∀j,j<ops.length->∃ed∈o.after,Region.binds .any ed=true/\ed.on=j
 own:∀ed∈o.after,Region.binds .any ed=true->ed.on<ops.length
 free:o.guard=none
 guards:∀p∈ops,∀j want,p.guard=some (j,want)->j<ops.length
 aeD:∀i p,ops[i]? = some p->∀ed∈p.after,Region.binds .any ed=true->ed.on<i
theorem HN (l:Array Bool) (j:Nat):(l.push false).getD j false=l.getD j false:=by
 simp only[Array.getD_eq_getD_getElem?,Array.getElem?_push]
 split
 ·rename_i h;subst h;simp
 ·rfl
theorem HO (l:Array Bool) {j:Nat} (h:j<l.size):(l.push false).getD j true=l.getD j true:=by
 simp only[Array.getD_eq_getD_getElem?,Array.getElem?_push]
 rw[if_neg (by omega)]
theorem ao0 (l:Array Bool):(l.push false).getD l.size true=false:=by
 simp[Array.getD_eq_getD_getElem?]
theorem ao1 (l:Array Bool) {i:Nat} (h:i<l.size):(l.push false).setIfInBounds i true=(l.setIfInBounds i true).push false:=by
 apply Array.ext_getElem?
 intro j
 rw[Array.getElem?_push,Array.size_setIfInBounds]
 by_cases M:i=j
 ·subst M
  rw[if_neg (by omega),Array.getElem?_setIfInBounds_self_of_lt (by simp;omega),Array.getElem?_setIfInBounds_self_of_lt h]
 ·rw[Array.getElem?_setIfInBounds_ne M,Array.getElem?_setIfInBounds_ne M,Array.getElem?_push]
theorem acV {P:Program} {ops:List Oper} {o:Oper} (aR:JD ops o) {Q Q0:Exit->Act->World->Prop} (hn:∀a w,Q0 .normal a w->o.wp P a w (fun a w=>Q .normal a w) Q) (F:∀e a w,e ≠ .normal->Q0 e a w->Q e a w) :
  ∀(fuel:Nat) (listed:Array Bool) (a:Act) (w:World),listed.size=ops.length->left (dh listed) ops.length<=fuel->wpAny P .any ops.toArray Q0 fuel listed a w->wpAny P .any (ops++[o]).toArray Q (fuel+1) (listed.push false) a w:=by
 have lets:LetsOut Q0->LetsOut Q:=fun⟨a,w,hq⟩=>⟨a,w,F _ _ _ (by simp) hq⟩
 have none:∀(listed:Array Bool),listed.size=ops.length->Region.ready .any (ops++[o]).toArray (listed.push false)≠[]:=by
  intro listed b9 hr
  have all:∀j,j<ops.length->dh listed j=true:=by
   intro j
   induction j using Nat.strongRecOn with
   | _ j ih =>
    intro M
    cases h:dh listed j with
    | true=>rfl
    | false =>
     exfalso
     have pD:j∈Region.ready .any (ops++[o]).toArray (listed.push false):=by
      refine mem_ready.2 ⟨by rw[HO _ (by omega)];exact vU.2 ⟨by omega,h⟩,ops[j],by simp[List.getElem?_append_left M],fun ed d6 hb => ?_⟩
      have aT:=aR.aeD j ops[j] (by simp[M]) ed d6 hb
      rw[HN]
      exact ih ed.on aT (by omega)
     rw[hr]at pD;cases pD
  have pD:ops.length∈Region.ready .any (ops++[o]).toArray (listed.push false):=by
   refine mem_ready.2 ⟨by rw[<-b9];exact ao0 listed,o,by simp,fun ed d6 hb => ?_⟩
   rw[HN]
   exact all _ (aR.own ed d6 hb)
  rw[hr]at pD;cases pD
 have full:∀(fuel:Nat) (listed:Array Bool) (a:Act) (w:World),listed.size=ops.length->(∀j,j<ops.length->dh listed j=true)->wpAny P .any ops.toArray Q0 fuel listed a w->Q0 .normal a w:=by
  intro fuel listed a w b9 i3 h
  have hr:Region.ready .any ops.toArray listed=[]:=by
   apply List.eq_nil_iff_forall_not_mem.2
   intro j M
   obtain⟨A,_⟩:=mem_ready.1 M
   obtain⟨E,h3⟩:=vU.1 A
   rw[i3 j (by omega)]at h3;cases h3
  cases fuel with
  | zero=>exact h.2
  | succ f=>exact h.1 hr
 have last:∀(fuel:Nat) (listed:Array Bool) (a:Act) (w:World),listed.size=ops.length->(∀j,j<ops.length->dh listed j=true)->Q0 .normal a w->wpOp P (ops++[o]).toArray Q ops.length (wpAny P .any (ops++[o]).toArray Q fuel ((listed.push false).setIfInBounds ops.length true)) a w:=by
  intro fuel listed a w b9 i3 hq
  have hr:Region.ready .any (ops++[o]).toArray ((listed.push false).setIfInBounds ops.length true)=[]:=by
   apply List.eq_nil_iff_forall_not_mem.2
   intro j M
   obtain⟨A,p,hp,_⟩:=mem_ready.1 M
   have oi:j<ops.length+1:=by
    have:=(Array.getElem?_eq_some_iff.1 hp).1
    simpa using this
   have:((listed.push false).setIfInBounds ops.length true).getD j true=true:=by
    simp only[Array.getD_eq_getD_getElem?]
    by_cases dU:j=ops.length
    ·subst dU
     rw[<-b9]
     simp
    ·rw[Array.getElem?_setIfInBounds_ne (by omega),<-Array.getD_eq_getD_getElem?,HO _ (by omega)]
     have:=i3 j (by omega)
     unfold dh at this
     rw[Array.getD_eq_getD_getElem?]at this ⊢
     have aT:j<listed.size:=by omega
     simp only[Array.getElem?_eq_getElem aT,Option.getD_some]at this ⊢
     exact this
   rw[this]at A;cases A
  have Mk:∀a w,Q .normal a w->wpAny P .any (ops++[o]).toArray Q fuel ((listed.push false).setIfInBounds ops.length true) a w:=by
   intro a w hq
   cases fuel with
   | zero=>exact⟨hr,hq⟩
   | succ f=>exact⟨fun _=>hq,fun i hi=>by rw[hr]at hi;cases hi⟩
  unfold wpOp
  have ho:(ops++[o]).toArray[ops.length]? = some o:=by simp
  rw[ho]
  simp only
  rw[if_pos (by simp[Region.wanted,aR.free])]
  exact .inl (Oper.wp_mono Mk (hn a w hq))
 intro fuel
 induction fuel with
 | zero =>
  intro listed a w b9 O h
  have i3:=NH (Nat.le_zero.1 O)
  have hq:=full _ _ _ _ b9 i3 h
  refine⟨fun hr=>absurd hr (none listed b9),fun i hi => ?_⟩
  obtain⟨A,p,hp,d6⟩:=mem_ready.1 hi
  have cu:i<ops.length+1:=by
   have:=(Array.getElem?_eq_some_iff.1 hp).1
   simpa using this
  rcases Nat.lt_or_ge i ops.length with aT | vl
  ·rw[HO _ (by omega)]at A
   obtain⟨_,h3⟩:=vU.1 A
   rw[i3 i aT]at h3;cases h3
  ·obtain rfl:i=ops.length:=by omega
   exact last 0 listed a w b9 i3 hq
 | succ f ih =>
  intro listed a w b9 O h
  refine⟨fun hr=>absurd hr (none listed b9),fun i hi => ?_⟩
  obtain⟨A,p,hp,d6⟩:=mem_ready.1 hi
  have cu:i<ops.length+1:=by
   have:=(Array.getElem?_eq_some_iff.1 hp).1
   simpa using this
  rcases Nat.lt_or_ge i ops.length with aT | vl
  ·have rb:ops[i]? = some p:=by
    have:(ops++[o])[i]? = some p:=by simpa using hp
    rwa[List.getElem?_append_left aT]at this
   rw[HO _ (by omega)]at A
   have Mp:i∈Region.ready .any ops.toArray listed:=mem_ready.2 ⟨A,p,by simpa using rb,fun ed F hb=>by
    have:=d6 ed F hb
    rwa[HN]at this⟩
   have hL:dh listed i=false:=(vU.1 A).2
   have g:=h.2 i Mp
   rw[ao1 _ (by omega)]
   have hK:∀a w,wpAny P .any ops.toArray Q0 f (listed.setIfInBounds i true) a w->wpAny P .any (ops++[o]).toArray Q (f+1) ((listed.setIfInBounds i true).push false) a w:=fun a w W=>by
    refine ih _ a w (by simpa using b9) ?_ W
    have e1:left (dh (listed.setIfInBounds i true)) ops.length=left (eF (dh listed) i) ops.length:=Gw fun j _=>NW (by omega) j
    have:=NG hL aT
    omega
   unfold wpOp at g ⊢
   have hpa:ops.toArray[i]? = some p:=by simpa using rb
   rw[hpa]at g
   rw[hp]
   simp only at g ⊢
   have hw:Region.wanted p (yielded (ops++[o]).toArray a.tmps)=Region.wanted p (yielded ops.toArray a.tmps):=by
    unfold Region.wanted
    cases Z:p.guard with
    | none=>rfl
    | some pI =>
     obtain⟨j,want⟩:=pI
     have M:=aR.guards p (List.mem_of_getElem? rb) j want Z
     have:yielded (ops++[o]).toArray a.tmps j=yielded ops.toArray a.tmps j:=by
      unfold yielded
      have e:(ops++[o]).toArray[j]? = ops.toArray[j]? := by
       simp[List.getElem?_append_left M]
      rw[e]
     simp only[this]
   rw[hw]
   split
   ·rename_i H
    rw[if_pos H]at g
    rcases g with g | ⟨g1,g2⟩
    ·exact .inl (atX F (Oper.wp_mono hK g))
    ·exact .inr ⟨g1,lets g2⟩
   ·rename_i H
    rw[if_neg H]at g
    exact hK _ _ g
  ·obtain rfl:i=ops.length:=by omega
   have i3:∀j,j<ops.length->dh listed j=true:=fun j M=>by
    have hpo:p=o:=by
     have:(ops++[o])[ops.length]? = some p:=by simpa using hp
     simpa using this.symm
    subst hpo
    obtain⟨ed,E,h3,h4⟩:=aR.all j M
    have:=d6 ed E h3
    rw[HN,h4]at this
    exact this
   exact last (f+1) listed a w b9 i3 (full _ _ _ _ b9 i3 h)
theorem abv {P:Program} {ac:Env} {ops:List Oper} {o:Oper} {Q:Exit->St->Prop} {V:St} {id:Nat} (hm:P.follows .mixedOrders=true) (aR:JD ops o) (hd:∀i,o.dst=some i->i<ac.N) (hf:fits ac.N ops=true) (ho:once ops=true) (D:List En)
  (hw:jt P ops V.nx (fb ops V.t) V.h D) (O:D.length=ops.length) {r:AV} {d:Dl}
  (hy:Yields P (V.nx+ops.length) o.op (b5 (fun _=>true) D (fb ops V.t)) (aL (fun _=>true) D V.h) r d)
  (u:Q .normal ⟨gP o.dst r (b5 (fun _=>true) D (fb ops V.t)),aE d (aL (fun _=>true) D V.h),V.nx+ops.length+1⟩):AW P ac (.region id (ops++[o]).toArray true) Q V:=fun a w hr=>by
 refine wp_region_any hm ?_
 have g:=Ts (Q:=fun e aM=>e = .normal/\aM=⟨b5 (fun _=>true) D (fb ops V.t),aL (fun _=>true) D V.h,V.nx+ops.length⟩) hf ho D hw O ⟨rfl,rfl⟩ hr
 have e1:(ops++[o]).toArray.size=ops.toArray.size+1:=by simp
 have e2:Array.replicate (ops++[o]).toArray.size false=(Array.replicate ops.toArray.size false).push false:=by
  rw[e1]
  exact Array.replicate_succ
 rw[e2,e1]
 refine acV aR (fun bz w' hq => ?_) (fun e bz w' ay hq => ?_) _ _ _ _ (by simp) ?_ g
 ·obtain⟨aM,BR,_,rfl⟩:=hq
  obtain⟨C,rfl,hC⟩:=BR
  exact hy C bz o _ _ rfl hC.heap hC.t (fun k bM=>absurd (hC.kn _ bM) (by simp)) fun Y C' hp=>⟨_,⟨C',rfl,hC.step hp hd⟩,u⟩
 ·obtain⟨_,_,A,_⟩:=hq
  exact absurd A ay
 ·have:∀n,left (dh (Array.replicate ops.toArray.size false)) n<=n:=fun n=>by
   induction n with
   | zero=>simp[left]
   | succ n ih=>simp only[left];split<;>omega
  have E:=this ops.length
  simpa using E
end Go.Proofs.Aw
namespace Go.Proofs.Aw
open Go
variable {P:Program} {ac:Env} {Q:Exit->St->Prop} {V aM:St}
end Go.Proofs.Aw
namespace Go.Proofs.Aw
open Go
theorem Bq (p:Nm->Bool) (m:Nm) (hm:p m=true):∀(d:Dl) (h:Hp),ae (aE (d.filter fun q=>p q.1) h) m=ae (aE d h) m
 | [],h=>rfl
 | (k,o)::d,h=>by
  by_cases u:p k=true
  ·rw[List.filter_cons_of_pos (by exact u)]
   cases o with
   | none=>simp only[aE];exact Bq p m hm d _
   | some cs=>simp only[aE];exact Bq p m hm d _
  ·rw[List.filter_cons_of_neg (by exact u)]
   have ay:k≠m:=fun e=>u (by rw[e];exact hm)
   have UT:∀(d:Dl) (h h':Hp),ae h m=ae h' m->ae (aE d h) m=ae (aE d h') m:=fun d h h' e=>by
    rcases na m d h with⟨_,A⟩ | ⟨A,E⟩
    ·exact A h'
    ·rw[E,gC d h' m A,e]
   rw[Bq p m hm d h]
   cases o with
   | none=>simp only[aE];exact UT d _ _ (by rw[vm];rw[if_neg ay])
   | some cs=>simp only[aE];exact UT d _ _ (by rw[dO];rw[if_neg ay])
theorem abD {P:Program} {n:Nat} {f:FuncId} {args:List AV} {h:Hp} {r r':AV} {d:Dl} (hs:∀m,m∈d.map (·.1)->m.1≠n->(ae (aE d h) m).isSome=true) (hr:Ro (aE (d.filter fun q=>q.1.1==n) []) r r') (H:CY P n f args h r d):CY P n f args h r' (d.filter fun q => !(q.1.1==n)):=by
 intro C vs W hL hn
 refine(H C vs W hL hn).mono ?_
 rintro e w' ⟨Y,C1,rfl,rfl,hp⟩
 have ay:∀m,C.kn m->m.1≠n:=fun m hm e=>hn m.2 (by rw[<-e];exact hm)
 have hold:∀m,m.1≠n->ae (aE (d.filter fun q => !(q.1.1==n)) h) m=ae (aE d h) m:=fun m hm=>Bq (fun k => !(k.1==n)) m (by simpa using hm) d h
 have s8:∀m,m.1=n->ae h m=none:=fun m hm=>by
  cases Z:ae h m with
  | none=>rfl
  | some cs=>exact absurd hm (ay m (W.kn m ((W.live m).2 (by rw[Z];rfl))))
 have Vl:∀m,m.1=n->ae (aE (d.filter fun q => !(q.1.1==n)) h) m=none:=fun m hm=>by
  rw[gC _ _ _ fun hq=>by
   obtain⟨q,q1,q2⟩:=List.mem_map.1 hq
   have:=(List.mem_filter.1 q1).2
   rw[q2,hm]at this
   simp at this,s8 m hm]
 have ne:∀m,m.1=n->ae (aE d h) m=ae (aE (d.filter fun q=>q.1.1==n) []) m:=fun m hm=>by
  rw[Bq (fun k=>k.1==n) m (by simpa using hm) d []]
  rcases na m d h with⟨_,A⟩ | ⟨A,E⟩
  ·exact A []
  ·rw[E,gC d [] m A,s8 m hm];rfl
 have agq:∀m,C1.live m->C.live m->C1.ρ m=C.ρ m:=fun m A E=>(hp.le.live m (W.kn m E) A).2.1
 have s1:∀m,m.1=n->C1.live m->C.w.heap.size<=C1.ρ m:=fun m hm O=>by
  rcases hp.lM m O with⟨A,_⟩ | A | ⟨m0,h0,A,E⟩
  ·exact absurd hm (ay m (W.kn m A))
  ·exact A
  ·have l0:C1.live m0:=(hp.heap.live m0).2 (hs m0 h0 (ay m0 (W.kn m0 A)))
   have:=hp.heap.inj m m0 O l0 (by rw[E,agq m0 l0 A])
   rw[this]at hm
   exact absurd hm (ay m0 (W.kn m0 A))
 let bO:Ctx:={ ρ:=C1.ρ,bs:=C1.bs,live:=fun m=>C1.live m/\m.1≠n,kn:=C1.kn,mt:=fun b=>C1.mt b/\(b<C.w.heap.size\/∃m,C1.live m/\m.1≠n/\C1.ρ m=b),w:=C1.w }
 have a0:C1.le bO:=⟨Nat.le_refl _,fun _ _ _=>rfl,fun _ _ h=>h.1,fun _ h=>h,fun m _ O=>⟨O.1,rfl,rfl⟩,fun _ _ _ cs ty h=>⟨cs,ty,h,rfl⟩⟩
 have BD:∀m cs,ae (aE (d.filter fun q=>q.1.1==n) []) m=some cs->ae (aE d h) m=some cs/\¬bO.mt (C1.ρ m):=fun m cs Z=>by
  have hm:m.1=n:=by
   rcases na m (d.filter fun q=>q.1.1==n) []with⟨A,_⟩ | ⟨_,E⟩
   ·obtain⟨q,q1,rfl⟩:=List.mem_map.1 A
    simpa using (List.mem_filter.1 q1).2
   ·rw[E]at Z;cases Z
  have g8:=(ne m hm).trans Z
  have O:=hp.heap.get g8
  refine⟨g8,fun hx => ?_⟩
  rcases hx.2 with hx | ⟨m',l1,l2,B9⟩
  ·have:=s1 m hm O
   omega
  ·have:=hp.heap.inj m' m l1 O B9
   rw[this]at l2
   exact l2 hm
 refine⟨Y,bO,rfl,rfl,hp.le.trans a0,hp.kn,⟨fun m => ?_,fun m cs Z => ?_,fun m m' hm a1 F=>hp.heap.inj m m' hm.1 a1.1 F,fun m hm=>⟨hp.heap.mt m hm.1,.inr ⟨m,hm.1,hm.2,rfl⟩⟩,fun m hm=>hp.heap.kn m hm.1⟩,S4 hp.heap a0 rfl BD hr hp.val,fun b hb hq=>hp.same b hb fun m hm O => ?_,fun b hb=>⟨fun h=>(hp.mt b hb).1 h.1,fun h=>⟨(hp.mt b hb).2 h,.inl hb⟩⟩,hp.os,hp.tape,hp.output,fun m O => ?_,fun m hm => ?_⟩
 ·show(C1.live m/\m.1≠n)↔(ae (aE (d.filter fun q => !(q.1.1==n)) h) m).isSome=true
  by_cases c:m.1=n
  ·rw[Vl m c]
   exact⟨fun h=>absurd c h.2,fun h=>by cases h⟩
  ·rw[hold m c,<-hp.heap.live m]
   exact⟨fun h=>h.1,fun h=>⟨h,c⟩⟩
 ·have Z:ae (aE (d.filter fun q => !(q.1.1==n)) h) m=some cs:=Z
  have c:m.1≠n:=fun c=>by rw[Vl m c]at Z;cases Z
  have g8:ae (aE d h) m=some cs:=(hold m c).symm.trans Z
  obtain⟨arr,ty,ha,aI⟩:=hp.heap.obj m cs g8
  exact⟨arr,ty,ha,fun j x M=>by obtain⟨v,v1,v2⟩:=aI j x M;exact⟨v,v1,v2.mono a0⟩⟩
 ·have c:=ay m (W.kn m O)
  refine hq m ?_ O
  obtain⟨q,q1,rfl⟩:=List.mem_map.1 hm
  exact List.mem_map.2 ⟨q,List.mem_filter.2 ⟨q1,by simpa using c⟩,rfl⟩
 ·rcases hp.lM m O.1 with A | A | ⟨m0,h0,A,E⟩
  ·exact .inl A
  ·exact .inr (.inl A)
  ·refine .inr (.inr ⟨m0,?_,A,E⟩)
   obtain⟨q,q1,rfl⟩:=List.mem_map.1 h0
   exact List.mem_map.2 ⟨q,List.mem_filter.2 ⟨q1,by simpa using ay _ (W.kn _ A)⟩,rfl⟩
 ·obtain⟨q,q1,rfl⟩:=List.mem_map.1 hm
  exact hp.names _ (List.mem_map.2 ⟨q,(List.mem_filter.1 q1).1,rfl⟩)
end Go.Proofs.Aw
