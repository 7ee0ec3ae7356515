/- Parts of the logic that the proof runs in, one behind the other. -/
import Derived.Test.YtpdfmnhgocpkcaaGreatAwM1
namespace Go.Proofs.Aw
open Go
def nd (n:Nat):Nat->List (List AV)->Dl
 | _,[]=>[]
 | k,c::cs=>((n,k),some c)::nd n (k+1) cs
def nB (n:Nat) (m:Nm):Nm:=(n,m.2)
theorem UW (n:Nat):∀(cs:List (List AV)) (k:Nat) (h:Hp) (m:Nm),ae (aD (nd n k cs) h) m=if m.1=n/\k<=m.2/\m.2<k+cs.length then cs[m.2-k]? else ae h m
 | [],k,h,m=>by
  simp only[nd,aD,List.length_nil,Nat.add_zero]
  rw[if_neg (by omega)]
 | c::cs,k,h,m=>by
  simp only[nd,aD]
  rw[UW n cs (k+1) _ m,dG]
  by_cases A:m.1=n
  ·by_cases E:m.2=k
   ·rw[if_neg (by omega),if_pos (by rw[<-A,<-E]),if_pos ⟨A,by omega,by simp;omega⟩,E,Nat.sub_self]
    rfl
   ·have ax:¬(n,k)=m:=fun e=>E (by rw[<-e])
    rw[if_neg ax]
    by_cases h3:k+1<=m.2/\m.2<k+1+cs.length
    ·rw[if_pos ⟨A,h3⟩,if_pos ⟨A,by omega,by simp;omega⟩,show m.2-k=m.2-(k+1)+1 from by omega,List.getElem?_cons_succ]
    ·rw[if_neg (fun h=>h3 h.2),if_neg (by simp;omega)]
  ·have ax:¬(n,k)=m:=fun e=>A (by rw[<-e])
   rw[if_neg (fun h=>A h.1),if_neg ax,if_neg (fun h=>A h.1)]
theorem Wz (n:Nat):∀(cs:List (List AV)) (k:Nat) (m:Nm),m∈(nd n k cs).map (·.1)->m.1=n
 | [],_,m,h=>by simp[nd]at h
 | c::cs,k,m,h=>by
  simp only[nd,List.map_cons,List.mem_cons]at h
  rcases h with rfl | h
  ·rfl
  ·exact Wz n cs (k+1) m h
mutual
theorem Pq (f g:Nm->Nm):∀v,aW f (aW g v)=aW (fun m=>f (g m)) v
 | .top=>rfl
 | .sc _=>rfl
 | .agg cs=>by simp only[aW,tu f g cs]
 | .tup cs=>by simp only[aW,tu f g cs]
 | .ptr _ _=>rfl
 | .sl _ _ _ _ _=>rfl
 | .ip cs _=>by simp only[aW,tu f g cs]
 | .ro _ D _=>by simp only[aW,XW f g D]
 | .fn _ xs ys=>by simp only[aW,tu f g xs,tu f g ys]
 | .ifc _ v=>by simp only[aW,Pq f g v]
theorem tu (f g:Nm->Nm):∀cs,bu f (bu g cs)=bu (fun m=>f (g m)) cs
 | []=>rfl
 | c::cs=>by simp only[bu,Pq f g c,tu f g cs]
theorem XW (f g:Nm->Nm):∀D,dC f (dC g D)=dC (fun m=>f (g m)) D
 | []=>rfl
 | e::D=>by simp only[dC,tu f g e,XW f g D]
end
mutual
theorem OB (n:Nat):∀v,b8 (fun m=>m.1==n) (aW (nB n) v)=true
 | .top=>rfl
 | .sc _=>rfl
 | .agg cs=>ta n cs
 | .tup cs=>ta n cs
 | .ptr _ _=>by simp[aW,b8,nB]
 | .sl _ _ _ _ _=>by simp[aW,b8,nB]
 | .ip cs _=>ta n cs
 | .ro _ D _=>WK n D
 | .fn _ xs ys=>by simp only[aW,b8,ta n xs,ta n ys,Bool.and_self]
 | .ifc _ v=>OB n v
theorem ta (n:Nat):∀cs,a4 (fun m=>m.1==n) (bu (nB n) cs)=true
 | []=>rfl
 | c::cs=>by simp only[bu,a4,OB n c,ta n cs,Bool.and_self]
theorem WK (n:Nat):∀D,cp (fun m=>m.1==n) (dC (nB n) D)=true
 | []=>rfl
 | e::D=>by simp only[dC,cp,ta n e,WK n D,Bool.and_self]
end
mutual
theorem y7 (f:Nm->Nm):∀v,b8 (fun _=>false) v=true->aW f v=v
 | .top,_=>rfl
 | .sc _,_=>rfl
 | .agg cs,h=>by simp only[aW,lB f cs h]
 | .tup cs,h=>by simp only[aW,lB f cs h]
 | .ptr _ _,h=>by cases h
 | .sl _ _ _ _ _,h=>by cases h
 | .ip cs _,h=>by simp only[aW,lB f cs h]
 | .ro _ D _,h=>by simp only[aW,pO f D h]
 | .fn _ xs ys,h=>by
   simp only[b8,Bool.and_eq_true]at h
   simp only[aW,lB f xs h.1,lB f ys h.2]
 | .ifc _ v,h=>by simp only[aW,y7 f v h]
theorem lB (f:Nm->Nm):∀cs,a4 (fun _=>false) cs=true->bu f cs=cs
 | [],_=>rfl
 | c::cs,h=>by
   simp only[a4,Bool.and_eq_true]at h
   simp only[bu,y7 f c h.1,lB f cs h.2]
theorem pO (f:Nm->Nm):∀D,cp (fun _=>false) D=true->dC f D=D
 | [],_=>rfl
 | e::D,h=>by
   simp only[cp,Bool.and_eq_true]at h
   simp only[dC,lB f e h.1,pO f D h.2]
end
def abn (P:Program) (rs:List ResultVar) (aE:Nat->Nm) (r:AV) (news:List (List AV)) (e:Exit) (V:St):Prop :=
 (e = .ret\/e = .normal)/\(kK P V rs fun vs=>oneOf vs=aW (fun m=>aE m.2) r)/\(∀k cs,news[k]? = some cs->ae V.h (aE k)=some (bu (fun m=>aE m.2) cs))/\(∀j k,j<news.length->k<news.length->aE j=aE k->j=k)
theorem Jo {C:Ctx}:∀(k:Nat) (args:List AV) (vs:List Value) (tmps:Array Value),aC C args vs->(∀i v,vs[i]? = some v->tmps[k+i]? = some v)->∀i,aj C (bP (gD k args) i) (tmps.getD i undef)
 | _,[],_,_,_,_,i=>by simp only[gD,bP,aj]
 | k,a::args,vs,tmps,hL,R,i=>by
  simp only[aC]at hL
  obtain⟨Y,us,rfl,H,M⟩:=hL
  simp only[gD,bP]
  split
  ·rename_i hik
   subst hik
   have:=R 0 Y rfl
   rw[Nat.add_zero]at this
   simp only[Array.getD_eq_getD_getElem?,this,Option.getD_some]
   exact H
  ·exact Jo (k+1) args us tmps M (fun j v O=>by
    have:=R (j+1) v (by simpa using O)
    rwa[show k+(j+1)=k+1+j from by omega]at this) i
theorem abd {P : Program} {f : FuncId} {fn : Func} {c : Code} {args : List AV} {r : AV} {news : List (List AV)} (aE : Nat -> Nm) (hf : P.funcs[f]? = some fn) (hb : fn.body = some c) (hN : args.length <= fn.ntmps) (hA : a4 (fun _ => false) args = true)
    (h : ∀ ac : Env, ac.N = fn.ntmps -> (∀ b, ¬ ac.wr b) -> (∀ m, ¬ ac.c0.kn m) -> AW P ac c (abn P fn.results.toList aE r news) ⟨gD 0 args, [], 0⟩) (n : Nat) (h0 : Hp) : CY P n f args h0 (aW (nB n) r) (nd n 0 (news.map (bu (nB n)))) := by
  intro C vs W hL hn
  refine calls_of_wp hf hb ?_
  let C0 : Ctx := { ρ := C.ρ, bs := C.bs, live := fun _ => False, kn := fun _ => False, mt := C.mt, w := C.w }
  let ac : Env := { N := fn.ntmps, w0 := C.w, wr := fun _ => False, N5 := C.mt, c0 := C0 }
  have hlen : vs.length = args.length := hL.length.symm
  have sub0 : C.sub C0 id (fun _ => false) := ⟨rfl, fun _ _ h => h, fun m hm => (nomatch hm), fun m hm => (nomatch hm)⟩
  have LL : aC C0 args vs := aC.aW sub0 args vs hA (by rw [pP]; exact hL)
  have BB : Rel ac ⟨gD 0 args, [], 0⟩ { tmps := vs.toArray ++ Array.replicate (fn.ntmps - vs.toArray.size) undef, defers := [] } C.w := by
    refine ⟨C0, rfl, ⟨⟨fun m => by simp [C0, ae], fun m cs Z => by simp [ae] at Z, fun m m' hm => hm.elim, fun m hm => hm.elim, fun m hm => hm.elim⟩, ?_, ?_, rfl, fun m hm => hm.elim, ⟨rfl, rfl, rfl, Nat.le_refl _, fun _ _ _ => rfl, fun _ _ => Iff.rfl, fun m hm => hm.elim, Ctx.le.refl _⟩⟩⟩
    · refine Jo 0 args vs _ LL fun i v R => ?_
      have hi := (List.getElem?_eq_some_iff.1 R).1
      rw [Nat.zero_add, Array.getElem?_append_left (by simpa using hi)]
      simpa using R
    · simp [ac]; omega
  refine Code.wp_mono ?_ (h ac rfl (fun _ k => k) (fun _ k => k) _ _ BB)
  rintro e bz w' ⟨aK, ⟨Cb, rfl, db⟩, G, Mr, U8, qB⟩
  obtain ⟨us, Y, bD, a9, fG⟩ := YG db.heap db.t Mr
  have pi : ∀ m, C.live m -> m.1 ≠ n := fun m hm e => hn m.2 (by have := W.kn m hm; rwa [show m = (n, m.2) from by rw [<- e]] at this)
  let C' : Ctx := { ρ := fun m => if m.1 = n then Cb.ρ (aE m.2) else C.ρ m, bs := fun m => if m.1 = n then Cb.bs (aE m.2) else C.bs m, live := fun m => C.live m \/ (m.1 = n /\ m.2 < news.length), kn := fun m => C.kn m \/ m.1 = n,
                    mt := fun b => (C.mt b /\ b < C.w.heap.size) \/ ∃ k, k < news.length /\ b = Cb.ρ (aE k), w := Cb.w }
  have fa : ∀ b, b < C.w.heap.size -> Cb.w.heap[b]? = C.w.heap[b]? := fun b hb => db.frame.same b hb (fun h => h)
  have dH : ∀ k, k < news.length -> Cb.live (aE k) := fun k u => db.heap.get (U8 k _ (List.getElem?_eq_getElem u))
  have m5 : ∀ k, k < news.length -> C.w.heap.size <= Cb.ρ (aE k) := fun k u => by
    rcases Nat.lt_or_ge (Cb.ρ (aE k)) C.w.heap.size with E | E
    · exact (db.frame.wr _ (dH k u) E).elim
    · exact E
  have le : C.le C' := by
    refine ⟨db.frame.size, fun b hb _ => fa b hb, fun b hb hm => ?_, fun _ h => .inl h, fun m u M => ?_, fun m u M cs ty H => ?_⟩
    · rcases hm with A | ⟨k, u, A⟩
      · exact A.1
      · have := m5 k u; omega
    · have hm : m.1 ≠ n := fun e => hn m.2 (by rwa [show m = (n, m.2) from by rw [<- e]] at u)
      rcases M with A | A
      · exact ⟨A, by simp [C', hm], by simp [C', hm]⟩
      · exact absurd A.1 hm
    · have aQ : C.ρ m < C.w.heap.size := by
        rcases Nat.lt_or_ge (C.ρ m) C.w.heap.size with E | E
        · exact E
        · rw [Array.getElem?_eq_none E] at H; cases H
      exact ⟨cs, ty, (fa _ aQ).trans H, rfl⟩
  have sub : Cb.sub C' (fun m => aE m.2) (fun m => m.1 == n) := by
    refine ⟨rfl, fun b hb hm => ?_, fun m hm _ => .inr (by simpa using hm), fun m hm u M => ?_⟩
    · rcases hm with A | ⟨k, u, A⟩
      · exact (db.frame.mt b A.2).2 A.1
      · rw [A]; exact db.heap.mt _ (dH k u)
    · have a0 : m.1 = n := by simpa using hm
      rcases M with A | A
      · exact absurd a0 (pi m A)
      · exact ⟨dH _ A.2, by simp [C', a0], by simp [C', a0]⟩
  have n5 : aj C' (aW (nB n) r) Y := by
    refine aj.aW sub _ Y (OB n r) ?_
    rw [Pq]
    show aj Cb (aW (fun m => aE m.2) r) Y
    rw [<- fG]; exact a9
  have By : cZ C n h0 (aW (nB n) r) (nd n 0 (news.map (bu (nB n)))) Y C' := by
    have iQ : ∀ m, ae (aD (nd n 0 (news.map (bu (nB n)))) h0) m = if m.1 = n /\ m.2 < news.length then (news.map (bu (nB n)))[m.2]? else ae h0 m := fun m => by
      rw [UW]
      simp only [Nat.zero_le, true_and, Nat.zero_add, List.length_map, Nat.sub_zero]
    refine ⟨le, fun _ => Iff.rfl, ⟨fun m => ?_, fun m cs Z => ?_, fun m m' hm a0 G => ?_, fun m hm => ?_, fun m hm => ?_⟩, n5, fun b hb _ => fa b hb, fun b hb => ?_, db.frame.os, db.frame.tape, db.frame.output, fun m hm => ?_, fun m hm => .inr (Wz _ _ _ _ hm)⟩
    · rw [iQ]
      by_cases A : m.1 = n /\ m.2 < news.length
      · rw [if_pos A]
        simp [C', A]
      · rw [if_neg A, <- W.live m]
        simp only [C', A, or_false]
    · rw [iQ] at Z
      by_cases A : m.1 = n /\ m.2 < news.length
      · rw [if_pos A, List.getElem?_map] at Z
        have E : news[m.2]? = some news[m.2] := List.getElem?_eq_getElem A.2
        rw [E] at Z
        simp only [Option.map_some, Option.some.injEq] at Z
        obtain ⟨arr, ty, ha, H⟩ := db.heap.obj _ _ (U8 _ _ E)
        refine ⟨arr, ty, by simp only [C', A.1, if_true]; exact ha, fun j c O => ?_⟩
        rw [<- Z] at O
        have hx : (bu (fun m => aE m.2) news[m.2])[j]? = some (aW (fun m => aE m.2) c) := by
          have := y5 (fun m => aE m.2) _ j c O
          rw [tu] at this
          exact this
        obtain ⟨u', a3, j8⟩ := H j _ hx
        exact ⟨u', by simp only [C', A.1, if_true]; exact a3, aj.aW sub c u' (pD (ta n _) O) j8⟩
      · rw [if_neg A] at Z
        have M := W.get Z
        obtain ⟨arr, ty, ha, H⟩ := W.obj m cs Z
        refine ⟨arr, ty, ?_, fun j c O => ?_⟩
        · simp only [C', pi m M, if_false]
          exact (fa _ (W.lt M)).trans ha
        · obtain ⟨u', a3, j8⟩ := H j c O
          exact ⟨u', by simp only [C', pi m M, if_false]; exact a3, j8.mono le⟩
    · rcases hm with A | A <;> rcases a0 with E | E
      · simp only [C', pi m A, pi m' E, if_false] at G
        exact W.inj m m' A E G
      · simp only [C', pi m A, E.1, if_false, if_true] at G
        have := W.lt A
        have := m5 _ E.2
        omega
      · simp only [C', pi m' E, A.1, if_false, if_true] at G
        have := W.lt E
        have := m5 _ A.2
        omega
      · simp only [C', A.1, E.1, if_true] at G
        have e1 := db.heap.inj _ _ (dH _ A.2) (dH _ E.2) G
        have e2 := qB _ _ A.2 E.2 e1
        exact Prod.ext (A.1.trans E.1.symm) e2
    · rcases hm with A | A
      · simp only [C', pi m A, if_false]
        exact .inl ⟨W.mt m A, W.lt A⟩
      · simp only [C', A.1, if_true]
        exact .inr ⟨m.2, A.2, rfl⟩
    · rcases hm with A | A
      · exact .inl (W.kn m A)
      · exact .inr A.1
    · constructor
      · rintro (A | ⟨k, u, A⟩)
        · exact A.1
        · have := m5 k u; omega
      · intro A; exact .inl ⟨A, hb⟩
    · rcases hm with A | A
      · exact .inl ⟨A, by simp only [C', pi m A, if_false]⟩
      · exact .inr (.inl (by simp only [C', A.1, if_true]; exact m5 _ A.2))
  rcases G with rfl | rfl
  · exact ⟨db.defers, Y, bD, Y, C', rfl, rfl, By⟩
  · exact ⟨db.defers, Y, bD, Y, C', rfl, rfl, By⟩
theorem Je {P:Program} {f:FuncId} {fn:Func} {c:Code} {args:List AV} {r:AV} (hf:P.funcs[f]? = some fn) (hb:fn.body=some c) (hN:args.length<=fn.ntmps) (hA:a4 (fun _=>false) args=true) (hR:b8 (fun _=>false) r=true)
  (h:∀ac:Env,ac.N=fn.ntmps->(∀b,¬ac.wr b)->(∀m,¬ac.c0.kn m)->AW P ac c (DW P fn.results.toList r) ⟨gD 0 args,[],0⟩) (n:Nat) (h0:Hp):CY P n f args h0 r []:=by
 have:=abd (r:=r) (news:=[]) (fun _=>(0,0)) hf hb hN hA (fun ac hE hw u=>dD (fun e V hq=>⟨hq.1,by rw[y7 _ r hR];exact hq.2,by simp,by simp⟩) (h ac hE hw u)) n h0
 rw[y7 _ r hR]at this
 exact this
theorem abe {P:Program} {f:FuncId} {fn:Func} {c:Code} {args:List AV} {r:AV} (hf:P.funcs[f]? = some fn) (hb:fn.body=some c) (hN:args.length<=fn.ntmps) (hA:a4 (fun _=>false) args=true) (hR:b8 (fun _=>false) r=true)
  (h:∀ac:Env,ac.N=fn.ntmps->AW P ac c (DW P fn.results.toList r) ⟨gD 0 args,[],0⟩) (n:Nat) (h0:Hp):CY P n f args h0 r [] :=
 Je hf hb hN hA hR (fun ac hE _ _=>h ac hE) n h0
end Go.Proofs.Aw
namespace Go.Proofs.Aw
open Go
structure En where
 dst:Option Tmp
 r:AV
 d:Dl
 ms:Nat
def bf:List En->Nat->Option En
 | [],_=>none
 | e::D,j=>if j=D.length then some e else bf D j
def b0 (ab:Nat->Bool):List En->Tp->Tp
 | [],t=>t
 | e::D,t=>gF e.dst (if ab D.length=true then e.r else .top) (b0 ab D t)
def aJ (ab:Nat->Bool):List En->Hp->Hp
 | [],h=>h
 | e::D,h=>if ab D.length=true then aD e.d (aJ ab D h)else aJ ab D h
def eh (n:Nat):Dl->Bool
 | []=>true
 | (m,some _)::d=>m.1==n&&eh n d
 | (_,none)::_=>false
def uK (D:List En) (j:Nat):Nat:=match bf D j with | some e=>e.ms | none=>0
def qX (D:List En):List Edge->Nat
 | []=>0
 | e::l=>if Region.binds .any e=true then(2 ^ e.on ||| uK D e.on) ||| qX D l else qX D l
def once:List Oper->Bool
 | []=>true
 | o::l=>(match o.dst with | some d=>l.all fun o'=>o'.dst != some d | none=>true)&&once l
def e6 (ops:List Oper):Tp->Tp
 | []=>[]
 | p::t=>if ops.any (fun o=>o.dst==some p.1)=true then e6 ops t else p::e6 ops t
theorem nY:∀{D:List En} {j:Nat} {e:En},bf D j=some e->j<D.length
 | [],j,e,h=>by simp[bf]at h
 | x::D,j,e,h=>by
  simp only[bf]at h
  split at h
  ·rename_i O;subst O;simp
  ·have:=nY h;simp;omega
theorem EP:∀{D:List En} {j:Nat},j<D.length->∃e,bf D j=some e
 | [],j,h=>by simp at h
 | x::D,j,h=>by
  simp only[bf]
  split
  ·exact⟨x,rfl⟩
  ·exact EP (by simp at h;omega)
theorem Db (d:Option Tmp) (v:AV) (t:Tp) (x:Nat):bP (gF d v t) x=if d=some x then v else bP t x:=by
 cases d with
 | none=>simp[gF]
 | some d=>simp[gF,bP]
theorem pZ (ab:Nat->Bool) (t0:Tp) (x:Nat):∀(D:List En),(∃j e,bf D j=some e/\e.dst=some x/\bP (b0 ab D t0) x=(if ab j=true then e.r else .top)) \/
  ((∀j e,bf D j=some e->e.dst≠some x)/\bP (b0 ab D t0) x=bP t0 x)
 | [] => .inr ⟨fun j e h=>by simp[bf]at h,rfl⟩
 | e::D=>by
  simp only[b0,Db]
  by_cases G:e.dst=some x
  ·exact .inl ⟨D.length,e,by simp[bf],G,by rw[if_pos G]⟩
  ·rw[if_neg G]
   rcases pZ ab t0 x D with⟨j,e',A,E,h3⟩ | ⟨A,E⟩
   ·exact .inl ⟨j,e',by simp only[bf];rw[if_neg (by have:=nY A;omega)];exact A,E,h3⟩
   ·refine .inr ⟨fun j e' O => ?_,E⟩
    simp only[bf]at O
    split at O
    ·cases O;exact G
    ·exact A j e' O
theorem wq (ops:List Oper) (x:Nat):∀(t:Tp),bP (e6 ops t) x=if ops.any (fun o=>o.dst==some x)=true then .top else bP t x
 | []=>by simp[e6,bP]
 | (i,v)::t=>by
  simp only[e6]
  by_cases hi:i=x
  ·subst hi
   split
   ·rename_i h;rw[wq ops i t,if_pos h]
   ·simp only[bP,if_true]
  ·split
   ·rw[wq ops x t];simp only[bP,hi,if_false]
   ·simp only[bP,hi,if_false];rw[wq ops x t]
theorem mZ (m:Nm):∀(d:Dl) (h:Hp),(m∈d.map (·.1)/\∀h',ae (aD d h) m=ae (aD d h') m)\/(m∉d.map (·.1)/\ae (aD d h) m=ae h m):=by
 intro d h
 by_cases hm:m∈d.map (·.1)
 ·refine .inl ⟨hm,?_⟩
  induction d generalizing h with
  | nil=>simp at hm
  | cons p d ih =>
   obtain⟨k,v⟩:=p
   intro h'
   by_cases hd:m∈d.map (·.1)
   ·cases v<;>exact ih _ hd _
   ·have u:k=m:=by
     simp only[List.map_cons,List.mem_cons]at hm
     rcases hm with A | A
     ·exact A.symm
     ·exact absurd A hd
    subst u
    cases v with
    | none=>simp only[aD];rw[gv d _ _ hd,gv d _ _ hd,u5,u5];simp
    | some v=>simp only[aD];rw[gv d _ _ hd,gv d _ _ hd,dG,dG];simp
 ·exact .inr ⟨hm,gv d h m hm⟩
theorem E' {n:Nat}:∀{d:Dl},eh n d=true->∀m∈d.map (·.1),m.1=n
 | [],_,m,h=>by simp at h
 | (k,some v)::d,hf,m,h=>by
  simp only[eh,Bool.and_eq_true,beq_iff_eq]at hf
  simp only[List.map_cons,List.mem_cons]at h
  rcases h with rfl | h
  ·exact hf.1
  ·exact E' hf.2 m h
 | (k,none)::d,hf,_,_=>by simp[eh]at hf
theorem xW {ab ad:Nat->Bool} {h0:Hp} {m:Nm}:∀(D:List En),(∀j e,bf D j=some e->m∈e.d.map (·.1)->ab j=ad j)->ae (aJ ab D h0) m=ae (aJ ad D h0) m
 | [],_=>rfl
 | e::D,h=>by
  have ih:=xW (ab:=ab) (ad:=ad) (h0:=h0) (m:=m) D fun j e' O hm=>h j e' (by simp only[bf];rw[if_neg (by have:=nY O;omega)];exact O) hm
  simp only[aJ]
  by_cases hm:m∈e.d.map (·.1)
  ·have xK:=h D.length e (by simp[bf]) hm
   rw[xK]
   split
   ·rcases mZ m e.d (aJ ab D h0)with⟨_,A⟩ | ⟨A,_⟩
    ·exact A _
    ·exact absurd hm A
   ·exact ih
  ·have e1:∀h,ae (aD e.d h) m=ae h m:=fun h=>gv e.d h m hm
   split<;>split<;>simp only[e1,ih]
def wS (P:Program) (ops:List Oper) (n:Nat) (o:Oper) (t:Tp) (h:Hp) (r:AV) (d:Dl):Prop :=
 (o.guard=none/\Yields P n o.op t h r d) \/
  (∃j want b,o.guard=some (j,want)/\yv ops t j = .sc (.bool b)/\b=want/\Yields P n o.op t h r d) \/
  (∃j want,o.guard=some (j,want)/\((∃b,yv ops t j = .sc (.bool b)/\b≠want)\/∃x,yv ops t j = .sc (.tuple x))/\r = .sc undef/\d=[])
def abm (n:Nat) (d:Dl):Prop:=(∀p∈d,p.2.isSome=true/\p.1.1≠n)\/∃m q cs,d=[(m,none),(q,some cs)]/\m.1≠n/\q.1=n
def DU (P:Program) (ops:List Oper) (nx:Nat) (t0:Tp) (h0:Hp) (D:List En) (e:En):Prop :=
 abm (nx+D.length) e.d/\∀k ek o,k<D.length->e.ms.testBit k=false->bf D k=some ek->ops[k]? = some o ->
  ek.d=[]/\wS P ops (nx+k) o (b0 ((ek.ms ||| e.ms) ||| 2 ^ D.length).testBit (e::D) t0) (aJ ((ek.ms ||| e.ms) ||| 2 ^ D.length).testBit (e::D) h0) ek.r []
def abk (P:Program) (ops:List Oper) (nx:Nat) (t0:Tp) (h0:Hp) (D:List En) (e:En) (o:Oper) (j:Nat) (e':En):Prop :=
 e.d=[]/\wS P ops (nx+D.length) o (b0 ((e.ms ||| e'.ms) ||| 2 ^ j).testBit D t0) (aJ ((e.ms ||| e'.ms) ||| 2 ^ j).testBit D h0) e.r []
structure Shown (P:Program) (ops:List Oper) (nx:Nat) (t0:Tp) (h0:Hp) (D:List En) (e:En) (o:Oper):Prop where
 dst:e.dst=o.dst
 mask:e.ms=qX D o.after.toList
 lt:e.ms<2 ^ D.length
 Rc:(o.guard=none/\Yields P (nx+D.length) o.op (b0 e.ms.testBit D t0) (aJ e.ms.testBit D h0) e.r e.d) \/
  (∃j want b,o.guard=some (j,want)/\yv ops (b0 e.ms.testBit D t0) j = .sc (.bool b)/\b=want/\Yields P (nx+D.length) o.op (b0 e.ms.testBit D t0) (aJ e.ms.testBit D h0) e.r e.d) \/
  (∃j want,o.guard=some (j,want)/\((∃b,yv ops (b0 e.ms.testBit D t0) j = .sc (.bool b)/\b≠want)\/∃x,yv ops (b0 e.ms.testBit D t0) j = .sc (.tuple x))/\e.r = .sc undef/\e.d=[])
 fresh:eh (nx+D.length) e.d=true\/e.ms+1=2 ^ D.length\/DU P ops nx t0 h0 D e
 waits:∀j e',bf D j=some e'->eh (nx+j) e'.d=false->e.ms.testBit j=true\/abk P ops nx t0 h0 D e o j e'
def jj (P:Program) (ops:List Oper) (nx:Nat) (t0:Tp) (h0:Hp):List En->Prop
 | []=>True
 | e::D=>jj P ops nx t0 h0 D/\∃o,ops[D.length]? = some o/\Shown P ops nx t0 h0 D e o
end Go.Proofs.Aw
namespace Go.Proofs.Aw
open Go
theorem jj.get {P:Program} {ops:List Oper} {nx:Nat} {t0:Tp} {h0:Hp}:∀{D:List En},jj P ops nx t0 h0 D->∀{j:Nat} {e:En},bf D j=some e ->
  ∃bi o,bi.length=j/\(∀k,k<j->bf bi k=bf D k)/\ops[j]? = some o/\Shown P ops nx t0 h0 bi e o/\(∀(ab:Nat->Bool),(∀k,j<=k->ab k=false)->aJ ab D h0=aJ ab bi h0)/\(∀ab:Nat->Bool,ab j=true->(∀k,j<k->ab k=false)->aJ ab D h0=aD e.d (aJ ab bi h0))
 | [],_,j,e,h=>by simp[bf]at h
 | x::D,⟨hw,o,ho,hs⟩,j,e,h=>by
  simp only[bf]at h
  split at h
  ·rename_i O
   cases h
   subst O
   refine⟨D,o,rfl,fun k u=>by simp only[bf];rw[if_neg (by omega)],ho,hs,fun ab hA => ?_,fun ab hA _ => ?_⟩
   ·simp only[aJ];rw[hA _ (Nat.le_refl _)];rfl
   ·simp only[aJ];rw[if_pos hA]
  ·have aQ:=nY h
   obtain⟨bi,o',A,E,h3,h4,h5,h6⟩:=jj.get hw h
   refine⟨bi,o',A,fun k u=>by rw[E k u];simp only[bf];rw[if_neg (by omega)],h3,h4,fun ab hA => ?_,fun ab hA cF => ?_⟩
   ·simp only[aJ];rw[hA D.length (by omega)];exact h5 ab hA
   ·simp only[aJ];rw[cF D.length aQ];exact h6 ab hA cF
theorem B3 {D:List En} {k:Nat}:∀{l:List Edge},(qX D l).testBit k=true↔∃e∈l,Region.binds .any e=true/\(e.on=k\/(uK D e.on).testBit k=true)
 | []=>by simp[qX]
 | e::l=>by
  simp only[qX]
  split
  ·rename_i hb
   rw[Nat.testBit_or,Nat.testBit_or,Bool.or_eq_true,Bool.or_eq_true,B3 (l:=l),Nat.testBit_two_pow,decide_eq_true_eq]
   constructor
   ·rintro((h | h) | ⟨e',A,E⟩)
    ·exact⟨e,List.mem_cons_self,hb,.inl h⟩
    ·exact⟨e,List.mem_cons_self,hb,.inr h⟩
    ·exact⟨e',List.mem_cons_of_mem _ A,E⟩
   ·rintro⟨e',A,E,h3⟩
    rcases List.mem_cons.1 A with rfl | A
    ·exact .inl h3
    ·exact .inr ⟨e',A,E,h3⟩
  ·rename_i hb
   rw[B3 (l:=l)]
   constructor
   ·rintro⟨e',A,E⟩;exact⟨e',List.mem_cons_of_mem _ A,E⟩
   ·rintro⟨e',A,E,h3⟩
    rcases List.mem_cons.1 A with rfl | A
    ·exact absurd E hb
    ·exact⟨e',A,E,h3⟩
theorem Xl:∀{ops:List Oper},once ops=true->∀{j k:Nat} {o o':Oper} {x:Nat},ops[j]? = some o->ops[k]? = some o'->o.dst=some x->o'.dst=some x->j=k
 | [],_,j,k,o,o',x,h,_,_,_=>by simp at h
 | p::l,ho,j,k,o,o',x,O,u,hx,MG=>by
  simp only[once,Bool.and_eq_true]at ho
  cases j with
  | zero =>
   cases k with
   | zero=>rfl
   | succ k =>
    simp at O u
    subst O
    have:=ho.1
    rw[hx]at this
    have A:=List.all_eq_true.1 this o' (List.mem_of_getElem? u)
    simp[MG]at A
  | succ j =>
   cases k with
   | zero =>
    simp at O u
    subst u
    have:=ho.1
    rw[MG]at this
    have A:=List.all_eq_true.1 this o (List.mem_of_getElem? O)
    simp[hx]at A
   | succ k=>exact congrArg (· + 1) (Xl ho.2 (by simpa using O) (by simpa using u) hx MG)
theorem E8 {N:Nat} {ops:List Oper} (h:fits N ops=true) {j:Nat} {o:Oper} (O:ops[j]? = some o):∀x,o.dst=some x->x<N:=fun x hx=>by
 have:=List.all_eq_true.1 h o (List.mem_of_getElem? O)
 rw[hx]at this
 simpa [Nat.blt_eq]using this
structure gl (P:Program) (ac:Env) (ops:List Oper) (nx:Nat) (t0:Tp) (h0:Hp) (D:List En):Prop where
 walked:jj P ops nx t0 h0 D
 len:D.length=ops.length
 once:once ops=true
 fits:fits ac.N ops=true
 top:∀o∈ops,∀x,o.dst=some x->bP t0 x = .top
def Ctx.at_ (C:Ctx) (nx:Nat) (h0:Hp) (D:List En) (ab:Nat->Bool):Ctx :=
 { ρ:=C.ρ,bs:=C.bs,live:=fun m=>(ae (aJ ab D h0) m).isSome=true,kn:=fun m=>m.1<nx\/∃j,ab j=true/\m.1=nx+j,mt:=C.mt,w:=C.w }
section
variable {P:Program} {ac:Env} {ops:List Oper} {nx:Nat} {t0:Tp} {h0:Hp} {D:List En}
theorem gl.entry (aU:gl P ac ops nx t0 h0 D) {j:Nat} {o:Oper} (ho:ops[j]? = some o):∃e,bf D j=some e/\e.dst=o.dst:=by
 have O:=(List.getElem?_eq_some_iff.1 ho).1
 obtain⟨e,G⟩:=EP (D:=D) (j:=j) (by rw[aU.len];exact O)
 obtain⟨bi,o',A,E,h3,h4,_⟩:=aU.walked.get G
 rw[ho]at h3;cases h3
 exact⟨e,G,h4.dst⟩
theorem gl.op (aU:gl P ac ops nx t0 h0 D) {j:Nat} {e:En} (G:bf D j=some e):∃o,ops[j]? = some o/\e.dst=o.dst:=by
 obtain⟨bi,o',A,E,h3,h4,_⟩:=aU.walked.get G
 exact⟨o',h3,h4.dst⟩
theorem gl.pY (aU:gl P ac ops nx t0 h0 D) (ab:Nat->Bool) {i:Nat} {e:En} {x:Nat} (G:bf D i=some e) (hx:e.dst=some x):bP (b0 ab D t0) x=if ab i=true then e.r else .top:=by
 rcases pZ ab t0 x D with⟨j,e',A,E,h3⟩ | ⟨A,_⟩
 ·obtain⟨o,ho,hd⟩:=aU.op G
  obtain⟨o',dT,xO⟩:=aU.op A
  have hF:=Xl aU.once ho dT (hd▸hx) (xO▸E)
  subst hF
  rw[G]at A;cases A
  exact h3
 ·exact absurd hx (A i e G)
theorem gl.C_ (aU:gl P ac ops nx t0 h0 D) {ab ad:Nat->Bool} {x:Nat} (h:∀j e,bf D j=some e->e.dst=some x->ab j=ad j):bP (b0 ab D t0) x=bP (b0 ad D t0) x:=by
 rcases pZ ab t0 x D with⟨j,e,A,E,h3⟩ | ⟨A,E⟩
 ·rw[aU.pY ab A E,aU.pY ad A E,h j e A E]
 ·rcases pZ ad t0 x D with⟨j,e,h3,h4,_⟩ | ⟨_,h4⟩
  ·exact absurd h4 (A j e h3)
  ·rw[E,h4]
theorem gl.Qt (aU:gl P ac ops nx t0 h0 D) {bi:List En} {j:Nat} (M:bi.length=j) (G:∀k,k<j->bf bi k=bf D k) {ab:Nat->Bool} (hA:∀k,j<=k->ab k=false) (x:Nat):bP (b0 ab bi t0) x=bP (b0 ab D t0) x:=by
 rcases pZ ab t0 x bi with⟨k,e,A,E,h3⟩ | ⟨A,E⟩
 ·have u:=nY A
  rw[M]at u
  rw[G k u]at A
  rw[h3,aU.pY ab A E]
 ·rcases pZ ab t0 x D with⟨k,e,h3,h4,h5⟩ | ⟨_,h4⟩
  ·rcases Nat.lt_or_ge k j with u | u
   ·exact absurd h4 (A k e (by rw[G k u];exact h3))
   ·rw[E,h5,hA k u]
    obtain⟨o,ho,hd⟩:=aU.op h3
    exact aU.top o (List.mem_of_getElem? ho) x (hd▸h4)
  ·rw[E,h4]
theorem aea {D:List En} {j:Nat} {e:En} (h:bf D j=some e):uK D j=e.ms:=by simp[uK,h]
theorem gl.mask (aU:gl P ac ops nx t0 h0 D) {j:Nat} {e:En} {o:Oper} (G:bf D j=some e) (ho:ops[j]? = some o) :
  (∀k,e.ms.testBit k=true->k<j)/\(∀ed∈o.after,Region.binds .any ed=true->e.ms.testBit ed.on=true) /\
  (∀k,e.ms.testBit k=true->∃ed∈o.after,Region.binds .any ed=true/\(ed.on=k\/∃e',bf D ed.on=some e'/\e'.ms.testBit k=true)) /\
  (∀ed∈o.after,Region.binds .any ed=true->∀e',bf D ed.on=some e'->∀m,e'.ms.testBit m=true->e.ms.testBit m=true):=by
 obtain⟨bi,o',A,E,h3,h4,_⟩:=aU.walked.get G
 rw[ho]at h3;cases h3
 have aQ:∀k,e.ms.testBit k=true->k<j:=fun k u=>by
  rcases Nat.lt_or_ge k j with h | h
  ·exact h
  ·have:=Nat.testBit_lt_two_pow (x:=e.ms) (i:=k) (Nat.lt_of_lt_of_le (by rw[<-A];exact h4.lt) (Nat.pow_le_pow_right (by omega) h))
   rw[u]at this;cases this
 have co:∀ed∈o.after,Region.binds .any ed=true->e.ms.testBit ed.on=true:=fun ed d3 hb=>by
  rw[h4.mask]
  exact B3.2 ⟨ed,by simpa using d3,hb,.inl rfl⟩
 refine⟨aQ,co,fun k u => ?_,fun ed d3 hb e' qA m hm => ?_⟩
 ·rw[h4.mask]at u
  obtain⟨ed,d3,hb,Bx⟩:=B3.1 u
  refine⟨ed,by simpa using d3,hb,?_⟩
  rcases Bx with h | h
  ·exact .inl h
  ·refine .inr ?_
   unfold uK at h
   cases hx:bf bi ed.on with
   | none=>rw[hx]at h;simp at h
   | some e' =>
    rw[hx]at h
    have FE:=nY hx
    rw[A]at FE
    rw[E _ FE]at hx
    exact⟨e',hx,h⟩
 ·have M:=aQ _ (co ed d3 hb)
  have hx:bf bi ed.on=some e':=by rw[E _ M];exact qA
  rw[h4.mask]
  exact B3.2 ⟨ed,by simpa using d3,hb,.inr (by rw[aea hx];exact hm)⟩
theorem gl.trans (aU:gl P ac ops nx t0 h0 D):∀(j:Nat) {k:Nat} {e e':En},bf D j=some e->e.ms.testBit k=true->bf D k=some e'->∀m,e'.ms.testBit m=true->e.ms.testBit m=true:=by
 intro j
 induction j using Nat.strongRecOn with
 | _ j ih =>
  intro k e e' G u qA m hm
  obtain⟨o,ho,_⟩:=aU.op G
  obtain⟨aQ,co,hex,mh⟩:=aU.mask G ho
  obtain⟨ed,d3,hb,Bx⟩:=hex k u
  rcases Bx with h | ⟨e1,xS,bp⟩
  ·subst h;exact mh ed d3 hb e' qA m hm
  ·exact mh ed d3 hb e1 xS m (ih ed.on (aQ _ (co ed d3 hb)) xS bp qA m hm)
theorem x7 {ab ad:Nat->Bool} {h0:Hp}:∀(D:List En),(∀j,j<D.length->ab j=ad j)->aJ ab D h0=aJ ad D h0
 | [],_=>rfl
 | e::D,h=>by
  simp only[aJ]
  rw[x7 D (fun j O=>h j (by simp;omega)),h D.length (by simp)]
theorem ZP {ab ad:Nat->Bool} {t0:Tp}:∀(D:List En),(∀j,j<D.length->ab j=ad j)->b0 ab D t0=b0 ad D t0
 | [],_=>rfl
 | e::D,h=>by
  simp only[b0]
  rw[ZP D (fun j O=>h j (by simp;omega)),h D.length (by simp)]
theorem vf {ab ad:Nat->Bool} {h0:Hp}:∀(D:List En),(∀j e,bf D j=some e->e.d≠[]->ab j=ad j)->aJ ab D h0=aJ ad D h0
 | [],_=>rfl
 | e::D,h=>by
  have ih:=vf (ab:=ab) (ad:=ad) (h0:=h0) D (fun j e' O hn=>h j e' (by simp only[bf];rw[if_neg (by have:=nY O;omega)];exact O) hn)
  simp only[aJ]
  rw[ih]
  by_cases hd:e.d=[]
  ·rw[hd];simp only[aD,ite_self]
  ·rw[h D.length e (by simp[bf]) hd]
structure eo (nx:Nat) (D:List En) (L ab:Nat->Bool):Prop where
 sub:∀j,ab j=true->L j=true
 closed:∀j e,ab j=true->bf D j=some e->∀k,e.ms.testBit k=true->ab k=true
 bars:∀j e,L j=true->bf D j=some e->eh (nx+j) e.d=false->ab j=true
structure ez (ac:Env) (nx:Nat) (t0:Tp) (h0:Hp) (D:List En) (L:Nat->Bool) (C:Ctx) (a:Act):Prop where
 lt:∀j,L j=true->j<D.length
 closed:∀j e,L j=true->bf D j=some e->∀k,e.ms.testBit k=true->L k=true
 names:∀j e,L j=true->bf D j=some e->∀m∈e.d.map (·.1),m.1<nx\/∃k,(k=j\/e.ms.testBit k=true)/\m.1=nx+k
 size:a.tmps.size=ac.N
 defers:a.defers=[]
 ok:∀ab,eo nx D L ab->cY (C.at_ nx h0 D ab) (aJ ab D h0)/\fY (C.at_ nx h0 D ab) (b0 ab D t0) a/\mH ac (C.at_ nx h0 D ab)
def eB (L:Nat->Bool) (i:Nat):Nat->Bool:=fun j=>L j||j==i
theorem cI {L:Nat->Bool} {i j:Nat}:eB L i j=true↔L j=true\/j=i:=by simp[eB]
def Ctx.next (C C':Ctx) (n:Nat):Ctx:={ C' with ρ:=fun m=>if m.1=n then C'.ρ m else C.ρ m,bs:=fun m=>if m.1=n then C'.bs m else C.bs m }
theorem mH.of {ac:Env} {C C':Ctx} (h:mH ac C) (hw:C'.w=C.w) (hm:C'.mt=C.mt) (aZ:ac.c0.le C') (hr:∀n,C'.live n->C'.ρ n<ac.w0.heap.size->ac.wr (C'.ρ n)):mH ac C' where
 os:=by rw[hw];exact h.os
 tape:=by rw[hw];exact h.tape
 output:=by rw[hw];exact h.output
 size:=by rw[hw];exact h.size
 same b hb hn:=by rw[hw];exact h.same b hb hn
 mt b hb:=by rw[hm];exact h.mt b hb
 wr:=hr
 le:=aZ
theorem ez.step (aU : gl P ac ops nx t0 h0 D) {L : Nat -> Bool} {C : Ctx} {a : Act} (aB : ez ac nx t0 h0 D L C a) {i : Nat} {e : En} {o : Oper} (G : bf D i = some e) (ho : ops[i]? = some o) (cx : L i = false)
    (co : ∀ k, e.ms.testBit k = true -> L k = true) {bi : List En} (bW : bi.length = i) (qA : ∀ k, k < i -> bf bi k = bf D k) (hs : Shown P ops nx t0 h0 bi e o)
    (h6 : ∀ ab : Nat -> Bool, ab i = true -> (∀ k, i < k -> ab k = false) -> aJ ab D h0 = aD e.d (aJ ab bi h0)) (h5 : aJ e.ms.testBit D h0 = aJ e.ms.testBit bi h0) {Y : Value} {C' : Ctx} (iK : eo nx D L e.ms.testBit)
    (hp : cZ (C.at_ nx h0 D e.ms.testBit) (nx + i) (aJ e.ms.testBit bi h0) e.r e.d Y C') (xU : eh (nx + i) e.d = false -> e.ms + 1 = 2 ^ bi.length) (aQ : eh (nx + i) e.d = false -> ∀ k, L k = true -> k < i \/ ∃ ek, bf D k = some ek /\ ek.d = []) :
    ez ac nx t0 h0 D (eB L i) (C.next C' (nx + i)) (a.put o.dst Y) := by
  obtain ⟨pp, _, _, _⟩ := aU.mask G ho
  have hi : i < D.length := nY G
  obtain ⟨hH, hT, j3⟩ := aB.ok _ iK
  have j4 : mH ac C' := j3.step hp
  have nameI : ∀ m ∈ e.d.map (·.1), m.1 < nx \/ ∃ k, (k = i \/ e.ms.testBit k = true) /\ m.1 = nx + k := fun m hm => by
    rcases hp.names m hm with h | h
    · rcases hH.kn m h with h | ⟨k, u, h⟩
      · exact .inl h
      · exact .inr ⟨k, .inr u, h⟩
    · exact .inr ⟨i, .inl rfl, h⟩
  have notKnown : ∀ m : Nm, m.1 = nx + i -> ¬ (C.at_ nx h0 D e.ms.testBit).kn m := fun m hm h => by
    rcases h with h | ⟨k, u, h⟩
    · omega
    · have := pp k u; omega
  have mlt' : ∀ k, i <= k -> e.ms.testBit k = false := fun k u => by
    cases h : e.ms.testBit k with
    | false => rfl
    | true => have := pp k h; omega
  have seeNew : ∀ A' : Nat -> Bool, A' i = true -> (∀ j, A' j = true -> eB L i j = true) -> (∀ k, e.ms.testBit k = true -> A' k = true) -> ∀ m : Nm, m.1 = nx + i -> ae (aJ A' D h0) m = ae (aD e.d (aJ e.ms.testBit bi h0)) m := by
    intro A' cF mh FG m hm
    have e1 : ae (aJ A' D h0) m = ae (aJ (eB e.ms.testBit i) D h0) m := xW D fun j ej a8 pk => by
      by_cases dN : j = i
      · subst dN; rw [cF, (cI.2 (.inr rfl) : eB e.ms.testBit j j = true)]
      · have iS : L j = false := by
          cases i5 : L j with
          | false => rfl
          | true =>
            rcases aB.names j ej i5 a8 m pk with h | ⟨k, u, h⟩
            · omega
            · have n_ : k = i := by omega
              subst n_
              rcases u with u | u
              · exact absurd u.symm dN
              · rw [aB.closed j ej i5 a8 _ u] at cx; cases cx
        have A : A' j = false := by
          cases h : A' j with
          | false => rfl
          | true => rcases cI.1 (mh j h) with h | h
                    · rw [iS] at h; cases h
                    · exact absurd h dN
        have E : eB e.ms.testBit i j = false := by
          cases h : eB e.ms.testBit i j with
          | false => rfl
          | true => rcases cI.1 h with h | h
                    · rw [co j h] at iS; cases iS
                    · exact absurd h dN
        rw [A, E]
    rw [e1, h6 _ (cI.2 (.inr rfl)) (fun k u => by
      cases h : eB e.ms.testBit i k with
      | false => rfl
      | true => rcases cI.1 h with h | h
                · rw [mlt' k (by omega)] at h; cases h
                · omega), x7 (ab := eB e.ms.testBit i) (ad := e.ms.testBit) bi (fun k u => by
      rw [bW] at u
      simp [eB, Nat.ne_of_lt u])]
  have putOther : ∀ x, o.dst ≠ some x -> (a.put o.dst Y).tmps.getD x undef = a.tmps.getD x undef := fun x hx => by
    cases hd : o.dst with
    | none => simp [Act.put]
    | some d =>
      have L4 : d ≠ x := fun h => hx (by rw [hd, h])
      simp [Act.put, Array.getD_eq_getD_getElem?, Array.getElem?_setIfInBounds_ne L4]
  have putSelf : ∀ x, o.dst = some x -> (a.put o.dst Y).tmps.getD x undef = Y := fun x hx => by
    have O : x < a.tmps.size := by rw [aB.size]; exact E8 aU.fits ho x hx
    rw [hx]
    simp [Act.put, Array.getD, O]
  have seeSlot : ∀ A' ab : Nat -> Bool, (∀ j, j ≠ i -> ab j = A' j) -> ∀ x, o.dst ≠ some x -> bP (b0 A' D t0) x = bP (b0 ab D t0) x := fun A' ab hAA x hx => aU.C_ fun j ej a8 hd => by
    refine (hAA j fun dN => hx ?_).symm
    subst dN
    rw [G] at a8; cases a8
    rw [<- hs.dst]; exact hd
  refine ⟨fun j O => ?_, fun j ej O a8 k u => ?_, fun j ej O a8 m hm => ?_, by rw [yV]; exact aB.size, by rw [put_defers]; exact aB.defers, fun A' cF => ?_⟩
  · rcases cI.1 O with h | h
    · exact aB.lt j h
    · omega
  · rcases cI.1 O with h | h
    · exact cI.2 (.inl (aB.closed j ej h a8 k u))
    · subst h; rw [G] at a8; cases a8; exact cI.2 (.inl (co k u))
  · rcases cI.1 O with h | h
    · exact aB.names j ej h a8 m hm
    · subst h; rw [G] at a8; cases a8; exact nameI m hm
  · cases dY : eh (nx + i) e.d with
    | false =>
      have Bu : e.ms = 2 ^ i - 1 := by
        have := xU dY
        rw [<- bW]; omega
      have Id : ∀ k, k < i -> e.ms.testBit k = true := fun k u => by rw [Bu, Nat.testBit_two_pow_sub_one]; simpa using u
      have dE : A' i = true := cF.bars i e (cI.2 (.inr rfl)) G dY
      have LE : ∀ k, k < i -> A' k = true := fun k u => cF.closed i e dE G k (Id k u)
      have st : ∀ k ek, i < k -> A' k = true -> bf D k = some ek -> ek.d = [] := fun k ek u h d5 => by
        rcases cI.1 (cF.sub k h) with h | h
        · rcases aQ dY k h with h | ⟨e2, E, h3⟩
          · omega
          · rw [d5] at E; cases E; exact h3
        · omega
      have ve : aJ A' D h0 = aD e.d (aJ e.ms.testBit bi h0) := by
        rw [vf (ab := A') (ad := fun k => A' k && decide (k <= i)) D (fun k ek d5 ax => by
          by_cases u : k <= i
          · simp [u]
          · cases h : A' k with
            | false => simp
            | true => exact absurd (st k ek (by omega) h d5) ax)]
        rw [h6 _ (by simp [dE]) (fun k u => by simp; omega), x7 (ab := fun k => A' k && decide (k <= i)) (ad := e.ms.testBit) bi (fun k u => by rw [bW] at u; simp [LE k u, Id k u, show k <= i by omega])]
      have iY : C'.le ((C.next C' (nx + i)).at_ nx h0 D A') := by
        refine ⟨Nat.le_refl _, fun _ _ _ => rfl, fun _ _ h => h, fun m hm => ?_, fun m hm M => ?_, fun _ _ _ cs ty h => ⟨cs, ty, h, rfl⟩⟩
        · rcases (hp.kn m).1 hm with (h | ⟨k, u, h⟩) | h
          · exact .inl h
          · exact .inr ⟨k, LE k (pp k u), h⟩
          · exact .inr ⟨i, dE, h⟩
        · have bW : C'.live m := by
            refine (hp.heap.live m).2 ?_
            have : (ae (aJ A' D h0) m).isSome = true := M
            rwa [ve] at this
          refine ⟨bW, ?_⟩
          simp only [Ctx.at_, Ctx.next]
          by_cases ax : m.1 = nx + i
          · rw [if_pos ax, if_pos ax]; exact ⟨rfl, rfl⟩
          · rw [if_neg ax, if_neg ax]
            have q := (hp.le.live m (((hp.kn m).1 hm).resolve_right ax) bW).2
            exact ⟨q.1.symm, q.2.symm⟩
      have live' : ∀ m, ((C.next C' (nx + i)).at_ nx h0 D A').live m ↔ C'.live m := fun m => by
        rw [hp.heap.live m, <- ve]; exact Iff.rfl
      refine ⟨?_, fun x => ?_, ?_⟩
      · rw [ve]
        exact hp.heap.mono iY live' (fun _ _ => rfl) (fun _ h _ => h)
      · by_cases hx : o.dst = some x
        · rw [aU.pY A' G (by rw [hs.dst]; exact hx), if_pos dE, putSelf x hx]
          exact hp.val.mono iY
        ·
          let ab : Nat -> Bool := fun j => A' j && !(j == i)
          have iI : ∀ j, ab j = true ↔ A' j = true /\ j ≠ i := fun j => by simp [ab]
          have hA : eo nx D L ab := by
            refine ⟨fun j O => ?_, fun j ej O a8 k u => ?_, fun j ej O a8 hf => (iI j).2 ⟨cF.bars j ej (cI.2 (.inl O)) a8 hf, fun h => ?_⟩⟩
            · obtain ⟨A, E⟩ := (iI j).1 O
              exact (cI.1 (cF.sub j A)).resolve_right E
            · obtain ⟨A, E⟩ := (iI j).1 O
              refine (iI k).2 ⟨cF.closed j ej A a8 k u, fun h => ?_⟩
              subst h
              rw [aB.closed j ej ((cI.1 (cF.sub j A)).resolve_right E) a8 _ u] at cx; cases cx
            · subst h; rw [cx] at O; cases O
          obtain ⟨_, oT, _⟩ := aB.ok ab hA
          have sameH : aJ ab D h0 = aJ e.ms.testBit D h0 := vf D fun k ek d5 ax => by
            rcases Nat.lt_trichotomy k i with h | h | h
            · rw [Id k h]; exact (iI k).2 ⟨LE k h, by omega⟩
            · subst h; rw [mlt' k (Nat.le_refl _)]; simp [ab]
            · rw [mlt' k (by omega)]
              cases E : A' k with
              | false => simp [ab, E]
              | true => exact absurd (st k ek h E d5) ax
          have known : ∀ m, (C.at_ nx h0 D ab).kn m -> ((C.next C' (nx + i)).at_ nx h0 D A').live m -> (C.at_ nx h0 D e.ms.testBit).kn m := fun m hm M => by
            have bW := (live' m).1 M
            rcases (hp.kn m).1 (hp.heap.kn m bW) with h | h
            · exact h
            · exfalso
              rcases hm with g | ⟨k, u, g⟩
              · omega
              · have : k = i := by omega
                exact ((iI k).1 u).2 this
          have le : (C.at_ nx h0 D ab).le ((C.next C' (nx + i)).at_ nx h0 D A') := by
            refine ⟨hp.le.size, hp.le.same, hp.le.mt, fun m hm => ?_, fun m hm M => ?_, fun m hm M cs ty H => ?_⟩
            · rcases hm with h | ⟨k, u, h⟩
              · exact .inl h
              · exact .inr ⟨k, ((iI k).1 u).1, h⟩
            · have u := known m hm M
              obtain ⟨g1, g2⟩ := hp.le.live m u ((live' m).1 M)
              refine ⟨?_, ?_⟩
              · show (ae (aJ ab D h0) m).isSome = true
                rw [sameH]; exact g1
              · simp only [Ctx.at_, Ctx.next]
                rw [if_neg (fun h => notKnown m h u), if_neg (fun h => notKnown m h u)]
                exact ⟨rfl, rfl⟩
            · exact hp.le.own m (known m hm M) ((live' m).1 M) cs ty H
          rw [putOther x hx, seeSlot A' ab (fun j O => by simp [ab, O]) x hx]
          exact (oT x).mono le
      · refine j4.of rfl rfl (j4.le.trans iY) fun m hm hb => ?_
        have m4 := (live' m).1 hm
        rw [(iY.live m (hp.heap.kn m m4) hm).2.1] at hb ⊢
        exact j4.wr m m4 hb
    | true =>
      have FJ : ∀ m ∈ e.d.map (·.1), m.1 = nx + i := E' dY
      have blocks : ∀ b, b < C.w.heap.size -> C'.w.heap[b]? = C.w.heap[b]? := fun b hb => hp.same b hb fun m hm M => absurd (hH.kn m M) (notKnown m (FJ m hm))
      have te : ∀ ab : Nat -> Bool, eo nx D L ab -> ∀ ad : Nat -> Bool, (∀ j, ad j = true -> ab j = true \/ j = i) -> (∀ j, ab j = true -> ad j = true) -> (∀ m : Nm, m.1 ≠ nx + i -> ae (aJ ad D h0) m = ae (aJ ab D h0) m) -> (C.at_ nx h0 D ab).le ((C.next C' (nx + i)).at_ nx h0 D ad) := by
        intro ab hA ad _ hAB Mu
        refine ⟨hp.le.size, hp.le.same, hp.le.mt, fun m hm => ?_, fun m hm M => ?_, fun m hm _ cs ty H => ⟨cs, ty, ?_, rfl⟩⟩
        · rcases hm with h | ⟨k, u, h⟩
          · exact .inl h
          · exact .inr ⟨k, hAB k u, h⟩
        · have ax : m.1 ≠ nx + i := fun h => by
            rcases hm with g | ⟨k, u, g⟩
            · omega
            · have : k = i := by omega
              subst this
              rw [hA.sub k u] at cx; cases cx
          refine ⟨?_, ?_⟩
          · have : (ae (aJ ad D h0) m).isSome = true := M
            rw [Mu m ax] at this
            exact this
          · simp only [Ctx.at_, Ctx.next]; rw [if_neg ax, if_neg ax]; exact ⟨rfl, rfl⟩
        · have hb : C.ρ m < C.w.heap.size := by
            rcases Nat.lt_or_ge (C.ρ m) C.w.heap.size with E | E
            · exact E
            · have : C.w.heap[C.ρ m]? = some (.cells cs ty (0, 0)) := H
              rw [Array.getElem?_eq_none E] at this; cases this
          exact (blocks _ hb).trans H
      cases dE : A' i with
      | false =>
        have hA : eo nx D L A' := by
          refine ⟨fun j O => (cI.1 (cF.sub j O)).resolve_right fun h => ?_, cF.closed, fun j ej O => cF.bars j ej (cI.2 (.inl O))⟩
          subst h; rw [O] at dE; cases dE
        obtain ⟨oH, oT, oF⟩ := aB.ok A' hA
        have le := te A' hA A' (fun j h => .inl h) (fun _ h => h) (fun _ _ => rfl)
        refine ⟨oH.mono le (fun _ => Iff.rfl) (fun m hm => blocks _ (oH.lt hm)) (fun b hb aQ => (hp.mt b aQ).2 hb), fun x => ?_, ?_⟩
        · by_cases hx : o.dst = some x
          · rw [aU.pY A' G (by rw [hs.dst]; exact hx), if_neg (by rw [dE]; simp)]
            trivial
          · rw [putOther x hx]
            exact (oT x).mono le
        · refine j4.of rfl rfl (oF.le.trans le) fun m hm hb => ?_
          rw [(le.live m (oH.kn m hm) hm).2.1] at hb ⊢
          exact oF.wr m hm hb
      | true =>
        let ab : Nat -> Bool := fun j => A' j && !(j == i)
        have iI : ∀ j, ab j = true ↔ A' j = true /\ j ≠ i := fun j => by simp [ab]
        have hA : eo nx D L ab := by
          refine ⟨fun j O => ?_, fun j ej O a8 k u => ?_, fun j ej O a8 hf => (iI j).2 ⟨cF.bars j ej (cI.2 (.inl O)) a8 hf, fun h => ?_⟩⟩
          · obtain ⟨A, E⟩ := (iI j).1 O
            exact (cI.1 (cF.sub j A)).resolve_right E
          · obtain ⟨A, E⟩ := (iI j).1 O
            refine (iI k).2 ⟨cF.closed j ej A a8 k u, fun h => ?_⟩
            subst h
            rw [aB.closed j ej ((cI.1 (cF.sub j A)).resolve_right E) a8 _ u] at cx; cases cx
          · subst h; rw [cx] at O; cases O
        obtain ⟨oH, oT, oF⟩ := aB.ok ab hA
        have FG : ∀ k, e.ms.testBit k = true -> ab k = true := fun k u => (iI k).2 ⟨cF.closed i e dE G k u, fun h => by have := pp k u; omega⟩
        have seeOld : ∀ m : Nm, m.1 ≠ nx + i -> ae (aJ A' D h0) m = ae (aJ ab D h0) m := fun m hm => xW D fun j ej a8 pk => by
          by_cases dN : j = i
          · subst dN; rw [G] at a8; cases a8; exact absurd (FJ m pk) hm
          · simp [ab, dN]
        have seeNew' := seeNew A' dE cF.sub (fun k u => ((iI k).1 (FG k u)).1)
        have gi := te ab hA A' (fun j h => by
          by_cases dN : j = i
          · exact .inr dN
          · exact .inl ((iI j).2 ⟨h, dN⟩)) (fun j h => ((iI j).1 h).1) seeOld
        have iY : C'.le ((C.next C' (nx + i)).at_ nx h0 D A') := by
          refine ⟨Nat.le_refl _, fun _ _ _ => rfl, fun _ _ h => h, fun m hm => ?_, fun m hm M => ?_, fun _ _ _ cs ty h => ⟨cs, ty, h, rfl⟩⟩
          · rcases (hp.kn m).1 hm with (h | ⟨k, u, h⟩) | h
            · exact .inl h
            · exact .inr ⟨k, ((iI k).1 (FG k u)).1, h⟩
            · exact .inr ⟨i, dE, h⟩
          · have eO : (ae (aJ A' D h0) m).isSome = true := M
            by_cases ax : m.1 = nx + i
            · rw [seeNew' m ax] at eO
              refine ⟨(hp.heap.live m).2 eO, ?_⟩
              simp only [Ctx.at_, Ctx.next]; rw [if_pos ax, if_pos ax]; exact ⟨rfl, rfl⟩
            · have u := ((hp.kn m).1 hm).resolve_right ax
              have e1 : ae (aJ ab D h0) m = ae (aJ e.ms.testBit D h0) m := xW D fun j ej a8 pk => by
                cases i5 : L j with
                | false =>
                  have A : ab j = false := by
                    cases h : ab j with
                    | false => rfl
                    | true => rw [hA.sub j h] at i5; cases i5
                  have E : e.ms.testBit j = false := by
                    cases h : e.ms.testBit j with
                    | false => rfl
                    | true => rw [co j h] at i5; cases i5
                  rw [A, E]
                | true =>
                  cases u1 : eh (nx + j) ej.d with
                  | false => rw [hA.bars j ej i5 a8 u1, iK.bars j ej i5 a8 u1]
                  | true =>
                    have agi := E' u1 m pk
                    have xM : e.ms.testBit j = true := by
                      rcases u with h | ⟨k, u, h⟩
                      · omega
                      · have : k = j := by omega
                        subst this; exact u
                    rw [xM, FG j xM]
              have dH : (C.at_ nx h0 D e.ms.testBit).live m := by
                show (ae (aJ e.ms.testBit D h0) m).isSome = true
                rw [<- e1, <- seeOld m ax]; exact eO
              have age : (ae (aJ e.ms.testBit bi h0) m).isSome = true := by
                rw [<- h5]; exact dH
              have bW : C'.live m := (hp.heap.live m).2 (by rw [gv _ _ _ (fun h => ax (FJ m h))]; exact age)
              refine ⟨bW, ?_⟩
              simp only [Ctx.at_, Ctx.next]; rw [if_neg ax, if_neg ax]
              exact ⟨(hp.le.live m u bW).2.1.symm, (hp.le.live m u bW).2.2.symm⟩
        have newLive : ∀ m : Nm, m.1 = nx + i -> ((C.next C' (nx + i)).at_ nx h0 D A').live m -> C'.live m /\ ((C.next C' (nx + i)).at_ nx h0 D A').ρ m = C'.ρ m /\ ((C.next C' (nx + i)).at_ nx h0 D A').bs m = C'.bs m := fun m hm M => iY.live m ((hp.kn m).2 (.inr hm)) M
        have oldLive : ∀ m : Nm, m.1 ≠ nx + i -> ((C.next C' (nx + i)).at_ nx h0 D A').live m -> (C.at_ nx h0 D ab).live m /\ ((C.next C' (nx + i)).at_ nx h0 D A').ρ m = C.ρ m /\ ((C.next C' (nx + i)).at_ nx h0 D A').bs m = C.bs m := fun m hm M => by
          have eO : (ae (aJ A' D h0) m).isSome = true := M
          rw [seeOld m hm] at eO
          exact ⟨eO, by simp only [Ctx.at_, Ctx.next]; rw [if_neg hm], by simp only [Ctx.at_, Ctx.next]; rw [if_neg hm]⟩
        have TQ : ∀ m : Nm, m.1 = nx + i -> C'.live m -> C.w.heap.size <= C'.ρ m := fun m hm M => by
          rcases hp.lA m M with ⟨A, _⟩ | A | ⟨m0, afq, A, _⟩
          · exact absurd (hH.kn m A) (notKnown m hm)
          · exact A
          · exact absurd (hH.kn m0 A) (notKnown m0 (FJ m0 afq))
        refine ⟨⟨fun m => Iff.rfl, fun m cs Z => ?_, fun m m' hm a0 dF => ?_, fun m hm => ?_, fun m hm => ?_⟩, fun x => ?_, ?_⟩
        · have dH : ((C.next C' (nx + i)).at_ nx h0 D A').live m := by show (ae (aJ A' D h0) m).isSome = true; rw [Z]; rfl
          by_cases ax : m.1 = nx + i
          · rw [(newLive m ax dH).2.1, (newLive m ax dH).2.2]
            rw [seeNew' m ax] at Z
            obtain ⟨arr, ty, ha, H⟩ := hp.heap.obj m cs Z
            exact ⟨arr, ty, ha, fun j c O => by obtain ⟨v, R, cn⟩ := H j c O; exact ⟨v, R, cn.mono iY⟩⟩
          · rw [(oldLive m ax dH).2.1, (oldLive m ax dH).2.2]
            rw [seeOld m ax] at Z
            obtain ⟨arr, ty, ha, H⟩ := oH.obj m cs Z
            exact ⟨arr, ty, (blocks _ (oH.lt (oH.get Z))).trans ha, fun j c O => by obtain ⟨v, R, cn⟩ := H j c O; exact ⟨v, R, cn.mono gi⟩⟩
        · by_cases ax : m.1 = nx + i <;> by_cases Bw : m'.1 = nx + i
          · obtain ⟨l1, r1, _⟩ := newLive m ax hm
            obtain ⟨l2, r2, _⟩ := newLive m' Bw a0
            exact hp.heap.inj m m' l1 l2 (by rw [<- r1, <- r2]; exact dF)
          · obtain ⟨l1, r1, _⟩ := newLive m ax hm
            obtain ⟨l2, r2, _⟩ := oldLive m' Bw a0
            have A := TQ m ax l1
            have E : C.ρ m' < C.w.heap.size := oH.lt l2
            rw [r1, r2] at dF; omega
          · obtain ⟨l1, r1, _⟩ := oldLive m ax hm
            obtain ⟨l2, r2, _⟩ := newLive m' Bw a0
            have A := TQ m' Bw l2
            have E : C.ρ m < C.w.heap.size := oH.lt l1
            rw [r1, r2] at dF; omega
          · obtain ⟨l1, r1, _⟩ := oldLive m ax hm
            obtain ⟨l2, r2, _⟩ := oldLive m' Bw a0
            exact oH.inj m m' l1 l2 (by show C.ρ m = C.ρ m'; rw [<- r1, <- r2]; exact dF)
        · by_cases ax : m.1 = nx + i
          · obtain ⟨l1, r1, _⟩ := newLive m ax hm
            rw [r1]; exact hp.heap.mt m l1
          · obtain ⟨l1, r1, _⟩ := oldLive m ax hm
            rw [r1]; exact (hp.mt _ (oH.lt l1)).2 (oH.mt m l1)
        · by_cases ax : m.1 = nx + i
          · exact .inr ⟨i, dE, ax⟩
          · obtain ⟨l1, r1, _⟩ := oldLive m ax hm
            exact gi.kn m (oH.kn m l1)
        · by_cases hx : o.dst = some x
          · rw [aU.pY A' G (by rw [hs.dst]; exact hx), if_pos dE, putSelf x hx]
            exact hp.val.mono iY
          · rw [putOther x hx, seeSlot A' ab (fun j dN => by simp [ab, dN]) x hx]
            exact (oT x).mono gi
        · refine j4.of rfl rfl (j4.le.trans iY) fun m hm hb => ?_
          by_cases ax : m.1 = nx + i
          · obtain ⟨l1, r1, _⟩ := newLive m ax hm
            rw [r1] at hb ⊢; exact j4.wr m l1 hb
          · obtain ⟨l1, r1, _⟩ := oldLive m ax hm
            rw [r1] at hb ⊢; exact oF.wr m l1 hb
end
end Go.Proofs.Aw
namespace Go.Proofs.Aw
open Go
section
variable {P:Program} {ac:Env} {ops:List Oper} {nx:Nat} {t0:Tp} {h0:Hp} {D:List En}
theorem Hw {a:Act} {d:Option Tmp} {Y:Value} {x:Nat} (hx:d≠some x):(a.put d Y).tmps.getD x undef=a.tmps.getD x undef:=by
 cases hd:d with
 | none=>simp[Act.put]
 | some fD =>
  have L4:fD≠x:=fun h=>hx (by rw[hd,h])
  simp[Act.put,Array.getD_eq_getD_getElem?,Array.getElem?_setIfInBounds_ne L4]
theorem Ph {a:Act} {d:Option Tmp} {Y:Value} {x:Nat} (hx:d=some x) (O:x<a.tmps.size):(a.put d Y).tmps.getD x undef=Y:=by
 rw[hx]
 simp[Act.put,Array.getD,O]
theorem ez.P1 {L:Nat->Bool} {C:Ctx} {a:Act} (_acc:ez ac nx t0 h0 D L C a) {ab ad:Nat->Bool} (hA:eo nx D L ab) (hB:eo nx D L ad) {m:Nm} (u:m.1<nx\/∃k,(ab k=true/\ad k=true)/\m.1=nx+k):ae (aJ ab D h0) m=ae (aJ ad D h0) m :=
 xW D fun j ej a8 pk=>by
  cases i5:L j with
  | false =>
   have A:ab j=false:=by
    cases h:ab j with
    | false=>rfl
    | true=>rw[hA.sub j h]at i5;cases i5
   have E:ad j=false:=by
    cases h:ad j with
    | false=>rfl
    | true=>rw[hB.sub j h]at i5;cases i5
   rw[A,E]
  | true =>
   cases u1:eh (nx+j) ej.d with
   | false=>rw[hA.bars j ej i5 a8 u1,hB.bars j ej i5 a8 u1]
   | true =>
    have agi:=E' u1 m pk
    rcases u with h | ⟨k,⟨bp,dO⟩,h⟩
    ·omega
    ·have:k=j:=by omega
     subst this;rw[bp,dO]
theorem eo.QY {L:Nat->Bool} {C:Ctx} {a:Act} (aB:ez ac nx t0 h0 D L C a) {i:Nat} (cx:L i=false) {A':Nat->Bool} (cF:eo nx D (eB L i) A'):eo nx D L (fun j=>A' j && !(j==i)):=by
 have Fr:∀j,(fun j=>A' j && !(j==i)) j=true↔A' j=true/\j≠i:=fun j=>by simp
 refine⟨fun j O => ?_,fun j ej O a8 k u => ?_,fun j ej O a8 hf=>(Fr j).2 ⟨cF.bars j ej (cI.2 (.inl O)) a8 hf,fun h => ?_⟩⟩
 ·obtain⟨A,E⟩:=(Fr j).1 O
  exact(cI.1 (cF.sub j A)).resolve_right E
 ·obtain⟨A,E⟩:=(Fr j).1 O
  refine(Fr k).2 ⟨cF.closed j ej A a8 k u,fun h => ?_⟩
  subst h
  rw[aB.closed j ej ((cI.1 (cF.sub j A)).resolve_right E) a8 _ u]at cx;cases cx
 ·subst h;rw[cx]at O;cases O
theorem ez.Zg (aU:gl P ac ops nx t0 h0 D) {L:Nat->Bool} {C:Ctx} {a:Act} (aB:ez ac nx t0 h0 D L C a) {i:Nat} {e:En} {o:Oper} (G:bf D i=some e) (ho:ops[i]? = some o) (j9:e.dst=o.dst) (cx:L i=false)
  (co:∀k,e.ms.testBit k=true->L k=true) (hd:e.d=[]) {ad:Nat->Bool} (hB:eo nx D L ad) (FL:∀A',eo nx D (eB L i) A'->A' i=true->∀k,ad k=true->A' k=true) {Y:Value} {C':Ctx}
  (hp:cZ (C.at_ nx h0 D ad) (nx+i) (aJ ad D h0) e.r [] Y C'):ez ac nx t0 h0 D (eB L i) (C.next C' (nx+i)) (a.put o.dst Y):=by
 have hi:i<D.length:=nY G
 obtain⟨hH,hT,j3⟩:=aB.ok _ hB
 have j4:mH ac C':=j3.step hp
 have Fh:ad i=false:=by
  cases h:ad i with
  | false=>rfl
  | true=>rw[hB.sub i h]at cx;cases cx
 have blocks:∀b,b<C.w.heap.size->C'.w.heap[b]? = C.w.heap[b]? := fun b hb=>hp.same b hb fun m hm=>by simp at hm
 have knB:∀m:Nm,m.1=nx+i->¬(C.at_ nx h0 D ad).kn m:=fun m hm h=>by
  rcases h with h | ⟨k,u,h⟩
  ·omega
  ·have:k=i:=by omega
   subst this;rw[Fh]at u;cases u
 refine⟨fun j O => ?_,fun j ej O a8 k u => ?_,fun j ej O a8 m hm => ?_,by rw[yV];exact aB.size,by rw[put_defers];exact aB.defers,fun A' cF => ?_⟩
 ·rcases cI.1 O with h | h
  ·exact aB.lt j h
  ·omega
 ·rcases cI.1 O with h | h
  ·exact cI.2 (.inl (aB.closed j ej h a8 k u))
  ·subst h;rw[G]at a8;cases a8;exact cI.2 (.inl (co k u))
 ·rcases cI.1 O with h | h
  ·exact aB.names j ej h a8 m hm
  ·subst h;rw[G]at a8;cases a8;rw[hd]at hm;simp at hm
 ·
  let ab:Nat->Bool:=fun j=>A' j && !(j==i)
  have hA:eo nx D L ab:=eo.QY aB cx cF
  obtain⟨oH,oT,oF⟩:=aB.ok ab hA
  have rg:∀m:Nm,ae (aJ A' D h0) m=ae (aJ ab D h0) m:=fun m=>xW D fun j ej a8 pk=>by
   by_cases dN:j=i
   ·subst dN;rw[G]at a8;cases a8;rw[hd]at pk;simp at pk
   ·simp[ab,dN]
  have notI:∀m:Nm,(C.at_ nx h0 D ab).live m->m.1≠nx+i:=fun m hm h=>by
   rcases oH.kn m hm with g | ⟨k,u,g⟩
   ·omega
   ·have:k=i:=by omega
    subst this
    simp[ab]at u
  have live':∀m,((C.next C' (nx+i)).at_ nx h0 D A').live m↔(C.at_ nx h0 D ab).live m:=fun m=>by
   show(ae (aJ A' D h0) m).isSome=true↔(ae (aJ ab D h0) m).isSome=true
   rw[rg m]
  have F:∀m,(C.at_ nx h0 D ab).live m->((C.next C' (nx+i)).at_ nx h0 D A').ρ m=C.ρ m:=fun m hm=>by
   simp only[Ctx.at_,Ctx.next];rw[if_neg (notI m hm)]
  have lV:∀m,(C.at_ nx h0 D ab).live m->((C.next C' (nx+i)).at_ nx h0 D A').bs m=C.bs m:=fun m hm=>by
   simp only[Ctx.at_,Ctx.next];rw[if_neg (notI m hm)]
  have gi:(C.at_ nx h0 D ab).le ((C.next C' (nx+i)).at_ nx h0 D A'):=by
   refine⟨hp.le.size,hp.le.same,hp.le.mt,fun m hm => ?_,fun m hm M=>⟨(live' m).1 M,F m ((live' m).1 M),lV m ((live' m).1 M)⟩,fun m hm _ cs ty H=>⟨cs,ty,?_,rfl⟩⟩
   ·rcases hm with h | ⟨k,u,h⟩
    ·exact .inl h
    ·exact .inr ⟨k,by simp[ab]at u;exact u.1,h⟩
   ·have hb:C.ρ m<C.w.heap.size:=by
     rcases Nat.lt_or_ge (C.ρ m) C.w.heap.size with E | E
     ·exact E
     ·have:C.w.heap[C.ρ m]? = some (.cells cs ty (0,0)):=H
      rw[Array.getElem?_eq_none E]at this;cases this
    exact(blocks _ hb).trans H
  by_cases dE:A' i=true
  ·have Uw:=FL A' cF dE
   have afv:∀k,ad k=true->ab k=true:=fun k u=>by
    have n_:k≠i:=fun h=>by subst h;rw[Fh]at u;cases u
    simp[ab,Uw k u,n_]
   have iY:C'.le ((C.next C' (nx+i)).at_ nx h0 D A'):=by
    refine⟨Nat.le_refl _,fun _ _ _=>rfl,fun _ _ h=>h,fun m hm => ?_,fun m hm M => ?_,fun _ _ _ cs ty h=>⟨cs,ty,h,rfl⟩⟩
    ·rcases(hp.kn m).1 hm with(h | ⟨k,u,h⟩) | h
     ·exact .inl h
     ·exact .inr ⟨k,Uw k u,h⟩
     ·exact .inr ⟨i,dE,h⟩
    ·have eO:=(live' m).1 M
     have ax:=notI m eO
     have u:=((hp.kn m).1 hm).resolve_right ax
     have e1:ae (aJ ab D h0) m=ae (aJ ad D h0) m:=aB.P1 hA hB (by
      rcases u with h | ⟨k,u,h⟩
      ·exact .inl h
      ·exact .inr ⟨k,⟨afv k u,u⟩,h⟩)
     have dH:C'.live m:=(hp.heap.live m).2 (by
      have:(ae (aJ ab D h0) m).isSome=true:=eO
      rw[e1]at this;exact this)
     exact⟨dH,by rw[F m eO];exact((hp.le.live m u dH).2.1).symm,by rw[lV m eO];exact((hp.le.live m u dH).2.2).symm⟩
   refine⟨⟨fun m=>Iff.rfl,fun m cs Z => ?_,fun m m' hm a0 dF => ?_,fun m hm => ?_,fun m hm => ?_⟩,fun x => ?_,?_⟩
   ·rw[rg m]at Z
    rw[F m (oH.get Z),lV m (oH.get Z)]
    obtain⟨arr,ty,ha,H⟩:=oH.obj m cs Z
    exact⟨arr,ty,(blocks _ (oH.lt (oH.get Z))).trans ha,fun j c O=>by obtain⟨v,R,cn⟩:=H j c O;exact⟨v,R,cn.mono gi⟩⟩
   ·have l1:=(live' m).1 hm
    have l2:=(live' m').1 a0
    rw[F m l1,F m' l2]at dF
    exact oH.inj m m' l1 l2 dF
   ·have l1:=(live' m).1 hm
    rw[F m l1]
    exact(hp.mt _ (oH.lt l1)).2 (oH.mt m l1)
   ·exact gi.kn m (oH.kn m ((live' m).1 hm))
   ·by_cases hx:o.dst=some x
    ·rw[aU.pY A' G (by rw[j9];exact hx),if_pos dE,Ph hx (by rw[aB.size];exact E8 aU.fits ho x hx)]
     exact hp.val.mono iY
    ·rw[Hw hx,aU.C_ (ab:=A') (ad:=ab) (fun j ej a8 uZ=>by
      by_cases dN:j=i
      ·subst dN;rw[G]at a8;cases a8;exact absurd (by rw[<-j9];exact uZ) hx
      ·simp[ab,dN])]
     exact(oT x).mono gi
   ·refine j4.of rfl rfl (oF.le.trans gi) fun m hm hb => ?_
    have l1:=(live' m).1 hm
    rw[F m l1]at hb ⊢
    exact oF.wr m l1 hb
  ·have at3:A' i=false:=by simpa using dE
   refine⟨⟨fun m=>Iff.rfl,fun m cs Z => ?_,fun m m' hm a0 dF => ?_,fun m hm => ?_,fun m hm => ?_⟩,fun x => ?_,?_⟩
   ·rw[rg m]at Z
    rw[F m (oH.get Z),lV m (oH.get Z)]
    obtain⟨arr,ty,ha,H⟩:=oH.obj m cs Z
    exact⟨arr,ty,(blocks _ (oH.lt (oH.get Z))).trans ha,fun j c O=>by obtain⟨v,R,cn⟩:=H j c O;exact⟨v,R,cn.mono gi⟩⟩
   ·have l1:=(live' m).1 hm
    have l2:=(live' m').1 a0
    rw[F m l1,F m' l2]at dF
    exact oH.inj m m' l1 l2 dF
   ·have l1:=(live' m).1 hm
    rw[F m l1]
    exact(hp.mt _ (oH.lt l1)).2 (oH.mt m l1)
   ·exact gi.kn m (oH.kn m ((live' m).1 hm))
   ·by_cases hx:o.dst=some x
    ·rw[aU.pY A' G (by rw[j9];exact hx),if_neg dE]
     simp only[aj]
    ·rw[Hw hx,aU.C_ (ab:=A') (ad:=ab) (fun j ej a8 uZ=>by
      by_cases dN:j=i
      ·subst dN;rw[G]at a8;cases a8;exact absurd (by rw[<-j9];exact uZ) hx
      ·simp[ab,dN])]
     exact(oT x).mono gi
   ·refine j4.of rfl rfl (oF.le.trans gi) fun m hm hb => ?_
    have l1:=(live' m).1 hm
    rw[F m l1]at hb ⊢
    exact oF.wr m l1 hb
theorem UH:∀(d:Dl),(∀p∈d,p.2.isSome=true)->∀(h:Hp) (m:Nm),m∈d.map (·.1)->(ae (aD d h) m).isSome=true
 | [],_,_,m,hm=>by simp at hm
 | (k,none)::d,hd,_,_,_=>by have:=hd (k,none) List.mem_cons_self;cases this
 | (k,some v)::d,hd,h,m,hm=>by
  simp only[aD]
  by_cases c:m∈d.map (·.1)
  ·exact UH d (fun p hp=>hd p (List.mem_cons_of_mem _ hp)) _ m c
  ·have u:k=m:=by
    simp only[List.map_cons,List.mem_cons]at hm
    rcases hm with A | A
    ·exact A.symm
    ·exact absurd A c
   rw[gv d _ _ c,dG,if_pos u];rfl
theorem ez.arn (aU:gl P ac ops nx t0 h0 D) {L:Nat->Bool} {C:Ctx} {a:Act} (aB:ez ac nx t0 h0 D L C a) {i:Nat} {e:En} {o:Oper} (G:bf D i=some e) (ho:ops[i]? = some o) (j9:e.dst=o.dst) (cx:L i=false)
  (co:∀k,e.ms.testBit k=true->L k=true) (hd:∀p∈e.d,p.2.isSome=true/\p.1.1≠nx+i) (dY:eh (nx+i) e.d=false) (aQ:∀k,L k=true->k<i\/∃ek,bf D k=some ek/\ek.d=[]) {bi:List En}
  (h6:∀ab:Nat->Bool,ab i=true->(∀k,i<k->ab k=false)->aJ ab D h0=aD e.d (aJ ab bi h0)) (h5:∀ab:Nat->Bool,(∀k,i<=k->ab k=false)->aJ ab D h0=aJ ab bi h0) (bW:bi.length=i)
  (iK:eo nx D L e.ms.testBit) {Y:Value} {C':Ctx} (hp:cZ (C.at_ nx h0 D e.ms.testBit) (nx+i) (aJ e.ms.testBit D h0) e.r e.d Y C'):ez ac nx t0 h0 D (eB L i) (C.next C' (nx+i)) (a.put o.dst Y):=by
 have hi:i<D.length:=nY G
 obtain⟨hH,hT,j3⟩:=aB.ok _ iK
 have j4:mH ac C':=j3.step hp
 have FF:∀m,m∈e.d.map (·.1)->m.1≠nx+i:=fun m hm=>by
  obtain⟨p,hp,rfl⟩:=List.mem_map.1 hm
  exact(hd p hp).2
 have Bt:∀m,m∈e.d.map (·.1)->(C.at_ nx h0 D e.ms.testBit).live m:=fun m hm=>by
  rcases hp.names m hm with h | h
  ·exact h
  ·exact absurd h (FF m hm)
 have sK:=fun m hm=>hH.kn m (Bt m hm)
 have d7:∀(h:Hp) m,m∈e.d.map (·.1)->(ae (aD e.d h) m).isSome=true:=fun h m hm=>UH _ (fun p hp=>(hd p hp).1) h m hm
 have Mi:∀m,m∈e.d.map (·.1)->C'.live m:=fun m hm=>(hp.heap.live m).2 (d7 _ m hm)
 have agx:∀m,m∈e.d.map (·.1)->C'.ρ m=C.ρ m:=fun m hm=>(hp.le.live m (sK m hm) (Mi m hm)).2.1
 have afL:∀m,m∈e.d.map (·.1)->C'.bs m=C.bs m:=fun m hm=>(hp.le.live m (sK m hm) (Mi m hm)).2.2
 have blocks:∀b,b<C.w.heap.size->(∀m,m∈e.d.map (·.1)->b≠C.ρ m)->C'.w.heap[b]? = C.w.heap[b]? := fun b hb ax=>hp.same b hb fun m hm _=>ax m hm
 refine⟨fun j O => ?_,fun j ej O a8 k u => ?_,fun j ej O a8 m hm => ?_,by rw[yV];exact aB.size,by rw[put_defers];exact aB.defers,fun A' cF => ?_⟩
 ·rcases cI.1 O with h | h
  ·exact aB.lt j h
  ·omega
 ·rcases cI.1 O with h | h
  ·exact cI.2 (.inl (aB.closed j ej h a8 k u))
  ·subst h;rw[G]at a8;cases a8;exact cI.2 (.inl (co k u))
 ·rcases cI.1 O with h | h
  ·exact aB.names j ej h a8 m hm
  ·subst h;rw[G]at a8;cases a8
   rcases sK m hm with h | ⟨k,u,h⟩
   ·exact .inl h
   ·exact .inr ⟨k,.inr u,h⟩
 ·have dE:A' i=true:=cF.bars i e (cI.2 (.inr rfl)) G dY
  let ab:Nat->Bool:=fun j=>A' j && !(j==i)
  have hA:eo nx D L ab:=eo.QY aB cx cF
  obtain⟨oH,oT,oF⟩:=aB.ok ab hA
  have st:∀k ek,i<k->A' k=true->bf D k=some ek->ek.d=[]:=fun k ek u h d5=>by
   rcases cI.1 (cF.sub k h)with h | h
   ·rcases aQ k h with h | ⟨e2,E,h3⟩
    ·omega
    ·rw[d5]at E;cases E;exact h3
   ·omega
  have ve:aJ A' D h0=aD e.d (aJ ab D h0):=by
   have e1:aJ A' D h0=aJ (fun k=>A' k&&decide (k<=i)) D h0:=vf D fun k ek d5 ax=>by
    by_cases u:k<=i
    ·simp[u]
    ·cases h:A' k with
     | false=>simp
     | true=>exact absurd (st k ek (by omega) h d5) ax
   have e2:aJ ab D h0=aJ (fun k=>ab k&&decide (k<=i)) D h0:=vf D fun k ek d5 ax=>by
    by_cases u:k<=i
    ·simp[u]
    ·cases h:A' k with
     | false=>simp[ab,h]
     | true=>exact absurd (st k ek (by omega) h d5) ax
   rw[e1,e2,h6 _ (by simp[dE]) (fun k u=>by simp;omega),h5 (fun k=>ab k&&decide (k<=i)) (fun k u=>by
    rcases Nat.lt_or_eq_of_le u with h | h
    ·simp;omega
    ·subst h;simp[ab])]
   congr 1
   exact x7 bi fun j O=>by
    rw[bW]at O
    simp[ab,Nat.ne_of_lt O,Nat.le_of_lt O]
  have rg:∀m:Nm,ae (aJ A' D h0) m=ae (aD e.d (aJ ab D h0)) m:=fun m=>by rw[ve]
  have yH:∀k,e.ms.testBit k=true->ab k=true:=fun k u=>by
   have A:=cF.closed i e dE G k u
   have n_:k≠i:=fun h=>by subst h;rw[co _ u]at cx;cases cx
   simp[ab,A,n_]
  have alike:∀m:Nm,(C.at_ nx h0 D e.ms.testBit).kn m->ae (aJ ab D h0) m=ae (aJ e.ms.testBit D h0) m:=fun m u=>aB.P1 hA iK (by
   rcases u with h | ⟨k,u,h⟩
   ·exact .inl h
   ·exact .inr ⟨k,⟨yH k u,u⟩,h⟩)
  have sJ:∀m,m∈e.d.map (·.1)->(C.at_ nx h0 D ab).live m:=fun m hm=>by
   show(ae (aJ ab D h0) m).isSome=true
   rw[alike m (sK m hm)];exact Bt m hm
  have notI:∀m:Nm,(C.at_ nx h0 D ab).live m->m.1≠nx+i:=fun m hm h=>by
   rcases oH.kn m hm with g | ⟨k,u,g⟩
   ·omega
   ·have:k=i:=by omega
    subst this
    simp[ab]at u
  have live':∀m,((C.next C' (nx+i)).at_ nx h0 D A').live m↔(C.at_ nx h0 D ab).live m:=fun m=>by
   show(ae (aJ A' D h0) m).isSome=true↔(ae (aJ ab D h0) m).isSome=true
   rw[rg m]
   rcases mZ m e.d (aJ ab D h0)with⟨hm,_⟩ | ⟨_,h⟩
   ·exact⟨fun _=>sJ m hm,fun _=>d7 _ m hm⟩
   ·rw[h]
  have F:∀m,(C.at_ nx h0 D ab).live m->((C.next C' (nx+i)).at_ nx h0 D A').ρ m=C.ρ m:=fun m hm=>by
   simp only[Ctx.at_,Ctx.next];rw[if_neg (notI m hm)]
  have lV:∀m,(C.at_ nx h0 D ab).live m->((C.next C' (nx+i)).at_ nx h0 D A').bs m=C.bs m:=fun m hm=>by
   simp only[Ctx.at_,Ctx.next];rw[if_neg (notI m hm)]
  have gT:∀{b:Nat} {cs:Array Value} {ty:TypeId},C.w.heap[b]? = some (.cells cs ty (0,0))->b<C.w.heap.size:=fun {b cs ty} H=>by
   rcases Nat.lt_or_ge b C.w.heap.size with E | E
   ·exact E
   ·rw[Array.getElem?_eq_none E]at H;cases H
  have gi:(C.at_ nx h0 D ab).le ((C.next C' (nx+i)).at_ nx h0 D A'):=by
   refine⟨hp.le.size,hp.le.same,hp.le.mt,fun m hm => ?_,fun m hm M=>⟨(live' m).1 M,F m ((live' m).1 M),lV m ((live' m).1 M)⟩,fun m hm _ cs ty H => ?_⟩
   ·rcases hm with h | ⟨k,u,h⟩
    ·exact .inl h
    ·exact .inr ⟨k,by simp[ab]at u;exact u.1,h⟩
   ·have dz:C.w.heap[C.ρ m]? = some (.cells cs ty (0,0)):=H
    by_cases ld:∃m0,m0∈e.d.map (·.1)/\C.ρ m=C.ρ m0
    ·obtain⟨m0,md,ld⟩:=ld
     have:=hp.le.own m0 (sK m0 md) (Mi m0 md) cs ty (show C.w.heap[C.ρ m0]? = some (.cells cs ty (0,0))from by rw[<-ld];exact dz)
     obtain⟨bn,ty',A,E⟩:=this
     exact⟨bn,ty',by show C'.w.heap[C.ρ m]? = _;rw[ld];exact A,E⟩
    ·exact⟨cs,ty,(blocks _ (gT dz) fun m0 md h=>ld ⟨m0,md,h⟩).trans dz,rfl⟩
  have iY:C'.le ((C.next C' (nx+i)).at_ nx h0 D A'):=by
   refine⟨Nat.le_refl _,fun _ _ _=>rfl,fun _ _ h=>h,fun m hm => ?_,fun m hm M => ?_,fun _ _ _ cs ty h=>⟨cs,ty,h,rfl⟩⟩
   ·rcases(hp.kn m).1 hm with(h | ⟨k,u,h⟩) | h
    ·exact .inl h
    ·exact .inr ⟨k,cF.closed i e dE G k u,h⟩
    ·exact .inr ⟨i,dE,h⟩
   ·have eO:=(live' m).1 M
    have ax:=notI m eO
    have u:=((hp.kn m).1 hm).resolve_right ax
    have dH:C'.live m:=(hp.heap.live m).2 (by
     have A:(ae (aJ ab D h0) m).isSome=true:=eO
     rw[alike m u]at A
     rcases mZ m e.d (aJ e.ms.testBit D h0)with⟨hm,_⟩ | ⟨_,h⟩
     ·exact d7 _ m hm
     ·rw[h];exact A)
    exact⟨dH,by rw[F m eO];exact((hp.le.live m u dH).2.1).symm,by rw[lV m eO];exact((hp.le.live m u dH).2.2).symm⟩
  refine⟨⟨fun m=>Iff.rfl,fun m cs Z => ?_,fun m m' hm a0 dF => ?_,fun m hm => ?_,fun m hm => ?_⟩,fun x => ?_,?_⟩
  ·rw[rg m]at Z
   rcases mZ m e.d (aJ ab D h0)with⟨hm,af5⟩ | ⟨h,m7⟩
   ·rw[F m (sJ m hm),<-agx m hm,lV m (sJ m hm),<-afL m hm]
    obtain⟨arr,ty,ha,H⟩:=hp.heap.obj m cs (by rw[<-Z];exact(af5 _).symm)
    exact⟨arr,ty,ha,fun j c O=>by obtain⟨v,R,cn⟩:=H j c O;exact⟨v,R,cn.mono iY⟩⟩
   ·rw[m7]at Z
    have m4:=oH.get Z
    rw[F m m4,lV m m4]
    obtain⟨arr,ty,ha,H⟩:=oH.obj m cs Z
    have xN:∀m0,m0∈e.d.map (·.1)->C.ρ m≠C.ρ m0:=fun m0 md W=>h (by rw[oH.inj m m0 m4 (sJ m0 md) W];exact md)
    exact⟨arr,ty,(blocks _ (oH.lt m4) xN).trans ha,fun j c O=>by obtain⟨v,R,cn⟩:=H j c O;exact⟨v,R,cn.mono gi⟩⟩
  ·have l1:=(live' m).1 hm
   have l2:=(live' m').1 a0
   rw[F m l1,F m' l2]at dF
   exact oH.inj m m' l1 l2 dF
  ·have l1:=(live' m).1 hm
   rw[F m l1]
   exact(hp.mt _ (oH.lt l1)).2 (oH.mt m l1)
  ·exact gi.kn m (oH.kn m ((live' m).1 hm))
  ·by_cases hx:o.dst=some x
   ·rw[aU.pY A' G (by rw[j9];exact hx),if_pos dE,Ph hx (by rw[aB.size];exact E8 aU.fits ho x hx)]
    exact hp.val.mono iY
   ·rw[Hw hx,aU.C_ (ab:=A') (ad:=ab) (fun j ej a8 uZ=>by
     by_cases dN:j=i
     ·subst dN;rw[G]at a8;cases a8;exact absurd (by rw[<-j9];exact uZ) hx
     ·simp[ab,dN])]
    exact(oT x).mono gi
  ·refine j4.of rfl rfl (oF.le.trans gi) fun m hm hb => ?_
   have l1:=(live' m).1 hm
   rw[F m l1]at hb ⊢
   exact oF.wr m l1 hb
end
end Go.Proofs.Aw
namespace Go.Proofs.Aw
open Go
section
variable {P:Program} {ac:Env} {ops:List Oper} {nx:Nat} {t0:Tp} {h0:Hp} {D:List En}
theorem ez.ark (aU:gl P ac ops nx t0 h0 D) {L:Nat->Bool} {C:Ctx} {a:Act} (aB:ez ac nx t0 h0 D L C a) {i:Nat} {e:En} {o:Oper} (G:bf D i=some e) (ho:ops[i]? = some o) (j9:e.dst=o.dst) (cx:L i=false)
  (co:∀k,e.ms.testBit k=true->L k=true) {m0 q:Nm} {Kn:List AV} (hd:e.d=[(m0,none),(q,some Kn)]) (FF:m0.1≠nx+i) (vb:q.1=nx+i) (dY:eh (nx+i) e.d=false) (aQ:∀k,L k=true->k<i\/∃ek,bf D k=some ek/\ek.d=[]) {bi:List En}
  (h6:∀ab:Nat->Bool,ab i=true->(∀k,i<k->ab k=false)->aJ ab D h0=aD e.d (aJ ab bi h0)) (h5:∀ab:Nat->Bool,(∀k,i<=k->ab k=false)->aJ ab D h0=aJ ab bi h0) (bW:bi.length=i)
  (iK:eo nx D L e.ms.testBit) {Y:Value} {C':Ctx} (hp:cZ (C.at_ nx h0 D e.ms.testBit) (nx+i) (aJ e.ms.testBit D h0) e.r e.d Y C'):ez ac nx t0 h0 D (eB L i) (C.next C' (nx+i)) (a.put o.dst Y):=by
 have hi:i<D.length:=nY G
 obtain⟨hH,hT,j3⟩:=aB.ok _ iK
 have j4:mH ac C':=j3.step hp
 have hqm:q≠m0:=fun h=>FF (by rw[<-h];exact vb)
 have Bt:(C.at_ nx h0 D e.ms.testBit).live m0:=by
  rcases hp.names m0 (by rw[hd];simp)with h | h
  ·exact h
  ·exact absurd h FF
 have sK:=hH.kn m0 Bt
 have hJ:C'.live q:=(hp.heap.live q).2 (by rw[hd];simp[aD,dG])
 have Mp:¬(C.at_ nx h0 D e.ms.testBit).live q:=fun h=>by
  rcases hH.kn q h with g | ⟨k,u,g⟩
  ·omega
  ·have:k=i:=by omega
   subst this
   rw[co _ u]at cx;cases cx
 have blocks:∀b,b<C.w.heap.size->b≠C.ρ m0->C'.w.heap[b]? = C.w.heap[b]? := fun b hb ax=>hp.same b hb fun m hm sL=>by
  rw[hd]at hm
  simp at hm
  rcases hm with rfl | rfl
  ·exact ax
  ·exact absurd sL Mp
 refine⟨fun j O => ?_,fun j ej O a8 k u => ?_,fun j ej O a8 m hm => ?_,by rw[yV];exact aB.size,by rw[put_defers];exact aB.defers,fun A' cF => ?_⟩
 ·rcases cI.1 O with h | h
  ·exact aB.lt j h
  ·omega
 ·rcases cI.1 O with h | h
  ·exact cI.2 (.inl (aB.closed j ej h a8 k u))
  ·subst h;rw[G]at a8;cases a8;exact cI.2 (.inl (co k u))
 ·rcases cI.1 O with h | h
  ·exact aB.names j ej h a8 m hm
  ·subst h;rw[G]at a8;cases a8
   rw[hd]at hm
   simp at hm
   rcases hm with rfl | rfl
   ·rcases sK with h | ⟨k,u,h⟩
    ·exact .inl h
    ·exact .inr ⟨k,.inr u,h⟩
   ·exact .inr ⟨_,.inl rfl,vb⟩
 ·have dE:A' i=true:=cF.bars i e (cI.2 (.inr rfl)) G dY
  let ab:Nat->Bool:=fun j=>A' j && !(j==i)
  have hA:eo nx D L ab:=eo.QY aB cx cF
  obtain⟨oH,oT,oF⟩:=aB.ok ab hA
  have st:∀k ek,i<k->A' k=true->bf D k=some ek->ek.d=[]:=fun k ek u h d5=>by
   rcases cI.1 (cF.sub k h)with h | h
   ·rcases aQ k h with h | ⟨e2,E,h3⟩
    ·omega
    ·rw[d5]at E;cases E;exact h3
   ·omega
  have ve:aJ A' D h0=aD e.d (aJ ab D h0):=by
   have e1:aJ A' D h0=aJ (fun k=>A' k&&decide (k<=i)) D h0:=vf D fun k ek d5 ax=>by
    by_cases u:k<=i
    ·simp[u]
    ·cases h:A' k with
     | false=>simp
     | true=>exact absurd (st k ek (by omega) h d5) ax
   have e2:aJ ab D h0=aJ (fun k=>ab k&&decide (k<=i)) D h0:=vf D fun k ek d5 ax=>by
    by_cases u:k<=i
    ·simp[u]
    ·cases h:A' k with
     | false=>simp[ab,h]
     | true=>exact absurd (st k ek (by omega) h d5) ax
   rw[e1,e2,h6 _ (by simp[dE]) (fun k u=>by simp;omega),h5 (fun k=>ab k&&decide (k<=i)) (fun k u=>by
    rcases Nat.lt_or_eq_of_le u with h | h
    ·simp;omega
    ·subst h;simp[ab])]
   congr 1
   exact x7 bi fun j O=>by
    rw[bW]at O
    simp[ab,Nat.ne_of_lt O,Nat.le_of_lt O]
  have rg:∀m:Nm,ae (aJ A' D h0) m=if q=m then some Kn else if m0=m then none else ae (aJ ab D h0) m:=fun m=>by
   rw[ve,hd]
   simp only[aD,dG,u5]
  have yH:∀k,e.ms.testBit k=true->ab k=true:=fun k u=>by
   have A:=cF.closed i e dE G k u
   have n_:k≠i:=fun h=>by subst h;rw[co _ u]at cx;cases cx
   simp[ab,A,n_]
  have alike:∀m:Nm,(C.at_ nx h0 D e.ms.testBit).kn m->ae (aJ ab D h0) m=ae (aJ e.ms.testBit D h0) m:=fun m u=>aB.P1 hA iK (by
   rcases u with h | ⟨k,u,h⟩
   ·exact .inl h
   ·exact .inr ⟨k,⟨yH k u,u⟩,h⟩)
  have sJ:(C.at_ nx h0 D ab).live m0:=by
   show(ae (aJ ab D h0) m0).isSome=true
   rw[alike m0 sK];exact Bt
  have notI:∀m:Nm,(C.at_ nx h0 D ab).kn m->m.1≠nx+i:=fun m hm h=>by
   rcases hm with g | ⟨k,u,g⟩
   ·omega
   ·have:k=i:=by omega
    subst this
    simp[ab]at u
  have live':∀m,((C.next C' (nx+i)).at_ nx h0 D A').live m↔m=q\/(m≠m0/\(C.at_ nx h0 D ab).live m):=fun m=>by
   show(ae (aJ A' D h0) m).isSome=true↔_\/(_/\(ae (aJ ab D h0) m).isSome=true)
   rw[rg m]
   by_cases A:q=m
   ·subst A;simp
   ·rw[if_neg A]
    by_cases E:m0=m
    ·subst E;simp[Ne.symm A]
    ·rw[if_neg E];simp[Ne.symm A,Ne.symm E]
  have F:∀m,(C.at_ nx h0 D ab).kn m->((C.next C' (nx+i)).at_ nx h0 D A').ρ m=C.ρ m:=fun m hm=>by
   simp only[Ctx.at_,Ctx.next];rw[if_neg (notI m hm)]
  have zK:((C.next C' (nx+i)).at_ nx h0 D A').ρ q=C'.ρ q:=by
   simp only[Ctx.at_,Ctx.next];rw[if_pos vb]
  have lV:∀m,(C.at_ nx h0 D ab).kn m->((C.next C' (nx+i)).at_ nx h0 D A').bs m=C.bs m:=fun m hm=>by
   simp only[Ctx.at_,Ctx.next];rw[if_neg (notI m hm)]
  have Sa:((C.next C' (nx+i)).at_ nx h0 D A').bs q=C'.bs q:=by
   simp only[Ctx.at_,Ctx.next];rw[if_pos vb]
  have gT:∀{b:Nat} {cs:Array Value} {ty:TypeId},C.w.heap[b]? = some (.cells cs ty (0,0))->b<C.w.heap.size:=fun {b cs ty} H=>by
   rcases Nat.lt_or_ge b C.w.heap.size with E | E
   ·exact E
   ·rw[Array.getElem?_eq_none E]at H;cases H
  have gi:(C.at_ nx h0 D ab).le ((C.next C' (nx+i)).at_ nx h0 D A'):=by
   have te:∀m,(C.at_ nx h0 D ab).kn m->((C.next C' (nx+i)).at_ nx h0 D A').live m->m≠m0/\(C.at_ nx h0 D ab).live m:=fun m hm M=>by
    rcases(live' m).1 M with rfl | h
    ·exact absurd vb (notI _ hm)
    ·exact h
   refine⟨hp.le.size,hp.le.same,hp.le.mt,fun m hm => ?_,fun m hm M=>⟨(te m hm M).2,F m hm,lV m hm⟩,fun m hm M cs ty H => ?_⟩
   ·rcases hm with h | ⟨k,u,h⟩
    ·exact .inl h
    ·exact .inr ⟨k,by simp[ab]at u;exact u.1,h⟩
   ·have dz:C.w.heap[C.ρ m]? = some (.cells cs ty (0,0)):=H
    obtain⟨ax,sL⟩:=te m hm M
    have ld:C.ρ m≠C.ρ m0:=fun W=>ax (oH.inj m m0 sL sJ W)
    exact⟨cs,ty,(blocks _ (gT dz) ld).trans dz,rfl⟩
  have iY:C'.le ((C.next C' (nx+i)).at_ nx h0 D A'):=by
   refine⟨Nat.le_refl _,fun _ _ _=>rfl,fun _ _ h=>h,fun m hm => ?_,fun m hm M => ?_,fun _ _ _ cs ty h=>⟨cs,ty,h,rfl⟩⟩
   ·rcases(hp.kn m).1 hm with(h | ⟨k,u,h⟩) | h
    ·exact .inl h
    ·exact .inr ⟨k,cF.closed i e dE G k u,h⟩
    ·exact .inr ⟨i,dE,h⟩
   ·rcases(live' m).1 M with rfl | ⟨ax,eO⟩
    ·exact⟨hJ,zK,Sa⟩
    ·have Mc:=oH.kn m eO
     have U7:=notI m Mc
     have u:=((hp.kn m).1 hm).resolve_right U7
     have dH:C'.live m:=(hp.heap.live m).2 (by
      have A:(ae (aJ ab D h0) m).isSome=true:=eO
      rw[alike m u]at A
      rw[hd]
      simp only[aD,dG,u5]
      rw[if_neg (fun h=>U7 (by rw[<-h];exact vb)),if_neg (Ne.symm ax)]
      exact A)
     exact⟨dH,by rw[F m Mc];exact((hp.le.live m u dH).2.1).symm,by rw[lV m Mc];exact((hp.le.live m u dH).2.2).symm⟩
  have apart:∀m,m≠m0->(C.at_ nx h0 D ab).live m->C'.ρ q≠C.ρ m:=fun m ax sL dF=>by
   rcases hp.lA q hJ with⟨h,_⟩ | h | ⟨m1,dA,sG,h⟩
   ·exact Mp h
   ·have:=oH.lt sL
    have h':C.w.heap.size<=C'.ρ q:=h
    have atZ:C.ρ m<C.w.heap.size:=this
    omega
   ·rw[hd]at dA
    simp at dA
    rcases dA with rfl | rfl
    ·exact ax (oH.inj m m1 sL sJ (show C.ρ m=C.ρ m1 by rw[<-dF];exact h))
    ·exact Mp sG
  refine⟨⟨fun m=>Iff.rfl,fun m cs Z => ?_,fun m m' hm a0 dF => ?_,fun m hm => ?_,fun m hm => ?_⟩,fun x => ?_,?_⟩
  ·rw[rg m]at Z
   split at Z
   ·rename_i h;subst h
    cases Z
    rw[zK,Sa]
    obtain⟨arr,ty,ha,H⟩:=hp.heap.obj q Kn (by rw[hd];simp[aD,dG])
    exact⟨arr,ty,ha,fun j c O=>by obtain⟨v,R,cn⟩:=H j c O;exact⟨v,R,cn.mono iY⟩⟩
   ·split at Z
    ·cases Z
    ·rename_i h
     have m4:=oH.get Z
     rw[F m (oH.kn m m4),lV m (oH.kn m m4)]
     obtain⟨arr,ty,ha,H⟩:=oH.obj m cs Z
     have xN:C.ρ m≠C.ρ m0:=fun W=>h (oH.inj m m0 m4 sJ W).symm
     exact⟨arr,ty,(blocks _ (oH.lt m4) xN).trans ha,fun j c O=>by obtain⟨v,R,cn⟩:=H j c O;exact⟨v,R,cn.mono gi⟩⟩
  ·rcases(live' m).1 hm with rfl | ⟨n1,l1⟩<;>rcases(live' m').1 a0 with h | ⟨n2,l2⟩
   ·exact h.symm
   ·rw[zK,F m' (oH.kn m' l2)]at dF
    exact absurd dF (apart m' n2 l2)
   ·subst h
    rw[zK,F m (oH.kn m l1)]at dF
    exact absurd dF.symm (apart m n1 l1)
   ·rw[F m (oH.kn m l1),F m' (oH.kn m' l2)]at dF
    exact oH.inj m m' l1 l2 dF
  ·rcases(live' m).1 hm with rfl | ⟨n1,l1⟩
   ·rw[zK];exact hp.heap.mt _ hJ
   ·rw[F m (oH.kn m l1)]
    exact(hp.mt _ (oH.lt l1)).2 (oH.mt m l1)
  ·rcases(live' m).1 hm with rfl | ⟨n1,l1⟩
   ·exact .inr ⟨i,dE,vb⟩
   ·exact gi.kn m (oH.kn m l1)
  ·by_cases hx:o.dst=some x
   ·rw[aU.pY A' G (by rw[j9];exact hx),if_pos dE,Ph hx (by rw[aB.size];exact E8 aU.fits ho x hx)]
    exact hp.val.mono iY
   ·rw[Hw hx,aU.C_ (ab:=A') (ad:=ab) (fun j ej a8 uZ=>by
     by_cases dN:j=i
     ·subst dN;rw[G]at a8;cases a8;exact absurd (by rw[<-j9];exact uZ) hx
     ·simp[ab,dN])]
    exact(oT x).mono gi
  ·refine j4.of rfl rfl (oF.le.trans gi) fun m hm hb => ?_
   rcases(live' m).1 hm with rfl | ⟨n1,l1⟩
   ·rw[zK]at hb ⊢
    exact j4.wr _ hJ hb
   ·rw[F m (oH.kn m l1)]at hb ⊢
    exact oF.wr m l1 hb
end
end Go.Proofs.Aw
namespace Go.Proofs.Aw
open Go
def left (L:Nat->Bool):Nat->Nat
 | 0=>0
 | n+1=>left L n+if L n=true then 0 else 1
theorem Nr {L:Nat->Bool}:∀{n:Nat},left L n=0->∀j,j<n->L j=true
 | 0,_,j,O=>by omega
 | n+1,h,j,O=>by
  simp only[left]at h
  by_cases hn:L n=true
  ·rcases Nat.lt_or_ge j n with hG | hG
   ·exact Nr (by omega) j hG
   ·rw[show j=n from by omega];exact hn
  ·rw[if_neg hn]at h;omega
theorem Ga {L dJ:Nat->Bool}:∀{n:Nat},(∀j,j<n->L j=dJ j)->left L n=left dJ n
 | 0,_=>rfl
 | n+1,h=>by simp only[left];rw[Ga (fun j O=>h j (by omega)),h n (by omega)]
theorem Nq {L:Nat->Bool} {i:Nat} (hi:L i=false):∀{n:Nat},i<n->left (eB L i) n+1=left L n
 | 0,h=>by omega
 | n+1,h=>by
  simp only[left]
  by_cases co:i=n
  ·subst co
   rw[if_pos (cI.2 (.inr rfl)),hi,Ga (L:=eB L i) (dJ:=L) fun j O=>by simp[eB,Nat.ne_of_lt O]]
   simp
  ·have:=Nq hi (n:=n) (by omega)
   have E:eB L i n=L n:=by
    have:(n==i)=false:=by simpa using Ne.symm co
    simp[eB,this]
   rw[E];omega
def dg (listed:Array Bool):Nat->Bool:=fun j=>listed.getD j false
theorem NM {listed:Array Bool} {i:Nat} (hi:i<listed.size) (j:Nat):dg (listed.setIfInBounds i true) j=eB (dg listed) i j:=by
 unfold dg eB
 by_cases h:j=i
 ·subst h;simp[Array.getD,hi]
 ·have:(j==i)=false:=by simpa using h
  simp[Array.getD_eq_getD_getElem?,Array.getElem?_setIfInBounds_ne (Ne.symm h),this]
theorem vA {listed:Array Bool} {j:Nat}:listed.getD j true=false↔j<listed.size/\dg listed j=false:=by
 unfold dg
 by_cases h:j<listed.size
 ·simp[Array.getD,h]
 ·simp[Array.getD,h]
theorem eo.congr {nx:Nat} {D:List En} {L dJ ab:Nat->Bool} (h:∀j,L j=dJ j) (k:eo nx D L ab):eo nx D dJ ab :=
 ⟨fun j O=>by rw[<-h];exact k.sub j O,k.closed,fun j e O=>k.bars j e (by rw[h];exact O)⟩
theorem ez.congr {ac:Env} {nx:Nat} {t0:Tp} {h0:Hp} {D:List En} {L dJ:Nat->Bool} {C:Ctx} {a:Act} (h:∀j,L j=dJ j) (aB:ez ac nx t0 h0 D L C a):ez ac nx t0 h0 D dJ C a where
 lt j O:=aB.lt j (by rw[h];exact O)
 closed j e O G k u:=by rw[<-h];exact aB.closed j e (by rw[h];exact O) G k u
 names j e O:=aB.names j e (by rw[h];exact O)
 size:=aB.size
 defers:=aB.defers
 ok ab hA:=aB.ok ab (hA.congr fun j=>(h j).symm)
section
variable {P:Program} {ac:Env} {ops:List Oper} {nx:Nat} {t0:Tp} {h0:Hp} {D:List En}
theorem ez.adm (aU:gl P ac ops nx t0 h0 D) {L:Nat->Bool} {C:Ctx} {a:Act} (_acc:ez ac nx t0 h0 D L C a) {i:Nat} {e:En} (G:bf D i=some e)
  (co:∀k,e.ms.testBit k=true->L k=true) (iL:∀j ej,L j=true->bf D j=some ej->eh (nx+j) ej.d=false->e.ms.testBit j=true):eo nx D L e.ms.testBit :=
 ⟨co,fun _ _ O a8 k u=>aU.trans i G O a8 k u,fun j ej O a8 hf=>iL j ej O a8 hf⟩
theorem TO {p:Nat->Prop}:∀n,(∃j,p j/\j<n)->∃j,(p j/\j<n)/\∀k,p k->k<n->k<=j
 | 0,⟨_,_,h⟩=>by omega
 | n+1,⟨j,hp,O⟩=>by
  by_cases hn:p n
  ·exact⟨n,⟨hn,by omega⟩,fun k _ u=>by omega⟩
  ·have n9:j<n:=by
    rcases Nat.lt_or_eq_of_le (Nat.le_of_lt_succ O)with h | h
    ·exact h
    ·subst h;exact absurd hp hn
   obtain⟨q,⟨A,E⟩,h3⟩:=TO n ⟨j,hp,n9⟩
   refine⟨q,⟨A,by omega⟩,fun k u bI=>h3 k u ?_⟩
   rcases Nat.lt_or_eq_of_le (Nat.le_of_lt_succ bI)with h | h
   ·exact h
   ·subst h;exact absurd u hn
theorem ez.wp (aU:gl P ac ops nx t0 h0 D) {Q:Exit->Act->World->Prop} (ic:∀C a,ez ac nx t0 h0 D (fun j=>decide (j<D.length)) C a->Q .normal a C.w) :
  ∀(fuel:Nat) (listed:Array Bool) (C:Ctx) (a:Act),listed.size=ops.length->left (dg listed) ops.length<=fuel->ez ac nx t0 h0 D (dg listed) C a->wpAny P .any ops.toArray Q fuel listed a C.w:=by
 have done:∀(listed:Array Bool) (C:Ctx) (a:Act),listed.size=ops.length->ez ac nx t0 h0 D (dg listed) C a->(∀j,j<ops.length->dg listed j=true)->Q .normal a C.w:=fun listed C a b7 aB iL =>
  ic C a (aB.congr fun j=>by
   by_cases O:j<D.length
   ·rw[iL j (by rw[<-aU.len];exact O)];simp[O]
   ·cases h:dg listed j with
    | false=>simp[O]
    | true=>exact absurd (aB.lt j h) O)
 have noneLeft:∀(listed:Array Bool),listed.size=ops.length->Region.ready .any ops.toArray listed=[]->∀j,j<ops.length->dg listed j=true:=by
  intro listed b7 hr j
  induction j using Nat.strongRecOn with
  | _ j ih =>
   intro O
   cases h:dg listed j with
   | true=>rfl
   | false =>
    exfalso
    have pj:j∈Region.ready .any ops.toArray listed:=by
     refine mem_ready.2 ⟨vA.2 ⟨by rw[b7];exact O,h⟩,ops[j],by simp[O],fun ed d3 hb => ?_⟩
     have ho:ops[j]? = some ops[j]:=by simp[O]
     obtain⟨e,G,_⟩:=aU.entry ho
     obtain⟨pp,min,_,_⟩:=aU.mask G ho
     have aQ:=pp _ (min ed d3 hb)
     exact ih ed.on aQ (by omega)
    rw[hr]at pj;cases pj
 intro fuel
 induction fuel with
 | zero =>
  intro listed C a b7 M aB
  have iL:=Nr (Nat.le_zero.1 M)
  refine⟨?_,done listed C a b7 aB iL⟩
  apply List.eq_nil_iff_forall_not_mem.2
  intro j O
  obtain⟨A,_⟩:=mem_ready.1 O
  obtain⟨E,h3⟩:=vA.1 A
  rw[iL j (by omega)]at h3;cases h3
 | succ fuel ih =>
  intro listed C a b7 M aB
  refine⟨fun hr=>done listed C a b7 aB (noneLeft listed b7 hr),fun i hi => ?_⟩
  obtain⟨A,o,dT,afX⟩:=mem_ready.1 hi
  obtain⟨UZ,cx⟩:=vA.1 A
  have ho:ops[i]? = some o:=by simpa using dT
  obtain⟨e,G,j9⟩:=aU.entry ho
  obtain⟨pp,_,mex,_⟩:=aU.mask G ho
  have co:∀k,e.ms.testBit k=true->dg listed k=true:=fun k u=>by
   obtain⟨ed,d3,hb,Bx⟩:=mex k u
   have U':dg listed ed.on=true:=afX ed d3 hb
   rcases Bx with h | ⟨e1,xS,bp⟩
   ·rw[<-h];exact U'
   ·exact aB.closed _ _ U' xS k bp
  have fin:∀(DO:Ctx) (bl:Act),ez ac nx t0 h0 D (eB (dg listed) i) DO bl->wpAny P .any ops.toArray Q fuel (listed.setIfInBounds i true) bl DO.w:=fun DO bl abl=>by
   refine ih (listed.setIfInBounds i true) DO bl (by simpa using b7) ?_ (abl.congr fun j=>(NM UZ j).symm)
   have h7:=Nq cx (n:=ops.length) (by omega)
   rw[Ga (L:=dg (listed.setIfInBounds i true)) (dJ:=eB (dg listed) i) fun j _=>NM UZ j]
   omega
  have run:∀(ad:Nat->Bool) (l:List En),eo nx D (dg listed) ad->(∀x,bP (b0 ad l t0) x=bP (b0 ad D t0) x)->aJ ad D h0=aJ ad l h0->∀d,wS P ops (nx+i) o (b0 ad l t0) (aJ ad l h0) e.r d ->
    (∀(Y:Value) (C':Ctx),cZ (C.at_ nx h0 D ad) (nx+i) (aJ ad D h0) e.r d Y C'->ez ac nx t0 h0 D (eB (dg listed) i) (C.next C' (nx+i)) (a.put o.dst Y))->wpOp P ops.toArray Q i (wpAny P .any ops.toArray Q fuel (listed.setIfInBounds i true)) a C.w:=by
   intro ad l hB Mu R d hyg L_
   obtain⟨hH,hT,j3⟩:=aB.ok _ hB
   have Fh:ad i=false:=by
    cases h:ad i with
    | false=>rfl
    | true=>rw[hB.sub i h]at cx;cases cx
   have pc:fY (C.at_ nx h0 D ad) (b0 ad l t0) a:=fun x=>by rw[Mu x];exact hT x
   have UA:cY (C.at_ nx h0 D ad) (aJ ad l h0):=by rw[<-R];exact hH
   have iS:∀k,¬(C.at_ nx h0 D ad).kn (nx+i,k):=fun k h=>by
    rcases h with h | ⟨q,hq,h⟩
    ·simp only at h;omega
    ·simp only at h
     have:q=i:=by omega
     subst this;rw[Fh]at hq;cases hq
   have goOn:∀(Y:Value) (C':Ctx),cZ (C.at_ nx h0 D ad) (nx+i) (aJ ad l h0) e.r d Y C'->wpAny P .any ops.toArray Q fuel (listed.setIfInBounds i true) (a.put o.dst Y) C'.w:=fun Y C' hp =>
    fin (C.next C' (nx+i)) (a.put o.dst Y) (L_ Y C' (by rw[R];exact hp))
   obtain⟨y1,y2⟩:=Rb pc ops
    |> fun h=>(⟨fun j=>(h j).1,fun j=>(h j).2⟩:(∀j b,yv ops (b0 ad l t0) j = .sc (.bool b)->yielded ops.toArray a.tmps j=some b)/\(∀j x,yv ops (b0 ad l t0) j = .sc (.tuple x)->yielded ops.toArray a.tmps j=none))
   unfold wpOp
   rw[dT]
   simp only
   have wanted:Yields P (nx+i) o.op (b0 ad l t0) (aJ ad l h0) e.r d->Region.wanted o (yielded ops.toArray a.tmps)=true ->
     if Region.wanted o (yielded ops.toArray a.tmps)then o.wp P a C.w (wpAny P .any ops.toArray Q fuel (listed.setIfInBounds i true)) Q\/(o.asks P a C.w/\LetsOut Q)else wpAny P .any ops.toArray Q fuel (listed.setIfInBounds i true) (a.put o.dst undef) C.w:=fun hy hw=>by
    rw[if_pos hw]
    exact .inl (hy (C.at_ nx h0 D ad) a o _ _ rfl UA pc iS goOn)
   rcases hyg with⟨Z,hy⟩ | ⟨j,want,b,Z,hb,uX,hy⟩ | ⟨j,want,Z,agj,hr,hd⟩
   ·exact wanted hy (by simp[Region.wanted,Z])
   ·exact wanted hy (by simp[Region.wanted,Z,y1 j b hb,uX])
   ·have hw:Region.wanted o (yielded ops.toArray a.tmps)=false:=by
     rcases agj with⟨b,hb,uX⟩ | ⟨x,hx⟩
     ·simp[Region.wanted,Z,y1 j b hb,uX]
     ·simp[Region.wanted,Z,y2 j x hx]
    rw[if_neg (by rw[hw];simp)]
    have hp:cZ (C.at_ nx h0 D ad) (nx+i) (aJ ad l h0) e.r d undef ((C.at_ nx h0 D ad).same (nx+i) C.w):=by
     rw[hr,hd]
     exact cZ.pure UA (by simp only[aj]) rfl rfl rfl rfl
    exact goOn undef ((C.at_ nx h0 D ad).same (nx+i) C.w) hp
  obtain⟨bi,o',g1,g2,g3,hs,h5,h6⟩:=aU.walked.get G
  rw[ho]at g3;cases g3
  have mlt':∀k,i<=k->e.ms.testBit k=false:=fun k u=>by
   cases h:e.ms.testBit k with
   | false=>rfl
   | true=>have:=pp k h;omega
  by_cases U3:∃j,(dg listed j=true/\e.ms.testBit j=false/\∃ej,bf D j=some ej/\eh (nx+j) ej.d=false)/\j<D.length
  ·
   obtain⟨j,⟨⟨xX,FA,ej,a8,xY⟩,at4⟩,agf⟩:=TO D.length U3
   obtain⟨Au,aje,k1,k2,k3,k4,FS,Ng⟩:=aU.walked.get a8
   have xM:ej.ms.testBit i=false:=by
    cases h:ej.ms.testBit i with
    | false=>rfl
    | true=>rw[aB.closed j ej xX a8 i h]at cx;cases cx
   have lR:∀k,(((e.ms ||| ej.ms) ||| 2 ^ j).testBit k=true)↔(e.ms.testBit k=true\/ej.ms.testBit k=true)\/k=j:=fun k=>by
    rw[Nat.testBit_or,Nat.testBit_or,Bool.or_eq_true,Bool.or_eq_true,Nat.testBit_two_pow]
    simp only[decide_eq_true_eq]
    exact or_congr Iff.rfl eq_comm
   obtain⟨mltj,_,_,_⟩:=aU.mask a8 k3
   have hB:eo nx D (dg listed) ((e.ms ||| ej.ms) ||| 2 ^ j).testBit:=by
    refine⟨fun k u => ?_,fun k ek u d5 q hq => ?_,fun k ek u d5 hf => ?_⟩
    ·rcases(lR k).1 u with(h | h) | h
     ·exact co k h
     ·exact aB.closed j ej xX a8 k h
     ·subst h;exact xX
    ·rcases(lR k).1 u with(h | h) | h
     ·exact(lR q).2 (.inl (.inl (aU.trans i G h d5 q hq)))
     ·exact(lR q).2 (.inl (.inr (aU.trans j a8 h d5 q hq)))
     ·subst h;rw[a8]at d5;cases d5;exact(lR q).2 (.inl (.inr hq))
    ·cases UR:e.ms.testBit k with
     | true=>exact(lR k).2 (.inl (.inl UR))
     | false =>
      rcases Nat.lt_trichotomy k j with h | h | h
      ·rcases k4.waits k ek (by rw[k2 k h];exact d5) hf with g | g
       ·exact(lR k).2 (.inl (.inr g))
       ·have:=g.1
        rw[this]at xY;cases xY
      ·exact(lR k).2 (.inr h)
      ·have:=agf k ⟨u,UR,ek,d5,hf⟩ (aB.lt k u)
       omega
   have FL:∀A',eo nx D (eB (dg listed) i) A'->A' i=true->∀k,((e.ms ||| ej.ms) ||| 2 ^ j).testBit k=true->A' k=true:=fun A' cF dE k u=>by
    rcases(lR k).1 u with(h | h) | h
    ·exact cF.closed i e dE G k h
    ·exact cF.closed j ej (cF.bars j ej (cI.2 (.inl xX)) a8 xY) a8 k h
    ·subst h;exact cF.bars k ej (cI.2 (.inl xX)) a8 xY
   by_cases hF:i<j
   case neg =>
    have dN:j<i:=by
     rcases Nat.lt_trichotomy j i with h | h | h
     ·exact h
     ·subst h;rw[xX]at cx;cases cx
     ·exact absurd h hF
    rcases hs.waits j ej (by rw[g2 j dN];exact a8) xY with g | ⟨hd,hy⟩
    ·rw[g]at FA;cases FA
    ·have u0:∀k,i<=k->((e.ms ||| ej.ms) ||| 2 ^ j).testBit k=false:=fun k u=>by
      cases h:((e.ms ||| ej.ms) ||| 2 ^ j).testBit k with
      | false=>rfl
      | true =>
       rcases(lR k).1 h with(h | h) | h
       ·have:=pp k h;omega
       ·have:=mltj k h;omega
       ·omega
     rw[g1]at hy
     exact run _ bi hB (fun x=>aU.Qt g1 g2 u0 x) (h5 _ u0) [] hy (fun Y C' hp=>aB.Zg aU G ho j9 cx co hd hB FL hp)
   have af9:DU P ops nx t0 h0 Au ej:=by
    rcases k4.fresh with g | g | g
    ·rw[k1,xY]at g;cases g
    ·have:ej.ms.testBit i=true:=by
      rw[show ej.ms=2 ^ j-1 from by rw[<-k1];omega,Nat.testBit_two_pow_sub_one]
      simpa using hF
     rw[this]at xM;cases xM
    ·exact g
   have hei:bf Au i=some e:=by rw[k2 i hF];exact G
   obtain⟨hd,hy⟩:=af9.2 i e o (by rw[k1];exact hF) xM hei ho
   rw[k1]at hy
   have u0:∀k,j+1<=k->((e.ms ||| ej.ms) ||| 2 ^ j).testBit k=false:=fun k u=>by
    cases h:((e.ms ||| ej.ms) ||| 2 ^ j).testBit k with
    | false=>rfl
    | true =>
     rcases(lR k).1 h with(h | h) | h
     ·have:=pp k h;omega
     ·have:=mltj k h;omega
     ·omega
   have afY:∀k,k<j+1->bf (ej::Au) k=bf D k:=fun k u=>by
    simp only[bf,k1]
    split
    ·rename_i h;subst h;exact a8.symm
    ·exact k2 k (by omega)
   refine run _ (ej::Au) hB (fun x=>aU.Qt (by simp[k1]) afY u0 x) ?_ [] hy (fun Y C' hp=>aB.Zg aU G ho j9 cx co hd hB FL hp)
   rw[Ng _ ((lR j).2 (.inr rfl)) (fun k u=>u0 k u)]
   simp only[aJ]
   rw[if_pos (by rw[k1];exact(lR j).2 (.inr rfl))]
  ·have iS:∀j ej,dg listed j=true->bf D j=some ej->eh (nx+j) ej.d=false->e.ms.testBit j=true:=fun j ej O a8 hf=>by
    cases h:e.ms.testBit j with
    | true=>rfl
    | false=>exact absurd ⟨j,⟨O,h,ej,a8,hf⟩,aB.lt j O⟩ U3
   have iK:=aB.adm aU G co iS
   have R:=h5 e.ms.testBit mlt'
   have jt:=hs.Rc
   rw[g1]at jt
   refine run e.ms.testBit bi iK (fun x=>aU.Qt g1 g2 mlt' x) R e.d jt (fun Y C' hp => ?_)
   have aQ:eh (nx+i) e.d=false->∀k,dg listed k=true->k<i\/∃ek,bf D k=some ek/\ek.d=[]:=fun hf k u=>by
    rcases Nat.lt_trichotomy k i with h | h | h
    ·exact .inl h
    ·subst h;rw[u]at cx;cases cx
    ·obtain⟨ek,d5⟩:=EP (D:=D) (aB.lt k u)
     obtain⟨Au,aje,k1,k2,k3,k4,_⟩:=aU.walked.get d5
     rcases k4.waits i e (by rw[k2 i h];exact G) hf with hb | hb
     ·rw[aB.closed k ek u d5 i hb]at cx;cases cx
     ·exact .inr ⟨ek,d5,hb.1⟩
   by_cases xU:e.ms+1=2 ^ bi.length
   ·exact aB.step aU G ho cx co g1 g2 hs h6 R iK (by rw[<-R];exact hp) (fun _=>xU) aQ
   rcases hs.fresh with g | g | g
   ·rw[g1]at g
    exact aB.step aU G ho cx co g1 g2 hs h6 R iK (by rw[<-R];exact hp) (fun hf=>by rw[g]at hf;cases hf) aQ
   ·exact absurd g xU
   ·by_cases hf:eh (nx+i) e.d=true
    ·exact aB.step aU G ho cx co g1 g2 hs h6 R iK (by rw[<-R];exact hp) (fun fE=>by rw[hf]at fE;cases fE) aQ
    ·obtain⟨Bj,_⟩:=g
     have fE:eh (nx+i) e.d=false:=by simpa using hf
     rw[g1]at Bj
     rcases Bj with hd | ⟨m,q,cs,hd,hm,hq⟩
     ·exact aB.arn aU G ho j9 cx co hd fE (aQ fE) h6 h5 g1 iK hp
     ·exact aB.ark aU G ho j9 cx co hd hm hq fE (aQ fE) h6 h5 g1 iK hp
theorem S9 {Q:Exit->St->Prop} {V:St} (hf:fits ac.N ops=true) (ho:once ops=true) (D:List En) (hw:jj P ops V.nx (e6 ops V.t) V.h D) (M:D.length=ops.length)
  (u:Q .normal ⟨b0 (fun _=>true) D (e6 ops V.t),aJ (fun _=>true) D V.h,V.nx+ops.length⟩) {a:Act} {w:World} (hr:Rel ac V a w) :
  wpAny P .any ops.toArray (fun e bz w'=>∃aK,Rel ac aK bz w'/\Q e aK) ops.toArray.size (Array.replicate ops.toArray.size false) a { w with drawn:=w.drawn+1 }:=by
 obtain⟨C0,rfl,hC⟩:=hr
 have aU:gl P ac ops V.nx (e6 ops V.t) V.h D:=⟨hw,M,ho,hf,fun o Mm x hx=>by
  rw[wq,if_pos (List.any_eq_true.2 ⟨o,Mm,by simp[hx]⟩)]⟩
 let C:Ctx:={ C0 with w:={ C0.w with drawn:=C0.w.drawn+1 } }
 have hL:∀j,dg (Array.replicate ops.toArray.size false) j=false:=fun j=>by
  unfold dg
  rw[Array.getD_eq_getD_getElem?,Array.getElem?_replicate]
  split<;>rfl
 have start:ez ac V.nx (e6 ops V.t) V.h D (dg (Array.replicate ops.toArray.size false)) C a:=by
  refine⟨fun j O=>absurd O (by rw[hL];simp),fun j e O=>absurd O (by rw[hL];simp),fun j e O=>absurd O (by rw[hL];simp),hC.size,hC.defers,fun ab hA => ?_⟩
  have Fd:∀j,ab j=false:=fun j=>by
   cases h:ab j with
   | false=>rfl
   | true=>have:=hA.sub j h;rw[hL]at this;cases this
  have R:∀l:List En,aJ ab l V.h=V.h:=fun l=>by
   induction l with
   | nil=>rfl
   | cons e l ih=>simp only[aJ];rw[if_neg (by rw[Fd];simp)];exact ih
  have le:C0.le (C.at_ V.nx V.h D ab):=by
   refine⟨Nat.le_refl _,fun _ _ _=>rfl,fun _ _ h=>h,fun m hm => .inl (hC.kn m hm),fun m hm M=>⟨(hC.heap.live m).2 ?_,rfl,rfl⟩,fun _ _ _ cs ty h=>⟨cs,ty,h,rfl⟩⟩
   have:(ae (aJ ab D V.h) m).isSome=true:=M
   rwa[R]at this
  have live:∀m,(C.at_ V.nx V.h D ab).live m↔C0.live m:=fun m=>by
   rw[hC.heap.live m]
   have:aJ ab D V.h=V.h:=R D
   show(ae (aJ ab D V.h) m).isSome=true↔_
   rw[this]
  refine⟨?_,fun x => ?_,⟨hC.frame.os,hC.frame.tape,hC.frame.output,hC.frame.size,hC.frame.same,hC.frame.mt,fun m hm hb=>hC.frame.wr m ((live m).1 hm) hb,hC.frame.le.trans le⟩⟩
  ·rw[R]
   exact hC.heap.mono le live (fun _ _=>rfl) (fun _ h _=>h)
  ·rcases pZ ab (e6 ops V.t) x D with⟨j,e,_,_,h3⟩ | ⟨_,E⟩
   ·rw[h3,if_neg (by rw[Fd];simp)];trivial
   ·rw[E,wq]
    split
    ·trivial
    ·exact(hC.t x).mono le
 refine ez.wp aU (fun C' bz aB => ?_) ops.toArray.size (Array.replicate ops.toArray.size false) C a (by simp) ?_ start
 ·have iK:eo V.nx D (fun j=>decide (j<D.length)) (fun j=>decide (j<D.length)):=⟨fun _ h=>h,aB.closed,fun _ _ h _ _=>h⟩
  obtain⟨hH,hT,j3⟩:=aB.ok _ iK
  have e1:aJ (fun j=>decide (j<D.length)) D V.h=aJ (fun _=>true) D V.h:=x7 D fun j O=>by simp[O]
  have e2:b0 (fun j=>decide (j<D.length)) D (e6 ops V.t)=b0 (fun _=>true) D (e6 ops V.t):=ZP D fun j O=>by simp[O]
  rw[e1]at hH
  rw[e2]at hT
  refine⟨_,⟨C'.at_ V.nx V.h D (fun j=>decide (j<D.length)),rfl,hH,hT,aB.size,aB.defers,fun m hm => ?_,j3⟩,u⟩
  rcases hm with h | ⟨j,O,h⟩
  ·simp only;omega
  ·simp at O;simp only;omega
 ·have:∀n,left (dg (Array.replicate ops.toArray.size false)) n<=n:=fun n=>by
   induction n with
   | zero=>simp[left]
   | succ n ih=>simp only[left];split<;>omega
  exact this _
theorem aa6 {Q:Exit->St->Prop} {V:St} {id:Nat} (hm:P.follows .mixedOrders=true) (hf:fits ac.N ops=true) (ho:once ops=true) (D:List En) (hw:jj P ops V.nx (e6 ops V.t) V.h D) (M:D.length=ops.length)
  (u:Q .normal ⟨b0 (fun _=>true) D (e6 ops V.t),aJ (fun _=>true) D V.h,V.nx+ops.length⟩):AW P ac (.region id ops.toArray true) Q V:=fun _ _ hr =>
 wp_region_any hm (S9 hf ho D hw M u hr)
end
end Go.Proofs.Aw
namespace Go.Proofs.Aw
open Go
inductive cO where
 | no
 | ok (r:AV) (d:Dl)
 | call (f:FuncId) (args:List AV)
def c6:Option AV->cO
 | some v => .ok v []
 | none => .no
def lq:Option (AV×Dl)->cO
 | some (v,d) => .ok v d
 | none => .no
def Gd:Option Dl->cO
 | some d => .ok (.sc undef) d
 | none => .no
def jJ:Option Bool->Nat->List AV->Nat->Option AV
 | some true,z,cs,off=>if 0<z/\off+z<=cs.length then some (.agg ((cs.drop off).take z))else none
 | some false,_,cs,off=>cs[off]?
 | none,_,_,_=>none
def HC (b:Option Bool) (z:Nat) (off:Nat):Option (List AV)->Option AV
 | some cs=>jJ b z cs off
 | none=>none
def oo (P:Program) (h:Hp) (ty:TypeId):AV->Option AV
 | .ptr m off=>HC (eT P ty) (P.cellsOf ty) off (ae h m)
 | .ip cs off=>jJ (eT P ty) (P.cellsOf ty) cs off
 | _=>none
def wG (z:Nat) (m:Nm) (off:Nat) (ys:List AV):Option (List AV)->Option Dl
 | some cs=>if 0<z/\ys.length=z/\off+z<=cs.length/\ys.all AV.one=true then some [(m,some (fT cs off ys))]else none
 | none=>none
def pV (P:Program) (h:Hp) (ty:TypeId):AV->List AV->Option Dl
 | .ptr m off,ys=>wG (P.cellsOf ty) m off ys (ae h m)
 | _,_=>none
def FQ (m:Nm) (off:Nat) (j:Int) (live:Bool):Option (Nat×Nat)->Option AV
 | some (len,z)=>if live=true/\0<=j/\j<len then some (.ptr m (off+j.toNat*z))else none
 | none=>none
def MS (cs:List AV) (off:Nat) (j:Int):Option (Nat×Nat)->Option AV
 | some (len,z)=>if 0<=j/\j<len then some (.ip cs (off+j.toNat*z))else none
 | none=>none
def FR (m:Nm) (z off len:Nat) (j:Int) (live:Bool):Option (TypeId×Nat)->Option AV
 | some (_,z')=>if z'=z/\live=true/\0<=j/\j<len then some (.ptr m (off+j.toNat*z))else none
 | none=>none
def x_:Option (List AV)->Option AV
 | some kw=>some (.ip kw 0)
 | none=>none
def vn (z:Nat) (D:List (List AV)) (j:Int):Option (TypeId×Nat)->Option AV
 | some (_,z')=>if z'=z/\0<=j then x_ D[j.toNat]? else none
 | none=>none
def jy (P:Program) (h:Hp) (ty:TypeId):AV->AV->Option AV
 | .ptr m off,.sc (.int _ j)=>FQ m off j (ae h m).isSome (er P ty)
 | .ip cs off,.sc (.int _ j)=>MS cs off j (er P ty)
 | .sl m z off len _,.sc (.int _ j)=>FR m z off len j (ae h m).isSome (bE P ty)
 | .ro z D _,.sc (.int _ j)=>vn z D j (bE P ty)
 | _,_=>none
def Lm (h:Hp) (x:AV):Option (Nat×Nat)->Option AV
 | some (o,_)=>match x with
  | .ptr m off=>if(ae h m).isSome=true then some (.ptr m (off+o))else none
  | .ip cs off=>some (.ip cs (off+o))
  | _=>none
 | none=>none
def AK (P:Program) (h:Hp) (ty:TypeId) (f:Nat) (x:AV):Option AV:=match jb P ty with
 | some l=>Lm h x l[f]?
 | none=>none
def E6 (cs:List AV):Option (Nat×Nat)->Option (Option Bool)->Option AV
 | some (o,z),some b=>jJ b z cs o
 | _,_=>none
def AN (P:Program) (ty:TypeId) (f:Nat):AV->Option AV
 | .agg cs=>match jb P ty,CB P ty with
  | some l,some bs=>E6 cs l[f]? bs[f]?
  | _,_=>none
 | _=>none
def yb (P:Program) (ty:TypeId):AV->AV->Option AV
 | .agg cs,.sc (.int _ j)=>match er P ty with
  | some (len,z)=>if 0<=j/\j<len then jJ (rV P ty) z cs (j.toNat*z)else none
  | none=>none
 | .sc (.string s),.sc (.int _ j)=>if nt P ty=true/\0<=j then(s[j.toNat]?).map fun b => .sc (.int .u8 b.toNat)else none
 | _,_=>none
def lU (d:Nat):Option AV->Option Nat
 | none=>some d
 | some (.sc (.int _ i))=>if 0<=i then some i.toNat else none
 | _=>none
def rE (P:Program) (h:Hp) (ty:TypeId) (x:AV) (lo hi:Option Nat):Option AV :=
 match lo,hi with
 | some l,some W=>match x with
  | .ro z D full=>match bE P ty with
   | some (_,z')=>if z'=z/\l<=W/\W<=D.length then some (.ro z ((D.take W).drop l) (full&&W==D.length))else none
   | none=>none
  | .sl m z off len own=>match bE P ty with
   | some (_,z')=>if z'=z/\(ae h m).isSome=true/\l<=W/\W<=len then some (.sl m z (off+l*z) (W-l) own)else none
   | none=>none
  | .ptr m off=>match er P ty with
   | some (len,z)=>if(ae h m).isSome=true/\l<=W/\W<=len then some (.sl m z (off+l*z) (W-l) false)else none
   | none=>none
  | .sc (.string s)=>if nt P ty=true/\l<=W/\W<=s.size then some (.sc (.string (s.extract l W)))else none
  | .sc (.slice none 0 0)=>match bE P ty with
   | some _=>if l=0/\W=0 then some (.sc (.slice none 0 0))else none
   | none=>none
  | _=>none
 | _,_=>none
def kM (P:Program) (ty:TypeId):AV->Nat
 | .ro _ D _=>D.length
 | .sl _ _ _ len _=>len
 | .ptr _ _=>match er P ty with | some (len,_)=>len | none=>0
 | .sc (.string s)=>s.size
 | _=>0
def If (P:Program) (h:Hp) (ty:TypeId) (x:AV):Option Nat->Option Nat->Option Nat->Option AV
 | some l,some W,some m=>match x with
  | .ro z D _=>match bE P ty with
   | some (_,z')=>if z'=z/\l<=W/\W<=m/\m<=D.length then some (.ro z ((D.take W).drop l) (m==W))else none
   | none=>none
  | .sl n z _ len _=>match bE P ty with
   | some (_,z')=>if z'=z/\(ae h n).isSome=true/\W=l/\m=l/\l<=len then some (.ro z [] true)else none
   | none=>none
  | _=>none
 | _,_,_=>none
def pT (P:Program) (h:Hp) (ty:TypeId) (x:AV) (lo hi mx:Option AV):Option AV :=
 match mx with
 | none=>rE P h ty x (lU 0 lo) (lU (kM P ty x) hi)
 | some m=>If P h ty x (lU 0 lo) (match hi with | some v=>lU 0 (some v) | none=>none) (lU 0 (some m))
def nR (P:Program) (n:Nat) (mu:Bool) (ty:TypeId) (len:Nat) (ps:List (Nat×AV)):Option (AV×Dl) :=
 match bE P ty with
 | some (e,z)=>if nE P e=some z/\len*z<=16777216/\ps.length=len/\kX z 0 ps=true then
   (match mu with
   | false=>some (.ro z (gB ps) true,[])
   | true=>some (.sl (n,0) z 0 len true,[((n,0),some (gB ps).flatten)]))
  else none
 | none=>none
def nM (n:Nat) (mu:Bool) (z:Nat) (kU:Nat) (fs:List (List AV)):Option (List (List AV))->Option (AV×Dl)
 | some D=>if(D.length+fs.length)*kU<=140737488355328/\D.length+fs.length<=9223372036854775807/\(mu=true->fs≠[])then
   (match mu with
   | false=>some (.ro z (D++fs) false,[])
   | true=>some (.sl (n,0) z 0 (D.length+fs.length) true,[((n,0),some (D.flatten++fs.flatten))]))
  else none
 | none=>none
def uo (n:Nat) (z:Nat) (kU:Nat) (fs:List (List AV)) (m:Nm) (off len:Nat):Option (List AV)->Option (AV×Dl)
 | some cs=>if cs.length=off+len*z/\fs.flatten.all AV.one=true/\(len+fs.length)*kU<=140737488355328/\len+fs.length<=9223372036854775807 then some (.sl (n,0) z 0 (len+fs.length) true,[(m,none),((n,0),some (cs.drop off++fs.flatten))])else none
 | none=>none
def jk (P:Program) (n:Nat) (h:Hp) (mu:Bool) (e:TypeId) (z:Nat) (s:AV):Option (List (List AV))->Option (AV×Dl)
 | some fs=>match s with
  | .sl m z' off len own=>if z'=z/\own=true then uo n z (de P e) fs m off len (ae h m)else none
  | s=>nM n mu z (de P e) fs (jl z s)
 | none=>none
def nN (P:Program) (n:Nat) (h:Hp) (mu:Bool) (ty xt:TypeId) (s x:AV):Option (AV×Dl) :=
 match bE P ty with
 | some (e,z)=>if bE P xt=some (e,z)/\nE P e=some z then jk P n h mu e z s (et h z x)else none
 | none=>none
def yS:AV->AV->AV->Option AV
 | .sc (.bool true),a,_=>some a
 | .sc (.bool false),_,b=>some b
 | _,_,_=>none
def vK (h:Hp):AV->Option AV
 | .ptr m off=>if(ae h m).isSome=true then some (.ptr m off)else none
 | .ip cs off=>some (.ip cs off)
 | .fn (.func f) xs ys=>some (.fn (.func f) xs ys)
 | _=>none
def mo:Option Int->Option AV
 | some m=>some (.sc (.int .i64 m))
 | none=>none
def mM (P:Program) (n:Nat) (mu:Bool) (h:Hp):Builtin->List TypeId->List AV->cO
 | .len,ty::_,x::_=>c6 (mo (iZ P h ty x))
 | .max,_,x::xs=>c6 (py x xs)
 | .min,_,x::xs=>c6 (pz x xs)
 | .append,[ty,xt],[s,x]=>lq (nN P n h mu ty xt s x)
 | .copy,[ty,_],[s,x]=>lq (w_ P h ty s x)
 | b,_,xs=>c6 (uE b xs)
def Eh (n:Nat) (ys:List AV):cO:=if ys.all AV.one=true then .ok (.ptr (n,0) 0) [((n,0),some ys)]else .no
def cg (n:Nat):Option (List AV)->cO
 | some cs => .ok (.ptr (n,0) 0) [((n,0),some cs)]
 | none => .no
def Lh:AV->Nat->Option AV
 | .tup vs,i=>vs[i]?
 | _,_=>none
def Ej (P:Program) (ty:TypeId) (ps:List (Nat×AV)):Option (List AV)->Option AV
 | some cs=>if((er P ty).isSome||(jb P ty).isSome)=true then(ma (placeOf P ty) cs ps).map .agg else none
 | none=>none
def El (args:List AV):AV->cO
 | .fn (.func f) xs ys => .call f (xs++(args++ys))
 | _ => .no
def w9 (P:Program) (src dst:TypeId) (x:AV):Option AV:=if(P.underlying src).isSome=true then uD P dst x else none
def k6 (t:Tp):Option Operand->Option AV
 | some x=>some (ev t x)
 | none=>none
def n3 (t:Tp):List Operand->List AV
 | []=>[]
 | x::xs=>ev t x::n3 t xs
def uR (t:Tp):List (Nat×Operand)->List (Nat×AV)
 | []=>[]
 | (i,x)::xs=>(i,ev t x)::uR t xs
theorem K4 (t:Tp) (x:Option Operand):k6 t x=x.map (ev t):=by cases x<;>rfl
theorem E0 (t:Tp):∀l,n3 t l=l.map (ev t)
 | []=>rfl
 | x::xs=>by simp only[n3,List.map_cons,E0 t xs]
theorem K6 (t:Tp):∀l:List (Nat×Operand),uR t l=l.map fun p=>(p.1,ev t p.2)
 | []=>rfl
 | (i,x)::xs=>by simp only[uR,List.map_cons,K6 t xs]
def cC (P:Program) (n:Nat) (mu:Bool) (t:Tp) (h:Hp):Op->cO
 | .move x => .ok (ev t x) []
 | .assign x => .ok (ev t x) []
 | .pick c a b=>c6 (yS (ev t c) (ev t a) (ev t b))
 | .alloc e=>cg n (fy P e)
 | .box _ x=>Eh n (ev t x).cells
 | .load ty x=>c6 (oo P h ty (ev t x))
 | .store ty x y=>Gd (pV P h ty (ev t x) (ev t y).cells)
 | .nilCheck x=>c6 (vK h (ev t x))
 | .indexAddr ty x i=>c6 (jy P h ty (ev t x) (ev t i))
 | .fieldAddr ty x f=>c6 (AK P h ty f (ev t x))
 | .field ty x f=>c6 (AN P ty f (ev t x))
 | .index ty x i=>c6 (yb P ty (ev t x) (ev t i))
 | .slice ty x lo hi mx=>c6 (pT P h ty (ev t x) (k6 t lo) (k6 t hi) (k6 t mx))
 | .binOp op ty x y _=>c6 (gO P h op ty (ev t x) (ev t y))
 | .unOp op _ x=>c6 (rO op (ev t x))
 | .convert src dst x=>c6 (w9 P src dst (ev t x))
 | .extract x i=>c6 (Lh (ev t x) i)
 | .makeFunc f xs ys => .ok (.fn f (n3 t xs.toList) (n3 t ys.toList)) []
 | .build ty ps=>c6 (Ej P ty (uR t ps.toList) (fy P ty))
 | .buildSlice ty len ps=>lq (nR P n mu ty len (uR t ps.toList))
 | .makeSlice ty l c=>lq (sZ P n ty (ev t l) (ev t c))
 | .call ⟨.builtin b,args,gG⟩=>mM P n mu h b gG.toList (n3 t args.toList)
 | .call ⟨.value x,args,_⟩=>El (n3 t args.toList) (ev t x)
 | _ => .no
end Go.Proofs.Aw
namespace Go.Proofs.Aw
open Go
section
variable {P:Program} {n:Nat} {mu:Bool} {t:Tp} {h:Hp}
theorem i_ {x:Option AV} {r:AV} {d:Dl} (G:c6 x = .ok r d):x=some r/\d=[]:=by
 cases x with
 | none=>cases G
 | some v=>cases G;exact⟨rfl,rfl⟩
theorem BX {x:Option AV} {f:FuncId} {a:List AV} (G:c6 x = .call f a):False:=by cases x<;>cases G
theorem Gc {x:Option (AV×Dl)} {r:AV} {d:Dl} (G:lq x = .ok r d):x=some (r,d):=by
 cases x with
 | none=>cases G
 | some v=>obtain⟨v,e⟩:=v;cases G;rfl
theorem Nw {x:Option (AV×Dl)} {f:FuncId} {a:List AV} (G:lq x = .call f a):False:=by
 cases x with
 | none=>cases G
 | some v=>obtain⟨v,e⟩:=v;cases G
theorem ahO {x:Option Dl} {r:AV} {d:Dl} (G:Gd x = .ok r d):x=some d/\r = .sc undef:=by
 cases x with
 | none=>cases G
 | some v=>cases G;exact⟨rfl,rfl⟩
theorem ahN {x:Option Dl} {f:FuncId} {a:List AV} (G:Gd x = .call f a):False:=by cases x<;>cases G
theorem HA {b:Option Bool} {z:Nat} {cs:List AV} {off:Nat} {v:AV} {K:AV->Prop} (G:jJ b z cs off=some v) (u:K v):tn b z cs off K:=by
 unfold jJ at G
 split at G
 ·split at G
  ·rename_i H;cases G;exact⟨H.1,H.2,u⟩
  ·cases G
 ·simp only[tn,G];exact u
 ·cases G
theorem VW {ty:TypeId} {x v:AV} {K:AV->Prop} (G:oo P h ty x=some v) (u:K v):sX P h ty x K:=by
 unfold oo at G
 split at G
 ·rename_i m off
  unfold sX
  simp only
  cases Z:ae h m with
  | none=>rw[Z]at G;cases G
  | some cs=>rw[Z]at G;exact HA G u
 ·exact HA G u
 ·cases G
theorem arp {ty:TypeId} {x y:AV} {d:Dl} {K:Dl->Prop} (G:pV P h ty x y.cells=some d) (u:K d):CU P h ty x y K:=by
 unfold pV at G
 split at G
 ·rename_i _ m off
  unfold CU
  simp only
  cases Z:ae h m with
  | none=>rw[Z]at G;cases G
  | some cs =>
   rw[Z]at G
   simp only[wG]at G
   split at G
   ·rename_i H;cases G;exact⟨H.1,H.2.1,H.2.2.1,H.2.2.2,u⟩
   ·cases G
 ·cases G
theorem agF {ty:TypeId} {x i v:AV} {K:AV->Prop} (G:jy P h ty x i=some v) (u:K v):sR P h ty x i K:=by
 unfold jy at G
 split at G
 ·rename_i m off k j
  unfold sR
  simp only
  cases ha:er P ty with
  | none=>rw[ha]at G;cases G
  | some p =>
   obtain⟨len,z⟩:=p
   rw[ha]at G
   simp only[FQ]at G
   split at G
   ·rename_i H;cases G;exact⟨H.1,H.2.1,H.2.2,u⟩
   ·cases G
 ·unfold sR
  simp only
  cases ha:er P ty with
  | none=>rw[ha]at G;cases G
  | some p =>
   obtain⟨len,z⟩:=p
   rw[ha]at G
   simp only[MS]at G
   split at G
   ·rename_i H;cases G;exact⟨H.1,H.2,u⟩
   ·cases G
 ·unfold sR
  simp only
  cases ha:bE P ty with
  | none=>rw[ha]at G;cases G
  | some p =>
   obtain⟨len,z⟩:=p
   rw[ha]at G
   simp only[FR]at G
   split at G
   ·rename_i H;cases G;exact⟨H.1,H.2.1,H.2.2.1,H.2.2.2,u⟩
   ·cases G
 ·unfold sR
  simp only
  cases ha:bE P ty with
  | none=>rw[ha]at G;cases G
  | some p =>
   obtain⟨len,z⟩:=p
   rw[ha]at G
   simp only[vn]at G
   split at G
   ·rename_i H
    refine⟨H.1,H.2,?_⟩
    rename_i D _ _ j
    cases Z:D[j.toNat]? with
    | none=>rw[Z]at G;cases G
    | some kw=>rw[Z]at G;cases G;exact u
   ·cases G
 ·cases G
theorem aeW {ty:TypeId} {x v:AV} {f:Nat} {K:AV->Prop} (G:AK P h ty f x=some v) (u:K v):AJ P h ty x f K:=by
 unfold AK at G
 unfold AJ
 cases hr:jb P ty with
 | none=>rw[hr]at G;cases G
 | some l =>
  rw[hr]at G
  simp only at G ⊢
  cases M:l[f]? with
  | none=>rw[M]at G;cases G
  | some p =>
   obtain⟨o,z⟩:=p
   rw[M]at G
   simp only[Lm]at G ⊢
   split at G
   ·split at G
    ·rename_i H;cases G;exact⟨H,u⟩
    ·cases G
   ·cases G;exact u
   ·cases G
theorem aeY {ty:TypeId} {x v:AV} {f:Nat} {K:AV->Prop} (G:AN P ty f x=some v) (u:K v):AM P ty x f K:=by
 unfold AN at G
 split at G
 ·split at G
  ·rename_i l bs hr hb
   unfold AM
   rw[hr,hb]
   simp only
   cases M:l[f]? with
   | none=>rw[M]at G;simp[E6]at G
   | some p =>
    obtain⟨o,z⟩:=p
    cases xL:bs[f]? with
    | none=>rw[M,xL]at G;simp[E6]at G
    | some b=>rw[M,xL]at G;exact HA G u
  ·cases G
 ·cases G
theorem agL {ty:TypeId} {x i v:AV} {K:AV->Prop} (G:yb P ty x i=some v) (u:K v):ya P ty x i K:=by
 unfold yb at G
 split at G
 ·unfold ya
  simp only
  cases ha:er P ty with
  | none=>rw[ha]at G;cases G
  | some p =>
   obtain⟨len,z⟩:=p
   rw[ha]at G
   simp only at G ⊢
   split at G
   ·rename_i H;exact⟨H.1,H.2,HA G u⟩
   ·cases G
 ·unfold ya
  simp only
  split at G
  ·rename_i s k j H
   refine⟨H.1,H.2,?_⟩
   cases hb:s[j.toNat]? with
   | none=>rw[hb]at G;cases G
   | some b=>rw[hb]at G;simp at G;subst G;exact u
  ·cases G
 ·cases G
theorem jo {d:Nat} {x:Option AV} {l:Nat} {K:Nat->Prop} (G:lU d x=some l) (u:K l):hh d x K:=by
 unfold lU at G
 split at G
 ·cases G;exact u
 ·split at G
  ·rename_i H;cases G;exact⟨H,u⟩
  ·cases G
 ·cases G
theorem aq8 {ty:TypeId} {x v:AV} {lo hi mx:Option AV} {K:AV->Prop} (G:pT P h ty x lo hi mx=some v) (u:K v):oM P h ty x lo hi mx K:=by
 unfold pT at G
 split at G
 ·unfold rE at G
  split at G
  ·rename_i l W M eX
   split at G
   ·split at G
    ·rename_i hs
     split at G
     ·rename_i H
      cases G
      unfold oM
      simp only[hs]
      exact⟨H.1,jo M (jo eX ⟨H.2.1,H.2.2,u⟩)⟩
     ·cases G
    ·cases G
   ·split at G
    ·rename_i hs
     split at G
     ·rename_i H
      cases G
      unfold oM
      simp only[hs]
      exact⟨H.1,H.2.1,jo M (jo eX ⟨H.2.2.1,H.2.2.2,u⟩)⟩
     ·cases G
    ·cases G
   ·split at G
    ·rename_i ha
     split at G
     ·rename_i H
      cases G
      unfold oM
      simp only[ha]
      refine⟨H.1,trivial,jo M (jo (d:=_) (l:=W) ?_ ⟨H.2.1,H.2.2,u⟩)⟩
      simpa only[kM,ha]using eX
     ·cases G
    ·cases G
   ·split at G
    ·rename_i H
     cases G
     unfold oM
     simp only
     exact⟨H.1,trivial,jo M (jo eX ⟨H.2.1,H.2.2,u⟩)⟩
    ·cases G
   ·split at G
    ·rename_i hs
     split at G
     ·rename_i H
      cases G
      unfold oM
      simp only[hs]
      exact⟨trivial,jo M (jo eX ⟨H.1,H.2,u⟩)⟩
     ·cases G
    ·cases G
   ·cases G
  ·cases G
 ·rename_i m
  cases hi with
  | none=>simp only[If]at G;split at G<;>simp_all
  | some hi =>
   simp only at G
   unfold If at G
   split at G
   ·rename_i l W s8 M eX u9
    split at G
    ·split at G
     ·rename_i hs
      split at G
      ·rename_i H
       cases G
       unfold oM
       simp only[hs]
       exact⟨H.1,jo M (jo eX (jo u9 ⟨H.2.1,H.2.2.1,H.2.2.2,u⟩))⟩
      ·cases G
     ·cases G
    ·split at G
     ·rename_i hs
      split at G
      ·rename_i H
       cases G
       unfold oM
       simp only[hs]
       exact⟨H.1,H.2.1,jo M (jo eX (jo u9 ⟨H.2.2.1,H.2.2.2.1,H.2.2.2.2,u⟩))⟩
      ·cases G
     ·cases G
    ·cases G
   ·cases G
theorem adg {ty:TypeId} {len:Nat} {ps:List (Nat×AV)} {r:AV} {d:Dl} {K:AV->Dl->Prop} (G:nR P n mu ty len ps=some (r,d)) (u:K r d):z7 P n mu ty len ps K:=by
 unfold nR at G
 unfold z7
 split at G
 ·rename_i hs
  split at G
  ·rename_i H
   rw[hs]
   refine⟨H.1,H.2.1,H.2.2.1,H.2.2.2,?_⟩
   cases mu<;>(simp only at G ⊢;cases G;exact u)
  ·cases G
 ·cases G
theorem qe {z b:Nat} {fs:List (List AV)} {s r:AV} {d:Dl} {K:AV->Dl->Prop} (G:nM n mu z b fs (jl z s)=some (r,d)) (u:K r d):match(generalizing:=false) jl z s with
  | some D=>(D.length+fs.length)*b<=140737488355328/\D.length+fs.length<=9223372036854775807 /\
   (match(generalizing:=false) mu with
   | false=>K (.ro z (D++fs) false) []
   | true=>fs≠[]/\K (.sl (n,0) z 0 (D.length+fs.length) true) [((n,0),some (D.flatten++fs.flatten))])
  | none=>False:=by
 cases hb:jl z s with
 | none=>rw[hb]at G;simp[nM]at G
 | some D =>
  rw[hb]at G
  simp only[nM]at G
  split at G
  ·rename_i sA
   refine⟨sA.1,sA.2.1,?_⟩
   cases mu with
   | false=>simp only at G ⊢;cases G;exact u
   | true=>simp only at G ⊢;cases G;exact⟨sA.2.2 rfl,u⟩
  ·cases G
theorem acJ {ty xt:TypeId} {s x r:AV} {d:Dl} {K:AV->Dl->Prop} (G:nN P n h mu ty xt s x=some (r,d)) (u:K r d):zX P n h mu ty xt s x K:=by
 unfold nN at G
 unfold zX
 split at G
 ·rename_i e z hs
  split at G
  ·rename_i H
   rw[hs]
   refine⟨H.1,H.2,?_⟩
   cases hf:et h z x with
   | none=>rw[hf]at G;simp[jk]at G
   | some fs =>
    rw[hf]at G
    cases s with
    | sl m z' off len own =>
     simp only[jk]at G
     split at G
     ·rename_i j6
      simp only
      refine⟨j6.1,j6.2,?_⟩
      cases Z:ae h m with
      | none=>rw[Z]at G;cases G
      | some cs =>
       rw[Z]at G
       simp only[uo]at G ⊢
       split at G
       ·rename_i sA;cases G;exact⟨sA.1,sA.2.1,sA.2.2.1,sA.2.2.2,u⟩
       ·cases G
     ·cases G
    | top=>exact qe (s := .top) (n:=n) (mu:=mu) (fs:=fs) (b:=de P e) (z:=z) G u
    | sc bm=>exact qe (s := .sc bm) (n:=n) (mu:=mu) (fs:=fs) (b:=de P e) (z:=z) G u
    | agg bm=>exact qe (s := .agg bm) (n:=n) (mu:=mu) (fs:=fs) (b:=de P e) (z:=z) G u
    | tup bm=>exact qe (s := .tup bm) (n:=n) (mu:=mu) (fs:=fs) (b:=de P e) (z:=z) G u
    | ptr bm bl=>exact qe (s := .ptr bm bl) (n:=n) (mu:=mu) (fs:=fs) (b:=de P e) (z:=z) G u
    | ip bm bl=>exact qe (s := .ip bm bl) (n:=n) (mu:=mu) (fs:=fs) (b:=de P e) (z:=z) G u
    | ro bm bl gK=>exact qe (s := .ro bm bl gK) (n:=n) (mu:=mu) (fs:=fs) (b:=de P e) (z:=z) G u
    | fn bm bl gK=>exact qe (s := .fn bm bl gK) (n:=n) (mu:=mu) (fs:=fs) (b:=de P e) (z:=z) G u
    | ifc bm bl=>exact qe (s := .ifc bm bl) (n:=n) (mu:=mu) (fs:=fs) (b:=de P e) (z:=z) G u
  ·cases G
 ·cases G
theorem aof {c a b v:AV} {K:AV->Prop} (G:yS c a b=some v) (u:K v):Cs c a b K:=by
 unfold yS at G
 split at G<;>first | (cases G;simp only[Cs];exact⟨fun _=>u,fun e=>(nomatch e)⟩) | (cases G;simp only[Cs];exact⟨fun e=>(nomatch e),fun _=>u⟩) | cases G
theorem aiY {x v:AV} {K:AV->Prop} (G:vK h x=some v) (u:K v):Oo h x K:=by
 unfold vK at G
 split at G
 ·split at G
  ·rename_i H;cases G;exact⟨H,u⟩
  ·cases G
 ·cases G;exact u
 ·cases G;exact u
 ·cases G
theorem adj {b:Builtin} {gG:List TypeId} {args:List AV} {r:AV} {d:Dl} {K:AV->Dl->Prop} (G:mM P n mu h b gG args = .ok r d) (u:K r d):o5 P n mu b h gG args K:=by
 unfold mM at G
 split at G
 ·obtain⟨A,rfl⟩:=i_ G
  unfold o5
  simp only
  rename_i ty _ x _
  cases M:iZ P h ty x with
  | none=>rw[M]at A;cases A
  | some m=>rw[M]at A;cases A;exact u
 ·obtain⟨A,rfl⟩:=i_ G
  unfold o5 jG;simp only[A];exact u
 ·obtain⟨A,rfl⟩:=i_ G
  unfold o5 jG;simp only[A];exact u
 ·unfold o5
  exact acJ (Gc G) u
 ·unfold o5
  simp only[Gc G]
  exact u
 ·obtain⟨g1,rfl⟩:=i_ G
  unfold o5
  split<;>first
   | (simp only[uE,reduceCtorEq]at g1;done)
   | (unfold jG;simp only[g1];exact u)
theorem adk {b:Builtin} {gG:List TypeId} {args:List AV} {f:FuncId} {a:List AV} (G:mM P n mu h b gG args = .call f a):False:=by
 unfold mM at G
 split at G
 ·exact BX G
 ·exact BX G
 ·exact BX G
 ·exact Nw G
 ·exact Nw G
 ·exact BX G
theorem Zd {op:Op} {r:AV} {d:Dl} {K:AV->Dl->Prop} (G:cC P n mu t h op = .ok r d) (u:K r d):jL P n mu op t h K:=by
 unfold cC at G
 split at G
 ·cases G;exact u
 ·cases G;exact u
 ·obtain⟨A,rfl⟩:=i_ G;exact aof (K:=fun v=>K v []) A u
 ·rename_i e
  simp only[jL]
  cases hz:fy P e with
  | none=>rw[hz]at G;cases G
  | some cs=>rw[hz]at G;cases G;exact u
 ·simp only[Eh]at G
  split at G
  ·rename_i H;cases G;exact⟨H,u⟩
  ·cases G
 ·obtain⟨A,rfl⟩:=i_ G;exact VW (K:=fun v=>K v []) A u
 ·obtain⟨A,rfl⟩:=ahO G;exact arp (K:=fun d=>K (.sc undef) d) A u
 ·obtain⟨A,rfl⟩:=i_ G;exact aiY (K:=fun v=>K v []) A u
 ·obtain⟨A,rfl⟩:=i_ G;exact agF (K:=fun v=>K v []) A u
 ·obtain⟨A,rfl⟩:=i_ G;exact aeW (K:=fun v=>K v []) A u
 ·obtain⟨A,rfl⟩:=i_ G;exact aeY (K:=fun v=>K v []) A u
 ·obtain⟨A,rfl⟩:=i_ G;exact agL (K:=fun v=>K v []) A u
 ·obtain⟨A,rfl⟩:=i_ G
  rw[K4,K4,K4]at A
  exact aq8 (K:=fun v=>K v []) A u
 ·obtain⟨A,rfl⟩:=i_ G;simp only[jL,A,jG];exact u
 ·obtain⟨A,rfl⟩:=i_ G;simp only[jL,A,jG];exact u
 ·obtain⟨A,rfl⟩:=i_ G
  simp only[w9]at A
  split at A
  ·rename_i H;exact⟨H,by simp only[A,jG];exact u⟩
  ·cases A
 ·obtain⟨A,rfl⟩:=i_ G
  rename_i x i
  simp only[jL]
  unfold Lh at A
  split at A
  ·rename_i vs dF
   simp only[dF,A,jG];exact u
  ·cases A
 ·cases G
  simp only[E0]at u
  exact u
 ·obtain⟨A,rfl⟩:=i_ G
  rename_i ty ps
  rw[K6]at A
  simp only[jL]
  cases hz:fy P ty with
  | none=>rw[hz]at A;cases A
  | some cs =>
   rw[hz]at A
   simp only[Ej]at A
   split at A
   ·rename_i H
    simp only
    cases hf:ma (placeOf P ty) cs (ps.toList.map fun p=>(p.1,ev t p.2))with
    | none=>rw[hf]at A;cases A
    | some bn=>rw[hf]at A;cases A;exact⟨H,u⟩
   ·cases A
 ·rw[K6]at G
  exact adg (Gc G) u
 ·simp only[jL,Gc G];exact u
 ·rw[E0]at G
  exact adj G u
 ·unfold El at G
  split at G<;>cases G
 ·cases G
theorem Ze {op:Op} {f:FuncId} {args:List AV} {K:AV->Dl->Prop} (G:cC P n mu t h op = .call f args) (u:JS P n f args h K):jL P n mu op t h K:=by
 unfold cC at G
 split at G<;>first | cases G | (exact(BX G).elim) | (exact(Nw G).elim) | (exact(ahN G).elim) | (exact(adk G).elim) | skip
 ·rename_i e
  cases hz:fy P e with
  | none=>rw[hz]at G;cases G
  | some cs=>rw[hz]at G;cases G
 ·simp only[Eh]at G
  split at G<;>cases G
 ·rename_i x as gG
  unfold El at G
  split at G
  ·rename_i g xs ys dF
   cases G
   simp only[jL,dF]
   rw[E0]at u
   exact u
  ·cases G
end
end Go.Proofs.Aw
namespace Go.Proofs.Aw
open Go
def lu (P:Program) (n:Nat) (h:Hp):cO->(AV->Dl->Prop)->Prop
 | .ok r d,K=>K r d
 | .call f args,K=>JS P n f args h K
 | .no,_=>False
theorem aiU {P:Program} {n:Nat} {mu:Bool} {t:Tp} {h:Hp} {op:Op} {K:AV->Dl->Prop} (u:lu P n h (cC P n mu t h op) K):jL P n mu op t h K:=by
 cases G:cC P n mu t h op with
 | no=>rw[G]at u;exact u.elim
 | ok r d=>rw[G]at u;exact Zd G u
 | call f args=>rw[G]at u;exact Ze G u
def xG (v:AV) (want:Bool) (ab ad:Prop):Prop :=
 match v with
 | .sc (.bool true)=>match want with | true=>ab | false=>ad
 | .sc (.bool false)=>match want with | true=>ad | false=>ab
 | .sc (.tuple _)=>ad
 | _=>False
theorem afo {v:AV} {want:Bool} {ab ad A' Rx:Prop} (hA:ab->A') (hB:ad->Rx) (u:xG v want ab ad):xG v want A' Rx:=by
 cases v with
 | sc x=>cases x with
  | bool b=>cases b<;>cases want<;>first | exact hA u | exact hB u
  | tuple xs=>exact hB u
  | _=>exact u.elim
 | _=>exact u.elim
theorem afn {v:AV} {want:Bool} {ab ad A':Prop} (hA:ab->A') (u:xG v want ab ad):Fe v want A' ad:=by
 unfold xG at u
 unfold Fe
 split at u
 ·cases want<;>simp_all
 ·cases want<;>simp_all
 ·exact u
 ·exact u.elim
def iy (P:Program) (ms:List Nat) (ops:List Oper):List Oper->(St->Prop)->Tp->Hp->Nat->Prop
 | [],K,t,h,nx=>K ⟨t,h,nx⟩
 | o::l,K,t,h,nx =>
  match o.guard with
  | none=>lu P nx h (cC P nx (o.dst.any ms.contains) t h o.op) fun r d=>iy P ms ops l K (gF o.dst r t) (aD d h) (nx+1)
  | some (j,want)=>xG (yv ops t j) want
    (lu P nx h (cC P nx (o.dst.any ms.contains) t h o.op) fun r d=>iy P ms ops l K (gF o.dst r t) (aD d h) (nx+1))
    (iy P ms ops l K (gF o.dst (.sc undef) t) h nx)
theorem DM {P:Program} {ms:List Nat} {ops:List Oper} {K:St->Prop}:∀(l:List Oper) (t:Tp) (h:Hp) (nx:Nat),iy P ms ops l K t h nx->nF P ms ops l K ⟨t,h,nx⟩
 | [],_,_,_,u=>u
 | o::l,t,h,nx,u=>by
  unfold iy at u
  unfold nF
  have go:lu P nx h (cC P nx (o.dst.any ms.contains) t h o.op) (fun r d=>iy P ms ops l K (gF o.dst r t) (aD d h) (nx+1))->jL P nx (o.dst.any ms.contains) o.op t h fun r d=>nF P ms ops l K ⟨gF o.dst r t,aD d h,nx+1⟩:=fun W=>by
   refine aiU ?_
   cases G:cC P nx (o.dst.any ms.contains) t h o.op with
   | no=>rw[G]at W;exact W.elim
   | ok r d=>rw[G]at W;exact DM l _ _ _ W
   | call f args =>
    rw[G]at W
    obtain⟨r,d,A,E,h3⟩:=W
    exact⟨r,d,A,E,DM l _ _ _ h3⟩
  cases Z:o.guard with
  | none=>rw[Z]at u;exact go u
  | some pm =>
   obtain⟨j,want⟩:=pm
   rw[Z]at u
   simp only at u ⊢
   exact afn go (afo id (DM l _ _ _) u)
def WD (P:Program) (ms:List Nat) (ops l:List Oper) (K:St->Prop) (dst:Option Tmp) (t:Tp) (h:Hp) (nx:Nat) (Pa:cO):Prop:=lu P nx h Pa fun r d=>iy P ms ops l K (gF dst r t) (aD d h) (nx+1)
section
variable {P:Program} {ms:List Nat} {ops l:List Oper} {K:St->Prop} {t:Tp} {h:Hp} {nx:Nat} {dst:Option Tmp} {op:Op} {mu:Bool} {ty:TypeId} {pos:String} {D:Array Edge}
theorem jN:iy P ms ops (⟨dst,op,ty,pos,D,none⟩::l) K t h nx=WD P ms ops l K dst t h nx (cC P nx (dst.any ms.contains) t h op):=by unfold WD;exact rfl
end
theorem t_ {P:Program} {ac:Env} {Q:Exit->St->Prop} {t:Tp} {h:Hp} {nx:Nat} {id:Nat} {ops:List Oper} (ms:List Nat) (hf:fits ac.N ops=true) (u:iy P ms ops ops (Q .normal) t h nx):AW P ac (.region id ops.toArray false) Q ⟨t,h,nx⟩:=aba ms hf (DM ops t h nx u)
def uc (P:Program) (ms:List Nat) (ops:List Oper) (nx:Nat) (t0:Tp) (h0:Hp) (K:Tp->Hp->Prop):List Oper->List En->Nat->Prop
 | [],D,_=>K (b0 (fun _=>true) D t0) (aJ (fun _=>true) D h0)
 | o::l,D,cE=>∀mk,qX D o.after.toList=mk->(mk<2 ^ D.length/\(cE &&& mk)=cE) /\
  match o.guard with
  | none=>lu P (nx+D.length) (aJ mk.testBit D h0) (cC P (nx+D.length) (o.dst.any ms.contains) (b0 mk.testBit D t0) (aJ mk.testBit D h0) o.op) fun r d =>
    if eh (nx+D.length) d=true then uc P ms ops nx t0 h0 K l (⟨o.dst,r,d,mk⟩::D) cE
    else mk+1=2 ^ D.length/\uc P ms ops nx t0 h0 K l (⟨o.dst,r,d,mk⟩::D) (cE ||| 2 ^ D.length)
  | some (j,want)=>xG (yv ops (b0 mk.testBit D t0) j) want
    (lu P (nx+D.length) (aJ mk.testBit D h0) (cC P (nx+D.length) (o.dst.any ms.contains) (b0 mk.testBit D t0) (aJ mk.testBit D h0) o.op) fun r d =>
     if eh (nx+D.length) d=true then uc P ms ops nx t0 h0 K l (⟨o.dst,r,d,mk⟩::D) cE
     else mk+1=2 ^ D.length/\uc P ms ops nx t0 h0 K l (⟨o.dst,r,d,mk⟩::D) (cE ||| 2 ^ D.length))
    (uc P ms ops nx t0 h0 K l (⟨o.dst,.sc undef,[],mk⟩::D) cE)
def Hv (P:Program) (ms:List Nat) (ops:List Oper) (nx:Nat) (t0:Tp) (h0:Hp) (K:Tp->Hp->Prop) (l:List Oper) (dst:Option Tmp) (D:List En) (cE mk:Nat) (r:AV) (d:Dl) (fresh:Bool):Prop :=
 if fresh=true then uc P ms ops nx t0 h0 K l (⟨dst,r,d,mk⟩::D) cE else mk+1=2 ^ D.length/\uc P ms ops nx t0 h0 K l (⟨dst,r,d,mk⟩::D) (cE ||| 2 ^ D.length)
def Ol (P:Program) (ms:List Nat) (ops:List Oper) (nx:Nat) (t0:Tp) (h0:Hp) (K:Tp->Hp->Prop) (l:List Oper) (dst:Option Tmp) (D:List En) (cE mk k:Nat) (h:Hp) (Pa:cO):Prop :=
 lu P k h Pa fun r d=>Hv P ms ops nx t0 h0 K l dst D cE mk r d (eh k d)
section
variable {P:Program} {ms:List Nat} {ops l:List Oper} {nx:Nat} {t0:Tp} {h0:Hp} {K:Tp->Hp->Prop} {D:List En} {cE mk k:Nat} {dst:Option Tmp} {op:Op} {mu:Bool} {ty:TypeId} {pos:String} {ed:Array Edge} {o:Oper}
end
end Go.Proofs.Aw
namespace Go.Proofs.Aw
open Go
def hU (n:Nat) (aE:Nat->Nm) (m:Nm):Nm:=if m.1=n then aE m.2 else m
def d_ (n:Nat) (hs:Hp) (m:Nm):Bool:=m.1==n||(ae hs m).isSome
def RG (P:Program) (rs:List ResultVar) (n:Nat) (aE:Nat->Nm) (hs h':Hp) (r:AV) (e:Exit) (V:St):Prop :=
 (e = .ret\/e = .normal)/\(kK P V rs fun vs=>oneOf vs=aW (hU n aE) r)/\∀m cs,ae h' m=some cs->d_ n hs m=true->ae V.h (hU n aE m)=some (bu (hU n aE) cs)
theorem RA {P : Program} {f : FuncId} {fn : Func} {c : Code} {args : List AV} {r : AV} {n : Nat} {hs h0 : Hp} {d : Dl} (aE : Nat -> Nm) (hf : P.funcs[f]? = some fn) (hb : fn.body = some c) (hN : args.length <= fn.ntmps)
    (mh : ∀ m cs, ae hs m = some cs -> ae h0 m = some cs) (aQ : ∀ m cs, ae hs m = some cs -> m.1 < n /\ a4 (fun k => Nat.blt k.1 n) cs = true) (hA : a4 (fun k => Nat.blt k.1 n) args = true)
    (xP : ∀ m, m ∈ d.map (·.1) -> m.1 = n \/ (ae hs m).isSome = true) (xQ : ∀ m, (ae hs m).isSome = true -> m ∈ d.map (·.1))
    (hR : b8 (d_ n hs) r = true) (hC : ∀ m cs, ae (aD d h0) m = some cs -> d_ n hs m = true -> a4 (d_ n hs) cs = true)
    (Vn : ∀ k, (ae (aD d h0) (n, k)).isSome = true -> n < (aE k).1) (agA : ∀ j k, (ae (aD d h0) (n, j)).isSome = true -> (ae (aD d h0) (n, k)).isSome = true -> aE j = aE k -> j = k)
    (h : ∀ ac : Env, ac.N = fn.ntmps -> AW P ac c (RG P fn.results.toList n aE hs (aD d h0) r) ⟨gD 0 args, hs, n + 1⟩) : CY P n f args h0 r d := by
  intro C vs W hL hn
  refine calls_of_wp hf hb ?_
  let C0 : Ctx := { ρ := C.ρ, bs := C.bs, live := fun m => (ae hs m).isSome = true, kn := fun m => m.1 < n + 1, mt := C.mt, w := C.w }
  let ac : Env := { N := fn.ntmps, w0 := C.w, wr := fun b => ∃ m, (ae hs m).isSome = true /\ b = C.ρ m, N5 := C.mt, c0 := C0 }
  have hlen : vs.length = args.length := hL.length.symm
  have d7 : ∀ m, (ae hs m).isSome = true -> C.live m := fun m hm => by
    obtain ⟨cs, aH⟩ := Option.isSome_iff_exists.1 hm
    exact W.get (mh m cs aH)
  have FK : ∀ m, (ae hs m).isSome = true -> m.1 < n := fun m hm => by
    obtain ⟨cs, aH⟩ := Option.isSome_iff_exists.1 hm
    exact (aQ m cs aH).1
  have sub0 : C.sub C0 id (fun k => Nat.blt k.1 n) := ⟨rfl, fun _ _ h => h, fun m hm _ => by simp only [Nat.blt_eq] at hm; exact Nat.lt_succ_of_lt hm, fun m _ _ hm => ⟨d7 m hm, rfl, rfl⟩⟩
  have LL : aC C0 args vs := aC.aW sub0 args vs hA (by rw [pP]; exact hL)
  have hH0 : cY C0 hs := by
    refine ⟨fun m => Iff.rfl, fun m cs Z => ?_, fun m m' hm a0 G => W.inj m m' (d7 m hm) (d7 m' a0) G, fun m hm => W.mt m (d7 m hm), fun m hm => Nat.lt_succ_of_lt (FK m hm)⟩
    obtain ⟨arr, ty, ha, H⟩ := W.obj m cs (mh m cs Z)
    refine ⟨arr, ty, ha, fun j c O => ?_⟩
    obtain ⟨u', a3, j8⟩ := H j c O
    exact ⟨u', a3, aj.aW sub0 c u' (pD (aQ m cs Z).2 O) (by rw [y6]; exact j8)⟩
  have BB : Rel ac ⟨gD 0 args, hs, n + 1⟩ { tmps := vs.toArray ++ Array.replicate (fn.ntmps - vs.toArray.size) undef, defers := [] } C.w := by
    refine ⟨C0, rfl, hH0, ?_, ?_, rfl, fun m hm => hm, ⟨rfl, rfl, rfl, Nat.le_refl _, fun _ _ _ => rfl, fun _ _ => Iff.rfl, fun m hm _ => ⟨m, hm, rfl⟩, Ctx.le.refl _⟩⟩
    · refine Jo 0 args vs _ LL fun i v R => ?_
      have hi := (List.getElem?_eq_some_iff.1 R).1
      rw [Nat.zero_add, Array.getElem?_append_left (by simpa using hi)]
      simpa using R
    · simp [ac]; omega
  refine Code.wp_mono ?_ (h ac rfl _ _ BB)
  rintro e bz w' ⟨aK, ⟨Cb, rfl, db⟩, G, Mr, ob⟩
  obtain ⟨us, Y, bD, a9, fG⟩ := YG db.heap db.t Mr
  have pi : ∀ m, C.live m -> m.1 ≠ n := fun m hm e => hn m.2 (by have := W.kn m hm; rwa [show m = (n, m.2) from by rw [<- e]] at this)
  have hold : ∀ m, m.1 ≠ n -> (ae hs m).isSome = false -> ae (aD d h0) m = ae h0 m := fun m A E => gv d h0 m fun hm => by
    rcases xP m hm with h3 | h3
    · exact A h3
    · rw [E] at h3; cases h3
  let C' : Ctx := { ρ := fun m => if m.1 = n then Cb.ρ (aE m.2) else C.ρ m, bs := fun m => if m.1 = n then Cb.bs (aE m.2) else C.bs m, live := fun m => (ae (aD d h0) m).isSome = true, kn := fun m => C.kn m \/ m.1 = n,
                    mt := fun b => (C.mt b /\ b < C.w.heap.size) \/ ∃ k, (ae (aD d h0) (n, k)).isSome = true /\ b = Cb.ρ (aE k), w := Cb.w }
  have vB : ∀ m, (ae (aD d h0) m).isSome = true -> d_ n hs m = true -> Cb.live (hU n aE m) := fun m hm hp => by
    obtain ⟨cs, aH⟩ := Option.isSome_iff_exists.1 hm
    exact db.heap.get (ob m cs aH hp)
  have jC : ∀ k, (ae (aD d h0) (n, k)).isSome = true -> Cb.live (aE k) := fun k u => by
    have := vB (n, k) u (by simp [d_])
    simpa [hU] using this
  have na : ∀ m, m.1 ≠ n -> (ae hs m).isSome = true -> (ae (aD d h0) m).isSome = true -> Cb.live m /\ Cb.ρ m = C.ρ m /\ Cb.bs m = C.bs m := fun m A E h3 => by
    have := vB m h3 (by simp [d_, E])
    rw [show hU n aE m = m from by simp [hU, A]] at this
    exact ⟨this, (db.frame.le.live m (Nat.lt_succ_of_lt (FK m E)) this).2⟩
  have hO : ∀ m, m.1 ≠ n -> (ae (aD d h0) m).isSome = true -> C.live m := fun m A h3 => by
    cases E : (ae hs m).isSome with
    | true => exact d7 m E
    | false =>
      rw [hold m A E] at h3
      exact (W.live m).2 h3
  have fa : ∀ b, b < C.w.heap.size -> (∀ m, (ae hs m).isSome = true -> b ≠ C.ρ m) -> Cb.w.heap[b]? = C.w.heap[b]? := fun b hb ax => db.frame.same b hb (fun ⟨m, hm, e⟩ => ax m hm e)
  have le : C.le C' := by
    refine ⟨db.frame.size, fun b hb hm => db.frame.le.same b hb hm, fun b hb hm => ?_, fun _ h => .inl h, fun m u M => ?_, fun m u M cs ty H => ?_⟩
    · rcases hm with A | ⟨k, u, A⟩
      · exact A.1
      · exact (db.frame.mt b hb).1 (by rw [A]; exact db.heap.mt _ (jC k u))
    · have hm : m.1 ≠ n := fun e => hn m.2 (by rwa [show m = (n, m.2) from by rw [<- e]] at u)
      exact ⟨hO m hm M, by simp [C', hm], by simp [C', hm]⟩
    · have hm : m.1 ≠ n := fun e => hn m.2 (by rwa [show m = (n, m.2) from by rw [<- e]] at u)
      have oa := hO m hm M
      have hb : C.ρ m < C.w.heap.size := W.lt oa
      cases E : (ae hs m).isSome with
      | true => exact db.frame.le.own m (Nat.lt_succ_of_lt (FK m E)) (na m hm E M).1 cs ty H
      | false =>
        refine ⟨cs, ty, (fa _ hb fun m' a0 e => ?_).trans H, rfl⟩
        have := W.inj m m' oa (d7 m' a0) e
        subst this
        rw [E] at a0; cases a0
  have sub : Cb.sub C' (hU n aE) (d_ n hs) := by
    refine ⟨rfl, fun b hb hm => ?_, fun m hp _ => ?_, fun m hp u M => ?_⟩
    · rcases hm with A | ⟨k, u, A⟩
      · exact (db.frame.mt b A.2).2 A.1
      · rw [A]; exact db.heap.mt _ (jC k u)
    · simp only [d_, Bool.or_eq_true, beq_iff_eq] at hp
      rcases hp with A | A
      · exact .inr A
      · exact .inl (W.kn m (d7 m A))
    · refine ⟨vB m M hp, ?_⟩
      by_cases A : m.1 = n
      · simp [C', hU, A]
      · simp only [d_, Bool.or_eq_true, beq_iff_eq] at hp
        have E := hp.resolve_left A
        simp only [C', hU, A, if_false]
        exact ⟨(na m A E M).2.1.symm, (na m A E M).2.2.symm⟩
  have n5 : aj C' r Y := aj.aW sub _ Y hR (by rw [<- fG]; exact a9)
  have By : cZ C n h0 r d Y C' := by
    refine ⟨le, fun _ => Iff.rfl, ⟨fun m => Iff.rfl, fun m cs Z => ?_, fun m m' hm a0 G => ?_, fun m hm => ?_, fun m hm => ?_⟩, n5, fun b hb ax => ?_, fun b hb => ?_, db.frame.os, db.frame.tape, db.frame.output, fun m hm => ?_, fun m hm => ?_⟩
    · cases hp : d_ n hs m with
      | true =>
        obtain ⟨arr, ty, ha, H⟩ := db.heap.obj _ _ (ob m cs Z hp)
        have il : C'.ρ m = Cb.ρ (hU n aE m) := by
          by_cases A : m.1 = n
          · simp [C', hU, A]
          · simp only [d_, Bool.or_eq_true, beq_iff_eq] at hp
            simp only [C', hU, A, if_false]
            exact (na m A (hp.resolve_left A) (by rw [Z]; rfl)).2.1.symm
        have n4 : C'.bs m = Cb.bs (hU n aE m) := by
          by_cases A : m.1 = n
          · simp [C', hU, A]
          · simp only [d_, Bool.or_eq_true, beq_iff_eq] at hp
            simp only [C', hU, A, if_false]
            exact (na m A (hp.resolve_left A) (by rw [Z]; rfl)).2.2.symm
        refine ⟨arr, ty, by rw [il]; exact ha, fun j c O => ?_⟩
        obtain ⟨u', a3, j8⟩ := H j _ (y5 _ cs j c O)
        exact ⟨u', by rw [n4]; exact a3, aj.aW sub c u' (pD (hC m cs Z hp) O) j8⟩
      | false =>
        simp only [d_, Bool.or_eq_false_iff, beq_eq_false_iff_ne, ne_eq] at hp
        have gR := Z
        rw [hold m hp.1 hp.2] at gR
        have M := W.get gR
        obtain ⟨arr, ty, ha, H⟩ := W.obj m cs gR
        refine ⟨arr, ty, ?_, fun j c O => ?_⟩
        · simp only [C', hp.1, if_false]
          refine (fa _ (W.lt M) fun m' a0 e => ?_).trans ha
          have := W.inj m m' M (d7 m' a0) e
          subst this
          rw [hp.2] at a0; cases a0
        · obtain ⟨u', a3, j8⟩ := H j c O
          exact ⟨u', by simp only [C', hp.1, if_false]; exact a3, j8.mono le⟩
    · have oldρ : ∀ m, m.1 ≠ n -> (ae (aD d h0) m).isSome = true -> ∀ k, (ae (aD d h0) (n, k)).isSome = true -> Cb.ρ (aE k) = C.ρ m -> False := fun m A h3 k u e => by
        cases E : (ae hs m).isSome with
        | true =>
          obtain ⟨l1, e1, _⟩ := na m A E h3
          have := db.heap.inj _ _ (jC k u) l1 (by rw [e, e1])
          have h4 := Vn k u
          have h5 := FK m E
          rw [this] at h4
          omega
        | false =>
          have oa := hO m A h3
          have hb := W.lt oa
          obtain ⟨m', a0, e'⟩ := db.frame.wr _ (jC k u) (by rw [e]; exact hb)
          have := W.inj m m' oa (d7 m' a0) (by rw [<- e, e'])
          subst this
          rw [E] at a0; cases a0
      by_cases A : m.1 = n <;> by_cases E : m'.1 = n
      · have dA : (ae (aD d h0) (n, m.2)).isSome = true := by rw [show (n, m.2) = m from by rw [<- A]]; exact hm
        have fo : (ae (aD d h0) (n, m'.2)).isSome = true := by rw [show (n, m'.2) = m' from by rw [<- E]]; exact a0
        simp only [C', A, E, if_true] at G
        have e1 := db.heap.inj _ _ (jC _ dA) (jC _ fo) G
        exact Prod.ext (A.trans E.symm) (agA _ _ dA fo e1)
      · have dA : (ae (aD d h0) (n, m.2)).isSome = true := by rw [show (n, m.2) = m from by rw [<- A]]; exact hm
        simp only [C', A, E, if_true, if_false] at G
        exact (oldρ m' E a0 _ dA G).elim
      · have fo : (ae (aD d h0) (n, m'.2)).isSome = true := by rw [show (n, m'.2) = m' from by rw [<- E]]; exact a0
        simp only [C', A, E, if_true, if_false] at G
        exact (oldρ m A hm _ fo G.symm).elim
      · simp only [C', A, E, if_false] at G
        exact W.inj m m' (hO m A hm) (hO m' E a0) G
    · by_cases A : m.1 = n
      · have dA : (ae (aD d h0) (n, m.2)).isSome = true := by rw [show (n, m.2) = m from by rw [<- A]]; exact hm
        simp only [C', A, if_true]
        exact .inr ⟨m.2, dA, rfl⟩
      · simp only [C', A, if_false]
        exact .inl ⟨W.mt m (hO m A hm), W.lt (hO m A hm)⟩
    · by_cases A : m.1 = n
      · exact .inr A
      · exact .inl (W.kn m (hO m A hm))
    · exact fa b hb fun m hm => ax m (xQ m hm) (d7 m hm)
    · constructor
      · rintro (A | ⟨k, u, A⟩)
        · exact A.1
        · exact (db.frame.mt b hb).1 (by rw [A]; exact db.heap.mt _ (jC k u))
      · intro A; exact .inl ⟨A, hb⟩
    · by_cases A : m.1 = n
      · have dA : (ae (aD d h0) (n, m.2)).isSome = true := by rw [show (n, m.2) = m from by rw [<- A]]; exact hm
        simp only [C', A, if_true]
        rcases Nat.lt_or_ge (Cb.ρ (aE m.2)) C.w.heap.size with E | E
        · obtain ⟨m', a0, e'⟩ := db.frame.wr _ (jC _ dA) E
          exact .inr (.inr ⟨m', xQ m' a0, d7 m' a0, e'⟩)
        · exact .inr (.inl E)
      · exact .inl ⟨hO m A hm, by simp only [C', A, if_false]⟩
    · rcases xP m hm with A | A
      · exact .inr A
      · exact .inl (d7 m A)
  rcases G with rfl | rfl
  · exact ⟨db.defers, Y, bD, Y, C', rfl, rfl, By⟩
  · exact ⟨db.defers, Y, bD, Y, C', rfl, rfl, By⟩
end Go.Proofs.Aw
namespace Go.Proofs.Aw
open Go
variable {P:Program} {ac:Env} {Q:Exit->St->Prop} {V aK:St}
theorem Ru {c:Code} (h:(∀m,ac.c0.kn m->m.1<V.nx)->AW P ac c Q V):AW P ac c Q V:=fun a w hr=>by
 obtain⟨C,rfl,hC⟩:=hr
 exact h (fun m hm=>hC.kn m (hC.frame.le.kn m hm)) a C.w ⟨C,rfl,hC⟩
def Ctx.named (C:Ctx) (f:Nm->Nm) (h:Hp) (nx:Nat):Ctx where
 ρ:=fun m=>C.ρ (f m)
 bs:=fun m=>C.bs (f m)
 live:=fun m=>(ae h m).isSome=true
 kn:=fun m=>m.1<nx
 mt:=C.mt
 w:=C.w
theorem Jj (f : Nm -> Nm) {k0 : Nat} (hb : ∀ m, ac.c0.kn m -> m.1 < k0) (hf : ∀ m : Nm, m.1 < k0 -> f m = m) (ex : k0 <= aK.nx)
    (ht : ∀ i, bP aK.t i = .top \/ (b8 (fun m => Nat.blt m.1 aK.nx) (bP aK.t i) = true /\ bP V.t i = aW f (bP aK.t i)))
    (W : ∀ m cs, ae aK.h m = some cs -> a4 (fun m => Nat.blt m.1 aK.nx) cs = true /\ m.1 < aK.nx /\ ae V.h (f m) = some (bu f cs))
    (qB : ∀ m m', (ae aK.h m).isSome = true -> (ae aK.h m').isSome = true -> f m = f m' -> m = m') : dI ac V aK := fun a w hr => by
  obtain ⟨C, rfl, hC⟩ := hr
  have gx : ∀ m, (ae aK.h m).isSome = true -> C.live (f m) := fun m hm => by
    obtain ⟨cs, aH⟩ := Option.isSome_iff_exists.1 hm
    exact hC.heap.get (W m cs aH).2.2
  have mh : C.sub (C.named f aK.h aK.nx) f (fun m => Nat.blt m.1 aK.nx) :=
    { w := rfl, mt := fun b _ h => h, kn := fun m hp _ => (by simpa using hp : m.1 < aK.nx), live := fun m _ _ M => ⟨gx m M, rfl, rfl⟩ }
  refine ⟨C.named f aK.h aK.nx, rfl, ?_⟩
  have mY : ∀ m cs, ae aK.h m = some cs -> Jm (C.named f aK.h aK.nx) (C.ρ (f m)) (C.bs (f m)) cs := fun m cs aH => by
    obtain ⟨A, _, h3⟩ := W m cs aH
    obtain ⟨arr, ty, h4, h5⟩ := hC.heap.obj _ _ h3
    refine ⟨arr, ty, h4, fun j c O => ?_⟩
    obtain ⟨Y, hu, H⟩ := h5 j _ (y5 f cs j c O)
    exact ⟨Y, hu, aj.aW mh c Y (pD A O) H⟩
  exact {
    heap := { live := fun n => Iff.rfl, obj := mY, inj := fun n m hn hm G => qB n m hn hm (hC.heap.inj _ _ (gx n hn) (gx m hm) G), mt := fun n hn => hC.heap.mt _ (gx n hn),
              kn := fun n hn => by
                obtain ⟨cs, aH⟩ := Option.isSome_iff_exists.1 hn
                exact (W n cs aH).2.1 }
    t := fun i => by
      rcases ht i with h | ⟨A, E⟩
      · rw [h]; simp only [aj]
      · have := hC.t i
        rw [E] at this
        exact aj.aW mh _ _ A this
    size := hC.size
    defers := hC.defers
    kn := fun m hm => hm
    frame := { os := hC.frame.os, tape := hC.frame.tape, output := hC.frame.output, size := hC.frame.size, same := hC.frame.same, mt := hC.frame.mt,
               wr := fun n hn => hC.frame.wr _ (gx n hn),
               le := { size := hC.frame.le.size, same := hC.frame.le.same, mt := hC.frame.le.mt, kn := fun i hi => Nat.lt_of_lt_of_le (hb i hi) ex,
                       live := fun n hn M => by
                         have u2 := hf n (hb n hn)
                         have := gx n M
                         rw [u2] at this
                         obtain ⟨A, E⟩ := hC.frame.le.live n hn this
                         exact ⟨A, by show C.ρ (f n) = _; rw [u2]; exact E.1, by show C.bs (f n) = _; rw [u2]; exact E.2⟩
                       own := fun n hn M => by
                         have u2 := hf n (hb n hn)
                         have := gx n M
                         rw [u2] at this
                         exact hC.frame.le.own n hn this } } }
end Go.Proofs.Aw
namespace Go.Proofs.Aw
open Go
mutual
def Hk:AV->Bool
 | .top=>true
 | .sc _=>true
 | .agg cs=>v7 cs
 | .tup cs=>v7 cs
 | .ro _ [] _=>true
 | _=>false
def v7:List AV->Bool
 | []=>true
 | v::vs=>Hk v&&v7 vs
end
mutual
theorem aj.plain {C C':Ctx}:∀(v:AV) (Y:Value),Hk v=true->aj C v Y->aj C' v Y
 | .top,_,_,_=>by simp only[aj]
 | .sc _,_,_,h=>h
 | .agg cs,_,hp,⟨us,e,h⟩=>⟨us,e,aC.plain cs _ hp h⟩
 | .tup cs,_,hp,⟨us,e,h⟩=>⟨us,e,aC.plain cs _ hp h⟩
 | .ptr _ _,_,hp,_=>by cases hp
 | .sl _ _ _ _ _,_,hp,_=>by cases hp
 | .ip _ _,_,hp,_=>by cases hp
 | .ro _ [] _,_,_,⟨ab,cap,A,E,h3,_⟩=>⟨ab,cap,A,E,h3,fun h=>absurd rfl h⟩
 | .ro _ (_::_) _,_,hp,_=>by cases hp
 | .fn _ _ _,_,hp,_=>by cases hp
 | .ifc _ _,_,hp,_=>by cases hp
theorem aC.plain {C C':Ctx}:∀(vs:List AV) (us:List Value),v7 vs=true->aC C vs us->aC C' vs us
 | [],_,_,h=>h
 | v::vs,_,hp,⟨Y,us,e,A,E⟩=>by
  simp only[v7,Bool.and_eq_true]at hp
  exact⟨Y,us,e,aj.plain v Y hp.1 A,aC.plain vs us hp.2 E⟩
end
def rS (h:Hp) (v v':AV):Prop :=
 (v' = .top\/v'=v/\b8 (fun _=>false) v=true)\/∃m z off len own fs,v = .sl m z off len own/\0<z/\et h z v=some fs/\cp (fun _=>false) fs=true/\v' = .ro z fs false
def lM (h:Hp):List AV->List AV->Prop
 | [],cj=>cj=[]
 | v::vs,l=>∃v' cj,l=v'::cj/\rS h v v'/\lM h vs cj
theorem lM.get {h:Hp}:∀{vs cj:List AV},lM h vs cj->∀(j:Nat) (c:AV),cj[j]? = some c->∃d,vs[j]? = some d/\rS h d c
 | [],_,hf,j,c,H=>by simp only[lM]at hf;subst hf;simp at H
 | v::vs,_,⟨v',cj,rfl,A,E⟩,0,c,H=>by simp at H;subst H;exact⟨v,rfl,A⟩
 | v::vs,_,⟨v',cj,rfl,A,E⟩,j+1,c,H=>by simpa using lM.get E j c (by simpa using H)
def DR (h:Hp) (v v':AV):Prop:=rS h v v'\/(∃m off cs fs,v = .ptr m off/\ae h m=some cs/\lM h cs fs/\v' = .ip fs off)\/∃cs fs,v = .agg cs/\lM h cs fs/\v' = .agg fs
def wI (h:Hp):List AV->List AV->Prop
 | [],cj=>cj=[]
 | v::vs,l=>∃v' cj,l=v'::cj/\DR h v v'/\wI h vs cj
def Ji (h:Hp) (v v':AV):Prop:=DR h v v'\/∃f xs ys v6 wl,v = .fn f xs ys/\wI h xs v6/\wI h ys wl/\v' = .fn f v6 wl
def wH (h:Hp):List AV->List AV->Prop
 | [],cj=>cj=[]
 | v::vs,l=>∃v' cj,l=v'::cj/\Ji h v v'/\wH h vs cj
def Ctx.bare (C:Ctx):Ctx:={ ρ:=C.ρ,bs:=C.bs,live:=fun _=>False,kn:=fun _=>False,mt:=fun _=>False,w:=C.w }
theorem Ctx.R7 (C:Ctx):C.sub C.bare id (fun _=>false):=⟨rfl,fun _ _ h=>h.elim,fun _ hm=>(nomatch hm),fun _ hm=>(nomatch hm)⟩
theorem WJ {p:Nm->Bool}:∀{D:List (List AV)} {i:Nat} {e:List AV},cp p D=true->D[i]? = some e->a4 p e=true
 | [],i,e,_,h=>by simp at h
 | d::D,0,e,hp,h=>by simp only[cp,Bool.and_eq_true]at hp;simp at h;rw[<-h];exact hp.1
 | d::D,i+1,e,hp,h=>by simp only[cp,Bool.and_eq_true]at hp;exact WJ hp.2 (by simpa using h)
theorem Ki {C:Ctx} {h:Hp} (W:cY C h) {v v':AV} {Y:Value} (hf:rS h v v') (H:aj C v Y):aj C.bare v' Y:=by
 rcases hf with(rfl | ⟨rfl,hn⟩) | ⟨m,z,off,len,own,fs,rfl,h0,G,hn,rfl⟩
 ·simp only[aj]
 ·exact aj.aW C.R7 _ Y hn (by rw[y6];exact H)
 ·simp only[et]at G
  obtain⟨cs,Z,G⟩:=Option.bind_eq_some_iff.1 G
  split at G
  ·rename_i hz
   cases G
   obtain⟨_,_,M⟩:=H
   have gx:=W.get Z
   obtain⟨cap,o,rfl,aZ,qF,_⟩:=M gx
   obtain⟨arr,ty,hb,ii⟩:=W.obj _ _ Z
   refine hk.2 ⟨some ⟨C.ρ m,o,none⟩,cap,by rw[qj],by rw[qj];exact aZ,(fun hx=>nomatch hx),fun ax=>⟨_,rfl,?_,(fun hx=>hx),?_⟩⟩
   ·have:=(Array.getElem?_eq_some_iff.1 hb).1
    exact this
   ·have hlen:0<len:=by
     rcases Nat.eq_zero_or_pos len with A | A
     ·subst A;exact absurd rfl ax
     ·exact A
    obtain rfl:o=C.bs m+off:=by
     rcases qF with A | A
     ·exact A
     ·omega
    refine dc.mk fun j e O => ?_
    have hG:=Ah z len _ j e O
    have co:j*z+z<=len*z:=by rw[<-Nat.succ_mul];exact Nat.mul_le_mul_right z hG.1
    have sC:e.length=z:=by
     rw[hG.2];simp only[List.length_take,List.length_drop];omega
    refine⟨sC,cS.mk fun k c u => ?_⟩
    have aO:k<z:=by
     have:=(List.getElem?_eq_some_iff.1 u).1
     omega
    have mY:cs[off+(j*z+k)]? = some c:=by
     rw[hG.2,List.getElem?_take,if_pos aO,List.getElem?_drop,List.getElem?_drop]at u
     exact u
    obtain⟨Y,hu,j7⟩:=yM (C:=C) (b:=C.ρ m) (k:=C.bs m) (cs:=cs) ⟨arr,ty,hb,ii⟩ _ _ mY
    refine⟨Y,?_,aj.aW C.R7 c Y (pD (WJ hn O) u) (by rw[y6];exact j7)⟩
    simp only[jT]at hu ⊢
    have e1:C.bs m+off+(0+j)*z+(0+k)=C.bs m+(off+(j*z+k)):=by simp only[Nat.zero_add];omega
    rw[e1]
    exact hu
  ·cases G
theorem SC {C:Ctx} {h:Hp} (W:cY C h):∀{vs cj:List AV} {us:List Value},lM h vs cj->aC C vs us->aC C.bare cj us
 | [],_,us,hf,H=>by simp only[lM]at hf;subst hf;exact H
 | v::vs,_,us,⟨v',cj,rfl,A,E⟩,H=>by
  obtain⟨Y,g8,rfl,eW,j6⟩:=H
  exact⟨Y,g8,rfl,Ki W A eW,SC W E j6⟩
theorem SG {C:Ctx} {h:Hp} (W:cY C h) {v v':AV} {Y:Value} (hf:DR h v v') (H:aj C v Y):aj C.bare v' Y:=by
 rcases hf with hf | ⟨m,off,cs,fs,rfl,Z,M,rfl⟩ | ⟨cs,fs,rfl,M,rfl⟩
 ·exact Ki W hf H
 ·simp only[aj]at H ⊢
  have gx:=W.get Z
  refine⟨⟨C.ρ m,C.bs m,none⟩,?_,W.lt gx,(fun hx=>hx),cS.mk fun j c O => ?_⟩
  ·rw[H.2.2 gx,jT]
  ·obtain⟨d,hd,hf⟩:=M.get j c O
   obtain⟨Y,hu,a9⟩:=yM (W.obj m cs Z) j d hd
   rw[Nat.zero_add]
   exact⟨Y,hu,Ki W hf a9⟩
 ·obtain⟨us,e,H⟩:=H
  exact⟨us,e,SC W M H⟩
theorem Kf {C:Ctx} {h:Hp} (W:cY C h):∀{vs cj:List AV} {us:List Value},wI h vs cj->aC C vs us->aC C.bare cj us
 | [],_,us,hf,H=>by simp only[wI]at hf;subst hf;exact H
 | v::vs,_,us,⟨v',cj,rfl,A,E⟩,H=>by
  obtain⟨Y,g8,rfl,eW,j6⟩:=H
  exact⟨Y,g8,rfl,SG W A eW,Kf W E j6⟩
theorem adG {C:Ctx} {h:Hp} (W:cY C h) {v v':AV} {Y:Value} (hf:Ji h v v') (H:aj C v Y):aj C.bare v' Y:=by
 rcases hf with hf | ⟨f,xs,ys,v6,wl,rfl,A,E,rfl⟩
 ·exact SG W hf H
 ·simp only[aj]at H ⊢
  obtain⟨us,vs,e,c1,c2⟩:=H
  exact⟨us,vs,e,Kf W A c1,Kf W E c2⟩
theorem Ke {C:Ctx} {h:Hp} (W:cY C h):∀{vs cj:List AV} {us:List Value},wH h vs cj->aC C vs us->aC C.bare cj us
 | [],_,us,hf,H=>by simp only[wH]at hf;subst hf;exact H
 | v::vs,_,us,⟨v',cj,rfl,A,E⟩,H=>by
  obtain⟨Y,g8,rfl,eW,j6⟩:=H
  exact⟨Y,g8,rfl,adG W A eW,Ke W E j6⟩
theorem Jd {P:Program} {n:Nat} {f:FuncId} {args args':List AV} {h:Hp} {r:AV} (hf:wH h args args') (hr:Hk r=true) (H:CY P n f args' [] r []):CY P n f args h r []:=by
 intro C vs W hL hn
 have LY:cY C.bare []:=⟨fun m=>by simp[Ctx.bare,ae],fun m cs Z=>by simp[ae]at Z,fun m m' hm=>hm.elim,fun m hm=>hm.elim,fun m hm=>hm.elim⟩
 refine(H C.bare vs LY (Ke W hf hL) (fun k u=>u)).mono ?_
 rintro e w' ⟨Y,C0,rfl,rfl,hp⟩
 have fa:∀b,b<C.w.heap.size->C0.w.heap[b]? = C.w.heap[b]? := fun b hb=>hp.same b hb (fun m hm=>by simp at hm)
 let C':Ctx:={ ρ:=C.ρ,bs:=C.bs,live:=C.live,kn:=fun m=>C.kn m\/m.1=n,mt:=fun b=>C.mt b/\b<C.w.heap.size,w:=C0.w }
 have le:C.le C':=by
  refine⟨hp.le.size,fun b hb _=>fa b hb,fun b hb hm=>hm.1,fun _ h => .inl h,fun m _ M=>⟨M,rfl,rfl⟩,fun m _ M cs ty aH => ?_⟩
  have aQ:C.ρ m<C.w.heap.size:=by
   rcases Nat.lt_or_ge (C.ρ m) C.w.heap.size with E | E
   ·exact E
   ·rw[Array.getElem?_eq_none E]at aH;cases aH
  exact⟨cs,ty,(fa _ aQ).trans aH,rfl⟩
 refine⟨Y,C',rfl,rfl,le,fun _=>Iff.rfl,?_,aj.plain r Y hr hp.val,fun b hb _=>fa b hb,fun b hb=>⟨fun h=>h.1,fun h=>⟨h,hb⟩⟩,hp.os,hp.tape,hp.output,fun m M => .inl ⟨M,rfl⟩,fun m hm=>by simp at hm⟩
 exact W.mono le (fun _=>Iff.rfl) (fun m hm=>fa _ (W.lt hm)) (fun b hb aQ=>⟨hb,aQ⟩)
end Go.Proofs.Aw
namespace Go.Proofs.Aw
open Go
mutual
def vY (n:Nat):AV->Bool
 | .top=>true
 | .sc _=>true
 | .agg cs=>jH n cs
 | .tup cs=>jH n cs
 | .ptr m _=>Nat.beq m.1 n
 | .sl m _ _ _ _=>Nat.beq m.1 n
 | .ro _ [] _=>true
 | _=>false
def jH (n:Nat):List AV->Bool
 | []=>true
 | v::vs=>vY n v&&jH n vs
end
theorem Xp {n:Nat}:∀{cs:List AV} {j:Nat} {c:AV},jH n cs=true->cs[j]? = some c->vY n c=true
 | [],j,c,_,h=>by simp at h
 | d::cs,0,c,hp,h=>by simp only[jH,Bool.and_eq_true]at hp;simp at h;rw[<-h];exact hp.1
 | d::cs,j+1,c,hp,h=>by simp only[jH,Bool.and_eq_true]at hp;exact Xp hp.2 (by simpa using h)
mutual
theorem aj.own {C C':Ctx} {n:Nat} (hw:C'.w=C.w) (u:∀m:Nm,m.1=n->C'.kn m) (M:∀m:Nm,m.1=n->C'.live m->C.live m/\C'.ρ m=C.ρ m/\C'.bs m=C.bs m):∀(v:AV) (Y:Value),vY n v=true->aj C v Y->aj C' v Y
 | .top,_,_,_=>by simp only[aj]
 | .sc _,_,_,h=>h
 | .agg cs,_,hp,⟨us,e,h⟩=>⟨us,e,aC.own hw u M cs _ hp h⟩
 | .tup cs,_,hp,⟨us,e,h⟩=>⟨us,e,aC.own hw u M cs _ hp h⟩
 | .ptr m off,Y,hp,h=>by
  have hm:m.1=n:=Nat.eq_of_beq_eq_true hp
  simp only[aj]at h ⊢
  refine⟨h.1,u m hm,fun dH => ?_⟩
  obtain⟨l1,l2,qU⟩:=M m hm dH
  rw[l2,qU];exact h.2.2 l1
 | .sl m z off len own,Y,hp,h=>by
  have hm:m.1=n:=Nat.eq_of_beq_eq_true hp
  simp only[aj]at h ⊢
  refine⟨h.1,u m hm,fun dH => ?_⟩
  obtain⟨l1,l2,qU⟩:=M m hm dH
  rw[l2,qU,hw];exact h.2.2 l1
 | .ip _ _,_,hp,_=>by cases hp
 | .ro _ [] _,_,_,⟨ab,cap,A,E,h3,_⟩=>⟨ab,cap,A,E,h3,fun h=>absurd rfl h⟩
 | .ro _ (_::_) _,_,hp,_=>by cases hp
 | .fn _ _ _,_,hp,_=>by cases hp
 | .ifc _ _,_,hp,_=>by cases hp
theorem aC.own {C C':Ctx} {n:Nat} (hw:C'.w=C.w) (u:∀m:Nm,m.1=n->C'.kn m) (M:∀m:Nm,m.1=n->C'.live m->C.live m/\C'.ρ m=C.ρ m/\C'.bs m=C.bs m):∀(vs:List AV) (us:List Value),jH n vs=true->aC C vs us->aC C' vs us
 | [],_,_,h=>h
 | v::vs,_,hp,⟨Y,us,e,A,E⟩=>by
  simp only[jH,Bool.and_eq_true]at hp
  exact⟨Y,us,e,aj.own hw u M v Y hp.1 A,aC.own hw u M vs us hp.2 E⟩
end
def OY (n:Nat) (d:Dl):Prop:=∀q∈d,q.1.1=n/\∃cs,q.2=some cs/\jH n cs=true
theorem Xt {n:Nat} {m:Nm} {cs:List AV}:∀{d:Dl} {h:Hp},OY n d->(∀bn,ae h m=some bn->jH n bn=true)->ae (aD d h) m=some cs->jH n cs=true
 | [],h,_,W,Z=>W cs Z
 | (k,o)::d,h,hd,W,Z=>by
  obtain⟨_,c,E,h3⟩:=hd (k,o) List.mem_cons_self
  simp only at E
  subst E
  simp only[aD]at Z
  refine Xt (fun q hq=>hd q (List.mem_cons_of_mem _ hq)) (fun bn h' => ?_) Z
  rw[dG]at h'
  split at h'
  ·cases h';exact h3
  ·exact W bn h'
theorem Ry {P:Program} {n:Nat} {f:FuncId} {args args':List AV} {h:Hp} {r:AV} {d:Dl} (hf:wH h args args') (hr:vY n r=true) (hd:OY n d) (H:CY P n f args' [] r d):CY P n f args h r d:=by
 intro C vs W hL hn
 have LY:cY C.bare []:=⟨fun m=>by simp[Ctx.bare,ae],fun m cs Z=>by simp[ae]at Z,fun m m' hm=>hm.elim,fun m hm=>hm.elim,fun m hm=>hm.elim⟩
 refine(H C.bare vs LY (Ke W hf hL) (fun k u=>u)).mono ?_
 rintro e w' ⟨Y,C0,rfl,rfl,hp⟩
 have fa:∀b,b<C.w.heap.size->C0.w.heap[b]? = C.w.heap[b]? := fun b hb=>hp.same b hb (fun m _ M=>M.elim)
 have ax:∀m,C.kn m->m.1≠n:=fun m hm e=>hn m.2 (by rw[<-e];exact hm)
 have k0:∀m,C0.kn m->m.1=n:=fun m hm=>((hp.kn m).1 hm).elim (fun h=>h.elim) id
 have l0:∀m,C0.live m->m.1=n:=fun m hm=>k0 m (hp.heap.kn m hm)
 have s0:∀m,C0.live m->C.w.heap.size<=C0.ρ m:=fun m hm=>by
  rcases hp.lA m hm with⟨A,_⟩ | A | ⟨_,_,A,_⟩
  ·exact A.elim
  ·exact A
  ·exact A.elim
 have nd:∀m,m.1≠n->m∉d.map (·.1):=fun m hm hq=>by
  obtain⟨q,q1,rfl⟩:=List.mem_map.1 hq
  exact hm (hd q q1).1
 have hold:∀m,m.1≠n->ae (aD d h) m=ae h m:=fun m hm=>gv d h m (nd m hm)
 have sN:∀m,m.1=n->ae h m=none:=fun m hm=>by
  cases Z:ae h m with
  | none=>rfl
  | some cs=>exact absurd hm (ax m (W.kn m ((W.live m).2 (by rw[Z];rfl))))
 have m5:∀m,m.1=n->ae (aD d h) m=ae (aD d []) m:=fun m hm=>by
  rcases mZ m d h with⟨_,A⟩ | ⟨A,E⟩
  ·exact A []
  ·rw[E,gv d [] m A,sN m hm];rfl
 let C':Ctx:={ ρ:=fun m=>if m.1=n then C0.ρ m else C.ρ m,bs:=fun m=>if m.1=n then C0.bs m else C.bs m,live:=fun m=>C.live m\/C0.live m,kn:=fun m=>C.kn m\/m.1=n,mt:=fun b=>(C.mt b/\b<C.w.heap.size)\/(C.w.heap.size<=b/\C0.mt b),w:=C0.w }
 have lt:∀m,C.live m->C.ρ m<C.w.heap.size:=fun m hm=>W.lt hm
 have eold:∀m,m.1≠n->C'.ρ m=C.ρ m/\C'.bs m=C.bs m:=fun m hm=>⟨if_neg hm,if_neg hm⟩
 have enew:∀m,m.1=n->C'.ρ m=C0.ρ m/\C'.bs m=C0.bs m:=fun m hm=>⟨if_pos hm,if_pos hm⟩
 have le:C.le C':=by
  refine⟨hp.le.size,fun b hb _=>fa b hb,fun b hb hm => ?_,fun _ h => .inl h,fun m hm M => ?_,fun m hm M cs ty aH => ?_⟩
  ·rcases hm with hm | hm
   ·exact hm.1
   ·omega
  ·rcases M with M | M
   ·exact⟨M,eold m (ax m hm)⟩
   ·exact absurd (l0 m M) (ax m hm)
  ·have aQ:C.ρ m<C.w.heap.size:=by
    rcases Nat.lt_or_ge (C.ρ m) C.w.heap.size with E | E
    ·exact E
    ·rw[Array.getElem?_eq_none E]at aH;cases aH
   exact⟨cs,ty,(fa _ aQ).trans aH,rfl⟩
 have bW:∀m:Nm,m.1=n->C'.live m->C0.live m/\C'.ρ m=C0.ρ m/\C'.bs m=C0.bs m:=fun m hm M=>by
  rcases M with M | M
  ·exact absurd hm (ax m (W.kn m M))
  ·exact⟨M,enew m hm⟩
 have conv:∀v Y,vY n v=true->aj C0 v Y->aj C' v Y:=aj.own rfl (fun m hm => .inr hm) bW
 refine⟨Y,C',rfl,rfl,le,fun _=>Iff.rfl,⟨fun m => ?_,fun m cs Z => ?_,fun m m' hm a0 G => ?_,fun m hm => ?_,fun m hm => ?_⟩,conv r Y hr hp.val,fun b hb _=>fa b hb,fun b hb=>⟨fun h => ?_,fun h => .inl ⟨h,hb⟩⟩,hp.os,hp.tape,hp.output,fun m M => ?_,fun m hm => ?_⟩
 ·by_cases c:m.1=n
  ·rw[m5 m c,<-hp.heap.live m]
   exact⟨fun h=>h.elim (fun h=>absurd c (ax m (W.kn m h))) id,.inr⟩
  ·rw[hold m c,<-W.live m]
   exact⟨fun h=>h.elim id (fun h=>absurd (l0 m h) c),.inl⟩
 ·by_cases c:m.1=n
  ·rw[m5 m c]at Z
   obtain⟨arr,ty,ha,aH⟩:=hp.heap.obj m cs Z
   have ho:=Xt hd (fun bn h'=>by simp[ae]at h') Z
   refine⟨arr,ty,by rw[(enew m c).1];exact ha,fun j x O => ?_⟩
   obtain⟨v,v1,v2⟩:=aH j x O
   exact⟨v,by rw[(enew m c).2];exact v1,conv x v (Xp ho O) v2⟩
  ·rw[hold m c]at Z
   have dH:=W.get Z
   obtain⟨arr,ty,ha,aH⟩:=W.obj m cs Z
   refine⟨arr,ty,by rw[(eold m c).1];show C0.w.heap[C.ρ m]? = _;rw[fa _ (lt m dH)];exact ha,fun j x O => ?_⟩
   obtain⟨v,v1,v2⟩:=aH j x O
   exact⟨v,by rw[(eold m c).2];exact v1,v2.mono le⟩
 ·rcases hm with hm | hm<;>rcases a0 with a0 | a0
  ·rw[(eold m (ax m (W.kn m hm))).1,(eold m' (ax m' (W.kn m' a0))).1]at G
   exact W.inj m m' hm a0 G
  ·rw[(eold m (ax m (W.kn m hm))).1,(enew m' (l0 m' a0)).1]at G
   have:=lt m hm;have:=s0 m' a0;omega
  ·rw[(enew m (l0 m hm)).1,(eold m' (ax m' (W.kn m' a0))).1]at G
   have:=lt m' a0;have:=s0 m hm;omega
  ·rw[(enew m (l0 m hm)).1,(enew m' (l0 m' a0)).1]at G
   exact hp.heap.inj m m' hm a0 G
 ·rcases hm with hm | hm
  ·rw[(eold m (ax m (W.kn m hm))).1]
   exact .inl ⟨W.mt m hm,lt m hm⟩
  ·rw[(enew m (l0 m hm)).1]
   exact .inr ⟨s0 m hm,hp.heap.mt m hm⟩
 ·rcases hm with hm | hm
  ·exact .inl (W.kn m hm)
  ·exact .inr (l0 m hm)
 ·rcases h with h | h
  ·exact h.1
  ·omega
 ·rcases M with M | M
  ·exact .inl ⟨M,(eold m (ax m (W.kn m M))).1⟩
  ·refine .inr (.inl ?_)
   rw[(enew m (l0 m M)).1]
   exact s0 m M
 ·obtain⟨q,q1,rfl⟩:=List.mem_map.1 hm
  exact .inr (hd q q1).1
end Go.Proofs.Aw
namespace Go.Proofs.Aw
open Go
theorem SH {C bM:Ctx} {h g:Hp} (W:cY C h) (aZ:C.le bM) (hw:bM.w=C.w) (Z:∀m cs,ae g m=some cs->ae h m=some cs/\¬bM.mt (C.ρ m)) {v v':AV} {Y:Value} (hf:rS g v v') (H:aj C v Y):aj bM v' Y:=by
 rcases hf with(rfl | ⟨rfl,_⟩) | ⟨m,z,off,len,own,fs,rfl,h0,G,hn,rfl⟩
 ·simp only[aj]
 ·exact H.mono aZ
 ·simp only[et]at G
  obtain⟨cs,Bm,G⟩:=Option.bind_eq_some_iff.1 G
  split at G
  ·rename_i hz
   cases G
   obtain⟨UX,Bv⟩:=Z m cs Bm
   obtain⟨_,_,M⟩:=H
   have gx:=W.get UX
   obtain⟨cap,o,rfl,f2,qF,_⟩:=M gx
   obtain⟨arr,ty,hb,ii⟩:=W.obj _ _ UX
   refine hk.2 ⟨some ⟨C.ρ m,o,none⟩,cap,by rw[qj],by rw[qj];exact f2,(fun hx=>nomatch hx),fun ax=>⟨_,rfl,?_,Bv,?_⟩⟩
   ·rw[hw];exact(Array.getElem?_eq_some_iff.1 hb).1
   ·have hlen:0<len:=by
     rcases Nat.eq_zero_or_pos len with A | A
     ·subst A;exact absurd rfl ax
     ·exact A
    obtain rfl:o=C.bs m+off:=by
     rcases qF with A | A
     ·exact A
     ·omega
    refine dc.mk fun j e O => ?_
    have hG:=Ah z len _ j e O
    have co:j*z+z<=len*z:=by rw[<-Nat.succ_mul];exact Nat.mul_le_mul_right z hG.1
    have sC:e.length=z:=by
     rw[hG.2];simp only[List.length_take,List.length_drop];omega
    refine⟨sC,cS.mk fun k c u => ?_⟩
    have aO:k<z:=by
     have:=(List.getElem?_eq_some_iff.1 u).1
     omega
    have mY:cs[off+(j*z+k)]? = some c:=by
     rw[hG.2,List.getElem?_take,if_pos aO,List.getElem?_drop,List.getElem?_drop]at u
     exact u
    obtain⟨Y,hu,j7⟩:=yM (C:=C) (b:=C.ρ m) (k:=C.bs m) (cs:=cs) ⟨arr,ty,hb,ii⟩ _ _ mY
    refine⟨Y,?_,j7.mono aZ⟩
    simp only[jT]at hu ⊢
    have e1:C.bs m+off+(0+j)*z+(0+k)=C.bs m+(off+(j*z+k)):=by simp only[Nat.zero_add];omega
    rw[e1,hw]
    exact hu
  ·cases G
def DX (g:Hp) (v v':AV):Prop:=rS g v v'\/∃cs ds,v = .agg cs/\v' = .agg ds/\lM g cs ds
def zP (g:Hp):List AV->List AV->Prop
 | [],cj=>cj=[]
 | v::vs,l=>∃v' cj,l=v'::cj/\DX g v v'/\zP g vs cj
def Ro (g:Hp) (v v':AV):Prop:=DX g v v'\/∃vs ws,v = .tup vs/\v' = .tup ws/\zP g vs ws
section
variable {C bM:Ctx} {h g:Hp} (W:cY C h) (aZ:C.le bM) (hw:bM.w=C.w) (Z:∀m cs,ae g m=some cs->ae h m=some cs/\¬bM.mt (C.ρ m))
include W aZ hw Z
theorem SD:∀{vs cj:List AV} {us:List Value},lM g vs cj->aC C vs us->aC bM cj us
 | [],_,us,hf,H=>by simp only[lM]at hf;subst hf;exact H
 | v::vs,_,us,⟨v',cj,rfl,A,E⟩,H=>by
  obtain⟨Y,g8,rfl,eW,j6⟩:=H
  exact⟨Y,g8,rfl,SH W aZ hw Z A eW,SD E j6⟩
theorem SI {v v':AV} {Y:Value} (hf:DX g v v') (H:aj C v Y):aj bM v' Y:=by
 rcases hf with hf | ⟨cs,ds,rfl,rfl,hf⟩
 ·exact SH W aZ hw Z hf H
 ·obtain⟨us,e,H⟩:=H
  exact⟨us,e,SD W aZ hw Z hf H⟩
theorem SE:∀{vs cj:List AV} {us:List Value},zP g vs cj->aC C vs us->aC bM cj us
 | [],_,us,hf,H=>by simp only[zP]at hf;subst hf;exact H
 | v::vs,_,us,⟨v',cj,rfl,A,E⟩,H=>by
  obtain⟨Y,g8,rfl,eW,j6⟩:=H
  exact⟨Y,g8,rfl,SI W aZ hw Z A eW,SE E j6⟩
theorem SJ {v v':AV} {Y:Value} (hf:Ro g v v') (H:aj C v Y):aj bM v' Y:=by
 rcases hf with hf | ⟨vs,ws,rfl,rfl,hf⟩
 ·exact SI W aZ hw Z hf H
 ·obtain⟨us,e,H⟩:=H
  exact⟨us,e,SE W aZ hw Z hf H⟩
end
theorem abg {P:Program} {n:Nat} {f:FuncId} {args:List AV} {h:Hp} {r r':AV} {d:Dl} (hd:∀q∈d,q.1.1=n) (hr:Ro (aD d []) r r') (H:CY P n f args h r d):CY P n f args h r' []:=by
 intro C vs W hL hn
 refine(H C vs W hL hn).mono ?_
 rintro e w' ⟨Y,C1,rfl,rfl,hp⟩
 have ax:∀m,C.kn m->m.1≠n:=fun m hm e=>hn m.2 (by rw[<-e];exact hm)
 have nd:∀m,m∈d.map (·.1)->m.1=n:=fun m hm=>by
  obtain⟨q,q1,rfl⟩:=List.mem_map.1 hm
  exact hd q q1
 have hold:∀m,m.1≠n->ae (aD d h) m=ae h m:=fun m hm=>gv d h m fun hq=>hm (nd m hq)
 have sN:∀m,m.1=n->ae h m=none:=fun m hm=>by
  cases Z:ae h m with
  | none=>rfl
  | some cs=>exact absurd hm (ax m (W.kn m ((W.live m).2 (by rw[Z];rfl))))
 have m5:∀m,m.1=n->ae (aD d h) m=ae (aD d []) m:=fun m hm=>by
  rcases mZ m d h with⟨_,A⟩ | ⟨A,E⟩
  ·exact A []
  ·rw[E,gv d [] m A,sN m hm];rfl
 have s1:∀m,m.1=n->C1.live m->C.w.heap.size<=C1.ρ m:=fun m hm M=>by
  rcases hp.lA m M with⟨A,_⟩ | A | ⟨m0,h0,A,_⟩
  ·exact absurd hm (ax m (W.kn m A))
  ·exact A
  ·exact absurd (nd m0 h0) (ax m0 (W.kn m0 A))
 let bM:Ctx:={ ρ:=C1.ρ,bs:=C1.bs,live:=fun m=>C1.live m/\m.1≠n,kn:=C1.kn,mt:=fun b=>C1.mt b/\b<C.w.heap.size,w:=C1.w }
 have aZ:C1.le bM:=⟨Nat.le_refl _,fun _ _ _=>rfl,fun _ _ h=>h.1,fun _ h=>h,fun m _ M=>⟨M.1,rfl,rfl⟩,fun _ _ _ cs ty h=>⟨cs,ty,h,rfl⟩⟩
 have te:∀m,C1.live m->m.1≠n->C.live m/\C1.ρ m=C.ρ m:=fun m M hm=>by
  have:C.live m:=(W.live m).2 (by rw[<-hold m hm];exact(hp.heap.live m).1 M)
  exact⟨this,(hp.le.live m (W.kn m this) M).2.1⟩
 have Bm:∀m cs,ae (aD d []) m=some cs->ae (aD d h) m=some cs/\¬bM.mt (C1.ρ m):=fun m cs Z=>by
  have hm:m.1=n:=by
   rcases mZ m d []with⟨A,_⟩ | ⟨_,E⟩
   ·exact nd m A
   ·rw[E]at Z;cases Z
  have gR:=(m5 m hm).trans Z
  refine⟨gR,fun hx => ?_⟩
  have:=s1 m hm (hp.heap.get gR)
  have:=hx.2
  omega
 refine⟨Y,bM,rfl,rfl,hp.le.trans aZ,hp.kn,⟨fun m => ?_,fun m cs Z => ?_,fun m m' hm a0 G=>hp.heap.inj m m' hm.1 a0.1 G,fun m hm => ?_,fun m hm=>hp.heap.kn m hm.1⟩,SJ hp.heap aZ rfl Bm hr hp.val,fun b hb _=>hp.same b hb fun m hm M=>absurd (nd m hm) (ax m (W.kn m M)),fun b hb=>⟨fun h=>(hp.mt b hb).1 h.1,fun h=>⟨(hp.mt b hb).2 h,hb⟩⟩,hp.os,hp.tape,hp.output,fun m M => .inl (te m M.1 M.2),fun m hm=>by simp at hm⟩
 ·show(C1.live m/\m.1≠n)↔(ae h m).isSome=true
  by_cases c:m.1=n
  ·rw[sN m c]
   exact⟨fun h=>absurd c h.2,fun h=>by cases h⟩
  ·rw[<-hold m c,<-hp.heap.live m]
   exact⟨fun h=>h.1,fun h=>⟨h,c⟩⟩
 ·have c:m.1≠n:=fun c=>by
   have Z:ae h m=some cs:=Z
   rw[sN m c]at Z;cases Z
  have gR:ae (aD d h) m=some cs:=(hold m c).trans Z
  obtain⟨arr,ty,ha,aH⟩:=hp.heap.obj m cs gR
  exact⟨arr,ty,ha,fun j x O=>by obtain⟨v,v1,v2⟩:=aH j x O;exact⟨v,v1,v2.mono aZ⟩⟩
 ·obtain⟨l1,l2⟩:=te m hm.1 hm.2
  refine⟨hp.heap.mt m hm.1,?_⟩
  show C1.ρ m<_
  rw[l2];exact W.lt l1
end Go.Proofs.Aw
namespace Go.Proofs.Aw
open Go
theorem Rz {P : Program} {f : FuncId} {n n0 : Nat} {args0 args : List AV} {m6 hs h0 : Hp} {r0 r : AV} {d0 d : Dl} (aE cw : Nm -> Nm) (qz : CY P n0 f args0 m6 r0 d0)
    (Fd : a4 (fun k => Nat.blt k.1 n0) args0 = true) (LW : args = bu aE args0)
    (Mo : ∀ m cs, ae m6 m = some cs -> m.1 < n0 /\ a4 (fun k => Nat.blt k.1 n0) cs = true /\ ae hs (aE m) = some (bu aE cs))
    (Bz : ∀ m, (ae hs m).isSome = true -> (ae m6 (cw m)).isSome = true /\ aE (cw m) = m)
    (qB : ∀ m m', (ae m6 m).isSome = true -> (ae m6 m').isSome = true -> aE m = aE m' -> m = m')
    (mh : ∀ m cs, ae hs m = some cs -> ae h0 m = some cs)
    (xP : ∀ m, m ∈ d.map (·.1) -> m.1 = n \/ (ae hs m).isSome = true) (xQ : ∀ m, (ae hs m).isSome = true -> m ∈ d.map (·.1))
    (hR : b8 (d_ n hs) r = true) (hr : r0 = aW cw r)
    (hC : ∀ m cs, ae (aD d h0) m = some cs -> d_ n hs m = true -> a4 (d_ n hs) cs = true /\ ae (aD d0 m6) (cw m) = some (bu cw cs))
    (FI : ∀ k, (ae (aD d h0) (n, k)).isSome = true -> n0 <= (cw (n, k)).1)
    (hni : ∀ j k, (ae (aD d h0) (n, j)).isSome = true -> (ae (aD d h0) (n, k)).isSome = true -> cw (n, j) = cw (n, k) -> j = k) : CY P n f args h0 r d := by
  intro C vs W hL hn
  let C1 : Ctx := { ρ := fun m => C.ρ (aE m), bs := fun m => C.bs (aE m), live := fun m => (ae m6 m).isSome = true, kn := fun m => m.1 < n0, mt := C.mt, w := C.w }
  have d7 : ∀ m, (ae hs m).isSome = true -> C.live m := fun m hm => by
    obtain ⟨cs, aH⟩ := Option.isSome_iff_exists.1 hm
    exact W.get (mh m cs aH)
  have co : ∀ m, (ae m6 m).isSome = true -> (ae hs (aE m)).isSome = true := fun m hm => by
    obtain ⟨cs, aH⟩ := Option.isSome_iff_exists.1 hm
    rw [(Mo m cs aH).2.2]; rfl
  have Bs : ∀ m, (ae m6 m).isSome = true -> m.1 < n0 := fun m hm => by
    obtain ⟨cs, aH⟩ := Option.isSome_iff_exists.1 hm
    exact (Mo m cs aH).1
  have sub0 : C.sub C1 aE (fun k => Nat.blt k.1 n0) := ⟨rfl, fun _ _ h => h, fun m hm _ => by simpa using hm, fun m _ _ hm => ⟨d7 _ (co m hm), rfl, rfl⟩⟩
  have pb : aC C1 args0 vs := aC.aW sub0 args0 vs Fd (by rw [<- LW]; exact hL)
  have hH1 : cY C1 m6 := by
    refine ⟨fun m => Iff.rfl, fun m cs Z => ?_, fun m m' hm a0 G => qB m m' hm a0 (W.inj _ _ (d7 _ (co m hm)) (d7 _ (co m' a0)) G), fun m hm => W.mt _ (d7 _ (co m hm)), fun m hm => Bs m hm⟩
    obtain ⟨_, g2, g3⟩ := Mo m cs Z
    obtain ⟨arr, ty, ha, H⟩ := W.obj _ _ (mh _ _ g3)
    refine ⟨arr, ty, ha, fun j c O => ?_⟩
    obtain ⟨u', a3, j8⟩ := H j _ (y5 aE cs j c O)
    exact ⟨u', a3, aj.aW sub0 c u' (pD g2 O) j8⟩
  refine (qz C1 vs hH1 pb fun k h => absurd (show n0 < n0 from h) (Nat.lt_irrefl _)).mono ?_
  rintro e w' ⟨Y, Cb, G, hw, hp⟩
  have hold : ∀ m, m.1 ≠ n -> (ae hs m).isSome = false -> ae (aD d h0) m = ae h0 m := fun m A E => gv d h0 m fun hm => by
    rcases xP m hm with h3 | h3
    · exact A h3
    · rw [E] at h3; cases h3
  let C' : Ctx := { ρ := fun m => if m.1 = n then Cb.ρ (cw m) else C.ρ m, bs := fun m => if m.1 = n then Cb.bs (cw m) else C.bs m, live := fun m => (ae (aD d h0) m).isSome = true, kn := fun m => C.kn m \/ m.1 = n,
                    mt := fun b => (C.mt b /\ b < C.w.heap.size) \/ ∃ k, (ae (aD d h0) (n, k)).isSome = true /\ b = Cb.ρ (cw (n, k)), w := Cb.w }
  have vB : ∀ m, (ae (aD d h0) m).isSome = true -> d_ n hs m = true -> Cb.live (cw m) := fun m hm hq => by
    obtain ⟨cs, aH⟩ := Option.isSome_iff_exists.1 hm
    exact hp.heap.get (hC m cs aH hq).2
  have jC : ∀ k, (ae (aD d h0) (n, k)).isSome = true -> Cb.live (cw (n, k)) := fun k u => vB (n, k) u (by simp [d_])
  have i4 : ∀ m : Nm, m.1 = n -> (n, m.2) = m := fun m A => by rw [<- A]
  have na : ∀ m, m.1 ≠ n -> (ae hs m).isSome = true -> (ae (aD d h0) m).isSome = true -> Cb.live (cw m) /\ Cb.ρ (cw m) = C.ρ m /\ Cb.bs (cw m) = C.bs m := fun m _ E h3 => by
    have l := vB m h3 (by simp [d_, E])
    obtain ⟨g1, g2⟩ := Bz m E
    obtain ⟨_, e1, e2⟩ := hp.le.live (cw m) (Bs _ g1) l
    exact ⟨l, by rw [e1]; show C.ρ (aE (cw m)) = _; rw [g2], by rw [e2]; show C.bs (aE (cw m)) = _; rw [g2]⟩
  have hO : ∀ m, m.1 ≠ n -> (ae (aD d h0) m).isSome = true -> C.live m := fun m A h3 => by
    cases E : (ae hs m).isSome with
    | true => exact d7 m E
    | false =>
      rw [hold m A E] at h3
      exact (W.live m).2 h3
  have ax : ∀ m, C.kn m -> m.1 ≠ n := fun m u e => hn m.2 (by rw [i4 m e]; exact u)
  have fa : ∀ b, b < C.w.heap.size -> (∀ m, (ae hs m).isSome = true -> b ≠ C.ρ m) -> Cb.w.heap[b]? = C.w.heap[b]? := fun b hb hq => hp.same b hb fun m _ M => hq _ (co m M)
  have WF : ∀ k, (ae (aD d h0) (n, k)).isSome = true -> C.w.heap.size <= Cb.ρ (cw (n, k)) \/ ∃ m', (ae hs m').isSome = true /\ Cb.ρ (cw (n, k)) = C.ρ m' := fun k u => by
    rcases hp.lA _ (jC k u) with ⟨A, _⟩ | A | ⟨m0, _, A, E⟩
    · have := Bs _ A
      have := FI k u
      omega
    · exact .inl A
    · exact .inr ⟨aE m0, co m0 A, E⟩
  have le : C.le C' := by
    refine ⟨hp.le.size, fun b hb hm => hp.le.same b hb hm, fun b hb hm => ?_, fun _ h => .inl h, fun m u M => ?_, fun m u M cs ty H => ?_⟩
    · rcases hm with A | ⟨k, u, A⟩
      · exact A.1
      · exact (hp.mt b hb).1 (by rw [A]; exact hp.heap.mt _ (jC k u))
    · have hm := ax m u
      exact ⟨hO m hm M, by simp [C', hm], by simp [C', hm]⟩
    · have hm := ax m u
      have oa := hO m hm M
      cases E : (ae hs m).isSome with
      | true =>
        obtain ⟨g1, g2⟩ := Bz m E
        have := hp.le.own (cw m) (Bs _ g1) (na m hm E M).1 cs ty (by show C.w.heap[C.ρ (aE (cw m))]? = _; rw [g2]; exact H)
        have e : C1.ρ (cw m) = C.ρ m := by show C.ρ (aE (cw m)) = _; rw [g2]
        rw [e] at this
        exact this
      | false =>
        refine ⟨cs, ty, (fa _ (W.lt oa) fun m' a0 e => ?_).trans H, rfl⟩
        have := W.inj m m' oa (d7 m' a0) e
        subst this
        rw [E] at a0; cases a0
  have sub : Cb.sub C' cw (d_ n hs) := by
    refine ⟨rfl, fun b hb hm => ?_, fun m hq _ => ?_, fun m hq u M => ?_⟩
    · rcases hm with A | ⟨k, u, A⟩
      · exact (hp.mt b A.2).2 A.1
      · rw [A]; exact hp.heap.mt _ (jC k u)
    · simp only [d_, Bool.or_eq_true, beq_iff_eq] at hq
      rcases hq with A | A
      · exact .inr A
      · exact .inl (W.kn m (d7 m A))
    · refine ⟨vB m M hq, ?_⟩
      by_cases A : m.1 = n
      · simp [C', A]
      · simp only [d_, Bool.or_eq_true, beq_iff_eq] at hq
        have E := hq.resolve_left A
        simp only [C', A, if_false]
        exact ⟨(na m A E M).2.1.symm, (na m A E M).2.2.symm⟩
  have n5 : aj C' r Y := aj.aW sub _ Y hR (by rw [<- hr]; exact hp.val)
  refine ⟨Y, C', G, hw, le, fun _ => Iff.rfl, ⟨fun m => Iff.rfl, fun m cs Z => ?_, fun m m' hm a0 G => ?_, fun m hm => ?_, fun m hm => ?_⟩, n5, fun b hb hq => fa b hb fun m hm => hq m (xQ m hm) (d7 m hm), fun b hb => ?_, hp.os, hp.tape, hp.output, fun m hm => ?_, fun m hm => ?_⟩
  · cases hq : d_ n hs m with
    | true =>
      obtain ⟨k1, k2⟩ := hC m cs Z hq
      obtain ⟨arr, ty, ha, H⟩ := hp.heap.obj _ _ k2
      have il : C'.ρ m = Cb.ρ (cw m) /\ C'.bs m = Cb.bs (cw m) := by
        by_cases A : m.1 = n
        · simp [C', A]
        · simp only [d_, Bool.or_eq_true, beq_iff_eq] at hq
          simp only [C', A, if_false]
          have := na m A (hq.resolve_left A) (by rw [Z]; rfl)
          exact ⟨this.2.1.symm, this.2.2.symm⟩
      refine ⟨arr, ty, by rw [il.1]; exact ha, fun j c O => ?_⟩
      obtain ⟨u', a3, j8⟩ := H j _ (y5 _ cs j c O)
      exact ⟨u', by rw [il.2]; exact a3, aj.aW sub c u' (pD k1 O) j8⟩
    | false =>
      simp only [d_, Bool.or_eq_false_iff, beq_eq_false_iff_ne, ne_eq] at hq
      have gR := Z
      rw [hold m hq.1 hq.2] at gR
      have M := W.get gR
      obtain ⟨arr, ty, ha, H⟩ := W.obj m cs gR
      refine ⟨arr, ty, ?_, fun j c O => ?_⟩
      · simp only [C', hq.1, if_false]
        refine (fa _ (W.lt M) fun m' a0 e => ?_).trans ha
        have := W.inj m m' M (d7 m' a0) e
        subst this
        rw [hq.2] at a0; cases a0
      · obtain ⟨u', a3, j8⟩ := H j c O
        exact ⟨u', by simp only [C', hq.1, if_false]; exact a3, j8.mono le⟩
  · have oldρ : ∀ m, m.1 ≠ n -> (ae (aD d h0) m).isSome = true -> ∀ k, (ae (aD d h0) (n, k)).isSome = true -> Cb.ρ (cw (n, k)) = C.ρ m -> False := fun m A h3 k u e => by
      cases E : (ae hs m).isSome with
      | true =>
        obtain ⟨l1, e1, _⟩ := na m A E h3
        have := hp.heap.inj _ _ (jC k u) l1 (by rw [e, e1])
        have h4 := FI k u
        have h5 := Bs _ (Bz m E).1
        rw [this] at h4
        omega
      | false =>
        have oa := hO m A h3
        have hb := W.lt oa
        rcases WF k u with h4 | ⟨m', a0, e'⟩
        · omega
        · have := W.inj m m' oa (d7 m' a0) (by rw [<- e, e'])
          subst this
          rw [E] at a0; cases a0
    by_cases A : m.1 = n <;> by_cases E : m'.1 = n
    · have dA : (ae (aD d h0) (n, m.2)).isSome = true := by rw [i4 m A]; exact hm
      have fo : (ae (aD d h0) (n, m'.2)).isSome = true := by rw [i4 m' E]; exact a0
      simp only [C', A, E, if_true] at G
      rw [<- i4 m A, <- i4 m' E] at G
      have e1 := hp.heap.inj _ _ (jC _ dA) (jC _ fo) G
      exact Prod.ext (A.trans E.symm) (hni _ _ dA fo e1)
    · have dA : (ae (aD d h0) (n, m.2)).isSome = true := by rw [i4 m A]; exact hm
      simp only [C', A, E, if_true, if_false] at G
      rw [<- i4 m A] at G
      exact (oldρ m' E a0 _ dA G).elim
    · have fo : (ae (aD d h0) (n, m'.2)).isSome = true := by rw [i4 m' E]; exact a0
      simp only [C', A, E, if_true, if_false] at G
      rw [<- i4 m' E] at G
      exact (oldρ m A hm _ fo G.symm).elim
    · simp only [C', A, E, if_false] at G
      exact W.inj m m' (hO m A hm) (hO m' E a0) G
  · by_cases A : m.1 = n
    · have dA : (ae (aD d h0) (n, m.2)).isSome = true := by rw [i4 m A]; exact hm
      simp only [C', A, if_true]
      exact .inr ⟨m.2, dA, by rw [i4 m A]⟩
    · simp only [C', A, if_false]
      exact .inl ⟨W.mt m (hO m A hm), W.lt (hO m A hm)⟩
  · by_cases A : m.1 = n
    · exact .inr A
    · exact .inl (W.kn m (hO m A hm))
  · constructor
    · rintro (A | ⟨k, u, A⟩)
      · exact A.1
      · exact (hp.mt b hb).1 (by rw [A]; exact hp.heap.mt _ (jC k u))
    · intro A; exact .inl ⟨A, hb⟩
  · by_cases A : m.1 = n
    · have dA : (ae (aD d h0) (n, m.2)).isSome = true := by rw [i4 m A]; exact hm
      simp only [C', A, if_true]
      rcases WF m.2 dA with E | ⟨m', a0, e'⟩
      · exact .inr (.inl (by rw [<- i4 m A]; exact E))
      · exact .inr (.inr ⟨m', xQ m' a0, d7 m' a0, by rw [<- i4 m A]; exact e'⟩)
    · exact .inl ⟨hO m A hm, by simp only [C', A, if_false]⟩
  · rcases xP m hm with A | A
    · exact .inr A
    · exact .inl (d7 m A)
theorem abf {P:Program} {n:Nat} {f:FuncId} {args:List AV} {h:Hp} {r:AV} {d:Dl} (H:CY P n f args h r []) (hd:∀m,ae (aD d h) m=ae h m) (hs:∀m,m∈d.map (·.1)->(ae h m).isSome=true):CY P n f args h r d:=by
 intro C vs W hL hn
 refine(H C vs W hL hn).mono ?_
 rintro e w' ⟨Y,C',G,hw,hp⟩
 refine⟨Y,C',G,hw,hp.le,hp.kn,⟨fun m => ?_,fun m cs Z => ?_,hp.heap.inj,hp.heap.mt,hp.heap.kn⟩,hp.val,fun b hb _=>hp.same b hb fun m hm=>(nomatch hm),hp.mt,hp.os,hp.tape,hp.output,fun m hm => ?_,fun m hm => .inl ((W.live m).2 (hs m hm))⟩
 ·rw[hd];exact hp.heap.live m
 ·rw[hd]at Z;exact hp.heap.obj m cs Z
 ·rcases hp.lA m hm with A | A | ⟨m0,A,_⟩
  ·exact .inl A
  ·exact .inr (.inl A)
  ·cases A
end Go.Proofs.Aw
namespace Go.Proofs.Aw
open Go
theorem atK {P:Program} {o:Oper} {a:Act} {w:World} {K:Act->World->Prop} {Q Q':Exit->Act->World->Prop} (h:∀e a w,e ≠ .normal->Q e a w->Q' e a w) (W:o.wp P a w K Q):o.wp P a w K Q':=by
 have M:LetsOut Q->LetsOut Q':=fun⟨a,w,hq⟩=>⟨a,w,h _ _ _ (by simp) hq⟩
 unfold Oper.wp at *
 generalize (execOp a.eval o).run P w=r at *
 cases r with
 | ok n w' =>
  cases n<;>simp only[Oper.upon]at W ⊢ <;>
   first
    | exact W
    | exact Calls.mono W (fun e auf G=>by cases e<;>first | exact G | exact h _ _ _ (by simp) G | exact M G)
    | exact Rows.mono W (fun _ _ G=>G)
 | halt x w'=>cases x<;>simp only[Oper.upon]at W ⊢ <;> first | exact W | exact h _ _ _ (by simp) W
structure Jk (ops:List Oper) (o:Oper):Prop where
 all:∀j,j<ops.length->∃ed∈o.after,Region.binds .any ed=true/\ed.on=j
 own:∀ed∈o.after,Region.binds .any ed=true->ed.on<ops.length
 free:o.guard=none
 guards:∀p∈ops,∀j want,p.guard=some (j,want)->j<ops.length
 ad8:∀i p,ops[i]? = some p->∀ed∈p.after,Region.binds .any ed=true->ed.on<i
theorem Hs (l:Array Bool) (j:Nat):(l.push false).getD j false=l.getD j false:=by
 simp only[Array.getD_eq_getD_getElem?,Array.getElem?_push]
 split
 ·rename_i h;subst h;simp
 ·rfl
theorem Ht (l:Array Bool) {j:Nat} (h:j<l.size):(l.push false).getD j true=l.getD j true:=by
 simp only[Array.getD_eq_getD_getElem?,Array.getElem?_push]
 rw[if_neg (by omega)]
theorem aoJ (l:Array Bool):(l.push false).getD l.size true=false:=by
 simp[Array.getD_eq_getD_getElem?]
theorem aoK (l:Array Bool) {i:Nat} (h:i<l.size):(l.push false).setIfInBounds i true=(l.setIfInBounds i true).push false:=by
 apply Array.ext_getElem?
 intro j
 rw[Array.getElem?_push,Array.size_setIfInBounds]
 by_cases O:i=j
 ·subst O
  rw[if_neg (by omega),Array.getElem?_setIfInBounds_self_of_lt (by simp;omega),Array.getElem?_setIfInBounds_self_of_lt h]
 ·rw[Array.getElem?_setIfInBounds_ne O,Array.getElem?_setIfInBounds_ne O,Array.getElem?_push]
theorem acz {P:Program} {ops:List Oper} {o:Oper} (aR:Jk ops o) {Q Q0:Exit->Act->World->Prop} (hn:∀a w,Q0 .normal a w->o.wp P a w (fun a w=>Q .normal a w) Q) (G:∀e a w,e ≠ .normal->Q0 e a w->Q e a w) :
  ∀(fuel:Nat) (listed:Array Bool) (a:Act) (w:World),listed.size=ops.length->left (dg listed) ops.length<=fuel->wpAny P .any ops.toArray Q0 fuel listed a w->wpAny P .any (ops++[o]).toArray Q (fuel+1) (listed.push false) a w:=by
 have lets:LetsOut Q0->LetsOut Q:=fun⟨a,w,hq⟩=>⟨a,w,G _ _ _ (by simp) hq⟩
 have none:∀(listed:Array Bool),listed.size=ops.length->Region.ready .any (ops++[o]).toArray (listed.push false)≠[]:=by
  intro listed b7 hr
  have all:∀j,j<ops.length->dg listed j=true:=by
   intro j
   induction j using Nat.strongRecOn with
   | _ j ih =>
    intro O
    cases h:dg listed j with
    | true=>rfl
    | false =>
     exfalso
     have pj:j∈Region.ready .any (ops++[o]).toArray (listed.push false):=by
      refine mem_ready.2 ⟨by rw[Ht _ (by omega)];exact vA.2 ⟨by omega,h⟩,ops[j],by simp[List.getElem?_append_left O],fun ed d3 hb => ?_⟩
      have aQ:=aR.ad8 j ops[j] (by simp[O]) ed d3 hb
      rw[Hs]
      exact ih ed.on aQ (by omega)
     rw[hr]at pj;cases pj
  have pj:ops.length∈Region.ready .any (ops++[o]).toArray (listed.push false):=by
   refine mem_ready.2 ⟨by rw[<-b7];exact aoJ listed,o,by simp,fun ed d3 hb => ?_⟩
   rw[Hs]
   exact all _ (aR.own ed d3 hb)
  rw[hr]at pj;cases pj
 have full:∀(fuel:Nat) (listed:Array Bool) (a:Act) (w:World),listed.size=ops.length->(∀j,j<ops.length->dg listed j=true)->wpAny P .any ops.toArray Q0 fuel listed a w->Q0 .normal a w:=by
  intro fuel listed a w b7 iL h
  have hr:Region.ready .any ops.toArray listed=[]:=by
   apply List.eq_nil_iff_forall_not_mem.2
   intro j O
   obtain⟨A,_⟩:=mem_ready.1 O
   obtain⟨E,h3⟩:=vA.1 A
   rw[iL j (by omega)]at h3;cases h3
  cases fuel with
  | zero=>exact h.2
  | succ f=>exact h.1 hr
 have last:∀(fuel:Nat) (listed:Array Bool) (a:Act) (w:World),listed.size=ops.length->(∀j,j<ops.length->dg listed j=true)->Q0 .normal a w->wpOp P (ops++[o]).toArray Q ops.length (wpAny P .any (ops++[o]).toArray Q fuel ((listed.push false).setIfInBounds ops.length true)) a w:=by
  intro fuel listed a w b7 iL hq
  have hr:Region.ready .any (ops++[o]).toArray ((listed.push false).setIfInBounds ops.length true)=[]:=by
   apply List.eq_nil_iff_forall_not_mem.2
   intro j O
   obtain⟨A,p,hp,_⟩:=mem_ready.1 O
   have n9:j<ops.length+1:=by
    have:=(Array.getElem?_eq_some_iff.1 hp).1
    simpa using this
   have:((listed.push false).setIfInBounds ops.length true).getD j true=true:=by
    simp only[Array.getD_eq_getD_getElem?]
    by_cases dN:j=ops.length
    ·subst dN
     rw[<-b7]
     simp
    ·rw[Array.getElem?_setIfInBounds_ne (by omega),<-Array.getD_eq_getD_getElem?,Ht _ (by omega)]
     have:=iL j (by omega)
     unfold dg at this
     rw[Array.getD_eq_getD_getElem?]at this ⊢
     have aQ:j<listed.size:=by omega
     simp only[Array.getElem?_eq_getElem aQ,Option.getD_some]at this ⊢
     exact this
   rw[this]at A;cases A
  have L5:∀a w,Q .normal a w->wpAny P .any (ops++[o]).toArray Q fuel ((listed.push false).setIfInBounds ops.length true) a w:=by
   intro a w hq
   cases fuel with
   | zero=>exact⟨hr,hq⟩
   | succ f=>exact⟨fun _=>hq,fun i hi=>by rw[hr]at hi;cases hi⟩
  unfold wpOp
  have ho:(ops++[o]).toArray[ops.length]? = some o:=by simp
  rw[ho]
  simp only
  rw[if_pos (by simp[Region.wanted,aR.free])]
  exact .inl (Oper.wp_mono L5 (hn a w hq))
 intro fuel
 induction fuel with
 | zero =>
  intro listed a w b7 M h
  have iL:=Nr (Nat.le_zero.1 M)
  have hq:=full _ _ _ _ b7 iL h
  refine⟨fun hr=>absurd hr (none listed b7),fun i hi => ?_⟩
  obtain⟨A,p,hp,d3⟩:=mem_ready.1 hi
  have co:i<ops.length+1:=by
   have:=(Array.getElem?_eq_some_iff.1 hp).1
   simpa using this
  rcases Nat.lt_or_ge i ops.length with aQ | u4
  ·rw[Ht _ (by omega)]at A
   obtain⟨_,h3⟩:=vA.1 A
   rw[iL i aQ]at h3;cases h3
  ·obtain rfl:i=ops.length:=by omega
   exact last 0 listed a w b7 iL hq
 | succ f ih =>
  intro listed a w b7 M h
  refine⟨fun hr=>absurd hr (none listed b7),fun i hi => ?_⟩
  obtain⟨A,p,hp,d3⟩:=mem_ready.1 hi
  have co:i<ops.length+1:=by
   have:=(Array.getElem?_eq_some_iff.1 hp).1
   simpa using this
  rcases Nat.lt_or_ge i ops.length with aQ | u4
  ·have qG:ops[i]? = some p:=by
    have:(ops++[o])[i]? = some p:=by simpa using hp
    rwa[List.getElem?_append_left aQ]at this
   rw[Ht _ (by omega)]at A
   have L':i∈Region.ready .any ops.toArray listed:=mem_ready.2 ⟨A,p,by simpa using qG,fun ed G hb=>by
    have:=d3 ed G hb
    rwa[Hs]at this⟩
   have hL:dg listed i=false:=(vA.1 A).2
   have g:=h.2 i L'
   rw[aoK _ (by omega)]
   have hK:∀a w,wpAny P .any ops.toArray Q0 f (listed.setIfInBounds i true) a w->wpAny P .any (ops++[o]).toArray Q (f+1) ((listed.setIfInBounds i true).push false) a w:=fun a w W=>by
    refine ih _ a w (by simpa using b7) ?_ W
    have e1:left (dg (listed.setIfInBounds i true)) ops.length=left (eB (dg listed) i) ops.length:=Ga fun j _=>NM (by omega) j
    have:=Nq hL aQ
    omega
   unfold wpOp at g ⊢
   have hpa:ops.toArray[i]? = some p:=by simpa using qG
   rw[hpa]at g
   rw[hp]
   simp only at g ⊢
   have hw:Region.wanted p (yielded (ops++[o]).toArray a.tmps)=Region.wanted p (yielded ops.toArray a.tmps):=by
    unfold Region.wanted
    cases Z:p.guard with
    | none=>rfl
    | some pm =>
     obtain⟨j,want⟩:=pm
     have O:=aR.guards p (List.mem_of_getElem? qG) j want Z
     have:yielded (ops++[o]).toArray a.tmps j=yielded ops.toArray a.tmps j:=by
      unfold yielded
      have e:(ops++[o]).toArray[j]? = ops.toArray[j]? := by
       simp[List.getElem?_append_left O]
      rw[e]
     simp only[this]
   rw[hw]
   split
   ·rename_i H
    rw[if_pos H]at g
    rcases g with g | ⟨g1,g2⟩
    ·exact .inl (atK G (Oper.wp_mono hK g))
    ·exact .inr ⟨g1,lets g2⟩
   ·rename_i H
    rw[if_neg H]at g
    exact hK _ _ g
  ·obtain rfl:i=ops.length:=by omega
   have iL:∀j,j<ops.length->dg listed j=true:=fun j O=>by
    have hpo:p=o:=by
     have:(ops++[o])[ops.length]? = some p:=by simpa using hp
     simpa using this.symm
    subst hpo
    obtain⟨ed,E,h3,h4⟩:=aR.all j O
    have:=d3 ed E h3
    rw[Hs,h4]at this
    exact this
   exact last (f+1) listed a w b7 iL (full _ _ _ _ b7 iL h)
theorem aa9 {P:Program} {ac:Env} {ops:List Oper} {o:Oper} {Q:Exit->St->Prop} {V:St} {id:Nat} (hm:P.follows .mixedOrders=true) (aR:Jk ops o) (hd:∀i,o.dst=some i->i<ac.N) (hf:fits ac.N ops=true) (ho:once ops=true) (D:List En)
  (hw:jj P ops V.nx (e6 ops V.t) V.h D) (M:D.length=ops.length) {r:AV} {d:Dl}
  (hy:Yields P (V.nx+ops.length) o.op (b0 (fun _=>true) D (e6 ops V.t)) (aJ (fun _=>true) D V.h) r d)
  (u:Q .normal ⟨gF o.dst r (b0 (fun _=>true) D (e6 ops V.t)),aD d (aJ (fun _=>true) D V.h),V.nx+ops.length+1⟩):AW P ac (.region id (ops++[o]).toArray true) Q V:=fun a w hr=>by
 refine wp_region_any hm ?_
 have g:=S9 (Q:=fun e aK=>e = .normal/\aK=⟨b0 (fun _=>true) D (e6 ops V.t),aJ (fun _=>true) D V.h,V.nx+ops.length⟩) hf ho D hw M ⟨rfl,rfl⟩ hr
 have e1:(ops++[o]).toArray.size=ops.toArray.size+1:=by simp
 have e2:Array.replicate (ops++[o]).toArray.size false=(Array.replicate ops.toArray.size false).push false:=by
  rw[e1]
  exact Array.replicate_succ
 rw[e2,e1]
 refine acz aR (fun bz w' hq => ?_) (fun e bz w' ax hq => ?_) _ _ _ _ (by simp) ?_ g
 ·obtain⟨aK,BB,_,rfl⟩:=hq
  obtain⟨C,rfl,hC⟩:=BB
  exact hy C bz o _ _ rfl hC.heap hC.t (fun k bI=>absurd (hC.kn _ bI) (by simp)) fun Y C' hp=>⟨_,⟨C',rfl,hC.step hp hd⟩,u⟩
 ·obtain⟨_,_,A,_⟩:=hq
  exact absurd A ax
 ·have:∀n,left (dg (Array.replicate ops.toArray.size false)) n<=n:=fun n=>by
   induction n with
   | zero=>simp[left]
   | succ n ih=>simp only[left];split<;>omega
  have E:=this ops.length
  simpa using E
end Go.Proofs.Aw
namespace Go.Proofs.Aw
open Go
variable {P:Program} {ac:Env} {Q:Exit->St->Prop} {V aK:St}
end Go.Proofs.Aw
namespace Go.Proofs.Aw
open Go
theorem A_ (p:Nm->Bool) (m:Nm) (hm:p m=true):∀(d:Dl) (h:Hp),ae (aD (d.filter fun q=>p q.1) h) m=ae (aD d h) m
 | [],h=>rfl
 | (k,o)::d,h=>by
  by_cases u:p k=true
  ·rw[List.filter_cons_of_pos (by exact u)]
   cases o with
   | none=>simp only[aD];exact A_ p m hm d _
   | some cs=>simp only[aD];exact A_ p m hm d _
  ·rw[List.filter_cons_of_neg (by exact u)]
   have ax:k≠m:=fun e=>u (by rw[e];exact hm)
   have UG:∀(d:Dl) (h h':Hp),ae h m=ae h' m->ae (aD d h) m=ae (aD d h') m:=fun d h h' e=>by
    rcases mZ m d h with⟨_,A⟩ | ⟨A,E⟩
    ·exact A h'
    ·rw[E,gv d h' m A,e]
   rw[A_ p m hm d h]
   cases o with
   | none=>simp only[aD];exact UG d _ _ (by rw[u5];rw[if_neg ax])
   | some cs=>simp only[aD];exact UG d _ _ (by rw[dG];rw[if_neg ax])
theorem abh {P:Program} {n:Nat} {f:FuncId} {args:List AV} {h:Hp} {r r':AV} {d:Dl} (hs:∀m,m∈d.map (·.1)->m.1≠n->(ae (aD d h) m).isSome=true) (hr:Ro (aD (d.filter fun q=>q.1.1==n) []) r r') (H:CY P n f args h r d):CY P n f args h r' (d.filter fun q => !(q.1.1==n)):=by
 intro C vs W hL hn
 refine(H C vs W hL hn).mono ?_
 rintro e w' ⟨Y,C1,rfl,rfl,hp⟩
 have ax:∀m,C.kn m->m.1≠n:=fun m hm e=>hn m.2 (by rw[<-e];exact hm)
 have hold:∀m,m.1≠n->ae (aD (d.filter fun q => !(q.1.1==n)) h) m=ae (aD d h) m:=fun m hm=>A_ (fun k => !(k.1==n)) m (by simpa using hm) d h
 have sN:∀m,m.1=n->ae h m=none:=fun m hm=>by
  cases Z:ae h m with
  | none=>rfl
  | some cs=>exact absurd hm (ax m (W.kn m ((W.live m).2 (by rw[Z];rfl))))
 have U9:∀m,m.1=n->ae (aD (d.filter fun q => !(q.1.1==n)) h) m=none:=fun m hm=>by
  rw[gv _ _ _ fun hq=>by
   obtain⟨q,q1,q2⟩:=List.mem_map.1 hq
   have:=(List.mem_filter.1 q1).2
   rw[q2,hm]at this
   simp at this,sN m hm]
 have m5:∀m,m.1=n->ae (aD d h) m=ae (aD (d.filter fun q=>q.1.1==n) []) m:=fun m hm=>by
  rw[A_ (fun k=>k.1==n) m (by simpa using hm) d []]
  rcases mZ m d h with⟨_,A⟩ | ⟨A,E⟩
  ·exact A []
  ·rw[E,gv d [] m A,sN m hm];rfl
 have af7:∀m,C1.live m->C.live m->C1.ρ m=C.ρ m:=fun m A E=>(hp.le.live m (W.kn m E) A).2.1
 have s1:∀m,m.1=n->C1.live m->C.w.heap.size<=C1.ρ m:=fun m hm M=>by
  rcases hp.lA m M with⟨A,_⟩ | A | ⟨m0,h0,A,E⟩
  ·exact absurd hm (ax m (W.kn m A))
  ·exact A
  ·have l0:C1.live m0:=(hp.heap.live m0).2 (hs m0 h0 (ax m0 (W.kn m0 A)))
   have:=hp.heap.inj m m0 M l0 (by rw[E,af7 m0 l0 A])
   rw[this]at hm
   exact absurd hm (ax m0 (W.kn m0 A))
 let bM:Ctx:={ ρ:=C1.ρ,bs:=C1.bs,live:=fun m=>C1.live m/\m.1≠n,kn:=C1.kn,mt:=fun b=>C1.mt b/\(b<C.w.heap.size\/∃m,C1.live m/\m.1≠n/\C1.ρ m=b),w:=C1.w }
 have aZ:C1.le bM:=⟨Nat.le_refl _,fun _ _ _=>rfl,fun _ _ h=>h.1,fun _ h=>h,fun m _ M=>⟨M.1,rfl,rfl⟩,fun _ _ _ cs ty h=>⟨cs,ty,h,rfl⟩⟩
 have Bm:∀m cs,ae (aD (d.filter fun q=>q.1.1==n) []) m=some cs->ae (aD d h) m=some cs/\¬bM.mt (C1.ρ m):=fun m cs Z=>by
  have hm:m.1=n:=by
   rcases mZ m (d.filter fun q=>q.1.1==n) []with⟨A,_⟩ | ⟨_,E⟩
   ·obtain⟨q,q1,rfl⟩:=List.mem_map.1 A
    simpa using (List.mem_filter.1 q1).2
   ·rw[E]at Z;cases Z
  have gR:=(m5 m hm).trans Z
  have M:=hp.heap.get gR
  refine⟨gR,fun hx => ?_⟩
  rcases hx.2 with hx | ⟨m',l1,l2,qU⟩
  ·have:=s1 m hm M
   omega
  ·have:=hp.heap.inj m' m l1 M qU
   rw[this]at l2
   exact l2 hm
 refine⟨Y,bM,rfl,rfl,hp.le.trans aZ,hp.kn,⟨fun m => ?_,fun m cs Z => ?_,fun m m' hm a0 G=>hp.heap.inj m m' hm.1 a0.1 G,fun m hm=>⟨hp.heap.mt m hm.1,.inr ⟨m,hm.1,hm.2,rfl⟩⟩,fun m hm=>hp.heap.kn m hm.1⟩,SJ hp.heap aZ rfl Bm hr hp.val,fun b hb hq=>hp.same b hb fun m hm M => ?_,fun b hb=>⟨fun h=>(hp.mt b hb).1 h.1,fun h=>⟨(hp.mt b hb).2 h,.inl hb⟩⟩,hp.os,hp.tape,hp.output,fun m M => ?_,fun m hm => ?_⟩
 ·show(C1.live m/\m.1≠n)↔(ae (aD (d.filter fun q => !(q.1.1==n)) h) m).isSome=true
  by_cases c:m.1=n
  ·rw[U9 m c]
   exact⟨fun h=>absurd c h.2,fun h=>by cases h⟩
  ·rw[hold m c,<-hp.heap.live m]
   exact⟨fun h=>h.1,fun h=>⟨h,c⟩⟩
 ·have Z:ae (aD (d.filter fun q => !(q.1.1==n)) h) m=some cs:=Z
  have c:m.1≠n:=fun c=>by rw[U9 m c]at Z;cases Z
  have gR:ae (aD d h) m=some cs:=(hold m c).symm.trans Z
  obtain⟨arr,ty,ha,aH⟩:=hp.heap.obj m cs gR
  exact⟨arr,ty,ha,fun j x O=>by obtain⟨v,v1,v2⟩:=aH j x O;exact⟨v,v1,v2.mono aZ⟩⟩
 ·have c:=ax m (W.kn m M)
  refine hq m ?_ M
  obtain⟨q,q1,rfl⟩:=List.mem_map.1 hm
  exact List.mem_map.2 ⟨q,List.mem_filter.2 ⟨q1,by simpa using c⟩,rfl⟩
 ·rcases hp.lA m M.1 with A | A | ⟨m0,h0,A,E⟩
  ·exact .inl A
  ·exact .inr (.inl A)
  ·refine .inr (.inr ⟨m0,?_,A,E⟩)
   obtain⟨q,q1,rfl⟩:=List.mem_map.1 h0
   exact List.mem_map.2 ⟨q,List.mem_filter.2 ⟨q1,by simpa using ax _ (W.kn _ A)⟩,rfl⟩
 ·obtain⟨q,q1,rfl⟩:=List.mem_map.1 hm
  exact hp.names _ (List.mem_map.2 ⟨q,(List.mem_filter.1 q1).1,rfl⟩)
end Go.Proofs.Aw
