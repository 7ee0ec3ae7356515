/- Parts of the logic that the proof runs in, one behind the other. -/
import Derived.Test.YtpdfmnhgocpkcaaGreatAwM1
namespace Go.Proofs.Aw
open Go
def nd (n:Nat):Nat->List (List AV)->Dl
 | _,[]=>[]
 | k,c::cs=>((n,k),some c)::nd n (k+1) cs
def nE (n:Nat) (m:Nm):Nm:=(n,m.2)
theorem UZ (n:Nat):∀(cs:List (List AV)) (k:Nat) (h:Hp) (m:Nm),ae (aD (nd n k cs) h) m=if m.1=n/\k<=m.2/\m.2<k+cs.length then cs[m.2-k]? else ae h m
 | [],k,h,m=>by
  simp only[nd,aD,List.length_nil,Nat.add_zero]
  rw[if_neg (by omega)]
 | c::cs,k,h,m=>by
  simp only[nd,aD]
  rw[UZ n cs (k+1) _ m,dI]
  by_cases A:m.1=n
  ·by_cases E:m.2=k
   ·rw[if_neg (by omega),if_pos (by rw[<-A,<-E]),if_pos ⟨A,by omega,by simp;omega⟩,E,Nat.sub_self]
    rfl
   ·have ay:¬(n,k)=m:=fun e=>E (by rw[<-e])
    rw[if_neg ay]
    by_cases h3:k+1<=m.2/\m.2<k+1+cs.length
    ·rw[if_pos ⟨A,h3⟩,if_pos ⟨A,by omega,by simp;omega⟩,show m.2-k=m.2-(k+1)+1 from by omega,List.getElem?_cons_succ]
    ·rw[if_neg (fun h=>h3 h.2),if_neg (by simp;omega)]
  ·have ay:¬(n,k)=m:=fun e=>A (by rw[<-e])
   rw[if_neg (fun h=>A h.1),if_neg ay,if_neg (fun h=>A h.1)]
theorem WC (n:Nat):∀(cs:List (List AV)) (k:Nat) (m:Nm),m∈(nd n k cs).map (·.1)->m.1=n
 | [],_,m,h=>by simp[nd]at h
 | c::cs,k,m,h=>by
  simp only[nd,List.map_cons,List.mem_cons]at h
  rcases h with rfl | h
  ·rfl
  ·exact WC n cs (k+1) m h
mutual
theorem Pq (f g:Nm->Nm):∀v,aW f (aW g v)=aW (fun m=>f (g m)) v
 | .top=>rfl
 | .sc _=>rfl
 | .agg cs=>by simp only[aW,tu f g cs]
 | .tup cs=>by simp only[aW,tu f g cs]
 | .ptr _ _=>rfl
 | .sl _ _ _ _ _=>rfl
 | .ip cs _=>by simp only[aW,tu f g cs]
 | .ro _ D _=>by simp only[aW,XZ f g D]
 | .fn _ xs ys=>by simp only[aW,tu f g xs,tu f g ys]
 | .ifc _ v=>by simp only[aW,Pq f g v]
theorem tu (f g:Nm->Nm):∀cs,bu f (bu g cs)=bu (fun m=>f (g m)) cs
 | []=>rfl
 | c::cs=>by simp only[bu,Pq f g c,tu f g cs]
theorem XZ (f g:Nm->Nm):∀D,dD f (dD g D)=dD (fun m=>f (g m)) D
 | []=>rfl
 | e::D=>by simp only[dD,tu f g e,XZ f g D]
end
mutual
theorem OB (n:Nat):∀v,b8 (fun m=>m.1==n) (aW (nE n) v)=true
 | .top=>rfl
 | .sc _=>rfl
 | .agg cs=>ta n cs
 | .tup cs=>ta n cs
 | .ptr _ _=>by simp[aW,b8,nE]
 | .sl _ _ _ _ _=>by simp[aW,b8,nE]
 | .ip cs _=>ta n cs
 | .ro _ D _=>WN n D
 | .fn _ xs ys=>by simp only[aW,b8,ta n xs,ta n ys,Bool.and_self]
 | .ifc _ v=>OB n v
theorem ta (n:Nat):∀cs,a4 (fun m=>m.1==n) (bu (nE n) cs)=true
 | []=>rfl
 | c::cs=>by simp only[bu,a4,OB n c,ta n cs,Bool.and_self]
theorem WN (n:Nat):∀D,cq (fun m=>m.1==n) (dD (nE n) D)=true
 | []=>rfl
 | e::D=>by simp only[dD,cq,ta n e,WN n D,Bool.and_self]
end
mutual
theorem y6 (f:Nm->Nm):∀v,b8 (fun _=>false) v=true->aW f v=v
 | .top,_=>rfl
 | .sc _,_=>rfl
 | .agg cs,h=>by simp only[aW,lB f cs h]
 | .tup cs,h=>by simp only[aW,lB f cs h]
 | .ptr _ _,h=>by cases h
 | .sl _ _ _ _ _,h=>by cases h
 | .ip cs _,h=>by simp only[aW,lB f cs h]
 | .ro _ D _,h=>by simp only[aW,pN f D h]
 | .fn _ xs ys,h=>by
   simp only[b8,Bool.and_eq_true]at h
   simp only[aW,lB f xs h.1,lB f ys h.2]
 | .ifc _ v,h=>by simp only[aW,y6 f v h]
theorem lB (f:Nm->Nm):∀cs,a4 (fun _=>false) cs=true->bu f cs=cs
 | [],_=>rfl
 | c::cs,h=>by
   simp only[a4,Bool.and_eq_true]at h
   simp only[bu,y6 f c h.1,lB f cs h.2]
theorem pN (f:Nm->Nm):∀D,cq (fun _=>false) D=true->dD f D=D
 | [],_=>rfl
 | e::D,h=>by
   simp only[cq,Bool.and_eq_true]at h
   simp only[dD,lB f e h.1,pN f D h.2]
end
def abp (P:Program) (rs:List ResultVar) (aE:Nat->Nm) (r:AV) (news:List (List AV)) (e:Exit) (V:St):Prop :=
 (e = .ret\/e = .normal)/\(kK P V rs fun vs=>oneOf vs=aW (fun m=>aE m.2) r)/\(∀k cs,news[k]? = some cs->ae V.h (aE k)=some (bu (fun m=>aE m.2) cs))/\(∀j k,j<news.length->k<news.length->aE j=aE k->j=k)
theorem Jn {C:Ctx}:∀(k:Nat) (args:List AV) (vs:List Value) (tmps:Array Value),aC C args vs->(∀i v,vs[i]? = some v->tmps[k+i]? = some v)->∀i,aj C (bR (gE k args) i) (tmps.getD i undef)
 | _,[],_,_,_,_,i=>by simp only[gE,bR,aj]
 | k,a::args,vs,tmps,hL,R,i=>by
  simp only[aC]at hL
  obtain⟨Y,us,rfl,H,M⟩:=hL
  simp only[gE,bR]
  split
  ·rename_i hik
   subst hik
   have:=R 0 Y rfl
   rw[Nat.add_zero]at this
   simp only[Array.getD_eq_getD_getElem?,this,Option.getD_some]
   exact H
  ·exact Jn (k+1) args us tmps M (fun j v O=>by
    have:=R (j+1) v (by simpa using O)
    rwa[show k+(j+1)=k+1+j from by omega]at this) i
theorem abf {P : Program} {f : FuncId} {fn : Func} {c : Code} {args : List AV} {r : AV} {news : List (List AV)} (aE : Nat -> Nm) (hf : P.funcs[f]? = some fn) (hb : fn.body = some c) (hN : args.length <= fn.ntmps) (hA : a4 (fun _ => false) args = true)
    (h : ∀ ac : Env, ac.N = fn.ntmps -> (∀ b, ¬ ac.wr b) -> (∀ m, ¬ ac.c0.kn m) -> AW P ac c (abp P fn.results.toList aE r news) ⟨gE 0 args, [], 0⟩) (n : Nat) (h0 : Hp) : CY P n f args h0 (aW (nE n) r) (nd n 0 (news.map (bu (nE n)))) := by
  intro C vs W hL hn
  refine calls_of_wp hf hb ?_
  let C0 : Ctx := { ρ := C.ρ, bs := C.bs, live := fun _ => False, kn := fun _ => False, mt := C.mt, w := C.w }
  let ac : Env := { N := fn.ntmps, w0 := C.w, wr := fun _ => False, N5 := C.mt, c0 := C0 }
  have hlen : vs.length = args.length := hL.length.symm
  have sub0 : C.sub C0 id (fun _ => false) := ⟨rfl, fun _ _ h => h, fun m hm => (nomatch hm), fun m hm => (nomatch hm)⟩
  have LM : aC C0 args vs := aC.aW sub0 args vs hA (by rw [pO]; exact hL)
  have BF : Rel ac ⟨gE 0 args, [], 0⟩ { tmps := vs.toArray ++ Array.replicate (fn.ntmps - vs.toArray.size) undef, defers := [] } C.w := by
    refine ⟨C0, rfl, ⟨⟨fun m => by simp [C0, ae], fun m cs Z => by simp [ae] at Z, fun m m' hm => hm.elim, fun m hm => hm.elim, fun m hm => hm.elim⟩, ?_, ?_, rfl, fun m hm => hm.elim, ⟨rfl, rfl, rfl, Nat.le_refl _, fun _ _ _ => rfl, fun _ _ => Iff.rfl, fun m hm => hm.elim, Ctx.le.refl _⟩⟩⟩
    · refine Jn 0 args vs _ LM fun i v R => ?_
      have hi := (List.getElem?_eq_some_iff.1 R).1
      rw [Nat.zero_add, Array.getElem?_append_left (by simpa using hi)]
      simpa using R
    · simp [ac]; omega
  refine Code.wp_mono ?_ (h ac rfl (fun _ k => k) (fun _ k => k) _ _ BF)
  rintro e bz w' ⟨aK, ⟨Cb, rfl, db⟩, G, Ms, U', qB⟩
  obtain ⟨us, Y, bD, a9, fH⟩ := YJ db.heap db.t Ms
  have pi : ∀ m, C.live m -> m.1 ≠ n := fun m hm e => hn m.2 (by have := W.kn m hm; rwa [show m = (n, m.2) from by rw [<- e]] at this)
  let C' : Ctx := { ρ := fun m => if m.1 = n then Cb.ρ (aE m.2) else C.ρ m, bs := fun m => if m.1 = n then Cb.bs (aE m.2) else C.bs m, live := fun m => C.live m \/ (m.1 = n /\ m.2 < news.length), kn := fun m => C.kn m \/ m.1 = n,
                    mt := fun b => (C.mt b /\ b < C.w.heap.size) \/ ∃ k, k < news.length /\ b = Cb.ρ (aE k), w := Cb.w }
  have fb : ∀ b, b < C.w.heap.size -> Cb.w.heap[b]? = C.w.heap[b]? := fun b hb => db.frame.same b hb (fun h => h)
  have dJ : ∀ k, k < news.length -> Cb.live (aE k) := fun k u => db.heap.get (U' k _ (List.getElem?_eq_getElem u))
  have m7 : ∀ k, k < news.length -> C.w.heap.size <= Cb.ρ (aE k) := fun k u => by
    rcases Nat.lt_or_ge (Cb.ρ (aE k)) C.w.heap.size with E | E
    · exact (db.frame.wr _ (dJ k u) E).elim
    · exact E
  have le : C.le C' := by
    refine ⟨db.frame.size, fun b hb _ => fb b hb, fun b hb hm => ?_, fun _ h => .inl h, fun m u M => ?_, fun m u M cs ty H => ?_⟩
    · rcases hm with A | ⟨k, u, A⟩
      · exact A.1
      · have := m7 k u; omega
    · have hm : m.1 ≠ n := fun e => hn m.2 (by rwa [show m = (n, m.2) from by rw [<- e]] at u)
      rcases M with A | A
      · exact ⟨A, by simp [C', hm], by simp [C', hm]⟩
      · exact absurd A.1 hm
    · have aQ : C.ρ m < C.w.heap.size := by
        rcases Nat.lt_or_ge (C.ρ m) C.w.heap.size with E | E
        · exact E
        · rw [Array.getElem?_eq_none E] at H; cases H
      exact ⟨cs, ty, (fb _ aQ).trans H, rfl⟩
  have sub : Cb.sub C' (fun m => aE m.2) (fun m => m.1 == n) := by
    refine ⟨rfl, fun b hb hm => ?_, fun m hm _ => .inr (by simpa using hm), fun m hm u M => ?_⟩
    · rcases hm with A | ⟨k, u, A⟩
      · exact (db.frame.mt b A.2).2 A.1
      · rw [A]; exact db.heap.mt _ (dJ k u)
    · have a0 : m.1 = n := by simpa using hm
      rcases M with A | A
      · exact absurd a0 (pi m A)
      · exact ⟨dJ _ A.2, by simp [C', a0], by simp [C', a0]⟩
  have n9 : aj C' (aW (nE n) r) Y := by
    refine aj.aW sub _ Y (OB n r) ?_
    rw [Pq]
    show aj Cb (aW (fun m => aE m.2) r) Y
    rw [<- fH]; exact a9
  have BB : cZ C n h0 (aW (nE n) r) (nd n 0 (news.map (bu (nE n)))) Y C' := by
    have iR : ∀ m, ae (aD (nd n 0 (news.map (bu (nE n)))) h0) m = if m.1 = n /\ m.2 < news.length then (news.map (bu (nE n)))[m.2]? else ae h0 m := fun m => by
      rw [UZ]
      simp only [Nat.zero_le, true_and, Nat.zero_add, List.length_map, Nat.sub_zero]
    refine ⟨le, fun _ => Iff.rfl, ⟨fun m => ?_, fun m cs Z => ?_, fun m m' hm a0 G => ?_, fun m hm => ?_, fun m hm => ?_⟩, n9, fun b hb _ => fb b hb, fun b hb => ?_, db.frame.os, db.frame.tape, db.frame.output, fun m hm => ?_, fun m hm => .inr (WC _ _ _ _ hm)⟩
    · rw [iR]
      by_cases A : m.1 = n /\ m.2 < news.length
      · rw [if_pos A]
        simp [C', A]
      · rw [if_neg A, <- W.live m]
        simp only [C', A, or_false]
    · rw [iR] at Z
      by_cases A : m.1 = n /\ m.2 < news.length
      · rw [if_pos A, List.getElem?_map] at Z
        have E : news[m.2]? = some news[m.2] := List.getElem?_eq_getElem A.2
        rw [E] at Z
        simp only [Option.map_some, Option.some.injEq] at Z
        obtain ⟨arr, ty, ha, H⟩ := db.heap.obj _ _ (U' _ _ E)
        refine ⟨arr, ty, by simp only [C', A.1, if_true]; exact ha, fun j c O => ?_⟩
        rw [<- Z] at O
        have hx : (bu (fun m => aE m.2) news[m.2])[j]? = some (aW (fun m => aE m.2) c) := by
          have := y4 (fun m => aE m.2) _ j c O
          rw [tu] at this
          exact this
        obtain ⟨u', a3, j8⟩ := H j _ hx
        exact ⟨u', by simp only [C', A.1, if_true]; exact a3, aj.aW sub c u' (pC (ta n _) O) j8⟩
      · rw [if_neg A] at Z
        have M := W.get Z
        obtain ⟨arr, ty, ha, H⟩ := W.obj m cs Z
        refine ⟨arr, ty, ?_, fun j c O => ?_⟩
        · simp only [C', pi m M, if_false]
          exact (fb _ (W.lt M)).trans ha
        · obtain ⟨u', a3, j8⟩ := H j c O
          exact ⟨u', by simp only [C', pi m M, if_false]; exact a3, j8.mono le⟩
    · rcases hm with A | A <;> rcases a0 with E | E
      · simp only [C', pi m A, pi m' E, if_false] at G
        exact W.inj m m' A E G
      · simp only [C', pi m A, E.1, if_false, if_true] at G
        have := W.lt A
        have := m7 _ E.2
        omega
      · simp only [C', pi m' E, A.1, if_false, if_true] at G
        have := W.lt E
        have := m7 _ A.2
        omega
      · simp only [C', A.1, E.1, if_true] at G
        have e1 := db.heap.inj _ _ (dJ _ A.2) (dJ _ E.2) G
        have e2 := qB _ _ A.2 E.2 e1
        exact Prod.ext (A.1.trans E.1.symm) e2
    · rcases hm with A | A
      · simp only [C', pi m A, if_false]
        exact .inl ⟨W.mt m A, W.lt A⟩
      · simp only [C', A.1, if_true]
        exact .inr ⟨m.2, A.2, rfl⟩
    · rcases hm with A | A
      · exact .inl (W.kn m A)
      · exact .inr A.1
    · constructor
      · rintro (A | ⟨k, u, A⟩)
        · exact A.1
        · have := m7 k u; omega
      · intro A; exact .inl ⟨A, hb⟩
    · rcases hm with A | A
      · exact .inl ⟨A, by simp only [C', pi m A, if_false]⟩
      · exact .inr (.inl (by simp only [C', A.1, if_true]; exact m7 _ A.2))
  rcases G with rfl | rfl
  · exact ⟨db.defers, Y, bD, Y, C', rfl, rfl, BB⟩
  · exact ⟨db.defers, Y, bD, Y, C', rfl, rfl, BB⟩
theorem Jd {P:Program} {f:FuncId} {fn:Func} {c:Code} {args:List AV} {r:AV} (hf:P.funcs[f]? = some fn) (hb:fn.body=some c) (hN:args.length<=fn.ntmps) (hA:a4 (fun _=>false) args=true) (hR:b8 (fun _=>false) r=true)
  (h:∀ac:Env,ac.N=fn.ntmps->(∀b,¬ac.wr b)->(∀m,¬ac.c0.kn m)->AW P ac c (DV P fn.results.toList r) ⟨gE 0 args,[],0⟩) (n:Nat) (h0:Hp):CY P n f args h0 r []:=by
 have:=abf (r:=r) (news:=[]) (fun _=>(0,0)) hf hb hN hA (fun ac hE hw u=>dE (fun e V hq=>⟨hq.1,by rw[y6 _ r hR];exact hq.2,by simp,by simp⟩) (h ac hE hw u)) n h0
 rw[y6 _ r hR]at this
 exact this
theorem abg {P:Program} {f:FuncId} {fn:Func} {c:Code} {args:List AV} {r:AV} (hf:P.funcs[f]? = some fn) (hb:fn.body=some c) (hN:args.length<=fn.ntmps) (hA:a4 (fun _=>false) args=true) (hR:b8 (fun _=>false) r=true)
  (h:∀ac:Env,ac.N=fn.ntmps->AW P ac c (DV P fn.results.toList r) ⟨gE 0 args,[],0⟩) (n:Nat) (h0:Hp):CY P n f args h0 r [] :=
 Jd hf hb hN hA hR (fun ac hE _ _=>h ac hE) n h0
end Go.Proofs.Aw
namespace Go.Proofs.Aw
open Go
structure En where
 dst:Option Tmp
 r:AV
 d:Dl
 ms:Nat
def bg:List En->Nat->Option En
 | [],_=>none
 | e::D,j=>if j=D.length then some e else bg D j
def b3 (ab:Nat->Bool):List En->Tp->Tp
 | [],t=>t
 | e::D,t=>gG e.dst (if ab D.length=true then e.r else .top) (b3 ab D t)
def aJ (ab:Nat->Bool):List En->Hp->Hp
 | [],h=>h
 | e::D,h=>if ab D.length=true then aD e.d (aJ ab D h)else aJ ab D h
def eh (n:Nat):Dl->Bool
 | []=>true
 | (m,some _)::d=>m.1==n&&eh n d
 | (_,none)::_=>false
def uJ (D:List En) (j:Nat):Nat:=match bg D j with | some e=>e.ms | none=>0
def qX (D:List En):List Edge->Nat
 | []=>0
 | e::l=>if Region.binds .any e=true then(2 ^ e.on ||| uJ D e.on) ||| qX D l else qX D l
def once:List Oper->Bool
 | []=>true
 | o::l=>(match o.dst with | some d=>l.all fun o'=>o'.dst != some d | none=>true)&&once l
def e7 (ops:List Oper):Tp->Tp
 | []=>[]
 | p::t=>if ops.any (fun o=>o.dst==some p.1)=true then e7 ops t else p::e7 ops t
theorem n4:∀{D:List En} {j:Nat} {e:En},bg D j=some e->j<D.length
 | [],j,e,h=>by simp[bg]at h
 | x::D,j,e,h=>by
  simp only[bg]at h
  split at h
  ·rename_i O;subst O;simp
  ·have:=n4 h;simp;omega
theorem EM:∀{D:List En} {j:Nat},j<D.length->∃e,bg D j=some e
 | [],j,h=>by simp at h
 | x::D,j,h=>by
  simp only[bg]
  split
  ·exact⟨x,rfl⟩
  ·exact EM (by simp at h;omega)
theorem Dd (d:Option Tmp) (v:AV) (t:Tp) (x:Nat):bR (gG d v t) x=if d=some x then v else bR t x:=by
 cases d with
 | none=>simp[gG]
 | some d=>simp[gG,bR]
theorem pY (ab:Nat->Bool) (t0:Tp) (x:Nat):∀(D:List En),(∃j e,bg D j=some e/\e.dst=some x/\bR (b3 ab D t0) x=(if ab j=true then e.r else .top)) \/
  ((∀j e,bg D j=some e->e.dst≠some x)/\bR (b3 ab D t0) x=bR t0 x)
 | [] => .inr ⟨fun j e h=>by simp[bg]at h,rfl⟩
 | e::D=>by
  simp only[b3,Dd]
  by_cases G:e.dst=some x
  ·exact .inl ⟨D.length,e,by simp[bg],G,by rw[if_pos G]⟩
  ·rw[if_neg G]
   rcases pY ab t0 x D with⟨j,e',A,E,h3⟩ | ⟨A,E⟩
   ·exact .inl ⟨j,e',by simp only[bg];rw[if_neg (by have:=n4 A;omega)];exact A,E,h3⟩
   ·refine .inr ⟨fun j e' O => ?_,E⟩
    simp only[bg]at O
    split at O
    ·cases O;exact G
    ·exact A j e' O
theorem wq (ops:List Oper) (x:Nat):∀(t:Tp),bR (e7 ops t) x=if ops.any (fun o=>o.dst==some x)=true then .top else bR t x
 | []=>by simp[e7,bR]
 | (i,v)::t=>by
  simp only[e7]
  by_cases hi:i=x
  ·subst hi
   split
   ·rename_i h;rw[wq ops i t,if_pos h]
   ·simp only[bR,if_true]
  ·split
   ·rw[wq ops x t];simp only[bR,hi,if_false]
   ·simp only[bR,hi,if_false];rw[wq ops x t]
theorem m4 (m:Nm):∀(d:Dl) (h:Hp),(m∈d.map (·.1)/\∀h',ae (aD d h) m=ae (aD d h') m)\/(m∉d.map (·.1)/\ae (aD d h) m=ae h m):=by
 intro d h
 by_cases hm:m∈d.map (·.1)
 ·refine .inl ⟨hm,?_⟩
  induction d generalizing h with
  | nil=>simp at hm
  | cons p d ih =>
   obtain⟨k,v⟩:=p
   intro h'
   by_cases hd:m∈d.map (·.1)
   ·cases v<;>exact ih _ hd _
   ·have u:k=m:=by
     simp only[List.map_cons,List.mem_cons]at hm
     rcases hm with A | A
     ·exact A.symm
     ·exact absurd A hd
    subst u
    cases v with
    | none=>simp only[aD];rw[gw d _ _ hd,gw d _ _ hd,u3,u3];simp
    | some v=>simp only[aD];rw[gw d _ _ hd,gw d _ _ hd,dI,dI];simp
 ·exact .inr ⟨hm,gw d h m hm⟩
theorem E8 {n:Nat}:∀{d:Dl},eh n d=true->∀m∈d.map (·.1),m.1=n
 | [],_,m,h=>by simp at h
 | (k,some v)::d,hf,m,h=>by
  simp only[eh,Bool.and_eq_true,beq_iff_eq]at hf
  simp only[List.map_cons,List.mem_cons]at h
  rcases h with rfl | h
  ·exact hf.1
  ·exact E8 hf.2 m h
 | (k,none)::d,hf,_,_=>by simp[eh]at hf
theorem xW {ab ad:Nat->Bool} {h0:Hp} {m:Nm}:∀(D:List En),(∀j e,bg D j=some e->m∈e.d.map (·.1)->ab j=ad j)->ae (aJ ab D h0) m=ae (aJ ad D h0) m
 | [],_=>rfl
 | e::D,h=>by
  have ih:=xW (ab:=ab) (ad:=ad) (h0:=h0) (m:=m) D fun j e' O hm=>h j e' (by simp only[bg];rw[if_neg (by have:=n4 O;omega)];exact O) hm
  simp only[aJ]
  by_cases hm:m∈e.d.map (·.1)
  ·have xK:=h D.length e (by simp[bg]) hm
   rw[xK]
   split
   ·rcases m4 m e.d (aJ ab D h0)with⟨_,A⟩ | ⟨A,_⟩
    ·exact A _
    ·exact absurd hm A
   ·exact ih
  ·have e1:∀h,ae (aD e.d h) m=ae h m:=fun h=>gw e.d h m hm
   split<;>split<;>simp only[e1,ih]
def wS (P:Program) (ops:List Oper) (n:Nat) (o:Oper) (t:Tp) (h:Hp) (r:AV) (d:Dl):Prop :=
 (o.guard=none/\Yields P n o.op t h r d) \/
  (∃j want b,o.guard=some (j,want)/\yv ops t j = .sc (.bool b)/\b=want/\Yields P n o.op t h r d) \/
  (∃j want,o.guard=some (j,want)/\((∃b,yv ops t j = .sc (.bool b)/\b≠want)\/∃x,yv ops t j = .sc (.tuple x))/\r = .sc undef/\d=[])
def abo (n:Nat) (d:Dl):Prop:=(∀p∈d,p.2.isSome=true/\p.1.1≠n)\/∃m q cs,d=[(m,none),(q,some cs)]/\m.1≠n/\q.1=n
def DU (P:Program) (ops:List Oper) (nx:Nat) (t0:Tp) (h0:Hp) (D:List En) (e:En):Prop :=
 abo (nx+D.length) e.d/\∀k ek o,k<D.length->e.ms.testBit k=false->bg D k=some ek->ops[k]? = some o ->
  ek.d=[]/\wS P ops (nx+k) o (b3 ((ek.ms ||| e.ms) ||| 2 ^ D.length).testBit (e::D) t0) (aJ ((ek.ms ||| e.ms) ||| 2 ^ D.length).testBit (e::D) h0) ek.r []
def abm (P:Program) (ops:List Oper) (nx:Nat) (t0:Tp) (h0:Hp) (D:List En) (e:En) (o:Oper) (j:Nat) (e':En):Prop :=
 e.d=[]/\wS P ops (nx+D.length) o (b3 ((e.ms ||| e'.ms) ||| 2 ^ j).testBit D t0) (aJ ((e.ms ||| e'.ms) ||| 2 ^ j).testBit D h0) e.r []
structure Shown (P:Program) (ops:List Oper) (nx:Nat) (t0:Tp) (h0:Hp) (D:List En) (e:En) (o:Oper):Prop where
 dst:e.dst=o.dst
 mask:e.ms=qX D o.after.toList
 lt:e.ms<2 ^ D.length
 Re:(o.guard=none/\Yields P (nx+D.length) o.op (b3 e.ms.testBit D t0) (aJ e.ms.testBit D h0) e.r e.d) \/
  (∃j want b,o.guard=some (j,want)/\yv ops (b3 e.ms.testBit D t0) j = .sc (.bool b)/\b=want/\Yields P (nx+D.length) o.op (b3 e.ms.testBit D t0) (aJ e.ms.testBit D h0) e.r e.d) \/
  (∃j want,o.guard=some (j,want)/\((∃b,yv ops (b3 e.ms.testBit D t0) j = .sc (.bool b)/\b≠want)\/∃x,yv ops (b3 e.ms.testBit D t0) j = .sc (.tuple x))/\e.r = .sc undef/\e.d=[])
 fresh:eh (nx+D.length) e.d=true\/e.ms+1=2 ^ D.length\/DU P ops nx t0 h0 D e
 waits:∀j e',bg D j=some e'->eh (nx+j) e'.d=false->e.ms.testBit j=true\/abm P ops nx t0 h0 D e o j e'
def jl (P:Program) (ops:List Oper) (nx:Nat) (t0:Tp) (h0:Hp):List En->Prop
 | []=>True
 | e::D=>jl P ops nx t0 h0 D/\∃o,ops[D.length]? = some o/\Shown P ops nx t0 h0 D e o
end Go.Proofs.Aw
namespace Go.Proofs.Aw
open Go
theorem jl.get {P:Program} {ops:List Oper} {nx:Nat} {t0:Tp} {h0:Hp}:∀{D:List En},jl P ops nx t0 h0 D->∀{j:Nat} {e:En},bg D j=some e ->
  ∃bi o,bi.length=j/\(∀k,k<j->bg bi k=bg D k)/\ops[j]? = some o/\Shown P ops nx t0 h0 bi e o/\(∀(ab:Nat->Bool),(∀k,j<=k->ab k=false)->aJ ab D h0=aJ ab bi h0)/\(∀ab:Nat->Bool,ab j=true->(∀k,j<k->ab k=false)->aJ ab D h0=aD e.d (aJ ab bi h0))
 | [],_,j,e,h=>by simp[bg]at h
 | x::D,⟨hw,o,ho,hs⟩,j,e,h=>by
  simp only[bg]at h
  split at h
  ·rename_i O
   cases h
   subst O
   refine⟨D,o,rfl,fun k u=>by simp only[bg];rw[if_neg (by omega)],ho,hs,fun ab hA => ?_,fun ab hA _ => ?_⟩
   ·simp only[aJ];rw[hA _ (Nat.le_refl _)];rfl
   ·simp only[aJ];rw[if_pos hA]
  ·have aQ:=n4 h
   obtain⟨bi,o',A,E,h3,h4,h5,h6⟩:=jl.get hw h
   refine⟨bi,o',A,fun k u=>by rw[E k u];simp only[bg];rw[if_neg (by omega)],h3,h4,fun ab hA => ?_,fun ab hA cF => ?_⟩
   ·simp only[aJ];rw[hA D.length (by omega)];exact h5 ab hA
   ·simp only[aJ];rw[cF D.length aQ];exact h6 ab hA cF
theorem B5 {D:List En} {k:Nat}:∀{l:List Edge},(qX D l).testBit k=true↔∃e∈l,Region.binds .any e=true/\(e.on=k\/(uJ D e.on).testBit k=true)
 | []=>by simp[qX]
 | e::l=>by
  simp only[qX]
  split
  ·rename_i hb
   rw[Nat.testBit_or,Nat.testBit_or,Bool.or_eq_true,Bool.or_eq_true,B5 (l:=l),Nat.testBit_two_pow,decide_eq_true_eq]
   constructor
   ·rintro((h | h) | ⟨e',A,E⟩)
    ·exact⟨e,List.mem_cons_self,hb,.inl h⟩
    ·exact⟨e,List.mem_cons_self,hb,.inr h⟩
    ·exact⟨e',List.mem_cons_of_mem _ A,E⟩
   ·rintro⟨e',A,E,h3⟩
    rcases List.mem_cons.1 A with rfl | A
    ·exact .inl h3
    ·exact .inr ⟨e',A,E,h3⟩
  ·rename_i hb
   rw[B5 (l:=l)]
   constructor
   ·rintro⟨e',A,E⟩;exact⟨e',List.mem_cons_of_mem _ A,E⟩
   ·rintro⟨e',A,E,h3⟩
    rcases List.mem_cons.1 A with rfl | A
    ·exact absurd E hb
    ·exact⟨e',A,E,h3⟩
theorem Xo:∀{ops:List Oper},once ops=true->∀{j k:Nat} {o o':Oper} {x:Nat},ops[j]? = some o->ops[k]? = some o'->o.dst=some x->o'.dst=some x->j=k
 | [],_,j,k,o,o',x,h,_,_,_=>by simp at h
 | p::l,ho,j,k,o,o',x,O,u,hx,MH=>by
  simp only[once,Bool.and_eq_true]at ho
  cases j with
  | zero =>
   cases k with
   | zero=>rfl
   | succ k =>
    simp at O u
    subst O
    have:=ho.1
    rw[hx]at this
    have A:=List.all_eq_true.1 this o' (List.mem_of_getElem? u)
    simp[MH]at A
  | succ j =>
   cases k with
   | zero =>
    simp at O u
    subst u
    have:=ho.1
    rw[MH]at this
    have A:=List.all_eq_true.1 this o (List.mem_of_getElem? O)
    simp[hx]at A
   | succ k=>exact congrArg (· + 1) (Xo ho.2 (by simpa using O) (by simpa using u) hx MH)
theorem E5 {N:Nat} {ops:List Oper} (h:fits N ops=true) {j:Nat} {o:Oper} (O:ops[j]? = some o):∀x,o.dst=some x->x<N:=fun x hx=>by
 have:=List.all_eq_true.1 h o (List.mem_of_getElem? O)
 rw[hx]at this
 simpa [Nat.blt_eq]using this
structure gm (P:Program) (ac:Env) (ops:List Oper) (nx:Nat) (t0:Tp) (h0:Hp) (D:List En):Prop where
 walked:jl P ops nx t0 h0 D
 len:D.length=ops.length
 once:once ops=true
 fits:fits ac.N ops=true
 top:∀o∈ops,∀x,o.dst=some x->bR t0 x = .top
def Ctx.at_ (C:Ctx) (nx:Nat) (h0:Hp) (D:List En) (ab:Nat->Bool):Ctx :=
 { ρ:=C.ρ,bs:=C.bs,live:=fun m=>(ae (aJ ab D h0) m).isSome=true,kn:=fun m=>m.1<nx\/∃j,ab j=true/\m.1=nx+j,mt:=C.mt,w:=C.w }
section
variable {P:Program} {ac:Env} {ops:List Oper} {nx:Nat} {t0:Tp} {h0:Hp} {D:List En}
theorem gm.entry (aU:gm P ac ops nx t0 h0 D) {j:Nat} {o:Oper} (ho:ops[j]? = some o):∃e,bg D j=some e/\e.dst=o.dst:=by
 have O:=(List.getElem?_eq_some_iff.1 ho).1
 obtain⟨e,G⟩:=EM (D:=D) (j:=j) (by rw[aU.len];exact O)
 obtain⟨bi,o',A,E,h3,h4,_⟩:=aU.walked.get G
 rw[ho]at h3;cases h3
 exact⟨e,G,h4.dst⟩
theorem gm.op (aU:gm P ac ops nx t0 h0 D) {j:Nat} {e:En} (G:bg D j=some e):∃o,ops[j]? = some o/\e.dst=o.dst:=by
 obtain⟨bi,o',A,E,h3,h4,_⟩:=aU.walked.get G
 exact⟨o',h3,h4.dst⟩
theorem gm.pX (aU:gm P ac ops nx t0 h0 D) (ab:Nat->Bool) {i:Nat} {e:En} {x:Nat} (G:bg D i=some e) (hx:e.dst=some x):bR (b3 ab D t0) x=if ab i=true then e.r else .top:=by
 rcases pY ab t0 x D with⟨j,e',A,E,h3⟩ | ⟨A,_⟩
 ·obtain⟨o,ho,hd⟩:=aU.op G
  obtain⟨o',dT,xO⟩:=aU.op A
  have hG:=Xo aU.once ho dT (hd▸hx) (xO▸E)
  subst hG
  rw[G]at A;cases A
  exact h3
 ·exact absurd hx (A i e G)
theorem gm.Db (aU:gm P ac ops nx t0 h0 D) {ab ad:Nat->Bool} {x:Nat} (h:∀j e,bg D j=some e->e.dst=some x->ab j=ad j):bR (b3 ab D t0) x=bR (b3 ad D t0) x:=by
 rcases pY ab t0 x D with⟨j,e,A,E,h3⟩ | ⟨A,E⟩
 ·rw[aU.pX ab A E,aU.pX ad A E,h j e A E]
 ·rcases pY ad t0 x D with⟨j,e,h3,h4,_⟩ | ⟨_,h4⟩
  ·exact absurd h4 (A j e h3)
  ·rw[E,h4]
theorem gm.Qu (aU:gm P ac ops nx t0 h0 D) {bi:List En} {j:Nat} (M:bi.length=j) (G:∀k,k<j->bg bi k=bg D k) {ab:Nat->Bool} (hA:∀k,j<=k->ab k=false) (x:Nat):bR (b3 ab bi t0) x=bR (b3 ab D t0) x:=by
 rcases pY ab t0 x bi with⟨k,e,A,E,h3⟩ | ⟨A,E⟩
 ·have u:=n4 A
  rw[M]at u
  rw[G k u]at A
  rw[h3,aU.pX ab A E]
 ·rcases pY ab t0 x D with⟨k,e,h3,h4,h5⟩ | ⟨_,h4⟩
  ·rcases Nat.lt_or_ge k j with u | u
   ·exact absurd h4 (A k e (by rw[G k u];exact h3))
   ·rw[E,h5,hA k u]
    obtain⟨o,ho,hd⟩:=aU.op h3
    exact aU.top o (List.mem_of_getElem? ho) x (hd▸h4)
  ·rw[E,h4]
theorem aeb {D:List En} {j:Nat} {e:En} (h:bg D j=some e):uJ D j=e.ms:=by simp[uJ,h]
theorem gm.mask (aU:gm P ac ops nx t0 h0 D) {j:Nat} {e:En} {o:Oper} (G:bg D j=some e) (ho:ops[j]? = some o) :
  (∀k,e.ms.testBit k=true->k<j)/\(∀ed∈o.after,Region.binds .any ed=true->e.ms.testBit ed.on=true) /\
  (∀k,e.ms.testBit k=true->∃ed∈o.after,Region.binds .any ed=true/\(ed.on=k\/∃e',bg D ed.on=some e'/\e'.ms.testBit k=true)) /\
  (∀ed∈o.after,Region.binds .any ed=true->∀e',bg D ed.on=some e'->∀m,e'.ms.testBit m=true->e.ms.testBit m=true):=by
 obtain⟨bi,o',A,E,h3,h4,_⟩:=aU.walked.get G
 rw[ho]at h3;cases h3
 have aQ:∀k,e.ms.testBit k=true->k<j:=fun k u=>by
  rcases Nat.lt_or_ge k j with h | h
  ·exact h
  ·have:=Nat.testBit_lt_two_pow (x:=e.ms) (i:=k) (Nat.lt_of_lt_of_le (by rw[<-A];exact h4.lt) (Nat.pow_le_pow_right (by omega) h))
   rw[u]at this;cases this
 have co:∀ed∈o.after,Region.binds .any ed=true->e.ms.testBit ed.on=true:=fun ed d5 hb=>by
  rw[h4.mask]
  exact B5.2 ⟨ed,by simpa using d5,hb,.inl rfl⟩
 refine⟨aQ,co,fun k u => ?_,fun ed d5 hb e' qA m hm => ?_⟩
 ·rw[h4.mask]at u
  obtain⟨ed,d5,hb,BA⟩:=B5.1 u
  refine⟨ed,by simpa using d5,hb,?_⟩
  rcases BA with h | h
  ·exact .inl h
  ·refine .inr ?_
   unfold uJ at h
   cases hx:bg bi ed.on with
   | none=>rw[hx]at h;simp at h
   | some e' =>
    rw[hx]at h
    have FB:=n4 hx
    rw[A]at FB
    rw[E _ FB]at hx
    exact⟨e',hx,h⟩
 ·have M:=aQ _ (co ed d5 hb)
  have hx:bg bi ed.on=some e':=by rw[E _ M];exact qA
  rw[h4.mask]
  exact B5.2 ⟨ed,by simpa using d5,hb,.inr (by rw[aeb hx];exact hm)⟩
theorem gm.trans (aU:gm P ac ops nx t0 h0 D):∀(j:Nat) {k:Nat} {e e':En},bg D j=some e->e.ms.testBit k=true->bg D k=some e'->∀m,e'.ms.testBit m=true->e.ms.testBit m=true:=by
 intro j
 induction j using Nat.strongRecOn with
 | _ j ih =>
  intro k e e' G u qA m hm
  obtain⟨o,ho,_⟩:=aU.op G
  obtain⟨aQ,co,hex,mg⟩:=aU.mask G ho
  obtain⟨ed,d5,hb,BA⟩:=hex k u
  rcases BA with h | ⟨e1,xS,bp⟩
  ·subst h;exact mg ed d5 hb e' qA m hm
  ·exact mg ed d5 hb e1 xS m (ih ed.on (aQ _ (co ed d5 hb)) xS bp qA m hm)
theorem x7 {ab ad:Nat->Bool} {h0:Hp}:∀(D:List En),(∀j,j<D.length->ab j=ad j)->aJ ab D h0=aJ ad D h0
 | [],_=>rfl
 | e::D,h=>by
  simp only[aJ]
  rw[x7 D (fun j O=>h j (by simp;omega)),h D.length (by simp)]
theorem ZS {ab ad:Nat->Bool} {t0:Tp}:∀(D:List En),(∀j,j<D.length->ab j=ad j)->b3 ab D t0=b3 ad D t0
 | [],_=>rfl
 | e::D,h=>by
  simp only[b3]
  rw[ZS D (fun j O=>h j (by simp;omega)),h D.length (by simp)]
theorem vd {ab ad:Nat->Bool} {h0:Hp}:∀(D:List En),(∀j e,bg D j=some e->e.d≠[]->ab j=ad j)->aJ ab D h0=aJ ad D h0
 | [],_=>rfl
 | e::D,h=>by
  have ih:=vd (ab:=ab) (ad:=ad) (h0:=h0) D (fun j e' O hn=>h j e' (by simp only[bg];rw[if_neg (by have:=n4 O;omega)];exact O) hn)
  simp only[aJ]
  rw[ih]
  by_cases hd:e.d=[]
  ·rw[hd];simp only[aD,ite_self]
  ·rw[h D.length e (by simp[bg]) hd]
structure eo (nx:Nat) (D:List En) (L ab:Nat->Bool):Prop where
 sub:∀j,ab j=true->L j=true
 closed:∀j e,ab j=true->bg D j=some e->∀k,e.ms.testBit k=true->ab k=true
 bars:∀j e,L j=true->bg D j=some e->eh (nx+j) e.d=false->ab j=true
structure ey (ac:Env) (nx:Nat) (t0:Tp) (h0:Hp) (D:List En) (L:Nat->Bool) (C:Ctx) (a:Act):Prop where
 lt:∀j,L j=true->j<D.length
 closed:∀j e,L j=true->bg D j=some e->∀k,e.ms.testBit k=true->L k=true
 names:∀j e,L j=true->bg D j=some e->∀m∈e.d.map (·.1),m.1<nx\/∃k,(k=j\/e.ms.testBit k=true)/\m.1=nx+k
 size:a.tmps.size=ac.N
 defers:a.defers=[]
 ok:∀ab,eo nx D L ab->cY (C.at_ nx h0 D ab) (aJ ab D h0)/\fY (C.at_ nx h0 D ab) (b3 ab D t0) a/\mH ac (C.at_ nx h0 D ab)
def eA (L:Nat->Bool) (i:Nat):Nat->Bool:=fun j=>L j||j==i
theorem cI {L:Nat->Bool} {i j:Nat}:eA L i j=true↔L j=true\/j=i:=by simp[eA]
def Ctx.next (C C':Ctx) (n:Nat):Ctx:={ C' with ρ:=fun m=>if m.1=n then C'.ρ m else C.ρ m,bs:=fun m=>if m.1=n then C'.bs m else C.bs m }
theorem mH.of {ac:Env} {C C':Ctx} (h:mH ac C) (hw:C'.w=C.w) (hm:C'.mt=C.mt) (aZ:ac.c0.le C') (hr:∀n,C'.live n->C'.ρ n<ac.w0.heap.size->ac.wr (C'.ρ n)):mH ac C' where
 os:=by rw[hw];exact h.os
 tape:=by rw[hw];exact h.tape
 output:=by rw[hw];exact h.output
 size:=by rw[hw];exact h.size
 same b hb hn:=by rw[hw];exact h.same b hb hn
 mt b hb:=by rw[hm];exact h.mt b hb
 wr:=hr
 le:=aZ
theorem ey.step (aU : gm P ac ops nx t0 h0 D) {L : Nat -> Bool} {C : Ctx} {a : Act} (aB : ey ac nx t0 h0 D L C a) {i : Nat} {e : En} {o : Oper} (G : bg D i = some e) (ho : ops[i]? = some o) (cx : L i = false)
    (co : ∀ k, e.ms.testBit k = true -> L k = true) {bi : List En} (bX : bi.length = i) (qA : ∀ k, k < i -> bg bi k = bg D k) (hs : Shown P ops nx t0 h0 bi e o)
    (h6 : ∀ ab : Nat -> Bool, ab i = true -> (∀ k, i < k -> ab k = false) -> aJ ab D h0 = aD e.d (aJ ab bi h0)) (h5 : aJ e.ms.testBit D h0 = aJ e.ms.testBit bi h0) {Y : Value} {C' : Ctx} (iL : eo nx D L e.ms.testBit)
    (hp : cZ (C.at_ nx h0 D e.ms.testBit) (nx + i) (aJ e.ms.testBit bi h0) e.r e.d Y C') (xU : eh (nx + i) e.d = false -> e.ms + 1 = 2 ^ bi.length) (aQ : eh (nx + i) e.d = false -> ∀ k, L k = true -> k < i \/ ∃ ek, bg D k = some ek /\ ek.d = []) :
    ey ac nx t0 h0 D (eA L i) (C.next C' (nx + i)) (a.put o.dst Y) := by
  obtain ⟨pp, _, _, _⟩ := aU.mask G ho
  have hi : i < D.length := n4 G
  obtain ⟨hH, hT, j3⟩ := aB.ok _ iL
  have j4 : mH ac C' := j3.step hp
  have nameI : ∀ m ∈ e.d.map (·.1), m.1 < nx \/ ∃ k, (k = i \/ e.ms.testBit k = true) /\ m.1 = nx + k := fun m hm => by
    rcases hp.names m hm with h | h
    · rcases hH.kn m h with h | ⟨k, u, h⟩
      · exact .inl h
      · exact .inr ⟨k, .inr u, h⟩
    · exact .inr ⟨i, .inl rfl, h⟩
  have notKnown : ∀ m : Nm, m.1 = nx + i -> ¬ (C.at_ nx h0 D e.ms.testBit).kn m := fun m hm h => by
    rcases h with h | ⟨k, u, h⟩
    · omega
    · have := pp k u; omega
  have mlt' : ∀ k, i <= k -> e.ms.testBit k = false := fun k u => by
    cases h : e.ms.testBit k with
    | false => rfl
    | true => have := pp k h; omega
  have seeNew : ∀ A' : Nat -> Bool, A' i = true -> (∀ j, A' j = true -> eA L i j = true) -> (∀ k, e.ms.testBit k = true -> A' k = true) -> ∀ m : Nm, m.1 = nx + i -> ae (aJ A' D h0) m = ae (aD e.d (aJ e.ms.testBit bi h0)) m := by
    intro A' cF mg FD m hm
    have e1 : ae (aJ A' D h0) m = ae (aJ (eA e.ms.testBit i) D h0) m := xW D fun j ej a8 pk => by
      by_cases dN : j = i
      · subst dN; rw [cF, (cI.2 (.inr rfl) : eA e.ms.testBit j j = true)]
      · have iT : L j = false := by
          cases i4 : L j with
          | false => rfl
          | true =>
            rcases aB.names j ej i4 a8 m pk with h | ⟨k, u, h⟩
            · omega
            · have ob : k = i := by omega
              subst ob
              rcases u with u | u
              · exact absurd u.symm dN
              · rw [aB.closed j ej i4 a8 _ u] at cx; cases cx
        have A : A' j = false := by
          cases h : A' j with
          | false => rfl
          | true => rcases cI.1 (mg j h) with h | h
                    · rw [iT] at h; cases h
                    · exact absurd h dN
        have E : eA e.ms.testBit i j = false := by
          cases h : eA e.ms.testBit i j with
          | false => rfl
          | true => rcases cI.1 h with h | h
                    · rw [co j h] at iT; cases iT
                    · exact absurd h dN
        rw [A, E]
    rw [e1, h6 _ (cI.2 (.inr rfl)) (fun k u => by
      cases h : eA e.ms.testBit i k with
      | false => rfl
      | true => rcases cI.1 h with h | h
                · rw [mlt' k (by omega)] at h; cases h
                · omega), x7 (ab := eA e.ms.testBit i) (ad := e.ms.testBit) bi (fun k u => by
      rw [bX] at u
      simp [eA, Nat.ne_of_lt u])]
  have putOther : ∀ x, o.dst ≠ some x -> (a.put o.dst Y).tmps.getD x undef = a.tmps.getD x undef := fun x hx => by
    cases hd : o.dst with
    | none => simp [Act.put]
    | some d =>
      have L5 : d ≠ x := fun h => hx (by rw [hd, h])
      simp [Act.put, Array.getD_eq_getD_getElem?, Array.getElem?_setIfInBounds_ne L5]
  have putSelf : ∀ x, o.dst = some x -> (a.put o.dst Y).tmps.getD x undef = Y := fun x hx => by
    have O : x < a.tmps.size := by rw [aB.size]; exact E5 aU.fits ho x hx
    rw [hx]
    simp [Act.put, Array.getD, O]
  have seeSlot : ∀ A' ab : Nat -> Bool, (∀ j, j ≠ i -> ab j = A' j) -> ∀ x, o.dst ≠ some x -> bR (b3 A' D t0) x = bR (b3 ab D t0) x := fun A' ab hAA x hx => aU.Db fun j ej a8 hd => by
    refine (hAA j fun dN => hx ?_).symm
    subst dN
    rw [G] at a8; cases a8
    rw [<- hs.dst]; exact hd
  refine ⟨fun j O => ?_, fun j ej O a8 k u => ?_, fun j ej O a8 m hm => ?_, by rw [yU]; exact aB.size, by rw [put_defers]; exact aB.defers, fun A' cF => ?_⟩
  · rcases cI.1 O with h | h
    · exact aB.lt j h
    · omega
  · rcases cI.1 O with h | h
    · exact cI.2 (.inl (aB.closed j ej h a8 k u))
    · subst h; rw [G] at a8; cases a8; exact cI.2 (.inl (co k u))
  · rcases cI.1 O with h | h
    · exact aB.names j ej h a8 m hm
    · subst h; rw [G] at a8; cases a8; exact nameI m hm
  · cases d3 : eh (nx + i) e.d with
    | false =>
      have Bx : e.ms = 2 ^ i - 1 := by
        have := xU d3
        rw [<- bX]; omega
      have Id : ∀ k, k < i -> e.ms.testBit k = true := fun k u => by rw [Bx, Nat.testBit_two_pow_sub_one]; simpa using u
      have dG : A' i = true := cF.bars i e (cI.2 (.inr rfl)) G d3
      have LE : ∀ k, k < i -> A' k = true := fun k u => cF.closed i e dG G k (Id k u)
      have st : ∀ k ek, i < k -> A' k = true -> bg D k = some ek -> ek.d = [] := fun k ek u h d6 => by
        rcases cI.1 (cF.sub k h) with h | h
        · rcases aQ d3 k h with h | ⟨e2, E, h3⟩
          · omega
          · rw [d6] at E; cases E; exact h3
        · omega
      have vc : aJ A' D h0 = aD e.d (aJ e.ms.testBit bi h0) := by
        rw [vd (ab := A') (ad := fun k => A' k && decide (k <= i)) D (fun k ek d6 ay => by
          by_cases u : k <= i
          · simp [u]
          · cases h : A' k with
            | false => simp
            | true => exact absurd (st k ek (by omega) h d6) ay)]
        rw [h6 _ (by simp [dG]) (fun k u => by simp; omega), x7 (ab := fun k => A' k && decide (k <= i)) (ad := e.ms.testBit) bi (fun k u => by rw [bX] at u; simp [LE k u, Id k u, show k <= i by omega])]
      have iZ : C'.le ((C.next C' (nx + i)).at_ nx h0 D A') := by
        refine ⟨Nat.le_refl _, fun _ _ _ => rfl, fun _ _ h => h, fun m hm => ?_, fun m hm M => ?_, fun _ _ _ cs ty h => ⟨cs, ty, h, rfl⟩⟩
        · rcases (hp.kn m).1 hm with (h | ⟨k, u, h⟩) | h
          · exact .inl h
          · exact .inr ⟨k, LE k (pp k u), h⟩
          · exact .inr ⟨i, dG, h⟩
        · have bX : C'.live m := by
            refine (hp.heap.live m).2 ?_
            have : (ae (aJ A' D h0) m).isSome = true := M
            rwa [vc] at this
          refine ⟨bX, ?_⟩
          simp only [Ctx.at_, Ctx.next]
          by_cases ay : m.1 = nx + i
          · rw [if_pos ay, if_pos ay]; exact ⟨rfl, rfl⟩
          · rw [if_neg ay, if_neg ay]
            have q := (hp.le.live m (((hp.kn m).1 hm).resolve_right ay) bX).2
            exact ⟨q.1.symm, q.2.symm⟩
      have live' : ∀ m, ((C.next C' (nx + i)).at_ nx h0 D A').live m ↔ C'.live m := fun m => by
        rw [hp.heap.live m, <- vc]; exact Iff.rfl
      refine ⟨?_, fun x => ?_, ?_⟩
      · rw [vc]
        exact hp.heap.mono iZ live' (fun _ _ => rfl) (fun _ h _ => h)
      · by_cases hx : o.dst = some x
        · rw [aU.pX A' G (by rw [hs.dst]; exact hx), if_pos dG, putSelf x hx]
          exact hp.val.mono iZ
        ·
          let ab : Nat -> Bool := fun j => A' j && !(j == i)
          have iJ : ∀ j, ab j = true ↔ A' j = true /\ j ≠ i := fun j => by simp [ab]
          have hA : eo nx D L ab := by
            refine ⟨fun j O => ?_, fun j ej O a8 k u => ?_, fun j ej O a8 hf => (iJ j).2 ⟨cF.bars j ej (cI.2 (.inl O)) a8 hf, fun h => ?_⟩⟩
            · obtain ⟨A, E⟩ := (iJ j).1 O
              exact (cI.1 (cF.sub j A)).resolve_right E
            · obtain ⟨A, E⟩ := (iJ j).1 O
              refine (iJ k).2 ⟨cF.closed j ej A a8 k u, fun h => ?_⟩
              subst h
              rw [aB.closed j ej ((cI.1 (cF.sub j A)).resolve_right E) a8 _ u] at cx; cases cx
            · subst h; rw [cx] at O; cases O
          obtain ⟨_, oT, _⟩ := aB.ok ab hA
          have sameH : aJ ab D h0 = aJ e.ms.testBit D h0 := vd D fun k ek d6 ay => by
            rcases Nat.lt_trichotomy k i with h | h | h
            · rw [Id k h]; exact (iJ k).2 ⟨LE k h, by omega⟩
            · subst h; rw [mlt' k (Nat.le_refl _)]; simp [ab]
            · rw [mlt' k (by omega)]
              cases E : A' k with
              | false => simp [ab, E]
              | true => exact absurd (st k ek h E d6) ay
          have known : ∀ m, (C.at_ nx h0 D ab).kn m -> ((C.next C' (nx + i)).at_ nx h0 D A').live m -> (C.at_ nx h0 D e.ms.testBit).kn m := fun m hm M => by
            have bX := (live' m).1 M
            rcases (hp.kn m).1 (hp.heap.kn m bX) with h | h
            · exact h
            · exfalso
              rcases hm with g | ⟨k, u, g⟩
              · omega
              · have : k = i := by omega
                exact ((iJ k).1 u).2 this
          have le : (C.at_ nx h0 D ab).le ((C.next C' (nx + i)).at_ nx h0 D A') := by
            refine ⟨hp.le.size, hp.le.same, hp.le.mt, fun m hm => ?_, fun m hm M => ?_, fun m hm M cs ty H => ?_⟩
            · rcases hm with h | ⟨k, u, h⟩
              · exact .inl h
              · exact .inr ⟨k, ((iJ k).1 u).1, h⟩
            · have u := known m hm M
              obtain ⟨g1, g2⟩ := hp.le.live m u ((live' m).1 M)
              refine ⟨?_, ?_⟩
              · show (ae (aJ ab D h0) m).isSome = true
                rw [sameH]; exact g1
              · simp only [Ctx.at_, Ctx.next]
                rw [if_neg (fun h => notKnown m h u), if_neg (fun h => notKnown m h u)]
                exact ⟨rfl, rfl⟩
            · exact hp.le.own m (known m hm M) ((live' m).1 M) cs ty H
          rw [putOther x hx, seeSlot A' ab (fun j O => by simp [ab, O]) x hx]
          exact (oT x).mono le
      · refine j4.of rfl rfl (j4.le.trans iZ) fun m hm hb => ?_
        have m6 := (live' m).1 hm
        rw [(iZ.live m (hp.heap.kn m m6) hm).2.1] at hb ⊢
        exact j4.wr m m6 hb
    | true =>
      have FG : ∀ m ∈ e.d.map (·.1), m.1 = nx + i := E8 d3
      have blocks : ∀ b, b < C.w.heap.size -> C'.w.heap[b]? = C.w.heap[b]? := fun b hb => hp.same b hb fun m hm M => absurd (hH.kn m M) (notKnown m (FG m hm))
      have te : ∀ ab : Nat -> Bool, eo nx D L ab -> ∀ ad : Nat -> Bool, (∀ j, ad j = true -> ab j = true \/ j = i) -> (∀ j, ab j = true -> ad j = true) -> (∀ m : Nm, m.1 ≠ nx + i -> ae (aJ ad D h0) m = ae (aJ ab D h0) m) -> (C.at_ nx h0 D ab).le ((C.next C' (nx + i)).at_ nx h0 D ad) := by
        intro ab hA ad _ hAB Mv
        refine ⟨hp.le.size, hp.le.same, hp.le.mt, fun m hm => ?_, fun m hm M => ?_, fun m hm _ cs ty H => ⟨cs, ty, ?_, rfl⟩⟩
        · rcases hm with h | ⟨k, u, h⟩
          · exact .inl h
          · exact .inr ⟨k, hAB k u, h⟩
        · have ay : m.1 ≠ nx + i := fun h => by
            rcases hm with g | ⟨k, u, g⟩
            · omega
            · have : k = i := by omega
              subst this
              rw [hA.sub k u] at cx; cases cx
          refine ⟨?_, ?_⟩
          · have : (ae (aJ ad D h0) m).isSome = true := M
            rw [Mv m ay] at this
            exact this
          · simp only [Ctx.at_, Ctx.next]; rw [if_neg ay, if_neg ay]; exact ⟨rfl, rfl⟩
        · have hb : C.ρ m < C.w.heap.size := by
            rcases Nat.lt_or_ge (C.ρ m) C.w.heap.size with E | E
            · exact E
            · have : C.w.heap[C.ρ m]? = some (.cells cs ty (0, 0)) := H
              rw [Array.getElem?_eq_none E] at this; cases this
          exact (blocks _ hb).trans H
      cases dG : A' i with
      | false =>
        have hA : eo nx D L A' := by
          refine ⟨fun j O => (cI.1 (cF.sub j O)).resolve_right fun h => ?_, cF.closed, fun j ej O => cF.bars j ej (cI.2 (.inl O))⟩
          subst h; rw [O] at dG; cases dG
        obtain ⟨oH, oT, oF⟩ := aB.ok A' hA
        have le := te A' hA A' (fun j h => .inl h) (fun _ h => h) (fun _ _ => rfl)
        refine ⟨oH.mono le (fun _ => Iff.rfl) (fun m hm => blocks _ (oH.lt hm)) (fun b hb aQ => (hp.mt b aQ).2 hb), fun x => ?_, ?_⟩
        · by_cases hx : o.dst = some x
          · rw [aU.pX A' G (by rw [hs.dst]; exact hx), if_neg (by rw [dG]; simp)]
            trivial
          · rw [putOther x hx]
            exact (oT x).mono le
        · refine j4.of rfl rfl (oF.le.trans le) fun m hm hb => ?_
          rw [(le.live m (oH.kn m hm) hm).2.1] at hb ⊢
          exact oF.wr m hm hb
      | true =>
        let ab : Nat -> Bool := fun j => A' j && !(j == i)
        have iJ : ∀ j, ab j = true ↔ A' j = true /\ j ≠ i := fun j => by simp [ab]
        have hA : eo nx D L ab := by
          refine ⟨fun j O => ?_, fun j ej O a8 k u => ?_, fun j ej O a8 hf => (iJ j).2 ⟨cF.bars j ej (cI.2 (.inl O)) a8 hf, fun h => ?_⟩⟩
          · obtain ⟨A, E⟩ := (iJ j).1 O
            exact (cI.1 (cF.sub j A)).resolve_right E
          · obtain ⟨A, E⟩ := (iJ j).1 O
            refine (iJ k).2 ⟨cF.closed j ej A a8 k u, fun h => ?_⟩
            subst h
            rw [aB.closed j ej ((cI.1 (cF.sub j A)).resolve_right E) a8 _ u] at cx; cases cx
          · subst h; rw [cx] at O; cases O
        obtain ⟨oH, oT, oF⟩ := aB.ok ab hA
        have FD : ∀ k, e.ms.testBit k = true -> ab k = true := fun k u => (iJ k).2 ⟨cF.closed i e dG G k u, fun h => by have := pp k u; omega⟩
        have seeOld : ∀ m : Nm, m.1 ≠ nx + i -> ae (aJ A' D h0) m = ae (aJ ab D h0) m := fun m hm => xW D fun j ej a8 pk => by
          by_cases dN : j = i
          · subst dN; rw [G] at a8; cases a8; exact absurd (FG m pk) hm
          · simp [ab, dN]
        have seeNew' := seeNew A' dG cF.sub (fun k u => ((iJ k).1 (FD k u)).1)
        have gi := te ab hA A' (fun j h => by
          by_cases dN : j = i
          · exact .inr dN
          · exact .inl ((iJ j).2 ⟨h, dN⟩)) (fun j h => ((iJ j).1 h).1) seeOld
        have iZ : C'.le ((C.next C' (nx + i)).at_ nx h0 D A') := by
          refine ⟨Nat.le_refl _, fun _ _ _ => rfl, fun _ _ h => h, fun m hm => ?_, fun m hm M => ?_, fun _ _ _ cs ty h => ⟨cs, ty, h, rfl⟩⟩
          · rcases (hp.kn m).1 hm with (h | ⟨k, u, h⟩) | h
            · exact .inl h
            · exact .inr ⟨k, ((iJ k).1 (FD k u)).1, h⟩
            · exact .inr ⟨i, dG, h⟩
          · have eO : (ae (aJ A' D h0) m).isSome = true := M
            by_cases ay : m.1 = nx + i
            · rw [seeNew' m ay] at eO
              refine ⟨(hp.heap.live m).2 eO, ?_⟩
              simp only [Ctx.at_, Ctx.next]; rw [if_pos ay, if_pos ay]; exact ⟨rfl, rfl⟩
            · have u := ((hp.kn m).1 hm).resolve_right ay
              have e1 : ae (aJ ab D h0) m = ae (aJ e.ms.testBit D h0) m := xW D fun j ej a8 pk => by
                cases i4 : L j with
                | false =>
                  have A : ab j = false := by
                    cases h : ab j with
                    | false => rfl
                    | true => rw [hA.sub j h] at i4; cases i4
                  have E : e.ms.testBit j = false := by
                    cases h : e.ms.testBit j with
                    | false => rfl
                    | true => rw [co j h] at i4; cases i4
                  rw [A, E]
                | true =>
                  cases uZ : eh (nx + j) ej.d with
                  | false => rw [hA.bars j ej i4 a8 uZ, iL.bars j ej i4 a8 uZ]
                  | true =>
                    have agi := E8 uZ m pk
                    have xM : e.ms.testBit j = true := by
                      rcases u with h | ⟨k, u, h⟩
                      · omega
                      · have : k = j := by omega
                        subst this; exact u
                    rw [xM, FD j xM]
              have dJ : (C.at_ nx h0 D e.ms.testBit).live m := by
                show (ae (aJ e.ms.testBit D h0) m).isSome = true
                rw [<- e1, <- seeOld m ay]; exact eO
              have age : (ae (aJ e.ms.testBit bi h0) m).isSome = true := by
                rw [<- h5]; exact dJ
              have bX : C'.live m := (hp.heap.live m).2 (by rw [gw _ _ _ (fun h => ay (FG m h))]; exact age)
              refine ⟨bX, ?_⟩
              simp only [Ctx.at_, Ctx.next]; rw [if_neg ay, if_neg ay]
              exact ⟨(hp.le.live m u bX).2.1.symm, (hp.le.live m u bX).2.2.symm⟩
        have newLive : ∀ m : Nm, m.1 = nx + i -> ((C.next C' (nx + i)).at_ nx h0 D A').live m -> C'.live m /\ ((C.next C' (nx + i)).at_ nx h0 D A').ρ m = C'.ρ m /\ ((C.next C' (nx + i)).at_ nx h0 D A').bs m = C'.bs m := fun m hm M => iZ.live m ((hp.kn m).2 (.inr hm)) M
        have oldLive : ∀ m : Nm, m.1 ≠ nx + i -> ((C.next C' (nx + i)).at_ nx h0 D A').live m -> (C.at_ nx h0 D ab).live m /\ ((C.next C' (nx + i)).at_ nx h0 D A').ρ m = C.ρ m /\ ((C.next C' (nx + i)).at_ nx h0 D A').bs m = C.bs m := fun m hm M => by
          have eO : (ae (aJ A' D h0) m).isSome = true := M
          rw [seeOld m hm] at eO
          exact ⟨eO, by simp only [Ctx.at_, Ctx.next]; rw [if_neg hm], by simp only [Ctx.at_, Ctx.next]; rw [if_neg hm]⟩
        have TS : ∀ m : Nm, m.1 = nx + i -> C'.live m -> C.w.heap.size <= C'.ρ m := fun m hm M => by
          rcases hp.lA m M with ⟨A, _⟩ | A | ⟨m0, afq, A, _⟩
          · exact absurd (hH.kn m A) (notKnown m hm)
          · exact A
          · exact absurd (hH.kn m0 A) (notKnown m0 (FG m0 afq))
        refine ⟨⟨fun m => Iff.rfl, fun m cs Z => ?_, fun m m' hm a0 dH => ?_, fun m hm => ?_, fun m hm => ?_⟩, fun x => ?_, ?_⟩
        · have dJ : ((C.next C' (nx + i)).at_ nx h0 D A').live m := by show (ae (aJ A' D h0) m).isSome = true; rw [Z]; rfl
          by_cases ay : m.1 = nx + i
          · rw [(newLive m ay dJ).2.1, (newLive m ay dJ).2.2]
            rw [seeNew' m ay] at Z
            obtain ⟨arr, ty, ha, H⟩ := hp.heap.obj m cs Z
            exact ⟨arr, ty, ha, fun j c O => by obtain ⟨v, R, cn⟩ := H j c O; exact ⟨v, R, cn.mono iZ⟩⟩
          · rw [(oldLive m ay dJ).2.1, (oldLive m ay dJ).2.2]
            rw [seeOld m ay] at Z
            obtain ⟨arr, ty, ha, H⟩ := oH.obj m cs Z
            exact ⟨arr, ty, (blocks _ (oH.lt (oH.get Z))).trans ha, fun j c O => by obtain ⟨v, R, cn⟩ := H j c O; exact ⟨v, R, cn.mono gi⟩⟩
        · by_cases ay : m.1 = nx + i <;> by_cases Bz : m'.1 = nx + i
          · obtain ⟨l1, r1, _⟩ := newLive m ay hm
            obtain ⟨l2, r2, _⟩ := newLive m' Bz a0
            exact hp.heap.inj m m' l1 l2 (by rw [<- r1, <- r2]; exact dH)
          · obtain ⟨l1, r1, _⟩ := newLive m ay hm
            obtain ⟨l2, r2, _⟩ := oldLive m' Bz a0
            have A := TS m ay l1
            have E : C.ρ m' < C.w.heap.size := oH.lt l2
            rw [r1, r2] at dH; omega
          · obtain ⟨l1, r1, _⟩ := oldLive m ay hm
            obtain ⟨l2, r2, _⟩ := newLive m' Bz a0
            have A := TS m' Bz l2
            have E : C.ρ m < C.w.heap.size := oH.lt l1
            rw [r1, r2] at dH; omega
          · obtain ⟨l1, r1, _⟩ := oldLive m ay hm
            obtain ⟨l2, r2, _⟩ := oldLive m' Bz a0
            exact oH.inj m m' l1 l2 (by show C.ρ m = C.ρ m'; rw [<- r1, <- r2]; exact dH)
        · by_cases ay : m.1 = nx + i
          · obtain ⟨l1, r1, _⟩ := newLive m ay hm
            rw [r1]; exact hp.heap.mt m l1
          · obtain ⟨l1, r1, _⟩ := oldLive m ay hm
            rw [r1]; exact (hp.mt _ (oH.lt l1)).2 (oH.mt m l1)
        · by_cases ay : m.1 = nx + i
          · exact .inr ⟨i, dG, ay⟩
          · obtain ⟨l1, r1, _⟩ := oldLive m ay hm
            exact gi.kn m (oH.kn m l1)
        · by_cases hx : o.dst = some x
          · rw [aU.pX A' G (by rw [hs.dst]; exact hx), if_pos dG, putSelf x hx]
            exact hp.val.mono iZ
          · rw [putOther x hx, seeSlot A' ab (fun j dN => by simp [ab, dN]) x hx]
            exact (oT x).mono gi
        · refine j4.of rfl rfl (j4.le.trans iZ) fun m hm hb => ?_
          by_cases ay : m.1 = nx + i
          · obtain ⟨l1, r1, _⟩ := newLive m ay hm
            rw [r1] at hb ⊢; exact j4.wr m l1 hb
          · obtain ⟨l1, r1, _⟩ := oldLive m ay hm
            rw [r1] at hb ⊢; exact oF.wr m l1 hb
end
end Go.Proofs.Aw
namespace Go.Proofs.Aw
open Go
section
variable {P:Program} {ac:Env} {ops:List Oper} {nx:Nat} {t0:Tp} {h0:Hp} {D:List En}
theorem Hv {a:Act} {d:Option Tmp} {Y:Value} {x:Nat} (hx:d≠some x):(a.put d Y).tmps.getD x undef=a.tmps.getD x undef:=by
 cases hd:d with
 | none=>simp[Act.put]
 | some fE =>
  have L5:fE≠x:=fun h=>hx (by rw[hd,h])
  simp[Act.put,Array.getD_eq_getD_getElem?,Array.getElem?_setIfInBounds_ne L5]
theorem Ph {a:Act} {d:Option Tmp} {Y:Value} {x:Nat} (hx:d=some x) (O:x<a.tmps.size):(a.put d Y).tmps.getD x undef=Y:=by
 rw[hx]
 simp[Act.put,Array.getD,O]
theorem ey.P2 {L:Nat->Bool} {C:Ctx} {a:Act} (_I:ey ac nx t0 h0 D L C a) {ab ad:Nat->Bool} (hA:eo nx D L ab) (hB:eo nx D L ad) {m:Nm} (u:m.1<nx\/∃k,(ab k=true/\ad k=true)/\m.1=nx+k):ae (aJ ab D h0) m=ae (aJ ad D h0) m :=
 xW D fun j ej a8 pk=>by
  cases i4:L j with
  | false =>
   have A:ab j=false:=by
    cases h:ab j with
    | false=>rfl
    | true=>rw[hA.sub j h]at i4;cases i4
   have E:ad j=false:=by
    cases h:ad j with
    | false=>rfl
    | true=>rw[hB.sub j h]at i4;cases i4
   rw[A,E]
  | true =>
   cases uZ:eh (nx+j) ej.d with
   | false=>rw[hA.bars j ej i4 a8 uZ,hB.bars j ej i4 a8 uZ]
   | true =>
    have agi:=E8 uZ m pk
    rcases u with h | ⟨k,⟨bp,dO⟩,h⟩
    ·omega
    ·have:k=j:=by omega
     subst this;rw[bp,dO]
theorem eo.QZ {L:Nat->Bool} {C:Ctx} {a:Act} (aB:ey ac nx t0 h0 D L C a) {i:Nat} (cx:L i=false) {A':Nat->Bool} (cF:eo nx D (eA L i) A'):eo nx D L (fun j=>A' j && !(j==i)):=by
 have Fp:∀j,(fun j=>A' j && !(j==i)) j=true↔A' j=true/\j≠i:=fun j=>by simp
 refine⟨fun j O => ?_,fun j ej O a8 k u => ?_,fun j ej O a8 hf=>(Fp j).2 ⟨cF.bars j ej (cI.2 (.inl O)) a8 hf,fun h => ?_⟩⟩
 ·obtain⟨A,E⟩:=(Fp j).1 O
  exact(cI.1 (cF.sub j A)).resolve_right E
 ·obtain⟨A,E⟩:=(Fp j).1 O
  refine(Fp k).2 ⟨cF.closed j ej A a8 k u,fun h => ?_⟩
  subst h
  rw[aB.closed j ej ((cI.1 (cF.sub j A)).resolve_right E) a8 _ u]at cx;cases cx
 ·subst h;rw[cx]at O;cases O
theorem ey.Zj (aU:gm P ac ops nx t0 h0 D) {L:Nat->Bool} {C:Ctx} {a:Act} (aB:ey ac nx t0 h0 D L C a) {i:Nat} {e:En} {o:Oper} (G:bg D i=some e) (ho:ops[i]? = some o) (j9:e.dst=o.dst) (cx:L i=false)
  (co:∀k,e.ms.testBit k=true->L k=true) (hd:e.d=[]) {ad:Nat->Bool} (hB:eo nx D L ad) (FI:∀A',eo nx D (eA L i) A'->A' i=true->∀k,ad k=true->A' k=true) {Y:Value} {C':Ctx}
  (hp:cZ (C.at_ nx h0 D ad) (nx+i) (aJ ad D h0) e.r [] Y C'):ey ac nx t0 h0 D (eA L i) (C.next C' (nx+i)) (a.put o.dst Y):=by
 have hi:i<D.length:=n4 G
 obtain⟨hH,hT,j3⟩:=aB.ok _ hB
 have j4:mH ac C':=j3.step hp
 have Fe:ad i=false:=by
  cases h:ad i with
  | false=>rfl
  | true=>rw[hB.sub i h]at cx;cases cx
 have blocks:∀b,b<C.w.heap.size->C'.w.heap[b]? = C.w.heap[b]? := fun b hb=>hp.same b hb fun m hm=>by simp at hm
 have knB:∀m:Nm,m.1=nx+i->¬(C.at_ nx h0 D ad).kn m:=fun m hm h=>by
  rcases h with h | ⟨k,u,h⟩
  ·omega
  ·have:k=i:=by omega
   subst this;rw[Fe]at u;cases u
 refine⟨fun j O => ?_,fun j ej O a8 k u => ?_,fun j ej O a8 m hm => ?_,by rw[yU];exact aB.size,by rw[put_defers];exact aB.defers,fun A' cF => ?_⟩
 ·rcases cI.1 O with h | h
  ·exact aB.lt j h
  ·omega
 ·rcases cI.1 O with h | h
  ·exact cI.2 (.inl (aB.closed j ej h a8 k u))
  ·subst h;rw[G]at a8;cases a8;exact cI.2 (.inl (co k u))
 ·rcases cI.1 O with h | h
  ·exact aB.names j ej h a8 m hm
  ·subst h;rw[G]at a8;cases a8;rw[hd]at hm;simp at hm
 ·
  let ab:Nat->Bool:=fun j=>A' j && !(j==i)
  have hA:eo nx D L ab:=eo.QZ aB cx cF
  obtain⟨oH,oT,oF⟩:=aB.ok ab hA
  have rg:∀m:Nm,ae (aJ A' D h0) m=ae (aJ ab D h0) m:=fun m=>xW D fun j ej a8 pk=>by
   by_cases dN:j=i
   ·subst dN;rw[G]at a8;cases a8;rw[hd]at pk;simp at pk
   ·simp[ab,dN]
  have notI:∀m:Nm,(C.at_ nx h0 D ab).live m->m.1≠nx+i:=fun m hm h=>by
   rcases oH.kn m hm with g | ⟨k,u,g⟩
   ·omega
   ·have:k=i:=by omega
    subst this
    simp[ab]at u
  have live':∀m,((C.next C' (nx+i)).at_ nx h0 D A').live m↔(C.at_ nx h0 D ab).live m:=fun m=>by
   show(ae (aJ A' D h0) m).isSome=true↔(ae (aJ ab D h0) m).isSome=true
   rw[rg m]
  have F:∀m,(C.at_ nx h0 D ab).live m->((C.next C' (nx+i)).at_ nx h0 D A').ρ m=C.ρ m:=fun m hm=>by
   simp only[Ctx.at_,Ctx.next];rw[if_neg (notI m hm)]
  have lV:∀m,(C.at_ nx h0 D ab).live m->((C.next C' (nx+i)).at_ nx h0 D A').bs m=C.bs m:=fun m hm=>by
   simp only[Ctx.at_,Ctx.next];rw[if_neg (notI m hm)]
  have gi:(C.at_ nx h0 D ab).le ((C.next C' (nx+i)).at_ nx h0 D A'):=by
   refine⟨hp.le.size,hp.le.same,hp.le.mt,fun m hm => ?_,fun m hm M=>⟨(live' m).1 M,F m ((live' m).1 M),lV m ((live' m).1 M)⟩,fun m hm _ cs ty H=>⟨cs,ty,?_,rfl⟩⟩
   ·rcases hm with h | ⟨k,u,h⟩
    ·exact .inl h
    ·exact .inr ⟨k,by simp[ab]at u;exact u.1,h⟩
   ·have hb:C.ρ m<C.w.heap.size:=by
     rcases Nat.lt_or_ge (C.ρ m) C.w.heap.size with E | E
     ·exact E
     ·have:C.w.heap[C.ρ m]? = some (.cells cs ty (0,0)):=H
      rw[Array.getElem?_eq_none E]at this;cases this
    exact(blocks _ hb).trans H
  by_cases dG:A' i=true
  ·have Uz:=FI A' cF dG
   have afv:∀k,ad k=true->ab k=true:=fun k u=>by
    have ob:k≠i:=fun h=>by subst h;rw[Fe]at u;cases u
    simp[ab,Uz k u,ob]
   have iZ:C'.le ((C.next C' (nx+i)).at_ nx h0 D A'):=by
    refine⟨Nat.le_refl _,fun _ _ _=>rfl,fun _ _ h=>h,fun m hm => ?_,fun m hm M => ?_,fun _ _ _ cs ty h=>⟨cs,ty,h,rfl⟩⟩
    ·rcases(hp.kn m).1 hm with(h | ⟨k,u,h⟩) | h
     ·exact .inl h
     ·exact .inr ⟨k,Uz k u,h⟩
     ·exact .inr ⟨i,dG,h⟩
    ·have eO:=(live' m).1 M
     have ay:=notI m eO
     have u:=((hp.kn m).1 hm).resolve_right ay
     have e1:ae (aJ ab D h0) m=ae (aJ ad D h0) m:=aB.P2 hA hB (by
      rcases u with h | ⟨k,u,h⟩
      ·exact .inl h
      ·exact .inr ⟨k,⟨afv k u,u⟩,h⟩)
     have dJ:C'.live m:=(hp.heap.live m).2 (by
      have:(ae (aJ ab D h0) m).isSome=true:=eO
      rw[e1]at this;exact this)
     exact⟨dJ,by rw[F m eO];exact((hp.le.live m u dJ).2.1).symm,by rw[lV m eO];exact((hp.le.live m u dJ).2.2).symm⟩
   refine⟨⟨fun m=>Iff.rfl,fun m cs Z => ?_,fun m m' hm a0 dH => ?_,fun m hm => ?_,fun m hm => ?_⟩,fun x => ?_,?_⟩
   ·rw[rg m]at Z
    rw[F m (oH.get Z),lV m (oH.get Z)]
    obtain⟨arr,ty,ha,H⟩:=oH.obj m cs Z
    exact⟨arr,ty,(blocks _ (oH.lt (oH.get Z))).trans ha,fun j c O=>by obtain⟨v,R,cn⟩:=H j c O;exact⟨v,R,cn.mono gi⟩⟩
   ·have l1:=(live' m).1 hm
    have l2:=(live' m').1 a0
    rw[F m l1,F m' l2]at dH
    exact oH.inj m m' l1 l2 dH
   ·have l1:=(live' m).1 hm
    rw[F m l1]
    exact(hp.mt _ (oH.lt l1)).2 (oH.mt m l1)
   ·exact gi.kn m (oH.kn m ((live' m).1 hm))
   ·by_cases hx:o.dst=some x
    ·rw[aU.pX A' G (by rw[j9];exact hx),if_pos dG,Ph hx (by rw[aB.size];exact E5 aU.fits ho x hx)]
     exact hp.val.mono iZ
    ·rw[Hv hx,aU.Db (ab:=A') (ad:=ab) (fun j ej a8 uX=>by
      by_cases dN:j=i
      ·subst dN;rw[G]at a8;cases a8;exact absurd (by rw[<-j9];exact uX) hx
      ·simp[ab,dN])]
     exact(oT x).mono gi
   ·refine j4.of rfl rfl (oF.le.trans gi) fun m hm hb => ?_
    have l1:=(live' m).1 hm
    rw[F m l1]at hb ⊢
    exact oF.wr m l1 hb
  ·have aur:A' i=false:=by simpa using dG
   refine⟨⟨fun m=>Iff.rfl,fun m cs Z => ?_,fun m m' hm a0 dH => ?_,fun m hm => ?_,fun m hm => ?_⟩,fun x => ?_,?_⟩
   ·rw[rg m]at Z
    rw[F m (oH.get Z),lV m (oH.get Z)]
    obtain⟨arr,ty,ha,H⟩:=oH.obj m cs Z
    exact⟨arr,ty,(blocks _ (oH.lt (oH.get Z))).trans ha,fun j c O=>by obtain⟨v,R,cn⟩:=H j c O;exact⟨v,R,cn.mono gi⟩⟩
   ·have l1:=(live' m).1 hm
    have l2:=(live' m').1 a0
    rw[F m l1,F m' l2]at dH
    exact oH.inj m m' l1 l2 dH
   ·have l1:=(live' m).1 hm
    rw[F m l1]
    exact(hp.mt _ (oH.lt l1)).2 (oH.mt m l1)
   ·exact gi.kn m (oH.kn m ((live' m).1 hm))
   ·by_cases hx:o.dst=some x
    ·rw[aU.pX A' G (by rw[j9];exact hx),if_neg dG]
     simp only[aj]
    ·rw[Hv hx,aU.Db (ab:=A') (ad:=ab) (fun j ej a8 uX=>by
      by_cases dN:j=i
      ·subst dN;rw[G]at a8;cases a8;exact absurd (by rw[<-j9];exact uX) hx
      ·simp[ab,dN])]
     exact(oT x).mono gi
   ·refine j4.of rfl rfl (oF.le.trans gi) fun m hm hb => ?_
    have l1:=(live' m).1 hm
    rw[F m l1]at hb ⊢
    exact oF.wr m l1 hb
theorem UK:∀(d:Dl),(∀p∈d,p.2.isSome=true)->∀(h:Hp) (m:Nm),m∈d.map (·.1)->(ae (aD d h) m).isSome=true
 | [],_,_,m,hm=>by simp at hm
 | (k,none)::d,hd,_,_,_=>by have:=hd (k,none) List.mem_cons_self;cases this
 | (k,some v)::d,hd,h,m,hm=>by
  simp only[aD]
  by_cases c:m∈d.map (·.1)
  ·exact UK d (fun p hp=>hd p (List.mem_cons_of_mem _ hp)) _ m c
  ·have u:k=m:=by
    simp only[List.map_cons,List.mem_cons]at hm
    rcases hm with A | A
    ·exact A.symm
    ·exact absurd A c
   rw[gw d _ _ c,dI,if_pos u];rfl
theorem ey.arQ (aU:gm P ac ops nx t0 h0 D) {L:Nat->Bool} {C:Ctx} {a:Act} (aB:ey ac nx t0 h0 D L C a) {i:Nat} {e:En} {o:Oper} (G:bg D i=some e) (ho:ops[i]? = some o) (j9:e.dst=o.dst) (cx:L i=false)
  (co:∀k,e.ms.testBit k=true->L k=true) (hd:∀p∈e.d,p.2.isSome=true/\p.1.1≠nx+i) (d3:eh (nx+i) e.d=false) (aQ:∀k,L k=true->k<i\/∃ek,bg D k=some ek/\ek.d=[]) {bi:List En}
  (h6:∀ab:Nat->Bool,ab i=true->(∀k,i<k->ab k=false)->aJ ab D h0=aD e.d (aJ ab bi h0)) (h5:∀ab:Nat->Bool,(∀k,i<=k->ab k=false)->aJ ab D h0=aJ ab bi h0) (bX:bi.length=i)
  (iL:eo nx D L e.ms.testBit) {Y:Value} {C':Ctx} (hp:cZ (C.at_ nx h0 D e.ms.testBit) (nx+i) (aJ e.ms.testBit D h0) e.r e.d Y C'):ey ac nx t0 h0 D (eA L i) (C.next C' (nx+i)) (a.put o.dst Y):=by
 have hi:i<D.length:=n4 G
 obtain⟨hH,hT,j3⟩:=aB.ok _ iL
 have j4:mH ac C':=j3.step hp
 have FC:∀m,m∈e.d.map (·.1)->m.1≠nx+i:=fun m hm=>by
  obtain⟨p,hp,rfl⟩:=List.mem_map.1 hm
  exact(hd p hp).2
 have Bw:∀m,m∈e.d.map (·.1)->(C.at_ nx h0 D e.ms.testBit).live m:=fun m hm=>by
  rcases hp.names m hm with h | h
  ·exact h
  ·exact absurd h (FC m hm)
 have sJ:=fun m hm=>hH.kn m (Bw m hm)
 have d8:∀(h:Hp) m,m∈e.d.map (·.1)->(ae (aD e.d h) m).isSome=true:=fun h m hm=>UK _ (fun p hp=>(hd p hp).1) h m hm
 have Mj:∀m,m∈e.d.map (·.1)->C'.live m:=fun m hm=>(hp.heap.live m).2 (d8 _ m hm)
 have agx:∀m,m∈e.d.map (·.1)->C'.ρ m=C.ρ m:=fun m hm=>(hp.le.live m (sJ m hm) (Mj m hm)).2.1
 have afL:∀m,m∈e.d.map (·.1)->C'.bs m=C.bs m:=fun m hm=>(hp.le.live m (sJ m hm) (Mj m hm)).2.2
 have blocks:∀b,b<C.w.heap.size->(∀m,m∈e.d.map (·.1)->b≠C.ρ m)->C'.w.heap[b]? = C.w.heap[b]? := fun b hb ay=>hp.same b hb fun m hm _=>ay m hm
 refine⟨fun j O => ?_,fun j ej O a8 k u => ?_,fun j ej O a8 m hm => ?_,by rw[yU];exact aB.size,by rw[put_defers];exact aB.defers,fun A' cF => ?_⟩
 ·rcases cI.1 O with h | h
  ·exact aB.lt j h
  ·omega
 ·rcases cI.1 O with h | h
  ·exact cI.2 (.inl (aB.closed j ej h a8 k u))
  ·subst h;rw[G]at a8;cases a8;exact cI.2 (.inl (co k u))
 ·rcases cI.1 O with h | h
  ·exact aB.names j ej h a8 m hm
  ·subst h;rw[G]at a8;cases a8
   rcases sJ m hm with h | ⟨k,u,h⟩
   ·exact .inl h
   ·exact .inr ⟨k,.inr u,h⟩
 ·have dG:A' i=true:=cF.bars i e (cI.2 (.inr rfl)) G d3
  let ab:Nat->Bool:=fun j=>A' j && !(j==i)
  have hA:eo nx D L ab:=eo.QZ aB cx cF
  obtain⟨oH,oT,oF⟩:=aB.ok ab hA
  have st:∀k ek,i<k->A' k=true->bg D k=some ek->ek.d=[]:=fun k ek u h d6=>by
   rcases cI.1 (cF.sub k h)with h | h
   ·rcases aQ k h with h | ⟨e2,E,h3⟩
    ·omega
    ·rw[d6]at E;cases E;exact h3
   ·omega
  have vc:aJ A' D h0=aD e.d (aJ ab D h0):=by
   have e1:aJ A' D h0=aJ (fun k=>A' k&&decide (k<=i)) D h0:=vd D fun k ek d6 ay=>by
    by_cases u:k<=i
    ·simp[u]
    ·cases h:A' k with
     | false=>simp
     | true=>exact absurd (st k ek (by omega) h d6) ay
   have e2:aJ ab D h0=aJ (fun k=>ab k&&decide (k<=i)) D h0:=vd D fun k ek d6 ay=>by
    by_cases u:k<=i
    ·simp[u]
    ·cases h:A' k with
     | false=>simp[ab,h]
     | true=>exact absurd (st k ek (by omega) h d6) ay
   rw[e1,e2,h6 _ (by simp[dG]) (fun k u=>by simp;omega),h5 (fun k=>ab k&&decide (k<=i)) (fun k u=>by
    rcases Nat.lt_or_eq_of_le u with h | h
    ·simp;omega
    ·subst h;simp[ab])]
   congr 1
   exact x7 bi fun j O=>by
    rw[bX]at O
    simp[ab,Nat.ne_of_lt O,Nat.le_of_lt O]
  have rg:∀m:Nm,ae (aJ A' D h0) m=ae (aD e.d (aJ ab D h0)) m:=fun m=>by rw[vc]
  have NE:∀k,e.ms.testBit k=true->ab k=true:=fun k u=>by
   have A:=cF.closed i e dG G k u
   have ob:k≠i:=fun h=>by subst h;rw[co _ u]at cx;cases cx
   simp[ab,A,ob]
  have alike:∀m:Nm,(C.at_ nx h0 D e.ms.testBit).kn m->ae (aJ ab D h0) m=ae (aJ e.ms.testBit D h0) m:=fun m u=>aB.P2 hA iL (by
   rcases u with h | ⟨k,u,h⟩
   ·exact .inl h
   ·exact .inr ⟨k,⟨NE k u,u⟩,h⟩)
  have sI:∀m,m∈e.d.map (·.1)->(C.at_ nx h0 D ab).live m:=fun m hm=>by
   show(ae (aJ ab D h0) m).isSome=true
   rw[alike m (sJ m hm)];exact Bw m hm
  have notI:∀m:Nm,(C.at_ nx h0 D ab).live m->m.1≠nx+i:=fun m hm h=>by
   rcases oH.kn m hm with g | ⟨k,u,g⟩
   ·omega
   ·have:k=i:=by omega
    subst this
    simp[ab]at u
  have live':∀m,((C.next C' (nx+i)).at_ nx h0 D A').live m↔(C.at_ nx h0 D ab).live m:=fun m=>by
   show(ae (aJ A' D h0) m).isSome=true↔(ae (aJ ab D h0) m).isSome=true
   rw[rg m]
   rcases m4 m e.d (aJ ab D h0)with⟨hm,_⟩ | ⟨_,h⟩
   ·exact⟨fun _=>sI m hm,fun _=>d8 _ m hm⟩
   ·rw[h]
  have F:∀m,(C.at_ nx h0 D ab).live m->((C.next C' (nx+i)).at_ nx h0 D A').ρ m=C.ρ m:=fun m hm=>by
   simp only[Ctx.at_,Ctx.next];rw[if_neg (notI m hm)]
  have lV:∀m,(C.at_ nx h0 D ab).live m->((C.next C' (nx+i)).at_ nx h0 D A').bs m=C.bs m:=fun m hm=>by
   simp only[Ctx.at_,Ctx.next];rw[if_neg (notI m hm)]
  have gV:∀{b:Nat} {cs:Array Value} {ty:TypeId},C.w.heap[b]? = some (.cells cs ty (0,0))->b<C.w.heap.size:=fun {b cs ty} H=>by
   rcases Nat.lt_or_ge b C.w.heap.size with E | E
   ·exact E
   ·rw[Array.getElem?_eq_none E]at H;cases H
  have gi:(C.at_ nx h0 D ab).le ((C.next C' (nx+i)).at_ nx h0 D A'):=by
   refine⟨hp.le.size,hp.le.same,hp.le.mt,fun m hm => ?_,fun m hm M=>⟨(live' m).1 M,F m ((live' m).1 M),lV m ((live' m).1 M)⟩,fun m hm _ cs ty H => ?_⟩
   ·rcases hm with h | ⟨k,u,h⟩
    ·exact .inl h
    ·exact .inr ⟨k,by simp[ab]at u;exact u.1,h⟩
   ·have dA:C.w.heap[C.ρ m]? = some (.cells cs ty (0,0)):=H
    by_cases ld:∃m0,m0∈e.d.map (·.1)/\C.ρ m=C.ρ m0
    ·obtain⟨m0,md,ld⟩:=ld
     have:=hp.le.own m0 (sJ m0 md) (Mj m0 md) cs ty (show C.w.heap[C.ρ m0]? = some (.cells cs ty (0,0))from by rw[<-ld];exact dA)
     obtain⟨bn,ty',A,E⟩:=this
     exact⟨bn,ty',by show C'.w.heap[C.ρ m]? = _;rw[ld];exact A,E⟩
    ·exact⟨cs,ty,(blocks _ (gV dA) fun m0 md h=>ld ⟨m0,md,h⟩).trans dA,rfl⟩
  have iZ:C'.le ((C.next C' (nx+i)).at_ nx h0 D A'):=by
   refine⟨Nat.le_refl _,fun _ _ _=>rfl,fun _ _ h=>h,fun m hm => ?_,fun m hm M => ?_,fun _ _ _ cs ty h=>⟨cs,ty,h,rfl⟩⟩
   ·rcases(hp.kn m).1 hm with(h | ⟨k,u,h⟩) | h
    ·exact .inl h
    ·exact .inr ⟨k,cF.closed i e dG G k u,h⟩
    ·exact .inr ⟨i,dG,h⟩
   ·have eO:=(live' m).1 M
    have ay:=notI m eO
    have u:=((hp.kn m).1 hm).resolve_right ay
    have dJ:C'.live m:=(hp.heap.live m).2 (by
     have A:(ae (aJ ab D h0) m).isSome=true:=eO
     rw[alike m u]at A
     rcases m4 m e.d (aJ e.ms.testBit D h0)with⟨hm,_⟩ | ⟨_,h⟩
     ·exact d8 _ m hm
     ·rw[h];exact A)
    exact⟨dJ,by rw[F m eO];exact((hp.le.live m u dJ).2.1).symm,by rw[lV m eO];exact((hp.le.live m u dJ).2.2).symm⟩
  refine⟨⟨fun m=>Iff.rfl,fun m cs Z => ?_,fun m m' hm a0 dH => ?_,fun m hm => ?_,fun m hm => ?_⟩,fun x => ?_,?_⟩
  ·rw[rg m]at Z
   rcases m4 m e.d (aJ ab D h0)with⟨hm,af5⟩ | ⟨h,m9⟩
   ·rw[F m (sI m hm),<-agx m hm,lV m (sI m hm),<-afL m hm]
    obtain⟨arr,ty,ha,H⟩:=hp.heap.obj m cs (by rw[<-Z];exact(af5 _).symm)
    exact⟨arr,ty,ha,fun j c O=>by obtain⟨v,R,cn⟩:=H j c O;exact⟨v,R,cn.mono iZ⟩⟩
   ·rw[m9]at Z
    have m6:=oH.get Z
    rw[F m m6,lV m m6]
    obtain⟨arr,ty,ha,H⟩:=oH.obj m cs Z
    have xN:∀m0,m0∈e.d.map (·.1)->C.ρ m≠C.ρ m0:=fun m0 md W=>h (by rw[oH.inj m m0 m6 (sI m0 md) W];exact md)
    exact⟨arr,ty,(blocks _ (oH.lt m6) xN).trans ha,fun j c O=>by obtain⟨v,R,cn⟩:=H j c O;exact⟨v,R,cn.mono gi⟩⟩
  ·have l1:=(live' m).1 hm
   have l2:=(live' m').1 a0
   rw[F m l1,F m' l2]at dH
   exact oH.inj m m' l1 l2 dH
  ·have l1:=(live' m).1 hm
   rw[F m l1]
   exact(hp.mt _ (oH.lt l1)).2 (oH.mt m l1)
  ·exact gi.kn m (oH.kn m ((live' m).1 hm))
  ·by_cases hx:o.dst=some x
   ·rw[aU.pX A' G (by rw[j9];exact hx),if_pos dG,Ph hx (by rw[aB.size];exact E5 aU.fits ho x hx)]
    exact hp.val.mono iZ
   ·rw[Hv hx,aU.Db (ab:=A') (ad:=ab) (fun j ej a8 uX=>by
     by_cases dN:j=i
     ·subst dN;rw[G]at a8;cases a8;exact absurd (by rw[<-j9];exact uX) hx
     ·simp[ab,dN])]
    exact(oT x).mono gi
  ·refine j4.of rfl rfl (oF.le.trans gi) fun m hm hb => ?_
   have l1:=(live' m).1 hm
   rw[F m l1]at hb ⊢
   exact oF.wr m l1 hb
end
end Go.Proofs.Aw
namespace Go.Proofs.Aw
open Go
section
variable {P:Program} {ac:Env} {ops:List Oper} {nx:Nat} {t0:Tp} {h0:Hp} {D:List En}
theorem ey.arO (aU:gm P ac ops nx t0 h0 D) {L:Nat->Bool} {C:Ctx} {a:Act} (aB:ey ac nx t0 h0 D L C a) {i:Nat} {e:En} {o:Oper} (G:bg D i=some e) (ho:ops[i]? = some o) (j9:e.dst=o.dst) (cx:L i=false)
  (co:∀k,e.ms.testBit k=true->L k=true) {m0 q:Nm} {Ko:List AV} (hd:e.d=[(m0,none),(q,some Ko)]) (FC:m0.1≠nx+i) (u_:q.1=nx+i) (d3:eh (nx+i) e.d=false) (aQ:∀k,L k=true->k<i\/∃ek,bg D k=some ek/\ek.d=[]) {bi:List En}
  (h6:∀ab:Nat->Bool,ab i=true->(∀k,i<k->ab k=false)->aJ ab D h0=aD e.d (aJ ab bi h0)) (h5:∀ab:Nat->Bool,(∀k,i<=k->ab k=false)->aJ ab D h0=aJ ab bi h0) (bX:bi.length=i)
  (iL:eo nx D L e.ms.testBit) {Y:Value} {C':Ctx} (hp:cZ (C.at_ nx h0 D e.ms.testBit) (nx+i) (aJ e.ms.testBit D h0) e.r e.d Y C'):ey ac nx t0 h0 D (eA L i) (C.next C' (nx+i)) (a.put o.dst Y):=by
 have hi:i<D.length:=n4 G
 obtain⟨hH,hT,j3⟩:=aB.ok _ iL
 have j4:mH ac C':=j3.step hp
 have hqm:q≠m0:=fun h=>FC (by rw[<-h];exact u_)
 have Bw:(C.at_ nx h0 D e.ms.testBit).live m0:=by
  rcases hp.names m0 (by rw[hd];simp)with h | h
  ·exact h
  ·exact absurd h FC
 have sJ:=hH.kn m0 Bw
 have hJ:C'.live q:=(hp.heap.live q).2 (by rw[hd];simp[aD,dI])
 have Mq:¬(C.at_ nx h0 D e.ms.testBit).live q:=fun h=>by
  rcases hH.kn q h with g | ⟨k,u,g⟩
  ·omega
  ·have:k=i:=by omega
   subst this
   rw[co _ u]at cx;cases cx
 have blocks:∀b,b<C.w.heap.size->b≠C.ρ m0->C'.w.heap[b]? = C.w.heap[b]? := fun b hb ay=>hp.same b hb fun m hm sK=>by
  rw[hd]at hm
  simp at hm
  rcases hm with rfl | rfl
  ·exact ay
  ·exact absurd sK Mq
 refine⟨fun j O => ?_,fun j ej O a8 k u => ?_,fun j ej O a8 m hm => ?_,by rw[yU];exact aB.size,by rw[put_defers];exact aB.defers,fun A' cF => ?_⟩
 ·rcases cI.1 O with h | h
  ·exact aB.lt j h
  ·omega
 ·rcases cI.1 O with h | h
  ·exact cI.2 (.inl (aB.closed j ej h a8 k u))
  ·subst h;rw[G]at a8;cases a8;exact cI.2 (.inl (co k u))
 ·rcases cI.1 O with h | h
  ·exact aB.names j ej h a8 m hm
  ·subst h;rw[G]at a8;cases a8
   rw[hd]at hm
   simp at hm
   rcases hm with rfl | rfl
   ·rcases sJ with h | ⟨k,u,h⟩
    ·exact .inl h
    ·exact .inr ⟨k,.inr u,h⟩
   ·exact .inr ⟨_,.inl rfl,u_⟩
 ·have dG:A' i=true:=cF.bars i e (cI.2 (.inr rfl)) G d3
  let ab:Nat->Bool:=fun j=>A' j && !(j==i)
  have hA:eo nx D L ab:=eo.QZ aB cx cF
  obtain⟨oH,oT,oF⟩:=aB.ok ab hA
  have st:∀k ek,i<k->A' k=true->bg D k=some ek->ek.d=[]:=fun k ek u h d6=>by
   rcases cI.1 (cF.sub k h)with h | h
   ·rcases aQ k h with h | ⟨e2,E,h3⟩
    ·omega
    ·rw[d6]at E;cases E;exact h3
   ·omega
  have vc:aJ A' D h0=aD e.d (aJ ab D h0):=by
   have e1:aJ A' D h0=aJ (fun k=>A' k&&decide (k<=i)) D h0:=vd D fun k ek d6 ay=>by
    by_cases u:k<=i
    ·simp[u]
    ·cases h:A' k with
     | false=>simp
     | true=>exact absurd (st k ek (by omega) h d6) ay
   have e2:aJ ab D h0=aJ (fun k=>ab k&&decide (k<=i)) D h0:=vd D fun k ek d6 ay=>by
    by_cases u:k<=i
    ·simp[u]
    ·cases h:A' k with
     | false=>simp[ab,h]
     | true=>exact absurd (st k ek (by omega) h d6) ay
   rw[e1,e2,h6 _ (by simp[dG]) (fun k u=>by simp;omega),h5 (fun k=>ab k&&decide (k<=i)) (fun k u=>by
    rcases Nat.lt_or_eq_of_le u with h | h
    ·simp;omega
    ·subst h;simp[ab])]
   congr 1
   exact x7 bi fun j O=>by
    rw[bX]at O
    simp[ab,Nat.ne_of_lt O,Nat.le_of_lt O]
  have rg:∀m:Nm,ae (aJ A' D h0) m=if q=m then some Ko else if m0=m then none else ae (aJ ab D h0) m:=fun m=>by
   rw[vc,hd]
   simp only[aD,dI,u3]
  have NE:∀k,e.ms.testBit k=true->ab k=true:=fun k u=>by
   have A:=cF.closed i e dG G k u
   have ob:k≠i:=fun h=>by subst h;rw[co _ u]at cx;cases cx
   simp[ab,A,ob]
  have alike:∀m:Nm,(C.at_ nx h0 D e.ms.testBit).kn m->ae (aJ ab D h0) m=ae (aJ e.ms.testBit D h0) m:=fun m u=>aB.P2 hA iL (by
   rcases u with h | ⟨k,u,h⟩
   ·exact .inl h
   ·exact .inr ⟨k,⟨NE k u,u⟩,h⟩)
  have sI:(C.at_ nx h0 D ab).live m0:=by
   show(ae (aJ ab D h0) m0).isSome=true
   rw[alike m0 sJ];exact Bw
  have notI:∀m:Nm,(C.at_ nx h0 D ab).kn m->m.1≠nx+i:=fun m hm h=>by
   rcases hm with g | ⟨k,u,g⟩
   ·omega
   ·have:k=i:=by omega
    subst this
    simp[ab]at u
  have live':∀m,((C.next C' (nx+i)).at_ nx h0 D A').live m↔m=q\/(m≠m0/\(C.at_ nx h0 D ab).live m):=fun m=>by
   show(ae (aJ A' D h0) m).isSome=true↔_\/(_/\(ae (aJ ab D h0) m).isSome=true)
   rw[rg m]
   by_cases A:q=m
   ·subst A;simp
   ·rw[if_neg A]
    by_cases E:m0=m
    ·subst E;simp[Ne.symm A]
    ·rw[if_neg E];simp[Ne.symm A,Ne.symm E]
  have F:∀m,(C.at_ nx h0 D ab).kn m->((C.next C' (nx+i)).at_ nx h0 D A').ρ m=C.ρ m:=fun m hm=>by
   simp only[Ctx.at_,Ctx.next];rw[if_neg (notI m hm)]
  have zJ:((C.next C' (nx+i)).at_ nx h0 D A').ρ q=C'.ρ q:=by
   simp only[Ctx.at_,Ctx.next];rw[if_pos u_]
  have lV:∀m,(C.at_ nx h0 D ab).kn m->((C.next C' (nx+i)).at_ nx h0 D A').bs m=C.bs m:=fun m hm=>by
   simp only[Ctx.at_,Ctx.next];rw[if_neg (notI m hm)]
  have Sb:((C.next C' (nx+i)).at_ nx h0 D A').bs q=C'.bs q:=by
   simp only[Ctx.at_,Ctx.next];rw[if_pos u_]
  have gV:∀{b:Nat} {cs:Array Value} {ty:TypeId},C.w.heap[b]? = some (.cells cs ty (0,0))->b<C.w.heap.size:=fun {b cs ty} H=>by
   rcases Nat.lt_or_ge b C.w.heap.size with E | E
   ·exact E
   ·rw[Array.getElem?_eq_none E]at H;cases H
  have gi:(C.at_ nx h0 D ab).le ((C.next C' (nx+i)).at_ nx h0 D A'):=by
   have te:∀m,(C.at_ nx h0 D ab).kn m->((C.next C' (nx+i)).at_ nx h0 D A').live m->m≠m0/\(C.at_ nx h0 D ab).live m:=fun m hm M=>by
    rcases(live' m).1 M with rfl | h
    ·exact absurd u_ (notI _ hm)
    ·exact h
   refine⟨hp.le.size,hp.le.same,hp.le.mt,fun m hm => ?_,fun m hm M=>⟨(te m hm M).2,F m hm,lV m hm⟩,fun m hm M cs ty H => ?_⟩
   ·rcases hm with h | ⟨k,u,h⟩
    ·exact .inl h
    ·exact .inr ⟨k,by simp[ab]at u;exact u.1,h⟩
   ·have dA:C.w.heap[C.ρ m]? = some (.cells cs ty (0,0)):=H
    obtain⟨ay,sK⟩:=te m hm M
    have ld:C.ρ m≠C.ρ m0:=fun W=>ay (oH.inj m m0 sK sI W)
    exact⟨cs,ty,(blocks _ (gV dA) ld).trans dA,rfl⟩
  have iZ:C'.le ((C.next C' (nx+i)).at_ nx h0 D A'):=by
   refine⟨Nat.le_refl _,fun _ _ _=>rfl,fun _ _ h=>h,fun m hm => ?_,fun m hm M => ?_,fun _ _ _ cs ty h=>⟨cs,ty,h,rfl⟩⟩
   ·rcases(hp.kn m).1 hm with(h | ⟨k,u,h⟩) | h
    ·exact .inl h
    ·exact .inr ⟨k,cF.closed i e dG G k u,h⟩
    ·exact .inr ⟨i,dG,h⟩
   ·rcases(live' m).1 M with rfl | ⟨ay,eO⟩
    ·exact⟨hJ,zJ,Sb⟩
    ·have Md:=oH.kn m eO
     have U_:=notI m Md
     have u:=((hp.kn m).1 hm).resolve_right U_
     have dJ:C'.live m:=(hp.heap.live m).2 (by
      have A:(ae (aJ ab D h0) m).isSome=true:=eO
      rw[alike m u]at A
      rw[hd]
      simp only[aD,dI,u3]
      rw[if_neg (fun h=>U_ (by rw[<-h];exact u_)),if_neg (Ne.symm ay)]
      exact A)
     exact⟨dJ,by rw[F m Md];exact((hp.le.live m u dJ).2.1).symm,by rw[lV m Md];exact((hp.le.live m u dJ).2.2).symm⟩
  have apart:∀m,m≠m0->(C.at_ nx h0 D ab).live m->C'.ρ q≠C.ρ m:=fun m ay sK dH=>by
   rcases hp.lA q hJ with⟨h,_⟩ | h | ⟨m1,dB,sF,h⟩
   ·exact Mq h
   ·have:=oH.lt sK
    have h':C.w.heap.size<=C'.ρ q:=h
    have aun:C.ρ m<C.w.heap.size:=this
    omega
   ·rw[hd]at dB
    simp at dB
    rcases dB with rfl | rfl
    ·exact ay (oH.inj m m1 sK sI (show C.ρ m=C.ρ m1 by rw[<-dH];exact h))
    ·exact Mq sF
  refine⟨⟨fun m=>Iff.rfl,fun m cs Z => ?_,fun m m' hm a0 dH => ?_,fun m hm => ?_,fun m hm => ?_⟩,fun x => ?_,?_⟩
  ·rw[rg m]at Z
   split at Z
   ·rename_i h;subst h
    cases Z
    rw[zJ,Sb]
    obtain⟨arr,ty,ha,H⟩:=hp.heap.obj q Ko (by rw[hd];simp[aD,dI])
    exact⟨arr,ty,ha,fun j c O=>by obtain⟨v,R,cn⟩:=H j c O;exact⟨v,R,cn.mono iZ⟩⟩
   ·split at Z
    ·cases Z
    ·rename_i h
     have m6:=oH.get Z
     rw[F m (oH.kn m m6),lV m (oH.kn m m6)]
     obtain⟨arr,ty,ha,H⟩:=oH.obj m cs Z
     have xN:C.ρ m≠C.ρ m0:=fun W=>h (oH.inj m m0 m6 sI W).symm
     exact⟨arr,ty,(blocks _ (oH.lt m6) xN).trans ha,fun j c O=>by obtain⟨v,R,cn⟩:=H j c O;exact⟨v,R,cn.mono gi⟩⟩
  ·rcases(live' m).1 hm with rfl | ⟨n1,l1⟩<;>rcases(live' m').1 a0 with h | ⟨n2,l2⟩
   ·exact h.symm
   ·rw[zJ,F m' (oH.kn m' l2)]at dH
    exact absurd dH (apart m' n2 l2)
   ·subst h
    rw[zJ,F m (oH.kn m l1)]at dH
    exact absurd dH.symm (apart m n1 l1)
   ·rw[F m (oH.kn m l1),F m' (oH.kn m' l2)]at dH
    exact oH.inj m m' l1 l2 dH
  ·rcases(live' m).1 hm with rfl | ⟨n1,l1⟩
   ·rw[zJ];exact hp.heap.mt _ hJ
   ·rw[F m (oH.kn m l1)]
    exact(hp.mt _ (oH.lt l1)).2 (oH.mt m l1)
  ·rcases(live' m).1 hm with rfl | ⟨n1,l1⟩
   ·exact .inr ⟨i,dG,u_⟩
   ·exact gi.kn m (oH.kn m l1)
  ·by_cases hx:o.dst=some x
   ·rw[aU.pX A' G (by rw[j9];exact hx),if_pos dG,Ph hx (by rw[aB.size];exact E5 aU.fits ho x hx)]
    exact hp.val.mono iZ
   ·rw[Hv hx,aU.Db (ab:=A') (ad:=ab) (fun j ej a8 uX=>by
     by_cases dN:j=i
     ·subst dN;rw[G]at a8;cases a8;exact absurd (by rw[<-j9];exact uX) hx
     ·simp[ab,dN])]
    exact(oT x).mono gi
  ·refine j4.of rfl rfl (oF.le.trans gi) fun m hm hb => ?_
   rcases(live' m).1 hm with rfl | ⟨n1,l1⟩
   ·rw[zJ]at hb ⊢
    exact j4.wr _ hJ hb
   ·rw[F m (oH.kn m l1)]at hb ⊢
    exact oF.wr m l1 hb
end
end Go.Proofs.Aw
namespace Go.Proofs.Aw
open Go
def left (L:Nat->Bool):Nat->Nat
 | 0=>0
 | n+1=>left L n+if L n=true then 0 else 1
theorem Ns {L:Nat->Bool}:∀{n:Nat},left L n=0->∀j,j<n->L j=true
 | 0,_,j,O=>by omega
 | n+1,h,j,O=>by
  simp only[left]at h
  by_cases hn:L n=true
  ·rcases Nat.lt_or_ge j n with gy | gy
   ·exact Ns (by omega) j gy
   ·rw[show j=n from by omega];exact hn
  ·rw[if_neg hn]at h;omega
theorem F9 {L dl:Nat->Bool}:∀{n:Nat},(∀j,j<n->L j=dl j)->left L n=left dl n
 | 0,_=>rfl
 | n+1,h=>by simp only[left];rw[F9 (fun j O=>h j (by omega)),h n (by omega)]
theorem Nr {L:Nat->Bool} {i:Nat} (hi:L i=false):∀{n:Nat},i<n->left (eA L i) n+1=left L n
 | 0,h=>by omega
 | n+1,h=>by
  simp only[left]
  by_cases co:i=n
  ·subst co
   rw[if_pos (cI.2 (.inr rfl)),hi,F9 (L:=eA L i) (dl:=L) fun j O=>by simp[eA,Nat.ne_of_lt O]]
   simp
  ·have:=Nr hi (n:=n) (by omega)
   have E:eA L i n=L n:=by
    have:(n==i)=false:=by simpa using Ne.symm co
    simp[eA,this]
   rw[E];omega
def dg (listed:Array Bool):Nat->Bool:=fun j=>listed.getD j false
theorem NM {listed:Array Bool} {i:Nat} (hi:i<listed.size) (j:Nat):dg (listed.setIfInBounds i true) j=eA (dg listed) i j:=by
 unfold dg eA
 by_cases h:j=i
 ·subst h;simp[Array.getD,hi]
 ·have:(j==i)=false:=by simpa using h
  simp[Array.getD_eq_getD_getElem?,Array.getElem?_setIfInBounds_ne (Ne.symm h),this]
theorem vy {listed:Array Bool} {j:Nat}:listed.getD j true=false↔j<listed.size/\dg listed j=false:=by
 unfold dg
 by_cases h:j<listed.size
 ·simp[Array.getD,h]
 ·simp[Array.getD,h]
theorem eo.congr {nx:Nat} {D:List En} {L dl ab:Nat->Bool} (h:∀j,L j=dl j) (k:eo nx D L ab):eo nx D dl ab :=
 ⟨fun j O=>by rw[<-h];exact k.sub j O,k.closed,fun j e O=>k.bars j e (by rw[h];exact O)⟩
theorem ey.congr {ac:Env} {nx:Nat} {t0:Tp} {h0:Hp} {D:List En} {L dl:Nat->Bool} {C:Ctx} {a:Act} (h:∀j,L j=dl j) (aB:ey ac nx t0 h0 D L C a):ey ac nx t0 h0 D dl C a where
 lt j O:=aB.lt j (by rw[h];exact O)
 closed j e O G k u:=by rw[<-h];exact aB.closed j e (by rw[h];exact O) G k u
 names j e O:=aB.names j e (by rw[h];exact O)
 size:=aB.size
 defers:=aB.defers
 ok ab hA:=aB.ok ab (hA.congr fun j=>(h j).symm)
section
variable {P:Program} {ac:Env} {ops:List Oper} {nx:Nat} {t0:Tp} {h0:Hp} {D:List En}
theorem ey.adm (aU:gm P ac ops nx t0 h0 D) {L:Nat->Bool} {C:Ctx} {a:Act} (_I:ey ac nx t0 h0 D L C a) {i:Nat} {e:En} (G:bg D i=some e)
  (co:∀k,e.ms.testBit k=true->L k=true) (iM:∀j ej,L j=true->bg D j=some ej->eh (nx+j) ej.d=false->e.ms.testBit j=true):eo nx D L e.ms.testBit :=
 ⟨co,fun _ _ O a8 k u=>aU.trans i G O a8 k u,fun j ej O a8 hf=>iM j ej O a8 hf⟩
theorem TQ {p:Nat->Prop}:∀n,(∃j,p j/\j<n)->∃j,(p j/\j<n)/\∀k,p k->k<n->k<=j
 | 0,⟨_,_,h⟩=>by omega
 | n+1,⟨j,hp,O⟩=>by
  by_cases hn:p n
  ·exact⟨n,⟨hn,by omega⟩,fun k _ u=>by omega⟩
  ·have oa:j<n:=by
    rcases Nat.lt_or_eq_of_le (Nat.le_of_lt_succ O)with h | h
    ·exact h
    ·subst h;exact absurd hp hn
   obtain⟨q,⟨A,E⟩,h3⟩:=TQ n ⟨j,hp,oa⟩
   refine⟨q,⟨A,by omega⟩,fun k u bI=>h3 k u ?_⟩
   rcases Nat.lt_or_eq_of_le (Nat.le_of_lt_succ bI)with h | h
   ·exact h
   ·subst h;exact absurd u hn
theorem ey.wp (aU:gm P ac ops nx t0 h0 D) {Q:Exit->Act->World->Prop} (ig:∀C a,ey ac nx t0 h0 D (fun j=>decide (j<D.length)) C a->Q .normal a C.w) :
  ∀(fuel:Nat) (listed:Array Bool) (C:Ctx) (a:Act),listed.size=ops.length->left (dg listed) ops.length<=fuel->ey ac nx t0 h0 D (dg listed) C a->wpAny P .any ops.toArray Q fuel listed a C.w:=by
 have done:∀(listed:Array Bool) (C:Ctx) (a:Act),listed.size=ops.length->ey ac nx t0 h0 D (dg listed) C a->(∀j,j<ops.length->dg listed j=true)->Q .normal a C.w:=fun listed C a b7 aB iM =>
  ig C a (aB.congr fun j=>by
   by_cases O:j<D.length
   ·rw[iM j (by rw[<-aU.len];exact O)];simp[O]
   ·cases h:dg listed j with
    | false=>simp[O]
    | true=>exact absurd (aB.lt j h) O)
 have noneLeft:∀(listed:Array Bool),listed.size=ops.length->Region.ready .any ops.toArray listed=[]->∀j,j<ops.length->dg listed j=true:=by
  intro listed b7 hr j
  induction j using Nat.strongRecOn with
  | _ j ih =>
   intro O
   cases h:dg listed j with
   | true=>rfl
   | false =>
    exfalso
    have pj:j∈Region.ready .any ops.toArray listed:=by
     refine mem_ready.2 ⟨vy.2 ⟨by rw[b7];exact O,h⟩,ops[j],by simp[O],fun ed d5 hb => ?_⟩
     have ho:ops[j]? = some ops[j]:=by simp[O]
     obtain⟨e,G,_⟩:=aU.entry ho
     obtain⟨pp,min,_,_⟩:=aU.mask G ho
     have aQ:=pp _ (min ed d5 hb)
     exact ih ed.on aQ (by omega)
    rw[hr]at pj;cases pj
 intro fuel
 induction fuel with
 | zero =>
  intro listed C a b7 M aB
  have iM:=Ns (Nat.le_zero.1 M)
  refine⟨?_,done listed C a b7 aB iM⟩
  apply List.eq_nil_iff_forall_not_mem.2
  intro j O
  obtain⟨A,_⟩:=mem_ready.1 O
  obtain⟨E,h3⟩:=vy.1 A
  rw[iM j (by omega)]at h3;cases h3
 | succ fuel ih =>
  intro listed C a b7 M aB
  refine⟨fun hr=>done listed C a b7 aB (noneLeft listed b7 hr),fun i hi => ?_⟩
  obtain⟨A,o,dT,afX⟩:=mem_ready.1 hi
  obtain⟨U2,cx⟩:=vy.1 A
  have ho:ops[i]? = some o:=by simpa using dT
  obtain⟨e,G,j9⟩:=aU.entry ho
  obtain⟨pp,_,mex,_⟩:=aU.mask G ho
  have co:∀k,e.ms.testBit k=true->dg listed k=true:=fun k u=>by
   obtain⟨ed,d5,hb,BA⟩:=mex k u
   have Vc:dg listed ed.on=true:=afX ed d5 hb
   rcases BA with h | ⟨e1,xS,bp⟩
   ·rw[<-h];exact Vc
   ·exact aB.closed _ _ Vc xS k bp
  have fin:∀(DO:Ctx) (bl:Act),ey ac nx t0 h0 D (eA (dg listed) i) DO bl->wpAny P .any ops.toArray Q fuel (listed.setIfInBounds i true) bl DO.w:=fun DO bl abn=>by
   refine ih (listed.setIfInBounds i true) DO bl (by simpa using b7) ?_ (abn.congr fun j=>(NM U2 j).symm)
   have h7:=Nr cx (n:=ops.length) (by omega)
   rw[F9 (L:=dg (listed.setIfInBounds i true)) (dl:=eA (dg listed) i) fun j _=>NM U2 j]
   omega
  have run:∀(ad:Nat->Bool) (l:List En),eo nx D (dg listed) ad->(∀x,bR (b3 ad l t0) x=bR (b3 ad D t0) x)->aJ ad D h0=aJ ad l h0->∀d,wS P ops (nx+i) o (b3 ad l t0) (aJ ad l h0) e.r d ->
    (∀(Y:Value) (C':Ctx),cZ (C.at_ nx h0 D ad) (nx+i) (aJ ad D h0) e.r d Y C'->ey ac nx t0 h0 D (eA (dg listed) i) (C.next C' (nx+i)) (a.put o.dst Y))->wpOp P ops.toArray Q i (wpAny P .any ops.toArray Q fuel (listed.setIfInBounds i true)) a C.w:=by
   intro ad l hB Mv R d hyg L'
   obtain⟨hH,hT,j3⟩:=aB.ok _ hB
   have Fe:ad i=false:=by
    cases h:ad i with
    | false=>rfl
    | true=>rw[hB.sub i h]at cx;cases cx
   have pc:fY (C.at_ nx h0 D ad) (b3 ad l t0) a:=fun x=>by rw[Mv x];exact hT x
   have UD:cY (C.at_ nx h0 D ad) (aJ ad l h0):=by rw[<-R];exact hH
   have iT:∀k,¬(C.at_ nx h0 D ad).kn (nx+i,k):=fun k h=>by
    rcases h with h | ⟨q,hq,h⟩
    ·simp only at h;omega
    ·simp only at h
     have:q=i:=by omega
     subst this;rw[Fe]at hq;cases hq
   have goOn:∀(Y:Value) (C':Ctx),cZ (C.at_ nx h0 D ad) (nx+i) (aJ ad l h0) e.r d Y C'->wpAny P .any ops.toArray Q fuel (listed.setIfInBounds i true) (a.put o.dst Y) C'.w:=fun Y C' hp =>
    fin (C.next C' (nx+i)) (a.put o.dst Y) (L' Y C' (by rw[R];exact hp))
   obtain⟨y1,y2⟩:=Rc pc ops
    |> fun h=>(⟨fun j=>(h j).1,fun j=>(h j).2⟩:(∀j b,yv ops (b3 ad l t0) j = .sc (.bool b)->yielded ops.toArray a.tmps j=some b)/\(∀j x,yv ops (b3 ad l t0) j = .sc (.tuple x)->yielded ops.toArray a.tmps j=none))
   unfold wpOp
   rw[dT]
   simp only
   have wanted:Yields P (nx+i) o.op (b3 ad l t0) (aJ ad l h0) e.r d->Region.wanted o (yielded ops.toArray a.tmps)=true ->
     if Region.wanted o (yielded ops.toArray a.tmps)then o.wp P a C.w (wpAny P .any ops.toArray Q fuel (listed.setIfInBounds i true)) Q\/(o.asks P a C.w/\LetsOut Q)else wpAny P .any ops.toArray Q fuel (listed.setIfInBounds i true) (a.put o.dst undef) C.w:=fun hy hw=>by
    rw[if_pos hw]
    exact .inl (hy (C.at_ nx h0 D ad) a o _ _ rfl UD pc iT goOn)
   rcases hyg with⟨Z,hy⟩ | ⟨j,want,b,Z,hb,uV,hy⟩ | ⟨j,want,Z,agj,hr,hd⟩
   ·exact wanted hy (by simp[Region.wanted,Z])
   ·exact wanted hy (by simp[Region.wanted,Z,y1 j b hb,uV])
   ·have hw:Region.wanted o (yielded ops.toArray a.tmps)=false:=by
     rcases agj with⟨b,hb,uV⟩ | ⟨x,hx⟩
     ·simp[Region.wanted,Z,y1 j b hb,uV]
     ·simp[Region.wanted,Z,y2 j x hx]
    rw[if_neg (by rw[hw];simp)]
    have hp:cZ (C.at_ nx h0 D ad) (nx+i) (aJ ad l h0) e.r d undef ((C.at_ nx h0 D ad).same (nx+i) C.w):=by
     rw[hr,hd]
     exact cZ.pure UD (by simp only[aj]) rfl rfl rfl rfl
    exact goOn undef ((C.at_ nx h0 D ad).same (nx+i) C.w) hp
  obtain⟨bi,o',g1,g2,g3,hs,h5,h6⟩:=aU.walked.get G
  rw[ho]at g3;cases g3
  have mlt':∀k,i<=k->e.ms.testBit k=false:=fun k u=>by
   cases h:e.ms.testBit k with
   | false=>rfl
   | true=>have:=pp k h;omega
  by_cases U6:∃j,(dg listed j=true/\e.ms.testBit j=false/\∃ej,bg D j=some ej/\eh (nx+j) ej.d=false)/\j<D.length
  ·
   obtain⟨j,⟨⟨xX,Fx,ej,a8,xY⟩,aus⟩,agf⟩:=TQ D.length U6
   obtain⟨Ay,ajb,k1,k2,k3,k4,FS,Nh⟩:=aU.walked.get a8
   have xM:ej.ms.testBit i=false:=by
    cases h:ej.ms.testBit i with
    | false=>rfl
    | true=>rw[aB.closed j ej xX a8 i h]at cx;cases cx
   have lR:∀k,(((e.ms ||| ej.ms) ||| 2 ^ j).testBit k=true)↔(e.ms.testBit k=true\/ej.ms.testBit k=true)\/k=j:=fun k=>by
    rw[Nat.testBit_or,Nat.testBit_or,Bool.or_eq_true,Bool.or_eq_true,Nat.testBit_two_pow]
    simp only[decide_eq_true_eq]
    exact or_congr Iff.rfl eq_comm
   obtain⟨mltj,_,_,_⟩:=aU.mask a8 k3
   have hB:eo nx D (dg listed) ((e.ms ||| ej.ms) ||| 2 ^ j).testBit:=by
    refine⟨fun k u => ?_,fun k ek u d6 q hq => ?_,fun k ek u d6 hf => ?_⟩
    ·rcases(lR k).1 u with(h | h) | h
     ·exact co k h
     ·exact aB.closed j ej xX a8 k h
     ·subst h;exact xX
    ·rcases(lR k).1 u with(h | h) | h
     ·exact(lR q).2 (.inl (.inl (aU.trans i G h d6 q hq)))
     ·exact(lR q).2 (.inl (.inr (aU.trans j a8 h d6 q hq)))
     ·subst h;rw[a8]at d6;cases d6;exact(lR q).2 (.inl (.inr hq))
    ·cases UU:e.ms.testBit k with
     | true=>exact(lR k).2 (.inl (.inl UU))
     | false =>
      rcases Nat.lt_trichotomy k j with h | h | h
      ·rcases k4.waits k ek (by rw[k2 k h];exact d6) hf with g | g
       ·exact(lR k).2 (.inl (.inr g))
       ·have:=g.1
        rw[this]at xY;cases xY
      ·exact(lR k).2 (.inr h)
      ·have:=agf k ⟨u,UU,ek,d6,hf⟩ (aB.lt k u)
       omega
   have FI:∀A',eo nx D (eA (dg listed) i) A'->A' i=true->∀k,((e.ms ||| ej.ms) ||| 2 ^ j).testBit k=true->A' k=true:=fun A' cF dG k u=>by
    rcases(lR k).1 u with(h | h) | h
    ·exact cF.closed i e dG G k h
    ·exact cF.closed j ej (cF.bars j ej (cI.2 (.inl xX)) a8 xY) a8 k h
    ·subst h;exact cF.bars k ej (cI.2 (.inl xX)) a8 xY
   by_cases hG:i<j
   case neg =>
    have dN:j<i:=by
     rcases Nat.lt_trichotomy j i with h | h | h
     ·exact h
     ·subst h;rw[xX]at cx;cases cx
     ·exact absurd h hG
    rcases hs.waits j ej (by rw[g2 j dN];exact a8) xY with g | ⟨hd,hy⟩
    ·rw[g]at Fx;cases Fx
    ·have uY:∀k,i<=k->((e.ms ||| ej.ms) ||| 2 ^ j).testBit k=false:=fun k u=>by
      cases h:((e.ms ||| ej.ms) ||| 2 ^ j).testBit k with
      | false=>rfl
      | true =>
       rcases(lR k).1 h with(h | h) | h
       ·have:=pp k h;omega
       ·have:=mltj k h;omega
       ·omega
     rw[g1]at hy
     exact run _ bi hB (fun x=>aU.Qu g1 g2 uY x) (h5 _ uY) [] hy (fun Y C' hp=>aB.Zj aU G ho j9 cx co hd hB FI hp)
   have af9:DU P ops nx t0 h0 Ay ej:=by
    rcases k4.fresh with g | g | g
    ·rw[k1,xY]at g;cases g
    ·have:ej.ms.testBit i=true:=by
      rw[show ej.ms=2 ^ j-1 from by rw[<-k1];omega,Nat.testBit_two_pow_sub_one]
      simpa using hG
     rw[this]at xM;cases xM
    ·exact g
   have hei:bg Ay i=some e:=by rw[k2 i hG];exact G
   obtain⟨hd,hy⟩:=af9.2 i e o (by rw[k1];exact hG) xM hei ho
   rw[k1]at hy
   have uY:∀k,j+1<=k->((e.ms ||| ej.ms) ||| 2 ^ j).testBit k=false:=fun k u=>by
    cases h:((e.ms ||| ej.ms) ||| 2 ^ j).testBit k with
    | false=>rfl
    | true =>
     rcases(lR k).1 h with(h | h) | h
     ·have:=pp k h;omega
     ·have:=mltj k h;omega
     ·omega
   have afY:∀k,k<j+1->bg (ej::Ay) k=bg D k:=fun k u=>by
    simp only[bg,k1]
    split
    ·rename_i h;subst h;exact a8.symm
    ·exact k2 k (by omega)
   refine run _ (ej::Ay) hB (fun x=>aU.Qu (by simp[k1]) afY uY x) ?_ [] hy (fun Y C' hp=>aB.Zj aU G ho j9 cx co hd hB FI hp)
   rw[Nh _ ((lR j).2 (.inr rfl)) (fun k u=>uY k u)]
   simp only[aJ]
   rw[if_pos (by rw[k1];exact(lR j).2 (.inr rfl))]
  ·have iT:∀j ej,dg listed j=true->bg D j=some ej->eh (nx+j) ej.d=false->e.ms.testBit j=true:=fun j ej O a8 hf=>by
    cases h:e.ms.testBit j with
    | true=>rfl
    | false=>exact absurd ⟨j,⟨O,h,ej,a8,hf⟩,aB.lt j O⟩ U6
   have iL:=aB.adm aU G co iT
   have R:=h5 e.ms.testBit mlt'
   have jp:=hs.Re
   rw[g1]at jp
   refine run e.ms.testBit bi iL (fun x=>aU.Qu g1 g2 mlt' x) R e.d jp (fun Y C' hp => ?_)
   have aQ:eh (nx+i) e.d=false->∀k,dg listed k=true->k<i\/∃ek,bg D k=some ek/\ek.d=[]:=fun hf k u=>by
    rcases Nat.lt_trichotomy k i with h | h | h
    ·exact .inl h
    ·subst h;rw[u]at cx;cases cx
    ·obtain⟨ek,d6⟩:=EM (D:=D) (aB.lt k u)
     obtain⟨Ay,ajb,k1,k2,k3,k4,_⟩:=aU.walked.get d6
     rcases k4.waits i e (by rw[k2 i h];exact G) hf with hb | hb
     ·rw[aB.closed k ek u d6 i hb]at cx;cases cx
     ·exact .inr ⟨ek,d6,hb.1⟩
   by_cases xU:e.ms+1=2 ^ bi.length
   ·exact aB.step aU G ho cx co g1 g2 hs h6 R iL (by rw[<-R];exact hp) (fun _=>xU) aQ
   rcases hs.fresh with g | g | g
   ·rw[g1]at g
    exact aB.step aU G ho cx co g1 g2 hs h6 R iL (by rw[<-R];exact hp) (fun hf=>by rw[g]at hf;cases hf) aQ
   ·exact absurd g xU
   ·by_cases hf:eh (nx+i) e.d=true
    ·exact aB.step aU G ho cx co g1 g2 hs h6 R iL (by rw[<-R];exact hp) (fun fG=>by rw[hf]at fG;cases fG) aQ
    ·obtain⟨Bm,_⟩:=g
     have fG:eh (nx+i) e.d=false:=by simpa using hf
     rw[g1]at Bm
     rcases Bm with hd | ⟨m,q,cs,hd,hm,hq⟩
     ·exact aB.arQ aU G ho j9 cx co hd fG (aQ fG) h6 h5 g1 iL hp
     ·exact aB.arO aU G ho j9 cx co hd hm hq fG (aQ fG) h6 h5 g1 iL hp
theorem S_ {Q:Exit->St->Prop} {V:St} (hf:fits ac.N ops=true) (ho:once ops=true) (D:List En) (hw:jl P ops V.nx (e7 ops V.t) V.h D) (M:D.length=ops.length)
  (u:Q .normal ⟨b3 (fun _=>true) D (e7 ops V.t),aJ (fun _=>true) D V.h,V.nx+ops.length⟩) {a:Act} {w:World} (hr:Rel ac V a w) :
  wpAny P .any ops.toArray (fun e bz w'=>∃aK,Rel ac aK bz w'/\Q e aK) ops.toArray.size (Array.replicate ops.toArray.size false) a { w with drawn:=w.drawn+1 }:=by
 obtain⟨C0,rfl,hC⟩:=hr
 have aU:gm P ac ops V.nx (e7 ops V.t) V.h D:=⟨hw,M,ho,hf,fun o Mn x hx=>by
  rw[wq,if_pos (List.any_eq_true.2 ⟨o,Mn,by simp[hx]⟩)]⟩
 let C:Ctx:={ C0 with w:={ C0.w with drawn:=C0.w.drawn+1 } }
 have hL:∀j,dg (Array.replicate ops.toArray.size false) j=false:=fun j=>by
  unfold dg
  rw[Array.getD_eq_getD_getElem?,Array.getElem?_replicate]
  split<;>rfl
 have start:ey ac V.nx (e7 ops V.t) V.h D (dg (Array.replicate ops.toArray.size false)) C a:=by
  refine⟨fun j O=>absurd O (by rw[hL];simp),fun j e O=>absurd O (by rw[hL];simp),fun j e O=>absurd O (by rw[hL];simp),hC.size,hC.defers,fun ab hA => ?_⟩
  have Fd:∀j,ab j=false:=fun j=>by
   cases h:ab j with
   | false=>rfl
   | true=>have:=hA.sub j h;rw[hL]at this;cases this
  have R:∀l:List En,aJ ab l V.h=V.h:=fun l=>by
   induction l with
   | nil=>rfl
   | cons e l ih=>simp only[aJ];rw[if_neg (by rw[Fd];simp)];exact ih
  have le:C0.le (C.at_ V.nx V.h D ab):=by
   refine⟨Nat.le_refl _,fun _ _ _=>rfl,fun _ _ h=>h,fun m hm => .inl (hC.kn m hm),fun m hm M=>⟨(hC.heap.live m).2 ?_,rfl,rfl⟩,fun _ _ _ cs ty h=>⟨cs,ty,h,rfl⟩⟩
   have:(ae (aJ ab D V.h) m).isSome=true:=M
   rwa[R]at this
  have live:∀m,(C.at_ V.nx V.h D ab).live m↔C0.live m:=fun m=>by
   rw[hC.heap.live m]
   have:aJ ab D V.h=V.h:=R D
   show(ae (aJ ab D V.h) m).isSome=true↔_
   rw[this]
  refine⟨?_,fun x => ?_,⟨hC.frame.os,hC.frame.tape,hC.frame.output,hC.frame.size,hC.frame.same,hC.frame.mt,fun m hm hb=>hC.frame.wr m ((live m).1 hm) hb,hC.frame.le.trans le⟩⟩
  ·rw[R]
   exact hC.heap.mono le live (fun _ _=>rfl) (fun _ h _=>h)
  ·rcases pY ab (e7 ops V.t) x D with⟨j,e,_,_,h3⟩ | ⟨_,E⟩
   ·rw[h3,if_neg (by rw[Fd];simp)];trivial
   ·rw[E,wq]
    split
    ·trivial
    ·exact(hC.t x).mono le
 refine ey.wp aU (fun C' bz aB => ?_) ops.toArray.size (Array.replicate ops.toArray.size false) C a (by simp) ?_ start
 ·have iL:eo V.nx D (fun j=>decide (j<D.length)) (fun j=>decide (j<D.length)):=⟨fun _ h=>h,aB.closed,fun _ _ h _ _=>h⟩
  obtain⟨hH,hT,j3⟩:=aB.ok _ iL
  have e1:aJ (fun j=>decide (j<D.length)) D V.h=aJ (fun _=>true) D V.h:=x7 D fun j O=>by simp[O]
  have e2:b3 (fun j=>decide (j<D.length)) D (e7 ops V.t)=b3 (fun _=>true) D (e7 ops V.t):=ZS D fun j O=>by simp[O]
  rw[e1]at hH
  rw[e2]at hT
  refine⟨_,⟨C'.at_ V.nx V.h D (fun j=>decide (j<D.length)),rfl,hH,hT,aB.size,aB.defers,fun m hm => ?_,j3⟩,u⟩
  rcases hm with h | ⟨j,O,h⟩
  ·simp only;omega
  ·simp at O;simp only;omega
 ·have:∀n,left (dg (Array.replicate ops.toArray.size false)) n<=n:=fun n=>by
   induction n with
   | zero=>simp[left]
   | succ n ih=>simp only[left];split<;>omega
  exact this _
theorem aa8 {Q:Exit->St->Prop} {V:St} {id:Nat} (hm:P.follows .mixedOrders=true) (hf:fits ac.N ops=true) (ho:once ops=true) (D:List En) (hw:jl P ops V.nx (e7 ops V.t) V.h D) (M:D.length=ops.length)
  (u:Q .normal ⟨b3 (fun _=>true) D (e7 ops V.t),aJ (fun _=>true) D V.h,V.nx+ops.length⟩):AW P ac (.region id ops.toArray true) Q V:=fun _ _ hr =>
 wp_region_any hm (S_ hf ho D hw M u hr)
end
end Go.Proofs.Aw
namespace Go.Proofs.Aw
open Go
inductive cO where
 | no
 | ok (r:AV) (d:Dl)
 | call (f:FuncId) (args:List AV)
def c6:Option AV->cO
 | some v => .ok v []
 | none => .no
def lq:Option (AV×Dl)->cO
 | some (v,d) => .ok v d
 | none => .no
def Ga:Option Dl->cO
 | some d => .ok (.sc undef) d
 | none => .no
def jK:Option Bool->Nat->List AV->Nat->Option AV
 | some true,z,cs,off=>if 0<z/\off+z<=cs.length then some (.agg ((cs.drop off).take z))else none
 | some false,_,cs,off=>cs[off]?
 | none,_,_,_=>none
def HB (b:Option Bool) (z:Nat) (off:Nat):Option (List AV)->Option AV
 | some cs=>jK b z cs off
 | none=>none
def oq (P:Program) (h:Hp) (ty:TypeId):AV->Option AV
 | .ptr m off=>HB (eT P ty) (P.cellsOf ty) off (ae h m)
 | .ip cs off=>jK (eT P ty) (P.cellsOf ty) cs off
 | _=>none
def wG (z:Nat) (m:Nm) (off:Nat) (ys:List AV):Option (List AV)->Option Dl
 | some cs=>if 0<z/\ys.length=z/\off+z<=cs.length/\ys.all AV.one=true then some [(m,some (fT cs off ys))]else none
 | none=>none
def pU (P:Program) (h:Hp) (ty:TypeId):AV->List AV->Option Dl
 | .ptr m off,ys=>wG (P.cellsOf ty) m off ys (ae h m)
 | _,_=>none
def FN (m:Nm) (off:Nat) (j:Int) (live:Bool):Option (Nat×Nat)->Option AV
 | some (len,z)=>if live=true/\0<=j/\j<len then some (.ptr m (off+j.toNat*z))else none
 | none=>none
def MT (cs:List AV) (off:Nat) (j:Int):Option (Nat×Nat)->Option AV
 | some (len,z)=>if 0<=j/\j<len then some (.ip cs (off+j.toNat*z))else none
 | none=>none
def FO (m:Nm) (z off len:Nat) (j:Int) (live:Bool):Option (TypeId×Nat)->Option AV
 | some (_,z')=>if z'=z/\live=true/\0<=j/\j<len then some (.ptr m (off+j.toNat*z))else none
 | none=>none
def x_:Option (List AV)->Option AV
 | some kw=>some (.ip kw 0)
 | none=>none
def vl (z:Nat) (D:List (List AV)) (j:Int):Option (TypeId×Nat)->Option AV
 | some (_,z')=>if z'=z/\0<=j then x_ D[j.toNat]? else none
 | none=>none
def jz (P:Program) (h:Hp) (ty:TypeId):AV->AV->Option AV
 | .ptr m off,.sc (.int _ j)=>FN m off j (ae h m).isSome (ep P ty)
 | .ip cs off,.sc (.int _ j)=>MT cs off j (ep P ty)
 | .sl m z off len _,.sc (.int _ j)=>FO m z off len j (ae h m).isSome (bE P ty)
 | .ro z D _,.sc (.int _ j)=>vl z D j (bE P ty)
 | _,_=>none
def Ln (h:Hp) (x:AV):Option (Nat×Nat)->Option AV
 | some (o,_)=>match x with
  | .ptr m off=>if(ae h m).isSome=true then some (.ptr m (off+o))else none
  | .ip cs off=>some (.ip cs (off+o))
  | _=>none
 | none=>none
def AN (P:Program) (h:Hp) (ty:TypeId) (f:Nat) (x:AV):Option AV:=match jc P ty with
 | some l=>Ln h x l[f]?
 | none=>none
def E3 (cs:List AV):Option (Nat×Nat)->Option (Option Bool)->Option AV
 | some (o,z),some b=>jK b z cs o
 | _,_=>none
def AP (P:Program) (ty:TypeId) (f:Nat):AV->Option AV
 | .agg cs=>match jc P ty,CD P ty with
  | some l,some bs=>E3 cs l[f]? bs[f]?
  | _,_=>none
 | _=>none
def yb (P:Program) (ty:TypeId):AV->AV->Option AV
 | .agg cs,.sc (.int _ j)=>match ep P ty with
  | some (len,z)=>if 0<=j/\j<len then jK (rU P ty) z cs (j.toNat*z)else none
  | none=>none
 | .sc (.string s),.sc (.int _ j)=>if nv P ty=true/\0<=j then(s[j.toNat]?).map fun b => .sc (.int .u8 b.toNat)else none
 | _,_=>none
def lU (d:Nat):Option AV->Option Nat
 | none=>some d
 | some (.sc (.int _ i))=>if 0<=i then some i.toNat else none
 | _=>none
def rD (P:Program) (h:Hp) (ty:TypeId) (x:AV) (lo hi:Option Nat):Option AV :=
 match lo,hi with
 | some l,some W=>match x with
  | .ro z D full=>match bE P ty with
   | some (_,z')=>if z'=z/\l<=W/\W<=D.length then some (.ro z ((D.take W).drop l) (full&&W==D.length))else none
   | none=>none
  | .sl m z off len own=>match bE P ty with
   | some (_,z')=>if z'=z/\(ae h m).isSome=true/\l<=W/\W<=len then some (.sl m z (off+l*z) (W-l) own)else none
   | none=>none
  | .ptr m off=>match ep P ty with
   | some (len,z)=>if(ae h m).isSome=true/\l<=W/\W<=len then some (.sl m z (off+l*z) (W-l) false)else none
   | none=>none
  | .sc (.string s)=>if nv P ty=true/\l<=W/\W<=s.size then some (.sc (.string (s.extract l W)))else none
  | .sc (.slice none 0 0)=>match bE P ty with
   | some _=>if l=0/\W=0 then some (.sc (.slice none 0 0))else none
   | none=>none
  | _=>none
 | _,_=>none
def kM (P:Program) (ty:TypeId):AV->Nat
 | .ro _ D _=>D.length
 | .sl _ _ _ len _=>len
 | .ptr _ _=>match ep P ty with | some (len,_)=>len | none=>0
 | .sc (.string s)=>s.size
 | _=>0
def Ie (P:Program) (h:Hp) (ty:TypeId) (x:AV):Option Nat->Option Nat->Option Nat->Option AV
 | some l,some W,some m=>match x with
  | .ro z D _=>match bE P ty with
   | some (_,z')=>if z'=z/\l<=W/\W<=m/\m<=D.length then some (.ro z ((D.take W).drop l) (m==W))else none
   | none=>none
  | .sl n z _ len _=>match bE P ty with
   | some (_,z')=>if z'=z/\(ae h n).isSome=true/\W=l/\m=l/\l<=len then some (.ro z [] true)else none
   | none=>none
  | _=>none
 | _,_,_=>none
def pS (P:Program) (h:Hp) (ty:TypeId) (x:AV) (lo hi mx:Option AV):Option AV :=
 match mx with
 | none=>rD P h ty x (lU 0 lo) (lU (kM P ty x) hi)
 | some m=>Ie P h ty x (lU 0 lo) (match hi with | some v=>lU 0 (some v) | none=>none) (lU 0 (some m))
def nV (P:Program) (n:Nat) (mu:Bool) (ty:TypeId) (len:Nat) (ps:List (Nat×AV)):Option (AV×Dl) :=
 match bE P ty with
 | some (e,z)=>if nH P e=some z/\len*z<=16777216/\ps.length=len/\kX z 0 ps=true then
   (match mu with
   | false=>some (.ro z (gC ps) true,[])
   | true=>some (.sl (n,0) z 0 len true,[((n,0),some (gC ps).flatten)]))
  else none
 | none=>none
def nP (n:Nat) (mu:Bool) (z:Nat) (kU:Nat) (fs:List (List AV)):Option (List (List AV))->Option (AV×Dl)
 | some D=>if(D.length+fs.length)*kU<=140737488355328/\D.length+fs.length<=9223372036854775807/\(mu=true->fs≠[])then
   (match mu with
   | false=>some (.ro z (D++fs) false,[])
   | true=>some (.sl (n,0) z 0 (D.length+fs.length) true,[((n,0),some (D.flatten++fs.flatten))]))
  else none
 | none=>none
def um (n:Nat) (z:Nat) (kU:Nat) (fs:List (List AV)) (m:Nm) (off len:Nat):Option (List AV)->Option (AV×Dl)
 | some cs=>if cs.length=off+len*z/\fs.flatten.all AV.one=true/\(len+fs.length)*kU<=140737488355328/\len+fs.length<=9223372036854775807 then some (.sl (n,0) z 0 (len+fs.length) true,[(m,none),((n,0),some (cs.drop off++fs.flatten))])else none
 | none=>none
def jm (P:Program) (n:Nat) (h:Hp) (mu:Bool) (e:TypeId) (z:Nat) (s:AV):Option (List (List AV))->Option (AV×Dl)
 | some fs=>match s with
  | .sl m z' off len own=>if z'=z/\own=true then um n z (de P e) fs m off len (ae h m)else none
  | s=>nP n mu z (de P e) fs (jn z s)
 | none=>none
def nQ (P:Program) (n:Nat) (h:Hp) (mu:Bool) (ty xt:TypeId) (s x:AV):Option (AV×Dl) :=
 match bE P ty with
 | some (e,z)=>if bE P xt=some (e,z)/\nH P e=some z then jm P n h mu e z s (er h z x)else none
 | none=>none
def yR:AV->AV->AV->Option AV
 | .sc (.bool true),a,_=>some a
 | .sc (.bool false),_,b=>some b
 | _,_,_=>none
def vH (h:Hp):AV->Option AV
 | .ptr m off=>if(ae h m).isSome=true then some (.ptr m off)else none
 | .ip cs off=>some (.ip cs off)
 | .fn (.func f) xs ys=>some (.fn (.func f) xs ys)
 | _=>none
def mo:Option Int->Option AV
 | some m=>some (.sc (.int .i64 m))
 | none=>none
def mM (P:Program) (n:Nat) (mu:Bool) (h:Hp):Builtin->List TypeId->List AV->cO
 | .len,ty::_,x::_=>c6 (mo (i_ P h ty x))
 | .max,_,x::xs=>c6 (px x xs)
 | .min,_,x::xs=>c6 (py x xs)
 | .append,[ty,xt],[s,x]=>lq (nQ P n h mu ty xt s x)
 | .copy,[ty,_],[s,x]=>lq (w9 P h ty s x)
 | b,_,xs=>c6 (uD b xs)
def Eg (n:Nat) (ys:List AV):cO:=if ys.all AV.one=true then .ok (.ptr (n,0) 0) [((n,0),some ys)]else .no
def cg (n:Nat):Option (List AV)->cO
 | some cs => .ok (.ptr (n,0) 0) [((n,0),some cs)]
 | none => .no
def Li:AV->Nat->Option AV
 | .tup vs,i=>vs[i]?
 | _,_=>none
def Ei (P:Program) (ty:TypeId) (ps:List (Nat×AV)):Option (List AV)->Option AV
 | some cs=>if((ep P ty).isSome||(jc P ty).isSome)=true then(l_ (placeOf P ty) cs ps).map .agg else none
 | none=>none
def Ek (args:List AV):AV->cO
 | .fn (.func f) xs ys => .call f (xs++(args++ys))
 | _ => .no
def w8 (P:Program) (src dst:TypeId) (x:AV):Option AV:=if(P.underlying src).isSome=true then uC P dst x else none
def k6 (t:Tp):Option Operand->Option AV
 | some x=>some (ev t x)
 | none=>none
def n7 (t:Tp):List Operand->List AV
 | []=>[]
 | x::xs=>ev t x::n7 t xs
def uQ (t:Tp):List (Nat×Operand)->List (Nat×AV)
 | []=>[]
 | (i,x)::xs=>(i,ev t x)::uQ t xs
theorem K5 (t:Tp) (x:Option Operand):k6 t x=x.map (ev t):=by cases x<;>rfl
theorem EX (t:Tp):∀l,n7 t l=l.map (ev t)
 | []=>rfl
 | x::xs=>by simp only[n7,List.map_cons,EX t xs]
theorem K7 (t:Tp):∀l:List (Nat×Operand),uQ t l=l.map fun p=>(p.1,ev t p.2)
 | []=>rfl
 | (i,x)::xs=>by simp only[uQ,List.map_cons,K7 t xs]
def cC (P:Program) (n:Nat) (mu:Bool) (t:Tp) (h:Hp):Op->cO
 | .move x => .ok (ev t x) []
 | .assign x => .ok (ev t x) []
 | .pick c a b=>c6 (yR (ev t c) (ev t a) (ev t b))
 | .alloc e=>cg n (fz P e)
 | .box _ x=>Eg n (ev t x).cells
 | .load ty x=>c6 (oq P h ty (ev t x))
 | .store ty x y=>Ga (pU P h ty (ev t x) (ev t y).cells)
 | .nilCheck x=>c6 (vH h (ev t x))
 | .indexAddr ty x i=>c6 (jz P h ty (ev t x) (ev t i))
 | .fieldAddr ty x f=>c6 (AN P h ty f (ev t x))
 | .field ty x f=>c6 (AP P ty f (ev t x))
 | .index ty x i=>c6 (yb P ty (ev t x) (ev t i))
 | .slice ty x lo hi mx=>c6 (pS P h ty (ev t x) (k6 t lo) (k6 t hi) (k6 t mx))
 | .binOp op ty x y _=>c6 (gP P h op ty (ev t x) (ev t y))
 | .unOp op _ x=>c6 (rN op (ev t x))
 | .convert src dst x=>c6 (w8 P src dst (ev t x))
 | .extract x i=>c6 (Li (ev t x) i)
 | .makeFunc f xs ys => .ok (.fn f (n7 t xs.toList) (n7 t ys.toList)) []
 | .build ty ps=>c6 (Ei P ty (uQ t ps.toList) (fz P ty))
 | .buildSlice ty len ps=>lq (nV P n mu ty len (uQ t ps.toList))
 | .makeSlice ty l c=>lq (sZ P n ty (ev t l) (ev t c))
 | .call ⟨.builtin b,args,gH⟩=>mM P n mu h b gH.toList (n7 t args.toList)
 | .call ⟨.value x,args,_⟩=>Ek (n7 t args.toList) (ev t x)
 | _ => .no
end Go.Proofs.Aw
namespace Go.Proofs.Aw
open Go
section
variable {P:Program} {n:Nat} {mu:Bool} {t:Tp} {h:Hp}
theorem ja {x:Option AV} {r:AV} {d:Dl} (G:c6 x = .ok r d):x=some r/\d=[]:=by
 cases x with
 | none=>cases G
 | some v=>cases G;exact⟨rfl,rfl⟩
theorem BZ {x:Option AV} {f:FuncId} {a:List AV} (G:c6 x = .call f a):False:=by cases x<;>cases G
theorem F' {x:Option (AV×Dl)} {r:AV} {d:Dl} (G:lq x = .ok r d):x=some (r,d):=by
 cases x with
 | none=>cases G
 | some v=>obtain⟨v,e⟩:=v;cases G;rfl
theorem Ny {x:Option (AV×Dl)} {f:FuncId} {a:List AV} (G:lq x = .call f a):False:=by
 cases x with
 | none=>cases G
 | some v=>obtain⟨v,e⟩:=v;cases G
theorem ahO {x:Option Dl} {r:AV} {d:Dl} (G:Ga x = .ok r d):x=some d/\r = .sc undef:=by
 cases x with
 | none=>cases G
 | some v=>cases G;exact⟨rfl,rfl⟩
theorem ahN {x:Option Dl} {f:FuncId} {a:List AV} (G:Ga x = .call f a):False:=by cases x<;>cases G
theorem Hz {b:Option Bool} {z:Nat} {cs:List AV} {off:Nat} {v:AV} {K:AV->Prop} (G:jK b z cs off=some v) (u:K v):tn b z cs off K:=by
 unfold jK at G
 split at G
 ·split at G
  ·rename_i H;cases G;exact⟨H.1,H.2,u⟩
  ·cases G
 ·simp only[tn,G];exact u
 ·cases G
theorem V0 {ty:TypeId} {x v:AV} {K:AV->Prop} (G:oq P h ty x=some v) (u:K v):sX P h ty x K:=by
 unfold oq at G
 split at G
 ·rename_i m off
  unfold sX
  simp only
  cases Z:ae h m with
  | none=>rw[Z]at G;cases G
  | some cs=>rw[Z]at G;exact Hz G u
 ·exact Hz G u
 ·cases G
theorem arS {ty:TypeId} {x y:AV} {d:Dl} {K:Dl->Prop} (G:pU P h ty x y.cells=some d) (u:K d):CW P h ty x y K:=by
 unfold pU at G
 split at G
 ·rename_i _ m off
  unfold CW
  simp only
  cases Z:ae h m with
  | none=>rw[Z]at G;cases G
  | some cs =>
   rw[Z]at G
   simp only[wG]at G
   split at G
   ·rename_i H;cases G;exact⟨H.1,H.2.1,H.2.2.1,H.2.2.2,u⟩
   ·cases G
 ·cases G
theorem agF {ty:TypeId} {x i v:AV} {K:AV->Prop} (G:jz P h ty x i=some v) (u:K v):sQ P h ty x i K:=by
 unfold jz at G
 split at G
 ·rename_i m off k j
  unfold sQ
  simp only
  cases ha:ep P ty with
  | none=>rw[ha]at G;cases G
  | some p =>
   obtain⟨len,z⟩:=p
   rw[ha]at G
   simp only[FN]at G
   split at G
   ·rename_i H;cases G;exact⟨H.1,H.2.1,H.2.2,u⟩
   ·cases G
 ·unfold sQ
  simp only
  cases ha:ep P ty with
  | none=>rw[ha]at G;cases G
  | some p =>
   obtain⟨len,z⟩:=p
   rw[ha]at G
   simp only[MT]at G
   split at G
   ·rename_i H;cases G;exact⟨H.1,H.2,u⟩
   ·cases G
 ·unfold sQ
  simp only
  cases ha:bE P ty with
  | none=>rw[ha]at G;cases G
  | some p =>
   obtain⟨len,z⟩:=p
   rw[ha]at G
   simp only[FO]at G
   split at G
   ·rename_i H;cases G;exact⟨H.1,H.2.1,H.2.2.1,H.2.2.2,u⟩
   ·cases G
 ·unfold sQ
  simp only
  cases ha:bE P ty with
  | none=>rw[ha]at G;cases G
  | some p =>
   obtain⟨len,z⟩:=p
   rw[ha]at G
   simp only[vl]at G
   split at G
   ·rename_i H
    refine⟨H.1,H.2,?_⟩
    rename_i D _ _ j
    cases Z:D[j.toNat]? with
    | none=>rw[Z]at G;cases G
    | some kw=>rw[Z]at G;cases G;exact u
   ·cases G
 ·cases G
theorem aeX {ty:TypeId} {x v:AV} {f:Nat} {K:AV->Prop} (G:AN P h ty f x=some v) (u:K v):AM P h ty x f K:=by
 unfold AN at G
 unfold AM
 cases hr:jc P ty with
 | none=>rw[hr]at G;cases G
 | some l =>
  rw[hr]at G
  simp only at G ⊢
  cases M:l[f]? with
  | none=>rw[M]at G;cases G
  | some p =>
   obtain⟨o,z⟩:=p
   rw[M]at G
   simp only[Ln]at G ⊢
   split at G
   ·split at G
    ·rename_i H;cases G;exact⟨H,u⟩
    ·cases G
   ·cases G;exact u
   ·cases G
theorem aeZ {ty:TypeId} {x v:AV} {f:Nat} {K:AV->Prop} (G:AP P ty f x=some v) (u:K v):AO P ty x f K:=by
 unfold AP at G
 split at G
 ·split at G
  ·rename_i l bs hr hb
   unfold AO
   rw[hr,hb]
   simp only
   cases M:l[f]? with
   | none=>rw[M]at G;simp[E3]at G
   | some p =>
    obtain⟨o,z⟩:=p
    cases xL:bs[f]? with
    | none=>rw[M,xL]at G;simp[E3]at G
    | some b=>rw[M,xL]at G;exact Hz G u
  ·cases G
 ·cases G
theorem agL {ty:TypeId} {x i v:AV} {K:AV->Prop} (G:yb P ty x i=some v) (u:K v):ya P ty x i K:=by
 unfold yb at G
 split at G
 ·unfold ya
  simp only
  cases ha:ep P ty with
  | none=>rw[ha]at G;cases G
  | some p =>
   obtain⟨len,z⟩:=p
   rw[ha]at G
   simp only at G ⊢
   split at G
   ·rename_i H;exact⟨H.1,H.2,Hz G u⟩
   ·cases G
 ·unfold ya
  simp only
  split at G
  ·rename_i s k j H
   refine⟨H.1,H.2,?_⟩
   cases hb:s[j.toNat]? with
   | none=>rw[hb]at G;cases G
   | some b=>rw[hb]at G;simp at G;subst G;exact u
  ·cases G
 ·cases G
theorem jr {d:Nat} {x:Option AV} {l:Nat} {K:Nat->Prop} (G:lU d x=some l) (u:K l):hk d x K:=by
 unfold lU at G
 split at G
 ·cases G;exact u
 ·split at G
  ·rename_i H;cases G;exact⟨H,u⟩
  ·cases G
 ·cases G
theorem arE {ty:TypeId} {x v:AV} {lo hi mx:Option AV} {K:AV->Prop} (G:pS P h ty x lo hi mx=some v) (u:K v):oN P h ty x lo hi mx K:=by
 unfold pS at G
 split at G
 ·unfold rD at G
  split at G
  ·rename_i l W M eX
   split at G
   ·split at G
    ·rename_i hs
     split at G
     ·rename_i H
      cases G
      unfold oN
      simp only[hs]
      exact⟨H.1,jr M (jr eX ⟨H.2.1,H.2.2,u⟩)⟩
     ·cases G
    ·cases G
   ·split at G
    ·rename_i hs
     split at G
     ·rename_i H
      cases G
      unfold oN
      simp only[hs]
      exact⟨H.1,H.2.1,jr M (jr eX ⟨H.2.2.1,H.2.2.2,u⟩)⟩
     ·cases G
    ·cases G
   ·split at G
    ·rename_i ha
     split at G
     ·rename_i H
      cases G
      unfold oN
      simp only[ha]
      refine⟨H.1,trivial,jr M (jr (d:=_) (l:=W) ?_ ⟨H.2.1,H.2.2,u⟩)⟩
      simpa only[kM,ha]using eX
     ·cases G
    ·cases G
   ·split at G
    ·rename_i H
     cases G
     unfold oN
     simp only
     exact⟨H.1,trivial,jr M (jr eX ⟨H.2.1,H.2.2,u⟩)⟩
    ·cases G
   ·split at G
    ·rename_i hs
     split at G
     ·rename_i H
      cases G
      unfold oN
      simp only[hs]
      exact⟨trivial,jr M (jr eX ⟨H.1,H.2,u⟩)⟩
     ·cases G
    ·cases G
   ·cases G
  ·cases G
 ·rename_i m
  cases hi with
  | none=>simp only[Ie]at G;split at G<;>simp_all
  | some hi =>
   simp only at G
   unfold Ie at G
   split at G
   ·rename_i l W s8 M eX u6
    split at G
    ·split at G
     ·rename_i hs
      split at G
      ·rename_i H
       cases G
       unfold oN
       simp only[hs]
       exact⟨H.1,jr M (jr eX (jr u6 ⟨H.2.1,H.2.2.1,H.2.2.2,u⟩))⟩
      ·cases G
     ·cases G
    ·split at G
     ·rename_i hs
      split at G
      ·rename_i H
       cases G
       unfold oN
       simp only[hs]
       exact⟨H.1,H.2.1,jr M (jr eX (jr u6 ⟨H.2.2.1,H.2.2.2.1,H.2.2.2.2,u⟩))⟩
      ·cases G
     ·cases G
    ·cases G
   ·cases G
theorem adi {ty:TypeId} {len:Nat} {ps:List (Nat×AV)} {r:AV} {d:Dl} {K:AV->Dl->Prop} (G:nV P n mu ty len ps=some (r,d)) (u:K r d):z8 P n mu ty len ps K:=by
 unfold nV at G
 unfold z8
 split at G
 ·rename_i hs
  split at G
  ·rename_i H
   rw[hs]
   refine⟨H.1,H.2.1,H.2.2.1,H.2.2.2,?_⟩
   cases mu<;>(simp only at G ⊢;cases G;exact u)
  ·cases G
 ·cases G
theorem qd {z b:Nat} {fs:List (List AV)} {s r:AV} {d:Dl} {K:AV->Dl->Prop} (G:nP n mu z b fs (jn z s)=some (r,d)) (u:K r d):match(generalizing:=false) jn z s with
  | some D=>(D.length+fs.length)*b<=140737488355328/\D.length+fs.length<=9223372036854775807 /\
   (match(generalizing:=false) mu with
   | false=>K (.ro z (D++fs) false) []
   | true=>fs≠[]/\K (.sl (n,0) z 0 (D.length+fs.length) true) [((n,0),some (D.flatten++fs.flatten))])
  | none=>False:=by
 cases hb:jn z s with
 | none=>rw[hb]at G;simp[nP]at G
 | some D =>
  rw[hb]at G
  simp only[nP]at G
  split at G
  ·rename_i sz
   refine⟨sz.1,sz.2.1,?_⟩
   cases mu with
   | false=>simp only at G ⊢;cases G;exact u
   | true=>simp only at G ⊢;cases G;exact⟨sz.2.2 rfl,u⟩
  ·cases G
theorem acL {ty xt:TypeId} {s x r:AV} {d:Dl} {K:AV->Dl->Prop} (G:nQ P n h mu ty xt s x=some (r,d)) (u:K r d):zX P n h mu ty xt s x K:=by
 unfold nQ at G
 unfold zX
 split at G
 ·rename_i e z hs
  split at G
  ·rename_i H
   rw[hs]
   refine⟨H.1,H.2,?_⟩
   cases hf:er h z x with
   | none=>rw[hf]at G;simp[jm]at G
   | some fs =>
    rw[hf]at G
    cases s with
    | sl m z' off len own =>
     simp only[jm]at G
     split at G
     ·rename_i j6
      simp only
      refine⟨j6.1,j6.2,?_⟩
      cases Z:ae h m with
      | none=>rw[Z]at G;cases G
      | some cs =>
       rw[Z]at G
       simp only[um]at G ⊢
       split at G
       ·rename_i sz;cases G;exact⟨sz.1,sz.2.1,sz.2.2.1,sz.2.2.2,u⟩
       ·cases G
     ·cases G
    | top=>exact qd (s := .top) (n:=n) (mu:=mu) (fs:=fs) (b:=de P e) (z:=z) G u
    | sc bm=>exact qd (s := .sc bm) (n:=n) (mu:=mu) (fs:=fs) (b:=de P e) (z:=z) G u
    | agg bm=>exact qd (s := .agg bm) (n:=n) (mu:=mu) (fs:=fs) (b:=de P e) (z:=z) G u
    | tup bm=>exact qd (s := .tup bm) (n:=n) (mu:=mu) (fs:=fs) (b:=de P e) (z:=z) G u
    | ptr bm bl=>exact qd (s := .ptr bm bl) (n:=n) (mu:=mu) (fs:=fs) (b:=de P e) (z:=z) G u
    | ip bm bl=>exact qd (s := .ip bm bl) (n:=n) (mu:=mu) (fs:=fs) (b:=de P e) (z:=z) G u
    | ro bm bl gL=>exact qd (s := .ro bm bl gL) (n:=n) (mu:=mu) (fs:=fs) (b:=de P e) (z:=z) G u
    | fn bm bl gL=>exact qd (s := .fn bm bl gL) (n:=n) (mu:=mu) (fs:=fs) (b:=de P e) (z:=z) G u
    | ifc bm bl=>exact qd (s := .ifc bm bl) (n:=n) (mu:=mu) (fs:=fs) (b:=de P e) (z:=z) G u
  ·cases G
 ·cases G
theorem aoI {c a b v:AV} {K:AV->Prop} (G:yR c a b=some v) (u:K v):Cu c a b K:=by
 unfold yR at G
 split at G<;>first | (cases G;simp only[Cu];exact⟨fun _=>u,fun e=>(nomatch e)⟩) | (cases G;simp only[Cu];exact⟨fun e=>(nomatch e),fun _=>u⟩) | cases G
theorem aiV {x v:AV} {K:AV->Prop} (G:vH h x=some v) (u:K v):Oo h x K:=by
 unfold vH at G
 split at G
 ·split at G
  ·rename_i H;cases G;exact⟨H,u⟩
  ·cases G
 ·cases G;exact u
 ·cases G;exact u
 ·cases G
theorem adl {b:Builtin} {gH:List TypeId} {args:List AV} {r:AV} {d:Dl} {K:AV->Dl->Prop} (G:mM P n mu h b gH args = .ok r d) (u:K r d):o6 P n mu b h gH args K:=by
 unfold mM at G
 split at G
 ·obtain⟨A,rfl⟩:=ja G
  unfold o6
  simp only
  rename_i ty _ x _
  cases M:i_ P h ty x with
  | none=>rw[M]at A;cases A
  | some m=>rw[M]at A;cases A;exact u
 ·obtain⟨A,rfl⟩:=ja G
  unfold o6 jH;simp only[A];exact u
 ·obtain⟨A,rfl⟩:=ja G
  unfold o6 jH;simp only[A];exact u
 ·unfold o6
  exact acL (F' G) u
 ·unfold o6
  simp only[F' G]
  exact u
 ·obtain⟨g1,rfl⟩:=ja G
  unfold o6
  split<;>first
   | (simp only[uD,reduceCtorEq]at g1;done)
   | (unfold jH;simp only[g1];exact u)
theorem adn {b:Builtin} {gH:List TypeId} {args:List AV} {f:FuncId} {a:List AV} (G:mM P n mu h b gH args = .call f a):False:=by
 unfold mM at G
 split at G
 ·exact BZ G
 ·exact BZ G
 ·exact BZ G
 ·exact Ny G
 ·exact Ny G
 ·exact BZ G
theorem Zg {op:Op} {r:AV} {d:Dl} {K:AV->Dl->Prop} (G:cC P n mu t h op = .ok r d) (u:K r d):jL P n mu op t h K:=by
 unfold cC at G
 split at G
 ·cases G;exact u
 ·cases G;exact u
 ·obtain⟨A,rfl⟩:=ja G;exact aoI (K:=fun v=>K v []) A u
 ·rename_i e
  simp only[jL]
  cases hz:fz P e with
  | none=>rw[hz]at G;cases G
  | some cs=>rw[hz]at G;cases G;exact u
 ·simp only[Eg]at G
  split at G
  ·rename_i H;cases G;exact⟨H,u⟩
  ·cases G
 ·obtain⟨A,rfl⟩:=ja G;exact V0 (K:=fun v=>K v []) A u
 ·obtain⟨A,rfl⟩:=ahO G;exact arS (K:=fun d=>K (.sc undef) d) A u
 ·obtain⟨A,rfl⟩:=ja G;exact aiV (K:=fun v=>K v []) A u
 ·obtain⟨A,rfl⟩:=ja G;exact agF (K:=fun v=>K v []) A u
 ·obtain⟨A,rfl⟩:=ja G;exact aeX (K:=fun v=>K v []) A u
 ·obtain⟨A,rfl⟩:=ja G;exact aeZ (K:=fun v=>K v []) A u
 ·obtain⟨A,rfl⟩:=ja G;exact agL (K:=fun v=>K v []) A u
 ·obtain⟨A,rfl⟩:=ja G
  rw[K5,K5,K5]at A
  exact arE (K:=fun v=>K v []) A u
 ·obtain⟨A,rfl⟩:=ja G;simp only[jL,A,jH];exact u
 ·obtain⟨A,rfl⟩:=ja G;simp only[jL,A,jH];exact u
 ·obtain⟨A,rfl⟩:=ja G
  simp only[w8]at A
  split at A
  ·rename_i H;exact⟨H,by simp only[A,jH];exact u⟩
  ·cases A
 ·obtain⟨A,rfl⟩:=ja G
  rename_i x i
  simp only[jL]
  unfold Li at A
  split at A
  ·rename_i vs dH
   simp only[dH,A,jH];exact u
  ·cases A
 ·cases G
  simp only[EX]at u
  exact u
 ·obtain⟨A,rfl⟩:=ja G
  rename_i ty ps
  rw[K7]at A
  simp only[jL]
  cases hz:fz P ty with
  | none=>rw[hz]at A;cases A
  | some cs =>
   rw[hz]at A
   simp only[Ei]at A
   split at A
   ·rename_i H
    simp only
    cases hf:l_ (placeOf P ty) cs (ps.toList.map fun p=>(p.1,ev t p.2))with
    | none=>rw[hf]at A;cases A
    | some bn=>rw[hf]at A;cases A;exact⟨H,u⟩
   ·cases A
 ·rw[K7]at G
  exact adi (F' G) u
 ·simp only[jL,F' G];exact u
 ·rw[EX]at G
  exact adl G u
 ·unfold Ek at G
  split at G<;>cases G
 ·cases G
theorem Zh {op:Op} {f:FuncId} {args:List AV} {K:AV->Dl->Prop} (G:cC P n mu t h op = .call f args) (u:JT P n f args h K):jL P n mu op t h K:=by
 unfold cC at G
 split at G<;>first | cases G | (exact(BZ G).elim) | (exact(Ny G).elim) | (exact(ahN G).elim) | (exact(adn G).elim) | skip
 ·rename_i e
  cases hz:fz P e with
  | none=>rw[hz]at G;cases G
  | some cs=>rw[hz]at G;cases G
 ·simp only[Eg]at G
  split at G<;>cases G
 ·rename_i x as gH
  unfold Ek at G
  split at G
  ·rename_i g xs ys dH
   cases G
   simp only[jL,dH]
   rw[EX]at u
   exact u
  ·cases G
end
end Go.Proofs.Aw
namespace Go.Proofs.Aw
open Go
def lu (P:Program) (n:Nat) (h:Hp):cO->(AV->Dl->Prop)->Prop
 | .ok r d,K=>K r d
 | .call f args,K=>JT P n f args h K
 | .no,_=>False
theorem aiR {P:Program} {n:Nat} {mu:Bool} {t:Tp} {h:Hp} {op:Op} {K:AV->Dl->Prop} (u:lu P n h (cC P n mu t h op) K):jL P n mu op t h K:=by
 cases G:cC P n mu t h op with
 | no=>rw[G]at u;exact u.elim
 | ok r d=>rw[G]at u;exact Zg G u
 | call f args=>rw[G]at u;exact Zh G u
def xG (v:AV) (want:Bool) (ab ad:Prop):Prop :=
 match v with
 | .sc (.bool true)=>match want with | true=>ab | false=>ad
 | .sc (.bool false)=>match want with | true=>ad | false=>ab
 | .sc (.tuple _)=>ad
 | _=>False
theorem afo {v:AV} {want:Bool} {ab ad A' Ry:Prop} (hA:ab->A') (hB:ad->Ry) (u:xG v want ab ad):xG v want A' Ry:=by
 cases v with
 | sc x=>cases x with
  | bool b=>cases b<;>cases want<;>first | exact hA u | exact hB u
  | tuple xs=>exact hB u
  | _=>exact u.elim
 | _=>exact u.elim
theorem afn {v:AV} {want:Bool} {ab ad A':Prop} (hA:ab->A') (u:xG v want ab ad):Fa v want A' ad:=by
 unfold xG at u
 unfold Fa
 split at u
 ·cases want<;>simp_all
 ·cases want<;>simp_all
 ·exact u
 ·exact u.elim
def iy (P:Program) (ms:List Nat) (ops:List Oper):List Oper->(St->Prop)->Tp->Hp->Nat->Prop
 | [],K,t,h,nx=>K ⟨t,h,nx⟩
 | o::l,K,t,h,nx =>
  match o.guard with
  | none=>lu P nx h (cC P nx (o.dst.any ms.contains) t h o.op) fun r d=>iy P ms ops l K (gG o.dst r t) (aD d h) (nx+1)
  | some (j,want)=>xG (yv ops t j) want
    (lu P nx h (cC P nx (o.dst.any ms.contains) t h o.op) fun r d=>iy P ms ops l K (gG o.dst r t) (aD d h) (nx+1))
    (iy P ms ops l K (gG o.dst (.sc undef) t) h nx)
theorem DM {P:Program} {ms:List Nat} {ops:List Oper} {K:St->Prop}:∀(l:List Oper) (t:Tp) (h:Hp) (nx:Nat),iy P ms ops l K t h nx->nI P ms ops l K ⟨t,h,nx⟩
 | [],_,_,_,u=>u
 | o::l,t,h,nx,u=>by
  unfold iy at u
  unfold nI
  have go:lu P nx h (cC P nx (o.dst.any ms.contains) t h o.op) (fun r d=>iy P ms ops l K (gG o.dst r t) (aD d h) (nx+1))->jL P nx (o.dst.any ms.contains) o.op t h fun r d=>nI P ms ops l K ⟨gG o.dst r t,aD d h,nx+1⟩:=fun W=>by
   refine aiR ?_
   cases G:cC P nx (o.dst.any ms.contains) t h o.op with
   | no=>rw[G]at W;exact W.elim
   | ok r d=>rw[G]at W;exact DM l _ _ _ W
   | call f args =>
    rw[G]at W
    obtain⟨r,d,A,E,h3⟩:=W
    exact⟨r,d,A,E,DM l _ _ _ h3⟩
  cases Z:o.guard with
  | none=>rw[Z]at u;exact go u
  | some pm =>
   obtain⟨j,want⟩:=pm
   rw[Z]at u
   simp only at u ⊢
   exact afn go (afo id (DM l _ _ _) u)
def WH (P:Program) (ms:List Nat) (ops l:List Oper) (K:St->Prop) (dst:Option Tmp) (t:Tp) (h:Hp) (nx:Nat) (Pa:cO):Prop:=lu P nx h Pa fun r d=>iy P ms ops l K (gG dst r t) (aD d h) (nx+1)
section
variable {P:Program} {ms:List Nat} {ops l:List Oper} {K:St->Prop} {t:Tp} {h:Hp} {nx:Nat} {dst:Option Tmp} {op:Op} {mu:Bool} {ty:TypeId} {pos:String} {D:Array Edge}
theorem jN:iy P ms ops (⟨dst,op,ty,pos,D,none⟩::l) K t h nx=WH P ms ops l K dst t h nx (cC P nx (dst.any ms.contains) t h op):=by unfold WH;exact rfl
end
theorem tZ {P:Program} {ac:Env} {Q:Exit->St->Prop} {t:Tp} {h:Hp} {nx:Nat} {id:Nat} {ops:List Oper} (ms:List Nat) (hf:fits ac.N ops=true) (u:iy P ms ops ops (Q .normal) t h nx):AW P ac (.region id ops.toArray false) Q ⟨t,h,nx⟩:=abc ms hf (DM ops t h nx u)
def ub (P:Program) (ms:List Nat) (ops:List Oper) (nx:Nat) (t0:Tp) (h0:Hp) (K:Tp->Hp->Prop):List Oper->List En->Nat->Prop
 | [],D,_=>K (b3 (fun _=>true) D t0) (aJ (fun _=>true) D h0)
 | o::l,D,cE=>∀mk,qX D o.after.toList=mk->(mk<2 ^ D.length/\(cE &&& mk)=cE) /\
  match o.guard with
  | none=>lu P (nx+D.length) (aJ mk.testBit D h0) (cC P (nx+D.length) (o.dst.any ms.contains) (b3 mk.testBit D t0) (aJ mk.testBit D h0) o.op) fun r d =>
    if eh (nx+D.length) d=true then ub P ms ops nx t0 h0 K l (⟨o.dst,r,d,mk⟩::D) cE
    else mk+1=2 ^ D.length/\ub P ms ops nx t0 h0 K l (⟨o.dst,r,d,mk⟩::D) (cE ||| 2 ^ D.length)
  | some (j,want)=>xG (yv ops (b3 mk.testBit D t0) j) want
    (lu P (nx+D.length) (aJ mk.testBit D h0) (cC P (nx+D.length) (o.dst.any ms.contains) (b3 mk.testBit D t0) (aJ mk.testBit D h0) o.op) fun r d =>
     if eh (nx+D.length) d=true then ub P ms ops nx t0 h0 K l (⟨o.dst,r,d,mk⟩::D) cE
     else mk+1=2 ^ D.length/\ub P ms ops nx t0 h0 K l (⟨o.dst,r,d,mk⟩::D) (cE ||| 2 ^ D.length))
    (ub P ms ops nx t0 h0 K l (⟨o.dst,.sc undef,[],mk⟩::D) cE)
def Hu (P:Program) (ms:List Nat) (ops:List Oper) (nx:Nat) (t0:Tp) (h0:Hp) (K:Tp->Hp->Prop) (l:List Oper) (dst:Option Tmp) (D:List En) (cE mk:Nat) (r:AV) (d:Dl) (fresh:Bool):Prop :=
 if fresh=true then ub P ms ops nx t0 h0 K l (⟨dst,r,d,mk⟩::D) cE else mk+1=2 ^ D.length/\ub P ms ops nx t0 h0 K l (⟨dst,r,d,mk⟩::D) (cE ||| 2 ^ D.length)
def Ol (P:Program) (ms:List Nat) (ops:List Oper) (nx:Nat) (t0:Tp) (h0:Hp) (K:Tp->Hp->Prop) (l:List Oper) (dst:Option Tmp) (D:List En) (cE mk k:Nat) (h:Hp) (Pa:cO):Prop :=
 lu P k h Pa fun r d=>Hu P ms ops nx t0 h0 K l dst D cE mk r d (eh k d)
section
variable {P:Program} {ms:List Nat} {ops l:List Oper} {nx:Nat} {t0:Tp} {h0:Hp} {K:Tp->Hp->Prop} {D:List En} {cE mk k:Nat} {dst:Option Tmp} {op:Op} {mu:Bool} {ty:TypeId} {pos:String} {ed:Array Edge} {o:Oper}
end
end Go.Proofs.Aw
namespace Go.Proofs.Aw
open Go
def hU (n:Nat) (aE:Nat->Nm) (m:Nm):Nm:=if m.1=n then aE m.2 else m
def d' (n:Nat) (hs:Hp) (m:Nm):Bool:=m.1==n||(ae hs m).isSome
def RI (P:Program) (rs:List ResultVar) (n:Nat) (aE:Nat->Nm) (hs h':Hp) (r:AV) (e:Exit) (V:St):Prop :=
 (e = .ret\/e = .normal)/\(kK P V rs fun vs=>oneOf vs=aW (hU n aE) r)/\∀m cs,ae h' m=some cs->d' n hs m=true->ae V.h (hU n aE m)=some (bu (hU n aE) cs)
theorem RB {P : Program} {f : FuncId} {fn : Func} {c : Code} {args : List AV} {r : AV} {n : Nat} {hs h0 : Hp} {d : Dl} (aE : Nat -> Nm) (hf : P.funcs[f]? = some fn) (hb : fn.body = some c) (hN : args.length <= fn.ntmps)
    (mg : ∀ m cs, ae hs m = some cs -> ae h0 m = some cs) (aQ : ∀ m cs, ae hs m = some cs -> m.1 < n /\ a4 (fun k => Nat.blt k.1 n) cs = true) (hA : a4 (fun k => Nat.blt k.1 n) args = true)
    (xP : ∀ m, m ∈ d.map (·.1) -> m.1 = n \/ (ae hs m).isSome = true) (xQ : ∀ m, (ae hs m).isSome = true -> m ∈ d.map (·.1))
    (hR : b8 (d' n hs) r = true) (hC : ∀ m cs, ae (aD d h0) m = some cs -> d' n hs m = true -> a4 (d' n hs) cs = true)
    (Vq : ∀ k, (ae (aD d h0) (n, k)).isSome = true -> n < (aE k).1) (agA : ∀ j k, (ae (aD d h0) (n, j)).isSome = true -> (ae (aD d h0) (n, k)).isSome = true -> aE j = aE k -> j = k)
    (h : ∀ ac : Env, ac.N = fn.ntmps -> AW P ac c (RI P fn.results.toList n aE hs (aD d h0) r) ⟨gE 0 args, hs, n + 1⟩) : CY P n f args h0 r d := by
  intro C vs W hL hn
  refine calls_of_wp hf hb ?_
  let C0 : Ctx := { ρ := C.ρ, bs := C.bs, live := fun m => (ae hs m).isSome = true, kn := fun m => m.1 < n + 1, mt := C.mt, w := C.w }
  let ac : Env := { N := fn.ntmps, w0 := C.w, wr := fun b => ∃ m, (ae hs m).isSome = true /\ b = C.ρ m, N5 := C.mt, c0 := C0 }
  have hlen : vs.length = args.length := hL.length.symm
  have d8 : ∀ m, (ae hs m).isSome = true -> C.live m := fun m hm => by
    obtain ⟨cs, aI⟩ := Option.isSome_iff_exists.1 hm
    exact W.get (mg m cs aI)
  have FH : ∀ m, (ae hs m).isSome = true -> m.1 < n := fun m hm => by
    obtain ⟨cs, aI⟩ := Option.isSome_iff_exists.1 hm
    exact (aQ m cs aI).1
  have sub0 : C.sub C0 id (fun k => Nat.blt k.1 n) := ⟨rfl, fun _ _ h => h, fun m hm _ => by simp only [Nat.blt_eq] at hm; exact Nat.lt_succ_of_lt hm, fun m _ _ hm => ⟨d8 m hm, rfl, rfl⟩⟩
  have LM : aC C0 args vs := aC.aW sub0 args vs hA (by rw [pO]; exact hL)
  have hH0 : cY C0 hs := by
    refine ⟨fun m => Iff.rfl, fun m cs Z => ?_, fun m m' hm a0 G => W.inj m m' (d8 m hm) (d8 m' a0) G, fun m hm => W.mt m (d8 m hm), fun m hm => Nat.lt_succ_of_lt (FH m hm)⟩
    obtain ⟨arr, ty, ha, H⟩ := W.obj m cs (mg m cs Z)
    refine ⟨arr, ty, ha, fun j c O => ?_⟩
    obtain ⟨u', a3, j8⟩ := H j c O
    exact ⟨u', a3, aj.aW sub0 c u' (pC (aQ m cs Z).2 O) (by rw [y5]; exact j8)⟩
  have BF : Rel ac ⟨gE 0 args, hs, n + 1⟩ { tmps := vs.toArray ++ Array.replicate (fn.ntmps - vs.toArray.size) undef, defers := [] } C.w := by
    refine ⟨C0, rfl, hH0, ?_, ?_, rfl, fun m hm => hm, ⟨rfl, rfl, rfl, Nat.le_refl _, fun _ _ _ => rfl, fun _ _ => Iff.rfl, fun m hm _ => ⟨m, hm, rfl⟩, Ctx.le.refl _⟩⟩
    · refine Jn 0 args vs _ LM fun i v R => ?_
      have hi := (List.getElem?_eq_some_iff.1 R).1
      rw [Nat.zero_add, Array.getElem?_append_left (by simpa using hi)]
      simpa using R
    · simp [ac]; omega
  refine Code.wp_mono ?_ (h ac rfl _ _ BF)
  rintro e bz w' ⟨aK, ⟨Cb, rfl, db⟩, G, Ms, od⟩
  obtain ⟨us, Y, bD, a9, fH⟩ := YJ db.heap db.t Ms
  have pi : ∀ m, C.live m -> m.1 ≠ n := fun m hm e => hn m.2 (by have := W.kn m hm; rwa [show m = (n, m.2) from by rw [<- e]] at this)
  have hold : ∀ m, m.1 ≠ n -> (ae hs m).isSome = false -> ae (aD d h0) m = ae h0 m := fun m A E => gw d h0 m fun hm => by
    rcases xP m hm with h3 | h3
    · exact A h3
    · rw [E] at h3; cases h3
  let C' : Ctx := { ρ := fun m => if m.1 = n then Cb.ρ (aE m.2) else C.ρ m, bs := fun m => if m.1 = n then Cb.bs (aE m.2) else C.bs m, live := fun m => (ae (aD d h0) m).isSome = true, kn := fun m => C.kn m \/ m.1 = n,
                    mt := fun b => (C.mt b /\ b < C.w.heap.size) \/ ∃ k, (ae (aD d h0) (n, k)).isSome = true /\ b = Cb.ρ (aE k), w := Cb.w }
  have vz : ∀ m, (ae (aD d h0) m).isSome = true -> d' n hs m = true -> Cb.live (hU n aE m) := fun m hm hp => by
    obtain ⟨cs, aI⟩ := Option.isSome_iff_exists.1 hm
    exact db.heap.get (od m cs aI hp)
  have jD : ∀ k, (ae (aD d h0) (n, k)).isSome = true -> Cb.live (aE k) := fun k u => by
    have := vz (n, k) u (by simp [d'])
    simpa [hU] using this
  have nc : ∀ m, m.1 ≠ n -> (ae hs m).isSome = true -> (ae (aD d h0) m).isSome = true -> Cb.live m /\ Cb.ρ m = C.ρ m /\ Cb.bs m = C.bs m := fun m A E h3 => by
    have := vz m h3 (by simp [d', E])
    rw [show hU n aE m = m from by simp [hU, A]] at this
    exact ⟨this, (db.frame.le.live m (Nat.lt_succ_of_lt (FH m E)) this).2⟩
  have hO : ∀ m, m.1 ≠ n -> (ae (aD d h0) m).isSome = true -> C.live m := fun m A h3 => by
    cases E : (ae hs m).isSome with
    | true => exact d8 m E
    | false =>
      rw [hold m A E] at h3
      exact (W.live m).2 h3
  have fb : ∀ b, b < C.w.heap.size -> (∀ m, (ae hs m).isSome = true -> b ≠ C.ρ m) -> Cb.w.heap[b]? = C.w.heap[b]? := fun b hb ay => db.frame.same b hb (fun ⟨m, hm, e⟩ => ay m hm e)
  have le : C.le C' := by
    refine ⟨db.frame.size, fun b hb hm => db.frame.le.same b hb hm, fun b hb hm => ?_, fun _ h => .inl h, fun m u M => ?_, fun m u M cs ty H => ?_⟩
    · rcases hm with A | ⟨k, u, A⟩
      · exact A.1
      · exact (db.frame.mt b hb).1 (by rw [A]; exact db.heap.mt _ (jD k u))
    · have hm : m.1 ≠ n := fun e => hn m.2 (by rwa [show m = (n, m.2) from by rw [<- e]] at u)
      exact ⟨hO m hm M, by simp [C', hm], by simp [C', hm]⟩
    · have hm : m.1 ≠ n := fun e => hn m.2 (by rwa [show m = (n, m.2) from by rw [<- e]] at u)
      have oc := hO m hm M
      have hb : C.ρ m < C.w.heap.size := W.lt oc
      cases E : (ae hs m).isSome with
      | true => exact db.frame.le.own m (Nat.lt_succ_of_lt (FH m E)) (nc m hm E M).1 cs ty H
      | false =>
        refine ⟨cs, ty, (fb _ hb fun m' a0 e => ?_).trans H, rfl⟩
        have := W.inj m m' oc (d8 m' a0) e
        subst this
        rw [E] at a0; cases a0
  have sub : Cb.sub C' (hU n aE) (d' n hs) := by
    refine ⟨rfl, fun b hb hm => ?_, fun m hp _ => ?_, fun m hp u M => ?_⟩
    · rcases hm with A | ⟨k, u, A⟩
      · exact (db.frame.mt b A.2).2 A.1
      · rw [A]; exact db.heap.mt _ (jD k u)
    · simp only [d', Bool.or_eq_true, beq_iff_eq] at hp
      rcases hp with A | A
      · exact .inr A
      · exact .inl (W.kn m (d8 m A))
    · refine ⟨vz m M hp, ?_⟩
      by_cases A : m.1 = n
      · simp [C', hU, A]
      · simp only [d', Bool.or_eq_true, beq_iff_eq] at hp
        have E := hp.resolve_left A
        simp only [C', hU, A, if_false]
        exact ⟨(nc m A E M).2.1.symm, (nc m A E M).2.2.symm⟩
  have n9 : aj C' r Y := aj.aW sub _ Y hR (by rw [<- fH]; exact a9)
  have BB : cZ C n h0 r d Y C' := by
    refine ⟨le, fun _ => Iff.rfl, ⟨fun m => Iff.rfl, fun m cs Z => ?_, fun m m' hm a0 G => ?_, fun m hm => ?_, fun m hm => ?_⟩, n9, fun b hb ay => ?_, fun b hb => ?_, db.frame.os, db.frame.tape, db.frame.output, fun m hm => ?_, fun m hm => ?_⟩
    · cases hp : d' n hs m with
      | true =>
        obtain ⟨arr, ty, ha, H⟩ := db.heap.obj _ _ (od m cs Z hp)
        have im : C'.ρ m = Cb.ρ (hU n aE m) := by
          by_cases A : m.1 = n
          · simp [C', hU, A]
          · simp only [d', Bool.or_eq_true, beq_iff_eq] at hp
            simp only [C', hU, A, if_false]
            exact (nc m A (hp.resolve_left A) (by rw [Z]; rfl)).2.1.symm
        have n8 : C'.bs m = Cb.bs (hU n aE m) := by
          by_cases A : m.1 = n
          · simp [C', hU, A]
          · simp only [d', Bool.or_eq_true, beq_iff_eq] at hp
            simp only [C', hU, A, if_false]
            exact (nc m A (hp.resolve_left A) (by rw [Z]; rfl)).2.2.symm
        refine ⟨arr, ty, by rw [im]; exact ha, fun j c O => ?_⟩
        obtain ⟨u', a3, j8⟩ := H j _ (y4 _ cs j c O)
        exact ⟨u', by rw [n8]; exact a3, aj.aW sub c u' (pC (hC m cs Z hp) O) j8⟩
      | false =>
        simp only [d', Bool.or_eq_false_iff, beq_eq_false_iff_ne, ne_eq] at hp
        have gT := Z
        rw [hold m hp.1 hp.2] at gT
        have M := W.get gT
        obtain ⟨arr, ty, ha, H⟩ := W.obj m cs gT
        refine ⟨arr, ty, ?_, fun j c O => ?_⟩
        · simp only [C', hp.1, if_false]
          refine (fb _ (W.lt M) fun m' a0 e => ?_).trans ha
          have := W.inj m m' M (d8 m' a0) e
          subst this
          rw [hp.2] at a0; cases a0
        · obtain ⟨u', a3, j8⟩ := H j c O
          exact ⟨u', by simp only [C', hp.1, if_false]; exact a3, j8.mono le⟩
    · have oldρ : ∀ m, m.1 ≠ n -> (ae (aD d h0) m).isSome = true -> ∀ k, (ae (aD d h0) (n, k)).isSome = true -> Cb.ρ (aE k) = C.ρ m -> False := fun m A h3 k u e => by
        cases E : (ae hs m).isSome with
        | true =>
          obtain ⟨l1, e1, _⟩ := nc m A E h3
          have := db.heap.inj _ _ (jD k u) l1 (by rw [e, e1])
          have h4 := Vq k u
          have h5 := FH m E
          rw [this] at h4
          omega
        | false =>
          have oc := hO m A h3
          have hb := W.lt oc
          obtain ⟨m', a0, e'⟩ := db.frame.wr _ (jD k u) (by rw [e]; exact hb)
          have := W.inj m m' oc (d8 m' a0) (by rw [<- e, e'])
          subst this
          rw [E] at a0; cases a0
      by_cases A : m.1 = n <;> by_cases E : m'.1 = n
      · have dB : (ae (aD d h0) (n, m.2)).isSome = true := by rw [show (n, m.2) = m from by rw [<- A]]; exact hm
        have fo : (ae (aD d h0) (n, m'.2)).isSome = true := by rw [show (n, m'.2) = m' from by rw [<- E]]; exact a0
        simp only [C', A, E, if_true] at G
        have e1 := db.heap.inj _ _ (jD _ dB) (jD _ fo) G
        exact Prod.ext (A.trans E.symm) (agA _ _ dB fo e1)
      · have dB : (ae (aD d h0) (n, m.2)).isSome = true := by rw [show (n, m.2) = m from by rw [<- A]]; exact hm
        simp only [C', A, E, if_true, if_false] at G
        exact (oldρ m' E a0 _ dB G).elim
      · have fo : (ae (aD d h0) (n, m'.2)).isSome = true := by rw [show (n, m'.2) = m' from by rw [<- E]]; exact a0
        simp only [C', A, E, if_true, if_false] at G
        exact (oldρ m A hm _ fo G.symm).elim
      · simp only [C', A, E, if_false] at G
        exact W.inj m m' (hO m A hm) (hO m' E a0) G
    · by_cases A : m.1 = n
      · have dB : (ae (aD d h0) (n, m.2)).isSome = true := by rw [show (n, m.2) = m from by rw [<- A]]; exact hm
        simp only [C', A, if_true]
        exact .inr ⟨m.2, dB, rfl⟩
      · simp only [C', A, if_false]
        exact .inl ⟨W.mt m (hO m A hm), W.lt (hO m A hm)⟩
    · by_cases A : m.1 = n
      · exact .inr A
      · exact .inl (W.kn m (hO m A hm))
    · exact fb b hb fun m hm => ay m (xQ m hm) (d8 m hm)
    · constructor
      · rintro (A | ⟨k, u, A⟩)
        · exact A.1
        · exact (db.frame.mt b hb).1 (by rw [A]; exact db.heap.mt _ (jD k u))
      · intro A; exact .inl ⟨A, hb⟩
    · by_cases A : m.1 = n
      · have dB : (ae (aD d h0) (n, m.2)).isSome = true := by rw [show (n, m.2) = m from by rw [<- A]]; exact hm
        simp only [C', A, if_true]
        rcases Nat.lt_or_ge (Cb.ρ (aE m.2)) C.w.heap.size with E | E
        · obtain ⟨m', a0, e'⟩ := db.frame.wr _ (jD _ dB) E
          exact .inr (.inr ⟨m', xQ m' a0, d8 m' a0, e'⟩)
        · exact .inr (.inl E)
      · exact .inl ⟨hO m A hm, by simp only [C', A, if_false]⟩
    · rcases xP m hm with A | A
      · exact .inr A
      · exact .inl (d8 m A)
  rcases G with rfl | rfl
  · exact ⟨db.defers, Y, bD, Y, C', rfl, rfl, BB⟩
  · exact ⟨db.defers, Y, bD, Y, C', rfl, rfl, BB⟩
end Go.Proofs.Aw
namespace Go.Proofs.Aw
open Go
variable {P:Program} {ac:Env} {Q:Exit->St->Prop} {V aK:St}
theorem Rv {c:Code} (h:(∀m,ac.c0.kn m->m.1<V.nx)->AW P ac c Q V):AW P ac c Q V:=fun a w hr=>by
 obtain⟨C,rfl,hC⟩:=hr
 exact h (fun m hm=>hC.kn m (hC.frame.le.kn m hm)) a C.w ⟨C,rfl,hC⟩
def Ctx.named (C:Ctx) (f:Nm->Nm) (h:Hp) (nx:Nat):Ctx where
 ρ:=fun m=>C.ρ (f m)
 bs:=fun m=>C.bs (f m)
 live:=fun m=>(ae h m).isSome=true
 kn:=fun m=>m.1<nx
 mt:=C.mt
 w:=C.w
theorem Ji (f : Nm -> Nm) {k0 : Nat} (hb : ∀ m, ac.c0.kn m -> m.1 < k0) (hf : ∀ m : Nm, m.1 < k0 -> f m = m) (eN : k0 <= aK.nx)
    (ht : ∀ i, bR aK.t i = .top \/ (b8 (fun m => Nat.blt m.1 aK.nx) (bR aK.t i) = true /\ bR V.t i = aW f (bR aK.t i)))
    (W : ∀ m cs, ae aK.h m = some cs -> a4 (fun m => Nat.blt m.1 aK.nx) cs = true /\ m.1 < aK.nx /\ ae V.h (f m) = some (bu f cs))
    (qB : ∀ m m', (ae aK.h m).isSome = true -> (ae aK.h m').isSome = true -> f m = f m' -> m = m') : dF ac V aK := fun a w hr => by
  obtain ⟨C, rfl, hC⟩ := hr
  have gz : ∀ m, (ae aK.h m).isSome = true -> C.live (f m) := fun m hm => by
    obtain ⟨cs, aI⟩ := Option.isSome_iff_exists.1 hm
    exact hC.heap.get (W m cs aI).2.2
  have mg : C.sub (C.named f aK.h aK.nx) f (fun m => Nat.blt m.1 aK.nx) :=
    { w := rfl, mt := fun b _ h => h, kn := fun m hp _ => (by simpa using hp : m.1 < aK.nx), live := fun m _ _ M => ⟨gz m M, rfl, rfl⟩ }
  refine ⟨C.named f aK.h aK.nx, rfl, ?_⟩
  have mZ : ∀ m cs, ae aK.h m = some cs -> Jl (C.named f aK.h aK.nx) (C.ρ (f m)) (C.bs (f m)) cs := fun m cs aI => by
    obtain ⟨A, _, h3⟩ := W m cs aI
    obtain ⟨arr, ty, h4, h5⟩ := hC.heap.obj _ _ h3
    refine ⟨arr, ty, h4, fun j c O => ?_⟩
    obtain ⟨Y, hu, H⟩ := h5 j _ (y4 f cs j c O)
    exact ⟨Y, hu, aj.aW mg c Y (pC A O) H⟩
  exact {
    heap := { live := fun n => Iff.rfl, obj := mZ, inj := fun n m hn hm G => qB n m hn hm (hC.heap.inj _ _ (gz n hn) (gz m hm) G), mt := fun n hn => hC.heap.mt _ (gz n hn),
              kn := fun n hn => by
                obtain ⟨cs, aI⟩ := Option.isSome_iff_exists.1 hn
                exact (W n cs aI).2.1 }
    t := fun i => by
      rcases ht i with h | ⟨A, E⟩
      · rw [h]; simp only [aj]
      · have := hC.t i
        rw [E] at this
        exact aj.aW mg _ _ A this
    size := hC.size
    defers := hC.defers
    kn := fun m hm => hm
    frame := { os := hC.frame.os, tape := hC.frame.tape, output := hC.frame.output, size := hC.frame.size, same := hC.frame.same, mt := hC.frame.mt,
               wr := fun n hn => hC.frame.wr _ (gz n hn),
               le := { size := hC.frame.le.size, same := hC.frame.le.same, mt := hC.frame.le.mt, kn := fun i hi => Nat.lt_of_lt_of_le (hb i hi) eN,
                       live := fun n hn M => by
                         have u0 := hf n (hb n hn)
                         have := gz n M
                         rw [u0] at this
                         obtain ⟨A, E⟩ := hC.frame.le.live n hn this
                         exact ⟨A, by show C.ρ (f n) = _; rw [u0]; exact E.1, by show C.bs (f n) = _; rw [u0]; exact E.2⟩
                       own := fun n hn M => by
                         have u0 := hf n (hb n hn)
                         have := gz n M
                         rw [u0] at this
                         exact hC.frame.le.own n hn this } } }
end Go.Proofs.Aw
namespace Go.Proofs.Aw
open Go
mutual
def Hj:AV->Bool
 | .top=>true
 | .sc _=>true
 | .agg cs=>v5 cs
 | .tup cs=>v5 cs
 | .ro _ [] _=>true
 | _=>false
def v5:List AV->Bool
 | []=>true
 | v::vs=>Hj v&&v5 vs
end
mutual
theorem aj.plain {C C':Ctx}:∀(v:AV) (Y:Value),Hj v=true->aj C v Y->aj C' v Y
 | .top,_,_,_=>by simp only[aj]
 | .sc _,_,_,h=>h
 | .agg cs,_,hp,⟨us,e,h⟩=>⟨us,e,aC.plain cs _ hp h⟩
 | .tup cs,_,hp,⟨us,e,h⟩=>⟨us,e,aC.plain cs _ hp h⟩
 | .ptr _ _,_,hp,_=>by cases hp
 | .sl _ _ _ _ _,_,hp,_=>by cases hp
 | .ip _ _,_,hp,_=>by cases hp
 | .ro _ [] _,_,_,⟨ab,cap,A,E,h3,_⟩=>⟨ab,cap,A,E,h3,fun h=>absurd rfl h⟩
 | .ro _ (_::_) _,_,hp,_=>by cases hp
 | .fn _ _ _,_,hp,_=>by cases hp
 | .ifc _ _,_,hp,_=>by cases hp
theorem aC.plain {C C':Ctx}:∀(vs:List AV) (us:List Value),v5 vs=true->aC C vs us->aC C' vs us
 | [],_,_,h=>h
 | v::vs,_,hp,⟨Y,us,e,A,E⟩=>by
  simp only[v5,Bool.and_eq_true]at hp
  exact⟨Y,us,e,aj.plain v Y hp.1 A,aC.plain vs us hp.2 E⟩
end
def rR (h:Hp) (v v':AV):Prop :=
 (v' = .top\/v'=v/\b8 (fun _=>false) v=true)\/∃m z off len own fs,v = .sl m z off len own/\0<z/\er h z v=some fs/\cq (fun _=>false) fs=true/\v' = .ro z fs false
def lM (h:Hp):List AV->List AV->Prop
 | [],ch=>ch=[]
 | v::vs,l=>∃v' ch,l=v'::ch/\rR h v v'/\lM h vs ch
theorem lM.get {h:Hp}:∀{vs ch:List AV},lM h vs ch->∀(j:Nat) (c:AV),ch[j]? = some c->∃d,vs[j]? = some d/\rR h d c
 | [],_,hf,j,c,H=>by simp only[lM]at hf;subst hf;simp at H
 | v::vs,_,⟨v',ch,rfl,A,E⟩,0,c,H=>by simp at H;subst H;exact⟨v,rfl,A⟩
 | v::vs,_,⟨v',ch,rfl,A,E⟩,j+1,c,H=>by simpa using lM.get E j c (by simpa using H)
def DR (h:Hp) (v v':AV):Prop:=rR h v v'\/(∃m off cs fs,v = .ptr m off/\ae h m=some cs/\lM h cs fs/\v' = .ip fs off)\/∃cs fs,v = .agg cs/\lM h cs fs/\v' = .agg fs
def wI (h:Hp):List AV->List AV->Prop
 | [],ch=>ch=[]
 | v::vs,l=>∃v' ch,l=v'::ch/\DR h v v'/\wI h vs ch
def Jh (h:Hp) (v v':AV):Prop:=DR h v v'\/∃f xs ys v6 wl,v = .fn f xs ys/\wI h xs v6/\wI h ys wl/\v' = .fn f v6 wl
def wH (h:Hp):List AV->List AV->Prop
 | [],ch=>ch=[]
 | v::vs,l=>∃v' ch,l=v'::ch/\Jh h v v'/\wH h vs ch
def Ctx.bare (C:Ctx):Ctx:={ ρ:=C.ρ,bs:=C.bs,live:=fun _=>False,kn:=fun _=>False,mt:=fun _=>False,w:=C.w }
theorem Ctx.R8 (C:Ctx):C.sub C.bare id (fun _=>false):=⟨rfl,fun _ _ h=>h.elim,fun _ hm=>(nomatch hm),fun _ hm=>(nomatch hm)⟩
theorem WM {p:Nm->Bool}:∀{D:List (List AV)} {i:Nat} {e:List AV},cq p D=true->D[i]? = some e->a4 p e=true
 | [],i,e,_,h=>by simp at h
 | d::D,0,e,hp,h=>by simp only[cq,Bool.and_eq_true]at hp;simp at h;rw[<-h];exact hp.1
 | d::D,i+1,e,hp,h=>by simp only[cq,Bool.and_eq_true]at hp;exact WM hp.2 (by simpa using h)
theorem Kj {C:Ctx} {h:Hp} (W:cY C h) {v v':AV} {Y:Value} (hf:rR h v v') (H:aj C v Y):aj C.bare v' Y:=by
 rcases hf with(rfl | ⟨rfl,hn⟩) | ⟨m,z,off,len,own,fs,rfl,h0,G,hn,rfl⟩
 ·simp only[aj]
 ·exact aj.aW C.R8 _ Y hn (by rw[y5];exact H)
 ·simp only[er]at G
  obtain⟨cs,Z,G⟩:=Option.bind_eq_some_iff.1 G
  split at G
  ·rename_i hz
   cases G
   obtain⟨_,_,M⟩:=H
   have gz:=W.get Z
   obtain⟨cap,o,rfl,aZ,qF,_⟩:=M gz
   obtain⟨arr,ty,hb,ii⟩:=W.obj _ _ Z
   refine hv.2 ⟨some ⟨C.ρ m,o,none⟩,cap,by rw[qi],by rw[qi];exact aZ,(fun hx=>nomatch hx),fun ay=>⟨_,rfl,?_,(fun hx=>hx),?_⟩⟩
   ·have:=(Array.getElem?_eq_some_iff.1 hb).1
    exact this
   ·have hlen:0<len:=by
     rcases Nat.eq_zero_or_pos len with A | A
     ·subst A;exact absurd rfl ay
     ·exact A
    obtain rfl:o=C.bs m+off:=by
     rcases qF with A | A
     ·exact A
     ·omega
    refine dc.mk fun j e O => ?_
    have gy:=Aj z len _ j e O
    have co:j*z+z<=len*z:=by rw[<-Nat.succ_mul];exact Nat.mul_le_mul_right z gy.1
    have sB:e.length=z:=by
     rw[gy.2];simp only[List.length_take,List.length_drop];omega
    refine⟨sB,cT.mk fun k c u => ?_⟩
    have aM:k<z:=by
     have:=(List.getElem?_eq_some_iff.1 u).1
     omega
    have mZ:cs[off+(j*z+k)]? = some c:=by
     rw[gy.2,List.getElem?_take,if_pos aM,List.getElem?_drop,List.getElem?_drop]at u
     exact u
    obtain⟨Y,hu,j7⟩:=yL (C:=C) (b:=C.ρ m) (k:=C.bs m) (cs:=cs) ⟨arr,ty,hb,ii⟩ _ _ mZ
    refine⟨Y,?_,aj.aW C.R8 c Y (pC (WM hn O) u) (by rw[y5];exact j7)⟩
    simp only[jS]at hu ⊢
    have e1:C.bs m+off+(0+j)*z+(0+k)=C.bs m+(off+(j*z+k)):=by simp only[Nat.zero_add];omega
    rw[e1]
    exact hu
  ·cases G
theorem SD {C:Ctx} {h:Hp} (W:cY C h):∀{vs ch:List AV} {us:List Value},lM h vs ch->aC C vs us->aC C.bare ch us
 | [],_,us,hf,H=>by simp only[lM]at hf;subst hf;exact H
 | v::vs,_,us,⟨v',ch,rfl,A,E⟩,H=>by
  obtain⟨Y,g_,rfl,eW,j6⟩:=H
  exact⟨Y,g_,rfl,Kj W A eW,SD W E j6⟩
theorem SH {C:Ctx} {h:Hp} (W:cY C h) {v v':AV} {Y:Value} (hf:DR h v v') (H:aj C v Y):aj C.bare v' Y:=by
 rcases hf with hf | ⟨m,off,cs,fs,rfl,Z,M,rfl⟩ | ⟨cs,fs,rfl,M,rfl⟩
 ·exact Kj W hf H
 ·simp only[aj]at H ⊢
  have gz:=W.get Z
  refine⟨⟨C.ρ m,C.bs m,none⟩,?_,W.lt gz,(fun hx=>hx),cT.mk fun j c O => ?_⟩
  ·rw[H.2.2 gz,jS]
  ·obtain⟨d,hd,hf⟩:=M.get j c O
   obtain⟨Y,hu,a9⟩:=yL (W.obj m cs Z) j d hd
   rw[Nat.zero_add]
   exact⟨Y,hu,Kj W hf a9⟩
 ·obtain⟨us,e,H⟩:=H
  exact⟨us,e,SD W M H⟩
theorem Kg {C:Ctx} {h:Hp} (W:cY C h):∀{vs ch:List AV} {us:List Value},wI h vs ch->aC C vs us->aC C.bare ch us
 | [],_,us,hf,H=>by simp only[wI]at hf;subst hf;exact H
 | v::vs,_,us,⟨v',ch,rfl,A,E⟩,H=>by
  obtain⟨Y,g_,rfl,eW,j6⟩:=H
  exact⟨Y,g_,rfl,SH W A eW,Kg W E j6⟩
theorem adJ {C:Ctx} {h:Hp} (W:cY C h) {v v':AV} {Y:Value} (hf:Jh h v v') (H:aj C v Y):aj C.bare v' Y:=by
 rcases hf with hf | ⟨f,xs,ys,v6,wl,rfl,A,E,rfl⟩
 ·exact SH W hf H
 ·simp only[aj]at H ⊢
  obtain⟨us,vs,e,c1,c2⟩:=H
  exact⟨us,vs,e,Kg W A c1,Kg W E c2⟩
theorem Kf {C:Ctx} {h:Hp} (W:cY C h):∀{vs ch:List AV} {us:List Value},wH h vs ch->aC C vs us->aC C.bare ch us
 | [],_,us,hf,H=>by simp only[wH]at hf;subst hf;exact H
 | v::vs,_,us,⟨v',ch,rfl,A,E⟩,H=>by
  obtain⟨Y,g_,rfl,eW,j6⟩:=H
  exact⟨Y,g_,rfl,adJ W A eW,Kf W E j6⟩
theorem Jc {P:Program} {n:Nat} {f:FuncId} {args args':List AV} {h:Hp} {r:AV} (hf:wH h args args') (hr:Hj r=true) (H:CY P n f args' [] r []):CY P n f args h r []:=by
 intro C vs W hL hn
 have LZ:cY C.bare []:=⟨fun m=>by simp[Ctx.bare,ae],fun m cs Z=>by simp[ae]at Z,fun m m' hm=>hm.elim,fun m hm=>hm.elim,fun m hm=>hm.elim⟩
 refine(H C.bare vs LZ (Kf W hf hL) (fun k u=>u)).mono ?_
 rintro e w' ⟨Y,C0,rfl,rfl,hp⟩
 have fb:∀b,b<C.w.heap.size->C0.w.heap[b]? = C.w.heap[b]? := fun b hb=>hp.same b hb (fun m hm=>by simp at hm)
 let C':Ctx:={ ρ:=C.ρ,bs:=C.bs,live:=C.live,kn:=fun m=>C.kn m\/m.1=n,mt:=fun b=>C.mt b/\b<C.w.heap.size,w:=C0.w }
 have le:C.le C':=by
  refine⟨hp.le.size,fun b hb _=>fb b hb,fun b hb hm=>hm.1,fun _ h => .inl h,fun m _ M=>⟨M,rfl,rfl⟩,fun m _ M cs ty aI => ?_⟩
  have aQ:C.ρ m<C.w.heap.size:=by
   rcases Nat.lt_or_ge (C.ρ m) C.w.heap.size with E | E
   ·exact E
   ·rw[Array.getElem?_eq_none E]at aI;cases aI
  exact⟨cs,ty,(fb _ aQ).trans aI,rfl⟩
 refine⟨Y,C',rfl,rfl,le,fun _=>Iff.rfl,?_,aj.plain r Y hr hp.val,fun b hb _=>fb b hb,fun b hb=>⟨fun h=>h.1,fun h=>⟨h,hb⟩⟩,hp.os,hp.tape,hp.output,fun m M => .inl ⟨M,rfl⟩,fun m hm=>by simp at hm⟩
 exact W.mono le (fun _=>Iff.rfl) (fun m hm=>fb _ (W.lt hm)) (fun b hb aQ=>⟨hb,aQ⟩)
end Go.Proofs.Aw
namespace Go.Proofs.Aw
open Go
mutual
def vW (n:Nat):AV->Bool
 | .top=>true
 | .sc _=>true
 | .agg cs=>jI n cs
 | .tup cs=>jI n cs
 | .ptr m _=>Nat.beq m.1 n
 | .sl m _ _ _ _=>Nat.beq m.1 n
 | .ro _ [] _=>true
 | _=>false
def jI (n:Nat):List AV->Bool
 | []=>true
 | v::vs=>vW n v&&jI n vs
end
theorem Xt {n:Nat}:∀{cs:List AV} {j:Nat} {c:AV},jI n cs=true->cs[j]? = some c->vW n c=true
 | [],j,c,_,h=>by simp at h
 | d::cs,0,c,hp,h=>by simp only[jI,Bool.and_eq_true]at hp;simp at h;rw[<-h];exact hp.1
 | d::cs,j+1,c,hp,h=>by simp only[jI,Bool.and_eq_true]at hp;exact Xt hp.2 (by simpa using h)
mutual
theorem aj.own {C C':Ctx} {n:Nat} (hw:C'.w=C.w) (u:∀m:Nm,m.1=n->C'.kn m) (M:∀m:Nm,m.1=n->C'.live m->C.live m/\C'.ρ m=C.ρ m/\C'.bs m=C.bs m):∀(v:AV) (Y:Value),vW n v=true->aj C v Y->aj C' v Y
 | .top,_,_,_=>by simp only[aj]
 | .sc _,_,_,h=>h
 | .agg cs,_,hp,⟨us,e,h⟩=>⟨us,e,aC.own hw u M cs _ hp h⟩
 | .tup cs,_,hp,⟨us,e,h⟩=>⟨us,e,aC.own hw u M cs _ hp h⟩
 | .ptr m off,Y,hp,h=>by
  have hm:m.1=n:=Nat.eq_of_beq_eq_true hp
  simp only[aj]at h ⊢
  refine⟨h.1,u m hm,fun dJ => ?_⟩
  obtain⟨l1,l2,qU⟩:=M m hm dJ
  rw[l2,qU];exact h.2.2 l1
 | .sl m z off len own,Y,hp,h=>by
  have hm:m.1=n:=Nat.eq_of_beq_eq_true hp
  simp only[aj]at h ⊢
  refine⟨h.1,u m hm,fun dJ => ?_⟩
  obtain⟨l1,l2,qU⟩:=M m hm dJ
  rw[l2,qU,hw];exact h.2.2 l1
 | .ip _ _,_,hp,_=>by cases hp
 | .ro _ [] _,_,_,⟨ab,cap,A,E,h3,_⟩=>⟨ab,cap,A,E,h3,fun h=>absurd rfl h⟩
 | .ro _ (_::_) _,_,hp,_=>by cases hp
 | .fn _ _ _,_,hp,_=>by cases hp
 | .ifc _ _,_,hp,_=>by cases hp
theorem aC.own {C C':Ctx} {n:Nat} (hw:C'.w=C.w) (u:∀m:Nm,m.1=n->C'.kn m) (M:∀m:Nm,m.1=n->C'.live m->C.live m/\C'.ρ m=C.ρ m/\C'.bs m=C.bs m):∀(vs:List AV) (us:List Value),jI n vs=true->aC C vs us->aC C' vs us
 | [],_,_,h=>h
 | v::vs,_,hp,⟨Y,us,e,A,E⟩=>by
  simp only[jI,Bool.and_eq_true]at hp
  exact⟨Y,us,e,aj.own hw u M v Y hp.1 A,aC.own hw u M vs us hp.2 E⟩
end
def OY (n:Nat) (d:Dl):Prop:=∀q∈d,q.1.1=n/\∃cs,q.2=some cs/\jI n cs=true
theorem Xx {n:Nat} {m:Nm} {cs:List AV}:∀{d:Dl} {h:Hp},OY n d->(∀bn,ae h m=some bn->jI n bn=true)->ae (aD d h) m=some cs->jI n cs=true
 | [],h,_,W,Z=>W cs Z
 | (k,o)::d,h,hd,W,Z=>by
  obtain⟨_,c,E,h3⟩:=hd (k,o) List.mem_cons_self
  simp only at E
  subst E
  simp only[aD]at Z
  refine Xx (fun q hq=>hd q (List.mem_cons_of_mem _ hq)) (fun bn h' => ?_) Z
  rw[dI]at h'
  split at h'
  ·cases h';exact h3
  ·exact W bn h'
theorem Rz {P:Program} {n:Nat} {f:FuncId} {args args':List AV} {h:Hp} {r:AV} {d:Dl} (hf:wH h args args') (hr:vW n r=true) (hd:OY n d) (H:CY P n f args' [] r d):CY P n f args h r d:=by
 intro C vs W hL hn
 have LZ:cY C.bare []:=⟨fun m=>by simp[Ctx.bare,ae],fun m cs Z=>by simp[ae]at Z,fun m m' hm=>hm.elim,fun m hm=>hm.elim,fun m hm=>hm.elim⟩
 refine(H C.bare vs LZ (Kf W hf hL) (fun k u=>u)).mono ?_
 rintro e w' ⟨Y,C0,rfl,rfl,hp⟩
 have fb:∀b,b<C.w.heap.size->C0.w.heap[b]? = C.w.heap[b]? := fun b hb=>hp.same b hb (fun m _ M=>M.elim)
 have ay:∀m,C.kn m->m.1≠n:=fun m hm e=>hn m.2 (by rw[<-e];exact hm)
 have k0:∀m,C0.kn m->m.1=n:=fun m hm=>((hp.kn m).1 hm).elim (fun h=>h.elim) id
 have l0:∀m,C0.live m->m.1=n:=fun m hm=>k0 m (hp.heap.kn m hm)
 have s0:∀m,C0.live m->C.w.heap.size<=C0.ρ m:=fun m hm=>by
  rcases hp.lA m hm with⟨A,_⟩ | A | ⟨_,_,A,_⟩
  ·exact A.elim
  ·exact A
  ·exact A.elim
 have nd:∀m,m.1≠n->m∉d.map (·.1):=fun m hm hq=>by
  obtain⟨q,q1,rfl⟩:=List.mem_map.1 hq
  exact hm (hd q q1).1
 have hold:∀m,m.1≠n->ae (aD d h) m=ae h m:=fun m hm=>gw d h m (nd m hm)
 have sM:∀m,m.1=n->ae h m=none:=fun m hm=>by
  cases Z:ae h m with
  | none=>rfl
  | some cs=>exact absurd hm (ay m (W.kn m ((W.live m).2 (by rw[Z];rfl))))
 have m7:∀m,m.1=n->ae (aD d h) m=ae (aD d []) m:=fun m hm=>by
  rcases m4 m d h with⟨_,A⟩ | ⟨A,E⟩
  ·exact A []
  ·rw[E,gw d [] m A,sM m hm];rfl
 let C':Ctx:={ ρ:=fun m=>if m.1=n then C0.ρ m else C.ρ m,bs:=fun m=>if m.1=n then C0.bs m else C.bs m,live:=fun m=>C.live m\/C0.live m,kn:=fun m=>C.kn m\/m.1=n,mt:=fun b=>(C.mt b/\b<C.w.heap.size)\/(C.w.heap.size<=b/\C0.mt b),w:=C0.w }
 have lt:∀m,C.live m->C.ρ m<C.w.heap.size:=fun m hm=>W.lt hm
 have eold:∀m,m.1≠n->C'.ρ m=C.ρ m/\C'.bs m=C.bs m:=fun m hm=>⟨if_neg hm,if_neg hm⟩
 have enew:∀m,m.1=n->C'.ρ m=C0.ρ m/\C'.bs m=C0.bs m:=fun m hm=>⟨if_pos hm,if_pos hm⟩
 have le:C.le C':=by
  refine⟨hp.le.size,fun b hb _=>fb b hb,fun b hb hm => ?_,fun _ h => .inl h,fun m hm M => ?_,fun m hm M cs ty aI => ?_⟩
  ·rcases hm with hm | hm
   ·exact hm.1
   ·omega
  ·rcases M with M | M
   ·exact⟨M,eold m (ay m hm)⟩
   ·exact absurd (l0 m M) (ay m hm)
  ·have aQ:C.ρ m<C.w.heap.size:=by
    rcases Nat.lt_or_ge (C.ρ m) C.w.heap.size with E | E
    ·exact E
    ·rw[Array.getElem?_eq_none E]at aI;cases aI
   exact⟨cs,ty,(fb _ aQ).trans aI,rfl⟩
 have bX:∀m:Nm,m.1=n->C'.live m->C0.live m/\C'.ρ m=C0.ρ m/\C'.bs m=C0.bs m:=fun m hm M=>by
  rcases M with M | M
  ·exact absurd hm (ay m (W.kn m M))
  ·exact⟨M,enew m hm⟩
 have conv:∀v Y,vW n v=true->aj C0 v Y->aj C' v Y:=aj.own rfl (fun m hm => .inr hm) bX
 refine⟨Y,C',rfl,rfl,le,fun _=>Iff.rfl,⟨fun m => ?_,fun m cs Z => ?_,fun m m' hm a0 G => ?_,fun m hm => ?_,fun m hm => ?_⟩,conv r Y hr hp.val,fun b hb _=>fb b hb,fun b hb=>⟨fun h => ?_,fun h => .inl ⟨h,hb⟩⟩,hp.os,hp.tape,hp.output,fun m M => ?_,fun m hm => ?_⟩
 ·by_cases c:m.1=n
  ·rw[m7 m c,<-hp.heap.live m]
   exact⟨fun h=>h.elim (fun h=>absurd c (ay m (W.kn m h))) id,.inr⟩
  ·rw[hold m c,<-W.live m]
   exact⟨fun h=>h.elim id (fun h=>absurd (l0 m h) c),.inl⟩
 ·by_cases c:m.1=n
  ·rw[m7 m c]at Z
   obtain⟨arr,ty,ha,aI⟩:=hp.heap.obj m cs Z
   have ho:=Xx hd (fun bn h'=>by simp[ae]at h') Z
   refine⟨arr,ty,by rw[(enew m c).1];exact ha,fun j x O => ?_⟩
   obtain⟨v,v1,v2⟩:=aI j x O
   exact⟨v,by rw[(enew m c).2];exact v1,conv x v (Xt ho O) v2⟩
  ·rw[hold m c]at Z
   have dJ:=W.get Z
   obtain⟨arr,ty,ha,aI⟩:=W.obj m cs Z
   refine⟨arr,ty,by rw[(eold m c).1];show C0.w.heap[C.ρ m]? = _;rw[fb _ (lt m dJ)];exact ha,fun j x O => ?_⟩
   obtain⟨v,v1,v2⟩:=aI j x O
   exact⟨v,by rw[(eold m c).2];exact v1,v2.mono le⟩
 ·rcases hm with hm | hm<;>rcases a0 with a0 | a0
  ·rw[(eold m (ay m (W.kn m hm))).1,(eold m' (ay m' (W.kn m' a0))).1]at G
   exact W.inj m m' hm a0 G
  ·rw[(eold m (ay m (W.kn m hm))).1,(enew m' (l0 m' a0)).1]at G
   have:=lt m hm;have:=s0 m' a0;omega
  ·rw[(enew m (l0 m hm)).1,(eold m' (ay m' (W.kn m' a0))).1]at G
   have:=lt m' a0;have:=s0 m hm;omega
  ·rw[(enew m (l0 m hm)).1,(enew m' (l0 m' a0)).1]at G
   exact hp.heap.inj m m' hm a0 G
 ·rcases hm with hm | hm
  ·rw[(eold m (ay m (W.kn m hm))).1]
   exact .inl ⟨W.mt m hm,lt m hm⟩
  ·rw[(enew m (l0 m hm)).1]
   exact .inr ⟨s0 m hm,hp.heap.mt m hm⟩
 ·rcases hm with hm | hm
  ·exact .inl (W.kn m hm)
  ·exact .inr (l0 m hm)
 ·rcases h with h | h
  ·exact h.1
  ·omega
 ·rcases M with M | M
  ·exact .inl ⟨M,(eold m (ay m (W.kn m M))).1⟩
  ·refine .inr (.inl ?_)
   rw[(enew m (l0 m M)).1]
   exact s0 m M
 ·obtain⟨q,q1,rfl⟩:=List.mem_map.1 hm
  exact .inr (hd q q1).1
end Go.Proofs.Aw
namespace Go.Proofs.Aw
open Go
theorem SI {C bM:Ctx} {h g:Hp} (W:cY C h) (aZ:C.le bM) (hw:bM.w=C.w) (Z:∀m cs,ae g m=some cs->ae h m=some cs/\¬bM.mt (C.ρ m)) {v v':AV} {Y:Value} (hf:rR g v v') (H:aj C v Y):aj bM v' Y:=by
 rcases hf with(rfl | ⟨rfl,_⟩) | ⟨m,z,off,len,own,fs,rfl,h0,G,hn,rfl⟩
 ·simp only[aj]
 ·exact H.mono aZ
 ·simp only[er]at G
  obtain⟨cs,Bp,G⟩:=Option.bind_eq_some_iff.1 G
  split at G
  ·rename_i hz
   cases G
   obtain⟨U0,By⟩:=Z m cs Bp
   obtain⟨_,_,M⟩:=H
   have gz:=W.get U0
   obtain⟨cap,o,rfl,f2,qF,_⟩:=M gz
   obtain⟨arr,ty,hb,ii⟩:=W.obj _ _ U0
   refine hv.2 ⟨some ⟨C.ρ m,o,none⟩,cap,by rw[qi],by rw[qi];exact f2,(fun hx=>nomatch hx),fun ay=>⟨_,rfl,?_,By,?_⟩⟩
   ·rw[hw];exact(Array.getElem?_eq_some_iff.1 hb).1
   ·have hlen:0<len:=by
     rcases Nat.eq_zero_or_pos len with A | A
     ·subst A;exact absurd rfl ay
     ·exact A
    obtain rfl:o=C.bs m+off:=by
     rcases qF with A | A
     ·exact A
     ·omega
    refine dc.mk fun j e O => ?_
    have gy:=Aj z len _ j e O
    have co:j*z+z<=len*z:=by rw[<-Nat.succ_mul];exact Nat.mul_le_mul_right z gy.1
    have sB:e.length=z:=by
     rw[gy.2];simp only[List.length_take,List.length_drop];omega
    refine⟨sB,cT.mk fun k c u => ?_⟩
    have aM:k<z:=by
     have:=(List.getElem?_eq_some_iff.1 u).1
     omega
    have mZ:cs[off+(j*z+k)]? = some c:=by
     rw[gy.2,List.getElem?_take,if_pos aM,List.getElem?_drop,List.getElem?_drop]at u
     exact u
    obtain⟨Y,hu,j7⟩:=yL (C:=C) (b:=C.ρ m) (k:=C.bs m) (cs:=cs) ⟨arr,ty,hb,ii⟩ _ _ mZ
    refine⟨Y,?_,j7.mono aZ⟩
    simp only[jS]at hu ⊢
    have e1:C.bs m+off+(0+j)*z+(0+k)=C.bs m+(off+(j*z+k)):=by simp only[Nat.zero_add];omega
    rw[e1,hw]
    exact hu
  ·cases G
def DW (g:Hp) (v v':AV):Prop:=rR g v v'\/∃cs ds,v = .agg cs/\v' = .agg ds/\lM g cs ds
def zP (g:Hp):List AV->List AV->Prop
 | [],ch=>ch=[]
 | v::vs,l=>∃v' ch,l=v'::ch/\DW g v v'/\zP g vs ch
def Ro (g:Hp) (v v':AV):Prop:=DW g v v'\/∃vs ws,v = .tup vs/\v' = .tup ws/\zP g vs ws
section
variable {C bM:Ctx} {h g:Hp} (W:cY C h) (aZ:C.le bM) (hw:bM.w=C.w) (Z:∀m cs,ae g m=some cs->ae h m=some cs/\¬bM.mt (C.ρ m))
include W aZ hw Z
theorem SE:∀{vs ch:List AV} {us:List Value},lM g vs ch->aC C vs us->aC bM ch us
 | [],_,us,hf,H=>by simp only[lM]at hf;subst hf;exact H
 | v::vs,_,us,⟨v',ch,rfl,A,E⟩,H=>by
  obtain⟨Y,g_,rfl,eW,j6⟩:=H
  exact⟨Y,g_,rfl,SI W aZ hw Z A eW,SE E j6⟩
theorem SJ {v v':AV} {Y:Value} (hf:DW g v v') (H:aj C v Y):aj bM v' Y:=by
 rcases hf with hf | ⟨cs,ds,rfl,rfl,hf⟩
 ·exact SI W aZ hw Z hf H
 ·obtain⟨us,e,H⟩:=H
  exact⟨us,e,SE W aZ hw Z hf H⟩
theorem SF:∀{vs ch:List AV} {us:List Value},zP g vs ch->aC C vs us->aC bM ch us
 | [],_,us,hf,H=>by simp only[zP]at hf;subst hf;exact H
 | v::vs,_,us,⟨v',ch,rfl,A,E⟩,H=>by
  obtain⟨Y,g_,rfl,eW,j6⟩:=H
  exact⟨Y,g_,rfl,SJ W aZ hw Z A eW,SF E j6⟩
theorem SK {v v':AV} {Y:Value} (hf:Ro g v v') (H:aj C v Y):aj bM v' Y:=by
 rcases hf with hf | ⟨vs,ws,rfl,rfl,hf⟩
 ·exact SJ W aZ hw Z hf H
 ·obtain⟨us,e,H⟩:=H
  exact⟨us,e,SF W aZ hw Z hf H⟩
end
theorem abi {P:Program} {n:Nat} {f:FuncId} {args:List AV} {h:Hp} {r r':AV} {d:Dl} (hd:∀q∈d,q.1.1=n) (hr:Ro (aD d []) r r') (H:CY P n f args h r d):CY P n f args h r' []:=by
 intro C vs W hL hn
 refine(H C vs W hL hn).mono ?_
 rintro e w' ⟨Y,C1,rfl,rfl,hp⟩
 have ay:∀m,C.kn m->m.1≠n:=fun m hm e=>hn m.2 (by rw[<-e];exact hm)
 have nd:∀m,m∈d.map (·.1)->m.1=n:=fun m hm=>by
  obtain⟨q,q1,rfl⟩:=List.mem_map.1 hm
  exact hd q q1
 have hold:∀m,m.1≠n->ae (aD d h) m=ae h m:=fun m hm=>gw d h m fun hq=>hm (nd m hq)
 have sM:∀m,m.1=n->ae h m=none:=fun m hm=>by
  cases Z:ae h m with
  | none=>rfl
  | some cs=>exact absurd hm (ay m (W.kn m ((W.live m).2 (by rw[Z];rfl))))
 have m7:∀m,m.1=n->ae (aD d h) m=ae (aD d []) m:=fun m hm=>by
  rcases m4 m d h with⟨_,A⟩ | ⟨A,E⟩
  ·exact A []
  ·rw[E,gw d [] m A,sM m hm];rfl
 have s1:∀m,m.1=n->C1.live m->C.w.heap.size<=C1.ρ m:=fun m hm M=>by
  rcases hp.lA m M with⟨A,_⟩ | A | ⟨m0,h0,A,_⟩
  ·exact absurd hm (ay m (W.kn m A))
  ·exact A
  ·exact absurd (nd m0 h0) (ay m0 (W.kn m0 A))
 let bM:Ctx:={ ρ:=C1.ρ,bs:=C1.bs,live:=fun m=>C1.live m/\m.1≠n,kn:=C1.kn,mt:=fun b=>C1.mt b/\b<C.w.heap.size,w:=C1.w }
 have aZ:C1.le bM:=⟨Nat.le_refl _,fun _ _ _=>rfl,fun _ _ h=>h.1,fun _ h=>h,fun m _ M=>⟨M.1,rfl,rfl⟩,fun _ _ _ cs ty h=>⟨cs,ty,h,rfl⟩⟩
 have te:∀m,C1.live m->m.1≠n->C.live m/\C1.ρ m=C.ρ m:=fun m M hm=>by
  have:C.live m:=(W.live m).2 (by rw[<-hold m hm];exact(hp.heap.live m).1 M)
  exact⟨this,(hp.le.live m (W.kn m this) M).2.1⟩
 have Bp:∀m cs,ae (aD d []) m=some cs->ae (aD d h) m=some cs/\¬bM.mt (C1.ρ m):=fun m cs Z=>by
  have hm:m.1=n:=by
   rcases m4 m d []with⟨A,_⟩ | ⟨_,E⟩
   ·exact nd m A
   ·rw[E]at Z;cases Z
  have gT:=(m7 m hm).trans Z
  refine⟨gT,fun hx => ?_⟩
  have:=s1 m hm (hp.heap.get gT)
  have:=hx.2
  omega
 refine⟨Y,bM,rfl,rfl,hp.le.trans aZ,hp.kn,⟨fun m => ?_,fun m cs Z => ?_,fun m m' hm a0 G=>hp.heap.inj m m' hm.1 a0.1 G,fun m hm => ?_,fun m hm=>hp.heap.kn m hm.1⟩,SK hp.heap aZ rfl Bp hr hp.val,fun b hb _=>hp.same b hb fun m hm M=>absurd (nd m hm) (ay m (W.kn m M)),fun b hb=>⟨fun h=>(hp.mt b hb).1 h.1,fun h=>⟨(hp.mt b hb).2 h,hb⟩⟩,hp.os,hp.tape,hp.output,fun m M => .inl (te m M.1 M.2),fun m hm=>by simp at hm⟩
 ·show(C1.live m/\m.1≠n)↔(ae h m).isSome=true
  by_cases c:m.1=n
  ·rw[sM m c]
   exact⟨fun h=>absurd c h.2,fun h=>by cases h⟩
  ·rw[<-hold m c,<-hp.heap.live m]
   exact⟨fun h=>h.1,fun h=>⟨h,c⟩⟩
 ·have c:m.1≠n:=fun c=>by
   have Z:ae h m=some cs:=Z
   rw[sM m c]at Z;cases Z
  have gT:ae (aD d h) m=some cs:=(hold m c).trans Z
  obtain⟨arr,ty,ha,aI⟩:=hp.heap.obj m cs gT
  exact⟨arr,ty,ha,fun j x O=>by obtain⟨v,v1,v2⟩:=aI j x O;exact⟨v,v1,v2.mono aZ⟩⟩
 ·obtain⟨l1,l2⟩:=te m hm.1 hm.2
  refine⟨hp.heap.mt m hm.1,?_⟩
  show C1.ρ m<_
  rw[l2];exact W.lt l1
end Go.Proofs.Aw
namespace Go.Proofs.Aw
open Go
theorem RA {P : Program} {f : FuncId} {n n0 : Nat} {args0 args : List AV} {m8 hs h0 : Hp} {r0 r : AV} {d0 d : Dl} (aE cw : Nm -> Nm) (qz : CY P n0 f args0 m8 r0 d0)
    (Fd : a4 (fun k => Nat.blt k.1 n0) args0 = true) (LX : args = bu aE args0)
    (Mp : ∀ m cs, ae m8 m = some cs -> m.1 < n0 /\ a4 (fun k => Nat.blt k.1 n0) cs = true /\ ae hs (aE m) = some (bu aE cs))
    (BC : ∀ m, (ae hs m).isSome = true -> (ae m8 (cw m)).isSome = true /\ aE (cw m) = m)
    (qB : ∀ m m', (ae m8 m).isSome = true -> (ae m8 m').isSome = true -> aE m = aE m' -> m = m')
    (mg : ∀ m cs, ae hs m = some cs -> ae h0 m = some cs)
    (xP : ∀ m, m ∈ d.map (·.1) -> m.1 = n \/ (ae hs m).isSome = true) (xQ : ∀ m, (ae hs m).isSome = true -> m ∈ d.map (·.1))
    (hR : b8 (d' n hs) r = true) (hr : r0 = aW cw r)
    (hC : ∀ m cs, ae (aD d h0) m = some cs -> d' n hs m = true -> a4 (d' n hs) cs = true /\ ae (aD d0 m8) (cw m) = some (bu cw cs))
    (FF : ∀ k, (ae (aD d h0) (n, k)).isSome = true -> n0 <= (cw (n, k)).1)
    (hni : ∀ j k, (ae (aD d h0) (n, j)).isSome = true -> (ae (aD d h0) (n, k)).isSome = true -> cw (n, j) = cw (n, k) -> j = k) : CY P n f args h0 r d := by
  intro C vs W hL hn
  let C1 : Ctx := { ρ := fun m => C.ρ (aE m), bs := fun m => C.bs (aE m), live := fun m => (ae m8 m).isSome = true, kn := fun m => m.1 < n0, mt := C.mt, w := C.w }
  have d8 : ∀ m, (ae hs m).isSome = true -> C.live m := fun m hm => by
    obtain ⟨cs, aI⟩ := Option.isSome_iff_exists.1 hm
    exact W.get (mg m cs aI)
  have co : ∀ m, (ae m8 m).isSome = true -> (ae hs (aE m)).isSome = true := fun m hm => by
    obtain ⟨cs, aI⟩ := Option.isSome_iff_exists.1 hm
    rw [(Mp m cs aI).2.2]; rfl
  have Bv : ∀ m, (ae m8 m).isSome = true -> m.1 < n0 := fun m hm => by
    obtain ⟨cs, aI⟩ := Option.isSome_iff_exists.1 hm
    exact (Mp m cs aI).1
  have sub0 : C.sub C1 aE (fun k => Nat.blt k.1 n0) := ⟨rfl, fun _ _ h => h, fun m hm _ => by simpa using hm, fun m _ _ hm => ⟨d8 _ (co m hm), rfl, rfl⟩⟩
  have pb : aC C1 args0 vs := aC.aW sub0 args0 vs Fd (by rw [<- LX]; exact hL)
  have hH1 : cY C1 m8 := by
    refine ⟨fun m => Iff.rfl, fun m cs Z => ?_, fun m m' hm a0 G => qB m m' hm a0 (W.inj _ _ (d8 _ (co m hm)) (d8 _ (co m' a0)) G), fun m hm => W.mt _ (d8 _ (co m hm)), fun m hm => Bv m hm⟩
    obtain ⟨_, g2, g3⟩ := Mp m cs Z
    obtain ⟨arr, ty, ha, H⟩ := W.obj _ _ (mg _ _ g3)
    refine ⟨arr, ty, ha, fun j c O => ?_⟩
    obtain ⟨u', a3, j8⟩ := H j _ (y4 aE cs j c O)
    exact ⟨u', a3, aj.aW sub0 c u' (pC g2 O) j8⟩
  refine (qz C1 vs hH1 pb fun k h => absurd (show n0 < n0 from h) (Nat.lt_irrefl _)).mono ?_
  rintro e w' ⟨Y, Cb, G, hw, hp⟩
  have hold : ∀ m, m.1 ≠ n -> (ae hs m).isSome = false -> ae (aD d h0) m = ae h0 m := fun m A E => gw d h0 m fun hm => by
    rcases xP m hm with h3 | h3
    · exact A h3
    · rw [E] at h3; cases h3
  let C' : Ctx := { ρ := fun m => if m.1 = n then Cb.ρ (cw m) else C.ρ m, bs := fun m => if m.1 = n then Cb.bs (cw m) else C.bs m, live := fun m => (ae (aD d h0) m).isSome = true, kn := fun m => C.kn m \/ m.1 = n,
                    mt := fun b => (C.mt b /\ b < C.w.heap.size) \/ ∃ k, (ae (aD d h0) (n, k)).isSome = true /\ b = Cb.ρ (cw (n, k)), w := Cb.w }
  have vz : ∀ m, (ae (aD d h0) m).isSome = true -> d' n hs m = true -> Cb.live (cw m) := fun m hm hq => by
    obtain ⟨cs, aI⟩ := Option.isSome_iff_exists.1 hm
    exact hp.heap.get (hC m cs aI hq).2
  have jD : ∀ k, (ae (aD d h0) (n, k)).isSome = true -> Cb.live (cw (n, k)) := fun k u => vz (n, k) u (by simp [d'])
  have i3 : ∀ m : Nm, m.1 = n -> (n, m.2) = m := fun m A => by rw [<- A]
  have nc : ∀ m, m.1 ≠ n -> (ae hs m).isSome = true -> (ae (aD d h0) m).isSome = true -> Cb.live (cw m) /\ Cb.ρ (cw m) = C.ρ m /\ Cb.bs (cw m) = C.bs m := fun m _ E h3 => by
    have l := vz m h3 (by simp [d', E])
    obtain ⟨g1, g2⟩ := BC m E
    obtain ⟨_, e1, e2⟩ := hp.le.live (cw m) (Bv _ g1) l
    exact ⟨l, by rw [e1]; show C.ρ (aE (cw m)) = _; rw [g2], by rw [e2]; show C.bs (aE (cw m)) = _; rw [g2]⟩
  have hO : ∀ m, m.1 ≠ n -> (ae (aD d h0) m).isSome = true -> C.live m := fun m A h3 => by
    cases E : (ae hs m).isSome with
    | true => exact d8 m E
    | false =>
      rw [hold m A E] at h3
      exact (W.live m).2 h3
  have ay : ∀ m, C.kn m -> m.1 ≠ n := fun m u e => hn m.2 (by rw [i3 m e]; exact u)
  have fb : ∀ b, b < C.w.heap.size -> (∀ m, (ae hs m).isSome = true -> b ≠ C.ρ m) -> Cb.w.heap[b]? = C.w.heap[b]? := fun b hb hq => hp.same b hb fun m _ M => hq _ (co m M)
  have WF : ∀ k, (ae (aD d h0) (n, k)).isSome = true -> C.w.heap.size <= Cb.ρ (cw (n, k)) \/ ∃ m', (ae hs m').isSome = true /\ Cb.ρ (cw (n, k)) = C.ρ m' := fun k u => by
    rcases hp.lA _ (jD k u) with ⟨A, _⟩ | A | ⟨m0, _, A, E⟩
    · have := Bv _ A
      have := FF k u
      omega
    · exact .inl A
    · exact .inr ⟨aE m0, co m0 A, E⟩
  have le : C.le C' := by
    refine ⟨hp.le.size, fun b hb hm => hp.le.same b hb hm, fun b hb hm => ?_, fun _ h => .inl h, fun m u M => ?_, fun m u M cs ty H => ?_⟩
    · rcases hm with A | ⟨k, u, A⟩
      · exact A.1
      · exact (hp.mt b hb).1 (by rw [A]; exact hp.heap.mt _ (jD k u))
    · have hm := ay m u
      exact ⟨hO m hm M, by simp [C', hm], by simp [C', hm]⟩
    · have hm := ay m u
      have oc := hO m hm M
      cases E : (ae hs m).isSome with
      | true =>
        obtain ⟨g1, g2⟩ := BC m E
        have := hp.le.own (cw m) (Bv _ g1) (nc m hm E M).1 cs ty (by show C.w.heap[C.ρ (aE (cw m))]? = _; rw [g2]; exact H)
        have e : C1.ρ (cw m) = C.ρ m := by show C.ρ (aE (cw m)) = _; rw [g2]
        rw [e] at this
        exact this
      | false =>
        refine ⟨cs, ty, (fb _ (W.lt oc) fun m' a0 e => ?_).trans H, rfl⟩
        have := W.inj m m' oc (d8 m' a0) e
        subst this
        rw [E] at a0; cases a0
  have sub : Cb.sub C' cw (d' n hs) := by
    refine ⟨rfl, fun b hb hm => ?_, fun m hq _ => ?_, fun m hq u M => ?_⟩
    · rcases hm with A | ⟨k, u, A⟩
      · exact (hp.mt b A.2).2 A.1
      · rw [A]; exact hp.heap.mt _ (jD k u)
    · simp only [d', Bool.or_eq_true, beq_iff_eq] at hq
      rcases hq with A | A
      · exact .inr A
      · exact .inl (W.kn m (d8 m A))
    · refine ⟨vz m M hq, ?_⟩
      by_cases A : m.1 = n
      · simp [C', A]
      · simp only [d', Bool.or_eq_true, beq_iff_eq] at hq
        have E := hq.resolve_left A
        simp only [C', A, if_false]
        exact ⟨(nc m A E M).2.1.symm, (nc m A E M).2.2.symm⟩
  have n9 : aj C' r Y := aj.aW sub _ Y hR (by rw [<- hr]; exact hp.val)
  refine ⟨Y, C', G, hw, le, fun _ => Iff.rfl, ⟨fun m => Iff.rfl, fun m cs Z => ?_, fun m m' hm a0 G => ?_, fun m hm => ?_, fun m hm => ?_⟩, n9, fun b hb hq => fb b hb fun m hm => hq m (xQ m hm) (d8 m hm), fun b hb => ?_, hp.os, hp.tape, hp.output, fun m hm => ?_, fun m hm => ?_⟩
  · cases hq : d' n hs m with
    | true =>
      obtain ⟨k1, k2⟩ := hC m cs Z hq
      obtain ⟨arr, ty, ha, H⟩ := hp.heap.obj _ _ k2
      have im : C'.ρ m = Cb.ρ (cw m) /\ C'.bs m = Cb.bs (cw m) := by
        by_cases A : m.1 = n
        · simp [C', A]
        · simp only [d', Bool.or_eq_true, beq_iff_eq] at hq
          simp only [C', A, if_false]
          have := nc m A (hq.resolve_left A) (by rw [Z]; rfl)
          exact ⟨this.2.1.symm, this.2.2.symm⟩
      refine ⟨arr, ty, by rw [im.1]; exact ha, fun j c O => ?_⟩
      obtain ⟨u', a3, j8⟩ := H j _ (y4 _ cs j c O)
      exact ⟨u', by rw [im.2]; exact a3, aj.aW sub c u' (pC k1 O) j8⟩
    | false =>
      simp only [d', Bool.or_eq_false_iff, beq_eq_false_iff_ne, ne_eq] at hq
      have gT := Z
      rw [hold m hq.1 hq.2] at gT
      have M := W.get gT
      obtain ⟨arr, ty, ha, H⟩ := W.obj m cs gT
      refine ⟨arr, ty, ?_, fun j c O => ?_⟩
      · simp only [C', hq.1, if_false]
        refine (fb _ (W.lt M) fun m' a0 e => ?_).trans ha
        have := W.inj m m' M (d8 m' a0) e
        subst this
        rw [hq.2] at a0; cases a0
      · obtain ⟨u', a3, j8⟩ := H j c O
        exact ⟨u', by simp only [C', hq.1, if_false]; exact a3, j8.mono le⟩
  · have oldρ : ∀ m, m.1 ≠ n -> (ae (aD d h0) m).isSome = true -> ∀ k, (ae (aD d h0) (n, k)).isSome = true -> Cb.ρ (cw (n, k)) = C.ρ m -> False := fun m A h3 k u e => by
      cases E : (ae hs m).isSome with
      | true =>
        obtain ⟨l1, e1, _⟩ := nc m A E h3
        have := hp.heap.inj _ _ (jD k u) l1 (by rw [e, e1])
        have h4 := FF k u
        have h5 := Bv _ (BC m E).1
        rw [this] at h4
        omega
      | false =>
        have oc := hO m A h3
        have hb := W.lt oc
        rcases WF k u with h4 | ⟨m', a0, e'⟩
        · omega
        · have := W.inj m m' oc (d8 m' a0) (by rw [<- e, e'])
          subst this
          rw [E] at a0; cases a0
    by_cases A : m.1 = n <;> by_cases E : m'.1 = n
    · have dB : (ae (aD d h0) (n, m.2)).isSome = true := by rw [i3 m A]; exact hm
      have fo : (ae (aD d h0) (n, m'.2)).isSome = true := by rw [i3 m' E]; exact a0
      simp only [C', A, E, if_true] at G
      rw [<- i3 m A, <- i3 m' E] at G
      have e1 := hp.heap.inj _ _ (jD _ dB) (jD _ fo) G
      exact Prod.ext (A.trans E.symm) (hni _ _ dB fo e1)
    · have dB : (ae (aD d h0) (n, m.2)).isSome = true := by rw [i3 m A]; exact hm
      simp only [C', A, E, if_true, if_false] at G
      rw [<- i3 m A] at G
      exact (oldρ m' E a0 _ dB G).elim
    · have fo : (ae (aD d h0) (n, m'.2)).isSome = true := by rw [i3 m' E]; exact a0
      simp only [C', A, E, if_true, if_false] at G
      rw [<- i3 m' E] at G
      exact (oldρ m A hm _ fo G.symm).elim
    · simp only [C', A, E, if_false] at G
      exact W.inj m m' (hO m A hm) (hO m' E a0) G
  · by_cases A : m.1 = n
    · have dB : (ae (aD d h0) (n, m.2)).isSome = true := by rw [i3 m A]; exact hm
      simp only [C', A, if_true]
      exact .inr ⟨m.2, dB, by rw [i3 m A]⟩
    · simp only [C', A, if_false]
      exact .inl ⟨W.mt m (hO m A hm), W.lt (hO m A hm)⟩
  · by_cases A : m.1 = n
    · exact .inr A
    · exact .inl (W.kn m (hO m A hm))
  · constructor
    · rintro (A | ⟨k, u, A⟩)
      · exact A.1
      · exact (hp.mt b hb).1 (by rw [A]; exact hp.heap.mt _ (jD k u))
    · intro A; exact .inl ⟨A, hb⟩
  · by_cases A : m.1 = n
    · have dB : (ae (aD d h0) (n, m.2)).isSome = true := by rw [i3 m A]; exact hm
      simp only [C', A, if_true]
      rcases WF m.2 dB with E | ⟨m', a0, e'⟩
      · exact .inr (.inl (by rw [<- i3 m A]; exact E))
      · exact .inr (.inr ⟨m', xQ m' a0, d8 m' a0, by rw [<- i3 m A]; exact e'⟩)
    · exact .inl ⟨hO m A hm, by simp only [C', A, if_false]⟩
  · rcases xP m hm with A | A
    · exact .inr A
    · exact .inl (d8 m A)
theorem abh {P:Program} {n:Nat} {f:FuncId} {args:List AV} {h:Hp} {r:AV} {d:Dl} (H:CY P n f args h r []) (hd:∀m,ae (aD d h) m=ae h m) (hs:∀m,m∈d.map (·.1)->(ae h m).isSome=true):CY P n f args h r d:=by
 intro C vs W hL hn
 refine(H C vs W hL hn).mono ?_
 rintro e w' ⟨Y,C',G,hw,hp⟩
 refine⟨Y,C',G,hw,hp.le,hp.kn,⟨fun m => ?_,fun m cs Z => ?_,hp.heap.inj,hp.heap.mt,hp.heap.kn⟩,hp.val,fun b hb _=>hp.same b hb fun m hm=>(nomatch hm),hp.mt,hp.os,hp.tape,hp.output,fun m hm => ?_,fun m hm => .inl ((W.live m).2 (hs m hm))⟩
 ·rw[hd];exact hp.heap.live m
 ·rw[hd]at Z;exact hp.heap.obj m cs Z
 ·rcases hp.lA m hm with A | A | ⟨m0,A,_⟩
  ·exact .inl A
  ·exact .inr (.inl A)
  ·cases A
end Go.Proofs.Aw
namespace Go.Proofs.Aw
open Go
theorem aud {P:Program} {o:Oper} {a:Act} {w:World} {K:Act->World->Prop} {Q Q':Exit->Act->World->Prop} (h:∀e a w,e ≠ .normal->Q e a w->Q' e a w) (W:o.wp P a w K Q):o.wp P a w K Q':=by
 have M:LetsOut Q->LetsOut Q':=fun⟨a,w,hq⟩=>⟨a,w,h _ _ _ (by simp) hq⟩
 unfold Oper.wp at *
 generalize (execOp a.eval o).run P w=r at *
 cases r with
 | ok n w' =>
  cases n<;>simp only[Oper.upon]at W ⊢ <;>
   first
    | exact W
    | exact Calls.mono W (fun e auD G=>by cases e<;>first | exact G | exact h _ _ _ (by simp) G | exact M G)
    | exact Rows.mono W (fun _ _ G=>G)
 | halt x w'=>cases x<;>simp only[Oper.upon]at W ⊢ <;> first | exact W | exact h _ _ _ (by simp) W
structure Jj (ops:List Oper) (o:Oper):Prop where
 all:∀j,j<ops.length->∃ed∈o.after,Region.binds .any ed=true/\ed.on=j
 own:∀ed∈o.after,Region.binds .any ed=true->ed.on<ops.length
 free:o.guard=none
 guards:∀p∈ops,∀j want,p.guard=some (j,want)->j<ops.length
 ad9:∀i p,ops[i]? = some p->∀ed∈p.after,Region.binds .any ed=true->ed.on<i
theorem Hr (l:Array Bool) (j:Nat):(l.push false).getD j false=l.getD j false:=by
 simp only[Array.getD_eq_getD_getElem?,Array.getElem?_push]
 split
 ·rename_i h;subst h;simp
 ·rfl
theorem Hs (l:Array Bool) {j:Nat} (h:j<l.size):(l.push false).getD j true=l.getD j true:=by
 simp only[Array.getD_eq_getD_getElem?,Array.getElem?_push]
 rw[if_neg (by omega)]
theorem apd (l:Array Bool):(l.push false).getD l.size true=false:=by
 simp[Array.getD_eq_getD_getElem?]
theorem ape (l:Array Bool) {i:Nat} (h:i<l.size):(l.push false).setIfInBounds i true=(l.setIfInBounds i true).push false:=by
 apply Array.ext_getElem?
 intro j
 rw[Array.getElem?_push,Array.size_setIfInBounds]
 by_cases O:i=j
 ·subst O
  rw[if_neg (by omega),Array.getElem?_setIfInBounds_self_of_lt (by simp;omega),Array.getElem?_setIfInBounds_self_of_lt h]
 ·rw[Array.getElem?_setIfInBounds_ne O,Array.getElem?_setIfInBounds_ne O,Array.getElem?_push]
theorem acB {P:Program} {ops:List Oper} {o:Oper} (aR:Jj ops o) {Q Q0:Exit->Act->World->Prop} (hn:∀a w,Q0 .normal a w->o.wp P a w (fun a w=>Q .normal a w) Q) (G:∀e a w,e ≠ .normal->Q0 e a w->Q e a w) :
  ∀(fuel:Nat) (listed:Array Bool) (a:Act) (w:World),listed.size=ops.length->left (dg listed) ops.length<=fuel->wpAny P .any ops.toArray Q0 fuel listed a w->wpAny P .any (ops++[o]).toArray Q (fuel+1) (listed.push false) a w:=by
 have lets:LetsOut Q0->LetsOut Q:=fun⟨a,w,hq⟩=>⟨a,w,G _ _ _ (by simp) hq⟩
 have none:∀(listed:Array Bool),listed.size=ops.length->Region.ready .any (ops++[o]).toArray (listed.push false)≠[]:=by
  intro listed b7 hr
  have all:∀j,j<ops.length->dg listed j=true:=by
   intro j
   induction j using Nat.strongRecOn with
   | _ j ih =>
    intro O
    cases h:dg listed j with
    | true=>rfl
    | false =>
     exfalso
     have pj:j∈Region.ready .any (ops++[o]).toArray (listed.push false):=by
      refine mem_ready.2 ⟨by rw[Hs _ (by omega)];exact vy.2 ⟨by omega,h⟩,ops[j],by simp[List.getElem?_append_left O],fun ed d5 hb => ?_⟩
      have aQ:=aR.ad9 j ops[j] (by simp[O]) ed d5 hb
      rw[Hr]
      exact ih ed.on aQ (by omega)
     rw[hr]at pj;cases pj
  have pj:ops.length∈Region.ready .any (ops++[o]).toArray (listed.push false):=by
   refine mem_ready.2 ⟨by rw[<-b7];exact apd listed,o,by simp,fun ed d5 hb => ?_⟩
   rw[Hr]
   exact all _ (aR.own ed d5 hb)
  rw[hr]at pj;cases pj
 have full:∀(fuel:Nat) (listed:Array Bool) (a:Act) (w:World),listed.size=ops.length->(∀j,j<ops.length->dg listed j=true)->wpAny P .any ops.toArray Q0 fuel listed a w->Q0 .normal a w:=by
  intro fuel listed a w b7 iM h
  have hr:Region.ready .any ops.toArray listed=[]:=by
   apply List.eq_nil_iff_forall_not_mem.2
   intro j O
   obtain⟨A,_⟩:=mem_ready.1 O
   obtain⟨E,h3⟩:=vy.1 A
   rw[iM j (by omega)]at h3;cases h3
  cases fuel with
  | zero=>exact h.2
  | succ f=>exact h.1 hr
 have last:∀(fuel:Nat) (listed:Array Bool) (a:Act) (w:World),listed.size=ops.length->(∀j,j<ops.length->dg listed j=true)->Q0 .normal a w->wpOp P (ops++[o]).toArray Q ops.length (wpAny P .any (ops++[o]).toArray Q fuel ((listed.push false).setIfInBounds ops.length true)) a w:=by
  intro fuel listed a w b7 iM hq
  have hr:Region.ready .any (ops++[o]).toArray ((listed.push false).setIfInBounds ops.length true)=[]:=by
   apply List.eq_nil_iff_forall_not_mem.2
   intro j O
   obtain⟨A,p,hp,_⟩:=mem_ready.1 O
   have oa:j<ops.length+1:=by
    have:=(Array.getElem?_eq_some_iff.1 hp).1
    simpa using this
   have:((listed.push false).setIfInBounds ops.length true).getD j true=true:=by
    simp only[Array.getD_eq_getD_getElem?]
    by_cases dN:j=ops.length
    ·subst dN
     rw[<-b7]
     simp
    ·rw[Array.getElem?_setIfInBounds_ne (by omega),<-Array.getD_eq_getD_getElem?,Hs _ (by omega)]
     have:=iM j (by omega)
     unfold dg at this
     rw[Array.getD_eq_getD_getElem?]at this ⊢
     have aQ:j<listed.size:=by omega
     simp only[Array.getElem?_eq_getElem aQ,Option.getD_some]at this ⊢
     exact this
   rw[this]at A;cases A
  have L6:∀a w,Q .normal a w->wpAny P .any (ops++[o]).toArray Q fuel ((listed.push false).setIfInBounds ops.length true) a w:=by
   intro a w hq
   cases fuel with
   | zero=>exact⟨hr,hq⟩
   | succ f=>exact⟨fun _=>hq,fun i hi=>by rw[hr]at hi;cases hi⟩
  unfold wpOp
  have ho:(ops++[o]).toArray[ops.length]? = some o:=by simp
  rw[ho]
  simp only
  rw[if_pos (by simp[Region.wanted,aR.free])]
  exact .inl (Oper.wp_mono L6 (hn a w hq))
 intro fuel
 induction fuel with
 | zero =>
  intro listed a w b7 M h
  have iM:=Ns (Nat.le_zero.1 M)
  have hq:=full _ _ _ _ b7 iM h
  refine⟨fun hr=>absurd hr (none listed b7),fun i hi => ?_⟩
  obtain⟨A,p,hp,d5⟩:=mem_ready.1 hi
  have co:i<ops.length+1:=by
   have:=(Array.getElem?_eq_some_iff.1 hp).1
   simpa using this
  rcases Nat.lt_or_ge i ops.length with aQ | u2
  ·rw[Hs _ (by omega)]at A
   obtain⟨_,h3⟩:=vy.1 A
   rw[iM i aQ]at h3;cases h3
  ·obtain rfl:i=ops.length:=by omega
   exact last 0 listed a w b7 iM hq
 | succ f ih =>
  intro listed a w b7 M h
  refine⟨fun hr=>absurd hr (none listed b7),fun i hi => ?_⟩
  obtain⟨A,p,hp,d5⟩:=mem_ready.1 hi
  have co:i<ops.length+1:=by
   have:=(Array.getElem?_eq_some_iff.1 hp).1
   simpa using this
  rcases Nat.lt_or_ge i ops.length with aQ | u2
  ·have qG:ops[i]? = some p:=by
    have:(ops++[o])[i]? = some p:=by simpa using hp
    rwa[List.getElem?_append_left aQ]at this
   rw[Hs _ (by omega)]at A
   have Ma:i∈Region.ready .any ops.toArray listed:=mem_ready.2 ⟨A,p,by simpa using qG,fun ed G hb=>by
    have:=d5 ed G hb
    rwa[Hr]at this⟩
   have hL:dg listed i=false:=(vy.1 A).2
   have g:=h.2 i Ma
   rw[ape _ (by omega)]
   have hK:∀a w,wpAny P .any ops.toArray Q0 f (listed.setIfInBounds i true) a w->wpAny P .any (ops++[o]).toArray Q (f+1) ((listed.setIfInBounds i true).push false) a w:=fun a w W=>by
    refine ih _ a w (by simpa using b7) ?_ W
    have e1:left (dg (listed.setIfInBounds i true)) ops.length=left (eA (dg listed) i) ops.length:=F9 fun j _=>NM (by omega) j
    have:=Nr hL aQ
    omega
   unfold wpOp at g ⊢
   have hpa:ops.toArray[i]? = some p:=by simpa using qG
   rw[hpa]at g
   rw[hp]
   simp only at g ⊢
   have hw:Region.wanted p (yielded (ops++[o]).toArray a.tmps)=Region.wanted p (yielded ops.toArray a.tmps):=by
    unfold Region.wanted
    cases Z:p.guard with
    | none=>rfl
    | some pm =>
     obtain⟨j,want⟩:=pm
     have O:=aR.guards p (List.mem_of_getElem? qG) j want Z
     have:yielded (ops++[o]).toArray a.tmps j=yielded ops.toArray a.tmps j:=by
      unfold yielded
      have e:(ops++[o]).toArray[j]? = ops.toArray[j]? := by
       simp[List.getElem?_append_left O]
      rw[e]
     simp only[this]
   rw[hw]
   split
   ·rename_i H
    rw[if_pos H]at g
    rcases g with g | ⟨g1,g2⟩
    ·exact .inl (aud G (Oper.wp_mono hK g))
    ·exact .inr ⟨g1,lets g2⟩
   ·rename_i H
    rw[if_neg H]at g
    exact hK _ _ g
  ·obtain rfl:i=ops.length:=by omega
   have iM:∀j,j<ops.length->dg listed j=true:=fun j O=>by
    have hpo:p=o:=by
     have:(ops++[o])[ops.length]? = some p:=by simpa using hp
     simpa using this.symm
    subst hpo
    obtain⟨ed,E,h3,h4⟩:=aR.all j O
    have:=d5 ed E h3
    rw[Hr,h4]at this
    exact this
   exact last (f+1) listed a w b7 iM (full _ _ _ _ b7 iM h)
theorem abb {P:Program} {ac:Env} {ops:List Oper} {o:Oper} {Q:Exit->St->Prop} {V:St} {id:Nat} (hm:P.follows .mixedOrders=true) (aR:Jj ops o) (hd:∀i,o.dst=some i->i<ac.N) (hf:fits ac.N ops=true) (ho:once ops=true) (D:List En)
  (hw:jl P ops V.nx (e7 ops V.t) V.h D) (M:D.length=ops.length) {r:AV} {d:Dl}
  (hy:Yields P (V.nx+ops.length) o.op (b3 (fun _=>true) D (e7 ops V.t)) (aJ (fun _=>true) D V.h) r d)
  (u:Q .normal ⟨gG o.dst r (b3 (fun _=>true) D (e7 ops V.t)),aD d (aJ (fun _=>true) D V.h),V.nx+ops.length+1⟩):AW P ac (.region id (ops++[o]).toArray true) Q V:=fun a w hr=>by
 refine wp_region_any hm ?_
 have g:=S_ (Q:=fun e aK=>e = .normal/\aK=⟨b3 (fun _=>true) D (e7 ops V.t),aJ (fun _=>true) D V.h,V.nx+ops.length⟩) hf ho D hw M ⟨rfl,rfl⟩ hr
 have e1:(ops++[o]).toArray.size=ops.toArray.size+1:=by simp
 have e2:Array.replicate (ops++[o]).toArray.size false=(Array.replicate ops.toArray.size false).push false:=by
  rw[e1]
  exact Array.replicate_succ
 rw[e2,e1]
 refine acB aR (fun bz w' hq => ?_) (fun e bz w' ay hq => ?_) _ _ _ _ (by simp) ?_ g
 ·obtain⟨aK,BF,_,rfl⟩:=hq
  obtain⟨C,rfl,hC⟩:=BF
  exact hy C bz o _ _ rfl hC.heap hC.t (fun k bI=>absurd (hC.kn _ bI) (by simp)) fun Y C' hp=>⟨_,⟨C',rfl,hC.step hp hd⟩,u⟩
 ·obtain⟨_,_,A,_⟩:=hq
  exact absurd A ay
 ·have:∀n,left (dg (Array.replicate ops.toArray.size false)) n<=n:=fun n=>by
   induction n with
   | zero=>simp[left]
   | succ n ih=>simp only[left];split<;>omega
  have E:=this ops.length
  simpa using E
end Go.Proofs.Aw
namespace Go.Proofs.Aw
open Go
variable {P:Program} {ac:Env} {Q:Exit->St->Prop} {V aK:St}
end Go.Proofs.Aw
namespace Go.Proofs.Aw
open Go
theorem Bc (p:Nm->Bool) (m:Nm) (hm:p m=true):∀(d:Dl) (h:Hp),ae (aD (d.filter fun q=>p q.1) h) m=ae (aD d h) m
 | [],h=>rfl
 | (k,o)::d,h=>by
  by_cases u:p k=true
  ·rw[List.filter_cons_of_pos (by exact u)]
   cases o with
   | none=>simp only[aD];exact Bc p m hm d _
   | some cs=>simp only[aD];exact Bc p m hm d _
  ·rw[List.filter_cons_of_neg (by exact u)]
   have ay:k≠m:=fun e=>u (by rw[e];exact hm)
   have UJ:∀(d:Dl) (h h':Hp),ae h m=ae h' m->ae (aD d h) m=ae (aD d h') m:=fun d h h' e=>by
    rcases m4 m d h with⟨_,A⟩ | ⟨A,E⟩
    ·exact A h'
    ·rw[E,gw d h' m A,e]
   rw[Bc p m hm d h]
   cases o with
   | none=>simp only[aD];exact UJ d _ _ (by rw[u3];rw[if_neg ay])
   | some cs=>simp only[aD];exact UJ d _ _ (by rw[dI];rw[if_neg ay])
theorem abj {P:Program} {n:Nat} {f:FuncId} {args:List AV} {h:Hp} {r r':AV} {d:Dl} (hs:∀m,m∈d.map (·.1)->m.1≠n->(ae (aD d h) m).isSome=true) (hr:Ro (aD (d.filter fun q=>q.1.1==n) []) r r') (H:CY P n f args h r d):CY P n f args h r' (d.filter fun q => !(q.1.1==n)):=by
 intro C vs W hL hn
 refine(H C vs W hL hn).mono ?_
 rintro e w' ⟨Y,C1,rfl,rfl,hp⟩
 have ay:∀m,C.kn m->m.1≠n:=fun m hm e=>hn m.2 (by rw[<-e];exact hm)
 have hold:∀m,m.1≠n->ae (aD (d.filter fun q => !(q.1.1==n)) h) m=ae (aD d h) m:=fun m hm=>Bc (fun k => !(k.1==n)) m (by simpa using hm) d h
 have sM:∀m,m.1=n->ae h m=none:=fun m hm=>by
  cases Z:ae h m with
  | none=>rfl
  | some cs=>exact absurd hm (ay m (W.kn m ((W.live m).2 (by rw[Z];rfl))))
 have Va:∀m,m.1=n->ae (aD (d.filter fun q => !(q.1.1==n)) h) m=none:=fun m hm=>by
  rw[gw _ _ _ fun hq=>by
   obtain⟨q,q1,q2⟩:=List.mem_map.1 hq
   have:=(List.mem_filter.1 q1).2
   rw[q2,hm]at this
   simp at this,sM m hm]
 have m7:∀m,m.1=n->ae (aD d h) m=ae (aD (d.filter fun q=>q.1.1==n) []) m:=fun m hm=>by
  rw[Bc (fun k=>k.1==n) m (by simpa using hm) d []]
  rcases m4 m d h with⟨_,A⟩ | ⟨A,E⟩
  ·exact A []
  ·rw[E,gw d [] m A,sM m hm];rfl
 have af7:∀m,C1.live m->C.live m->C1.ρ m=C.ρ m:=fun m A E=>(hp.le.live m (W.kn m E) A).2.1
 have s1:∀m,m.1=n->C1.live m->C.w.heap.size<=C1.ρ m:=fun m hm M=>by
  rcases hp.lA m M with⟨A,_⟩ | A | ⟨m0,h0,A,E⟩
  ·exact absurd hm (ay m (W.kn m A))
  ·exact A
  ·have l0:C1.live m0:=(hp.heap.live m0).2 (hs m0 h0 (ay m0 (W.kn m0 A)))
   have:=hp.heap.inj m m0 M l0 (by rw[E,af7 m0 l0 A])
   rw[this]at hm
   exact absurd hm (ay m0 (W.kn m0 A))
 let bM:Ctx:={ ρ:=C1.ρ,bs:=C1.bs,live:=fun m=>C1.live m/\m.1≠n,kn:=C1.kn,mt:=fun b=>C1.mt b/\(b<C.w.heap.size\/∃m,C1.live m/\m.1≠n/\C1.ρ m=b),w:=C1.w }
 have aZ:C1.le bM:=⟨Nat.le_refl _,fun _ _ _=>rfl,fun _ _ h=>h.1,fun _ h=>h,fun m _ M=>⟨M.1,rfl,rfl⟩,fun _ _ _ cs ty h=>⟨cs,ty,h,rfl⟩⟩
 have Bp:∀m cs,ae (aD (d.filter fun q=>q.1.1==n) []) m=some cs->ae (aD d h) m=some cs/\¬bM.mt (C1.ρ m):=fun m cs Z=>by
  have hm:m.1=n:=by
   rcases m4 m (d.filter fun q=>q.1.1==n) []with⟨A,_⟩ | ⟨_,E⟩
   ·obtain⟨q,q1,rfl⟩:=List.mem_map.1 A
    simpa using (List.mem_filter.1 q1).2
   ·rw[E]at Z;cases Z
  have gT:=(m7 m hm).trans Z
  have M:=hp.heap.get gT
  refine⟨gT,fun hx => ?_⟩
  rcases hx.2 with hx | ⟨m',l1,l2,qU⟩
  ·have:=s1 m hm M
   omega
  ·have:=hp.heap.inj m' m l1 M qU
   rw[this]at l2
   exact l2 hm
 refine⟨Y,bM,rfl,rfl,hp.le.trans aZ,hp.kn,⟨fun m => ?_,fun m cs Z => ?_,fun m m' hm a0 G=>hp.heap.inj m m' hm.1 a0.1 G,fun m hm=>⟨hp.heap.mt m hm.1,.inr ⟨m,hm.1,hm.2,rfl⟩⟩,fun m hm=>hp.heap.kn m hm.1⟩,SK hp.heap aZ rfl Bp hr hp.val,fun b hb hq=>hp.same b hb fun m hm M => ?_,fun b hb=>⟨fun h=>(hp.mt b hb).1 h.1,fun h=>⟨(hp.mt b hb).2 h,.inl hb⟩⟩,hp.os,hp.tape,hp.output,fun m M => ?_,fun m hm => ?_⟩
 ·show(C1.live m/\m.1≠n)↔(ae (aD (d.filter fun q => !(q.1.1==n)) h) m).isSome=true
  by_cases c:m.1=n
  ·rw[Va m c]
   exact⟨fun h=>absurd c h.2,fun h=>by cases h⟩
  ·rw[hold m c,<-hp.heap.live m]
   exact⟨fun h=>h.1,fun h=>⟨h,c⟩⟩
 ·have Z:ae (aD (d.filter fun q => !(q.1.1==n)) h) m=some cs:=Z
  have c:m.1≠n:=fun c=>by rw[Va m c]at Z;cases Z
  have gT:ae (aD d h) m=some cs:=(hold m c).symm.trans Z
  obtain⟨arr,ty,ha,aI⟩:=hp.heap.obj m cs gT
  exact⟨arr,ty,ha,fun j x O=>by obtain⟨v,v1,v2⟩:=aI j x O;exact⟨v,v1,v2.mono aZ⟩⟩
 ·have c:=ay m (W.kn m M)
  refine hq m ?_ M
  obtain⟨q,q1,rfl⟩:=List.mem_map.1 hm
  exact List.mem_map.2 ⟨q,List.mem_filter.2 ⟨q1,by simpa using c⟩,rfl⟩
 ·rcases hp.lA m M.1 with A | A | ⟨m0,h0,A,E⟩
  ·exact .inl A
  ·exact .inr (.inl A)
  ·refine .inr (.inr ⟨m0,?_,A,E⟩)
   obtain⟨q,q1,rfl⟩:=List.mem_map.1 h0
   exact List.mem_map.2 ⟨q,List.mem_filter.2 ⟨q1,by simpa using ay _ (W.kn _ A)⟩,rfl⟩
 ·obtain⟨q,q1,rfl⟩:=List.mem_map.1 hm
  exact hp.names _ (List.mem_map.2 ⟨q,(List.mem_filter.1 q1).1,rfl⟩)
end Go.Proofs.Aw
