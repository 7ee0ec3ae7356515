/- Parts of the logic that the proof runs in, one behind the other. -/
import Derived.Test.YtpdfmnhgocpkcaaGreatAwM1
namespace Go.Proofs.Aw
open Go
def nd (n:Nat):Nat->List (List AV)->Dl
 | _,[]=>[]
 | k,c::cs=>((n,k),some c)::nd n (k+1) cs
def Yt (n:Nat) (m:Nm):Nm:=(n,m.2)
theorem UZ (n:Nat):∀(cs:List (List AV)) (k:Nat) (h:Hp) (m:Nm),hget (hap (nd n k cs) h) m=if m.1=n/\k<=m.2/\m.2<k+cs.length then cs[m.2-k]? else hget h m
 | [],k,h,m=>by
  simp only[nd,hap,List.length_nil,Nat.add_zero]
  rw[if_neg (by omega)]
 | c::cs,k,h,m=>by
  simp only[nd,hap]
  rw[UZ n cs (k+1) _ m,dF]
  by_cases h1:m.1=n
  ·by_cases h2:m.2=k
   ·rw[if_neg (by omega),if_pos (by rw[<-h1,<-h2]),if_pos ⟨h1,by omega,by simp;omega⟩,h2,Nat.sub_self]
    rfl
   ·have hne:¬(n,k)=m:=fun e=>h2 (by rw[<-e])
    rw[if_neg hne]
    by_cases h3:k+1<=m.2/\m.2<k+1+cs.length
    ·rw[if_pos ⟨h1,h3⟩,if_pos ⟨h1,by omega,by simp;omega⟩,show m.2-k=m.2-(k+1)+1 from by omega,List.getElem?_cons_succ]
    ·rw[if_neg (fun h=>h3 h.2),if_neg (by simp;omega)]
  ·have hne:¬(n,k)=m:=fun e=>h1 (by rw[<-e])
   rw[if_neg (fun h=>h1 h.1),if_neg hne,if_neg (fun h=>h1 h.1)]
theorem Ob (n:Nat):∀(cs:List (List AV)) (k:Nat) (m:Nm),m∈(nd n k cs).map (·.1)->m.1=n
 | [],_,m,h=>by simp[nd]at h
 | c::cs,k,m,h=>by
  simp only[nd,List.map_cons,List.mem_cons]at h
  rcases h with rfl | h
  ·rfl
  ·exact Ob n cs (k+1) m h
mutual
theorem J6 (f g:Nm->Nm):∀v,ren f (ren g v)=ren (fun m=>f (g m)) v
 | .top=>rfl
 | .sc _=>rfl
 | .agg cs=>by simp only[ren,mW f g cs]
 | .tup cs=>by simp only[ren,mW f g cs]
 | .ptr _ _=>rfl
 | .sl _ _ _ _ _=>rfl
 | .ip cs _=>by simp only[ren,mW f g cs]
 | .ro _ es _=>by simp only[ren,NI f g es]
 | .fn _ xs ys=>by simp only[ren,mW f g xs,mW f g ys]
 | .ifc _ v=>by simp only[ren,J6 f g v]
theorem mW (f g:Nm->Nm):∀cs,renL f (renL g cs)=renL (fun m=>f (g m)) cs
 | []=>rfl
 | c::cs=>by simp only[renL,J6 f g c,mW f g cs]
theorem NI (f g:Nm->Nm):∀es,renE f (renE g es)=renE (fun m=>f (g m)) es
 | []=>rfl
 | e::es=>by simp only[renE,mW f g e,NI f g es]
end
mutual
theorem QC (n:Nat):∀v,nms (fun m=>m.1==n) (ren (Yt n) v)=true
 | .top=>rfl
 | .sc _=>rfl
 | .agg cs=>qc n cs
 | .tup cs=>qc n cs
 | .ptr _ _=>by simp[ren,nms,Yt]
 | .sl _ _ _ _ _=>by simp[ren,nms,Yt]
 | .ip cs _=>qc n cs
 | .ro _ es _=>Uw n es
 | .fn _ xs ys=>by simp only[ren,nms,qc n xs,qc n ys,Bool.and_self]
 | .ifc _ v=>QC n v
theorem qc (n:Nat):∀cs,nmsL (fun m=>m.1==n) (renL (Yt n) cs)=true
 | []=>rfl
 | c::cs=>by simp only[renL,nmsL,QC n c,qc n cs,Bool.and_self]
theorem Uw (n:Nat):∀es,nmsE (fun m=>m.1==n) (renE (Yt n) es)=true
 | []=>rfl
 | e::es=>by simp only[renE,nmsE,qc n e,Uw n es,Bool.and_self]
end
mutual
theorem qN (f:Nm->Nm):∀v,nms (fun _=>false) v=true->ren f v=v
 | .top,_=>rfl
 | .sc _,_=>rfl
 | .agg cs,h=>by simp only[ren,gG f cs h]
 | .tup cs,h=>by simp only[ren,gG f cs h]
 | .ptr _ _,h=>by cases h
 | .sl _ _ _ _ _,h=>by cases h
 | .ip cs _,h=>by simp only[ren,gG f cs h]
 | .ro _ es _,h=>by simp only[ren,jK f es h]
 | .fn _ xs ys,h=>by
   simp only[nms,Bool.and_eq_true]at h
   simp only[ren,gG f xs h.1,gG f ys h.2]
 | .ifc _ v,h=>by simp only[ren,qN f v h]
theorem gG (f:Nm->Nm):∀cs,nmsL (fun _=>false) cs=true->renL f cs=cs
 | [],_=>rfl
 | c::cs,h=>by
   simp only[nmsL,Bool.and_eq_true]at h
   simp only[renL,qN f c h.1,gG f cs h.2]
theorem jK (f:Nm->Nm):∀es,nmsE (fun _=>false) es=true->renE f es=es
 | [],_=>rfl
 | e::es,h=>by
   simp only[nmsE,Bool.and_eq_true]at h
   simp only[renE,gG f e h.1,jK f es h.2]
end
def cF7 (P:Program) (rs:List ResultVar) (φ:Nat->Nm) (r:AV) (news:List (List AV)) (e:Exit) (σ:St):Prop :=
 (e = .ret\/e = .normal)/\(xC P σ rs fun vs=>oneOf vs=ren (fun m=>φ m.2) r)/\(∀k cs,news[k]? = some cs->hget σ.h (φ k)=some (renL (fun m=>φ m.2) cs))/\(∀j k,j<news.length->k<news.length->φ j=φ k->j=k)
theorem BF {C:Ctx}:∀(k:Nat) (args:List AV) (vs:List Value) (tmps:Array Value),ConcL C args vs->(∀i v,vs[i]? = some v->tmps[k+i]? = some v)->∀i,Conc C (dX (slots k args) i) (tmps.getD i undef)
 | _,[],_,_,_,_,i=>by simp only[slots,dX,Conc]
 | k,a::args,vs,tmps,hL,hv,i=>by
  simp only[ConcL]at hL
  obtain⟨u,us,rfl,hc,hl⟩:=hL
  simp only[slots,dX]
  split
  ·rename_i hik
   subst hik
   have:=hv 0 u rfl
   rw[Nat.add_zero]at this
   simp only[Array.getD_eq_getD_getElem?,this,Option.getD_some]
   exact hc
  ·exact BF (k+1) args us tmps hl (fun j v hj=>by
    have:=hv (j+1) v (by simpa using hj)
    rwa[show k+(j+1)=k+1+j from by omega]at this) i
theorem bo7 {P : Program} {f : FuncId} {fn : Func} {c : Code} {args : List AV} {r : AV} {news : List (List AV)} (φ : Nat -> Nm) (hf : P.funcs[f]? = some fn) (hb : fn.body = some c) (hN : args.length <= fn.ntmps) (hA : nmsL (fun _ => false) args = true)
    (h : ∀ E : Env, E.N = fn.ntmps -> (∀ b, ¬ E.wr b) -> (∀ m, ¬ E.c0.kn m) -> AW P E c (cF7 P fn.results.toList φ r news) ⟨slots 0 args, [], 0⟩) (n : Nat) (h0 : Hp) : CY P n f args h0 (ren (Yt n) r) (nd n 0 (news.map (renL (Yt n)))) := by
  intro C vs hh hL hn
  refine calls_of_wp hf hb ?_
  let C0 : Ctx := { J := C.J, bs := C.bs, live := fun _ => False, kn := fun _ => False, mt := C.mt, w := C.w }
  let E : Env := { N := fn.ntmps, w0 := C.w, wr := fun _ => False, mt0 := C.mt, c0 := C0 }
  have hlen : vs.length = args.length := hL.length.symm
  have sub0 : C.sub C0 id (fun _ => false) := ⟨rfl, fun _ _ h => h, fun m hm => (nomatch hm), fun m hm => (nomatch hm)⟩
  have hL0 : ConcL C0 args vs := ConcL.ren sub0 args vs hA (by rw [mJ]; exact hL)
  have hrel : Rel E ⟨slots 0 args, [], 0⟩ { tmps := vs.toArray ++ Array.replicate (fn.ntmps - vs.toArray.size) undef, defers := [] } C.w := by
    refine ⟨C0, rfl, ⟨⟨fun m => by simp [C0, hget], fun m cs hg => by simp [hget] at hg, fun m m' hm => hm.elim, fun m hm => hm.elim, fun m hm => hm.elim⟩, ?_, ?_, rfl, fun m hm => hm.elim, ⟨rfl, rfl, rfl, Nat.le_refl _, fun _ _ _ => rfl, fun _ _ => Iff.rfl, fun m hm => hm.elim, Ctx.le.refl _⟩⟩⟩
    · refine BF 0 args vs _ hL0 fun i v hv => ?_
      have hi := (List.getElem?_eq_some_iff.1 hv).1
      rw [Nat.zero_add, Array.getElem?_append_left (by simpa using hi)]
      simpa using hv
    · simp [E]; omega
  refine Code.wp_mono ?_ (h E rfl (fun _ k => k) (fun _ k => k) _ _ hrel)
  rintro e a' w' ⟨σ', ⟨Cb, rfl, hCb⟩, he, hres, hnews, hinj⟩
  obtain ⟨us, u, hrun, hcu, hus⟩ := BL hCb.heap hCb.t hres
  have hkn0 : ∀ m, C.live m -> m.1 ≠ n := fun m hm e => hn m.2 (by have := hh.kn m hm; rwa [show m = (n, m.2) from by rw [<- e]] at this)
  let C' : Ctx := { J := fun m => if m.1 = n then Cb.J (φ m.2) else C.J m, bs := fun m => if m.1 = n then Cb.bs (φ m.2) else C.bs m, live := fun m => C.live m \/ (m.1 = n /\ m.2 < news.length), kn := fun m => C.kn m \/ m.1 = n,
                    mt := fun b => (C.mt b /\ b < C.w.heap.size) \/ ∃ k, k < news.length /\ b = Cb.J (φ k), w := Cb.w }
  have hsame : ∀ b, b < C.w.heap.size -> Cb.w.heap[b]? = C.w.heap[b]? := fun b hb => hCb.frame.same b hb (fun h => h)
  have hlv : ∀ k, k < news.length -> Cb.live (φ k) := fun k hk => hCb.heap.get (hnews k _ (List.getElem?_eq_getElem hk))
  have hnew : ∀ k, k < news.length -> C.w.heap.size <= Cb.J (φ k) := fun k hk => by
    rcases Nat.lt_or_ge (Cb.J (φ k)) C.w.heap.size with h2 | h2
    · exact (hCb.frame.wr _ (hlv k hk) h2).elim
    · exact h2
  have le : C.le C' := by
    refine ⟨hCb.frame.size, fun b hb _ => hsame b hb, fun b hb hm => ?_, fun _ h => .inl h, fun m hk hl => ?_, fun m hk hl cs ty hc => ?_⟩
    · rcases hm with h1 | ⟨k, hk, h1⟩
      · exact h1.1
      · have := hnew k hk; omega
    · have hm : m.1 ≠ n := fun e => hn m.2 (by rwa [show m = (n, m.2) from by rw [<- e]] at hk)
      rcases hl with h1 | h1
      · exact ⟨h1, by simp [C', hm], by simp [C', hm]⟩
      · exact absurd h1.1 hm
    · have hlt : C.J m < C.w.heap.size := by
        rcases Nat.lt_or_ge (C.J m) C.w.heap.size with h2 | h2
        · exact h2
        · rw [Array.getElem?_eq_none h2] at hc; cases hc
      exact ⟨cs, ty, (hsame _ hlt).trans hc, rfl⟩
  have sub : Cb.sub C' (fun m => φ m.2) (fun m => m.1 == n) := by
    refine ⟨rfl, fun b hb hm => ?_, fun m hm _ => .inr (by simpa using hm), fun m hm hk hl => ?_⟩
    · rcases hm with h1 | ⟨k, hk, h1⟩
      · exact (hCb.frame.mt b h1.2).2 h1.1
      · rw [h1]; exact hCb.heap.mt _ (hlv k hk)
    · have hm' : m.1 = n := by simpa using hm
      rcases hl with h1 | h1
      · exact absurd hm' (hkn0 m h1)
      · exact ⟨hlv _ h1.2, by simp [C', hm'], by simp [C', hm']⟩
  have hcr : Conc C' (ren (Yt n) r) u := by
    refine Conc.ren sub _ u (QC n r) ?_
    rw [J6]
    show Conc Cb (ren (fun m => φ m.2) r) u
    rw [<- hus]; exact hcu
  have hpost : Post C n h0 (ren (Yt n) r) (nd n 0 (news.map (renL (Yt n)))) u C' := by
    have hget' : ∀ m, hget (hap (nd n 0 (news.map (renL (Yt n)))) h0) m = if m.1 = n /\ m.2 < news.length then (news.map (renL (Yt n)))[m.2]? else hget h0 m := fun m => by
      rw [UZ]
      simp only [Nat.zero_le, true_and, Nat.zero_add, List.length_map, Nat.sub_zero]
    refine ⟨le, fun _ => Iff.rfl, ⟨fun m => ?_, fun m cs hg => ?_, fun m m' hm hm' he => ?_, fun m hm => ?_, fun m hm => ?_⟩, hcr, fun b hb _ => hsame b hb, fun b hb => ?_, hCb.frame.os, hCb.frame.tape, hCb.frame.output, fun m hm => ?_, fun m hm => .inr (Ob _ _ _ _ hm)⟩
    · rw [hget']
      by_cases h1 : m.1 = n /\ m.2 < news.length
      · rw [if_pos h1]
        simp [C', h1]
      · rw [if_neg h1, <- hh.live m]
        simp only [C', h1, or_false]
    · rw [hget'] at hg
      by_cases h1 : m.1 = n /\ m.2 < news.length
      · rw [if_pos h1, List.getElem?_map] at hg
        have h2 : news[m.2]? = some news[m.2] := List.getElem?_eq_getElem h1.2
        rw [h2] at hg
        simp only [Option.map_some, Option.some.injEq] at hg
        obtain ⟨arr, ty, ha, hc⟩ := hCb.heap.obj _ _ (hnews _ _ h2)
        refine ⟨arr, ty, by simp only [C', h1.1, if_true]; exact ha, fun j c hj => ?_⟩
        rw [<- hg] at hj
        have hx : (renL (fun m => φ m.2) news[m.2])[j]? = some (ren (fun m => φ m.2) c) := by
          have := qO (fun m => φ m.2) _ j c hj
          rw [mW] at this
          exact this
        obtain ⟨u', hu', hcu'⟩ := hc j _ hx
        exact ⟨u', by simp only [C', h1.1, if_true]; exact hu', Conc.ren sub c u' (jZ (qc n _) hj) hcu'⟩
      · rw [if_neg h1] at hg
        have hl := hh.get hg
        obtain ⟨arr, ty, ha, hc⟩ := hh.obj m cs hg
        refine ⟨arr, ty, ?_, fun j c hj => ?_⟩
        · simp only [C', hkn0 m hl, if_false]
          exact (hsame _ (hh.lt hl)).trans ha
        · obtain ⟨u', hu', hcu'⟩ := hc j c hj
          exact ⟨u', by simp only [C', hkn0 m hl, if_false]; exact hu', hcu'.mono le⟩
    · rcases hm with h1 | h1 <;> rcases hm' with h2 | h2
      · simp only [C', hkn0 m h1, hkn0 m' h2, if_false] at he
        exact hh.inj m m' h1 h2 he
      · simp only [C', hkn0 m h1, h2.1, if_false, if_true] at he
        have := hh.lt h1
        have := hnew _ h2.2
        omega
      · simp only [C', hkn0 m' h2, h1.1, if_false, if_true] at he
        have := hh.lt h2
        have := hnew _ h1.2
        omega
      · simp only [C', h1.1, h2.1, if_true] at he
        have e1 := hCb.heap.inj _ _ (hlv _ h1.2) (hlv _ h2.2) he
        have e2 := hinj _ _ h1.2 h2.2 e1
        exact Prod.ext (h1.1.trans h2.1.symm) e2
    · rcases hm with h1 | h1
      · simp only [C', hkn0 m h1, if_false]
        exact .inl ⟨hh.mt m h1, hh.lt h1⟩
      · simp only [C', h1.1, if_true]
        exact .inr ⟨m.2, h1.2, rfl⟩
    · rcases hm with h1 | h1
      · exact .inl (hh.kn m h1)
      · exact .inr h1.1
    · constructor
      · rintro (h1 | ⟨k, hk, h1⟩)
        · exact h1.1
        · have := hnew k hk; omega
      · intro h1; exact .inl ⟨h1, hb⟩
    · rcases hm with h1 | h1
      · exact .inl ⟨h1, by simp only [C', hkn0 m h1, if_false]⟩
      · exact .inr (.inl (by simp only [C', h1.1, if_true]; exact hnew _ h1.2))
  rcases he with rfl | rfl
  · exact ⟨hCb.defers, u, hrun, u, C', rfl, rfl, hpost⟩
  · exact ⟨hCb.defers, u, hrun, u, C', rfl, rfl, hpost⟩
theorem GH {P:Program} {f:FuncId} {fn:Func} {c:Code} {args:List AV} {r:AV} (hf:P.funcs[f]? = some fn) (hb:fn.body=some c) (hN:args.length<=fn.ntmps) (hA:nmsL (fun _=>false) args=true) (hR:nms (fun _=>false) r=true)
  (h:∀E:Env,E.N=fn.ntmps->(∀b,¬E.wr b)->(∀m,¬E.c0.kn m)->AW P E c (aN3 P fn.results.toList r) ⟨slots 0 args,[],0⟩) (n:Nat) (h0:Hp):CY P n f args h0 r []:=by
 have:=bo7 (r:=r) (news:=[]) (fun _=>(0,0)) hf hb hN hA (fun E hE hw hk=>bY (fun e σ hq=>⟨hq.1,by rw[qN _ r hR];exact hq.2,by simp,by simp⟩) (h E hE hw hk)) n h0
 rw[qN _ r hR]at this
 exact this
theorem aN6 {P:Program} {f:FuncId} {fn:Func} {c:Code} {args:List AV} {r:AV} (hf:P.funcs[f]? = some fn) (hb:fn.body=some c) (hN:args.length<=fn.ntmps) (hA:nmsL (fun _=>false) args=true) (hR:nms (fun _=>false) r=true)
  (h:∀E:Env,E.N=fn.ntmps->AW P E c (aN3 P fn.results.toList r) ⟨slots 0 args,[],0⟩) (n:Nat) (h0:Hp):CY P n f args h0 r [] :=
 GH hf hb hN hA hR (fun E hE _ _=>h E hE) n h0
end Go.Proofs.Aw
namespace Go.Proofs.Aw
open Go
structure En where
 dst:Option Tmp
 r:AV
 d:Dl
 ms:Nat
def iC:List En->Nat->Option En
 | [],_=>none
 | e::es,j=>if j=es.length then some e else iC es j
def bP (A:Nat->Bool):List En->Tp->Tp
 | [],t=>t
 | e::es,t=>qm e.dst (if A es.length=true then e.r else .top) (bP A es t)
def aj (A:Nat->Bool):List En->Hp->Hp
 | [],h=>h
 | e::es,h=>if A es.length=true then hap e.d (aj A es h)else aj A es h
def eF (n:Nat):Dl->Bool
 | []=>true
 | (m,some _)::d=>m.1==n&&eF n d
 | (_,none)::_=>false
def FW (es:List En) (j:Nat):Nat:=match iC es j with | some e=>e.ms | none=>0
def zl (es:List En):List Edge->Nat
 | []=>0
 | e::l=>if Region.binds .any e=true then(2 ^ e.on ||| FW es e.on) ||| zl es l else zl es l
def once:List Oper->Bool
 | []=>true
 | o::l=>(match o.dst with | some d=>l.all fun o'=>o'.dst != some d | none=>true)&&once l
def mO (ops:List Oper):Tp->Tp
 | []=>[]
 | p::t=>if ops.any (fun o=>o.dst==some p.1)=true then mO ops t else p::mO ops t
theorem pz:∀{es:List En} {j:Nat} {e:En},iC es j=some e->j<es.length
 | [],j,e,h=>by simp[iC]at h
 | x::es,j,e,h=>by
  simp only[iC]at h
  split at h
  ·rename_i hj;subst hj;simp
  ·have:=pz h;simp;omega
theorem zM:∀{es:List En} {j:Nat},j<es.length->∃e,iC es j=some e
 | [],j,h=>by simp at h
 | x::es,j,h=>by
  simp only[iC]
  split
  ·exact⟨x,rfl⟩
  ·exact zM (by simp at h;omega)
theorem qJ (d:Option Tmp) (v:AV) (t:Tp) (x:Nat):dX (qm d v t) x=if d=some x then v else dX t x:=by
 cases d with
 | none=>simp[qm]
 | some d=>simp[qm,dX]
theorem jf (A:Nat->Bool) (t0:Tp) (x:Nat):∀(es:List En),(∃j e,iC es j=some e/\e.dst=some x/\dX (bP A es t0) x=(if A j=true then e.r else .top)) \/
  ((∀j e,iC es j=some e->e.dst≠some x)/\dX (bP A es t0) x=dX t0 x)
 | [] => .inr ⟨fun j e h=>by simp[iC]at h,rfl⟩
 | e::es=>by
  simp only[bP,qJ]
  by_cases he:e.dst=some x
  ·exact .inl ⟨es.length,e,by simp[iC],he,by rw[if_pos he]⟩
  ·rw[if_neg he]
   rcases jf A t0 x es with⟨j,e',h1,h2,h3⟩ | ⟨h1,h2⟩
   ·exact .inl ⟨j,e',by simp only[iC];rw[if_neg (by have:=pz h1;omega)];exact h1,h2,h3⟩
   ·refine .inr ⟨fun j e' hj => ?_,h2⟩
    simp only[iC]at hj
    split at hj
    ·cases hj;exact he
    ·exact h1 j e' hj
theorem lU (ops:List Oper) (x:Nat):∀(t:Tp),dX (mO ops t) x=if ops.any (fun o=>o.dst==some x)=true then .top else dX t x
 | []=>by simp[mO,dX]
 | (i,v)::t=>by
  simp only[mO]
  by_cases hi:i=x
  ·subst hi
   split
   ·rename_i h;rw[lU ops i t,if_pos h]
   ·simp only[dX,if_true]
  ·split
   ·rw[lU ops x t];simp only[dX,hi,if_false]
   ·simp only[dX,hi,if_false];rw[lU ops x t]
theorem jI (m:Nm):∀(d:Dl) (h:Hp),(m∈d.map (·.1)/\∀h',hget (hap d h) m=hget (hap d h') m)\/(m∉d.map (·.1)/\hget (hap d h) m=hget h m):=by
 intro d h
 by_cases hm:m∈d.map (·.1)
 ·refine .inl ⟨hm,?_⟩
  induction d generalizing h with
  | nil=>simp at hm
  | cons p d ih =>
   obtain⟨k,v⟩:=p
   intro h'
   by_cases hd:m∈d.map (·.1)
   ·cases v<;>exact ih _ hd _
   ·have hk:k=m:=by
     simp only[List.map_cons,List.mem_cons]at hm
     rcases hm with h1 | h1
     ·exact h1.symm
     ·exact absurd h1 hd
    subst hk
    cases v with
    | none=>simp only[hap];rw[aO d _ _ hd,aO d _ _ hd,mi,mi];simp
    | some v=>simp only[hap];rw[aO d _ _ hd,aO d _ _ hd,dF,dF];simp
 ·exact .inr ⟨hm,aO d h m hm⟩
theorem nZ {n:Nat}:∀{d:Dl},eF n d=true->∀m∈d.map (·.1),m.1=n
 | [],_,m,h=>by simp at h
 | (k,some v)::d,hf,m,h=>by
  simp only[eF,Bool.and_eq_true,beq_iff_eq]at hf
  simp only[List.map_cons,List.mem_cons]at h
  rcases h with rfl | h
  ·exact hf.1
  ·exact nZ hf.2 m h
 | (k,none)::d,hf,_,_=>by simp[eF]at hf
theorem gY {A B:Nat->Bool} {h0:Hp} {m:Nm}:∀(es:List En),(∀j e,iC es j=some e->m∈e.d.map (·.1)->A j=B j)->hget (aj A es h0) m=hget (aj B es h0) m
 | [],_=>rfl
 | e::es,h=>by
  have ih:=gY (A:=A) (B:=B) (h0:=h0) (m:=m) es fun j e' hj hm=>h j e' (by simp only[iC];rw[if_neg (by have:=pz hj;omega)];exact hj) hm
  simp only[aj]
  by_cases hm:m∈e.d.map (·.1)
  ·have hab:=h es.length e (by simp[iC]) hm
   rw[hab]
   split
   ·rcases jI m e.d (aj A es h0)with⟨_,h1⟩ | ⟨h1,_⟩
    ·exact h1 _
    ·exact absurd hm h1
   ·exact ih
  ·have e1:∀h,hget (hap e.d h) m=hget h m:=fun h=>aO e.d h m hm
   split<;>split<;>simp only[e1,ih]
def wR (P:Program) (ops:List Oper) (n:Nat) (o:Oper) (t:Tp) (h:Hp) (r:AV) (d:Dl):Prop :=
 (o.guard=none/\Yields P n o.op t h r d) \/
  (∃j want b,o.guard=some (j,want)/\yv ops t j = .sc (.bool b)/\b=want/\Yields P n o.op t h r d) \/
  (∃j want,o.guard=some (j,want)/\((∃b,yv ops t j = .sc (.bool b)/\b≠want)\/∃x,yv ops t j = .sc (.tuple x))/\r = .sc undef/\d=[])
def b58 (n:Nat) (d:Dl):Prop:=(∀p∈d,p.2.isSome=true/\p.1.1≠n)\/∃m q cs,d=[(m,none),(q,some cs)]/\m.1≠n/\q.1=n
def Later (P:Program) (ops:List Oper) (nx:Nat) (t0:Tp) (h0:Hp) (es:List En) (e:En):Prop :=
 b58 (nx+es.length) e.d/\∀k ek o,k<es.length->e.ms.testBit k=false->iC es k=some ek->ops[k]? = some o ->
  ek.d=[]/\wR P ops (nx+k) o (bP ((ek.ms ||| e.ms) ||| 2 ^ es.length).testBit (e::es) t0) (aj ((ek.ms ||| e.ms) ||| 2 ^ es.length).testBit (e::es) h0) ek.r []
def Early (P:Program) (ops:List Oper) (nx:Nat) (t0:Tp) (h0:Hp) (es:List En) (e:En) (o:Oper) (j:Nat) (e':En):Prop :=
 e.d=[]/\wR P ops (nx+es.length) o (bP ((e.ms ||| e'.ms) ||| 2 ^ j).testBit es t0) (aj ((e.ms ||| e'.ms) ||| 2 ^ j).testBit es h0) e.r []
structure Shown (P:Program) (ops:List Oper) (nx:Nat) (t0:Tp) (h0:Hp) (es:List En) (e:En) (o:Oper):Prop where
 dst:e.dst=o.dst
 mask:e.ms=zl es o.after.toList
 lt:e.ms<2 ^ es.length
 yields:(o.guard=none/\Yields P (nx+es.length) o.op (bP e.ms.testBit es t0) (aj e.ms.testBit es h0) e.r e.d) \/
  (∃j want b,o.guard=some (j,want)/\yv ops (bP e.ms.testBit es t0) j = .sc (.bool b)/\b=want/\Yields P (nx+es.length) o.op (bP e.ms.testBit es t0) (aj e.ms.testBit es h0) e.r e.d) \/
  (∃j want,o.guard=some (j,want)/\((∃b,yv ops (bP e.ms.testBit es t0) j = .sc (.bool b)/\b≠want)\/∃x,yv ops (bP e.ms.testBit es t0) j = .sc (.tuple x))/\e.r = .sc undef/\e.d=[])
 fresh:eF (nx+es.length) e.d=true\/e.ms+1=2 ^ es.length\/Later P ops nx t0 h0 es e
 waits:∀j e',iC es j=some e'->eF (nx+j) e'.d=false->e.ms.testBit j=true\/Early P ops nx t0 h0 es e o j e'
def Walked (P:Program) (ops:List Oper) (nx:Nat) (t0:Tp) (h0:Hp):List En->Prop
 | []=>True
 | e::es=>Walked P ops nx t0 h0 es/\∃o,ops[es.length]? = some o/\Shown P ops nx t0 h0 es e o
end Go.Proofs.Aw
namespace Go.Proofs.Aw
open Go
theorem Walked.get {P:Program} {ops:List Oper} {nx:Nat} {t0:Tp} {h0:Hp}:∀{es:List En},Walked P ops nx t0 h0 es->∀{j:Nat} {e:En},iC es j=some e ->
  ∃es' o,es'.length=j/\(∀k,k<j->iC es' k=iC es k)/\ops[j]? = some o/\Shown P ops nx t0 h0 es' e o/\(∀(A:Nat->Bool),(∀k,j<=k->A k=false)->aj A es h0=aj A es' h0)/\(∀A:Nat->Bool,A j=true->(∀k,j<k->A k=false)->aj A es h0=hap e.d (aj A es' h0))
 | [],_,j,e,h=>by simp[iC]at h
 | x::es,⟨hw,o,ho,hs⟩,j,e,h=>by
  simp only[iC]at h
  split at h
  ·rename_i hj
   cases h
   subst hj
   refine⟨es,o,rfl,fun k hk=>by simp only[iC];rw[if_neg (by omega)],ho,hs,fun A hA => ?_,fun A hA _ => ?_⟩
   ·simp only[aj];rw[hA _ (Nat.le_refl _)];rfl
   ·simp only[aj];rw[if_pos hA]
  ·have hlt:=pz h
   obtain⟨es',o',h1,h2,h3,h4,h5,h6⟩:=Walked.get hw h
   refine⟨es',o',h1,fun k hk=>by rw[h2 k hk];simp only[iC];rw[if_neg (by omega)],h3,h4,fun A hA => ?_,fun A hA hA' => ?_⟩
   ·simp only[aj];rw[hA es.length (by omega)];exact h5 A hA
   ·simp only[aj];rw[hA' es.length hlt];exact h6 A hA hA'
theorem qR {es:List En} {k:Nat}:∀{l:List Edge},(zl es l).testBit k=true<->∃e∈l,Region.binds .any e=true/\(e.on=k\/(FW es e.on).testBit k=true)
 | []=>by simp[zl]
 | e::l=>by
  simp only[zl]
  split
  ·rename_i hb
   rw[Nat.testBit_or,Nat.testBit_or,Bool.or_eq_true,Bool.or_eq_true,qR (l:=l),Nat.testBit_two_pow,decide_eq_true_eq]
   constructor
   ·rintro((h | h) | ⟨e',h1,h2⟩)
    ·exact⟨e,List.mem_cons_self,hb,.inl h⟩
    ·exact⟨e,List.mem_cons_self,hb,.inr h⟩
    ·exact⟨e',List.mem_cons_of_mem _ h1,h2⟩
   ·rintro⟨e',h1,h2,h3⟩
    rcases List.mem_cons.1 h1 with rfl | h1
    ·exact .inl h3
    ·exact .inr ⟨e',h1,h2,h3⟩
  ·rename_i hb
   rw[qR (l:=l)]
   constructor
   ·rintro⟨e',h1,h2⟩;exact⟨e',List.mem_cons_of_mem _ h1,h2⟩
   ·rintro⟨e',h1,h2,h3⟩
    rcases List.mem_cons.1 h1 with rfl | h1
    ·exact absurd h2 hb
    ·exact⟨e',h1,h2,h3⟩
theorem Ip:∀{ops:List Oper},once ops=true->∀{j k:Nat} {o o':Oper} {x:Nat},ops[j]? = some o->ops[k]? = some o'->o.dst=some x->o'.dst=some x->j=k
 | [],_,j,k,o,o',x,h,_,_,_=>by simp at h
 | p::l,ho,j,k,o,o',x,hj,hk,hx,hx'=>by
  simp only[once,Bool.and_eq_true]at ho
  cases j with
  | zero =>
   cases k with
   | zero=>rfl
   | succ k =>
    simp at hj hk
    subst hj
    have:=ho.1
    rw[hx]at this
    have h1:=List.all_eq_true.1 this o' (List.mem_of_getElem? hk)
    simp[hx']at h1
  | succ j =>
   cases k with
   | zero =>
    simp at hj hk
    subst hk
    have:=ho.1
    rw[hx']at this
    have h1:=List.all_eq_true.1 this o (List.mem_of_getElem? hj)
    simp[hx]at h1
   | succ k=>exact congrArg (· + 1) (Ip ho.2 (by simpa using hj) (by simpa using hk) hx hx')
theorem wG {N:Nat} {ops:List Oper} (h:fits N ops=true) {j:Nat} {o:Oper} (hj:ops[j]? = some o):∀x,o.dst=some x->x<N:=fun x hx=>by
 have:=List.all_eq_true.1 h o (List.mem_of_getElem? hj)
 rw[hx]at this
 simpa [Nat.blt_eq]using this
structure Fixed (P:Program) (E:Env) (ops:List Oper) (nx:Nat) (t0:Tp) (h0:Hp) (es:List En):Prop where
 walked:Walked P ops nx t0 h0 es
 len:es.length=ops.length
 once:once ops=true
 fits:fits E.N ops=true
 top:∀o∈ops,∀x,o.dst=some x->dX t0 x = .top
def Ctx.at_ (C:Ctx) (nx:Nat) (h0:Hp) (es:List En) (A:Nat->Bool):Ctx :=
 { J:=C.J,bs:=C.bs,live:=fun m=>(hget (aj A es h0) m).isSome=true,kn:=fun m=>m.1<nx\/∃j,A j=true/\m.1=nx+j,mt:=C.mt,w:=C.w }
section
variable {P:Program} {E:Env} {ops:List Oper} {nx:Nat} {t0:Tp} {h0:Hp} {es:List En}
theorem Fixed.entry (F:Fixed P E ops nx t0 h0 es) {j:Nat} {o:Oper} (ho:ops[j]? = some o):∃e,iC es j=some e/\e.dst=o.dst:=by
 have hj:=(List.getElem?_eq_some_iff.1 ho).1
 obtain⟨e,he⟩:=zM (es:=es) (j:=j) (by rw[F.len];exact hj)
 obtain⟨es',o',h1,h2,h3,h4,_⟩:=F.walked.get he
 rw[ho]at h3;cases h3
 exact⟨e,he,h4.dst⟩
theorem Fixed.op (F:Fixed P E ops nx t0 h0 es) {j:Nat} {e:En} (he:iC es j=some e):∃o,ops[j]? = some o/\e.dst=o.dst:=by
 obtain⟨es',o',h1,h2,h3,h4,_⟩:=F.walked.get he
 exact⟨o',h3,h4.dst⟩
theorem Fixed.tget_dst (F:Fixed P E ops nx t0 h0 es) (A:Nat->Bool) {i:Nat} {e:En} {x:Nat} (he:iC es i=some e) (hx:e.dst=some x):dX (bP A es t0) x=if A i=true then e.r else .top:=by
 rcases jf A t0 x es with⟨j,e',h1,h2,h3⟩ | ⟨h1,_⟩
 ·obtain⟨o,ho,hd⟩:=F.op he
  obtain⟨o',ho',hd'⟩:=F.op h1
  have hij:=Ip F.once ho ho' (hd▸hx) (hd'▸h2)
  subst hij
  rw[he]at h1;cases h1
  exact h3
 ·exact absurd hx (h1 i e he)
theorem Fixed.tget_congr (F:Fixed P E ops nx t0 h0 es) {A B:Nat->Bool} {x:Nat} (h:∀j e,iC es j=some e->e.dst=some x->A j=B j):dX (bP A es t0) x=dX (bP B es t0) x:=by
 rcases jf A t0 x es with⟨j,e,h1,h2,h3⟩ | ⟨h1,h2⟩
 ·rw[F.tget_dst A h1 h2,F.tget_dst B h1 h2,h j e h1 h2]
 ·rcases jf B t0 x es with⟨j,e,h3,h4,_⟩ | ⟨_,h4⟩
  ·exact absurd h4 (h1 j e h3)
  ·rw[h2,h4]
theorem Fixed.tget_walk (F:Fixed P E ops nx t0 h0 es) {es':List En} {j:Nat} (hl:es'.length=j) (he:∀k,k<j->iC es' k=iC es k) {A:Nat->Bool} (hA:∀k,j<=k->A k=false) (x:Nat):dX (bP A es' t0) x=dX (bP A es t0) x:=by
 rcases jf A t0 x es' with⟨k,e,h1,h2,h3⟩ | ⟨h1,h2⟩
 ·have hk:=pz h1
  rw[hl]at hk
  rw[he k hk]at h1
  rw[h3,F.tget_dst A h1 h2]
 ·rcases jf A t0 x es with⟨k,e,h3,h4,h5⟩ | ⟨_,h4⟩
  ·rcases Nat.lt_or_ge k j with hk | hk
   ·exact absurd h4 (h1 k e (by rw[he k hk];exact h3))
   ·rw[h2,h5,hA k hk]
    obtain⟨o,ho,hd⟩:=F.op h3
    exact F.top o (List.mem_of_getElem? ho) x (hd▸h4)
  ·rw[h2,h4]
theorem ak6 {es:List En} {j:Nat} {e:En} (h:iC es j=some e):FW es j=e.ms:=by simp[FW,h]
theorem Fixed.mask (F:Fixed P E ops nx t0 h0 es) {j:Nat} {e:En} {o:Oper} (he:iC es j=some e) (ho:ops[j]? = some o) :
  (∀k,e.ms.testBit k=true->k<j)/\(∀ed∈o.after,Region.binds .any ed=true->e.ms.testBit ed.on=true) /\
  (∀k,e.ms.testBit k=true->∃ed∈o.after,Region.binds .any ed=true/\(ed.on=k\/∃e',iC es ed.on=some e'/\e'.ms.testBit k=true)) /\
  (∀ed∈o.after,Region.binds .any ed=true->∀e',iC es ed.on=some e'->∀m,e'.ms.testBit m=true->e.ms.testBit m=true):=by
 obtain⟨es',o',h1,h2,h3,h4,_⟩:=F.walked.get he
 rw[ho]at h3;cases h3
 have hlt:∀k,e.ms.testBit k=true->k<j:=fun k hk=>by
  rcases Nat.lt_or_ge k j with h | h
  ·exact h
  ·have:=Nat.testBit_lt_two_pow (x:=e.ms) (i:=k) (Nat.lt_of_lt_of_le (by rw[<-h1];exact h4.lt) (Nat.pow_le_pow_right (by omega) h))
   rw[hk]at this;cases this
 have hin:∀ed∈o.after,Region.binds .any ed=true->e.ms.testBit ed.on=true:=fun ed hed hb=>by
  rw[h4.mask]
  exact qR.2 ⟨ed,by simpa using hed,hb,.inl rfl⟩
 refine⟨hlt,hin,fun k hk => ?_,fun ed hed hb e' he' m hm => ?_⟩
 ·rw[h4.mask]at hk
  obtain⟨ed,hed,hb,hor⟩:=qR.1 hk
  refine⟨ed,by simpa using hed,hb,?_⟩
  rcases hor with h | h
  ·exact .inl h
  ·refine .inr ?_
   unfold FW at h
   cases hx:iC es' ed.on with
   | none=>rw[hx]at h;simp at h
   | some e' =>
    rw[hx]at h
    have hlt':=pz hx
    rw[h1]at hlt'
    rw[h2 _ hlt']at hx
    exact⟨e',hx,h⟩
 ·have hl:=hlt _ (hin ed hed hb)
  have hx:iC es' ed.on=some e':=by rw[h2 _ hl];exact he'
  rw[h4.mask]
  exact qR.2 ⟨ed,by simpa using hed,hb,.inr (by rw[ak6 hx];exact hm)⟩
theorem Fixed.trans (F:Fixed P E ops nx t0 h0 es):∀(j:Nat) {k:Nat} {e e':En},iC es j=some e->e.ms.testBit k=true->iC es k=some e'->∀m,e'.ms.testBit m=true->e.ms.testBit m=true:=by
 intro j
 induction j using Nat.strongRecOn with
 | _ j ih =>
  intro k e e' he hk he' m hm
  obtain⟨o,ho,_⟩:=F.op he
  obtain⟨hlt,hin,hex,hsub⟩:=F.mask he ho
  obtain⟨ed,hed,hb,hor⟩:=hex k hk
  rcases hor with h | ⟨e1,he1,hk1⟩
  ·subst h;exact hsub ed hed hb e' he' m hm
  ·exact hsub ed hed hb e1 he1 m (ih ed.on (hlt _ (hin ed hed hb)) he1 hk1 he' m hm)
theorem kT {A B:Nat->Bool} {h0:Hp}:∀(es:List En),(∀j,j<es.length->A j=B j)->aj A es h0=aj B es h0
 | [],_=>rfl
 | e::es,h=>by
  simp only[aj]
  rw[kT es (fun j hj=>h j (by simp;omega)),h es.length (by simp)]
theorem BI {A B:Nat->Bool} {t0:Tp}:∀(es:List En),(∀j,j<es.length->A j=B j)->bP A es t0=bP B es t0
 | [],_=>rfl
 | e::es,h=>by
  simp only[bP]
  rw[BI es (fun j hj=>h j (by simp;omega)),h es.length (by simp)]
theorem iT {A B:Nat->Bool} {h0:Hp}:∀(es:List En),(∀j e,iC es j=some e->e.d≠[]->A j=B j)->aj A es h0=aj B es h0
 | [],_=>rfl
 | e::es,h=>by
  have ih:=iT (A:=A) (B:=B) (h0:=h0) es (fun j e' hj hn=>h j e' (by simp only[iC];rw[if_neg (by have:=pz hj;omega)];exact hj) hn)
  simp only[aj]
  rw[ih]
  by_cases hd:e.d=[]
  ·rw[hd];simp only[hap,ite_self]
  ·rw[h es.length e (by simp[iC]) hd]
structure Adm (nx:Nat) (es:List En) (L A:Nat->Bool):Prop where
 sub:∀j,A j=true->L j=true
 closed:∀j e,A j=true->iC es j=some e->∀k,e.ms.testBit k=true->A k=true
 bars:∀j e,L j=true->iC es j=some e->eF (nx+j) e.d=false->A j=true
structure InvD (E:Env) (nx:Nat) (t0:Tp) (h0:Hp) (es:List En) (L:Nat->Bool) (C:Ctx) (a:Act):Prop where
 lt:∀j,L j=true->j<es.length
 closed:∀j e,L j=true->iC es j=some e->∀k,e.ms.testBit k=true->L k=true
 names:∀j e,L j=true->iC es j=some e->∀m∈e.d.map (·.1),m.1<nx\/∃k,(k=j\/e.ms.testBit k=true)/\m.1=nx+k
 size:a.tmps.size=E.N
 defers:a.defers=[]
 ok:∀A,Adm nx es L A->HeapOk (C.at_ nx h0 es A) (aj A es h0)/\TOk (C.at_ nx h0 es A) (bP A es t0) a/\FrameOk E (C.at_ nx h0 es A)
def lM (L:Nat->Bool) (i:Nat):Nat->Bool:=fun j=>L j||j==i
theorem aK {L:Nat->Bool} {i j:Nat}:lM L i j=true<->L j=true\/j=i:=by simp[lM]
def Ctx.next (C C':Ctx) (n:Nat):Ctx:={ C' with J:=fun m=>if m.1=n then C'.J m else C.J m,bs:=fun m=>if m.1=n then C'.bs m else C.bs m }
theorem FrameOk.of {E:Env} {C C':Ctx} (h:FrameOk E C) (hw:C'.w=C.w) (hm:C'.mt=C.mt) (hle:E.c0.le C') (hr:∀n,C'.live n->C'.J n<E.w0.heap.size->E.wr (C'.J n)):FrameOk E C' where
 os:=by rw[hw];exact h.os
 tape:=by rw[hw];exact h.tape
 output:=by rw[hw];exact h.output
 size:=by rw[hw];exact h.size
 same b hb hn:=by rw[hw];exact h.same b hb hn
 mt b hb:=by rw[hm];exact h.mt b hb
 wr:=hr
 le:=hle
theorem InvD.step (F : Fixed P E ops nx t0 h0 es) {L : Nat -> Bool} {C : Ctx} {a : Act} (I : InvD E nx t0 h0 es L C a) {i : Nat} {e : En} {o : Oper} (he : iC es i = some e) (ho : ops[i]? = some o) (hiL : L i = false)
    (hin : ∀ k, e.ms.testBit k = true -> L k = true) {es' : List En} (hl' : es'.length = i) (he' : ∀ k, k < i -> iC es' k = iC es k) (hs : Shown P ops nx t0 h0 es' e o)
    (h6 : ∀ A : Nat -> Bool, A i = true -> (∀ k, i < k -> A k = false) -> aj A es h0 = hap e.d (aj A es' h0)) (h5 : aj e.ms.testBit es h0 = aj e.ms.testBit es' h0) {u : Value} {C' : Ctx} (hadm : Adm nx es L e.ms.testBit)
    (hp : Post (C.at_ nx h0 es e.ms.testBit) (nx + i) (aj e.ms.testBit es' h0) e.r e.d u C') (hfull : eF (nx + i) e.d = false -> e.ms + 1 = 2 ^ es'.length) (hlt : eF (nx + i) e.d = false -> ∀ k, L k = true -> k < i \/ ∃ ek, iC es k = some ek /\ ek.d = []) :
    InvD E nx t0 h0 es (lM L i) (C.next C' (nx + i)) (a.put o.dst u) := by
  obtain ⟨mlt, _, _, _⟩ := F.mask he ho
  have hi : i < es.length := pz he
  obtain ⟨hH, hT, hF⟩ := I.ok _ hadm
  have hFr : FrameOk E C' := hF.step hp
  have nameI : ∀ m ∈ e.d.map (·.1), m.1 < nx \/ ∃ k, (k = i \/ e.ms.testBit k = true) /\ m.1 = nx + k := fun m hm => by
    rcases hp.names m hm with h | h
    · rcases hH.kn m h with h | ⟨k, hk, h⟩
      · exact .inl h
      · exact .inr ⟨k, .inr hk, h⟩
    · exact .inr ⟨i, .inl rfl, h⟩
  have notKnown : ∀ m : Nm, m.1 = nx + i -> ¬ (C.at_ nx h0 es e.ms.testBit).kn m := fun m hm h => by
    rcases h with h | ⟨k, hk, h⟩
    · omega
    · have := mlt k hk; omega
  have mlt' : ∀ k, i <= k -> e.ms.testBit k = false := fun k hk => by
    cases h : e.ms.testBit k with
    | false => rfl
    | true => have := mlt k h; omega
  have seeNew : ∀ A' : Nat -> Bool, A' i = true -> (∀ j, A' j = true -> lM L i j = true) -> (∀ k, e.ms.testBit k = true -> A' k = true) -> ∀ m : Nm, m.1 = nx + i -> hget (aj A' es h0) m = hget (hap e.d (aj e.ms.testBit es' h0)) m := by
    intro A' hA' hsub hms m hm
    have e1 : hget (aj A' es h0) m = hget (aj (lM e.ms.testBit i) es h0) m := gY es fun j ej hej hmj => by
      by_cases hji : j = i
      · subst hji; rw [hA', (aK.2 (.inr rfl) : lM e.ms.testBit j j = true)]
      · have hno : L j = false := by
          cases hLj : L j with
          | false => rfl
          | true =>
            rcases I.names j ej hLj hej m hmj with h | ⟨k, hk, h⟩
            · omega
            · have hki : k = i := by omega
              subst hki
              rcases hk with hk | hk
              · exact absurd hk.symm hji
              · rw [I.closed j ej hLj hej _ hk] at hiL; cases hiL
        have h1 : A' j = false := by
          cases h : A' j with
          | false => rfl
          | true => rcases aK.1 (hsub j h) with h | h
                    · rw [hno] at h; cases h
                    · exact absurd h hji
        have h2 : lM e.ms.testBit i j = false := by
          cases h : lM e.ms.testBit i j with
          | false => rfl
          | true => rcases aK.1 h with h | h
                    · rw [hin j h] at hno; cases hno
                    · exact absurd h hji
        rw [h1, h2]
    rw [e1, h6 _ (aK.2 (.inr rfl)) (fun k hk => by
      cases h : lM e.ms.testBit i k with
      | false => rfl
      | true => rcases aK.1 h with h | h
                · rw [mlt' k (by omega)] at h; cases h
                · omega), kT (A := lM e.ms.testBit i) (B := e.ms.testBit) es' (fun k hk => by
      rw [hl'] at hk
      simp [lM, Nat.ne_of_lt hk])]
  have putOther : ∀ x, o.dst ≠ some x -> (a.put o.dst u).tmps.getD x undef = a.tmps.getD x undef := fun x hx => by
    cases hd : o.dst with
    | none => simp [Act.put]
    | some d =>
      have hdx : d ≠ x := fun h => hx (by rw [hd, h])
      simp [Act.put, Array.getD_eq_getD_getElem?, Array.getElem?_setIfInBounds_ne hdx]
  have putSelf : ∀ x, o.dst = some x -> (a.put o.dst u).tmps.getD x undef = u := fun x hx => by
    have hj : x < a.tmps.size := by rw [I.size]; exact wG F.fits ho x hx
    rw [hx]
    simp [Act.put, Array.getD, hj]
  have seeSlot : ∀ A' A : Nat -> Bool, (∀ j, j ≠ i -> A j = A' j) -> ∀ x, o.dst ≠ some x -> dX (bP A' es t0) x = dX (bP A es t0) x := fun A' A hAA x hx => F.tget_congr fun j ej hej hd => by
    refine (hAA j fun hji => hx ?_).symm
    subst hji
    rw [he] at hej; cases hej
    rw [<- hs.dst]; exact hd
  refine ⟨fun j hj => ?_, fun j ej hj hej k hk => ?_, fun j ej hj hej m hm => ?_, by rw [qP]; exact I.size, by rw [put_defers]; exact I.defers, fun A' hA' => ?_⟩
  · rcases aK.1 hj with h | h
    · exact I.lt j h
    · omega
  · rcases aK.1 hj with h | h
    · exact aK.2 (.inl (I.closed j ej h hej k hk))
    · subst h; rw [he] at hej; cases hej; exact aK.2 (.inl (hin k hk))
  · rcases aK.1 hj with h | h
    · exact I.names j ej h hej m hm
    · subst h; rw [he] at hej; cases hej; exact nameI m hm
  · cases hfr : eF (nx + i) e.d with
    | false =>
      have hmk : e.ms = 2 ^ i - 1 := by
        have := hfull hfr
        rw [<- hl']; omega
      have bit : ∀ k, k < i -> e.ms.testBit k = true := fun k hk => by rw [hmk, Nat.testBit_two_pow_sub_one]; simpa using hk
      have hAi : A' i = true := hA'.bars i e (aK.2 (.inr rfl)) he hfr
      have hAlt : ∀ k, k < i -> A' k = true := fun k hk => hA'.closed i e hAi he k (bit k hk)
      have hAgt : ∀ k ek, i < k -> A' k = true -> iC es k = some ek -> ek.d = [] := fun k ek hk h hek => by
        rcases aK.1 (hA'.sub k h) with h | h
        · rcases hlt hfr k h with h | ⟨e2, h2, h3⟩
          · omega
          · rw [hek] at h2; cases h2; exact h3
        · omega
      have hview' : aj A' es h0 = hap e.d (aj e.ms.testBit es' h0) := by
        rw [iT (A := A') (B := fun k => A' k && decide (k <= i)) es (fun k ek hek hne => by
          by_cases hk : k <= i
          · simp [hk]
          · cases h : A' k with
            | false => simp
            | true => exact absurd (hAgt k ek (by omega) h hek) hne)]
        rw [h6 _ (by simp [hAi]) (fun k hk => by simp; omega), kT (A := fun k => A' k && decide (k <= i)) (B := e.ms.testBit) es' (fun k hk => by rw [hl'] at hk; simp [hAlt k hk, bit k hk, show k <= i by omega])]
      have le2 : C'.le ((C.next C' (nx + i)).at_ nx h0 es A') := by
        refine ⟨Nat.le_refl _, fun _ _ _ => rfl, fun _ _ h => h, fun m hm => ?_, fun m hm hl => ?_, fun _ _ _ cs ty h => ⟨cs, ty, h, rfl⟩⟩
        · rcases (hp.kn m).1 hm with (h | ⟨k, hk, h⟩) | h
          · exact .inl h
          · exact .inr ⟨k, hAlt k (mlt k hk), h⟩
          · exact .inr ⟨i, hAi, h⟩
        · have hl' : C'.live m := by
            refine (hp.heap.live m).2 ?_
            have : (hget (aj A' es h0) m).isSome = true := hl
            rwa [hview'] at this
          refine ⟨hl', ?_⟩
          simp only [Ctx.at_, Ctx.next]
          by_cases hne : m.1 = nx + i
          · rw [if_pos hne, if_pos hne]; exact ⟨rfl, rfl⟩
          · rw [if_neg hne, if_neg hne]
            have q := (hp.le.live m (((hp.kn m).1 hm).resolve_right hne) hl').2
            exact ⟨q.1.symm, q.2.symm⟩
      have live' : ∀ m, ((C.next C' (nx + i)).at_ nx h0 es A').live m <-> C'.live m := fun m => by
        rw [hp.heap.live m, <- hview']; exact Iff.rfl
      refine ⟨?_, fun x => ?_, ?_⟩
      · rw [hview']
        exact hp.heap.mono le2 live' (fun _ _ => rfl) (fun _ h _ => h)
      · by_cases hx : o.dst = some x
        · rw [F.tget_dst A' he (by rw [hs.dst]; exact hx), if_pos hAi, putSelf x hx]
          exact hp.val.mono le2
        ·
          let A : Nat -> Bool := fun j => A' j && !(j == i)
          have hAdef : ∀ j, A j = true <-> A' j = true /\ j ≠ i := fun j => by simp [A]
          have hA : Adm nx es L A := by
            refine ⟨fun j hj => ?_, fun j ej hj hej k hk => ?_, fun j ej hj hej hf => (hAdef j).2 ⟨hA'.bars j ej (aK.2 (.inl hj)) hej hf, fun h => ?_⟩⟩
            · obtain ⟨h1, h2⟩ := (hAdef j).1 hj
              exact (aK.1 (hA'.sub j h1)).resolve_right h2
            · obtain ⟨h1, h2⟩ := (hAdef j).1 hj
              refine (hAdef k).2 ⟨hA'.closed j ej h1 hej k hk, fun h => ?_⟩
              subst h
              rw [I.closed j ej ((aK.1 (hA'.sub j h1)).resolve_right h2) hej _ hk] at hiL; cases hiL
            · subst h; rw [hiL] at hj; cases hj
          obtain ⟨_, oT, _⟩ := I.ok A hA
          have sameH : aj A es h0 = aj e.ms.testBit es h0 := iT es fun k ek hek hne => by
            rcases Nat.lt_trichotomy k i with h | h | h
            · rw [bit k h]; exact (hAdef k).2 ⟨hAlt k h, by omega⟩
            · subst h; rw [mlt' k (Nat.le_refl _)]; simp [A]
            · rw [mlt' k (by omega)]
              cases h2 : A' k with
              | false => simp [A, h2]
              | true => exact absurd (hAgt k ek h h2 hek) hne
          have known : ∀ m, (C.at_ nx h0 es A).kn m -> ((C.next C' (nx + i)).at_ nx h0 es A').live m -> (C.at_ nx h0 es e.ms.testBit).kn m := fun m hm hl => by
            have hl' := (live' m).1 hl
            rcases (hp.kn m).1 (hp.heap.kn m hl') with h | h
            · exact h
            · exfalso
              rcases hm with g | ⟨k, hk, g⟩
              · omega
              · have : k = i := by omega
                exact ((hAdef k).1 hk).2 this
          have le : (C.at_ nx h0 es A).le ((C.next C' (nx + i)).at_ nx h0 es A') := by
            refine ⟨hp.le.size, hp.le.same, hp.le.mt, fun m hm => ?_, fun m hm hl => ?_, fun m hm hl cs ty hc => ?_⟩
            · rcases hm with h | ⟨k, hk, h⟩
              · exact .inl h
              · exact .inr ⟨k, ((hAdef k).1 hk).1, h⟩
            · have hk := known m hm hl
              obtain ⟨g1, g2⟩ := hp.le.live m hk ((live' m).1 hl)
              refine ⟨?_, ?_⟩
              · show (hget (aj A es h0) m).isSome = true
                rw [sameH]; exact g1
              · simp only [Ctx.at_, Ctx.next]
                rw [if_neg (fun h => notKnown m h hk), if_neg (fun h => notKnown m h hk)]
                exact ⟨rfl, rfl⟩
            · exact hp.le.own m (known m hm hl) ((live' m).1 hl) cs ty hc
          rw [putOther x hx, seeSlot A' A (fun j hj => by simp [A, hj]) x hx]
          exact (oT x).mono le
      · refine hFr.of rfl rfl (hFr.le.trans le2) fun m hm hb => ?_
        have hlm := (live' m).1 hm
        rw [(le2.live m (hp.heap.kn m hlm) hm).2.1] at hb ⊢
        exact hFr.wr m hlm hb
    | true =>
      have hnm : ∀ m ∈ e.d.map (·.1), m.1 = nx + i := nZ hfr
      have blocks : ∀ b, b < C.w.heap.size -> C'.w.heap[b]? = C.w.heap[b]? := fun b hb => hp.same b hb fun m hm hl => absurd (hH.kn m hl) (notKnown m (hnm m hm))
      have old : ∀ A : Nat -> Bool, Adm nx es L A -> ∀ B : Nat -> Bool, (∀ j, B j = true -> A j = true \/ j = i) -> (∀ j, A j = true -> B j = true) -> (∀ m : Nm, m.1 ≠ nx + i -> hget (aj B es h0) m = hget (aj A es h0) m) -> (C.at_ nx h0 es A).le ((C.next C' (nx + i)).at_ nx h0 es B) := by
        intro A hA B _ hAB hsee
        refine ⟨hp.le.size, hp.le.same, hp.le.mt, fun m hm => ?_, fun m hm hl => ?_, fun m hm _ cs ty hc => ⟨cs, ty, ?_, rfl⟩⟩
        · rcases hm with h | ⟨k, hk, h⟩
          · exact .inl h
          · exact .inr ⟨k, hAB k hk, h⟩
        · have hne : m.1 ≠ nx + i := fun h => by
            rcases hm with g | ⟨k, hk, g⟩
            · omega
            · have : k = i := by omega
              subst this
              rw [hA.sub k hk] at hiL; cases hiL
          refine ⟨?_, ?_⟩
          · have : (hget (aj B es h0) m).isSome = true := hl
            rw [hsee m hne] at this
            exact this
          · simp only [Ctx.at_, Ctx.next]; rw [if_neg hne, if_neg hne]; exact ⟨rfl, rfl⟩
        · have hb : C.J m < C.w.heap.size := by
            rcases Nat.lt_or_ge (C.J m) C.w.heap.size with h2 | h2
            · exact h2
            · have : C.w.heap[C.J m]? = some (.cells cs ty (0, 0)) := hc
              rw [Array.getElem?_eq_none h2] at this; cases this
          exact (blocks _ hb).trans hc
      cases hAi : A' i with
      | false =>
        have hA : Adm nx es L A' := by
          refine ⟨fun j hj => (aK.1 (hA'.sub j hj)).resolve_right fun h => ?_, hA'.closed, fun j ej hj => hA'.bars j ej (aK.2 (.inl hj))⟩
          subst h; rw [hj] at hAi; cases hAi
        obtain ⟨oH, oT, oF⟩ := I.ok A' hA
        have le := old A' hA A' (fun j h => .inl h) (fun _ h => h) (fun _ _ => rfl)
        refine ⟨oH.mono le (fun _ => Iff.rfl) (fun m hm => blocks _ (oH.lt hm)) (fun b hb hlt => (hp.mt b hlt).2 hb), fun x => ?_, ?_⟩
        · by_cases hx : o.dst = some x
          · rw [F.tget_dst A' he (by rw [hs.dst]; exact hx), if_neg (by rw [hAi]; simp)]
            trivial
          · rw [putOther x hx]
            exact (oT x).mono le
        · refine hFr.of rfl rfl (oF.le.trans le) fun m hm hb => ?_
          rw [(le.live m (oH.kn m hm) hm).2.1] at hb ⊢
          exact oF.wr m hm hb
      | true =>
        let A : Nat -> Bool := fun j => A' j && !(j == i)
        have hAdef : ∀ j, A j = true <-> A' j = true /\ j ≠ i := fun j => by simp [A]
        have hA : Adm nx es L A := by
          refine ⟨fun j hj => ?_, fun j ej hj hej k hk => ?_, fun j ej hj hej hf => (hAdef j).2 ⟨hA'.bars j ej (aK.2 (.inl hj)) hej hf, fun h => ?_⟩⟩
          · obtain ⟨h1, h2⟩ := (hAdef j).1 hj
            exact (aK.1 (hA'.sub j h1)).resolve_right h2
          · obtain ⟨h1, h2⟩ := (hAdef j).1 hj
            refine (hAdef k).2 ⟨hA'.closed j ej h1 hej k hk, fun h => ?_⟩
            subst h
            rw [I.closed j ej ((aK.1 (hA'.sub j h1)).resolve_right h2) hej _ hk] at hiL; cases hiL
          · subst h; rw [hiL] at hj; cases hj
        obtain ⟨oH, oT, oF⟩ := I.ok A hA
        have hms : ∀ k, e.ms.testBit k = true -> A k = true := fun k hk => (hAdef k).2 ⟨hA'.closed i e hAi he k hk, fun h => by have := mlt k hk; omega⟩
        have seeOld : ∀ m : Nm, m.1 ≠ nx + i -> hget (aj A' es h0) m = hget (aj A es h0) m := fun m hm => gY es fun j ej hej hmj => by
          by_cases hji : j = i
          · subst hji; rw [he] at hej; cases hej; exact absurd (hnm m hmj) hm
          · simp [A, hji]
        have seeNew' := seeNew A' hAi hA'.sub (fun k hk => ((hAdef k).1 (hms k hk)).1)
        have le1 := old A hA A' (fun j h => by
          by_cases hji : j = i
          · exact .inr hji
          · exact .inl ((hAdef j).2 ⟨h, hji⟩)) (fun j h => ((hAdef j).1 h).1) seeOld
        have le2 : C'.le ((C.next C' (nx + i)).at_ nx h0 es A') := by
          refine ⟨Nat.le_refl _, fun _ _ _ => rfl, fun _ _ h => h, fun m hm => ?_, fun m hm hl => ?_, fun _ _ _ cs ty h => ⟨cs, ty, h, rfl⟩⟩
          · rcases (hp.kn m).1 hm with (h | ⟨k, hk, h⟩) | h
            · exact .inl h
            · exact .inr ⟨k, ((hAdef k).1 (hms k hk)).1, h⟩
            · exact .inr ⟨i, hAi, h⟩
          · have hl0 : (hget (aj A' es h0) m).isSome = true := hl
            by_cases hne : m.1 = nx + i
            · rw [seeNew' m hne] at hl0
              refine ⟨(hp.heap.live m).2 hl0, ?_⟩
              simp only [Ctx.at_, Ctx.next]; rw [if_pos hne, if_pos hne]; exact ⟨rfl, rfl⟩
            · have hk := ((hp.kn m).1 hm).resolve_right hne
              have e1 : hget (aj A es h0) m = hget (aj e.ms.testBit es h0) m := gY es fun j ej hej hmj => by
                cases hLj : L j with
                | false =>
                  have h1 : A j = false := by
                    cases h : A j with
                    | false => rfl
                    | true => rw [hA.sub j h] at hLj; cases hLj
                  have h2 : e.ms.testBit j = false := by
                    cases h : e.ms.testBit j with
                    | false => rfl
                    | true => rw [hin j h] at hLj; cases hLj
                  rw [h1, h2]
                | true =>
                  cases hfj : eF (nx + j) ej.d with
                  | false => rw [hA.bars j ej hLj hej hfj, hadm.bars j ej hLj hej hfj]
                  | true =>
                    have hmj' := nZ hfj m hmj
                    have hbit : e.ms.testBit j = true := by
                      rcases hk with h | ⟨k, hk, h⟩
                      · omega
                      · have : k = j := by omega
                        subst this; exact hk
                    rw [hbit, hms j hbit]
              have hlv : (C.at_ nx h0 es e.ms.testBit).live m := by
                show (hget (aj e.ms.testBit es h0) m).isSome = true
                rw [<- e1, <- seeOld m hne]; exact hl0
              have hlv' : (hget (aj e.ms.testBit es' h0) m).isSome = true := by
                rw [<- h5]; exact hlv
              have hl' : C'.live m := (hp.heap.live m).2 (by rw [aO _ _ _ (fun h => hne (hnm m h))]; exact hlv')
              refine ⟨hl', ?_⟩
              simp only [Ctx.at_, Ctx.next]; rw [if_neg hne, if_neg hne]
              exact ⟨(hp.le.live m hk hl').2.1.symm, (hp.le.live m hk hl').2.2.symm⟩
        have newLive : ∀ m : Nm, m.1 = nx + i -> ((C.next C' (nx + i)).at_ nx h0 es A').live m -> C'.live m /\ ((C.next C' (nx + i)).at_ nx h0 es A').J m = C'.J m /\ ((C.next C' (nx + i)).at_ nx h0 es A').bs m = C'.bs m := fun m hm hl => le2.live m ((hp.kn m).2 (.inr hm)) hl
        have oldLive : ∀ m : Nm, m.1 ≠ nx + i -> ((C.next C' (nx + i)).at_ nx h0 es A').live m -> (C.at_ nx h0 es A).live m /\ ((C.next C' (nx + i)).at_ nx h0 es A').J m = C.J m /\ ((C.next C' (nx + i)).at_ nx h0 es A').bs m = C.bs m := fun m hm hl => by
          have hl0 : (hget (aj A' es h0) m).isSome = true := hl
          rw [seeOld m hm] at hl0
          exact ⟨hl0, by simp only [Ctx.at_, Ctx.next]; rw [if_neg hm], by simp only [Ctx.at_, Ctx.next]; rw [if_neg hm]⟩
        have far : ∀ m : Nm, m.1 = nx + i -> C'.live m -> C.w.heap.size <= C'.J m := fun m hm hl => by
          rcases hp.orig m hl with ⟨h1, _⟩ | h1 | ⟨m0, h0', h1, _⟩
          · exact absurd (hH.kn m h1) (notKnown m hm)
          · exact h1
          · exact absurd (hH.kn m0 h1) (notKnown m0 (hnm m0 h0'))
        refine ⟨⟨fun m => Iff.rfl, fun m cs hg => ?_, fun m m' hm hm' heq => ?_, fun m hm => ?_, fun m hm => ?_⟩, fun x => ?_, ?_⟩
        · have hlv : ((C.next C' (nx + i)).at_ nx h0 es A').live m := by show (hget (aj A' es h0) m).isSome = true; rw [hg]; rfl
          by_cases hne : m.1 = nx + i
          · rw [(newLive m hne hlv).2.1, (newLive m hne hlv).2.2]
            rw [seeNew' m hne] at hg
            obtain ⟨arr, ty, ha, hc⟩ := hp.heap.obj m cs hg
            exact ⟨arr, ty, ha, fun j c hj => by obtain ⟨v, hv, hcv⟩ := hc j c hj; exact ⟨v, hv, hcv.mono le2⟩⟩
          · rw [(oldLive m hne hlv).2.1, (oldLive m hne hlv).2.2]
            rw [seeOld m hne] at hg
            obtain ⟨arr, ty, ha, hc⟩ := oH.obj m cs hg
            exact ⟨arr, ty, (blocks _ (oH.lt (oH.get hg))).trans ha, fun j c hj => by obtain ⟨v, hv, hcv⟩ := hc j c hj; exact ⟨v, hv, hcv.mono le1⟩⟩
        · by_cases hne : m.1 = nx + i <;> by_cases hne' : m'.1 = nx + i
          · obtain ⟨l1, r1, _⟩ := newLive m hne hm
            obtain ⟨l2, r2, _⟩ := newLive m' hne' hm'
            exact hp.heap.inj m m' l1 l2 (by rw [<- r1, <- r2]; exact heq)
          · obtain ⟨l1, r1, _⟩ := newLive m hne hm
            obtain ⟨l2, r2, _⟩ := oldLive m' hne' hm'
            have h1 := far m hne l1
            have h2 : C.J m' < C.w.heap.size := oH.lt l2
            rw [r1, r2] at heq; omega
          · obtain ⟨l1, r1, _⟩ := oldLive m hne hm
            obtain ⟨l2, r2, _⟩ := newLive m' hne' hm'
            have h1 := far m' hne' l2
            have h2 : C.J m < C.w.heap.size := oH.lt l1
            rw [r1, r2] at heq; omega
          · obtain ⟨l1, r1, _⟩ := oldLive m hne hm
            obtain ⟨l2, r2, _⟩ := oldLive m' hne' hm'
            exact oH.inj m m' l1 l2 (by show C.J m = C.J m'; rw [<- r1, <- r2]; exact heq)
        · by_cases hne : m.1 = nx + i
          · obtain ⟨l1, r1, _⟩ := newLive m hne hm
            rw [r1]; exact hp.heap.mt m l1
          · obtain ⟨l1, r1, _⟩ := oldLive m hne hm
            rw [r1]; exact (hp.mt _ (oH.lt l1)).2 (oH.mt m l1)
        · by_cases hne : m.1 = nx + i
          · exact .inr ⟨i, hAi, hne⟩
          · obtain ⟨l1, r1, _⟩ := oldLive m hne hm
            exact le1.kn m (oH.kn m l1)
        · by_cases hx : o.dst = some x
          · rw [F.tget_dst A' he (by rw [hs.dst]; exact hx), if_pos hAi, putSelf x hx]
            exact hp.val.mono le2
          · rw [putOther x hx, seeSlot A' A (fun j hji => by simp [A, hji]) x hx]
            exact (oT x).mono le1
        · refine hFr.of rfl rfl (hFr.le.trans le2) fun m hm hb => ?_
          by_cases hne : m.1 = nx + i
          · obtain ⟨l1, r1, _⟩ := newLive m hne hm
            rw [r1] at hb ⊢; exact hFr.wr m l1 hb
          · obtain ⟨l1, r1, _⟩ := oldLive m hne hm
            rw [r1] at hb ⊢; exact oF.wr m l1 hb
end
end Go.Proofs.Aw
namespace Go.Proofs.Aw
open Go
section
variable {P:Program} {E:Env} {ops:List Oper} {nx:Nat} {t0:Tp} {h0:Hp} {es:List En}
theorem vU {a:Act} {d:Option Tmp} {u:Value} {x:Nat} (hx:d≠some x):(a.put d u).tmps.getD x undef=a.tmps.getD x undef:=by
 cases hd:d with
 | none=>simp[Act.put]
 | some d' =>
  have hdx:d'≠x:=fun h=>hx (by rw[hd,h])
  simp[Act.put,Array.getD_eq_getD_getElem?,Array.getElem?_setIfInBounds_ne hdx]
theorem EF {a:Act} {d:Option Tmp} {u:Value} {x:Nat} (hx:d=some x) (hj:x<a.tmps.size):(a.put d u).tmps.getD x undef=u:=by
 rw[hx]
 simp[Act.put,Array.getD,hj]
theorem InvD.seeAlike {L:Nat->Bool} {C:Ctx} {a:Act} (_I:InvD E nx t0 h0 es L C a) {A B:Nat->Bool} (hA:Adm nx es L A) (hB:Adm nx es L B) {m:Nm} (hk:m.1<nx\/∃k,(A k=true/\B k=true)/\m.1=nx+k):hget (aj A es h0) m=hget (aj B es h0) m :=
 gY es fun j ej hej hmj=>by
  cases hLj:L j with
  | false =>
   have h1:A j=false:=by
    cases h:A j with
    | false=>rfl
    | true=>rw[hA.sub j h]at hLj;cases hLj
   have h2:B j=false:=by
    cases h:B j with
    | false=>rfl
    | true=>rw[hB.sub j h]at hLj;cases hLj
   rw[h1,h2]
  | true =>
   cases hfj:eF (nx+j) ej.d with
   | false=>rw[hA.bars j ej hLj hej hfj,hB.bars j ej hLj hej hfj]
   | true =>
    have hmj':=nZ hfj m hmj
    rcases hk with h | ⟨k,⟨hk1,hk2⟩,h⟩
    ·omega
    ·have:k=j:=by omega
     subst this;rw[hk1,hk2]
theorem Adm.without {L:Nat->Bool} {C:Ctx} {a:Act} (I:InvD E nx t0 h0 es L C a) {i:Nat} (hiL:L i=false) {A':Nat->Bool} (hA':Adm nx es (lM L i) A'):Adm nx es L (fun j=>A' j && !(j==i)):=by
 have hdef:∀j,(fun j=>A' j && !(j==i)) j=true<->A' j=true/\j≠i:=fun j=>by simp
 refine⟨fun j hj => ?_,fun j ej hj hej k hk => ?_,fun j ej hj hej hf=>(hdef j).2 ⟨hA'.bars j ej (aK.2 (.inl hj)) hej hf,fun h => ?_⟩⟩
 ·obtain⟨h1,h2⟩:=(hdef j).1 hj
  exact(aK.1 (hA'.sub j h1)).resolve_right h2
 ·obtain⟨h1,h2⟩:=(hdef j).1 hj
  refine(hdef k).2 ⟨hA'.closed j ej h1 hej k hk,fun h => ?_⟩
  subst h
  rw[I.closed j ej ((aK.1 (hA'.sub j h1)).resolve_right h2) hej _ hk]at hiL;cases hiL
 ·subst h;rw[hiL]at hj;cases hj
theorem InvD.stepPure (F:Fixed P E ops nx t0 h0 es) {L:Nat->Bool} {C:Ctx} {a:Act} (I:InvD E nx t0 h0 es L C a) {i:Nat} {e:En} {o:Oper} (he:iC es i=some e) (ho:ops[i]? = some o) (hdst:e.dst=o.dst) (hiL:L i=false)
  (hin:∀k,e.ms.testBit k=true->L k=true) (hd:e.d=[]) {B:Nat->Bool} (hB:Adm nx es L B) (hup:∀A',Adm nx es (lM L i) A'->A' i=true->∀k,B k=true->A' k=true) {u:Value} {C':Ctx}
  (hp:Post (C.at_ nx h0 es B) (nx+i) (aj B es h0) e.r [] u C'):InvD E nx t0 h0 es (lM L i) (C.next C' (nx+i)) (a.put o.dst u):=by
 have hi:i<es.length:=pz he
 obtain⟨hH,hT,hF⟩:=I.ok _ hB
 have hFr:FrameOk E C':=hF.step hp
 have hBi:B i=false:=by
  cases h:B i with
  | false=>rfl
  | true=>rw[hB.sub i h]at hiL;cases hiL
 have blocks:∀b,b<C.w.heap.size->C'.w.heap[b]? = C.w.heap[b]? := fun b hb=>hp.same b hb fun m hm=>by simp at hm
 have knB:∀m:Nm,m.1=nx+i->¬(C.at_ nx h0 es B).kn m:=fun m hm h=>by
  rcases h with h | ⟨k,hk,h⟩
  ·omega
  ·have:k=i:=by omega
   subst this;rw[hBi]at hk;cases hk
 refine⟨fun j hj => ?_,fun j ej hj hej k hk => ?_,fun j ej hj hej m hm => ?_,by rw[qP];exact I.size,by rw[put_defers];exact I.defers,fun A' hA' => ?_⟩
 ·rcases aK.1 hj with h | h
  ·exact I.lt j h
  ·omega
 ·rcases aK.1 hj with h | h
  ·exact aK.2 (.inl (I.closed j ej h hej k hk))
  ·subst h;rw[he]at hej;cases hej;exact aK.2 (.inl (hin k hk))
 ·rcases aK.1 hj with h | h
  ·exact I.names j ej h hej m hm
  ·subst h;rw[he]at hej;cases hej;rw[hd]at hm;simp at hm
 ·
  let A:Nat->Bool:=fun j=>A' j && !(j==i)
  have hA:Adm nx es L A:=Adm.without I hiL hA'
  obtain⟨oH,oT,oF⟩:=I.ok A hA
  have see:∀m:Nm,hget (aj A' es h0) m=hget (aj A es h0) m:=fun m=>gY es fun j ej hej hmj=>by
   by_cases hji:j=i
   ·subst hji;rw[he]at hej;cases hej;rw[hd]at hmj;simp at hmj
   ·simp[A,hji]
  have notI:∀m:Nm,(C.at_ nx h0 es A).live m->m.1≠nx+i:=fun m hm h=>by
   rcases oH.kn m hm with g | ⟨k,hk,g⟩
   ·omega
   ·have:k=i:=by omega
    subst this
    simp[A]at hk
  have live':∀m,((C.next C' (nx+i)).at_ nx h0 es A').live m<->(C.at_ nx h0 es A).live m:=fun m=>by
   show(hget (aj A' es h0) m).isSome=true<->(hget (aj A es h0) m).isSome=true
   rw[see m]
  have J':∀m,(C.at_ nx h0 es A).live m->((C.next C' (nx+i)).at_ nx h0 es A').J m=C.J m:=fun m hm=>by
   simp only[Ctx.at_,Ctx.next];rw[if_neg (notI m hm)]
  have bs':∀m,(C.at_ nx h0 es A).live m->((C.next C' (nx+i)).at_ nx h0 es A').bs m=C.bs m:=fun m hm=>by
   simp only[Ctx.at_,Ctx.next];rw[if_neg (notI m hm)]
  have le1:(C.at_ nx h0 es A).le ((C.next C' (nx+i)).at_ nx h0 es A'):=by
   refine⟨hp.le.size,hp.le.same,hp.le.mt,fun m hm => ?_,fun m hm hl=>⟨(live' m).1 hl,J' m ((live' m).1 hl),bs' m ((live' m).1 hl)⟩,fun m hm _ cs ty hc=>⟨cs,ty,?_,rfl⟩⟩
   ·rcases hm with h | ⟨k,hk,h⟩
    ·exact .inl h
    ·exact .inr ⟨k,by simp[A]at hk;exact hk.1,h⟩
   ·have hb:C.J m<C.w.heap.size:=by
     rcases Nat.lt_or_ge (C.J m) C.w.heap.size with h2 | h2
     ·exact h2
     ·have:C.w.heap[C.J m]? = some (.cells cs ty (0,0)):=hc
      rw[Array.getElem?_eq_none h2]at this;cases this
    exact(blocks _ hb).trans hc
  by_cases hAi:A' i=true
  ·have hBA:=hup A' hA' hAi
   have hBA2:∀k,B k=true->A k=true:=fun k hk=>by
    have hki:k≠i:=fun h=>by subst h;rw[hBi]at hk;cases hk
    simp[A,hBA k hk,hki]
   have le2:C'.le ((C.next C' (nx+i)).at_ nx h0 es A'):=by
    refine⟨Nat.le_refl _,fun _ _ _=>rfl,fun _ _ h=>h,fun m hm => ?_,fun m hm hl => ?_,fun _ _ _ cs ty h=>⟨cs,ty,h,rfl⟩⟩
    ·rcases(hp.kn m).1 hm with(h | ⟨k,hk,h⟩) | h
     ·exact .inl h
     ·exact .inr ⟨k,hBA k hk,h⟩
     ·exact .inr ⟨i,hAi,h⟩
    ·have hl0:=(live' m).1 hl
     have hne:=notI m hl0
     have hk:=((hp.kn m).1 hm).resolve_right hne
     have e1:hget (aj A es h0) m=hget (aj B es h0) m:=I.seeAlike hA hB (by
      rcases hk with h | ⟨k,hk,h⟩
      ·exact .inl h
      ·exact .inr ⟨k,⟨hBA2 k hk,hk⟩,h⟩)
     have hlv:C'.live m:=(hp.heap.live m).2 (by
      have:(hget (aj A es h0) m).isSome=true:=hl0
      rw[e1]at this;exact this)
     exact⟨hlv,by rw[J' m hl0];exact((hp.le.live m hk hlv).2.1).symm,by rw[bs' m hl0];exact((hp.le.live m hk hlv).2.2).symm⟩
   refine⟨⟨fun m=>Iff.rfl,fun m cs hg => ?_,fun m m' hm hm' heq => ?_,fun m hm => ?_,fun m hm => ?_⟩,fun x => ?_,?_⟩
   ·rw[see m]at hg
    rw[J' m (oH.get hg),bs' m (oH.get hg)]
    obtain⟨arr,ty,ha,hc⟩:=oH.obj m cs hg
    exact⟨arr,ty,(blocks _ (oH.lt (oH.get hg))).trans ha,fun j c hj=>by obtain⟨v,hv,hcv⟩:=hc j c hj;exact⟨v,hv,hcv.mono le1⟩⟩
   ·have l1:=(live' m).1 hm
    have l2:=(live' m').1 hm'
    rw[J' m l1,J' m' l2]at heq
    exact oH.inj m m' l1 l2 heq
   ·have l1:=(live' m).1 hm
    rw[J' m l1]
    exact(hp.mt _ (oH.lt l1)).2 (oH.mt m l1)
   ·exact le1.kn m (oH.kn m ((live' m).1 hm))
   ·by_cases hx:o.dst=some x
    ·rw[F.tget_dst A' he (by rw[hdst];exact hx),if_pos hAi,EF hx (by rw[I.size];exact wG F.fits ho x hx)]
     exact hp.val.mono le2
    ·rw[vU hx,F.tget_congr (A:=A') (B:=A) (fun j ej hej hdj=>by
      by_cases hji:j=i
      ·subst hji;rw[he]at hej;cases hej;exact absurd (by rw[<-hdst];exact hdj) hx
      ·simp[A,hji])]
     exact(oT x).mono le1
   ·refine hFr.of rfl rfl (oF.le.trans le1) fun m hm hb => ?_
    have l1:=(live' m).1 hm
    rw[J' m l1]at hb ⊢
    exact oF.wr m l1 hb
  ·have hAi':A' i=false:=by simpa using hAi
   refine⟨⟨fun m=>Iff.rfl,fun m cs hg => ?_,fun m m' hm hm' heq => ?_,fun m hm => ?_,fun m hm => ?_⟩,fun x => ?_,?_⟩
   ·rw[see m]at hg
    rw[J' m (oH.get hg),bs' m (oH.get hg)]
    obtain⟨arr,ty,ha,hc⟩:=oH.obj m cs hg
    exact⟨arr,ty,(blocks _ (oH.lt (oH.get hg))).trans ha,fun j c hj=>by obtain⟨v,hv,hcv⟩:=hc j c hj;exact⟨v,hv,hcv.mono le1⟩⟩
   ·have l1:=(live' m).1 hm
    have l2:=(live' m').1 hm'
    rw[J' m l1,J' m' l2]at heq
    exact oH.inj m m' l1 l2 heq
   ·have l1:=(live' m).1 hm
    rw[J' m l1]
    exact(hp.mt _ (oH.lt l1)).2 (oH.mt m l1)
   ·exact le1.kn m (oH.kn m ((live' m).1 hm))
   ·by_cases hx:o.dst=some x
    ·rw[F.tget_dst A' he (by rw[hdst];exact hx),if_neg hAi]
     simp only[Conc]
    ·rw[vU hx,F.tget_congr (A:=A') (B:=A) (fun j ej hej hdj=>by
      by_cases hji:j=i
      ·subst hji;rw[he]at hej;cases hej;exact absurd (by rw[<-hdst];exact hdj) hx
      ·simp[A,hji])]
     exact(oT x).mono le1
   ·refine hFr.of rfl rfl (oF.le.trans le1) fun m hm hb => ?_
    have l1:=(live' m).1 hm
    rw[J' m l1]at hb ⊢
    exact oF.wr m l1 hb
theorem OG:∀(d:Dl),(∀p∈d,p.2.isSome=true)->∀(h:Hp) (m:Nm),m∈d.map (·.1)->(hget (hap d h) m).isSome=true
 | [],_,_,m,hm=>by simp at hm
 | (k,none)::d,hd,_,_,_=>by have:=hd (k,none) List.mem_cons_self;cases this
 | (k,some v)::d,hd,h,m,hm=>by
  simp only[hap]
  by_cases c:m∈d.map (·.1)
  ·exact OG d (fun p hp=>hd p (List.mem_cons_of_mem _ hp)) _ m c
  ·have hk:k=m:=by
    simp only[List.map_cons,List.mem_cons]at hm
    rcases hm with h1 | h1
    ·exact h1.symm
    ·exact absurd h1 c
   rw[aO d _ _ c,dF,if_pos hk];rfl
theorem InvD.stepSets (F:Fixed P E ops nx t0 h0 es) {L:Nat->Bool} {C:Ctx} {a:Act} (I:InvD E nx t0 h0 es L C a) {i:Nat} {e:En} {o:Oper} (he:iC es i=some e) (ho:ops[i]? = some o) (hdst:e.dst=o.dst) (hiL:L i=false)
  (hin:∀k,e.ms.testBit k=true->L k=true) (hd:∀p∈e.d,p.2.isSome=true/\p.1.1≠nx+i) (hfr:eF (nx+i) e.d=false) (hlt:∀k,L k=true->k<i\/∃ek,iC es k=some ek/\ek.d=[]) {es':List En}
  (h6:∀A:Nat->Bool,A i=true->(∀k,i<k->A k=false)->aj A es h0=hap e.d (aj A es' h0)) (h5:∀A:Nat->Bool,(∀k,i<=k->A k=false)->aj A es h0=aj A es' h0) (hl':es'.length=i)
  (hadm:Adm nx es L e.ms.testBit) {u:Value} {C':Ctx} (hp:Post (C.at_ nx h0 es e.ms.testBit) (nx+i) (aj e.ms.testBit es h0) e.r e.d u C'):InvD E nx t0 h0 es (lM L i) (C.next C' (nx+i)) (a.put o.dst u):=by
 have hi:i<es.length:=pz he
 obtain⟨hH,hT,hF⟩:=I.ok _ hadm
 have hFr:FrameOk E C':=hF.step hp
 have hm0i:∀m,m∈e.d.map (·.1)->m.1≠nx+i:=fun m hm=>by
  obtain⟨p,hp,rfl⟩:=List.mem_map.1 hm
  exact(hd p hp).2
 have hm0l:∀m,m∈e.d.map (·.1)->(C.at_ nx h0 es e.ms.testBit).live m:=fun m hm=>by
  rcases hp.names m hm with h | h
  ·exact h
  ·exact absurd h (hm0i m hm)
 have hm0k:=fun m hm=>hH.kn m (hm0l m hm)
 have hsome:∀(h:Hp) m,m∈e.d.map (·.1)->(hget (hap e.d h) m).isSome=true:=fun h m hm=>OG _ (fun p hp=>(hd p hp).1) h m hm
 have hm0l':∀m,m∈e.d.map (·.1)->C'.live m:=fun m hm=>(hp.heap.live m).2 (hsome _ m hm)
 have hJ0:∀m,m∈e.d.map (·.1)->C'.J m=C.J m:=fun m hm=>(hp.le.live m (hm0k m hm) (hm0l' m hm)).2.1
 have hbs0:∀m,m∈e.d.map (·.1)->C'.bs m=C.bs m:=fun m hm=>(hp.le.live m (hm0k m hm) (hm0l' m hm)).2.2
 have blocks:∀b,b<C.w.heap.size->(∀m,m∈e.d.map (·.1)->b≠C.J m)->C'.w.heap[b]? = C.w.heap[b]? := fun b hb hne=>hp.same b hb fun m hm _=>hne m hm
 refine⟨fun j hj => ?_,fun j ej hj hej k hk => ?_,fun j ej hj hej m hm => ?_,by rw[qP];exact I.size,by rw[put_defers];exact I.defers,fun A' hA' => ?_⟩
 ·rcases aK.1 hj with h | h
  ·exact I.lt j h
  ·omega
 ·rcases aK.1 hj with h | h
  ·exact aK.2 (.inl (I.closed j ej h hej k hk))
  ·subst h;rw[he]at hej;cases hej;exact aK.2 (.inl (hin k hk))
 ·rcases aK.1 hj with h | h
  ·exact I.names j ej h hej m hm
  ·subst h;rw[he]at hej;cases hej
   rcases hm0k m hm with h | ⟨k,hk,h⟩
   ·exact .inl h
   ·exact .inr ⟨k,.inr hk,h⟩
 ·have hAi:A' i=true:=hA'.bars i e (aK.2 (.inr rfl)) he hfr
  let A:Nat->Bool:=fun j=>A' j && !(j==i)
  have hA:Adm nx es L A:=Adm.without I hiL hA'
  obtain⟨oH,oT,oF⟩:=I.ok A hA
  have hAgt:∀k ek,i<k->A' k=true->iC es k=some ek->ek.d=[]:=fun k ek hk h hek=>by
   rcases aK.1 (hA'.sub k h)with h | h
   ·rcases hlt k h with h | ⟨e2,h2,h3⟩
    ·omega
    ·rw[hek]at h2;cases h2;exact h3
   ·omega
  have hview':aj A' es h0=hap e.d (aj A es h0):=by
   have e1:aj A' es h0=aj (fun k=>A' k&&decide (k<=i)) es h0:=iT es fun k ek hek hne=>by
    by_cases hk:k<=i
    ·simp[hk]
    ·cases h:A' k with
     | false=>simp
     | true=>exact absurd (hAgt k ek (by omega) h hek) hne
   have e2:aj A es h0=aj (fun k=>A k&&decide (k<=i)) es h0:=iT es fun k ek hek hne=>by
    by_cases hk:k<=i
    ·simp[hk]
    ·cases h:A' k with
     | false=>simp[A,h]
     | true=>exact absurd (hAgt k ek (by omega) h hek) hne
   rw[e1,e2,h6 _ (by simp[hAi]) (fun k hk=>by simp;omega),h5 (fun k=>A k&&decide (k<=i)) (fun k hk=>by
    rcases Nat.lt_or_eq_of_le hk with h | h
    ·simp;omega
    ·subst h;simp[A])]
   congr 1
   exact kT es' fun j hj=>by
    rw[hl']at hj
    simp[A,Nat.ne_of_lt hj,Nat.le_of_lt hj]
  have see:∀m:Nm,hget (aj A' es h0) m=hget (hap e.d (aj A es h0)) m:=fun m=>by rw[hview']
  have msA:∀k,e.ms.testBit k=true->A k=true:=fun k hk=>by
   have h1:=hA'.closed i e hAi he k hk
   have hki:k≠i:=fun h=>by subst h;rw[hin _ hk]at hiL;cases hiL
   simp[A,h1,hki]
  have alike:∀m:Nm,(C.at_ nx h0 es e.ms.testBit).kn m->hget (aj A es h0) m=hget (aj e.ms.testBit es h0) m:=fun m hk=>I.seeAlike hA hadm (by
   rcases hk with h | ⟨k,hk,h⟩
   ·exact .inl h
   ·exact .inr ⟨k,⟨msA k hk,hk⟩,h⟩)
  have hm0A:∀m,m∈e.d.map (·.1)->(C.at_ nx h0 es A).live m:=fun m hm=>by
   show(hget (aj A es h0) m).isSome=true
   rw[alike m (hm0k m hm)];exact hm0l m hm
  have notI:∀m:Nm,(C.at_ nx h0 es A).live m->m.1≠nx+i:=fun m hm h=>by
   rcases oH.kn m hm with g | ⟨k,hk,g⟩
   ·omega
   ·have:k=i:=by omega
    subst this
    simp[A]at hk
  have live':∀m,((C.next C' (nx+i)).at_ nx h0 es A').live m<->(C.at_ nx h0 es A).live m:=fun m=>by
   show(hget (aj A' es h0) m).isSome=true<->(hget (aj A es h0) m).isSome=true
   rw[see m]
   rcases jI m e.d (aj A es h0)with⟨hm,_⟩ | ⟨_,h⟩
   ·exact⟨fun _=>hm0A m hm,fun _=>hsome _ m hm⟩
   ·rw[h]
  have J':∀m,(C.at_ nx h0 es A).live m->((C.next C' (nx+i)).at_ nx h0 es A').J m=C.J m:=fun m hm=>by
   simp only[Ctx.at_,Ctx.next];rw[if_neg (notI m hm)]
  have bs':∀m,(C.at_ nx h0 es A).live m->((C.next C' (nx+i)).at_ nx h0 es A').bs m=C.bs m:=fun m hm=>by
   simp only[Ctx.at_,Ctx.next];rw[if_neg (notI m hm)]
  have inB:∀{b:Nat} {cs:Array Value} {ty:TypeId},C.w.heap[b]? = some (.cells cs ty (0,0))->b<C.w.heap.size:=fun {b cs ty} hc=>by
   rcases Nat.lt_or_ge b C.w.heap.size with h2 | h2
   ·exact h2
   ·rw[Array.getElem?_eq_none h2]at hc;cases hc
  have le1:(C.at_ nx h0 es A).le ((C.next C' (nx+i)).at_ nx h0 es A'):=by
   refine⟨hp.le.size,hp.le.same,hp.le.mt,fun m hm => ?_,fun m hm hl=>⟨(live' m).1 hl,J' m ((live' m).1 hl),bs' m ((live' m).1 hl)⟩,fun m hm _ cs ty hc => ?_⟩
   ·rcases hm with h | ⟨k,hk,h⟩
    ·exact .inl h
    ·exact .inr ⟨k,by simp[A]at hk;exact hk.1,h⟩
   ·have hc':C.w.heap[C.J m]? = some (.cells cs ty (0,0)):=hc
    by_cases hb0:∃m0,m0∈e.d.map (·.1)/\C.J m=C.J m0
    ·obtain⟨m0,hm0,hb0⟩:=hb0
     have:=hp.le.own m0 (hm0k m0 hm0) (hm0l' m0 hm0) cs ty (show C.w.heap[C.J m0]? = some (.cells cs ty (0,0))from by rw[<-hb0];exact hc')
     obtain⟨cs',ty',h1,h2⟩:=this
     exact⟨cs',ty',by show C'.w.heap[C.J m]? = _;rw[hb0];exact h1,h2⟩
    ·exact⟨cs,ty,(blocks _ (inB hc') fun m0 hm0 h=>hb0 ⟨m0,hm0,h⟩).trans hc',rfl⟩
  have le2:C'.le ((C.next C' (nx+i)).at_ nx h0 es A'):=by
   refine⟨Nat.le_refl _,fun _ _ _=>rfl,fun _ _ h=>h,fun m hm => ?_,fun m hm hl => ?_,fun _ _ _ cs ty h=>⟨cs,ty,h,rfl⟩⟩
   ·rcases(hp.kn m).1 hm with(h | ⟨k,hk,h⟩) | h
    ·exact .inl h
    ·exact .inr ⟨k,hA'.closed i e hAi he k hk,h⟩
    ·exact .inr ⟨i,hAi,h⟩
   ·have hl0:=(live' m).1 hl
    have hne:=notI m hl0
    have hk:=((hp.kn m).1 hm).resolve_right hne
    have hlv:C'.live m:=(hp.heap.live m).2 (by
     have h1:(hget (aj A es h0) m).isSome=true:=hl0
     rw[alike m hk]at h1
     rcases jI m e.d (aj e.ms.testBit es h0)with⟨hm,_⟩ | ⟨_,h⟩
     ·exact hsome _ m hm
     ·rw[h];exact h1)
    exact⟨hlv,by rw[J' m hl0];exact((hp.le.live m hk hlv).2.1).symm,by rw[bs' m hl0];exact((hp.le.live m hk hlv).2.2).symm⟩
  refine⟨⟨fun m=>Iff.rfl,fun m cs hg => ?_,fun m m' hm hm' heq => ?_,fun m hm => ?_,fun m hm => ?_⟩,fun x => ?_,?_⟩
  ·rw[see m]at hg
   rcases jI m e.d (aj A es h0)with⟨hm,hind⟩ | ⟨h,hsm⟩
   ·rw[J' m (hm0A m hm),<-hJ0 m hm,bs' m (hm0A m hm),<-hbs0 m hm]
    obtain⟨arr,ty,ha,hc⟩:=hp.heap.obj m cs (by rw[<-hg];exact(hind _).symm)
    exact⟨arr,ty,ha,fun j c hj=>by obtain⟨v,hv,hcv⟩:=hc j c hj;exact⟨v,hv,hcv.mono le2⟩⟩
   ·rw[hsm]at hg
    have hlm:=oH.get hg
    rw[J' m hlm,bs' m hlm]
    obtain⟨arr,ty,ha,hc⟩:=oH.obj m cs hg
    have hbne:∀m0,m0∈e.d.map (·.1)->C.J m≠C.J m0:=fun m0 hm0 hh=>h (by rw[oH.inj m m0 hlm (hm0A m0 hm0) hh];exact hm0)
    exact⟨arr,ty,(blocks _ (oH.lt hlm) hbne).trans ha,fun j c hj=>by obtain⟨v,hv,hcv⟩:=hc j c hj;exact⟨v,hv,hcv.mono le1⟩⟩
  ·have l1:=(live' m).1 hm
   have l2:=(live' m').1 hm'
   rw[J' m l1,J' m' l2]at heq
   exact oH.inj m m' l1 l2 heq
  ·have l1:=(live' m).1 hm
   rw[J' m l1]
   exact(hp.mt _ (oH.lt l1)).2 (oH.mt m l1)
  ·exact le1.kn m (oH.kn m ((live' m).1 hm))
  ·by_cases hx:o.dst=some x
   ·rw[F.tget_dst A' he (by rw[hdst];exact hx),if_pos hAi,EF hx (by rw[I.size];exact wG F.fits ho x hx)]
    exact hp.val.mono le2
   ·rw[vU hx,F.tget_congr (A:=A') (B:=A) (fun j ej hej hdj=>by
     by_cases hji:j=i
     ·subst hji;rw[he]at hej;cases hej;exact absurd (by rw[<-hdst];exact hdj) hx
     ·simp[A,hji])]
    exact(oT x).mono le1
  ·refine hFr.of rfl rfl (oF.le.trans le1) fun m hm hb => ?_
   have l1:=(live' m).1 hm
   rw[J' m l1]at hb ⊢
   exact oF.wr m l1 hb
end
end Go.Proofs.Aw
namespace Go.Proofs.Aw
open Go
section
variable {P:Program} {E:Env} {ops:List Oper} {nx:Nat} {t0:Tp} {h0:Hp} {es:List En}
theorem InvD.stepMove (F:Fixed P E ops nx t0 h0 es) {L:Nat->Bool} {C:Ctx} {a:Act} (I:InvD E nx t0 h0 es L C a) {i:Nat} {e:En} {o:Oper} (he:iC es i=some e) (ho:ops[i]? = some o) (hdst:e.dst=o.dst) (hiL:L i=false)
  (hin:∀k,e.ms.testBit k=true->L k=true) {m0 q:Nm} {cs0:List AV} (hd:e.d=[(m0,none),(q,some cs0)]) (hm0i:m0.1≠nx+i) (hqi:q.1=nx+i) (hfr:eF (nx+i) e.d=false) (hlt:∀k,L k=true->k<i\/∃ek,iC es k=some ek/\ek.d=[]) {es':List En}
  (h6:∀A:Nat->Bool,A i=true->(∀k,i<k->A k=false)->aj A es h0=hap e.d (aj A es' h0)) (h5:∀A:Nat->Bool,(∀k,i<=k->A k=false)->aj A es h0=aj A es' h0) (hl':es'.length=i)
  (hadm:Adm nx es L e.ms.testBit) {u:Value} {C':Ctx} (hp:Post (C.at_ nx h0 es e.ms.testBit) (nx+i) (aj e.ms.testBit es h0) e.r e.d u C'):InvD E nx t0 h0 es (lM L i) (C.next C' (nx+i)) (a.put o.dst u):=by
 have hi:i<es.length:=pz he
 obtain⟨hH,hT,hF⟩:=I.ok _ hadm
 have hFr:FrameOk E C':=hF.step hp
 have hqm:q≠m0:=fun h=>hm0i (by rw[<-h];exact hqi)
 have hm0l:(C.at_ nx h0 es e.ms.testBit).live m0:=by
  rcases hp.names m0 (by rw[hd];simp)with h | h
  ·exact h
  ·exact absurd h hm0i
 have hm0k:=hH.kn m0 hm0l
 have hq':C'.live q:=(hp.heap.live q).2 (by rw[hd];simp[hap,dF])
 have hqno:¬(C.at_ nx h0 es e.ms.testBit).live q:=fun h=>by
  rcases hH.kn q h with g | ⟨k,hk,g⟩
  ·omega
  ·have:k=i:=by omega
   subst this
   rw[hin _ hk]at hiL;cases hiL
 have blocks:∀b,b<C.w.heap.size->b≠C.J m0->C'.w.heap[b]? = C.w.heap[b]? := fun b hb hne=>hp.same b hb fun m hm hml=>by
  rw[hd]at hm
  simp at hm
  rcases hm with rfl | rfl
  ·exact hne
  ·exact absurd hml hqno
 refine⟨fun j hj => ?_,fun j ej hj hej k hk => ?_,fun j ej hj hej m hm => ?_,by rw[qP];exact I.size,by rw[put_defers];exact I.defers,fun A' hA' => ?_⟩
 ·rcases aK.1 hj with h | h
  ·exact I.lt j h
  ·omega
 ·rcases aK.1 hj with h | h
  ·exact aK.2 (.inl (I.closed j ej h hej k hk))
  ·subst h;rw[he]at hej;cases hej;exact aK.2 (.inl (hin k hk))
 ·rcases aK.1 hj with h | h
  ·exact I.names j ej h hej m hm
  ·subst h;rw[he]at hej;cases hej
   rw[hd]at hm
   simp at hm
   rcases hm with rfl | rfl
   ·rcases hm0k with h | ⟨k,hk,h⟩
    ·exact .inl h
    ·exact .inr ⟨k,.inr hk,h⟩
   ·exact .inr ⟨_,.inl rfl,hqi⟩
 ·have hAi:A' i=true:=hA'.bars i e (aK.2 (.inr rfl)) he hfr
  let A:Nat->Bool:=fun j=>A' j && !(j==i)
  have hA:Adm nx es L A:=Adm.without I hiL hA'
  obtain⟨oH,oT,oF⟩:=I.ok A hA
  have hAgt:∀k ek,i<k->A' k=true->iC es k=some ek->ek.d=[]:=fun k ek hk h hek=>by
   rcases aK.1 (hA'.sub k h)with h | h
   ·rcases hlt k h with h | ⟨e2,h2,h3⟩
    ·omega
    ·rw[hek]at h2;cases h2;exact h3
   ·omega
  have hview':aj A' es h0=hap e.d (aj A es h0):=by
   have e1:aj A' es h0=aj (fun k=>A' k&&decide (k<=i)) es h0:=iT es fun k ek hek hne=>by
    by_cases hk:k<=i
    ·simp[hk]
    ·cases h:A' k with
     | false=>simp
     | true=>exact absurd (hAgt k ek (by omega) h hek) hne
   have e2:aj A es h0=aj (fun k=>A k&&decide (k<=i)) es h0:=iT es fun k ek hek hne=>by
    by_cases hk:k<=i
    ·simp[hk]
    ·cases h:A' k with
     | false=>simp[A,h]
     | true=>exact absurd (hAgt k ek (by omega) h hek) hne
   rw[e1,e2,h6 _ (by simp[hAi]) (fun k hk=>by simp;omega),h5 (fun k=>A k&&decide (k<=i)) (fun k hk=>by
    rcases Nat.lt_or_eq_of_le hk with h | h
    ·simp;omega
    ·subst h;simp[A])]
   congr 1
   exact kT es' fun j hj=>by
    rw[hl']at hj
    simp[A,Nat.ne_of_lt hj,Nat.le_of_lt hj]
  have see:∀m:Nm,hget (aj A' es h0) m=if q=m then some cs0 else if m0=m then none else hget (aj A es h0) m:=fun m=>by
   rw[hview',hd]
   simp only[hap,dF,mi]
  have msA:∀k,e.ms.testBit k=true->A k=true:=fun k hk=>by
   have h1:=hA'.closed i e hAi he k hk
   have hki:k≠i:=fun h=>by subst h;rw[hin _ hk]at hiL;cases hiL
   simp[A,h1,hki]
  have alike:∀m:Nm,(C.at_ nx h0 es e.ms.testBit).kn m->hget (aj A es h0) m=hget (aj e.ms.testBit es h0) m:=fun m hk=>I.seeAlike hA hadm (by
   rcases hk with h | ⟨k,hk,h⟩
   ·exact .inl h
   ·exact .inr ⟨k,⟨msA k hk,hk⟩,h⟩)
  have hm0A:(C.at_ nx h0 es A).live m0:=by
   show(hget (aj A es h0) m0).isSome=true
   rw[alike m0 hm0k];exact hm0l
  have notI:∀m:Nm,(C.at_ nx h0 es A).kn m->m.1≠nx+i:=fun m hm h=>by
   rcases hm with g | ⟨k,hk,g⟩
   ·omega
   ·have:k=i:=by omega
    subst this
    simp[A]at hk
  have live':∀m,((C.next C' (nx+i)).at_ nx h0 es A').live m<->m=q\/(m≠m0/\(C.at_ nx h0 es A).live m):=fun m=>by
   show(hget (aj A' es h0) m).isSome=true<->_\/(_/\(hget (aj A es h0) m).isSome=true)
   rw[see m]
   by_cases h1:q=m
   ·subst h1;simp
   ·rw[if_neg h1]
    by_cases h2:m0=m
    ·subst h2;simp[Ne.symm h1]
    ·rw[if_neg h2];simp[Ne.symm h1,Ne.symm h2]
  have J':∀m,(C.at_ nx h0 es A).kn m->((C.next C' (nx+i)).at_ nx h0 es A').J m=C.J m:=fun m hm=>by
   simp only[Ctx.at_,Ctx.next];rw[if_neg (notI m hm)]
  have Jq:((C.next C' (nx+i)).at_ nx h0 es A').J q=C'.J q:=by
   simp only[Ctx.at_,Ctx.next];rw[if_pos hqi]
  have bs':∀m,(C.at_ nx h0 es A).kn m->((C.next C' (nx+i)).at_ nx h0 es A').bs m=C.bs m:=fun m hm=>by
   simp only[Ctx.at_,Ctx.next];rw[if_neg (notI m hm)]
  have bsq:((C.next C' (nx+i)).at_ nx h0 es A').bs q=C'.bs q:=by
   simp only[Ctx.at_,Ctx.next];rw[if_pos hqi]
  have inB:∀{b:Nat} {cs:Array Value} {ty:TypeId},C.w.heap[b]? = some (.cells cs ty (0,0))->b<C.w.heap.size:=fun {b cs ty} hc=>by
   rcases Nat.lt_or_ge b C.w.heap.size with h2 | h2
   ·exact h2
   ·rw[Array.getElem?_eq_none h2]at hc;cases hc
  have le1:(C.at_ nx h0 es A).le ((C.next C' (nx+i)).at_ nx h0 es A'):=by
   have old:∀m,(C.at_ nx h0 es A).kn m->((C.next C' (nx+i)).at_ nx h0 es A').live m->m≠m0/\(C.at_ nx h0 es A).live m:=fun m hm hl=>by
    rcases(live' m).1 hl with rfl | h
    ·exact absurd hqi (notI _ hm)
    ·exact h
   refine⟨hp.le.size,hp.le.same,hp.le.mt,fun m hm => ?_,fun m hm hl=>⟨(old m hm hl).2,J' m hm,bs' m hm⟩,fun m hm hl cs ty hc => ?_⟩
   ·rcases hm with h | ⟨k,hk,h⟩
    ·exact .inl h
    ·exact .inr ⟨k,by simp[A]at hk;exact hk.1,h⟩
   ·have hc':C.w.heap[C.J m]? = some (.cells cs ty (0,0)):=hc
    obtain⟨hne,hml⟩:=old m hm hl
    have hb0:C.J m≠C.J m0:=fun hh=>hne (oH.inj m m0 hml hm0A hh)
    exact⟨cs,ty,(blocks _ (inB hc') hb0).trans hc',rfl⟩
  have le2:C'.le ((C.next C' (nx+i)).at_ nx h0 es A'):=by
   refine⟨Nat.le_refl _,fun _ _ _=>rfl,fun _ _ h=>h,fun m hm => ?_,fun m hm hl => ?_,fun _ _ _ cs ty h=>⟨cs,ty,h,rfl⟩⟩
   ·rcases(hp.kn m).1 hm with(h | ⟨k,hk,h⟩) | h
    ·exact .inl h
    ·exact .inr ⟨k,hA'.closed i e hAi he k hk,h⟩
    ·exact .inr ⟨i,hAi,h⟩
   ·rcases(live' m).1 hl with rfl | ⟨hne,hl0⟩
    ·exact⟨hq',Jq,bsq⟩
    ·have hkA:=oH.kn m hl0
     have hnI:=notI m hkA
     have hk:=((hp.kn m).1 hm).resolve_right hnI
     have hlv:C'.live m:=(hp.heap.live m).2 (by
      have h1:(hget (aj A es h0) m).isSome=true:=hl0
      rw[alike m hk]at h1
      rw[hd]
      simp only[hap,dF,mi]
      rw[if_neg (fun h=>hnI (by rw[<-h];exact hqi)),if_neg (Ne.symm hne)]
      exact h1)
     exact⟨hlv,by rw[J' m hkA];exact((hp.le.live m hk hlv).2.1).symm,by rw[bs' m hkA];exact((hp.le.live m hk hlv).2.2).symm⟩
  have apart:∀m,m≠m0->(C.at_ nx h0 es A).live m->C'.J q≠C.J m:=fun m hne hml heq=>by
   rcases hp.orig q hq' with⟨h,_⟩ | h | ⟨m1,hm1,hl1,h⟩
   ·exact hqno h
   ·have:=oH.lt hml
    have h':C.w.heap.size<=C'.J q:=h
    have h'':C.J m<C.w.heap.size:=this
    omega
   ·rw[hd]at hm1
    simp at hm1
    rcases hm1 with rfl | rfl
    ·exact hne (oH.inj m m1 hml hm0A (show C.J m=C.J m1 by rw[<-heq];exact h))
    ·exact hqno hl1
  refine⟨⟨fun m=>Iff.rfl,fun m cs hg => ?_,fun m m' hm hm' heq => ?_,fun m hm => ?_,fun m hm => ?_⟩,fun x => ?_,?_⟩
  ·rw[see m]at hg
   split at hg
   ·rename_i h;subst h
    cases hg
    rw[Jq,bsq]
    obtain⟨arr,ty,ha,hc⟩:=hp.heap.obj q cs0 (by rw[hd];simp[hap,dF])
    exact⟨arr,ty,ha,fun j c hj=>by obtain⟨v,hv,hcv⟩:=hc j c hj;exact⟨v,hv,hcv.mono le2⟩⟩
   ·split at hg
    ·cases hg
    ·rename_i h
     have hlm:=oH.get hg
     rw[J' m (oH.kn m hlm),bs' m (oH.kn m hlm)]
     obtain⟨arr,ty,ha,hc⟩:=oH.obj m cs hg
     have hbne:C.J m≠C.J m0:=fun hh=>h (oH.inj m m0 hlm hm0A hh).symm
     exact⟨arr,ty,(blocks _ (oH.lt hlm) hbne).trans ha,fun j c hj=>by obtain⟨v,hv,hcv⟩:=hc j c hj;exact⟨v,hv,hcv.mono le1⟩⟩
  ·rcases(live' m).1 hm with rfl | ⟨n1,l1⟩<;>rcases(live' m').1 hm' with h | ⟨n2,l2⟩
   ·exact h.symm
   ·rw[Jq,J' m' (oH.kn m' l2)]at heq
    exact absurd heq (apart m' n2 l2)
   ·subst h
    rw[Jq,J' m (oH.kn m l1)]at heq
    exact absurd heq.symm (apart m n1 l1)
   ·rw[J' m (oH.kn m l1),J' m' (oH.kn m' l2)]at heq
    exact oH.inj m m' l1 l2 heq
  ·rcases(live' m).1 hm with rfl | ⟨n1,l1⟩
   ·rw[Jq];exact hp.heap.mt _ hq'
   ·rw[J' m (oH.kn m l1)]
    exact(hp.mt _ (oH.lt l1)).2 (oH.mt m l1)
  ·rcases(live' m).1 hm with rfl | ⟨n1,l1⟩
   ·exact .inr ⟨i,hAi,hqi⟩
   ·exact le1.kn m (oH.kn m l1)
  ·by_cases hx:o.dst=some x
   ·rw[F.tget_dst A' he (by rw[hdst];exact hx),if_pos hAi,EF hx (by rw[I.size];exact wG F.fits ho x hx)]
    exact hp.val.mono le2
   ·rw[vU hx,F.tget_congr (A:=A') (B:=A) (fun j ej hej hdj=>by
     by_cases hji:j=i
     ·subst hji;rw[he]at hej;cases hej;exact absurd (by rw[<-hdst];exact hdj) hx
     ·simp[A,hji])]
    exact(oT x).mono le1
  ·refine hFr.of rfl rfl (oF.le.trans le1) fun m hm hb => ?_
   rcases(live' m).1 hm with rfl | ⟨n1,l1⟩
   ·rw[Jq]at hb ⊢
    exact hFr.wr _ hq' hb
   ·rw[J' m (oH.kn m l1)]at hb ⊢
    exact oF.wr m l1 hb
end
end Go.Proofs.Aw
namespace Go.Proofs.Aw
open Go
def left (L:Nat->Bool):Nat->Nat
 | 0=>0
 | n+1=>left L n+if L n=true then 0 else 1
theorem AZ {L:Nat->Bool}:∀{n:Nat},left L n=0->∀j,j<n->L j=true
 | 0,_,j,hj=>by omega
 | n+1,h,j,hj=>by
  simp only[left]at h
  by_cases hn:L n=true
  ·rcases Nat.lt_or_ge j n with hj' | hj'
   ·exact AZ (by omega) j hj'
   ·rw[show j=n from by omega];exact hn
  ·rw[if_neg hn]at h;omega
theorem wB {L M:Nat->Bool}:∀{n:Nat},(∀j,j<n->L j=M j)->left L n=left M n
 | 0,_=>rfl
 | n+1,h=>by simp only[left];rw[wB (fun j hj=>h j (by omega)),h n (by omega)]
theorem Fa {L:Nat->Bool} {i:Nat} (hi:L i=false):∀{n:Nat},i<n->left (lM L i) n+1=left L n
 | 0,h=>by omega
 | n+1,h=>by
  simp only[left]
  by_cases hin:i=n
  ·subst hin
   rw[if_pos (aK.2 (.inr rfl)),hi,wB (L:=lM L i) (M:=L) fun j hj=>by simp[lM,Nat.ne_of_lt hj]]
   simp
  ·have:=Fa hi (n:=n) (by omega)
   have h2:lM L i n=L n:=by
    have:(n==i)=false:=by simpa using Ne.symm hin
    simp[lM,this]
   rw[h2];omega
def lst (listed:Array Bool):Nat->Bool:=fun j=>listed.getD j false
theorem KI {listed:Array Bool} {i:Nat} (hi:i<listed.size) (j:Nat):lst (listed.setIfInBounds i true) j=lM (lst listed) i j:=by
 unfold lst lM
 by_cases h:j=i
 ·subst h;simp[Array.getD,hi]
 ·have:(j==i)=false:=by simpa using h
  simp[Array.getD_eq_getD_getElem?,Array.getElem?_setIfInBounds_ne (Ne.symm h),this]
theorem mf {listed:Array Bool} {j:Nat}:listed.getD j true=false<->j<listed.size/\lst listed j=false:=by
 unfold lst
 by_cases h:j<listed.size
 ·simp[Array.getD,h]
 ·simp[Array.getD,h]
theorem Adm.congr {nx:Nat} {es:List En} {L M A:Nat->Bool} (h:∀j,L j=M j) (k:Adm nx es L A):Adm nx es M A :=
 ⟨fun j hj=>by rw[<-h];exact k.sub j hj,k.closed,fun j e hj=>k.bars j e (by rw[h];exact hj)⟩
theorem InvD.congr {E:Env} {nx:Nat} {t0:Tp} {h0:Hp} {es:List En} {L M:Nat->Bool} {C:Ctx} {a:Act} (h:∀j,L j=M j) (I:InvD E nx t0 h0 es L C a):InvD E nx t0 h0 es M C a where
 lt j hj:=I.lt j (by rw[h];exact hj)
 closed j e hj he k hk:=by rw[<-h];exact I.closed j e (by rw[h];exact hj) he k hk
 names j e hj:=I.names j e (by rw[h];exact hj)
 size:=I.size
 defers:=I.defers
 ok A hA:=I.ok A (hA.congr fun j=>(h j).symm)
section
variable {P:Program} {E:Env} {ops:List Oper} {nx:Nat} {t0:Tp} {h0:Hp} {es:List En}
theorem InvD.adm (F:Fixed P E ops nx t0 h0 es) {L:Nat->Bool} {C:Ctx} {a:Act} (_I:InvD E nx t0 h0 es L C a) {i:Nat} {e:En} (he:iC es i=some e)
  (hin:∀k,e.ms.testBit k=true->L k=true) (hall:∀j ej,L j=true->iC es j=some ej->eF (nx+j) ej.d=false->e.ms.testBit j=true):Adm nx es L e.ms.testBit :=
 ⟨hin,fun _ _ hj hej k hk=>F.trans i he hj hej k hk,fun j ej hj hej hf=>hall j ej hj hej hf⟩
theorem FQ {p:Nat->Prop}:∀n,(∃j,p j/\j<n)->∃j,(p j/\j<n)/\∀k,p k->k<n->k<=j
 | 0,⟨_,_,h⟩=>by omega
 | n+1,⟨j,hp,hj⟩=>by
  by_cases hn:p n
  ·exact⟨n,⟨hn,by omega⟩,fun k _ hk=>by omega⟩
  ·have hjn:j<n:=by
    rcases Nat.lt_or_eq_of_le (Nat.le_of_lt_succ hj)with h | h
    ·exact h
    ·subst h;exact absurd hp hn
   obtain⟨q,⟨h1,h2⟩,h3⟩:=FQ n ⟨j,hp,hjn⟩
   refine⟨q,⟨h1,by omega⟩,fun k hk hkn=>h3 k hk ?_⟩
   rcases Nat.lt_or_eq_of_le (Nat.le_of_lt_succ hkn)with h | h
   ·exact h
   ·subst h;exact absurd hk hn
theorem InvD.wp (F:Fixed P E ops nx t0 h0 es) {Q:Exit->Act->World->Prop} (hQ:∀C a,InvD E nx t0 h0 es (fun j=>decide (j<es.length)) C a->Q .normal a C.w) :
  ∀(fuel:Nat) (listed:Array Bool) (C:Ctx) (a:Act),listed.size=ops.length->left (lst listed) ops.length<=fuel->InvD E nx t0 h0 es (lst listed) C a->wpAny P .any ops.toArray Q fuel listed a C.w:=by
 have done:∀(listed:Array Bool) (C:Ctx) (a:Act),listed.size=ops.length->InvD E nx t0 h0 es (lst listed) C a->(∀j,j<ops.length->lst listed j=true)->Q .normal a C.w:=fun listed C a hsz I hall =>
  hQ C a (I.congr fun j=>by
   by_cases hj:j<es.length
   ·rw[hall j (by rw[<-F.len];exact hj)];simp[hj]
   ·cases h:lst listed j with
    | false=>simp[hj]
    | true=>exact absurd (I.lt j h) hj)
 have noneLeft:∀(listed:Array Bool),listed.size=ops.length->Region.ready .any ops.toArray listed=[]->∀j,j<ops.length->lst listed j=true:=by
  intro listed hsz hr j
  induction j using Nat.strongRecOn with
  | _ j ih =>
   intro hj
   cases h:lst listed j with
   | true=>rfl
   | false =>
    exfalso
    have hmem:j∈Region.ready .any ops.toArray listed:=by
     refine mem_ready.2 ⟨mf.2 ⟨by rw[hsz];exact hj,h⟩,ops[j],by simp[hj],fun ed hed hb => ?_⟩
     have ho:ops[j]? = some ops[j]:=by simp[hj]
     obtain⟨e,he,_⟩:=F.entry ho
     obtain⟨mlt,min,_,_⟩:=F.mask he ho
     have hlt:=mlt _ (min ed hed hb)
     exact ih ed.on hlt (by omega)
    rw[hr]at hmem;cases hmem
 intro fuel
 induction fuel with
 | zero =>
  intro listed C a hsz hl I
  have hall:=AZ (Nat.le_zero.1 hl)
  refine⟨?_,done listed C a hsz I hall⟩
  apply List.eq_nil_iff_forall_not_mem.2
  intro j hj
  obtain⟨h1,_⟩:=mem_ready.1 hj
  obtain⟨h2,h3⟩:=mf.1 h1
  rw[hall j (by omega)]at h3;cases h3
 | succ fuel ih =>
  intro listed C a hsz hl I
  refine⟨fun hr=>done listed C a hsz I (noneLeft listed hsz hr),fun i hi => ?_⟩
  obtain⟨h1,o,ho',hedges⟩:=mem_ready.1 hi
  obtain⟨hisz,hiL⟩:=mf.1 h1
  have ho:ops[i]? = some o:=by simpa using ho'
  obtain⟨e,he,hdst⟩:=F.entry ho
  obtain⟨mlt,_,mex,_⟩:=F.mask he ho
  have hin:∀k,e.ms.testBit k=true->lst listed k=true:=fun k hk=>by
   obtain⟨ed,hed,hb,hor⟩:=mex k hk
   have hon:lst listed ed.on=true:=hedges ed hed hb
   rcases hor with h | ⟨e1,he1,hk1⟩
   ·rw[<-h];exact hon
   ·exact I.closed _ _ hon he1 k hk1
  have fin:∀(C2:Ctx) (a2:Act),InvD E nx t0 h0 es (lM (lst listed) i) C2 a2->wpAny P .any ops.toArray Q fuel (listed.setIfInBounds i true) a2 C2.w:=fun C2 a2 I2=>by
   refine ih (listed.setIfInBounds i true) C2 a2 (by simpa using hsz) ?_ (I2.congr fun j=>(KI hisz j).symm)
   have h7:=Fa hiL (n:=ops.length) (by omega)
   rw[wB (L:=lst (listed.setIfInBounds i true)) (M:=lM (lst listed) i) fun j _=>KI hisz j]
   omega
  have run:∀(B:Nat->Bool) (l:List En),Adm nx es (lst listed) B->(∀x,dX (bP B l t0) x=dX (bP B es t0) x)->aj B es h0=aj B l h0->∀d,wR P ops (nx+i) o (bP B l t0) (aj B l h0) e.r d ->
    (∀(u:Value) (C':Ctx),Post (C.at_ nx h0 es B) (nx+i) (aj B es h0) e.r d u C'->InvD E nx t0 h0 es (lM (lst listed) i) (C.next C' (nx+i)) (a.put o.dst u))->wpOp P ops.toArray Q i (wpAny P .any ops.toArray Q fuel (listed.setIfInBounds i true)) a C.w:=by
   intro B l hB hsee hv d hyg hgo
   obtain⟨hH,hT,hF⟩:=I.ok _ hB
   have hBi:B i=false:=by
    cases h:B i with
    | false=>rfl
    | true=>rw[hB.sub i h]at hiL;cases hiL
   have hT':TOk (C.at_ nx h0 es B) (bP B l t0) a:=fun x=>by rw[hsee x];exact hT x
   have hH':HeapOk (C.at_ nx h0 es B) (aj B l h0):=by rw[<-hv];exact hH
   have hno:∀k,¬(C.at_ nx h0 es B).kn (nx+i,k):=fun k h=>by
    rcases h with h | ⟨q,hq,h⟩
    ·simp only at h;omega
    ·simp only at h
     have:q=i:=by omega
     subst this;rw[hBi]at hq;cases hq
   have goOn:∀(u:Value) (C':Ctx),Post (C.at_ nx h0 es B) (nx+i) (aj B l h0) e.r d u C'->wpAny P .any ops.toArray Q fuel (listed.setIfInBounds i true) (a.put o.dst u) C'.w:=fun u C' hp =>
    fin (C.next C' (nx+i)) (a.put o.dst u) (hgo u C' (by rw[hv];exact hp))
   obtain⟨y1,y2⟩:=rC hT' ops
    |> fun h=>(⟨fun j=>(h j).1,fun j=>(h j).2⟩:(∀j b,yv ops (bP B l t0) j = .sc (.bool b)->yielded ops.toArray a.tmps j=some b)/\(∀j x,yv ops (bP B l t0) j = .sc (.tuple x)->yielded ops.toArray a.tmps j=none))
   unfold wpOp
   rw[ho']
   simp only
   have wanted:Yields P (nx+i) o.op (bP B l t0) (aj B l h0) e.r d->Region.wanted o (yielded ops.toArray a.tmps)=true ->
     if Region.wanted o (yielded ops.toArray a.tmps)then o.wp P a C.w (wpAny P .any ops.toArray Q fuel (listed.setIfInBounds i true)) Q\/(o.asks P a C.w/\LetsOut Q)else wpAny P .any ops.toArray Q fuel (listed.setIfInBounds i true) (a.put o.dst undef) C.w:=fun hy hw=>by
    rw[if_pos hw]
    exact .inl (hy (C.at_ nx h0 es B) a o _ _ rfl hH' hT' hno goOn)
   rcases hyg with⟨hg,hy⟩ | ⟨j,want,b,hg,hb,hbw,hy⟩ | ⟨j,want,hg,hnot,hr,hd⟩
   ·exact wanted hy (by simp[Region.wanted,hg])
   ·exact wanted hy (by simp[Region.wanted,hg,y1 j b hb,hbw])
   ·have hw:Region.wanted o (yielded ops.toArray a.tmps)=false:=by
     rcases hnot with⟨b,hb,hbw⟩ | ⟨x,hx⟩
     ·simp[Region.wanted,hg,y1 j b hb,hbw]
     ·simp[Region.wanted,hg,y2 j x hx]
    rw[if_neg (by rw[hw];simp)]
    have hp:Post (C.at_ nx h0 es B) (nx+i) (aj B l h0) e.r d undef ((C.at_ nx h0 es B).same (nx+i) C.w):=by
     rw[hr,hd]
     exact Post.pure hH' (by simp only[Conc]) rfl rfl rfl rfl
    exact goOn undef ((C.at_ nx h0 es B).same (nx+i) C.w) hp
  obtain⟨es',o',g1,g2,g3,hs,h5,h6⟩:=F.walked.get he
  rw[ho]at g3;cases g3
  have mlt':∀k,i<=k->e.ms.testBit k=false:=fun k hk=>by
   cases h:e.ms.testBit k with
   | false=>rfl
   | true=>have:=mlt k h;omega
  by_cases hlate:∃j,(lst listed j=true/\e.ms.testBit j=false/\∃ej,iC es j=some ej/\eF (nx+j) ej.d=false)/\j<es.length
  ·
   obtain⟨j,⟨⟨hjL,hjm,ej,hej,hjf⟩,hjlt⟩,hmax⟩:=FQ es.length hlate
   obtain⟨es1,o1,k1,k2,k3,k4,k5,k6⟩:=F.walked.get hej
   have hbit:ej.ms.testBit i=false:=by
    cases h:ej.ms.testBit i with
    | false=>rfl
    | true=>rw[I.closed j ej hjL hej i h]at hiL;cases hiL
   have bB:∀k,(((e.ms ||| ej.ms) ||| 2 ^ j).testBit k=true)<->(e.ms.testBit k=true\/ej.ms.testBit k=true)\/k=j:=fun k=>by
    rw[Nat.testBit_or,Nat.testBit_or,Bool.or_eq_true,Bool.or_eq_true,Nat.testBit_two_pow]
    simp only[decide_eq_true_eq]
    exact or_congr Iff.rfl eq_comm
   obtain⟨mltj,_,_,_⟩:=F.mask hej k3
   have hB:Adm nx es (lst listed) ((e.ms ||| ej.ms) ||| 2 ^ j).testBit:=by
    refine⟨fun k hk => ?_,fun k ek hk hek q hq => ?_,fun k ek hk hek hf => ?_⟩
    ·rcases(bB k).1 hk with(h | h) | h
     ·exact hin k h
     ·exact I.closed j ej hjL hej k h
     ·subst h;exact hjL
    ·rcases(bB k).1 hk with(h | h) | h
     ·exact(bB q).2 (.inl (.inl (F.trans i he h hek q hq)))
     ·exact(bB q).2 (.inl (.inr (F.trans j hej h hek q hq)))
     ·subst h;rw[hej]at hek;cases hek;exact(bB q).2 (.inl (.inr hq))
    ·cases hek2:e.ms.testBit k with
     | true=>exact(bB k).2 (.inl (.inl hek2))
     | false =>
      rcases Nat.lt_trichotomy k j with h | h | h
      ·rcases k4.waits k ek (by rw[k2 k h];exact hek) hf with g | g
       ·exact(bB k).2 (.inl (.inr g))
       ·have:=g.1
        rw[this]at hjf;cases hjf
      ·exact(bB k).2 (.inr h)
      ·have:=hmax k ⟨hk,hek2,ek,hek,hf⟩ (I.lt k hk)
       omega
   have hup:∀A',Adm nx es (lM (lst listed) i) A'->A' i=true->∀k,((e.ms ||| ej.ms) ||| 2 ^ j).testBit k=true->A' k=true:=fun A' hA' hAi k hk=>by
    rcases(bB k).1 hk with(h | h) | h
    ·exact hA'.closed i e hAi he k h
    ·exact hA'.closed j ej (hA'.bars j ej (aK.2 (.inl hjL)) hej hjf) hej k h
    ·subst h;exact hA'.bars k ej (aK.2 (.inl hjL)) hej hjf
   by_cases hij:i<j
   case neg =>
    have hji:j<i:=by
     rcases Nat.lt_trichotomy j i with h | h | h
     ·exact h
     ·subst h;rw[hjL]at hiL;cases hiL
     ·exact absurd h hij
    rcases hs.waits j ej (by rw[g2 j hji];exact hej) hjf with g | ⟨hd,hy⟩
    ·rw[g]at hjm;cases hjm
    ·have hfar:∀k,i<=k->((e.ms ||| ej.ms) ||| 2 ^ j).testBit k=false:=fun k hk=>by
      cases h:((e.ms ||| ej.ms) ||| 2 ^ j).testBit k with
      | false=>rfl
      | true =>
       rcases(bB k).1 h with(h | h) | h
       ·have:=mlt k h;omega
       ·have:=mltj k h;omega
       ·omega
     rw[g1]at hy
     exact run _ es' hB (fun x=>F.tget_walk g1 g2 hfar x) (h5 _ hfar) [] hy (fun u C' hp=>I.stepPure F he ho hdst hiL hin hd hB hup hp)
   have hlater:Later P ops nx t0 h0 es1 ej:=by
    rcases k4.fresh with g | g | g
    ·rw[k1,hjf]at g;cases g
    ·have:ej.ms.testBit i=true:=by
      rw[show ej.ms=2 ^ j-1 from by rw[<-k1];omega,Nat.testBit_two_pow_sub_one]
      simpa using hij
     rw[this]at hbit;cases hbit
    ·exact g
   have hei:iC es1 i=some e:=by rw[k2 i hij];exact he
   obtain⟨hd,hy⟩:=hlater.2 i e o (by rw[k1];exact hij) hbit hei ho
   rw[k1]at hy
   have hfar:∀k,j+1<=k->((e.ms ||| ej.ms) ||| 2 ^ j).testBit k=false:=fun k hk=>by
    cases h:((e.ms ||| ej.ms) ||| 2 ^ j).testBit k with
    | false=>rfl
    | true =>
     rcases(bB k).1 h with(h | h) | h
     ·have:=mlt k h;omega
     ·have:=mltj k h;omega
     ·omega
   have hent:∀k,k<j+1->iC (ej::es1) k=iC es k:=fun k hk=>by
    simp only[iC,k1]
    split
    ·rename_i h;subst h;exact hej.symm
    ·exact k2 k (by omega)
   refine run _ (ej::es1) hB (fun x=>F.tget_walk (by simp[k1]) hent hfar x) ?_ [] hy (fun u C' hp=>I.stepPure F he ho hdst hiL hin hd hB hup hp)
   rw[k6 _ ((bB j).2 (.inr rfl)) (fun k hk=>hfar k hk)]
   simp only[aj]
   rw[if_pos (by rw[k1];exact(bB j).2 (.inr rfl))]
  ·have hno:∀j ej,lst listed j=true->iC es j=some ej->eF (nx+j) ej.d=false->e.ms.testBit j=true:=fun j ej hj hej hf=>by
    cases h:e.ms.testBit j with
    | true=>rfl
    | false=>exact absurd ⟨j,⟨hj,h,ej,hej,hf⟩,I.lt j hj⟩ hlate
   have hadm:=I.adm F he hin hno
   have hv:=h5 e.ms.testBit mlt'
   have hys:=hs.yields
   rw[g1]at hys
   refine run e.ms.testBit es' hadm (fun x=>F.tget_walk g1 g2 mlt' x) hv e.d hys (fun u C' hp => ?_)
   have hlt:eF (nx+i) e.d=false->∀k,lst listed k=true->k<i\/∃ek,iC es k=some ek/\ek.d=[]:=fun hf k hk=>by
    rcases Nat.lt_trichotomy k i with h | h | h
    ·exact .inl h
    ·subst h;rw[hk]at hiL;cases hiL
    ·obtain⟨ek,hek⟩:=zM (es:=es) (I.lt k hk)
     obtain⟨es1,o1,k1,k2,k3,k4,_⟩:=F.walked.get hek
     rcases k4.waits i e (by rw[k2 i h];exact he) hf with hb | hb
     ·rw[I.closed k ek hk hek i hb]at hiL;cases hiL
     ·exact .inr ⟨ek,hek,hb.1⟩
   by_cases hfull:e.ms+1=2 ^ es'.length
   ·exact I.step F he ho hiL hin g1 g2 hs h6 hv hadm (by rw[<-hv];exact hp) (fun _=>hfull) hlt
   rcases hs.fresh with g | g | g
   ·rw[g1]at g
    exact I.step F he ho hiL hin g1 g2 hs h6 hv hadm (by rw[<-hv];exact hp) (fun hf=>by rw[g]at hf;cases hf) hlt
   ·exact absurd g hfull
   ·by_cases hf:eF (nx+i) e.d=true
    ·exact I.step F he ho hiL hin g1 g2 hs h6 hv hadm (by rw[<-hv];exact hp) (fun hf'=>by rw[hf]at hf';cases hf') hlt
    ·obtain⟨hfd,_⟩:=g
     have hf':eF (nx+i) e.d=false:=by simpa using hf
     rw[g1]at hfd
     rcases hfd with hd | ⟨m,q,cs,hd,hm,hq⟩
     ·exact I.stepSets F he ho hdst hiL hin hd hf' (hlt hf') h6 h5 g1 hadm hp
     ·exact I.stepMove F he ho hdst hiL hin hd hm hq hf' (hlt hf') h6 h5 g1 hadm hp
theorem I9 {Q:Exit->St->Prop} {σ:St} (hf:fits E.N ops=true) (ho:once ops=true) (es:List En) (hw:Walked P ops σ.nx (mO ops σ.t) σ.h es) (hl:es.length=ops.length)
  (hk:Q .normal ⟨bP (fun _=>true) es (mO ops σ.t),aj (fun _=>true) es σ.h,σ.nx+ops.length⟩) {a:Act} {w:World} (hr:Rel E σ a w) :
  wpAny P .any ops.toArray (fun e a' w'=>∃σ',Rel E σ' a' w'/\Q e σ') ops.toArray.size (Array.replicate ops.toArray.size false) a { w with drawn:=w.drawn+1 }:=by
 obtain⟨C0,rfl,hC⟩:=hr
 have F:Fixed P E ops σ.nx (mO ops σ.t) σ.h es:=⟨hw,hl,ho,hf,fun o hoi x hx=>by
  rw[lU,if_pos (List.any_eq_true.2 ⟨o,hoi,by simp[hx]⟩)]⟩
 let C:Ctx:={ C0 with w:={ C0.w with drawn:=C0.w.drawn+1 } }
 have hL:∀j,lst (Array.replicate ops.toArray.size false) j=false:=fun j=>by
  unfold lst
  rw[Array.getD_eq_getD_getElem?,Array.getElem?_replicate]
  split<;>rfl
 have start:InvD E σ.nx (mO ops σ.t) σ.h es (lst (Array.replicate ops.toArray.size false)) C a:=by
  refine⟨fun j hj=>absurd hj (by rw[hL];simp),fun j e hj=>absurd hj (by rw[hL];simp),fun j e hj=>absurd hj (by rw[hL];simp),hC.size,hC.defers,fun A hA => ?_⟩
  have hA0:∀j,A j=false:=fun j=>by
   cases h:A j with
   | false=>rfl
   | true=>have:=hA.sub j h;rw[hL]at this;cases this
  have hv:∀l:List En,aj A l σ.h=σ.h:=fun l=>by
   induction l with
   | nil=>rfl
   | cons e l ih=>simp only[aj];rw[if_neg (by rw[hA0];simp)];exact ih
  have le:C0.le (C.at_ σ.nx σ.h es A):=by
   refine⟨Nat.le_refl _,fun _ _ _=>rfl,fun _ _ h=>h,fun m hm => .inl (hC.kn m hm),fun m hm hl=>⟨(hC.heap.live m).2 ?_,rfl,rfl⟩,fun _ _ _ cs ty h=>⟨cs,ty,h,rfl⟩⟩
   have:(hget (aj A es σ.h) m).isSome=true:=hl
   rwa[hv]at this
  have live:∀m,(C.at_ σ.nx σ.h es A).live m<->C0.live m:=fun m=>by
   rw[hC.heap.live m]
   have:aj A es σ.h=σ.h:=hv es
   show(hget (aj A es σ.h) m).isSome=true<->_
   rw[this]
  refine⟨?_,fun x => ?_,⟨hC.frame.os,hC.frame.tape,hC.frame.output,hC.frame.size,hC.frame.same,hC.frame.mt,fun m hm hb=>hC.frame.wr m ((live m).1 hm) hb,hC.frame.le.trans le⟩⟩
  ·rw[hv]
   exact hC.heap.mono le live (fun _ _=>rfl) (fun _ h _=>h)
  ·rcases jf A (mO ops σ.t) x es with⟨j,e,_,_,h3⟩ | ⟨_,h2⟩
   ·rw[h3,if_neg (by rw[hA0];simp)];trivial
   ·rw[h2,lU]
    split
    ·trivial
    ·exact(hC.t x).mono le
 refine InvD.wp F (fun C' a' I => ?_) ops.toArray.size (Array.replicate ops.toArray.size false) C a (by simp) ?_ start
 ·have hadm:Adm σ.nx es (fun j=>decide (j<es.length)) (fun j=>decide (j<es.length)):=⟨fun _ h=>h,I.closed,fun _ _ h _ _=>h⟩
  obtain⟨hH,hT,hF⟩:=I.ok _ hadm
  have e1:aj (fun j=>decide (j<es.length)) es σ.h=aj (fun _=>true) es σ.h:=kT es fun j hj=>by simp[hj]
  have e2:bP (fun j=>decide (j<es.length)) es (mO ops σ.t)=bP (fun _=>true) es (mO ops σ.t):=BI es fun j hj=>by simp[hj]
  rw[e1]at hH
  rw[e2]at hT
  refine⟨_,⟨C'.at_ σ.nx σ.h es (fun j=>decide (j<es.length)),rfl,hH,hT,I.size,I.defers,fun m hm => ?_,hF⟩,hk⟩
  rcases hm with h | ⟨j,hj,h⟩
  ·simp only;omega
  ·simp at hj;simp only;omega
 ·have:∀n,left (lst (Array.replicate ops.toArray.size false)) n<=n:=fun n=>by
   induction n with
   | zero=>simp[left]
   | succ n ih=>simp only[left];split<;>omega
  exact this _
theorem ar0 {Q:Exit->St->Prop} {σ:St} {id:Nat} (hm:P.follows .mixedOrders=true) (hf:fits E.N ops=true) (ho:once ops=true) (es:List En) (hw:Walked P ops σ.nx (mO ops σ.t) σ.h es) (hl:es.length=ops.length)
  (hk:Q .normal ⟨bP (fun _=>true) es (mO ops σ.t),aj (fun _=>true) es σ.h,σ.nx+ops.length⟩):AW P E (.region id ops.toArray true) Q σ:=fun _ _ hr =>
 wp_region_any hm (I9 hf ho es hw hl hk hr)
end
end Go.Proofs.Aw
namespace Go.Proofs.Aw
open Go
inductive qE where
 | no
 | ok (r:AV) (d:Dl)
 | call (f:FuncId) (args:List AV)
def eu:Option AV->qE
 | some v => .ok v []
 | none => .no
def qg:Option (AV×Dl)->qE
 | some (v,d) => .ok v d
 | none => .no
def UO:Option Dl->qE
 | some d => .ok (.sc undef) d
 | none => .no
def PU:Option Bool->Nat->List AV->Nat->Option AV
 | some true,z,cs,off=>if 0<z/\off+z<=cs.length then some (.agg ((cs.drop off).take z))else none
 | some false,_,cs,off=>cs[off]?
 | none,_,_,_=>none
def rdO (b:Option Bool) (z:Nat) (off:Nat):Option (List AV)->Option AV
 | some cs=>PU b z cs off
 | none=>none
def uM (P:Program) (h:Hp) (ty:TypeId):AV->Option AV
 | .ptr m off=>rdO (nC P ty) (P.cellsOf ty) off (hget h m)
 | .ip cs off=>PU (nC P ty) (P.cellsOf ty) cs off
 | _=>none
def wrN (z:Nat) (m:Nm) (off:Nat) (ys:List AV):Option (List AV)->Option Dl
 | some cs=>if 0<z/\ys.length=z/\off+z<=cs.length/\ys.all AV.one=true then some [(m,some (eH cs off ys))]else none
 | none=>none
def qo (P:Program) (h:Hp) (ty:TypeId):AV->List AV->Option Dl
 | .ptr m off,ys=>wrN (P.cellsOf ty) m off ys (hget h m)
 | _,_=>none
def iaP (m:Nm) (off:Nat) (j:Int) (live:Bool):Option (Nat×Nat)->Option AV
 | some (len,z)=>if live=true/\0<=j/\j<len then some (.ptr m (off+j.toNat*z))else none
 | none=>none
def iaI (cs:List AV) (off:Nat) (j:Int):Option (Nat×Nat)->Option AV
 | some (len,z)=>if 0<=j/\j<len then some (.ip cs (off+j.toNat*z))else none
 | none=>none
def iaS (m:Nm) (z off len:Nat) (j:Int) (live:Bool):Option (TypeId×Nat)->Option AV
 | some (_,z')=>if z'=z/\live=true/\0<=j/\j<len then some (.ptr m (off+j.toNat*z))else none
 | none=>none
def iaE:Option (List AV)->Option AV
 | some el=>some (.ip el 0)
 | none=>none
def iaR (z:Nat) (es:List (List AV)) (j:Int):Option (TypeId×Nat)->Option AV
 | some (_,z')=>if z'=z/\0<=j then iaE es[j.toNat]? else none
 | none=>none
def fQ (P:Program) (h:Hp) (ty:TypeId):AV->AV->Option AV
 | .ptr m off,.sc (.int _ j)=>iaP m off j (hget h m).isSome (lJ P ty)
 | .ip cs off,.sc (.int _ j)=>iaI cs off j (lJ P ty)
 | .sl m z off len _,.sc (.int _ j)=>iaS m z off len j (hget h m).isSome (jU P ty)
 | .ro z es _,.sc (.int _ j)=>iaR z es j (jU P ty)
 | _,_=>none
def faO (h:Hp) (x:AV):Option (Nat×Nat)->Option AV
 | some (o,_)=>match x with
  | .ptr m off=>if(hget h m).isSome=true then some (.ptr m (off+o))else none
  | .ip cs off=>some (.ip cs (off+o))
  | _=>none
 | none=>none
def o9 (P:Program) (h:Hp) (ty:TypeId) (f:Nat) (x:AV):Option AV:=match uz P ty with
 | some l=>faO h x l[f]?
 | none=>none
def fdO (cs:List AV):Option (Nat×Nat)->Option (Option Bool)->Option AV
 | some (o,z),some b=>PU b z cs o
 | _,_=>none
def fieldN (P:Program) (ty:TypeId) (f:Nat):AV->Option AV
 | .agg cs=>match uz P ty,ZT P ty with
  | some l,some bs=>fdO cs l[f]? bs[f]?
  | _,_=>none
 | _=>none
def Ba (P:Program) (ty:TypeId):AV->AV->Option AV
 | .agg cs,.sc (.int _ j)=>match lJ P ty with
  | some (len,z)=>if 0<=j/\j<len then PU (arrA P ty) z cs (j.toNat*z)else none
  | none=>none
 | .sc (.string s),.sc (.int _ j)=>if CP P ty=true/\0<=j then(s[j.toNat]?).map fun b => .sc (.int .u8 b.toNat)else none
 | _,_=>none
def BC (d:Nat):Option AV->Option Nat
 | none=>some d
 | some (.sc (.int _ i))=>if 0<=i then some i.toNat else none
 | _=>none
def slN (P:Program) (h:Hp) (ty:TypeId) (x:AV) (lo hi:Option Nat):Option AV :=
 match lo,hi with
 | some l,some hh=>match x with
  | .ro z es full=>match jU P ty with
   | some (_,z')=>if z'=z/\l<=hh/\hh<=es.length then some (.ro z ((es.take hh).drop l) (full&&hh==es.length))else none
   | none=>none
  | .sl m z off len own=>match jU P ty with
   | some (_,z')=>if z'=z/\(hget h m).isSome=true/\l<=hh/\hh<=len then some (.sl m z (off+l*z) (hh-l) own)else none
   | none=>none
  | .ptr m off=>match lJ P ty with
   | some (len,z)=>if(hget h m).isSome=true/\l<=hh/\hh<=len then some (.sl m z (off+l*z) (hh-l) false)else none
   | none=>none
  | .sc (.string s)=>if CP P ty=true/\l<=hh/\hh<=s.size then some (.sc (.string (s.extract l hh)))else none
  | .sc (.slice none 0 0)=>match jU P ty with
   | some _=>if l=0/\hh=0 then some (.sc (.slice none 0 0))else none
   | none=>none
  | _=>none
 | _,_=>none
def xx (P:Program) (ty:TypeId):AV->Nat
 | .ro _ es _=>es.length
 | .sl _ _ _ len _=>len
 | .ptr _ _=>match lJ P ty with | some (len,_)=>len | none=>0
 | .sc (.string s)=>s.size
 | _=>0
def ay1 (P:Program) (h:Hp) (ty:TypeId) (x:AV):Option Nat->Option Nat->Option Nat->Option AV
 | some l,some hh,some m=>match x with
  | .ro z es _=>match jU P ty with
   | some (_,z')=>if z'=z/\l<=hh/\hh<=m/\m<=es.length then some (.ro z ((es.take hh).drop l) (m==hh))else none
   | none=>none
  | .sl n z _ len _=>match jU P ty with
   | some (_,z')=>if z'=z/\(hget h n).isSome=true/\hh=l/\m=l/\l<=len then some (.ro z [] true)else none
   | none=>none
  | _=>none
 | _,_,_=>none
def qp (P:Program) (h:Hp) (ty:TypeId) (x:AV) (lo hi mx:Option AV):Option AV :=
 match mx with
 | none=>slN P h ty x (BC 0 lo) (BC (xx P ty x) hi)
 | some m=>ay1 P h ty x (BC 0 lo) (match hi with | some v=>BC 0 (some v) | none=>none) (BC 0 (some m))
def fK (P:Program) (n:Nat) (mu:Bool) (ty:TypeId) (len:Nat) (ps:List (Nat×AV)):Option (AV×Dl) :=
 match jU P ty with
 | some (e,z)=>if sZ P e=some z/\len*z<=16777216/\ps.length=len/\qj z 0 ps=true then
   (match mu with
   | false=>some (.ro z (dB ps) true,[])
   | true=>some (.sl (n,0) z 0 len true,[((n,0),some (dB ps).flatten)]))
  else none
 | none=>none
def apO (n:Nat) (mu:Bool) (z:Nat) (by_:Nat) (fs:List (List AV)):Option (List (List AV))->Option (AV×Dl)
 | some es=>if(es.length+fs.length)*by_<=140737488355328/\es.length+fs.length<=9223372036854775807/\(mu=true->fs≠[])then
   (match mu with
   | false=>some (.ro z (es++fs) false,[])
   | true=>some (.sl (n,0) z 0 (es.length+fs.length) true,[((n,0),some (es.flatten++fs.flatten))]))
  else none
 | none=>none
def apS (n:Nat) (z:Nat) (by_:Nat) (fs:List (List AV)) (m:Nm) (off len:Nat):Option (List AV)->Option (AV×Dl)
 | some cs=>if cs.length=off+len*z/\fs.flatten.all AV.one=true/\(len+fs.length)*by_<=140737488355328/\len+fs.length<=9223372036854775807 then some (.sl (n,0) z 0 (len+fs.length) true,[(m,none),((n,0),some (cs.drop off++fs.flatten))])else none
 | none=>none
def PX (P:Program) (n:Nat) (h:Hp) (mu:Bool) (e:TypeId) (z:Nat) (s:AV):Option (List (List AV))->Option (AV×Dl)
 | some fs=>match s with
  | .sl m z' off len own=>if z'=z/\own=true then apS n z (dA P e) fs m off len (hget h m)else none
  | s=>apO n mu z (dA P e) fs (jX z s)
 | none=>none
def lK (P:Program) (n:Nat) (h:Hp) (mu:Bool) (ty xt:TypeId) (s x:AV):Option (AV×Dl) :=
 match jU P ty with
 | some (e,z)=>if jU P xt=some (e,z)/\sZ P e=some z then PX P n h mu e z s (fA h z x)else none
 | none=>none
def Ih:AV->AV->AV->Option AV
 | .sc (.bool true),a,_=>some a
 | .sc (.bool false),_,b=>some b
 | _,_,_=>none
def QF (h:Hp):AV->Option AV
 | .ptr m off=>if(hget h m).isSome=true then some (.ptr m off)else none
 | .ip cs off=>some (.ip cs off)
 | .fn (.func f) xs ys=>some (.fn (.func f) xs ys)
 | _=>none
def AY:Option Int->Option AV
 | some m=>some (.sc (.int .i64 m))
 | none=>none
def jd (P:Program) (n:Nat) (mu:Bool) (h:Hp):Builtin->List TypeId->List AV->qE
 | .len,ty::_,x::_=>eu (AY (uN P h ty x))
 | .max,_,x::xs=>eu (G5 x xs)
 | .min,_,x::xs=>eu (GZ x xs)
 | .append,[ty,xt],[s,x]=>qg (lK P n h mu ty xt s x)
 | .copy,[ty,_],[s,x]=>qg (copyN P h ty s x)
 | b,_,xs=>eu (Ry b xs)
def aK7 (n:Nat) (ys:List AV):qE:=if ys.all AV.one=true then .ok (.ptr (n,0) 0) [((n,0),some ys)]else .no
def allocN (n:Nat):Option (List AV)->qE
 | some cs => .ok (.ptr (n,0) 0) [((n,0),some cs)]
 | none => .no
def FP:AV->Nat->Option AV
 | .tup vs,i=>vs[i]?
 | _,_=>none
def LP (P:Program) (ty:TypeId) (ps:List (Nat×AV)):Option (List AV)->Option AV
 | some cs=>if((lJ P ty).isSome||(uz P ty).isSome)=true then(qX (placeOf P ty) cs ps).map .agg else none
 | none=>none
def Vp (args:List AV):AV->qE
 | .fn (.func f) xs ys => .call f (xs++(args++ys))
 | _ => .no
def Ji (P:Program) (src dst:TypeId) (x:AV):Option AV:=if(P.underlying src).isSome=true then Gh P dst x else none
def Vb (t:Tp):Option Operand->Option AV
 | some x=>some (ev t x)
 | none=>none
def evL (t:Tp):List Operand->List AV
 | []=>[]
 | x::xs=>ev t x::evL t xs
def evP (t:Tp):List (Nat×Operand)->List (Nat×AV)
 | []=>[]
 | (i,x)::xs=>(i,ev t x)::evP t xs
theorem Rj (t:Tp) (x:Option Operand):Vb t x=x.map (ev t):=by cases x<;>rfl
theorem Ld (t:Tp):∀l,evL t l=l.map (ev t)
 | []=>rfl
 | x::xs=>by simp only[evL,List.map_cons,Ld t xs]
theorem Ri (t:Tp):∀l:List (Nat×Operand),evP t l=l.map fun p=>(p.1,ev t p.2)
 | []=>rfl
 | (i,x)::xs=>by simp only[evP,List.map_cons,Ri t xs]
def dH (P:Program) (n:Nat) (mu:Bool) (t:Tp) (h:Hp):Op->qE
 | .move x => .ok (ev t x) []
 | .assign x => .ok (ev t x) []
 | .pick c a b=>eu (Ih (ev t c) (ev t a) (ev t b))
 | .alloc e=>allocN n (jk P e)
 | .box _ x=>aK7 n (ev t x).cells
 | .load ty x=>eu (uM P h ty (ev t x))
 | .store ty x y=>UO (qo P h ty (ev t x) (ev t y).cells)
 | .nilCheck x=>eu (QF h (ev t x))
 | .indexAddr ty x i=>eu (fQ P h ty (ev t x) (ev t i))
 | .fieldAddr ty x f=>eu (o9 P h ty f (ev t x))
 | .field ty x f=>eu (fieldN P ty f (ev t x))
 | .index ty x i=>eu (Ba P ty (ev t x) (ev t i))
 | .slice ty x lo hi mx=>eu (qp P h ty (ev t x) (Vb t lo) (Vb t hi) (Vb t mx))
 | .binOp op ty x y _=>eu (kV P h op ty (ev t x) (ev t y))
 | .unOp op _ x=>eu (unR op (ev t x))
 | .convert src dst x=>eu (Ji P src dst (ev t x))
 | .extract x i=>eu (FP (ev t x) i)
 | .makeFunc f xs ys => .ok (.fn f (evL t xs.toList) (evL t ys.toList)) []
 | .build ty ps=>eu (LP P ty (evP t ps.toList) (jk P ty))
 | .buildSlice ty len ps=>qg (fK P n mu ty len (evP t ps.toList))
 | .makeSlice ty l c=>qg (jG P n ty (ev t l) (ev t c))
 | .call ⟨.builtin b,args,tys⟩=>jd P n mu h b tys.toList (evL t args.toList)
 | .call ⟨.value x,args,_⟩=>Vp (evL t args.toList) (ev t x)
 | _ => .no
end Go.Proofs.Aw
namespace Go.Proofs.Aw
open Go
section
variable {P:Program} {n:Nat} {mu:Bool} {t:Tp} {h:Hp}
theorem fH {x:Option AV} {r:AV} {d:Dl} (he:eu x = .ok r d):x=some r/\d=[]:=by
 cases x with
 | none=>cases he
 | some v=>cases he;exact⟨rfl,rfl⟩
theorem oW {x:Option AV} {f:FuncId} {a:List AV} (he:eu x = .call f a):False:=by cases x<;>cases he
theorem zq {x:Option (AV×Dl)} {r:AV} {d:Dl} (he:qg x = .ok r d):x=some (r,d):=by
 cases x with
 | none=>cases he
 | some v=>obtain⟨v,e⟩:=v;cases he;rfl
theorem xM {x:Option (AV×Dl)} {f:FuncId} {a:List AV} (he:qg x = .call f a):False:=by
 cases x with
 | none=>cases he
 | some v=>obtain⟨v,e⟩:=v;cases he
theorem af4 {x:Option Dl} {r:AV} {d:Dl} (he:UO x = .ok r d):x=some d/\r = .sc undef:=by
 cases x with
 | none=>cases he
 | some v=>cases he;exact⟨rfl,rfl⟩
theorem QN {x:Option Dl} {f:FuncId} {a:List AV} (he:UO x = .call f a):False:=by cases x<;>cases he
theorem Ud {b:Option Bool} {z:Nat} {cs:List AV} {off:Nat} {v:AV} {K:AV->Prop} (he:PU b z cs off=some v) (hk:K v):rdK b z cs off K:=by
 unfold PU at he
 split at he
 ·split at he
  ·rename_i hc;cases he;exact⟨hc.1,hc.2,hk⟩
  ·cases he
 ·simp only[rdK,he];exact hk
 ·cases he
theorem UM {ty:TypeId} {x v:AV} {K:AV->Prop} (he:uM P h ty x=some v) (hk:K v):Ce P h ty x K:=by
 unfold uM at he
 split at he
 ·rename_i m off
  unfold Ce
  simp only
  cases hg:hget h m with
  | none=>rw[hg]at he;cases he
  | some cs=>rw[hg]at he;exact Ud he hk
 ·exact Ud he hk
 ·cases he
theorem Zh {ty:TypeId} {x y:AV} {d:Dl} {K:Dl->Prop} (he:qo P h ty x y.cells=some d) (hk:K d):Eh P h ty x y K:=by
 unfold qo at he
 split at he
 ·rename_i _ m off
  unfold Eh
  simp only
  cases hg:hget h m with
  | none=>rw[hg]at he;cases he
  | some cs =>
   rw[hg]at he
   simp only[wrN]at he
   split at he
   ·rename_i hc;cases he;exact⟨hc.1,hc.2.1,hc.2.2.1,hc.2.2.2,hk⟩
   ·cases he
 ·cases he
theorem QY {ty:TypeId} {x i v:AV} {K:AV->Prop} (he:fQ P h ty x i=some v) (hk:K v):ng P h ty x i K:=by
 unfold fQ at he
 split at he
 ·rename_i m off k j
  unfold ng
  simp only
  cases ha:lJ P ty with
  | none=>rw[ha]at he;cases he
  | some p =>
   obtain⟨len,z⟩:=p
   rw[ha]at he
   simp only[iaP]at he
   split at he
   ·rename_i hc;cases he;exact⟨hc.1,hc.2.1,hc.2.2,hk⟩
   ·cases he
 ·unfold ng
  simp only
  cases ha:lJ P ty with
  | none=>rw[ha]at he;cases he
  | some p =>
   obtain⟨len,z⟩:=p
   rw[ha]at he
   simp only[iaI]at he
   split at he
   ·rename_i hc;cases he;exact⟨hc.1,hc.2,hk⟩
   ·cases he
 ·unfold ng
  simp only
  cases ha:jU P ty with
  | none=>rw[ha]at he;cases he
  | some p =>
   obtain⟨len,z⟩:=p
   rw[ha]at he
   simp only[iaS]at he
   split at he
   ·rename_i hc;cases he;exact⟨hc.1,hc.2.1,hc.2.2.1,hc.2.2.2,hk⟩
   ·cases he
 ·unfold ng
  simp only
  cases ha:jU P ty with
  | none=>rw[ha]at he;cases he
  | some p =>
   obtain⟨len,z⟩:=p
   rw[ha]at he
   simp only[iaR]at he
   split at he
   ·rename_i hc
    refine⟨hc.1,hc.2,?_⟩
    rename_i es _ _ j
    cases hg:es[j.toNat]? with
    | none=>rw[hg]at he;cases he
    | some el=>rw[hg]at he;cases he;exact hk
   ·cases he
 ·cases he
theorem Lc {ty:TypeId} {x v:AV} {f:Nat} {K:AV->Prop} (he:o9 P h ty f x=some v) (hk:K v):pg P h ty x f K:=by
 unfold o9 at he
 unfold pg
 cases hr:uz P ty with
 | none=>rw[hr]at he;cases he
 | some l =>
  rw[hr]at he
  simp only at he ⊢
  cases hl:l[f]? with
  | none=>rw[hl]at he;cases he
  | some p =>
   obtain⟨o,z⟩:=p
   rw[hl]at he
   simp only[faO]at he ⊢
   split at he
   ·split at he
    ·rename_i hc;cases he;exact⟨hc,hk⟩
    ·cases he
   ·cases he;exact hk
   ·cases he
theorem aj8 {ty:TypeId} {x v:AV} {f:Nat} {K:AV->Prop} (he:fieldN P ty f x=some v) (hk:K v):FN P ty x f K:=by
 unfold fieldN at he
 split at he
 ·split at he
  ·rename_i l bs hr hb
   unfold FN
   rw[hr,hb]
   simp only
   cases hl:l[f]? with
   | none=>rw[hl]at he;simp[fdO]at he
   | some p =>
    obtain⟨o,z⟩:=p
    cases hbf:bs[f]? with
    | none=>rw[hl,hbf]at he;simp[fdO]at he
    | some b=>rw[hl,hbf]at he;exact Ud he hk
  ·cases he
 ·cases he
theorem ah8 {ty:TypeId} {x i v:AV} {K:AV->Prop} (he:Ba P ty x i=some v) (hk:K v):Bc P ty x i K:=by
 unfold Ba at he
 split at he
 ·unfold Bc
  simp only
  cases ha:lJ P ty with
  | none=>rw[ha]at he;cases he
  | some p =>
   obtain⟨len,z⟩:=p
   rw[ha]at he
   simp only at he ⊢
   split at he
   ·rename_i hc;exact⟨hc.1,hc.2,Ud he hk⟩
   ·cases he
 ·unfold Bc
  simp only
  split at he
  ·rename_i s k j hc
   refine⟨hc.1,hc.2,?_⟩
   cases hb:s[j.toNat]? with
   | none=>rw[hb]at he;cases he
   | some b=>rw[hb]at he;simp at he;subst he;exact hk
  ·cases he
 ·cases he
theorem jW {d:Nat} {x:Option AV} {l:Nat} {K:Nat->Prop} (he:BC d x=some l) (hk:K l):sU d x K:=by
 unfold BC at he
 split at he
 ·cases he;exact hk
 ·split at he
  ·rename_i hc;cases he;exact⟨hc,hk⟩
  ·cases he
 ·cases he
theorem Zr {ty:TypeId} {x v:AV} {lo hi mx:Option AV} {K:AV->Prop} (he:qp P h ty x lo hi mx=some v) (hk:K v):oM P h ty x lo hi mx K:=by
 unfold qp at he
 split at he
 ·unfold slN at he
  split at he
  ·rename_i l hh hl hhi
   split at he
   ·split at he
    ·rename_i hs
     split at he
     ·rename_i hc
      cases he
      unfold oM
      simp only[hs]
      exact⟨hc.1,jW hl (jW hhi ⟨hc.2.1,hc.2.2,hk⟩)⟩
     ·cases he
    ·cases he
   ·split at he
    ·rename_i hs
     split at he
     ·rename_i hc
      cases he
      unfold oM
      simp only[hs]
      exact⟨hc.1,hc.2.1,jW hl (jW hhi ⟨hc.2.2.1,hc.2.2.2,hk⟩)⟩
     ·cases he
    ·cases he
   ·split at he
    ·rename_i ha
     split at he
     ·rename_i hc
      cases he
      unfold oM
      simp only[ha]
      refine⟨hc.1,trivial,jW hl (jW (d:=_) (l:=hh) ?_ ⟨hc.2.1,hc.2.2,hk⟩)⟩
      simpa only[xx,ha]using hhi
     ·cases he
    ·cases he
   ·split at he
    ·rename_i hc
     cases he
     unfold oM
     simp only
     exact⟨hc.1,trivial,jW hl (jW hhi ⟨hc.2.1,hc.2.2,hk⟩)⟩
    ·cases he
   ·split at he
    ·rename_i hs
     split at he
     ·rename_i hc
      cases he
      unfold oM
      simp only[hs]
      exact⟨trivial,jW hl (jW hhi ⟨hc.1,hc.2,hk⟩)⟩
     ·cases he
    ·cases he
   ·cases he
  ·cases he
 ·rename_i m
  cases hi with
  | none=>simp only[ay1]at he;split at he<;>simp_all
  | some hi =>
   simp only at he
   unfold ay1 at he
   split at he
   ·rename_i l hh mm hl hhi hmm
    split at he
    ·split at he
     ·rename_i hs
      split at he
      ·rename_i hc
       cases he
       unfold oM
       simp only[hs]
       exact⟨hc.1,jW hl (jW hhi (jW hmm ⟨hc.2.1,hc.2.2.1,hc.2.2.2,hk⟩))⟩
      ·cases he
     ·cases he
    ·split at he
     ·rename_i hs
      split at he
      ·rename_i hc
       cases he
       unfold oM
       simp only[hs]
       exact⟨hc.1,hc.2.1,jW hl (jW hhi (jW hmm ⟨hc.2.2.1,hc.2.2.2.1,hc.2.2.2.2,hk⟩))⟩
      ·cases he
     ·cases he
    ·cases he
   ·cases he
theorem He {ty:TypeId} {len:Nat} {ps:List (Nat×AV)} {r:AV} {d:Dl} {K:AV->Dl->Prop} (he:fK P n mu ty len ps=some (r,d)) (hk:K r d):ny P n mu ty len ps K:=by
 unfold fK at he
 unfold ny
 split at he
 ·rename_i hs
  split at he
  ·rename_i hc
   rw[hs]
   refine⟨hc.1,hc.2.1,hc.2.2.1,hc.2.2.2,?_⟩
   cases mu<;>(simp only at he ⊢;cases he;exact hk)
  ·cases he
 ·cases he
theorem zU {z b:Nat} {fs:List (List AV)} {s r:AV} {d:Dl} {K:AV->Dl->Prop} (he:apO n mu z b fs (jX z s)=some (r,d)) (hk:K r d):match(generalizing:=false) jX z s with
  | some es=>(es.length+fs.length)*b<=140737488355328/\es.length+fs.length<=9223372036854775807 /\
   (match(generalizing:=false) mu with
   | false=>K (.ro z (es++fs) false) []
   | true=>fs≠[]/\K (.sl (n,0) z 0 (es.length+fs.length) true) [((n,0),some (es.flatten++fs.flatten))])
  | none=>False:=by
 cases hb:jX z s with
 | none=>rw[hb]at he;simp[apO]at he
 | some es =>
  rw[hb]at he
  simp only[apO]at he
  split at he
  ·rename_i hc3
   refine⟨hc3.1,hc3.2.1,?_⟩
   cases mu with
   | false=>simp only at he ⊢;cases he;exact hk
   | true=>simp only at he ⊢;cases he;exact⟨hc3.2.2 rfl,hk⟩
  ·cases he
theorem Yh {ty xt:TypeId} {s x r:AV} {d:Dl} {K:AV->Dl->Prop} (he:lK P n h mu ty xt s x=some (r,d)) (hk:K r d):zT P n h mu ty xt s x K:=by
 unfold lK at he
 unfold zT
 split at he
 ·rename_i e z hs
  split at he
  ·rename_i hc
   rw[hs]
   refine⟨hc.1,hc.2,?_⟩
   cases hf:fA h z x with
   | none=>rw[hf]at he;simp[PX]at he
   | some fs =>
    rw[hf]at he
    cases s with
    | sl m z' off len own =>
     simp only[PX]at he
     split at he
     ·rename_i hc2
      simp only
      refine⟨hc2.1,hc2.2,?_⟩
      cases hg:hget h m with
      | none=>rw[hg]at he;cases he
      | some cs =>
       rw[hg]at he
       simp only[apS]at he ⊢
       split at he
       ·rename_i hc3;cases he;exact⟨hc3.1,hc3.2.1,hc3.2.2.1,hc3.2.2.2,hk⟩
       ·cases he
     ·cases he
    | top=>exact zU (s := .top) (n:=n) (mu:=mu) (fs:=fs) (b:=dA P e) (z:=z) he hk
    | sc a1=>exact zU (s := .sc a1) (n:=n) (mu:=mu) (fs:=fs) (b:=dA P e) (z:=z) he hk
    | agg a1=>exact zU (s := .agg a1) (n:=n) (mu:=mu) (fs:=fs) (b:=dA P e) (z:=z) he hk
    | tup a1=>exact zU (s := .tup a1) (n:=n) (mu:=mu) (fs:=fs) (b:=dA P e) (z:=z) he hk
    | ptr a1 a2=>exact zU (s := .ptr a1 a2) (n:=n) (mu:=mu) (fs:=fs) (b:=dA P e) (z:=z) he hk
    | ip a1 a2=>exact zU (s := .ip a1 a2) (n:=n) (mu:=mu) (fs:=fs) (b:=dA P e) (z:=z) he hk
    | ro a1 a2 a3=>exact zU (s := .ro a1 a2 a3) (n:=n) (mu:=mu) (fs:=fs) (b:=dA P e) (z:=z) he hk
    | fn a1 a2 a3=>exact zU (s := .fn a1 a2 a3) (n:=n) (mu:=mu) (fs:=fs) (b:=dA P e) (z:=z) he hk
    | ifc a1 a2=>exact zU (s := .ifc a1 a2) (n:=n) (mu:=mu) (fs:=fs) (b:=dA P e) (z:=z) he hk
  ·cases he
 ·cases he
theorem aB9 {c a b v:AV} {K:AV->Prop} (he:Ih c a b=some v) (hk:K v):NP c a b K:=by
 unfold Ih at he
 split at he<;>first | (cases he;simp only[NP];exact⟨fun _=>hk,fun e=>(nomatch e)⟩) | (cases he;simp only[NP];exact⟨fun e=>(nomatch e),fun _=>hk⟩) | cases he
theorem ba8 {x v:AV} {K:AV->Prop} (he:QF h x=some v) (hk:K v):ba9 h x K:=by
 unfold QF at he
 split at he
 ·split at he
  ·rename_i hc;cases he;exact⟨hc,hk⟩
  ·cases he
 ·cases he;exact hk
 ·cases he;exact hk
 ·cases he
theorem RP {b:Builtin} {tys:List TypeId} {args:List AV} {r:AV} {d:Dl} {K:AV->Dl->Prop} (he:jd P n mu h b tys args = .ok r d) (hk:K r d):kF P n mu b h tys args K:=by
 unfold jd at he
 split at he
 ·obtain⟨h1,rfl⟩:=fH he
  unfold kF
  simp only
  rename_i ty _ x _
  cases hl:uN P h ty x with
  | none=>rw[hl]at h1;cases h1
  | some m=>rw[hl]at h1;cases h1;exact hk
 ·obtain⟨h1,rfl⟩:=fH he
  unfold kF wW;simp only[h1];exact hk
 ·obtain⟨h1,rfl⟩:=fH he
  unfold kF wW;simp only[h1];exact hk
 ·unfold kF
  exact Yh (zq he) hk
 ·unfold kF
  simp only[zq he]
  exact hk
 ·obtain⟨g1,rfl⟩:=fH he
  unfold kF
  split<;>first
   | (simp only[Ry,reduceCtorEq]at g1;done)
   | (unfold wW;simp only[g1];exact hk)
theorem Ha {b:Builtin} {tys:List TypeId} {args:List AV} {f:FuncId} {a:List AV} (he:jd P n mu h b tys args = .call f a):False:=by
 unfold jd at he
 split at he
 ·exact oW he
 ·exact oW he
 ·exact oW he
 ·exact xM he
 ·exact xM he
 ·exact oW he
theorem TJ {op:Op} {r:AV} {d:Dl} {K:AV->Dl->Prop} (he:dH P n mu t h op = .ok r d) (hk:K r d):nK P n mu op t h K:=by
 unfold dH at he
 split at he
 ·cases he;exact hk
 ·cases he;exact hk
 ·obtain⟨h1,rfl⟩:=fH he;exact aB9 (K:=fun v=>K v []) h1 hk
 ·rename_i e
  simp only[nK]
  cases hz:jk P e with
  | none=>rw[hz]at he;cases he
  | some cs=>rw[hz]at he;cases he;exact hk
 ·simp only[aK7]at he
  split at he
  ·rename_i hc;cases he;exact⟨hc,hk⟩
  ·cases he
 ·obtain⟨h1,rfl⟩:=fH he;exact UM (K:=fun v=>K v []) h1 hk
 ·obtain⟨h1,rfl⟩:=af4 he;exact Zh (K:=fun d=>K (.sc undef) d) h1 hk
 ·obtain⟨h1,rfl⟩:=fH he;exact ba8 (K:=fun v=>K v []) h1 hk
 ·obtain⟨h1,rfl⟩:=fH he;exact QY (K:=fun v=>K v []) h1 hk
 ·obtain⟨h1,rfl⟩:=fH he;exact Lc (K:=fun v=>K v []) h1 hk
 ·obtain⟨h1,rfl⟩:=fH he;exact aj8 (K:=fun v=>K v []) h1 hk
 ·obtain⟨h1,rfl⟩:=fH he;exact ah8 (K:=fun v=>K v []) h1 hk
 ·obtain⟨h1,rfl⟩:=fH he
  rw[Rj,Rj,Rj]at h1
  exact Zr (K:=fun v=>K v []) h1 hk
 ·obtain⟨h1,rfl⟩:=fH he;simp only[nK,h1,wW];exact hk
 ·obtain⟨h1,rfl⟩:=fH he;simp only[nK,h1,wW];exact hk
 ·obtain⟨h1,rfl⟩:=fH he
  simp only[Ji]at h1
  split at h1
  ·rename_i hc;exact⟨hc,by simp only[h1,wW];exact hk⟩
  ·cases h1
 ·obtain⟨h1,rfl⟩:=fH he
  rename_i x i
  simp only[nK]
  unfold FP at h1
  split at h1
  ·rename_i vs heq
   simp only[heq,h1,wW];exact hk
  ·cases h1
 ·cases he
  simp only[Ld]at hk
  exact hk
 ·obtain⟨h1,rfl⟩:=fH he
  rename_i ty ps
  rw[Ri]at h1
  simp only[nK]
  cases hz:jk P ty with
  | none=>rw[hz]at h1;cases h1
  | some cs =>
   rw[hz]at h1
   simp only[LP]at h1
   split at h1
   ·rename_i hc
    simp only
    cases hf:qX (placeOf P ty) cs (ps.toList.map fun p=>(p.1,ev t p.2))with
    | none=>rw[hf]at h1;cases h1
    | some cs'=>rw[hf]at h1;cases h1;exact⟨hc,hk⟩
   ·cases h1
 ·rw[Ri]at he
  exact He (zq he) hk
 ·simp only[nK,zq he];exact hk
 ·rw[Ld]at he
  exact RP he hk
 ·unfold Vp at he
  split at he<;>cases he
 ·cases he
theorem Ei {op:Op} {f:FuncId} {args:List AV} {K:AV->Dl->Prop} (he:dH P n mu t h op = .call f args) (hk:an9 P n f args h K):nK P n mu op t h K:=by
 unfold dH at he
 split at he<;>first | cases he | (exact(oW he).elim) | (exact(xM he).elim) | (exact(QN he).elim) | (exact(Ha he).elim) | skip
 ·rename_i e
  cases hz:jk P e with
  | none=>rw[hz]at he;cases he
  | some cs=>rw[hz]at he;cases he
 ·simp only[aK7]at he
  split at he<;>cases he
 ·rename_i x as tys
  unfold Vp at he
  split at he
  ·rename_i g xs ys heq
   cases he
   simp only[nK,heq]
   rw[Ld]at hk
   exact hk
  ·cases he
end
end Go.Proofs.Aw
namespace Go.Proofs.Aw
open Go
def qf (P:Program) (n:Nat) (h:Hp):qE->(AV->Dl->Prop)->Prop
 | .ok r d,K=>K r d
 | .call f args,K=>an9 P n f args h K
 | .no,_=>False
theorem aE4 {P:Program} {n:Nat} {mu:Bool} {t:Tp} {h:Hp} {op:Op} {K:AV->Dl->Prop} (hk:qf P n h (dH P n mu t h op) K):nK P n mu op t h K:=by
 cases he:dH P n mu t h op with
 | no=>rw[he]at hk;exact hk.elim
 | ok r d=>rw[he]at hk;exact TJ he hk
 | call f args=>rw[he]at hk;exact Ei he hk
def Bf (v:AV) (want:Bool) (A B:Prop):Prop :=
 match v with
 | .sc (.bool true)=>match want with | true=>A | false=>B
 | .sc (.bool false)=>match want with | true=>B | false=>A
 | .sc (.tuple _)=>B
 | _=>False
theorem OH {v:AV} {want:Bool} {A B A' B':Prop} (hA:A->A') (hB:B->B') (hk:Bf v want A B):Bf v want A' B':=by
 cases v with
 | sc x=>cases x with
  | bool b=>cases b<;>cases want<;>first | exact hA hk | exact hB hk
  | tuple xs=>exact hB hk
  | _=>exact hk.elim
 | _=>exact hk.elim
theorem ai9 {v:AV} {want:Bool} {A B A':Prop} (hA:A->A') (hk:Bf v want A B):gdK v want A' B:=by
 unfold Bf at hk
 unfold gdK
 split at hk
 ·cases want<;>simp_all
 ·cases want<;>simp_all
 ·exact hk
 ·exact hk.elim
def PS (P:Program) (ms:List Nat) (ops:List Oper):List Oper->(St->Prop)->Tp->Hp->Nat->Prop
 | [],K,t,h,nx=>K ⟨t,h,nx⟩
 | o::l,K,t,h,nx =>
  match o.guard with
  | none=>qf P nx h (dH P nx (o.dst.any ms.contains) t h o.op) fun r d=>PS P ms ops l K (qm o.dst r t) (hap d h) (nx+1)
  | some (j,want)=>Bf (yv ops t j) want
    (qf P nx h (dH P nx (o.dst.any ms.contains) t h o.op) fun r d=>PS P ms ops l K (qm o.dst r t) (hap d h) (nx+1))
    (PS P ms ops l K (qm o.dst (.sc undef) t) h nx)
theorem wS {P:Program} {ms:List Nat} {ops:List Oper} {K:St->Prop}:∀(l:List Oper) (t:Tp) (h:Hp) (nx:Nat),PS P ms ops l K t h nx->vz P ms ops l K ⟨t,h,nx⟩
 | [],_,_,_,hk=>hk
 | o::l,t,h,nx,hk=>by
  unfold PS at hk
  unfold vz
  have go:qf P nx h (dH P nx (o.dst.any ms.contains) t h o.op) (fun r d=>PS P ms ops l K (qm o.dst r t) (hap d h) (nx+1))->nK P nx (o.dst.any ms.contains) o.op t h fun r d=>vz P ms ops l K ⟨qm o.dst r t,hap d h,nx+1⟩:=fun hh=>by
   refine aE4 ?_
   cases he:dH P nx (o.dst.any ms.contains) t h o.op with
   | no=>rw[he]at hh;exact hh.elim
   | ok r d=>rw[he]at hh;exact wS l _ _ _ hh
   | call f args =>
    rw[he]at hh
    obtain⟨r,d,h1,h2,h3⟩:=hh
    exact⟨r,d,h1,h2,wS l _ _ _ h3⟩
  cases hg:o.guard with
  | none=>rw[hg]at hk;exact go hk
  | some jw =>
   obtain⟨j,want⟩:=jw
   rw[hg]at hk
   simp only at hk ⊢
   exact ai9 go (OH id (wS l _ _ _) hk)
def aQ6 (P:Program) (ms:List Nat) (ops l:List Oper) (K:St->Prop) (dst:Option Tmp) (t:Tp) (h:Hp) (nx:Nat) (res:qE):Prop:=qf P nx h res fun r d=>PS P ms ops l K (qm dst r t) (hap d h) (nx+1)
section
variable {P:Program} {ms:List Nat} {ops l:List Oper} {K:St->Prop} {t:Tp} {h:Hp} {nx:Nat} {dst:Option Tmp} {op:Op} {mu:Bool} {ty:TypeId} {pos:String} {es:Array Edge}
theorem kN:PS P ms ops (⟨dst,op,ty,pos,es,none⟩::l) K t h nx=aQ6 P ms ops l K dst t h nx (dH P nx (dst.any ms.contains) t h op):=by unfold aQ6;exact rfl
end
theorem yB {P:Program} {E:Env} {Q:Exit->St->Prop} {t:Tp} {h:Hp} {nx:Nat} {id:Nat} {ops:List Oper} (ms:List Nat) (hf:fits E.N ops=true) (hk:PS P ms ops ops (Q .normal) t h nx):AW P E (.region id ops.toArray false) Q ⟨t,h,nx⟩:=Yr ms hf (wS ops t h nx hk)
def DWn (P:Program) (ms:List Nat) (ops:List Oper) (nx:Nat) (t0:Tp) (h0:Hp) (K:Tp->Hp->Prop):List Oper->List En->Nat->Prop
 | [],es,_=>K (bP (fun _=>true) es t0) (aj (fun _=>true) es h0)
 | o::l,es,bm=>∀mk,zl es o.after.toList=mk->(mk<2 ^ es.length/\(bm &&& mk)=bm) /\
  match o.guard with
  | none=>qf P (nx+es.length) (aj mk.testBit es h0) (dH P (nx+es.length) (o.dst.any ms.contains) (bP mk.testBit es t0) (aj mk.testBit es h0) o.op) fun r d =>
    if eF (nx+es.length) d=true then DWn P ms ops nx t0 h0 K l (⟨o.dst,r,d,mk⟩::es) bm
    else mk+1=2 ^ es.length/\DWn P ms ops nx t0 h0 K l (⟨o.dst,r,d,mk⟩::es) (bm ||| 2 ^ es.length)
  | some (j,want)=>Bf (yv ops (bP mk.testBit es t0) j) want
    (qf P (nx+es.length) (aj mk.testBit es h0) (dH P (nx+es.length) (o.dst.any ms.contains) (bP mk.testBit es t0) (aj mk.testBit es h0) o.op) fun r d =>
     if eF (nx+es.length) d=true then DWn P ms ops nx t0 h0 K l (⟨o.dst,r,d,mk⟩::es) bm
     else mk+1=2 ^ es.length/\DWn P ms ops nx t0 h0 K l (⟨o.dst,r,d,mk⟩::es) (bm ||| 2 ^ es.length))
    (DWn P ms ops nx t0 h0 K l (⟨o.dst,.sc undef,[],mk⟩::es) bm)
def aB2 (P:Program) (ms:List Nat) (ops:List Oper) (nx:Nat) (t0:Tp) (h0:Hp) (K:Tp->Hp->Prop) (l:List Oper) (dst:Option Tmp) (es:List En) (bm mk:Nat) (r:AV) (d:Dl) (fresh:Bool):Prop :=
 if fresh=true then DWn P ms ops nx t0 h0 K l (⟨dst,r,d,mk⟩::es) bm else mk+1=2 ^ es.length/\DWn P ms ops nx t0 h0 K l (⟨dst,r,d,mk⟩::es) (bm ||| 2 ^ es.length)
def ac6 (P:Program) (ms:List Nat) (ops:List Oper) (nx:Nat) (t0:Tp) (h0:Hp) (K:Tp->Hp->Prop) (l:List Oper) (dst:Option Tmp) (es:List En) (bm mk k:Nat) (h:Hp) (res:qE):Prop :=
 qf P k h res fun r d=>aB2 P ms ops nx t0 h0 K l dst es bm mk r d (eF k d)
section
variable {P:Program} {ms:List Nat} {ops l:List Oper} {nx:Nat} {t0:Tp} {h0:Hp} {K:Tp->Hp->Prop} {es:List En} {bm mk k:Nat} {dst:Option Tmp} {op:Op} {mu:Bool} {ty:TypeId} {pos:String} {ed:Array Edge} {o:Oper}
end
end Go.Proofs.Aw
namespace Go.Proofs.Aw
open Go
def Ky (n:Nat) (φ:Nat->Nm) (m:Nm):Nm:=if m.1=n then φ m.2 else m
def zX (n:Nat) (hs:Hp) (m:Nm):Bool:=m.1==n||(hget hs m).isSome
def b57 (P:Program) (rs:List ResultVar) (n:Nat) (φ:Nat->Nm) (hs h':Hp) (r:AV) (e:Exit) (σ:St):Prop :=
 (e = .ret\/e = .normal)/\(xC P σ rs fun vs=>oneOf vs=ren (Ky n φ) r)/\∀m cs,hget h' m=some cs->zX n hs m=true->hget σ.h (Ky n φ m)=some (renL (Ky n φ) cs)
theorem VD {P : Program} {f : FuncId} {fn : Func} {c : Code} {args : List AV} {r : AV} {n : Nat} {hs h0 : Hp} {d : Dl} (φ : Nat -> Nm) (hf : P.funcs[f]? = some fn) (hb : fn.body = some c) (hN : args.length <= fn.ntmps)
    (hsub : ∀ m cs, hget hs m = some cs -> hget h0 m = some cs) (hlt : ∀ m cs, hget hs m = some cs -> m.1 < n /\ nmsL (fun k => Nat.blt k.1 n) cs = true) (hA : nmsL (fun k => Nat.blt k.1 n) args = true)
    (hd1 : ∀ m, m ∈ d.map (·.1) -> m.1 = n \/ (hget hs m).isSome = true) (hd2 : ∀ m, (hget hs m).isSome = true -> m ∈ d.map (·.1))
    (hR : nms (zX n hs) r = true) (hC : ∀ m cs, hget (hap d h0) m = some cs -> zX n hs m = true -> nmsL (zX n hs) cs = true)
    (hφ : ∀ k, (hget (hap d h0) (n, k)).isSome = true -> n < (φ k).1) (hφi : ∀ j k, (hget (hap d h0) (n, j)).isSome = true -> (hget (hap d h0) (n, k)).isSome = true -> φ j = φ k -> j = k)
    (h : ∀ E : Env, E.N = fn.ntmps -> AW P E c (b57 P fn.results.toList n φ hs (hap d h0) r) ⟨slots 0 args, hs, n + 1⟩) : CY P n f args h0 r d := by
  intro C vs hh hL hn
  refine calls_of_wp hf hb ?_
  let C0 : Ctx := { J := C.J, bs := C.bs, live := fun m => (hget hs m).isSome = true, kn := fun m => m.1 < n + 1, mt := C.mt, w := C.w }
  let E : Env := { N := fn.ntmps, w0 := C.w, wr := fun b => ∃ m, (hget hs m).isSome = true /\ b = C.J m, mt0 := C.mt, c0 := C0 }
  have hlen : vs.length = args.length := hL.length.symm
  have hsome : ∀ m, (hget hs m).isSome = true -> C.live m := fun m hm => by
    obtain ⟨cs, hcs⟩ := Option.isSome_iff_exists.1 hm
    exact hh.get (hsub m cs hcs)
  have hslt : ∀ m, (hget hs m).isSome = true -> m.1 < n := fun m hm => by
    obtain ⟨cs, hcs⟩ := Option.isSome_iff_exists.1 hm
    exact (hlt m cs hcs).1
  have sub0 : C.sub C0 id (fun k => Nat.blt k.1 n) := ⟨rfl, fun _ _ h => h, fun m hm _ => by simp only [Nat.blt_eq] at hm; exact Nat.lt_succ_of_lt hm, fun m _ _ hm => ⟨hsome m hm, rfl, rfl⟩⟩
  have hL0 : ConcL C0 args vs := ConcL.ren sub0 args vs hA (by rw [mJ]; exact hL)
  have hH0 : HeapOk C0 hs := by
    refine ⟨fun m => Iff.rfl, fun m cs hg => ?_, fun m m' hm hm' he => hh.inj m m' (hsome m hm) (hsome m' hm') he, fun m hm => hh.mt m (hsome m hm), fun m hm => Nat.lt_succ_of_lt (hslt m hm)⟩
    obtain ⟨arr, ty, ha, hc⟩ := hh.obj m cs (hsub m cs hg)
    refine ⟨arr, ty, ha, fun j c hj => ?_⟩
    obtain ⟨u', hu', hcu'⟩ := hc j c hj
    exact ⟨u', hu', Conc.ren sub0 c u' (jZ (hlt m cs hg).2 hj) (by rw [Ar]; exact hcu')⟩
  have hrel : Rel E ⟨slots 0 args, hs, n + 1⟩ { tmps := vs.toArray ++ Array.replicate (fn.ntmps - vs.toArray.size) undef, defers := [] } C.w := by
    refine ⟨C0, rfl, hH0, ?_, ?_, rfl, fun m hm => hm, ⟨rfl, rfl, rfl, Nat.le_refl _, fun _ _ _ => rfl, fun _ _ => Iff.rfl, fun m hm _ => ⟨m, hm, rfl⟩, Ctx.le.refl _⟩⟩
    · refine BF 0 args vs _ hL0 fun i v hv => ?_
      have hi := (List.getElem?_eq_some_iff.1 hv).1
      rw [Nat.zero_add, Array.getElem?_append_left (by simpa using hi)]
      simpa using hv
    · simp [E]; omega
  refine Code.wp_mono ?_ (h E rfl _ _ hrel)
  rintro e a' w' ⟨σ', ⟨Cb, rfl, hCb⟩, he, hres, hobj⟩
  obtain ⟨us, u, hrun, hcu, hus⟩ := BL hCb.heap hCb.t hres
  have hkn0 : ∀ m, C.live m -> m.1 ≠ n := fun m hm e => hn m.2 (by have := hh.kn m hm; rwa [show m = (n, m.2) from by rw [<- e]] at this)
  have hold : ∀ m, m.1 ≠ n -> (hget hs m).isSome = false -> hget (hap d h0) m = hget h0 m := fun m h1 h2 => aO d h0 m fun hm => by
    rcases hd1 m hm with h3 | h3
    · exact h1 h3
    · rw [h2] at h3; cases h3
  let C' : Ctx := { J := fun m => if m.1 = n then Cb.J (φ m.2) else C.J m, bs := fun m => if m.1 = n then Cb.bs (φ m.2) else C.bs m, live := fun m => (hget (hap d h0) m).isSome = true, kn := fun m => C.kn m \/ m.1 = n,
                    mt := fun b => (C.mt b /\ b < C.w.heap.size) \/ ∃ k, (hget (hap d h0) (n, k)).isSome = true /\ b = Cb.J (φ k), w := Cb.w }
  have lvb : ∀ m, (hget (hap d h0) m).isSome = true -> zX n hs m = true -> Cb.live (Ky n φ m) := fun m hm hp => by
    obtain ⟨cs, hcs⟩ := Option.isSome_iff_exists.1 hm
    exact hCb.heap.get (hobj m cs hcs hp)
  have lvn : ∀ k, (hget (hap d h0) (n, k)).isSome = true -> Cb.live (φ k) := fun k hk => by
    have := lvb (n, k) hk (by simp [zX])
    simpa [Ky] using this
  have lvo : ∀ m, m.1 ≠ n -> (hget hs m).isSome = true -> (hget (hap d h0) m).isSome = true -> Cb.live m /\ Cb.J m = C.J m /\ Cb.bs m = C.bs m := fun m h1 h2 h3 => by
    have := lvb m h3 (by simp [zX, h2])
    rw [show Ky n φ m = m from by simp [Ky, h1]] at this
    exact ⟨this, (hCb.frame.le.live m (Nat.lt_succ_of_lt (hslt m h2)) this).2⟩
  have lvC : ∀ m, m.1 ≠ n -> (hget (hap d h0) m).isSome = true -> C.live m := fun m h1 h3 => by
    cases h2 : (hget hs m).isSome with
    | true => exact hsome m h2
    | false =>
      rw [hold m h1 h2] at h3
      exact (hh.live m).2 h3
  have hsame : ∀ b, b < C.w.heap.size -> (∀ m, (hget hs m).isSome = true -> b ≠ C.J m) -> Cb.w.heap[b]? = C.w.heap[b]? := fun b hb hne => hCb.frame.same b hb (fun ⟨m, hm, e⟩ => hne m hm e)
  have le : C.le C' := by
    refine ⟨hCb.frame.size, fun b hb hm => hCb.frame.le.same b hb hm, fun b hb hm => ?_, fun _ h => .inl h, fun m hk hl => ?_, fun m hk hl cs ty hc => ?_⟩
    · rcases hm with h1 | ⟨k, hk, h1⟩
      · exact h1.1
      · exact (hCb.frame.mt b hb).1 (by rw [h1]; exact hCb.heap.mt _ (lvn k hk))
    · have hm : m.1 ≠ n := fun e => hn m.2 (by rwa [show m = (n, m.2) from by rw [<- e]] at hk)
      exact ⟨lvC m hm hl, by simp [C', hm], by simp [C', hm]⟩
    · have hm : m.1 ≠ n := fun e => hn m.2 (by rwa [show m = (n, m.2) from by rw [<- e]] at hk)
      have hlC := lvC m hm hl
      have hb : C.J m < C.w.heap.size := hh.lt hlC
      cases h2 : (hget hs m).isSome with
      | true => exact hCb.frame.le.own m (Nat.lt_succ_of_lt (hslt m h2)) (lvo m hm h2 hl).1 cs ty hc
      | false =>
        refine ⟨cs, ty, (hsame _ hb fun m' hm' e => ?_).trans hc, rfl⟩
        have := hh.inj m m' hlC (hsome m' hm') e
        subst this
        rw [h2] at hm'; cases hm'
  have sub : Cb.sub C' (Ky n φ) (zX n hs) := by
    refine ⟨rfl, fun b hb hm => ?_, fun m hp _ => ?_, fun m hp hk hl => ?_⟩
    · rcases hm with h1 | ⟨k, hk, h1⟩
      · exact (hCb.frame.mt b h1.2).2 h1.1
      · rw [h1]; exact hCb.heap.mt _ (lvn k hk)
    · simp only [zX, Bool.or_eq_true, beq_iff_eq] at hp
      rcases hp with h1 | h1
      · exact .inr h1
      · exact .inl (hh.kn m (hsome m h1))
    · refine ⟨lvb m hl hp, ?_⟩
      by_cases h1 : m.1 = n
      · simp [C', Ky, h1]
      · simp only [zX, Bool.or_eq_true, beq_iff_eq] at hp
        have h2 := hp.resolve_left h1
        simp only [C', Ky, h1, if_false]
        exact ⟨(lvo m h1 h2 hl).2.1.symm, (lvo m h1 h2 hl).2.2.symm⟩
  have hcr : Conc C' r u := Conc.ren sub _ u hR (by rw [<- hus]; exact hcu)
  have hpost : Post C n h0 r d u C' := by
    refine ⟨le, fun _ => Iff.rfl, ⟨fun m => Iff.rfl, fun m cs hg => ?_, fun m m' hm hm' he => ?_, fun m hm => ?_, fun m hm => ?_⟩, hcr, fun b hb hne => ?_, fun b hb => ?_, hCb.frame.os, hCb.frame.tape, hCb.frame.output, fun m hm => ?_, fun m hm => ?_⟩
    · cases hp : zX n hs m with
      | true =>
        obtain ⟨arr, ty, ha, hc⟩ := hCb.heap.obj _ _ (hobj m cs hg hp)
        have hJ : C'.J m = Cb.J (Ky n φ m) := by
          by_cases h1 : m.1 = n
          · simp [C', Ky, h1]
          · simp only [zX, Bool.or_eq_true, beq_iff_eq] at hp
            simp only [C', Ky, h1, if_false]
            exact (lvo m h1 (hp.resolve_left h1) (by rw [hg]; rfl)).2.1.symm
        have hbs : C'.bs m = Cb.bs (Ky n φ m) := by
          by_cases h1 : m.1 = n
          · simp [C', Ky, h1]
          · simp only [zX, Bool.or_eq_true, beq_iff_eq] at hp
            simp only [C', Ky, h1, if_false]
            exact (lvo m h1 (hp.resolve_left h1) (by rw [hg]; rfl)).2.2.symm
        refine ⟨arr, ty, by rw [hJ]; exact ha, fun j c hj => ?_⟩
        obtain ⟨u', hu', hcu'⟩ := hc j _ (qO _ cs j c hj)
        exact ⟨u', by rw [hbs]; exact hu', Conc.ren sub c u' (jZ (hC m cs hg hp) hj) hcu'⟩
      | false =>
        simp only [zX, Bool.or_eq_false_iff, beq_eq_false_iff_ne, ne_eq] at hp
        have hg' := hg
        rw [hold m hp.1 hp.2] at hg'
        have hl := hh.get hg'
        obtain ⟨arr, ty, ha, hc⟩ := hh.obj m cs hg'
        refine ⟨arr, ty, ?_, fun j c hj => ?_⟩
        · simp only [C', hp.1, if_false]
          refine (hsame _ (hh.lt hl) fun m' hm' e => ?_).trans ha
          have := hh.inj m m' hl (hsome m' hm') e
          subst this
          rw [hp.2] at hm'; cases hm'
        · obtain ⟨u', hu', hcu'⟩ := hc j c hj
          exact ⟨u', by simp only [C', hp.1, if_false]; exact hu', hcu'.mono le⟩
    · have oldJ : ∀ m, m.1 ≠ n -> (hget (hap d h0) m).isSome = true -> ∀ k, (hget (hap d h0) (n, k)).isSome = true -> Cb.J (φ k) = C.J m -> False := fun m h1 h3 k hk e => by
        cases h2 : (hget hs m).isSome with
        | true =>
          obtain ⟨l1, e1, _⟩ := lvo m h1 h2 h3
          have := hCb.heap.inj _ _ (lvn k hk) l1 (by rw [e, e1])
          have h4 := hφ k hk
          have h5 := hslt m h2
          rw [this] at h4
          omega
        | false =>
          have hlC := lvC m h1 h3
          have hb := hh.lt hlC
          obtain ⟨m', hm', e'⟩ := hCb.frame.wr _ (lvn k hk) (by rw [e]; exact hb)
          have := hh.inj m m' hlC (hsome m' hm') (by rw [<- e, e'])
          subst this
          rw [h2] at hm'; cases hm'
      by_cases h1 : m.1 = n <;> by_cases h2 : m'.1 = n
      · have hm1 : (hget (hap d h0) (n, m.2)).isSome = true := by rw [show (n, m.2) = m from by rw [<- h1]]; exact hm
        have hm2 : (hget (hap d h0) (n, m'.2)).isSome = true := by rw [show (n, m'.2) = m' from by rw [<- h2]]; exact hm'
        simp only [C', h1, h2, if_true] at he
        have e1 := hCb.heap.inj _ _ (lvn _ hm1) (lvn _ hm2) he
        exact Prod.ext (h1.trans h2.symm) (hφi _ _ hm1 hm2 e1)
      · have hm1 : (hget (hap d h0) (n, m.2)).isSome = true := by rw [show (n, m.2) = m from by rw [<- h1]]; exact hm
        simp only [C', h1, h2, if_true, if_false] at he
        exact (oldJ m' h2 hm' _ hm1 he).elim
      · have hm2 : (hget (hap d h0) (n, m'.2)).isSome = true := by rw [show (n, m'.2) = m' from by rw [<- h2]]; exact hm'
        simp only [C', h1, h2, if_true, if_false] at he
        exact (oldJ m h1 hm _ hm2 he.symm).elim
      · simp only [C', h1, h2, if_false] at he
        exact hh.inj m m' (lvC m h1 hm) (lvC m' h2 hm') he
    · by_cases h1 : m.1 = n
      · have hm1 : (hget (hap d h0) (n, m.2)).isSome = true := by rw [show (n, m.2) = m from by rw [<- h1]]; exact hm
        simp only [C', h1, if_true]
        exact .inr ⟨m.2, hm1, rfl⟩
      · simp only [C', h1, if_false]
        exact .inl ⟨hh.mt m (lvC m h1 hm), hh.lt (lvC m h1 hm)⟩
    · by_cases h1 : m.1 = n
      · exact .inr h1
      · exact .inl (hh.kn m (lvC m h1 hm))
    · exact hsame b hb fun m hm => hne m (hd2 m hm) (hsome m hm)
    · constructor
      · rintro (h1 | ⟨k, hk, h1⟩)
        · exact h1.1
        · exact (hCb.frame.mt b hb).1 (by rw [h1]; exact hCb.heap.mt _ (lvn k hk))
      · intro h1; exact .inl ⟨h1, hb⟩
    · by_cases h1 : m.1 = n
      · have hm1 : (hget (hap d h0) (n, m.2)).isSome = true := by rw [show (n, m.2) = m from by rw [<- h1]]; exact hm
        simp only [C', h1, if_true]
        rcases Nat.lt_or_ge (Cb.J (φ m.2)) C.w.heap.size with h2 | h2
        · obtain ⟨m', hm', e'⟩ := hCb.frame.wr _ (lvn _ hm1) h2
          exact .inr (.inr ⟨m', hd2 m' hm', hsome m' hm', e'⟩)
        · exact .inr (.inl h2)
      · exact .inl ⟨lvC m h1 hm, by simp only [C', h1, if_false]⟩
    · rcases hd1 m hm with h1 | h1
      · exact .inr h1
      · exact .inl (hsome m h1)
  rcases he with rfl | rfl
  · exact ⟨hCb.defers, u, hrun, u, C', rfl, rfl, hpost⟩
  · exact ⟨hCb.defers, u, hrun, u, C', rfl, rfl, hpost⟩
end Go.Proofs.Aw
namespace Go.Proofs.Aw
open Go
variable {P:Program} {E:Env} {Q:Exit->St->Prop} {σ σ':St}
theorem VG {c:Code} (h:(∀m,E.c0.kn m->m.1<σ.nx)->AW P E c Q σ):AW P E c Q σ:=fun a w hr=>by
 obtain⟨C,rfl,hC⟩:=hr
 exact h (fun m hm=>hC.kn m (hC.frame.le.kn m hm)) a C.w ⟨C,rfl,hC⟩
def Ctx.named (C:Ctx) (f:Nm->Nm) (h:Hp) (nx:Nat):Ctx where
 J:=fun m=>C.J (f m)
 bs:=fun m=>C.bs (f m)
 live:=fun m=>(hget h m).isSome=true
 kn:=fun m=>m.1<nx
 mt:=C.mt
 w:=C.w
theorem L8 (f : Nm -> Nm) {k0 : Nat} (hb : ∀ m, E.c0.kn m -> m.1 < k0) (hf : ∀ m : Nm, m.1 < k0 -> f m = m) (hk0 : k0 <= σ'.nx)
    (ht : ∀ i, dX σ'.t i = .top \/ (nms (fun m => Nat.blt m.1 σ'.nx) (dX σ'.t i) = true /\ dX σ.t i = ren f (dX σ'.t i)))
    (hh : ∀ m cs, hget σ'.h m = some cs -> nmsL (fun m => Nat.blt m.1 σ'.nx) cs = true /\ m.1 < σ'.nx /\ hget σ.h (f m) = some (renL f cs))
    (hinj : ∀ m m', (hget σ'.h m).isSome = true -> (hget σ'.h m').isSome = true -> f m = f m' -> m = m') : wZ E σ σ' := fun a w hr => by
  obtain ⟨C, rfl, hC⟩ := hr
  have hlive : ∀ m, (hget σ'.h m).isSome = true -> C.live (f m) := fun m hm => by
    obtain ⟨cs, hcs⟩ := Option.isSome_iff_exists.1 hm
    exact hC.heap.get (hh m cs hcs).2.2
  have hsub : C.sub (C.named f σ'.h σ'.nx) f (fun m => Nat.blt m.1 σ'.nx) :=
    { w := rfl, mt := fun b _ h => h, kn := fun m hp _ => (by simpa using hp : m.1 < σ'.nx), live := fun m _ _ hl => ⟨hlive m hl, rfl, rfl⟩ }
  refine ⟨C.named f σ'.h σ'.nx, rfl, ?_⟩
  have hcell : ∀ m cs, hget σ'.h m = some cs -> aq4 (C.named f σ'.h σ'.nx) (C.J (f m)) (C.bs (f m)) cs := fun m cs hcs => by
    obtain ⟨h1, _, h3⟩ := hh m cs hcs
    obtain ⟨arr, ty, h4, h5⟩ := hC.heap.obj _ _ h3
    refine ⟨arr, ty, h4, fun j c hj => ?_⟩
    obtain ⟨u, hu, hc⟩ := h5 j _ (qO f cs j c hj)
    exact ⟨u, hu, Conc.ren hsub c u (jZ h1 hj) hc⟩
  exact {
    heap := { live := fun n => Iff.rfl, obj := hcell, inj := fun n m hn hm he => hinj n m hn hm (hC.heap.inj _ _ (hlive n hn) (hlive m hm) he), mt := fun n hn => hC.heap.mt _ (hlive n hn),
              kn := fun n hn => by
                obtain ⟨cs, hcs⟩ := Option.isSome_iff_exists.1 hn
                exact (hh n cs hcs).2.1 }
    t := fun i => by
      rcases ht i with h | ⟨h1, h2⟩
      · rw [h]; simp only [Conc]
      · have := hC.t i
        rw [h2] at this
        exact Conc.ren hsub _ _ h1 this
    size := hC.size
    defers := hC.defers
    kn := fun m hm => hm
    frame := { os := hC.frame.os, tape := hC.frame.tape, output := hC.frame.output, size := hC.frame.size, same := hC.frame.same, mt := hC.frame.mt,
               wr := fun n hn => hC.frame.wr _ (hlive n hn),
               le := { size := hC.frame.le.size, same := hC.frame.le.same, mt := hC.frame.le.mt, kn := fun i hi => Nat.lt_of_lt_of_le (hb i hi) hk0,
                       live := fun n hn hl => by
                         have hfn := hf n (hb n hn)
                         have := hlive n hl
                         rw [hfn] at this
                         obtain ⟨h1, h2⟩ := hC.frame.le.live n hn this
                         exact ⟨h1, by show C.J (f n) = _; rw [hfn]; exact h2.1, by show C.bs (f n) = _; rw [hfn]; exact h2.2⟩
                       own := fun n hn hl => by
                         have hfn := hf n (hb n hn)
                         have := hlive n hl
                         rw [hfn] at this
                         exact hC.frame.le.own n hn this } } }
end Go.Proofs.Aw
namespace Go.Proofs.Aw
open Go
mutual
def J9:AV->Bool
 | .top=>true
 | .sc _=>true
 | .agg cs=>rJ cs
 | .tup cs=>rJ cs
 | .ro _ [] _=>true
 | _=>false
def rJ:List AV->Bool
 | []=>true
 | v::vs=>J9 v&&rJ vs
end
mutual
theorem Conc.plain {C C':Ctx}:∀(v:AV) (u:Value),J9 v=true->Conc C v u->Conc C' v u
 | .top,_,_,_=>by simp only[Conc]
 | .sc _,_,_,h=>h
 | .agg cs,_,hp,⟨us,e,h⟩=>⟨us,e,ConcL.plain cs _ hp h⟩
 | .tup cs,_,hp,⟨us,e,h⟩=>⟨us,e,ConcL.plain cs _ hp h⟩
 | .ptr _ _,_,hp,_=>by cases hp
 | .sl _ _ _ _ _,_,hp,_=>by cases hp
 | .ip _ _,_,hp,_=>by cases hp
 | .ro _ [] _,_,_,⟨A,cap,h1,h2,h3,_⟩=>⟨A,cap,h1,h2,h3,fun h=>absurd rfl h⟩
 | .ro _ (_::_) _,_,hp,_=>by cases hp
 | .fn _ _ _,_,hp,_=>by cases hp
 | .ifc _ _,_,hp,_=>by cases hp
theorem ConcL.plain {C C':Ctx}:∀(vs:List AV) (us:List Value),rJ vs=true->ConcL C vs us->ConcL C' vs us
 | [],_,_,h=>h
 | v::vs,_,hp,⟨u,us,e,h1,h2⟩=>by
  simp only[rJ,Bool.and_eq_true]at hp
  exact⟨u,us,e,Conc.plain v u hp.1 h1,ConcL.plain vs us hp.2 h2⟩
end
def PQ (h:Hp) (v v':AV):Prop :=
 (v' = .top\/v'=v/\nms (fun _=>false) v=true)\/∃m z off len own fs,v = .sl m z off len own/\0<z/\fA h z v=some fs/\nmsE (fun _=>false) fs=true/\v' = .ro z fs false
def FrzL0 (h:Hp):List AV->List AV->Prop
 | [],vs'=>vs'=[]
 | v::vs,l=>∃v' vs',l=v'::vs'/\PQ h v v'/\FrzL0 h vs vs'
theorem FrzL0.get {h:Hp}:∀{vs vs':List AV},FrzL0 h vs vs'->∀(j:Nat) (c:AV),vs'[j]? = some c->∃d,vs[j]? = some d/\PQ h d c
 | [],_,hf,j,c,hc=>by simp only[FrzL0]at hf;subst hf;simp at hc
 | v::vs,_,⟨v',vs',rfl,h1,h2⟩,0,c,hc=>by simp at hc;subst hc;exact⟨v,rfl,h1⟩
 | v::vs,_,⟨v',vs',rfl,h1,h2⟩,j+1,c,hc=>by simpa using FrzL0.get h2 j c (by simpa using hc)
def aN5 (h:Hp) (v v':AV):Prop:=PQ h v v'\/(∃m off cs fs,v = .ptr m off/\hget h m=some cs/\FrzL0 h cs fs/\v' = .ip fs off)\/∃cs fs,v = .agg cs/\FrzL0 h cs fs/\v' = .agg fs
def Js (h:Hp):List AV->List AV->Prop
 | [],vs'=>vs'=[]
 | v::vs,l=>∃v' vs',l=v'::vs'/\aN5 h v v'/\Js h vs vs'
def Frz (h:Hp) (v v':AV):Prop:=aN5 h v v'\/∃f xs ys xs' ys',v = .fn f xs ys/\Js h xs xs'/\Js h ys ys'/\v' = .fn f xs' ys'
def Yq (h:Hp):List AV->List AV->Prop
 | [],vs'=>vs'=[]
 | v::vs,l=>∃v' vs',l=v'::vs'/\Frz h v v'/\Yq h vs vs'
def Ctx.bare (C:Ctx):Ctx:={ J:=C.J,bs:=C.bs,live:=fun _=>False,kn:=fun _=>False,mt:=fun _=>False,w:=C.w }
theorem Ctx.bare_sub (C:Ctx):C.sub C.bare id (fun _=>false):=⟨rfl,fun _ _ h=>h.elim,fun _ hm=>(nomatch hm),fun _ hm=>(nomatch hm)⟩
theorem N7 {p:Nm->Bool}:∀{es:List (List AV)} {i:Nat} {e:List AV},nmsE p es=true->es[i]? = some e->nmsL p e=true
 | [],i,e,_,h=>by simp at h
 | d::es,0,e,hp,h=>by simp only[nmsE,Bool.and_eq_true]at hp;simp at h;rw[<-h];exact hp.1
 | d::es,i+1,e,hp,h=>by simp only[nmsE,Bool.and_eq_true]at hp;exact N7 hp.2 (by simpa using h)
theorem Bv {C:Ctx} {h:Hp} (hh:HeapOk C h) {v v':AV} {u:Value} (hf:PQ h v v') (hc:Conc C v u):Conc C.bare v' u:=by
 rcases hf with(rfl | ⟨rfl,hn⟩) | ⟨m,z,off,len,own,fs,rfl,h0,he,hn,rfl⟩
 ·simp only[Conc]
 ·exact Conc.ren C.bare_sub _ u hn (by rw[Ar];exact hc)
 ·simp only[fA]at he
  obtain⟨cs,hg,he⟩:=Option.bind_eq_some_iff.1 he
  split at he
  ·rename_i hz
   cases he
   obtain⟨_,_,hl⟩:=hc
   have hlive:=hh.get hg
   obtain⟨cap,o,rfl,hle,hoff,_⟩:=hl hlive
   obtain⟨arr,ty,hb,hcells⟩:=hh.obj _ _ hg
   refine iw.2 ⟨some ⟨C.J m,o,none⟩,cap,by rw[gq],by rw[gq];exact hle,(fun hx=>nomatch hx),fun hne=>⟨_,rfl,?_,(fun hx=>hx),?_⟩⟩
   ·have:=(Array.getElem?_eq_some_iff.1 hb).1
    exact this
   ·have hlen:0<len:=by
     rcases Nat.eq_zero_or_pos len with h1 | h1
     ·subst h1;exact absurd rfl hne
     ·exact h1
    obtain rfl:o=C.bs m+off:=by
     rcases hoff with h1 | h1
     ·exact h1
     ·omega
    refine ConcE.mk fun j e hj => ?_
    have hj':=qZ z len _ j e hj
    have hin:j*z+z<=len*z:=by rw[<-Nat.succ_mul];exact Nat.mul_le_mul_right z hj'.1
    have hel:e.length=z:=by
     rw[hj'.2];simp only[List.length_take,List.length_drop];omega
    refine⟨hel,ConcM.mk fun k c hk => ?_⟩
    have hk':k<z:=by
     have:=(List.getElem?_eq_some_iff.1 hk).1
     omega
    have hcell:cs[off+(j*z+k)]? = some c:=by
     rw[hj'.2,List.getElem?_take,if_pos hk',List.getElem?_drop,List.getElem?_drop]at hk
     exact hk
    obtain⟨u,hu,hcc⟩:=vY (C:=C) (b:=C.J m) (k:=C.bs m) (cs:=cs) ⟨arr,ty,hb,hcells⟩ _ _ hcell
    refine⟨u,?_,Conc.ren C.bare_sub c u (jZ (N7 hn hj) hk) (by rw[Ar];exact hcc)⟩
    simp only[kM]at hu ⊢
    have e1:C.bs m+off+(0+j)*z+(0+k)=C.bs m+(off+(j*z+k)):=by simp only[Nat.zero_add];omega
    rw[e1]
    exact hu
  ·cases he
theorem Gi {C:Ctx} {h:Hp} (hh:HeapOk C h):∀{vs vs':List AV} {us:List Value},FrzL0 h vs vs'->ConcL C vs us->ConcL C.bare vs' us
 | [],_,us,hf,hc=>by simp only[FrzL0]at hf;subst hf;exact hc
 | v::vs,_,us,⟨v',vs',rfl,h1,h2⟩,hc=>by
  obtain⟨u,us',rfl,hc1,hc2⟩:=hc
  exact⟨u,us',rfl,Bv hh h1 hc1,Gi hh h2 hc2⟩
theorem Jj {C:Ctx} {h:Hp} (hh:HeapOk C h) {v v':AV} {u:Value} (hf:aN5 h v v') (hc:Conc C v u):Conc C.bare v' u:=by
 rcases hf with hf | ⟨m,off,cs,fs,rfl,hg,hl,rfl⟩ | ⟨cs,fs,rfl,hl,rfl⟩
 ·exact Bv hh hf hc
 ·simp only[Conc]at hc ⊢
  have hlive:=hh.get hg
  refine⟨⟨C.J m,C.bs m,none⟩,?_,hh.lt hlive,(fun hx=>hx),ConcM.mk fun j c hj => ?_⟩
  ·rw[hc.2.2 hlive,kM]
  ·obtain⟨d,hd,hf⟩:=hl.get j c hj
   obtain⟨u,hu,hcu⟩:=vY (hh.obj m cs hg) j d hd
   rw[Nat.zero_add]
   exact⟨u,hu,Bv hh hf hcu⟩
 ·obtain⟨us,e,hc⟩:=hc
  exact⟨us,e,Gi hh hl hc⟩
theorem yc {C:Ctx} {h:Hp} (hh:HeapOk C h):∀{vs vs':List AV} {us:List Value},Js h vs vs'->ConcL C vs us->ConcL C.bare vs' us
 | [],_,us,hf,hc=>by simp only[Js]at hf;subst hf;exact hc
 | v::vs,_,us,⟨v',vs',rfl,h1,h2⟩,hc=>by
  obtain⟨u,us',rfl,hc1,hc2⟩:=hc
  exact⟨u,us',rfl,Jj hh h1 hc1,yc hh h2 hc2⟩
theorem an6 {C:Ctx} {h:Hp} (hh:HeapOk C h) {v v':AV} {u:Value} (hf:Frz h v v') (hc:Conc C v u):Conc C.bare v' u:=by
 rcases hf with hf | ⟨f,xs,ys,xs',ys',rfl,h1,h2,rfl⟩
 ·exact Jj hh hf hc
 ·simp only[Conc]at hc ⊢
  obtain⟨us,vs,e,c1,c2⟩:=hc
  exact⟨us,vs,e,yc hh h1 c1,yc hh h2 c2⟩
theorem Bz {C:Ctx} {h:Hp} (hh:HeapOk C h):∀{vs vs':List AV} {us:List Value},Yq h vs vs'->ConcL C vs us->ConcL C.bare vs' us
 | [],_,us,hf,hc=>by simp only[Yq]at hf;subst hf;exact hc
 | v::vs,_,us,⟨v',vs',rfl,h1,h2⟩,hc=>by
  obtain⟨u,us',rfl,hc1,hc2⟩:=hc
  exact⟨u,us',rfl,an6 hh h1 hc1,Bz hh h2 hc2⟩
theorem aq6 {P:Program} {n:Nat} {f:FuncId} {args args':List AV} {h:Hp} {r:AV} (hf:Yq h args args') (hr:J9 r=true) (hc:CY P n f args' [] r []):CY P n f args h r []:=by
 intro C vs hh hL hn
 have hbare:HeapOk C.bare []:=⟨fun m=>by simp[Ctx.bare,hget],fun m cs hg=>by simp[hget]at hg,fun m m' hm=>hm.elim,fun m hm=>hm.elim,fun m hm=>hm.elim⟩
 refine(hc C.bare vs hbare (Bz hh hf hL) (fun k hk=>hk)).mono ?_
 rintro e w' ⟨u,C0,rfl,rfl,hp⟩
 have hsame:∀b,b<C.w.heap.size->C0.w.heap[b]? = C.w.heap[b]? := fun b hb=>hp.same b hb (fun m hm=>by simp at hm)
 let C':Ctx:={ J:=C.J,bs:=C.bs,live:=C.live,kn:=fun m=>C.kn m\/m.1=n,mt:=fun b=>C.mt b/\b<C.w.heap.size,w:=C0.w }
 have le:C.le C':=by
  refine⟨hp.le.size,fun b hb _=>hsame b hb,fun b hb hm=>hm.1,fun _ h => .inl h,fun m _ hl=>⟨hl,rfl,rfl⟩,fun m _ hl cs ty hcs => ?_⟩
  have hlt:C.J m<C.w.heap.size:=by
   rcases Nat.lt_or_ge (C.J m) C.w.heap.size with h2 | h2
   ·exact h2
   ·rw[Array.getElem?_eq_none h2]at hcs;cases hcs
  exact⟨cs,ty,(hsame _ hlt).trans hcs,rfl⟩
 refine⟨u,C',rfl,rfl,le,fun _=>Iff.rfl,?_,Conc.plain r u hr hp.val,fun b hb _=>hsame b hb,fun b hb=>⟨fun h=>h.1,fun h=>⟨h,hb⟩⟩,hp.os,hp.tape,hp.output,fun m hl => .inl ⟨hl,rfl⟩,fun m hm=>by simp at hm⟩
 exact hh.mono le (fun _=>Iff.rfl) (fun m hm=>hsame _ (hh.lt hm)) (fun b hb hlt=>⟨hb,hlt⟩)
end Go.Proofs.Aw
namespace Go.Proofs.Aw
open Go
mutual
def Qy (n:Nat):AV->Bool
 | .top=>true
 | .sc _=>true
 | .agg cs=>nM n cs
 | .tup cs=>nM n cs
 | .ptr m _=>Nat.beq m.1 n
 | .sl m _ _ _ _=>Nat.beq m.1 n
 | .ro _ [] _=>true
 | _=>false
def nM (n:Nat):List AV->Bool
 | []=>true
 | v::vs=>Qy n v&&nM n vs
end
theorem Il {n:Nat}:∀{cs:List AV} {j:Nat} {c:AV},nM n cs=true->cs[j]? = some c->Qy n c=true
 | [],j,c,_,h=>by simp at h
 | d::cs,0,c,hp,h=>by simp only[nM,Bool.and_eq_true]at hp;simp at h;rw[<-h];exact hp.1
 | d::cs,j+1,c,hp,h=>by simp only[nM,Bool.and_eq_true]at hp;exact Il hp.2 (by simpa using h)
mutual
theorem Conc.own {C C':Ctx} {n:Nat} (hw:C'.w=C.w) (hk:∀m:Nm,m.1=n->C'.kn m) (hl:∀m:Nm,m.1=n->C'.live m->C.live m/\C'.J m=C.J m/\C'.bs m=C.bs m):∀(v:AV) (u:Value),Qy n v=true->Conc C v u->Conc C' v u
 | .top,_,_,_=>by simp only[Conc]
 | .sc _,_,_,h=>h
 | .agg cs,_,hp,⟨us,e,h⟩=>⟨us,e,ConcL.own hw hk hl cs _ hp h⟩
 | .tup cs,_,hp,⟨us,e,h⟩=>⟨us,e,ConcL.own hw hk hl cs _ hp h⟩
 | .ptr m off,u,hp,h=>by
  have hm:m.1=n:=Nat.eq_of_beq_eq_true hp
  simp only[Conc]at h ⊢
  refine⟨h.1,hk m hm,fun hlv => ?_⟩
  obtain⟨l1,l2,l3⟩:=hl m hm hlv
  rw[l2,l3];exact h.2.2 l1
 | .sl m z off len own,u,hp,h=>by
  have hm:m.1=n:=Nat.eq_of_beq_eq_true hp
  simp only[Conc]at h ⊢
  refine⟨h.1,hk m hm,fun hlv => ?_⟩
  obtain⟨l1,l2,l3⟩:=hl m hm hlv
  rw[l2,l3,hw];exact h.2.2 l1
 | .ip _ _,_,hp,_=>by cases hp
 | .ro _ [] _,_,_,⟨A,cap,h1,h2,h3,_⟩=>⟨A,cap,h1,h2,h3,fun h=>absurd rfl h⟩
 | .ro _ (_::_) _,_,hp,_=>by cases hp
 | .fn _ _ _,_,hp,_=>by cases hp
 | .ifc _ _,_,hp,_=>by cases hp
theorem ConcL.own {C C':Ctx} {n:Nat} (hw:C'.w=C.w) (hk:∀m:Nm,m.1=n->C'.kn m) (hl:∀m:Nm,m.1=n->C'.live m->C.live m/\C'.J m=C.J m/\C'.bs m=C.bs m):∀(vs:List AV) (us:List Value),nM n vs=true->ConcL C vs us->ConcL C' vs us
 | [],_,_,h=>h
 | v::vs,_,hp,⟨u,us,e,h1,h2⟩=>by
  simp only[nM,Bool.and_eq_true]at hp
  exact⟨u,us,e,Conc.own hw hk hl v u hp.1 h1,ConcL.own hw hk hl vs us hp.2 h2⟩
end
def a97 (n:Nat) (d:Dl):Prop:=∀q∈d,q.1.1=n/\∃cs,q.2=some cs/\nM n cs=true
theorem NQ {n:Nat} {m:Nm} {cs:List AV}:∀{d:Dl} {h:Hp},a97 n d->(∀cs',hget h m=some cs'->nM n cs'=true)->hget (hap d h) m=some cs->nM n cs=true
 | [],h,_,hh,hg=>hh cs hg
 | (k,o)::d,h,hd,hh,hg=>by
  obtain⟨_,c,h2,h3⟩:=hd (k,o) List.mem_cons_self
  simp only at h2
  subst h2
  simp only[hap]at hg
  refine NQ (fun q hq=>hd q (List.mem_cons_of_mem _ hq)) (fun cs' h' => ?_) hg
  rw[dF]at h'
  split at h'
  ·cases h';exact h3
  ·exact hh cs' h'
theorem VE {P:Program} {n:Nat} {f:FuncId} {args args':List AV} {h:Hp} {r:AV} {d:Dl} (hf:Yq h args args') (hr:Qy n r=true) (hd:a97 n d) (hc:CY P n f args' [] r d):CY P n f args h r d:=by
 intro C vs hh hL hn
 have hbare:HeapOk C.bare []:=⟨fun m=>by simp[Ctx.bare,hget],fun m cs hg=>by simp[hget]at hg,fun m m' hm=>hm.elim,fun m hm=>hm.elim,fun m hm=>hm.elim⟩
 refine(hc C.bare vs hbare (Bz hh hf hL) (fun k hk=>hk)).mono ?_
 rintro e w' ⟨u,C0,rfl,rfl,hp⟩
 have hsame:∀b,b<C.w.heap.size->C0.w.heap[b]? = C.w.heap[b]? := fun b hb=>hp.same b hb (fun m _ hl=>hl.elim)
 have hne:∀m,C.kn m->m.1≠n:=fun m hm e=>hn m.2 (by rw[<-e];exact hm)
 have k0:∀m,C0.kn m->m.1=n:=fun m hm=>((hp.kn m).1 hm).elim (fun h=>h.elim) id
 have l0:∀m,C0.live m->m.1=n:=fun m hm=>k0 m (hp.heap.kn m hm)
 have s0:∀m,C0.live m->C.w.heap.size<=C0.J m:=fun m hm=>by
  rcases hp.orig m hm with⟨h1,_⟩ | h1 | ⟨_,_,h1,_⟩
  ·exact h1.elim
  ·exact h1
  ·exact h1.elim
 have nd:∀m,m.1≠n->m∉d.map (·.1):=fun m hm hq=>by
  obtain⟨q,q1,rfl⟩:=List.mem_map.1 hq
  exact hm (hd q q1).1
 have hold:∀m,m.1≠n->hget (hap d h) m=hget h m:=fun m hm=>aO d h m (nd m hm)
 have hnone:∀m,m.1=n->hget h m=none:=fun m hm=>by
  cases hg:hget h m with
  | none=>rfl
  | some cs=>exact absurd hm (hne m (hh.kn m ((hh.live m).2 (by rw[hg];rfl))))
 have hnew:∀m,m.1=n->hget (hap d h) m=hget (hap d []) m:=fun m hm=>by
  rcases jI m d h with⟨_,h1⟩ | ⟨h1,h2⟩
  ·exact h1 []
  ·rw[h2,aO d [] m h1,hnone m hm];rfl
 let C':Ctx:={ J:=fun m=>if m.1=n then C0.J m else C.J m,bs:=fun m=>if m.1=n then C0.bs m else C.bs m,live:=fun m=>C.live m\/C0.live m,kn:=fun m=>C.kn m\/m.1=n,mt:=fun b=>(C.mt b/\b<C.w.heap.size)\/(C.w.heap.size<=b/\C0.mt b),w:=C0.w }
 have lt:∀m,C.live m->C.J m<C.w.heap.size:=fun m hm=>hh.lt hm
 have eold:∀m,m.1≠n->C'.J m=C.J m/\C'.bs m=C.bs m:=fun m hm=>⟨if_neg hm,if_neg hm⟩
 have enew:∀m,m.1=n->C'.J m=C0.J m/\C'.bs m=C0.bs m:=fun m hm=>⟨if_pos hm,if_pos hm⟩
 have le:C.le C':=by
  refine⟨hp.le.size,fun b hb _=>hsame b hb,fun b hb hm => ?_,fun _ h => .inl h,fun m hm hl => ?_,fun m hm hl cs ty hcs => ?_⟩
  ·rcases hm with hm | hm
   ·exact hm.1
   ·omega
  ·rcases hl with hl | hl
   ·exact⟨hl,eold m (hne m hm)⟩
   ·exact absurd (l0 m hl) (hne m hm)
  ·have hlt:C.J m<C.w.heap.size:=by
    rcases Nat.lt_or_ge (C.J m) C.w.heap.size with h2 | h2
    ·exact h2
    ·rw[Array.getElem?_eq_none h2]at hcs;cases hcs
   exact⟨cs,ty,(hsame _ hlt).trans hcs,rfl⟩
 have hl':∀m:Nm,m.1=n->C'.live m->C0.live m/\C'.J m=C0.J m/\C'.bs m=C0.bs m:=fun m hm hl=>by
  rcases hl with hl | hl
  ·exact absurd hm (hne m (hh.kn m hl))
  ·exact⟨hl,enew m hm⟩
 have conv:∀v u,Qy n v=true->Conc C0 v u->Conc C' v u:=Conc.own rfl (fun m hm => .inr hm) hl'
 refine⟨u,C',rfl,rfl,le,fun _=>Iff.rfl,⟨fun m => ?_,fun m cs hg => ?_,fun m m' hm hm' he => ?_,fun m hm => ?_,fun m hm => ?_⟩,conv r u hr hp.val,fun b hb _=>hsame b hb,fun b hb=>⟨fun h => ?_,fun h => .inl ⟨h,hb⟩⟩,hp.os,hp.tape,hp.output,fun m hl => ?_,fun m hm => ?_⟩
 ·by_cases c:m.1=n
  ·rw[hnew m c,<-hp.heap.live m]
   exact⟨fun h=>h.elim (fun h=>absurd c (hne m (hh.kn m h))) id,.inr⟩
  ·rw[hold m c,<-hh.live m]
   exact⟨fun h=>h.elim id (fun h=>absurd (l0 m h) c),.inl⟩
 ·by_cases c:m.1=n
  ·rw[hnew m c]at hg
   obtain⟨arr,ty,ha,hcs⟩:=hp.heap.obj m cs hg
   have ho:=NQ hd (fun cs' h'=>by simp[hget]at h') hg
   refine⟨arr,ty,by rw[(enew m c).1];exact ha,fun j x hj => ?_⟩
   obtain⟨v,v1,v2⟩:=hcs j x hj
   exact⟨v,by rw[(enew m c).2];exact v1,conv x v (Il ho hj) v2⟩
  ·rw[hold m c]at hg
   have hlv:=hh.get hg
   obtain⟨arr,ty,ha,hcs⟩:=hh.obj m cs hg
   refine⟨arr,ty,by rw[(eold m c).1];show C0.w.heap[C.J m]? = _;rw[hsame _ (lt m hlv)];exact ha,fun j x hj => ?_⟩
   obtain⟨v,v1,v2⟩:=hcs j x hj
   exact⟨v,by rw[(eold m c).2];exact v1,v2.mono le⟩
 ·rcases hm with hm | hm<;>rcases hm' with hm' | hm'
  ·rw[(eold m (hne m (hh.kn m hm))).1,(eold m' (hne m' (hh.kn m' hm'))).1]at he
   exact hh.inj m m' hm hm' he
  ·rw[(eold m (hne m (hh.kn m hm))).1,(enew m' (l0 m' hm')).1]at he
   have:=lt m hm;have:=s0 m' hm';omega
  ·rw[(enew m (l0 m hm)).1,(eold m' (hne m' (hh.kn m' hm'))).1]at he
   have:=lt m' hm';have:=s0 m hm;omega
  ·rw[(enew m (l0 m hm)).1,(enew m' (l0 m' hm')).1]at he
   exact hp.heap.inj m m' hm hm' he
 ·rcases hm with hm | hm
  ·rw[(eold m (hne m (hh.kn m hm))).1]
   exact .inl ⟨hh.mt m hm,lt m hm⟩
  ·rw[(enew m (l0 m hm)).1]
   exact .inr ⟨s0 m hm,hp.heap.mt m hm⟩
 ·rcases hm with hm | hm
  ·exact .inl (hh.kn m hm)
  ·exact .inr (l0 m hm)
 ·rcases h with h | h
  ·exact h.1
  ·omega
 ·rcases hl with hl | hl
  ·exact .inl ⟨hl,(eold m (hne m (hh.kn m hl))).1⟩
  ·refine .inr (.inl ?_)
   rw[(enew m (l0 m hl)).1]
   exact s0 m hl
 ·obtain⟨q,q1,rfl⟩:=List.mem_map.1 hm
  exact .inr (hd q q1).1
end Go.Proofs.Aw
namespace Go.Proofs.Aw
open Go
theorem O8 {C D:Ctx} {h g:Hp} (hh:HeapOk C h) (hle:C.le D) (hw:D.w=C.w) (hg:∀m cs,hget g m=some cs->hget h m=some cs/\¬D.mt (C.J m)) {v v':AV} {u:Value} (hf:PQ g v v') (hc:Conc C v u):Conc D v' u:=by
 rcases hf with(rfl | ⟨rfl,_⟩) | ⟨m,z,off,len,own,fs,rfl,h0,he,hn,rfl⟩
 ·simp only[Conc]
 ·exact hc.mono hle
 ·simp only[fA]at he
  obtain⟨cs,hgm,he⟩:=Option.bind_eq_some_iff.1 he
  split at he
  ·rename_i hz
   cases he
   obtain⟨hgh,hmt⟩:=hg m cs hgm
   obtain⟨_,_,hl⟩:=hc
   have hlive:=hh.get hgh
   obtain⟨cap,o,rfl,hcap,hoff,_⟩:=hl hlive
   obtain⟨arr,ty,hb,hcells⟩:=hh.obj _ _ hgh
   refine iw.2 ⟨some ⟨C.J m,o,none⟩,cap,by rw[gq],by rw[gq];exact hcap,(fun hx=>nomatch hx),fun hne=>⟨_,rfl,?_,hmt,?_⟩⟩
   ·rw[hw];exact(Array.getElem?_eq_some_iff.1 hb).1
   ·have hlen:0<len:=by
     rcases Nat.eq_zero_or_pos len with h1 | h1
     ·subst h1;exact absurd rfl hne
     ·exact h1
    obtain rfl:o=C.bs m+off:=by
     rcases hoff with h1 | h1
     ·exact h1
     ·omega
    refine ConcE.mk fun j e hj => ?_
    have hj':=qZ z len _ j e hj
    have hin:j*z+z<=len*z:=by rw[<-Nat.succ_mul];exact Nat.mul_le_mul_right z hj'.1
    have hel:e.length=z:=by
     rw[hj'.2];simp only[List.length_take,List.length_drop];omega
    refine⟨hel,ConcM.mk fun k c hk => ?_⟩
    have hk':k<z:=by
     have:=(List.getElem?_eq_some_iff.1 hk).1
     omega
    have hcell:cs[off+(j*z+k)]? = some c:=by
     rw[hj'.2,List.getElem?_take,if_pos hk',List.getElem?_drop,List.getElem?_drop]at hk
     exact hk
    obtain⟨u,hu,hcc⟩:=vY (C:=C) (b:=C.J m) (k:=C.bs m) (cs:=cs) ⟨arr,ty,hb,hcells⟩ _ _ hcell
    refine⟨u,?_,hcc.mono hle⟩
    simp only[kM]at hu ⊢
    have e1:C.bs m+off+(0+j)*z+(0+k)=C.bs m+(off+(j*z+k)):=by simp only[Nat.zero_add];omega
    rw[e1,hw]
    exact hu
  ·cases he
def Ro1 (g:Hp) (v v':AV):Prop:=PQ g v v'\/∃cs ds,v = .agg cs/\v' = .agg ds/\FrzL0 g cs ds
def aq3 (g:Hp):List AV->List AV->Prop
 | [],vs'=>vs'=[]
 | v::vs,l=>∃v' vs',l=v'::vs'/\Ro1 g v v'/\aq3 g vs vs'
def Ro (g:Hp) (v v':AV):Prop:=Ro1 g v v'\/∃vs ws,v = .tup vs/\v' = .tup ws/\aq3 g vs ws
section
variable {C D:Ctx} {h g:Hp} (hh:HeapOk C h) (hle:C.le D) (hw:D.w=C.w) (hg:∀m cs,hget g m=some cs->hget h m=some cs/\¬D.mt (C.J m))
include hh hle hw hg
theorem Jl:∀{vs vs':List AV} {us:List Value},FrzL0 g vs vs'->ConcL C vs us->ConcL D vs' us
 | [],_,us,hf,hc=>by simp only[FrzL0]at hf;subst hf;exact hc
 | v::vs,_,us,⟨v',vs',rfl,h1,h2⟩,hc=>by
  obtain⟨u,us',rfl,hc1,hc2⟩:=hc
  exact⟨u,us',rfl,O8 hh hle hw hg h1 hc1,Jl h2 hc2⟩
theorem O7 {v v':AV} {u:Value} (hf:Ro1 g v v') (hc:Conc C v u):Conc D v' u:=by
 rcases hf with hf | ⟨cs,ds,rfl,rfl,hf⟩
 ·exact O8 hh hle hw hg hf hc
 ·obtain⟨us,e,hc⟩:=hc
  exact⟨us,e,Jl hh hle hw hg hf hc⟩
theorem Jk:∀{vs vs':List AV} {us:List Value},aq3 g vs vs'->ConcL C vs us->ConcL D vs' us
 | [],_,us,hf,hc=>by simp only[aq3]at hf;subst hf;exact hc
 | v::vs,_,us,⟨v',vs',rfl,h1,h2⟩,hc=>by
  obtain⟨u,us',rfl,hc1,hc2⟩:=hc
  exact⟨u,us',rfl,O7 hh hle hw hg h1 hc1,Jk h2 hc2⟩
theorem O6 {v v':AV} {u:Value} (hf:Ro g v v') (hc:Conc C v u):Conc D v' u:=by
 rcases hf with hf | ⟨vs,ws,rfl,rfl,hf⟩
 ·exact O7 hh hle hw hg hf hc
 ·obtain⟨us,e,hc⟩:=hc
  exact⟨us,e,Jk hh hle hw hg hf hc⟩
end
theorem b61 {P:Program} {n:Nat} {f:FuncId} {args:List AV} {h:Hp} {r r':AV} {d:Dl} (hd:∀q∈d,q.1.1=n) (hr:Ro (hap d []) r r') (hc:CY P n f args h r d):CY P n f args h r' []:=by
 intro C vs hh hL hn
 refine(hc C vs hh hL hn).mono ?_
 rintro e w' ⟨u,C1,rfl,rfl,hp⟩
 have hne:∀m,C.kn m->m.1≠n:=fun m hm e=>hn m.2 (by rw[<-e];exact hm)
 have nd:∀m,m∈d.map (·.1)->m.1=n:=fun m hm=>by
  obtain⟨q,q1,rfl⟩:=List.mem_map.1 hm
  exact hd q q1
 have hold:∀m,m.1≠n->hget (hap d h) m=hget h m:=fun m hm=>aO d h m fun hq=>hm (nd m hq)
 have hnone:∀m,m.1=n->hget h m=none:=fun m hm=>by
  cases hg:hget h m with
  | none=>rfl
  | some cs=>exact absurd hm (hne m (hh.kn m ((hh.live m).2 (by rw[hg];rfl))))
 have hnew:∀m,m.1=n->hget (hap d h) m=hget (hap d []) m:=fun m hm=>by
  rcases jI m d h with⟨_,h1⟩ | ⟨h1,h2⟩
  ·exact h1 []
  ·rw[h2,aO d [] m h1,hnone m hm];rfl
 have s1:∀m,m.1=n->C1.live m->C.w.heap.size<=C1.J m:=fun m hm hl=>by
  rcases hp.orig m hl with⟨h1,_⟩ | h1 | ⟨m0,h0,h1,_⟩
  ·exact absurd hm (hne m (hh.kn m h1))
  ·exact h1
  ·exact absurd (nd m0 h0) (hne m0 (hh.kn m0 h1))
 let D:Ctx:={ J:=C1.J,bs:=C1.bs,live:=fun m=>C1.live m/\m.1≠n,kn:=C1.kn,mt:=fun b=>C1.mt b/\b<C.w.heap.size,w:=C1.w }
 have hle:C1.le D:=⟨Nat.le_refl _,fun _ _ _=>rfl,fun _ _ h=>h.1,fun _ h=>h,fun m _ hl=>⟨hl.1,rfl,rfl⟩,fun _ _ _ cs ty h=>⟨cs,ty,h,rfl⟩⟩
 have old:∀m,C1.live m->m.1≠n->C.live m/\C1.J m=C.J m:=fun m hl hm=>by
  have:C.live m:=(hh.live m).2 (by rw[<-hold m hm];exact(hp.heap.live m).1 hl)
  exact⟨this,(hp.le.live m (hh.kn m this) hl).2.1⟩
 have hgm:∀m cs,hget (hap d []) m=some cs->hget (hap d h) m=some cs/\¬D.mt (C1.J m):=fun m cs hg=>by
  have hm:m.1=n:=by
   rcases jI m d []with⟨h1,_⟩ | ⟨_,h2⟩
   ·exact nd m h1
   ·rw[h2]at hg;cases hg
  have hg':=(hnew m hm).trans hg
  refine⟨hg',fun hx => ?_⟩
  have:=s1 m hm (hp.heap.get hg')
  have:=hx.2
  omega
 refine⟨u,D,rfl,rfl,hp.le.trans hle,hp.kn,⟨fun m => ?_,fun m cs hg => ?_,fun m m' hm hm' he=>hp.heap.inj m m' hm.1 hm'.1 he,fun m hm => ?_,fun m hm=>hp.heap.kn m hm.1⟩,O6 hp.heap hle rfl hgm hr hp.val,fun b hb _=>hp.same b hb fun m hm hl=>absurd (nd m hm) (hne m (hh.kn m hl)),fun b hb=>⟨fun h=>(hp.mt b hb).1 h.1,fun h=>⟨(hp.mt b hb).2 h,hb⟩⟩,hp.os,hp.tape,hp.output,fun m hl => .inl (old m hl.1 hl.2),fun m hm=>by simp at hm⟩
 ·show(C1.live m/\m.1≠n)<->(hget h m).isSome=true
  by_cases c:m.1=n
  ·rw[hnone m c]
   exact⟨fun h=>absurd c h.2,fun h=>by cases h⟩
  ·rw[<-hold m c,<-hp.heap.live m]
   exact⟨fun h=>h.1,fun h=>⟨h,c⟩⟩
 ·have c:m.1≠n:=fun c=>by
   have hg:hget h m=some cs:=hg
   rw[hnone m c]at hg;cases hg
  have hg':hget (hap d h) m=some cs:=(hold m c).trans hg
  obtain⟨arr,ty,ha,hcs⟩:=hp.heap.obj m cs hg'
  exact⟨arr,ty,ha,fun j x hj=>by obtain⟨v,v1,v2⟩:=hcs j x hj;exact⟨v,v1,v2.mono hle⟩⟩
 ·obtain⟨l1,l2⟩:=old m hm.1 hm.2
  refine⟨hp.heap.mt m hm.1,?_⟩
  show C1.J m<_
  rw[l2];exact hh.lt l1
end Go.Proofs.Aw
namespace Go.Proofs.Aw
open Go
theorem aq5 {P : Program} {f : FuncId} {n n0 : Nat} {args0 args : List AV} {hs0 hs h0 : Hp} {r0 r : AV} {d0 d : Dl} (φ χ : Nm -> Nm) (hcy : CY P n0 f args0 hs0 r0 d0)
    (hA0 : nmsL (fun k => Nat.blt k.1 n0) args0 = true) (hargs : args = renL φ args0)
    (hp0 : ∀ m cs, hget hs0 m = some cs -> m.1 < n0 /\ nmsL (fun k => Nat.blt k.1 n0) cs = true /\ hget hs (φ m) = some (renL φ cs))
    (hps : ∀ m, (hget hs m).isSome = true -> (hget hs0 (χ m)).isSome = true /\ φ (χ m) = m)
    (hinj : ∀ m m', (hget hs0 m).isSome = true -> (hget hs0 m').isSome = true -> φ m = φ m' -> m = m')
    (hsub : ∀ m cs, hget hs m = some cs -> hget h0 m = some cs)
    (hd1 : ∀ m, m ∈ d.map (·.1) -> m.1 = n \/ (hget hs m).isSome = true) (hd2 : ∀ m, (hget hs m).isSome = true -> m ∈ d.map (·.1))
    (hR : nms (zX n hs) r = true) (hr : r0 = ren χ r)
    (hC : ∀ m cs, hget (hap d h0) m = some cs -> zX n hs m = true -> nmsL (zX n hs) cs = true /\ hget (hap d0 hs0) (χ m) = some (renL χ cs))
    (hn0 : ∀ k, (hget (hap d h0) (n, k)).isSome = true -> n0 <= (χ (n, k)).1)
    (hni : ∀ j k, (hget (hap d h0) (n, j)).isSome = true -> (hget (hap d h0) (n, k)).isSome = true -> χ (n, j) = χ (n, k) -> j = k) : CY P n f args h0 r d := by
  intro C vs hh hL hn
  let C1 : Ctx := { J := fun m => C.J (φ m), bs := fun m => C.bs (φ m), live := fun m => (hget hs0 m).isSome = true, kn := fun m => m.1 < n0, mt := C.mt, w := C.w }
  have hsome : ∀ m, (hget hs m).isSome = true -> C.live m := fun m hm => by
    obtain ⟨cs, hcs⟩ := Option.isSome_iff_exists.1 hm
    exact hh.get (hsub m cs hcs)
  have hin : ∀ m, (hget hs0 m).isSome = true -> (hget hs (φ m)).isSome = true := fun m hm => by
    obtain ⟨cs, hcs⟩ := Option.isSome_iff_exists.1 hm
    rw [(hp0 m cs hcs).2.2]; rfl
  have hlt0 : ∀ m, (hget hs0 m).isSome = true -> m.1 < n0 := fun m hm => by
    obtain ⟨cs, hcs⟩ := Option.isSome_iff_exists.1 hm
    exact (hp0 m cs hcs).1
  have sub0 : C.sub C1 φ (fun k => Nat.blt k.1 n0) := ⟨rfl, fun _ _ h => h, fun m hm _ => by simpa using hm, fun m _ _ hm => ⟨hsome _ (hin m hm), rfl, rfl⟩⟩
  have hL1 : ConcL C1 args0 vs := ConcL.ren sub0 args0 vs hA0 (by rw [<- hargs]; exact hL)
  have hH1 : HeapOk C1 hs0 := by
    refine ⟨fun m => Iff.rfl, fun m cs hg => ?_, fun m m' hm hm' he => hinj m m' hm hm' (hh.inj _ _ (hsome _ (hin m hm)) (hsome _ (hin m' hm')) he), fun m hm => hh.mt _ (hsome _ (hin m hm)), fun m hm => hlt0 m hm⟩
    obtain ⟨_, g2, g3⟩ := hp0 m cs hg
    obtain ⟨arr, ty, ha, hc⟩ := hh.obj _ _ (hsub _ _ g3)
    refine ⟨arr, ty, ha, fun j c hj => ?_⟩
    obtain ⟨u', hu', hcu'⟩ := hc j _ (qO φ cs j c hj)
    exact ⟨u', hu', Conc.ren sub0 c u' (jZ g2 hj) hcu'⟩
  refine (hcy C1 vs hH1 hL1 fun k h => absurd (show n0 < n0 from h) (Nat.lt_irrefl _)).mono ?_
  rintro e w' ⟨u, Cb, he, hw, hp⟩
  have hold : ∀ m, m.1 ≠ n -> (hget hs m).isSome = false -> hget (hap d h0) m = hget h0 m := fun m h1 h2 => aO d h0 m fun hm => by
    rcases hd1 m hm with h3 | h3
    · exact h1 h3
    · rw [h2] at h3; cases h3
  let C' : Ctx := { J := fun m => if m.1 = n then Cb.J (χ m) else C.J m, bs := fun m => if m.1 = n then Cb.bs (χ m) else C.bs m, live := fun m => (hget (hap d h0) m).isSome = true, kn := fun m => C.kn m \/ m.1 = n,
                    mt := fun b => (C.mt b /\ b < C.w.heap.size) \/ ∃ k, (hget (hap d h0) (n, k)).isSome = true /\ b = Cb.J (χ (n, k)), w := Cb.w }
  have lvb : ∀ m, (hget (hap d h0) m).isSome = true -> zX n hs m = true -> Cb.live (χ m) := fun m hm hq => by
    obtain ⟨cs, hcs⟩ := Option.isSome_iff_exists.1 hm
    exact hp.heap.get (hC m cs hcs hq).2
  have lvn : ∀ k, (hget (hap d h0) (n, k)).isSome = true -> Cb.live (χ (n, k)) := fun k hk => lvb (n, k) hk (by simp [zX])
  have eqn : ∀ m : Nm, m.1 = n -> (n, m.2) = m := fun m h1 => by rw [<- h1]
  have lvo : ∀ m, m.1 ≠ n -> (hget hs m).isSome = true -> (hget (hap d h0) m).isSome = true -> Cb.live (χ m) /\ Cb.J (χ m) = C.J m /\ Cb.bs (χ m) = C.bs m := fun m _ h2 h3 => by
    have l := lvb m h3 (by simp [zX, h2])
    obtain ⟨g1, g2⟩ := hps m h2
    obtain ⟨_, e1, e2⟩ := hp.le.live (χ m) (hlt0 _ g1) l
    exact ⟨l, by rw [e1]; show C.J (φ (χ m)) = _; rw [g2], by rw [e2]; show C.bs (φ (χ m)) = _; rw [g2]⟩
  have lvC : ∀ m, m.1 ≠ n -> (hget (hap d h0) m).isSome = true -> C.live m := fun m h1 h3 => by
    cases h2 : (hget hs m).isSome with
    | true => exact hsome m h2
    | false =>
      rw [hold m h1 h2] at h3
      exact (hh.live m).2 h3
  have hne : ∀ m, C.kn m -> m.1 ≠ n := fun m hk e => hn m.2 (by rw [eqn m e]; exact hk)
  have hsame : ∀ b, b < C.w.heap.size -> (∀ m, (hget hs m).isSome = true -> b ≠ C.J m) -> Cb.w.heap[b]? = C.w.heap[b]? := fun b hb hq => hp.same b hb fun m _ hl => hq _ (hin m hl)
  have org : ∀ k, (hget (hap d h0) (n, k)).isSome = true -> C.w.heap.size <= Cb.J (χ (n, k)) \/ ∃ m', (hget hs m').isSome = true /\ Cb.J (χ (n, k)) = C.J m' := fun k hk => by
    rcases hp.orig _ (lvn k hk) with ⟨h1, _⟩ | h1 | ⟨m0, _, h1, h2⟩
    · have := hlt0 _ h1
      have := hn0 k hk
      omega
    · exact .inl h1
    · exact .inr ⟨φ m0, hin m0 h1, h2⟩
  have le : C.le C' := by
    refine ⟨hp.le.size, fun b hb hm => hp.le.same b hb hm, fun b hb hm => ?_, fun _ h => .inl h, fun m hk hl => ?_, fun m hk hl cs ty hc => ?_⟩
    · rcases hm with h1 | ⟨k, hk, h1⟩
      · exact h1.1
      · exact (hp.mt b hb).1 (by rw [h1]; exact hp.heap.mt _ (lvn k hk))
    · have hm := hne m hk
      exact ⟨lvC m hm hl, by simp [C', hm], by simp [C', hm]⟩
    · have hm := hne m hk
      have hlC := lvC m hm hl
      cases h2 : (hget hs m).isSome with
      | true =>
        obtain ⟨g1, g2⟩ := hps m h2
        have := hp.le.own (χ m) (hlt0 _ g1) (lvo m hm h2 hl).1 cs ty (by show C.w.heap[C.J (φ (χ m))]? = _; rw [g2]; exact hc)
        have e : C1.J (χ m) = C.J m := by show C.J (φ (χ m)) = _; rw [g2]
        rw [e] at this
        exact this
      | false =>
        refine ⟨cs, ty, (hsame _ (hh.lt hlC) fun m' hm' e => ?_).trans hc, rfl⟩
        have := hh.inj m m' hlC (hsome m' hm') e
        subst this
        rw [h2] at hm'; cases hm'
  have sub : Cb.sub C' χ (zX n hs) := by
    refine ⟨rfl, fun b hb hm => ?_, fun m hq _ => ?_, fun m hq hk hl => ?_⟩
    · rcases hm with h1 | ⟨k, hk, h1⟩
      · exact (hp.mt b h1.2).2 h1.1
      · rw [h1]; exact hp.heap.mt _ (lvn k hk)
    · simp only [zX, Bool.or_eq_true, beq_iff_eq] at hq
      rcases hq with h1 | h1
      · exact .inr h1
      · exact .inl (hh.kn m (hsome m h1))
    · refine ⟨lvb m hl hq, ?_⟩
      by_cases h1 : m.1 = n
      · simp [C', h1]
      · simp only [zX, Bool.or_eq_true, beq_iff_eq] at hq
        have h2 := hq.resolve_left h1
        simp only [C', h1, if_false]
        exact ⟨(lvo m h1 h2 hl).2.1.symm, (lvo m h1 h2 hl).2.2.symm⟩
  have hcr : Conc C' r u := Conc.ren sub _ u hR (by rw [<- hr]; exact hp.val)
  refine ⟨u, C', he, hw, le, fun _ => Iff.rfl, ⟨fun m => Iff.rfl, fun m cs hg => ?_, fun m m' hm hm' he => ?_, fun m hm => ?_, fun m hm => ?_⟩, hcr, fun b hb hq => hsame b hb fun m hm => hq m (hd2 m hm) (hsome m hm), fun b hb => ?_, hp.os, hp.tape, hp.output, fun m hm => ?_, fun m hm => ?_⟩
  · cases hq : zX n hs m with
    | true =>
      obtain ⟨k1, k2⟩ := hC m cs hg hq
      obtain ⟨arr, ty, ha, hc⟩ := hp.heap.obj _ _ k2
      have hJ : C'.J m = Cb.J (χ m) /\ C'.bs m = Cb.bs (χ m) := by
        by_cases h1 : m.1 = n
        · simp [C', h1]
        · simp only [zX, Bool.or_eq_true, beq_iff_eq] at hq
          simp only [C', h1, if_false]
          have := lvo m h1 (hq.resolve_left h1) (by rw [hg]; rfl)
          exact ⟨this.2.1.symm, this.2.2.symm⟩
      refine ⟨arr, ty, by rw [hJ.1]; exact ha, fun j c hj => ?_⟩
      obtain ⟨u', hu', hcu'⟩ := hc j _ (qO _ cs j c hj)
      exact ⟨u', by rw [hJ.2]; exact hu', Conc.ren sub c u' (jZ k1 hj) hcu'⟩
    | false =>
      simp only [zX, Bool.or_eq_false_iff, beq_eq_false_iff_ne, ne_eq] at hq
      have hg' := hg
      rw [hold m hq.1 hq.2] at hg'
      have hl := hh.get hg'
      obtain ⟨arr, ty, ha, hc⟩ := hh.obj m cs hg'
      refine ⟨arr, ty, ?_, fun j c hj => ?_⟩
      · simp only [C', hq.1, if_false]
        refine (hsame _ (hh.lt hl) fun m' hm' e => ?_).trans ha
        have := hh.inj m m' hl (hsome m' hm') e
        subst this
        rw [hq.2] at hm'; cases hm'
      · obtain ⟨u', hu', hcu'⟩ := hc j c hj
        exact ⟨u', by simp only [C', hq.1, if_false]; exact hu', hcu'.mono le⟩
  · have oldJ : ∀ m, m.1 ≠ n -> (hget (hap d h0) m).isSome = true -> ∀ k, (hget (hap d h0) (n, k)).isSome = true -> Cb.J (χ (n, k)) = C.J m -> False := fun m h1 h3 k hk e => by
      cases h2 : (hget hs m).isSome with
      | true =>
        obtain ⟨l1, e1, _⟩ := lvo m h1 h2 h3
        have := hp.heap.inj _ _ (lvn k hk) l1 (by rw [e, e1])
        have h4 := hn0 k hk
        have h5 := hlt0 _ (hps m h2).1
        rw [this] at h4
        omega
      | false =>
        have hlC := lvC m h1 h3
        have hb := hh.lt hlC
        rcases org k hk with h4 | ⟨m', hm', e'⟩
        · omega
        · have := hh.inj m m' hlC (hsome m' hm') (by rw [<- e, e'])
          subst this
          rw [h2] at hm'; cases hm'
    by_cases h1 : m.1 = n <;> by_cases h2 : m'.1 = n
    · have hm1 : (hget (hap d h0) (n, m.2)).isSome = true := by rw [eqn m h1]; exact hm
      have hm2 : (hget (hap d h0) (n, m'.2)).isSome = true := by rw [eqn m' h2]; exact hm'
      simp only [C', h1, h2, if_true] at he
      rw [<- eqn m h1, <- eqn m' h2] at he
      have e1 := hp.heap.inj _ _ (lvn _ hm1) (lvn _ hm2) he
      exact Prod.ext (h1.trans h2.symm) (hni _ _ hm1 hm2 e1)
    · have hm1 : (hget (hap d h0) (n, m.2)).isSome = true := by rw [eqn m h1]; exact hm
      simp only [C', h1, h2, if_true, if_false] at he
      rw [<- eqn m h1] at he
      exact (oldJ m' h2 hm' _ hm1 he).elim
    · have hm2 : (hget (hap d h0) (n, m'.2)).isSome = true := by rw [eqn m' h2]; exact hm'
      simp only [C', h1, h2, if_true, if_false] at he
      rw [<- eqn m' h2] at he
      exact (oldJ m h1 hm _ hm2 he.symm).elim
    · simp only [C', h1, h2, if_false] at he
      exact hh.inj m m' (lvC m h1 hm) (lvC m' h2 hm') he
  · by_cases h1 : m.1 = n
    · have hm1 : (hget (hap d h0) (n, m.2)).isSome = true := by rw [eqn m h1]; exact hm
      simp only [C', h1, if_true]
      exact .inr ⟨m.2, hm1, by rw [eqn m h1]⟩
    · simp only [C', h1, if_false]
      exact .inl ⟨hh.mt m (lvC m h1 hm), hh.lt (lvC m h1 hm)⟩
  · by_cases h1 : m.1 = n
    · exact .inr h1
    · exact .inl (hh.kn m (lvC m h1 hm))
  · constructor
    · rintro (h1 | ⟨k, hk, h1⟩)
      · exact h1.1
      · exact (hp.mt b hb).1 (by rw [h1]; exact hp.heap.mt _ (lvn k hk))
    · intro h1; exact .inl ⟨h1, hb⟩
  · by_cases h1 : m.1 = n
    · have hm1 : (hget (hap d h0) (n, m.2)).isSome = true := by rw [eqn m h1]; exact hm
      simp only [C', h1, if_true]
      rcases org m.2 hm1 with h2 | ⟨m', hm', e'⟩
      · exact .inr (.inl (by rw [<- eqn m h1]; exact h2))
      · exact .inr (.inr ⟨m', hd2 m' hm', hsome m' hm', by rw [<- eqn m h1]; exact e'⟩)
    · exact .inl ⟨lvC m h1 hm, by simp only [C', h1, if_false]⟩
  · rcases hd1 m hm with h1 | h1
    · exact .inr h1
    · exact .inl (hsome m h1)
theorem b62 {P:Program} {n:Nat} {f:FuncId} {args:List AV} {h:Hp} {r:AV} {d:Dl} (hc:CY P n f args h r []) (hd:∀m,hget (hap d h) m=hget h m) (hs:∀m,m∈d.map (·.1)->(hget h m).isSome=true):CY P n f args h r d:=by
 intro C vs hh hL hn
 refine(hc C vs hh hL hn).mono ?_
 rintro e w' ⟨u,C',he,hw,hp⟩
 refine⟨u,C',he,hw,hp.le,hp.kn,⟨fun m => ?_,fun m cs hg => ?_,hp.heap.inj,hp.heap.mt,hp.heap.kn⟩,hp.val,fun b hb _=>hp.same b hb fun m hm=>(nomatch hm),hp.mt,hp.os,hp.tape,hp.output,fun m hm => ?_,fun m hm => .inl ((hh.live m).2 (hs m hm))⟩
 ·rw[hd];exact hp.heap.live m
 ·rw[hd]at hg;exact hp.heap.obj m cs hg
 ·rcases hp.orig m hm with h1 | h1 | ⟨m0,h1,_⟩
  ·exact .inl h1
  ·exact .inr (.inl h1)
  ·cases h1
end Go.Proofs.Aw
namespace Go.Proofs.Aw
open Go
theorem YN {P:Program} {o:Oper} {a:Act} {w:World} {K:Act->World->Prop} {Q Q':Exit->Act->World->Prop} (h:∀e a w,e ≠ .normal->Q e a w->Q' e a w) (hh:o.wp P a w K Q):o.wp P a w K Q':=by
 have hl:LetsOut Q->LetsOut Q':=fun⟨a,w,hq⟩=>⟨a,w,h _ _ _ (by simp) hq⟩
 unfold Oper.wp at *
 generalize (execOp a.eval o).run P w=r at *
 cases r with
 | ok n w' =>
  cases n<;>simp only[Oper.upon]at hh ⊢ <;>
   first
    | exact hh
    | exact Calls.mono hh (fun e w'' he=>by cases e<;>first | exact he | exact h _ _ _ (by simp) he | exact hl he)
    | exact Rows.mono hh (fun _ _ he=>he)
 | halt x w'=>cases x<;>simp only[Oper.upon]at hh ⊢ <;> first | exact hh | exact h _ _ _ (by simp) hh
structure LastOp (ops:List Oper) (o:Oper):Prop where
 all:∀j,j<ops.length->∃ed∈o.after,Region.binds .any ed=true/\ed.on=j
 own:∀ed∈o.after,Region.binds .any ed=true->ed.on<ops.length
 free:o.guard=none
 guards:∀p∈ops,∀j want,p.guard=some (j,want)->j<ops.length
 edges:∀i p,ops[i]? = some p->∀ed∈p.after,Region.binds .any ed=true->ed.on<i
theorem vW (l:Array Bool) (j:Nat):(l.push false).getD j false=l.getD j false:=by
 simp only[Array.getD_eq_getD_getElem?,Array.getElem?_push]
 split
 ·rename_i h;subst h;simp
 ·rfl
theorem vV (l:Array Bool) {j:Nat} (h:j<l.size):(l.push false).getD j true=l.getD j true:=by
 simp only[Array.getD_eq_getD_getElem?,Array.getElem?_push]
 rw[if_neg (by omega)]
theorem V8 (l:Array Bool):(l.push false).getD l.size true=false:=by
 simp[Array.getD_eq_getD_getElem?]
theorem ZX (l:Array Bool) {i:Nat} (h:i<l.size):(l.push false).setIfInBounds i true=(l.setIfInBounds i true).push false:=by
 apply Array.ext_getElem?
 intro j
 rw[Array.getElem?_push,Array.size_setIfInBounds]
 by_cases hj:i=j
 ·subst hj
  rw[if_neg (by omega),Array.getElem?_setIfInBounds_self_of_lt (by simp;omega),Array.getElem?_setIfInBounds_self_of_lt h]
 ·rw[Array.getElem?_setIfInBounds_ne hj,Array.getElem?_setIfInBounds_ne hj,Array.getElem?_push]
theorem ap4 {P:Program} {ops:List Oper} {o:Oper} (H:LastOp ops o) {Q Q0:Exit->Act->World->Prop} (hn:∀a w,Q0 .normal a w->o.wp P a w (fun a w=>Q .normal a w) Q) (he:∀e a w,e ≠ .normal->Q0 e a w->Q e a w) :
  ∀(fuel:Nat) (listed:Array Bool) (a:Act) (w:World),listed.size=ops.length->left (lst listed) ops.length<=fuel->wpAny P .any ops.toArray Q0 fuel listed a w->wpAny P .any (ops++[o]).toArray Q (fuel+1) (listed.push false) a w:=by
 have lets:LetsOut Q0->LetsOut Q:=fun⟨a,w,hq⟩=>⟨a,w,he _ _ _ (by simp) hq⟩
 have none:∀(listed:Array Bool),listed.size=ops.length->Region.ready .any (ops++[o]).toArray (listed.push false)≠[]:=by
  intro listed hsz hr
  have all:∀j,j<ops.length->lst listed j=true:=by
   intro j
   induction j using Nat.strongRecOn with
   | _ j ih =>
    intro hj
    cases h:lst listed j with
    | true=>rfl
    | false =>
     exfalso
     have hmem:j∈Region.ready .any (ops++[o]).toArray (listed.push false):=by
      refine mem_ready.2 ⟨by rw[vV _ (by omega)];exact mf.2 ⟨by omega,h⟩,ops[j],by simp[List.getElem?_append_left hj],fun ed hed hb => ?_⟩
      have hlt:=H.edges j ops[j] (by simp[hj]) ed hed hb
      rw[vW]
      exact ih ed.on hlt (by omega)
     rw[hr]at hmem;cases hmem
  have hmem:ops.length∈Region.ready .any (ops++[o]).toArray (listed.push false):=by
   refine mem_ready.2 ⟨by rw[<-hsz];exact V8 listed,o,by simp,fun ed hed hb => ?_⟩
   rw[vW]
   exact all _ (H.own ed hed hb)
  rw[hr]at hmem;cases hmem
 have full:∀(fuel:Nat) (listed:Array Bool) (a:Act) (w:World),listed.size=ops.length->(∀j,j<ops.length->lst listed j=true)->wpAny P .any ops.toArray Q0 fuel listed a w->Q0 .normal a w:=by
  intro fuel listed a w hsz hall h
  have hr:Region.ready .any ops.toArray listed=[]:=by
   apply List.eq_nil_iff_forall_not_mem.2
   intro j hj
   obtain⟨h1,_⟩:=mem_ready.1 hj
   obtain⟨h2,h3⟩:=mf.1 h1
   rw[hall j (by omega)]at h3;cases h3
  cases fuel with
  | zero=>exact h.2
  | succ f=>exact h.1 hr
 have last:∀(fuel:Nat) (listed:Array Bool) (a:Act) (w:World),listed.size=ops.length->(∀j,j<ops.length->lst listed j=true)->Q0 .normal a w->wpOp P (ops++[o]).toArray Q ops.length (wpAny P .any (ops++[o]).toArray Q fuel ((listed.push false).setIfInBounds ops.length true)) a w:=by
  intro fuel listed a w hsz hall hq
  have hr:Region.ready .any (ops++[o]).toArray ((listed.push false).setIfInBounds ops.length true)=[]:=by
   apply List.eq_nil_iff_forall_not_mem.2
   intro j hj
   obtain⟨h1,p,hp,_⟩:=mem_ready.1 hj
   have hjn:j<ops.length+1:=by
    have:=(Array.getElem?_eq_some_iff.1 hp).1
    simpa using this
   have:((listed.push false).setIfInBounds ops.length true).getD j true=true:=by
    simp only[Array.getD_eq_getD_getElem?]
    by_cases hji:j=ops.length
    ·subst hji
     rw[<-hsz]
     simp
    ·rw[Array.getElem?_setIfInBounds_ne (by omega),<-Array.getD_eq_getD_getElem?,vV _ (by omega)]
     have:=hall j (by omega)
     unfold lst at this
     rw[Array.getD_eq_getD_getElem?]at this ⊢
     have hlt:j<listed.size:=by omega
     simp only[Array.getElem?_eq_getElem hlt,Option.getD_some]at this ⊢
     exact this
   rw[this]at h1;cases h1
  have hend:∀a w,Q .normal a w->wpAny P .any (ops++[o]).toArray Q fuel ((listed.push false).setIfInBounds ops.length true) a w:=by
   intro a w hq
   cases fuel with
   | zero=>exact⟨hr,hq⟩
   | succ f=>exact⟨fun _=>hq,fun i hi=>by rw[hr]at hi;cases hi⟩
  unfold wpOp
  have ho:(ops++[o]).toArray[ops.length]? = some o:=by simp
  rw[ho]
  simp only
  rw[if_pos (by simp[Region.wanted,H.free])]
  exact .inl (Oper.wp_mono hend (hn a w hq))
 intro fuel
 induction fuel with
 | zero =>
  intro listed a w hsz hl h
  have hall:=AZ (Nat.le_zero.1 hl)
  have hq:=full _ _ _ _ hsz hall h
  refine⟨fun hr=>absurd hr (none listed hsz),fun i hi => ?_⟩
  obtain⟨h1,p,hp,hed⟩:=mem_ready.1 hi
  have hin:i<ops.length+1:=by
   have:=(Array.getElem?_eq_some_iff.1 hp).1
   simpa using this
  rcases Nat.lt_or_ge i ops.length with hlt | hge
  ·rw[vV _ (by omega)]at h1
   obtain⟨_,h3⟩:=mf.1 h1
   rw[hall i hlt]at h3;cases h3
  ·obtain rfl:i=ops.length:=by omega
   exact last 0 listed a w hsz hall hq
 | succ f ih =>
  intro listed a w hsz hl h
  refine⟨fun hr=>absurd hr (none listed hsz),fun i hi => ?_⟩
  obtain⟨h1,p,hp,hed⟩:=mem_ready.1 hi
  have hin:i<ops.length+1:=by
   have:=(Array.getElem?_eq_some_iff.1 hp).1
   simpa using this
  rcases Nat.lt_or_ge i ops.length with hlt | hge
  ·have hp':ops[i]? = some p:=by
    have:(ops++[o])[i]? = some p:=by simpa using hp
    rwa[List.getElem?_append_left hlt]at this
   rw[vV _ (by omega)]at h1
   have hi':i∈Region.ready .any ops.toArray listed:=mem_ready.2 ⟨h1,p,by simpa using hp',fun ed he hb=>by
    have:=hed ed he hb
    rwa[vW]at this⟩
   have hL:lst listed i=false:=(mf.1 h1).2
   have g:=h.2 i hi'
   rw[ZX _ (by omega)]
   have hK:∀a w,wpAny P .any ops.toArray Q0 f (listed.setIfInBounds i true) a w->wpAny P .any (ops++[o]).toArray Q (f+1) ((listed.setIfInBounds i true).push false) a w:=fun a w hh=>by
    refine ih _ a w (by simpa using hsz) ?_ hh
    have e1:left (lst (listed.setIfInBounds i true)) ops.length=left (lM (lst listed) i) ops.length:=wB fun j _=>KI (by omega) j
    have:=Fa hL hlt
    omega
   unfold wpOp at g ⊢
   have hpa:ops.toArray[i]? = some p:=by simpa using hp'
   rw[hpa]at g
   rw[hp]
   simp only at g ⊢
   have hw:Region.wanted p (yielded (ops++[o]).toArray a.tmps)=Region.wanted p (yielded ops.toArray a.tmps):=by
    unfold Region.wanted
    cases hg:p.guard with
    | none=>rfl
    | some jw =>
     obtain⟨j,want⟩:=jw
     have hj:=H.guards p (List.mem_of_getElem? hp') j want hg
     have:yielded (ops++[o]).toArray a.tmps j=yielded ops.toArray a.tmps j:=by
      unfold yielded
      have e:(ops++[o]).toArray[j]? = ops.toArray[j]? := by
       simp[List.getElem?_append_left hj]
      rw[e]
     simp only[this]
   rw[hw]
   split
   ·rename_i hc
    rw[if_pos hc]at g
    rcases g with g | ⟨g1,g2⟩
    ·exact .inl (YN he (Oper.wp_mono hK g))
    ·exact .inr ⟨g1,lets g2⟩
   ·rename_i hc
    rw[if_neg hc]at g
    exact hK _ _ g
  ·obtain rfl:i=ops.length:=by omega
   have hall:∀j,j<ops.length->lst listed j=true:=fun j hj=>by
    have hpo:p=o:=by
     have:(ops++[o])[ops.length]? = some p:=by simpa using hp
     simpa using this.symm
    subst hpo
    obtain⟨ed,h2,h3,h4⟩:=H.all j hj
    have:=hed ed h2 h3
    rw[vW,h4]at this
    exact this
   exact last (f+1) listed a w hsz hall (full _ _ _ _ hsz hall h)
theorem aq8 {P:Program} {E:Env} {ops:List Oper} {o:Oper} {Q:Exit->St->Prop} {σ:St} {id:Nat} (hm:P.follows .mixedOrders=true) (H:LastOp ops o) (hd:∀i,o.dst=some i->i<E.N) (hf:fits E.N ops=true) (ho:once ops=true) (es:List En)
  (hw:Walked P ops σ.nx (mO ops σ.t) σ.h es) (hl:es.length=ops.length) {r:AV} {d:Dl}
  (hy:Yields P (σ.nx+ops.length) o.op (bP (fun _=>true) es (mO ops σ.t)) (aj (fun _=>true) es σ.h) r d)
  (hk:Q .normal ⟨qm o.dst r (bP (fun _=>true) es (mO ops σ.t)),hap d (aj (fun _=>true) es σ.h),σ.nx+ops.length+1⟩):AW P E (.region id (ops++[o]).toArray true) Q σ:=fun a w hr=>by
 refine wp_region_any hm ?_
 have g:=I9 (Q:=fun e σ'=>e = .normal/\σ'=⟨bP (fun _=>true) es (mO ops σ.t),aj (fun _=>true) es σ.h,σ.nx+ops.length⟩) hf ho es hw hl ⟨rfl,rfl⟩ hr
 have e1:(ops++[o]).toArray.size=ops.toArray.size+1:=by simp
 have e2:Array.replicate (ops++[o]).toArray.size false=(Array.replicate ops.toArray.size false).push false:=by
  rw[e1]
  exact Array.replicate_succ
 rw[e2,e1]
 refine ap4 H (fun a' w' hq => ?_) (fun e a' w' hne hq => ?_) _ _ _ _ (by simp) ?_ g
 ·obtain⟨σ',hrel,_,rfl⟩:=hq
  obtain⟨C,rfl,hC⟩:=hrel
  exact hy C a' o _ _ rfl hC.heap hC.t (fun k hkn=>absurd (hC.kn _ hkn) (by simp)) fun u C' hp=>⟨_,⟨C',rfl,hC.step hp hd⟩,hk⟩
 ·obtain⟨_,_,h1,_⟩:=hq
  exact absurd h1 hne
 ·have:∀n,left (lst (Array.replicate ops.toArray.size false)) n<=n:=fun n=>by
   induction n with
   | zero=>simp[left]
   | succ n ih=>simp only[left];split<;>omega
  have h2:=this ops.length
  simpa using h2
end Go.Proofs.Aw
namespace Go.Proofs.Aw
open Go
variable {P:Program} {E:Env} {Q:Exit->St->Prop} {σ σ':St}
end Go.Proofs.Aw
namespace Go.Proofs.Aw
open Go
theorem o7 (p:Nm->Bool) (m:Nm) (hm:p m=true):∀(d:Dl) (h:Hp),hget (hap (d.filter fun q=>p q.1) h) m=hget (hap d h) m
 | [],h=>rfl
 | (k,o)::d,h=>by
  by_cases hk:p k=true
  ·rw[List.filter_cons_of_pos (by exact hk)]
   cases o with
   | none=>simp only[hap];exact o7 p m hm d _
   | some cs=>simp only[hap];exact o7 p m hm d _
  ·rw[List.filter_cons_of_neg (by exact hk)]
   have hne:k≠m:=fun e=>hk (by rw[e];exact hm)
   have hap_at:∀(d:Dl) (h h':Hp),hget h m=hget h' m->hget (hap d h) m=hget (hap d h') m:=fun d h h' e=>by
    rcases jI m d h with⟨_,h1⟩ | ⟨h1,h2⟩
    ·exact h1 h'
    ·rw[h2,aO d h' m h1,e]
   rw[o7 p m hm d h]
   cases o with
   | none=>simp only[hap];exact hap_at d _ _ (by rw[mi];rw[if_neg hne])
   | some cs=>simp only[hap];exact hap_at d _ _ (by rw[dF];rw[if_neg hne])
theorem bo6 {P:Program} {n:Nat} {f:FuncId} {args:List AV} {h:Hp} {r r':AV} {d:Dl} (hs:∀m,m∈d.map (·.1)->m.1≠n->(hget (hap d h) m).isSome=true) (hr:Ro (hap (d.filter fun q=>q.1.1==n) []) r r') (hc:CY P n f args h r d):CY P n f args h r' (d.filter fun q => !(q.1.1==n)):=by
 intro C vs hh hL hn
 refine(hc C vs hh hL hn).mono ?_
 rintro e w' ⟨u,C1,rfl,rfl,hp⟩
 have hne:∀m,C.kn m->m.1≠n:=fun m hm e=>hn m.2 (by rw[<-e];exact hm)
 have hold:∀m,m.1≠n->hget (hap (d.filter fun q => !(q.1.1==n)) h) m=hget (hap d h) m:=fun m hm=>o7 (fun k => !(k.1==n)) m (by simpa using hm) d h
 have hnone:∀m,m.1=n->hget h m=none:=fun m hm=>by
  cases hg:hget h m with
  | none=>rfl
  | some cs=>exact absurd hm (hne m (hh.kn m ((hh.live m).2 (by rw[hg];rfl))))
 have hnoneD:∀m,m.1=n->hget (hap (d.filter fun q => !(q.1.1==n)) h) m=none:=fun m hm=>by
  rw[aO _ _ _ fun hq=>by
   obtain⟨q,q1,q2⟩:=List.mem_map.1 hq
   have:=(List.mem_filter.1 q1).2
   rw[q2,hm]at this
   simp at this,hnone m hm]
 have hnew:∀m,m.1=n->hget (hap d h) m=hget (hap (d.filter fun q=>q.1.1==n) []) m:=fun m hm=>by
  rw[o7 (fun k=>k.1==n) m (by simpa using hm) d []]
  rcases jI m d h with⟨_,h1⟩ | ⟨h1,h2⟩
  ·exact h1 []
  ·rw[h2,aO d [] m h1,hnone m hm];rfl
 have hkeep:∀m,C1.live m->C.live m->C1.J m=C.J m:=fun m h1 h2=>(hp.le.live m (hh.kn m h2) h1).2.1
 have s1:∀m,m.1=n->C1.live m->C.w.heap.size<=C1.J m:=fun m hm hl=>by
  rcases hp.orig m hl with⟨h1,_⟩ | h1 | ⟨m0,h0,h1,h2⟩
  ·exact absurd hm (hne m (hh.kn m h1))
  ·exact h1
  ·have l0:C1.live m0:=(hp.heap.live m0).2 (hs m0 h0 (hne m0 (hh.kn m0 h1)))
   have:=hp.heap.inj m m0 hl l0 (by rw[h2,hkeep m0 l0 h1])
   rw[this]at hm
   exact absurd hm (hne m0 (hh.kn m0 h1))
 let D:Ctx:={ J:=C1.J,bs:=C1.bs,live:=fun m=>C1.live m/\m.1≠n,kn:=C1.kn,mt:=fun b=>C1.mt b/\(b<C.w.heap.size\/∃m,C1.live m/\m.1≠n/\C1.J m=b),w:=C1.w }
 have hle:C1.le D:=⟨Nat.le_refl _,fun _ _ _=>rfl,fun _ _ h=>h.1,fun _ h=>h,fun m _ hl=>⟨hl.1,rfl,rfl⟩,fun _ _ _ cs ty h=>⟨cs,ty,h,rfl⟩⟩
 have hgm:∀m cs,hget (hap (d.filter fun q=>q.1.1==n) []) m=some cs->hget (hap d h) m=some cs/\¬D.mt (C1.J m):=fun m cs hg=>by
  have hm:m.1=n:=by
   rcases jI m (d.filter fun q=>q.1.1==n) []with⟨h1,_⟩ | ⟨_,h2⟩
   ·obtain⟨q,q1,rfl⟩:=List.mem_map.1 h1
    simpa using (List.mem_filter.1 q1).2
   ·rw[h2]at hg;cases hg
  have hg':=(hnew m hm).trans hg
  have hl:=hp.heap.get hg'
  refine⟨hg',fun hx => ?_⟩
  rcases hx.2 with hx | ⟨m',l1,l2,l3⟩
  ·have:=s1 m hm hl
   omega
  ·have:=hp.heap.inj m' m l1 hl l3
   rw[this]at l2
   exact l2 hm
 refine⟨u,D,rfl,rfl,hp.le.trans hle,hp.kn,⟨fun m => ?_,fun m cs hg => ?_,fun m m' hm hm' he=>hp.heap.inj m m' hm.1 hm'.1 he,fun m hm=>⟨hp.heap.mt m hm.1,.inr ⟨m,hm.1,hm.2,rfl⟩⟩,fun m hm=>hp.heap.kn m hm.1⟩,O6 hp.heap hle rfl hgm hr hp.val,fun b hb hq=>hp.same b hb fun m hm hl => ?_,fun b hb=>⟨fun h=>(hp.mt b hb).1 h.1,fun h=>⟨(hp.mt b hb).2 h,.inl hb⟩⟩,hp.os,hp.tape,hp.output,fun m hl => ?_,fun m hm => ?_⟩
 ·show(C1.live m/\m.1≠n)<->(hget (hap (d.filter fun q => !(q.1.1==n)) h) m).isSome=true
  by_cases c:m.1=n
  ·rw[hnoneD m c]
   exact⟨fun h=>absurd c h.2,fun h=>by cases h⟩
  ·rw[hold m c,<-hp.heap.live m]
   exact⟨fun h=>h.1,fun h=>⟨h,c⟩⟩
 ·have hg:hget (hap (d.filter fun q => !(q.1.1==n)) h) m=some cs:=hg
  have c:m.1≠n:=fun c=>by rw[hnoneD m c]at hg;cases hg
  have hg':hget (hap d h) m=some cs:=(hold m c).symm.trans hg
  obtain⟨arr,ty,ha,hcs⟩:=hp.heap.obj m cs hg'
  exact⟨arr,ty,ha,fun j x hj=>by obtain⟨v,v1,v2⟩:=hcs j x hj;exact⟨v,v1,v2.mono hle⟩⟩
 ·have c:=hne m (hh.kn m hl)
  refine hq m ?_ hl
  obtain⟨q,q1,rfl⟩:=List.mem_map.1 hm
  exact List.mem_map.2 ⟨q,List.mem_filter.2 ⟨q1,by simpa using c⟩,rfl⟩
 ·rcases hp.orig m hl.1 with h1 | h1 | ⟨m0,h0,h1,h2⟩
  ·exact .inl h1
  ·exact .inr (.inl h1)
  ·refine .inr (.inr ⟨m0,?_,h1,h2⟩)
   obtain⟨q,q1,rfl⟩:=List.mem_map.1 h0
   exact List.mem_map.2 ⟨q,List.mem_filter.2 ⟨q1,by simpa using hne _ (hh.kn _ h1)⟩,rfl⟩
 ·obtain⟨q,q1,rfl⟩:=List.mem_map.1 hm
  exact hp.names _ (List.mem_map.2 ⟨q,(List.mem_filter.1 q1).1,rfl⟩)
end Go.Proofs.Aw
