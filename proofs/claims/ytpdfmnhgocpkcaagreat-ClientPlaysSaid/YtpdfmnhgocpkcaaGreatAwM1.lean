/- Parts of the logic that the proof runs in, one behind the other. -/
import Derived.WalkKit
import Derived.Orders
import Derived.Laws.Pointers
import Derived.Lib.LazyBuf
import Derived.Great.BuildSlice
import Derived.Laws.MakeOwn
import Derived.LoopN
namespace Go.Proofs.Aw
open Go
abbrev Nm:=Nat×Nat
inductive AV where
 | top
 | sc (v:Value)
 | agg (cs:List AV)
 | tup (vs:List AV)
 | ptr (n:Nm) (off:Nat)
 | sl (n:Nm) (z off len:Nat) (own:Bool)
 | ip (cs:List AV) (off:Nat)
 | ro (z:Nat) (D:List (List AV)) (full:Bool)
 | fn (f:Fn) (first cap:List AV)
 | ifc (t:TypeId) (v:AV)
structure Ctx where
 ρ:Nm->Nat
 bs:Nm->Nat
 live:Nm->Prop
 kn:Nm->Prop
 mt:Nat->Prop
 w:World
mutual
def aj (C:Ctx):AV->Value->Prop
 | .top,_=>True
 | .sc v,Y=>Y=v
 | .agg cs,Y=>∃us,Y = .agg us/\aC C cs us.toList
 | .tup cs,Y=>∃us,Y = .tuple us/\aC C cs us.toList
 | .ptr n off,Y=>(∃p,Y = .pointer p)/\C.kn n/\(C.live n->Y = .pointer (some ⟨C.ρ n,C.bs n+off,none⟩))
 | .sl n z off len own,Y=>(∃ab l c,Y = .slice ab l c)/\C.kn n/\(C.live n->∃cap o,Y = .slice (some ⟨C.ρ n,o,none⟩) len cap/\len<=cap/\(o=C.bs n+off\/cap=0) /\
   (own=true->∃cs ty,C.w.heap[C.ρ n]? = some (.cells cs ty (0,0))/\C.bs n+off+cap*z<=cs.size))
 | .ip cs off,Y=>∃a:Addr,Y = .pointer (some (a.add off))/\a.block<C.w.heap.size/\¬C.mt a.block/\cT C a 0 cs
 | .ro z D full,Y=>∃ab cap,Y = .slice ab D.length cap/\D.length<=cap/\(full=true->cap=D.length) /\
   (D≠[]->∃a,ab=some a/\a.block<C.w.heap.size/\¬C.mt a.block/\dc C a z 0 D)
 | .fn f xs ys,Y=>∃us vs,Y = .func f us vs/\aC C xs us.toList/\aC C ys vs.toList
 | .ifc t v,Y=>∃x,Y = .iface t x/\aj C v x
def aC (C:Ctx):List AV->List Value->Prop
 | [],us=>us=[]
 | c::cs,us=>∃Y vs,us=Y::vs/\aj C c Y/\aC C cs vs
def cT (C:Ctx) (a:Addr):Nat->List AV->Prop
 | _,[]=>True
 | i,c::cs=>(∃Y,C.w.cell? (a.add i)=some Y/\aj C c Y)/\cT C a (i+1) cs
def dc (C:Ctx) (a:Addr) (z:Nat):Nat->List (List AV)->Prop
 | _,[]=>True
 | i,e::D=>e.length=z/\cT C a (i*z) e/\dc C a z (i+1) D
end
theorem block_add (a:Addr) (n:Nat):(a.add n).block=a.block:=by unfold Addr.add;split<;>rfl
theorem add_add (a:Addr) (i j:Nat):(a.add i).add j=a.add (i+j):=by
 unfold Addr.add
 by_cases hi:i=0<;>by_cases O:j=0<;>simp[hi,O,Nat.add_assoc]
theorem jS (b o n:Nat):(⟨b,o,none⟩:Addr).add n=⟨b,o+n,none⟩:=by
 unfold Addr.add
 by_cases h:n=0<;>simp[h]
structure Ctx.le (C C':Ctx):Prop where
 size:C.w.heap.size<=C'.w.heap.size
 same:∀b,b<C.w.heap.size->¬C.mt b->C'.w.heap[b]? = C.w.heap[b]?
 mt:∀b,b<C.w.heap.size->C'.mt b->C.mt b
 kn:∀i,C.kn i->C'.kn i
 live:∀n,C.kn n->C'.live n->C.live n/\C'.ρ n=C.ρ n/\C'.bs n=C.bs n
 own:∀n,C.kn n->C'.live n->∀cs ty,C.w.heap[C.ρ n]? = some (.cells cs ty (0,0))->∃bn ty',C'.w.heap[C.ρ n]? = some (.cells bn ty' (0,0))/\bn.size=cs.size
theorem Ctx.le.refl (C:Ctx):C.le C:=⟨Nat.le_refl _,fun _ _ _=>rfl,fun _ _ h=>h,fun _ h=>h,fun _ _ h=>⟨h,rfl,rfl⟩,fun _ _ _ cs ty h=>⟨cs,ty,h,rfl⟩⟩
theorem Ctx.le.trans {ab ad C:Ctx} (h:ab.le ad) (k:ad.le C):ab.le C where
 size:=Nat.le_trans h.size k.size
 same b hb hm:=(k.same b (Nat.lt_of_lt_of_le hb h.size) (fun a0=>hm (h.mt b hb a0))).trans (h.same b hb hm)
 mt b hb hm:=h.mt b hb (k.mt b (Nat.lt_of_lt_of_le hb h.size) hm)
 kn i hi:=k.kn i (h.kn i hi)
 live n hn M:=by
  obtain⟨l1,e1,f1⟩:=k.live n (h.kn _ hn) M
  obtain⟨l2,e2,gu⟩:=h.live n hn l1
  exact⟨l2,e1.trans e2,f1.trans gu⟩
 own n hn M cs ty H:=by
  obtain⟨l1,e1,_⟩:=k.live n (h.kn _ hn) M
  obtain⟨cs1,zr,A,s1⟩:=h.own n hn l1 cs ty H
  have e2:=(h.live n hn l1).2.1
  obtain⟨cs2,ty2,E,s2⟩:=k.own n (h.kn _ hn) M cs1 zr (by rw[e2];exact A)
  exact⟨cs2,ty2,by rw[<-e2];exact E,s2.trans s1⟩
theorem Ctx.le.cell {C C':Ctx} (h:C.le C') {a:Addr} (hb:a.block<C.w.heap.size) (hm:¬C.mt a.block):C'.w.cell? a=C.w.cell? a :=
 World.cell?_of_block (h.same _ hb hm)
mutual
theorem aj.mono {C C':Ctx} (h:C.le C'):∀(v:AV) (Y:Value),aj C v Y->aj C' v Y
 | .top,_,_=>trivial
 | .sc _,_,hu=>hu
 | .agg cs,_,⟨us,e,H⟩=>⟨us,e,aC.mono h cs _ H⟩
 | .tup cs,_,⟨us,e,H⟩=>⟨us,e,aC.mono h cs _ H⟩
 | .ptr n _,_,⟨hp,u,hu⟩=>⟨hp,h.kn _ u,fun M=>by
   obtain⟨l,e,f⟩:=h.live n u M
   rw[e,f];exact hu l⟩
 | .sl n z off len own,_,⟨hp,u,hu⟩=>⟨hp,h.kn _ u,fun M=>by
   obtain⟨l,e,f⟩:=h.live n u M
   obtain⟨cap,o,hu1,aZ,qF,ho⟩:=hu l
   refine⟨cap,o,by rw[e];exact hu1,aZ,by rw[f];exact qF,fun xZ => ?_⟩
   obtain⟨cs,ty,H,hs⟩:=ho xZ
   obtain⟨bn,ty',dA,cu⟩:=h.own n u M cs ty H
   exact⟨bn,ty',by rw[e];exact dA,by rw[cu,f];exact hs⟩⟩
 | .ip cs off,_,⟨a,hu,hb,hm,H⟩=>⟨a,hu,Nat.lt_of_lt_of_le hb h.size,fun a0=>hm (h.mt _ hb a0),cT.mono h a hb hm 0 cs H⟩
 | .ro z D full,_,⟨ab,cap,hu,aZ,hf,G⟩=>⟨ab,cap,hu,aZ,hf,fun ay=>by
   obtain⟨a,hA,hb,hm,H⟩:=G ay
   exact⟨a,hA,Nat.lt_of_lt_of_le hb h.size,fun a0=>hm (h.mt _ hb a0),dc.mono h a z hb hm 0 D H⟩⟩
 | .fn f xs ys,_,⟨us,vs,e,hx,hy⟩=>⟨us,vs,e,aC.mono h xs _ hx,aC.mono h ys _ hy⟩
 | .ifc t v,_,⟨x,e,hx⟩=>⟨x,e,aj.mono h v _ hx⟩
theorem aC.mono {C C':Ctx} (h:C.le C'):∀(cs:List AV) (us:List Value),aC C cs us->aC C' cs us
 | [],_,hu=>hu
 | c::cs,_,⟨Y,vs,e,H,M⟩=>⟨Y,vs,e,aj.mono h c Y H,aC.mono h cs vs M⟩
theorem cT.mono {C C':Ctx} (h:C.le C') (a:Addr) (hb:a.block<C.w.heap.size) (hm:¬C.mt a.block):∀(i:Nat) (cs:List AV),cT C a i cs->cT C' a i cs
 | _,[],_=>trivial
 | i,c::cs,⟨⟨Y,hu,H⟩,M⟩=>⟨⟨Y,by rw[h.cell (by rw[block_add];exact hb) (by rw[block_add];exact hm)];exact hu,aj.mono h c Y H⟩,cT.mono h a hb hm (i+1) cs M⟩
theorem dc.mono {C C':Ctx} (h:C.le C') (a:Addr) (z:Nat) (hb:a.block<C.w.heap.size) (hm:¬C.mt a.block):∀(i:Nat) (D:List (List AV)),dc C a z i D->dc C' a z i D
 | _,[],_=>trivial
 | i,e::D,⟨M,H,G⟩=>⟨M,cT.mono h a hb hm _ e H,dc.mono h a z hb hm (i+1) D G⟩
end
theorem aC.length {C:Ctx}:∀{cs:List AV} {us:List Value},aC C cs us->cs.length=us.length
 | [],_,h=>by simp only[aC]at h;subst h;rfl
 | c::cs,_,h=>by
  simp only[aC]at h
  obtain⟨Y,vs,rfl,_,M⟩:=h
  simp[aC.length M]
theorem aC.get {C:Ctx}:∀{cs:List AV} {us:List Value},aC C cs us->∀(i:Nat) (c:AV),cs[i]? = some c->∃Y,us[i]? = some Y/\aj C c Y
 | [],_,_,i,c,h=>by simp at h
 | d::cs,_,W,i,c,h=>by
  simp only[aC]at W
  obtain⟨Y,vs,rfl,H,M⟩:=W
  cases i with
  | zero=>simp at h;subst h;exact⟨Y,rfl,H⟩
  | succ i=>simpa using aC.get M i c (by simpa using h)
theorem aC.mk {C:Ctx}:∀{cs:List AV} {us:List Value},cs.length=us.length->(∀(i:Nat) (c:AV) (Y:Value),cs[i]? = some c->us[i]? = some Y->aj C c Y)->aC C cs us
 | [],us,M,_=>by
  simp only[aC]
  exact List.length_eq_zero_iff.1 M.symm
 | c::cs,[],M,_=>by simp at M
 | c::cs,Y::us,M,h=>by
  simp only[aC]
  exact⟨Y,us,rfl,h 0 c Y rfl rfl,aC.mk (by simpa using M) fun i dx u' A E=>h (i+1) dx u' (by simpa using A) (by simpa using E)⟩
theorem aC.take {C:Ctx} {cs:List AV} {us:List Value} (h:aC C cs us) (n:Nat):aC C (cs.take n) (us.take n) :=
 aC.mk (by simp[h.length]) fun i c Y A E=>by
  simp only[List.getElem?_take]at A E
  split at A
  ·rename_i hi
   simp only[hi,if_true]at E
   obtain⟨u',a3,H⟩:=h.get i c A
   rw[a3]at E;cases E;exact H
  ·cases A
theorem aC.drop {C:Ctx} {cs:List AV} {us:List Value} (h:aC C cs us) (n:Nat):aC C (cs.drop n) (us.drop n) :=
 aC.mk (by simp[h.length]) fun i c Y A E=>by
  simp only[List.getElem?_drop]at A E
  obtain⟨u',a3,H⟩:=h.get _ c A
  rw[a3]at E;cases E;exact H
theorem aC.append {C:Ctx}:∀{cs ds:List AV} {us vs:List Value},aC C cs us->aC C ds vs->aC C (cs++ds) (us++vs)
 | [],ds,us,vs,h,k=>by simp only[aC]at h;subst h;exact k
 | c::cs,ds,_,vs,h,k=>by
  simp only[aC]at h
  obtain⟨Y,us,rfl,H,M⟩:=h
  simp only[List.cons_append,aC]
  exact⟨Y,us++vs,rfl,H,aC.append M k⟩
theorem cT.get {C:Ctx} {a:Addr}:∀{i:Nat} {cs:List AV},cT C a i cs->∀(j:Nat) (c:AV),cs[j]? = some c->∃Y,C.w.cell? (a.add (i+j))=some Y/\aj C c Y
 | _,[],_,j,c,h=>by simp at h
 | i,d::cs,W,j,c,h=>by
  simp only[cT]at W
  obtain⟨⟨Y,hu,H⟩,M⟩:=W
  cases j with
  | zero=>simp at h;subst h;exact⟨Y,hu,H⟩
  | succ j =>
   have:=cT.get M j c (by simpa using h)
   rwa[show i+1+j=i+(j+1)from by omega]at this
theorem cT.mk {C:Ctx} {a:Addr}:∀{i:Nat} {cs:List AV},(∀(j:Nat) (c:AV),cs[j]? = some c->∃Y,C.w.cell? (a.add (i+j))=some Y/\aj C c Y)->cT C a i cs
 | _,[],_=>by simp only[cT]
 | i,d::cs,h=>by
  simp only[cT]
  refine⟨h 0 d rfl,cT.mk fun j c O => ?_⟩
  have:=h (j+1) c (by simpa using O)
  rwa[show i+(j+1)=i+1+j from by omega]at this
theorem dc.get {C:Ctx} {a:Addr} {z:Nat}:∀{i:Nat} {D:List (List AV)},dc C a z i D->∀(j:Nat) (e:List AV),D[j]? = some e->e.length=z/\cT C (a.add ((i+j)*z)) 0 e
 | _,[],_,j,c,h=>by simp at h
 | i,d::D,W,j,e,h=>by
  simp only[dc]at W
  obtain⟨hz,H,M⟩:=W
  cases j with
  | zero =>
   simp at h;subst h
   refine⟨hz,cT.mk fun j c O => ?_⟩
   obtain⟨Y,hu,a9⟩:=H.get j c O
   exact⟨Y,by rw[add_add];simpa using hu,a9⟩
  | succ j =>
   have:=dc.get M j e (by simpa using h)
   rwa[show i+1+j=i+(j+1)from by omega]at this
theorem dc.mk {C:Ctx} {a:Addr} {z:Nat}:∀{i:Nat} {D:List (List AV)},(∀(j:Nat) (e:List AV),D[j]? = some e->e.length=z/\cT C (a.add ((i+j)*z)) 0 e)->dc C a z i D
 | _,[],_=>by simp only[dc]
 | i,d::D,h=>by
  simp only[dc]
  obtain⟨A,E⟩:=h 0 d rfl
  refine⟨A,cT.mk fun j c O => ?_,dc.mk fun j e O => ?_⟩
  ·obtain⟨Y,hu,a9⟩:=E.get j c O
   rw[add_add]at hu
   exact⟨Y,by simpa using hu,a9⟩
  ·have:=h (j+1) e (by simpa using O)
   rwa[show i+(j+1)=i+1+j from by omega]at this
end Go.Proofs.Aw
namespace Go.Proofs.Aw
open Go
abbrev Tp:=List (Nat×AV)
abbrev Hp:=List (Nm×List AV)
abbrev Dl:=List (Nm×Option (List AV))
def bR:Tp->Nat->AV
 | [],_ => .top
 | (j,v)::l,i=>if j=i then v else bR l i
def ae:Hp->Nm->Option (List AV)
 | [],_=>none
 | (m,v)::l,n=>if m=n then some v else ae l n
def pg:Hp->Nm->Hp
 | [],_=>[]
 | (m,v)::l,n=>if m=n then pg l n else(m,v)::pg l n
def gU:Hp->Nm->List AV->Hp
 | [],n,v=>[(n,v)]
 | (m,Y)::l,n,v=>if m=n then(m,v)::l else(m,Y)::gU l n v
def aD:Dl->Hp->Hp
 | [],h=>h
 | (n,some v)::d,h=>aD d (gU h n v)
 | (n,none)::d,h=>aD d (pg h n)
def gG (d:Option Tmp) (v:AV) (t:Tp):Tp :=
 match d with
 | some d=>(d,v)::t
 | none=>t
def ev (t:Tp):Operand->AV
 | .tmp i=>bR t i
 | .const v => .sc v
 | .global g => .sc (.pointer (some ⟨g,0,none⟩))
 | .func f => .fn (.func f) [] []
theorem dI (h:Hp) (n m:Nm) (v:List AV):ae (gU h n v) m=if n=m then some v else ae h m:=by
 induction h with
 | nil=>simp[gU,ae]
 | cons x l ih =>
  obtain⟨k,Y⟩:=x
  by_cases u:k=n
  ·subst u;by_cases hm:k=m<;>simp[gU,ae,hm]
  ·by_cases hm:k=m
   ·subst hm;simp[gU,ae,u,Ne.symm u]
   ·simp only[gU,u,if_false,ae,hm,ih]
theorem u3 (h:Hp) (n m:Nm):ae (pg h n) m=if n=m then none else ae h m:=by
 induction h with
 | nil=>simp[pg,ae]
 | cons x l ih =>
  obtain⟨k,Y⟩:=x
  by_cases u:k=n
  ·subst u
   simp only[pg,if_true,ih,ae]
   by_cases hm:k=m<;>simp[hm]
  ·by_cases hm:k=m
   ·subst hm;simp[pg,ae,u,Ne.symm u]
   ·simp only[pg,u,if_false,ae,hm,ih]
theorem gw:∀(d:Dl) (h:Hp) (m:Nm),m∉d.map (·.1)->ae (aD d h) m=ae h m
 | [],_,_,_=>rfl
 | (n,some v)::d,h,m,hm=>by
  simp only[List.map_cons,List.mem_cons,not_or]at hm
  simp only[aD]
  rw[gw d _ m hm.2,dI,if_neg (Ne.symm hm.1)]
 | (n,none)::d,h,m,hm=>by
  simp only[List.map_cons,List.mem_cons,not_or]at hm
  simp only[aD]
  rw[gw d _ m hm.2,u3,if_neg (Ne.symm hm.1)]
def Jl (C:Ctx) (b k:Nat) (cs:List AV):Prop :=
 ∃arr ty,C.w.heap[b]? = some (.cells arr ty (0,0))/\∀(j:Nat) (c:AV),cs[j]? = some c->∃Y,arr[k+j]? = some Y/\aj C c Y
structure cY (C:Ctx) (h:Hp):Prop where
 live:∀n,C.live n↔(ae h n).isSome=true
 obj:∀n cs,ae h n=some cs->Jl C (C.ρ n) (C.bs n) cs
 inj:∀n m,C.live n->C.live m->C.ρ n=C.ρ m->n=m
 mt:∀n,C.live n->C.mt (C.ρ n)
 kn:∀n,C.live n->C.kn n
def fY (C:Ctx) (t:Tp) (a:Act):Prop:=∀i,aj C (bR t i) (a.tmps.getD i undef)
theorem cY.lt {C:Ctx} {h:Hp} (W:cY C h) {n:Nm} (M:C.live n):C.ρ n<C.w.heap.size:=by
 have A:=(W.live n).1 M
 obtain⟨cs,aI⟩:=Option.isSome_iff_exists.1 A
 obtain⟨arr,ty,ha,_⟩:=W.obj n cs aI
 rcases Nat.lt_or_ge (C.ρ n) C.w.heap.size with E | E
 ·exact E
 ·rw[Array.getElem?_eq_none E]at ha;cases ha
theorem cY.get {C:Ctx} {h:Hp} (W:cY C h) {n:Nm} {cs:List AV} (Z:ae h n=some cs):C.live n:=(W.live n).2 (by rw[Z];rfl)
theorem fY.mono {C C':Ctx} {t:Tp} {a:Act} (h:C.le C') (ht:fY C t a):fY C' t a:=fun i=>aj.mono h _ _ (ht i)
theorem b0 {C:Ctx} {t:Tp} {a:Act} (ht:fY C t a) (x:Operand):aj C (ev t x) (a.eval x):=by
 cases x with
 | tmp i=>exact ht i
 | const v=>simp only[ev,aj,Act.eval]
 | global g=>simp only[ev,aj,Act.eval]
 | func f=>simp only[ev,aj,aC,Act.eval];exact⟨#[],#[],rfl,rfl,rfl⟩
structure cZ (C:Ctx) (n:Nat) (h:Hp) (r:AV) (d:Dl) (Y:Value) (C':Ctx):Prop where
 le:C.le C'
 kn:∀i,C'.kn i↔C.kn i\/i.1=n
 heap:cY C' (aD d h)
 val:aj C' r Y
 same:∀b,b<C.w.heap.size->(∀m,m∈d.map (·.1)->C.live m->b≠C.ρ m)->C'.w.heap[b]? = C.w.heap[b]?
 mt:∀b,b<C.w.heap.size->(C'.mt b↔C.mt b)
 os:C'.w.os=C.w.os
 tape:C'.w.tape=C.w.tape
 output:C'.w.output=C.w.output
 lA:∀m,C'.live m->(C.live m/\C'.ρ m=C.ρ m)\/C.w.heap.size<=C'.ρ m\/∃m0,m0∈d.map (·.1)/\C.live m0/\C'.ρ m=C.ρ m0
 names:∀m,m∈d.map (·.1)->C.live m\/m.1=n
def Yields (P:Program) (n:Nat) (op:Op) (t:Tp) (h:Hp) (r:AV) (d:Dl):Prop :=
 ∀(C:Ctx) (a:Act) (o:Oper) (next:Act->World->Prop) (Q:Exit->Act->World->Prop),o.op=op->cY C h->fY C t a->(∀k,¬C.kn (n,k)) ->
  (∀Y C',cZ C n h r d Y C'->next (a.put o.dst Y) C'.w)->o.wp P a C.w next Q
def Ctx.same (C:Ctx) (n:Nat) (w:World):Ctx:={ C with kn:=fun i=>C.kn i\/i.1=n,w:=w }
theorem Ctx.Nq (C:Ctx) (n:Nat) {w:World} (hw:w.heap=C.w.heap):C.le (C.same n w) where
 size:=by simp[Ctx.same,hw]
 same b _ _:=by simp[Ctx.same,hw]
 mt _ _ h:=h
 kn _ h := .inl h
 live _ _ h:=⟨h,rfl,rfl⟩
 own n _ _ cs ty H:=⟨cs,ty,by simp[Ctx.same,hw,H],rfl⟩
theorem cY.mono {C C':Ctx} {h:Hp} (W:cY C h) (le:C.le C') (M:∀n,C'.live n↔C.live n) (hb:∀n,C.live n->C'.w.heap[C.ρ n]? = C.w.heap[C.ρ n]?) (hm:∀b,C.mt b->b<C.w.heap.size->C'.mt b):cY C' h where
 live n:=(M n).trans (W.live n)
 obj n cs Z:=by
  have dJ:=W.get Z
  obtain⟨_,e,f⟩:=le.live n (W.kn n dJ) ((M n).2 dJ)
  obtain⟨arr,ty,ha,H⟩:=W.obj n cs Z
  refine⟨arr,ty,by rw[e,hb n dJ];exact ha,fun j c O => ?_⟩
  obtain⟨Y,hu,a9⟩:=H j c O
  exact⟨Y,by rw[f];exact hu,a9.mono le⟩
 inj n m hn a0 G:=by
  have A:=(M n).1 hn
  have E:=(M m).1 a0
  rw[(le.live n (W.kn n A) hn).2.1,(le.live m (W.kn m E) a0).2.1]at G
  exact W.inj n m A E G
 mt n hn:=by
  have A:=(M n).1 hn
  rw[(le.live n (W.kn n A) hn).2.1]
  exact hm _ (W.mt n A) (W.lt A)
 kn n hn:=le.kn _ (W.kn n ((M n).1 hn))
theorem cZ.pure {C:Ctx} {n:Nat} {h:Hp} {r:AV} {Y:Value} (W:cY C h) (hr:aj C r Y) {w:World} (hw:w.heap=C.w.heap) (ho:w.os=C.w.os) (ht:w.tape=C.w.tape) (hu:w.output=C.w.output):cZ C n h r [] Y (C.same n w) where
 le:=C.Nq n hw
 kn _:=Iff.rfl
 heap:=W.mono (C.Nq n hw) (fun _=>Iff.rfl) (fun _ _=>by simp[Ctx.same,hw]) (fun _ hm _=>hm)
 val:=hr.mono (C.Nq n hw)
 same b _ _:=by simp[Ctx.same,hw]
 mt _ _:=Iff.rfl
 os:=ho
 tape:=ht
 output:=hu
 lA m hm := .inl ⟨hm,rfl⟩
 names _ hm:=by simp at hm
def Ctx.iC (C:Ctx) (n:Nat) (w:World):Ctx:={ C with kn:=fun i=>C.kn i\/i.1=n,mt:=fun b=>C.mt b/\b<C.w.heap.size,w:=w }
theorem Ctx.Np (C:Ctx) (n:Nat) {w:World} {o:Obj} (hw:w.heap=C.w.heap.push o):C.le (C.iC n w) where
 size:=by simp[Ctx.iC,hw]
 same b hb _:=by simp[Ctx.iC,hw,Array.getElem?_push,Nat.ne_of_lt hb]
 mt _ _ h:=h.1
 kn _ h := .inl h
 live _ _ h:=⟨h,rfl,rfl⟩
 own n _ _ cs ty H:=⟨cs,ty,by
  have hb:C.ρ n<C.w.heap.size:=by
   rcases Nat.lt_or_ge (C.ρ n) C.w.heap.size with E | E
   ·exact E
   ·rw[Array.getElem?_eq_none E]at H;cases H
  simp[Ctx.iC,hw,Array.getElem?_push,Nat.ne_of_lt hb,H],rfl⟩
theorem cZ.iC {C:Ctx} {n:Nat} {h:Hp} {r:AV} {Y:Value} (W:cY C h) {w:World} {o:Obj} (hw:w.heap=C.w.heap.push o) (hr:aj (C.iC n w) r Y) (ho:w.os=C.w.os) (ht:w.tape=C.w.tape) (hu:w.output=C.w.output):cZ C n h r [] Y (C.iC n w) where
 le:=C.Np n hw
 kn _:=Iff.rfl
 heap:=W.mono (C.Np n hw) (fun _=>Iff.rfl) (fun n' M=>by
   have hb:=W.lt M
   simp[Ctx.iC,hw,Array.getElem?_push,Nat.ne_of_lt hb]) (fun b hm hb=>⟨hm,hb⟩)
 val:=hr
 same b hb _:=by simp[Ctx.iC,hw,Array.getElem?_push,Nat.ne_of_lt hb]
 mt b hb:=⟨fun hm=>hm.1,fun hm=>⟨hm,hb⟩⟩
 os:=ho
 tape:=ht
 output:=hu
 lA m hm := .inl ⟨hm,rfl⟩
 names _ hm:=by simp at hm
def Ctx.cg (C:Ctx) (n:Nat) (w:World):Ctx where
 ρ:=fun m=>if m=(n,0)then C.w.heap.size else C.ρ m
 bs:=fun m=>if m=(n,0)then 0 else C.bs m
 live:=fun m=>m=(n,0)\/C.live m
 kn:=fun i=>C.kn i\/i.1=n
 mt:=fun b=>(C.mt b/\b<C.w.heap.size)\/b=C.w.heap.size
 w:=w
theorem Ctx.ahG (C:Ctx) (n:Nat) (hn:(∀k,¬C.kn (n,k))) {w:World} {o:Obj} (hw:w.heap=C.w.heap.push o):C.le (C.cg n w) where
 size:=by simp[Ctx.cg,hw]
 same b hb _:=by simp[Ctx.cg,hw,Array.getElem?_push,Nat.ne_of_lt hb]
 mt b hb h:=by
  rcases h with h | h
  ·exact h.1
  ·omega
 kn _ h := .inl h
 live m u h:=by
  have ay:m≠(n,0):=fun e=>by subst e;exact hn 0 u
  simp only[Ctx.cg,ay,false_or,if_false]at h ⊢
  exact⟨h,trivial,trivial⟩
 own m _ _ cs ty H:=⟨cs,ty,by
  have hb:C.ρ m<C.w.heap.size:=by
   rcases Nat.lt_or_ge (C.ρ m) C.w.heap.size with E | E
   ·exact E
   ·rw[Array.getElem?_eq_none E]at H;cases H
  simp[Ctx.cg,hw,Array.getElem?_push,Nat.ne_of_lt hb,H],rfl⟩
theorem cZ.cg {C:Ctx} {n:Nat} {h:Hp} {r:AV} {Y:Value} {cs:List AV} {arr:Array Value} {ty:TypeId} (W:cY C h) (hn:(∀k,¬C.kn (n,k))) {w:World} (hw:w.heap=C.w.heap.push (.cells arr ty))
  (aI:∀(j:Nat) (c:AV),cs[j]? = some c->∃Y,arr[j]? = some Y/\aj C c Y) (hr:aj (C.cg n w) r Y) (ho:w.os=C.w.os) (ht:w.tape=C.w.tape) (hu:w.output=C.w.output) :
  cZ C n h r [((n,0),some cs)] Y (C.cg n w):=by
 have le:=C.ahG n hn hw
 have ay:∀m,C.live m->m≠(n,0):=fun m hm e=>hn 0 (by have:=W.kn m hm;rw[e]at this;exact this)
 have iR:∀m,ae (aD [((n,0),some cs)] h) m=if(n,0)=m then some cs else ae h m:=fun m=>by simp only[aD];exact dI _ _ _ _
 have kg:∀m,C.live m->(C.cg n w).ρ m=C.ρ m:=fun m hm=>by simp[Ctx.cg,ay m hm]
 have n8:∀m,C.live m->(C.cg n w).bs m=C.bs m:=fun m hm=>by simp[Ctx.cg,ay m hm]
 refine⟨le,fun _=>Iff.rfl,⟨fun m => ?_,fun m bn Z => ?_,fun m m' hm a0 G => ?_,fun m hm => ?_,fun m hm => ?_⟩,hr,fun b hb _ => ?_,fun b hb => ?_,ho,ht,hu,fun m hm => ?_,fun m hm => ?_⟩
 ·rw[iR]
  by_cases e:(n,0)=m
  ·simp[Ctx.cg,<-e]
  ·rw[if_neg e,<-W.live m]
   simp[Ctx.cg,Ne.symm e]
 ·rw[iR]at Z
  by_cases e:(n,0)=m
  ·rw[if_pos e]at Z
   subst e
   cases Z
   refine⟨arr,ty,by simp[Ctx.cg,hw],fun j c O => ?_⟩
   obtain⟨u',a3,H⟩:=aI j c O
   exact⟨u',by simp only[Ctx.cg,if_true,Nat.zero_add];exact a3,H.mono le⟩
  ·rw[if_neg e]at Z
   have M:=W.get Z
   obtain⟨arr',ty',ha,H⟩:=W.obj m bn Z
   have hb:=W.lt M
   refine⟨arr',ty',by rw[kg m M];simp[Ctx.cg,hw,Array.getElem?_push,Nat.ne_of_lt hb,ha],fun j c O => ?_⟩
   obtain⟨u',a3,dA⟩:=H j c O
   exact⟨u',by rw[n8 m M];exact a3,dA.mono le⟩
 ·by_cases e:m=(n,0)<;>by_cases e':m'=(n,0)
  ·rw[e,e']
  ·have bX:C.live m':=by simpa [Ctx.cg,e']using a0
   have:=W.lt bX
   rw[kg m' bX,e]at G
   simp[Ctx.cg]at G
   omega
  ·have M:C.live m:=by simpa [Ctx.cg,e]using hm
   have:=W.lt M
   rw[kg m M,e']at G
   simp[Ctx.cg]at G
   omega
  ·have M:C.live m:=by simpa [Ctx.cg,e]using hm
   have bX:C.live m':=by simpa [Ctx.cg,e']using a0
   rw[kg m M,kg m' bX]at G
   exact W.inj m m' M bX G
 ·by_cases e:m=(n,0)
  ·simp[Ctx.cg,e]
  ·have M:C.live m:=by simpa [Ctx.cg,e]using hm
   rw[kg m M]
   exact .inl ⟨W.mt m M,W.lt M⟩
 ·by_cases e:m=(n,0)
  ·simp[Ctx.cg,e]
  ·have M:C.live m:=by simpa [Ctx.cg,e]using hm
   exact .inl (W.kn m M)
 ·simp[Ctx.cg,hw,Array.getElem?_push,Nat.ne_of_lt hb]
 ·simp only[Ctx.cg]
  constructor
  ·rintro(A | A)
   ·exact A.1
   ·omega
  ·intro A;exact .inl ⟨A,hb⟩
 ·by_cases e:m=(n,0)
  ·exact .inr (.inl (by simp[Ctx.cg,e]))
  ·have M:C.live m:=by simpa [Ctx.cg,e]using hm
   exact .inl ⟨M,kg m M⟩
 ·simp at hm
  exact .inr (by rw[hm])
theorem Ctx.ahH (C:Ctx) (n:Nat) {b:Nat} (hm:C.mt b) {w:World} {arr arr':Array Value} {ty:TypeId} (hb:C.w.heap[b]? = some (.cells arr ty (0,0))) (f0:w.heap[b]? = some (.cells arr' ty (0,0)))
  (hs:arr'.size=arr.size) (b7:w.heap.size=C.w.heap.size) (ho:∀k,k≠b->w.heap[k]? = C.w.heap[k]?):C.le (C.same n w) where
 size:=by simp[Ctx.same,b7]
 same k _ u:=ho k (fun e=>u (by rw[e];exact hm))
 mt _ _ h:=h
 kn _ h := .inl h
 live _ _ h:=⟨h,rfl,rfl⟩
 own m _ _ cs ty' H:=by
  by_cases e:C.ρ m=b
  ·rw[e]at H ⊢
   rw[hb]at H
   cases H
   exact⟨arr',ty,f0,hs⟩
  ·exact⟨cs,ty',(ho _ e).trans H,rfl⟩
theorem cZ.mod {C:Ctx} {n:Nat} {h:Hp} {r:AV} {Y:Value} {m:Nm} {cs bn:List AV} (W:cY C h) (Z:ae h m=some cs) {w:World} {arr arr':Array Value} {ty:TypeId}
  (hb:C.w.heap[C.ρ m]? = some (.cells arr ty (0,0))) (f0:w.heap[C.ρ m]? = some (.cells arr' ty (0,0))) (hs:arr'.size=arr.size) (b7:w.heap.size=C.w.heap.size) (sO:∀k,k≠C.ρ m->w.heap[k]? = C.w.heap[k]?)
  (aI:∀(j:Nat) (c:AV),bn[j]? = some c->∃Y,arr'[C.bs m+j]? = some Y/\aj C c Y) (hr:aj C r Y) (ho:w.os=C.w.os) (ht:w.tape=C.w.tape) (hu:w.output=C.w.output) :
  cZ C n h r [(m,some bn)] Y (C.same n w):=by
 have M:=W.get Z
 have le:=C.ahH n (W.mt m M) hb f0 hs b7 sO
 have iR:∀k,ae (aD [(m,some bn)] h) k=if m=k then some bn else ae h k:=fun k=>by simp only[aD];exact dI _ _ _ _
 refine⟨le,fun _=>Iff.rfl,⟨fun k => ?_,fun k ds u => ?_,fun k k' u aM G=>W.inj k k' u aM G,fun k u=>W.mt k u,fun k u => .inl (W.kn k u)⟩,hr.mono le,fun b _ ay=>sO b (ay m (by simp) M),fun _ _=>Iff.rfl,ho,ht,hu,fun k u => .inl ⟨u,rfl⟩,fun k u => ?_⟩
 ·rw[iR]
  by_cases e:m=k
  ·subst e;simp[Ctx.same,M]
  ·rw[if_neg e];exact W.live k
 ·rw[iR]at u
  by_cases e:m=k
  ·subst e
   rw[if_pos rfl]at u;cases u
   refine⟨arr',ty,f0,fun j c O => ?_⟩
   obtain⟨u',a3,H⟩:=aI j c O
   exact⟨u',a3,H.mono le⟩
  ·rw[if_neg e]at u
   obtain⟨arr1,zr,ha,H⟩:=W.obj k ds u
   refine⟨arr1,zr,?_,fun j c O => ?_⟩
   ·exact(sO _ (fun G=>e (W.inj _ _ M (W.get u) G.symm))).trans ha
   ·obtain⟨u',a3,dA⟩:=H j c O
    exact⟨u',a3,dA.mono le⟩
 ·simp at u;subst u;exact .inl M
theorem Yields.pure {P:Program} {n:Nat} {op:Op} {t:Tp} {h:Hp} {r:AV}
  (aR:∀(C:Ctx) (a:Act) (o:Oper),o.op=op->cY C h->fY C t a->∃Y,(execOp a.eval o).run P C.w = .ok (.value Y) C.w/\aj C r Y):Yields P n op t h r []:=by
 intro C a o next Q ho W ht _ u
 obtain⟨Y,hr,H⟩:=aR C a o ho W ht
 unfold Oper.wp
 rw[hr]
 exact u Y (C.same n C.w) (cZ.pure W H rfl rfl rfl rfl)
theorem Yields.run {P:Program} {n:Nat} {op:Op} {t:Tp} {h:Hp} {r:AV} {d:Dl}
  (aR:∀(C:Ctx) (a:Act) (o:Oper),o.op=op->cY C h->fY C t a->(∀k,¬C.kn (n,k))->∃Y C',(execOp a.eval o).run P C.w = .ok (.value Y) C'.w/\cZ C n h r d Y C'):Yields P n op t h r d:=by
 intro C a o next Q ho W ht hn u
 obtain⟨Y,C',hr,hp⟩:=aR C a o ho W ht hn
 unfold Oper.wp
 rw[hr]
 exact u Y C' hp
theorem Yields.skip {P:Program} {n:Nat} {op:Op} {t:Tp} {h:Hp} {d:Dl}
  (aR:∀(C:Ctx) (a:Act) (o:Oper),o.op=op->cY C h->fY C t a->(∀k,¬C.kn (n,k))->∃C',(execOp a.eval o).run P C.w = .ok .skip C'.w/\cZ C n h (.sc undef) d undef C'):Yields P n op t h (.sc undef) d:=by
 intro C a o next Q ho W ht hn u
 obtain⟨C',hr,hp⟩:=aR C a o ho W ht hn
 unfold Oper.wp
 rw[hr]
 exact u undef C' hp
end Go.Proofs.Aw
namespace Go.Proofs.Aw
open Go
def AV.cells:AV->List AV
 | .agg cs=>cs
 | v=>[v]
def AV.one:AV->Bool
 | .sc v=>v.oneCell'
 | .top | .agg _ | .tup _=>false
 | _=>true
def fz (P:Program) (t:TypeId):Option (List AV):=(P.info? t).bind fun i=>i.zero.map fun v=>v.cells.toList.map AV.sc
def eT (P:Program) (t:TypeId):Option Bool:=match P.underlying t with | some (.struct _) | some (.array _ _)=>some true | some _=>some false | none=>none
section
variable {P:Program} {n:Nat} {t:Tp} {h:Hp}
theorem ab6 (x:Operand):Yields P n (.move x) t h (ev t x) [] :=
 Yields.pure fun C a o ho _ ht=>⟨a.eval x,by unfold execOp;rw[ho];rfl,b0 ht x⟩
theorem abG (x:Operand):Yields P n (.assign x) t h (ev t x) [] :=
 Yields.pure fun C a o ho _ ht=>⟨a.eval x,by unfold execOp;rw[ho];rfl,b0 ht x⟩
theorem acb {c x y:Operand} {b:Bool} (H:ev t c = .sc (.bool b)):Yields P n (.pick c x y) t h (if b=true then ev t x else ev t y) [] :=
 Yields.pure fun C a o ho _ ht=>by
  have A:=b0 ht c
  rw[H]at A
  simp only[aj]at A
  refine⟨if b=true then a.eval x else a.eval y,?_,?_⟩
  ·unfold execOp
   rw[ho]
   simp only[A,asBool]
   rfl
  ·split
   ·exact b0 ht x
   ·exact b0 ht y
theorem Ct {C:Ctx} {v:AV} {Y:Value} (H:aj C v Y) (A:v.one=true):Y.oneCell'=true:=by
 cases v<;>simp only[AV.one,Bool.false_eq_true]at A<;>simp only[aj]at H
 case sc=>rw[H];exact A
 case ptr=>obtain⟨⟨p,rfl⟩,_⟩:=H;rfl
 case sl=>obtain⟨⟨ab,l,c,rfl⟩,_⟩:=H;rfl
 case ip=>obtain⟨a,rfl,_⟩:=H;rfl
 case ro=>obtain⟨ab,c,rfl,_⟩:=H;rfl
 case fn=>obtain⟨x,y,rfl,_⟩:=H;rfl
 case ifc=>obtain⟨x,rfl,_⟩:=H;rfl
theorem J0 {C:Ctx} {v:AV} {Y:Value} (H:aj C v Y) (A:v.cells.all AV.one=true):aC C v.cells Y.cells.toList/\∀x∈Y.cells.toList,x.oneCell'=true:=by
 have hL:aC C v.cells Y.cells.toList:=by
  cases v with
  | agg cs =>
   simp only[aj]at H
   obtain⟨us,rfl,M⟩:=H
   exact M
  | _ =>
   have ho:Y.oneCell'=true:=Ct H (by simpa [AV.cells]using A)
   have e:Y.cells.toList=[Y]:=by cases Y<;>first | rfl | cases ho
   rw[e]
   simp only[AV.cells,aC]
   exact⟨Y,[],rfl,H,rfl⟩
 refine⟨hL,fun x hx => ?_⟩
 obtain⟨i,hi,rfl⟩:=List.mem_iff_getElem.1 hx
 have hlen:=hL.length
 obtain⟨u',a3,a9⟩:=hL.get i (v.cells[i]'(by omega)) (List.getElem?_eq_getElem _)
 rw[List.getElem?_eq_getElem hi]at a3
 cases a3
 exact Ct a9 (List.all_eq_true.1 A _ (List.getElem_mem _))
theorem YI (w:World) (e:TypeId) (v:Value):(newVar e v).run P w = .ok ⟨w.heap.size,0,none⟩ { w with heap:=w.heap.push (.cells v.cells e) }:=rfl
theorem ari {e:TypeId} {cs:List AV} (hz:fz P e=some cs) (w:World):∃z,(zeroValue e).run P w = .ok z w/\cs=z.cells.toList.map AV.sc:=by
 unfold fz at hz
 cases hi:P.info? e with
 | none=>rw[hi]at hz;cases hz
 | some i =>
  rw[hi]at hz
  cases il:i.zero with
  | none=>simp[il]at hz
  | some z =>
   simp[il]at hz
   refine⟨z,?_,hz.symm⟩
   unfold zeroValue typeInfo program
   simp only[bind,Sem.bind,pure,Sem.run,hi,il]
theorem P1 {C:Ctx} (us:List Value) (j:Nat) (c:AV) (h:(us.map AV.sc)[j]? = some c):∃Y,us.toArray[j]? = some Y/\aj C c Y:=by
 rw[List.getElem?_map]at h
 cases hu:us[j]? with
 | none=>rw[hu]at h;cases h
 | some Y =>
  rw[hu]at h;cases h
  exact⟨Y,by simpa using hu,by simp only[aj]⟩
theorem abC {e:TypeId} {cs:List AV} (hz:fz P e=some cs):Yields P n (.alloc e) t h (.ptr (n,0) 0) [((n,0),some cs)] :=
 Yields.run fun C a o ho W _ hn=>by
  obtain⟨z,hr,rfl⟩:=ari hz C.w
  refine⟨.pointer (some ⟨C.w.heap.size,0,none⟩),C.cg n { C.w with heap:=C.w.heap.push (.cells z.cells e) },?_,?_⟩
  ·unfold execOp
   rw[ho]
   simp only[Instr.alloc,Sem.run_bind,hr,Result.andThen_ok,YI,Ctx.cg]
   rfl
  ·refine cZ.cg (arr:=z.cells) (ty:=e) W hn rfl (fun j c O=>by simpa using P1 _ j c O) ?_ rfl rfl rfl
   simp only[aj,Ctx.cg,if_true]
   exact⟨⟨_,rfl⟩,.inr trivial,fun _=>trivial⟩
theorem abJ {e:TypeId} {x:Operand} (A:(ev t x).cells.all AV.one=true):Yields P n (.box e x) t h (.ptr (n,0) 0) [((n,0),some (ev t x).cells)] :=
 Yields.run fun C a o ho W ht hn=>by
  refine⟨.pointer (some ⟨C.w.heap.size,0,none⟩),C.cg n { C.w with heap:=C.w.heap.push (.cells (a.eval x).cells e) },?_,?_⟩
  ·unfold execOp
   rw[ho]
   simp only[Instr.box,Sem.run_bind,YI,Result.andThen_ok,Ctx.cg]
   rfl
  ·refine cZ.cg (arr:=(a.eval x).cells) (ty:=e) W hn rfl (fun j c O => ?_) ?_ rfl rfl rfl
   ·obtain⟨Y,hu,a9⟩:=(J0 (b0 ht x) A).1.get j c O
    exact⟨Y,by simpa using hu,a9⟩
   ·simp only[aj,Ctx.cg,if_true]
    exact⟨⟨_,rfl⟩,.inr trivial,fun _=>trivial⟩
theorem HY {ty:TypeId} {b:Bool} (hb:eT P ty=some b) (w:World):(isAgg ty).run P w = .ok b w:=by
 unfold eT at hb
 unfold isAgg
 cases hu:P.underlying ty with
 | none=>rw[hu]at hb;cases hb
 | some d =>
  rw[hu]at hb
  simp only[Sem.run_bind,run_underlying hu,Result.andThen_ok]
  cases d<;>simp at hb<;>subst hb<;>rfl
theorem MZ {ty:TypeId} {z:Nat} (hz:P.cellsOf ty=z) (h0:0<z):∃i,P.info? ty=some i/\i.size=z:=by
 unfold Program.cellsOf at hz
 cases hi:P.info? ty with
 | none=>simp[hi]at hz;omega
 | some i=>exact⟨i,rfl,by simpa [hi]using hz⟩
theorem oL {ty:TypeId} (h0:0<P.cellsOf ty) (w:World):(sizeOf ty).run P w = .ok (P.cellsOf ty) w:=by
 obtain⟨i,hi,_⟩:=MZ (P:=P) (ty:=ty) rfl h0
 exact run_sizeOf w hi
def Rd (agg:Bool) (z:Nat) (cs:List AV) (off:Nat) (v:AV):Prop :=
 (agg=true/\0<z/\off+z<=cs.length/\v = .agg ((cs.drop off).take z))\/(agg=false/\cs[off]? = some v)
theorem HZ {ty:TypeId} {agg:Bool} (hb:eT P ty=some agg) {C:Ctx} {a:Addr} {cs:List AV} {off:Nat} {v:AV}
  (hM:∀(j:Nat) (c:AV),cs[j]? = some c->∃Y,C.w.cell? (a.add j)=some Y/\aj C c Y) (hr:Rd agg (P.cellsOf ty) cs off v):∃Y,(loadVar ty (a.add off)).run P C.w = .ok Y C.w/\aj C v Y:=by
 unfold loadVar
 rcases hr with⟨rfl,h0,hlen,rfl⟩ | ⟨rfl,R⟩
 ·have hx:∀j,j<P.cellsOf ty->∃Y,C.w.cell? ((a.add off).add j)=some Y/\∃c,((cs.drop off).take (P.cellsOf ty))[j]? = some c/\aj C c Y:=fun j O=>by
   obtain⟨Y,hu,H⟩:=hM (off+j) (cs[off+j]'(by omega)) (List.getElem?_eq_getElem _)
   refine⟨Y,by rw[add_add];exact hu,_,?_,H⟩
   rw[List.getElem?_take,if_pos O,List.getElem?_drop,List.getElem?_eq_getElem (by omega)]
  let us:List Value:=(List.range (P.cellsOf ty)).map fun j=>(C.w.cell? ((a.add off).add j)).getD undef
  have fH:us.length=P.cellsOf ty:=by simp[us]
  have ae:∀j v,us[j]? = some v->C.w.cell? ((a.add off).add j)=some v:=fun j v O=>by
   have gy:j<P.cellsOf ty:=by
    have:=(List.getElem?_eq_some_iff.1 O).1
    omega
   obtain⟨Y,hu,_⟩:=hx j gy
   simp only[us,List.getElem?_map,List.getElem?_range gy,Option.map_some,hu,Option.getD_some,Option.some.injEq]at O
   rw[<-O];exact hu
  have bD:=run_loadCells_list (P:=P) C.w (a.add off) us ae
  rw[fH]at bD
  refine⟨.agg us.toArray,?_,?_⟩
  ·simp only[Sem.run_bind,HY hb,Result.andThen_ok,if_true,oL h0,bD]
   rfl
  ·simp only[aj]
   refine⟨us.toArray,rfl,aC.mk ?_ fun j c Y A E => ?_⟩
   ·simp[fH];omega
   ·have gy:j<P.cellsOf ty:=by
     have:=(List.getElem?_eq_some_iff.1 A).1
     simp at this;omega
    obtain⟨u',a3,dx,dA,j7⟩:=hx j gy
    rw[A]at dA;cases dA
    have:=ae j Y (by simpa using E)
    rw[a3]at this;cases this
    exact j7
 ·obtain⟨Y,hu,H⟩:=hM off v R
  refine⟨Y,?_,H⟩
  simp only[Sem.run_bind,HY hb,Result.andThen_ok,Bool.false_eq_true,if_false]
  unfold load
  simp only[Sem.run,hu]
theorem yL {C:Ctx} {b k:Nat} {cs:List AV} (ho:Jl C b k cs) (j:Nat) (c:AV) (O:cs[j]? = some c):∃Y,C.w.cell? ((⟨b,k,none⟩:Addr).add j)=some Y/\aj C c Y:=by
 obtain⟨arr,ty,ha,H⟩:=ho
 obtain⟨Y,hu,a9⟩:=H j c O
 exact⟨Y,by rw[jS,World.cell?,ha];simpa using hu,a9⟩
theorem ab1 {ty:TypeId} {x:Operand} {m:Nm} {off:Nat} {cs:List AV} {agg:Bool} {v:AV} (hx:ev t x = .ptr m off) (Z:ae h m=some cs) (hb:eT P ty=some agg) (hr:Rd agg (P.cellsOf ty) cs off v) :
  Yields P n (.load ty x) t h v [] :=
 Yields.pure fun C a o ho W ht=>by
  have A:=b0 ht x
  rw[hx]at A
  simp only[aj]at A
  have E:=A.2.2 (W.get Z)
  obtain⟨Y,hu,H⟩:=HZ (a:=⟨C.ρ m,C.bs m,none⟩) hb (yL (W.obj m cs Z)) hr
  rw[jS]at hu
  refine⟨Y,?_,H⟩
  unfold execOp
  rw[ho]
  simp only[Instr.loadAt,E,Instr.sureAddr,Sem.run_bind,Sem.run_pure,Result.andThen_ok,hu]
theorem ab0 {ty:TypeId} {x:Operand} {off:Nat} {cs:List AV} {agg:Bool} {v:AV} (hx:ev t x = .ip cs off) (hb:eT P ty=some agg) (hr:Rd agg (P.cellsOf ty) cs off v) :
  Yields P n (.load ty x) t h v [] :=
 Yields.pure fun C a o ho W ht=>by
  have A:=b0 ht x
  rw[hx]at A
  simp only[aj]at A
  obtain⟨ez,E,_,_,mX⟩:=A
  obtain⟨Y,hu,H⟩:=HZ (a:=ez) hb (fun j c O=>by simpa using mX.get j c O) hr
  refine⟨Y,?_,H⟩
  unfold execOp
  rw[ho]
  simp only[Instr.loadAt,E,Instr.sureAddr,Sem.run_bind,Sem.run_pure,Result.andThen_ok,hu]
def fT (cs:List AV) (off:Nat) (vs:List AV):List AV:=cs.take off++(vs++cs.drop (off+vs.length))
theorem acn {ty:TypeId} {x y:Operand} {m:Nm} {off:Nat} {cs:List AV} (hx:ev t x = .ptr m off) (Z:ae h m=some cs) (h0:0<P.cellsOf ty) (M:(ev t y).cells.length=P.cellsOf ty) (hlen:off+P.cellsOf ty<=cs.length)
  (A:(ev t y).cells.all AV.one=true):Yields P n (.store ty x y) t h (.sc undef) [(m,some (fT cs off (ev t y).cells))] :=
 Yields.skip fun C a o ho W ht hn=>by
  have hp:=b0 ht x
  rw[hx]at hp
  simp only[aj]at hp
  have E:=hp.2.2 (W.get Z)
  obtain⟨UQ,gA⟩:=J0 (b0 ht y) A
  obtain⟨arr,oX,ha,H⟩:=W.obj m cs Z
  generalize n8:C.bs m=dp at H E
  have b7:dp+off+P.cellsOf ty<=arr.size:=by
   have Bt:cs[off+P.cellsOf ty-1]? = some (cs[off+P.cellsOf ty-1]'(by omega)):=List.getElem?_eq_getElem _
   obtain⟨Y,hu,_⟩:=H _ _ Bt
   have:=(Array.getElem?_eq_some_iff.1 hu).1
   omega
  have ME:(a.eval y).cells.toList.length=P.cellsOf ty:=by rw[<-UQ.length];exact M
  have Vm:(a.eval y).cells.size=P.cellsOf ty:=by simpa using ME
  let arr':Array Value:=(arr.toList.take (dp+off)++(a.eval y).cells.toList++arr.toList.drop (dp+off+P.cellsOf ty)).toArray
  have bD:=run_storeCells_at (P:=P) (C.ρ m) (dp+off) oX (a.eval y).cells.toList 0 arr C.w ha (by omega) gA
  rw[Nat.add_zero,ME]at bD
  refine⟨C.same n (C.w.setRow (C.ρ m) arr'),?_,?_⟩
  ·unfold execOp
   rw[ho]
   simp only[Instr.storeAt,E,Instr.sureAddr,Sem.run_bind,Sem.run_pure,Result.andThen_ok,storeVar,oL h0,Vm,ne_eq,not_true_eq_false,if_false,bD,Ctx.same]
   rfl
  ·refine cZ.mod W Z ha (setRow_heap C.w (C.ρ m) arr _ oX _ ha) ?_ (by simp) (fun k u => ?_) (fun j c O => ?_) (by simp only[aj]) rfl rfl rfl
   ·simp[arr',Vm];omega
   ·simp[World.setRow,Array.getElem?_modify,Ne.symm u]
   ·rw[n8]
    simp only[fT,M]at O
    have e1:arr'[dp+j]? = (arr.toList.take (dp+off)++(a.eval y).cells.toList++arr.toList.drop (dp+off+P.cellsOf ty))[dp+j]? := by simp[arr']
    rw[e1]
    by_cases Br:j<off
    ·rw[List.getElem?_append_left (by simp;omega),List.getElem?_take,if_pos Br]at O
     obtain⟨Y,hu,a9⟩:=H j c O
     refine⟨Y,?_,a9⟩
     rw[List.append_assoc,List.getElem?_append_left (by simp;omega),List.getElem?_take,if_pos (by omega)]
     simpa using hu
    ·rw[List.getElem?_append_right (by simp;omega)]at O
     simp only[List.length_take,Nat.min_eq_left (show off<=cs.length by omega)]at O
     rw[List.append_assoc,List.getElem?_append_right (by simp;omega)]
     simp only[List.length_take,Array.length_toList,Nat.min_eq_left (show dp+off<=arr.size by omega)]
     rw[show dp+j-(dp+off)=j-off from by omega]
     by_cases Mc:j-off<P.cellsOf ty
     ·rw[List.getElem?_append_left (by omega)]at O ⊢
      exact UQ.get _ c O
     ·rw[List.getElem?_append_right (by omega)]at O ⊢
      rw[M,List.getElem?_drop]at O
      rw[ME,List.getElem?_drop]
      obtain⟨Y,hu,a9⟩:=H _ c O
      exact⟨Y,by rw[Nat.add_assoc,Nat.add_assoc,<-Nat.add_assoc off];simpa using hu,a9⟩
end
end Go.Proofs.Aw
namespace Go.Proofs.Aw
open Go
section
variable {P:Program} {n:Nat} {t:Tp} {h:Hp}
theorem CM (k:IntKind) (i:Int) (w:World):(asIntOf (.int k i)).run P w = .ok (k,i) w:=rfl
theorem YE {ty e:TypeId} {len:Nat} (hu:P.underlying ty=some (.array len e)) (G:0<P.cellsOf e) (a:Addr) (k:IntKind) (i:Int) (h0:0<=i) (A:i<len) (w:World) :
  (Instr.indexAt ty (.pointer (some a)) (.int k i)).run P w = .ok (.pointer (some (a.add (i.toNat*P.cellsOf e)))) w:=by
 unfold Instr.indexAt
 simp only[Sem.run_bind,CM,Result.andThen_ok,run_underlying hu,Instr.sureAddr,Sem.run_pure,oL G,h0,A,and_self,if_true]
theorem YF {ty e:TypeId} {len cap:Nat} (hu:P.underlying ty=some (.slice e)) (G:0<P.cellsOf e) (a:Addr) (k:IntKind) (i:Int) (h0:0<=i) (A:i<len) (w:World) :
  (Instr.indexAt ty (.slice (some a) len cap) (.int k i)).run P w = .ok (.pointer (some (a.add (i.toNat*P.cellsOf e)))) w:=by
 unfold Instr.indexAt
 simp only[Sem.run_bind,CM,Result.andThen_ok,run_underlying hu,Sem.run_pure,oL G,h0,A,and_self,if_true]
theorem abT {ty e:TypeId} {len:Nat} {x i:Operand} {m:Nm} {off:Nat} {k:IntKind} {j:Int} (hu:P.underlying ty=some (.array len e)) (G:0<P.cellsOf e) (hx:ev t x = .ptr m off) (hi:ev t i = .sc (.int k j))
  (hm:(ae h m).isSome=true) (h0:0<=j) (A:j<len):Yields P n (.indexAddr ty x i) t h (.ptr m (off+j.toNat*P.cellsOf e)) [] :=
 Yields.pure fun C a o ho W ht=>by
  have hp:=b0 ht x
  have hq:=b0 ht i
  rw[hx]at hp
  rw[hi]at hq
  simp only[aj]at hp hq
  have E:=hp.2.2 ((W.live m).2 hm)
  refine⟨.pointer (some ⟨C.ρ m,C.bs m+off+j.toNat*P.cellsOf e,none⟩),?_,?_⟩
  ·unfold execOp
   rw[ho]
   simp only[E,hq,Sem.run_bind,YE hu G _ k j h0 A,Result.andThen_ok,jS]
   rfl
  ·simp only[aj]
   exact⟨⟨_,rfl⟩,hp.2.1,fun _=>by rw[Nat.add_assoc]⟩
theorem abU {ty e:TypeId} {len:Nat} {x i:Operand} {cs:List AV} {off:Nat} {k:IntKind} {j:Int} (hu:P.underlying ty=some (.array len e)) (G:0<P.cellsOf e) (hx:ev t x = .ip cs off) (hi:ev t i = .sc (.int k j))
  (h0:0<=j) (A:j<len):Yields P n (.indexAddr ty x i) t h (.ip cs (off+j.toNat*P.cellsOf e)) [] :=
 Yields.pure fun C a o ho W ht=>by
  have hp:=b0 ht x
  have hq:=b0 ht i
  rw[hx]at hp
  rw[hi]at hq
  simp only[aj]at hp hq
  obtain⟨ez,E,hb,hm,H⟩:=hp
  refine⟨.pointer (some (ez.add (off+j.toNat*P.cellsOf e))),?_,?_⟩
  ·unfold execOp
   rw[ho]
   simp only[E,hq,Sem.run_bind,YE hu G _ k j h0 A,Result.andThen_ok,add_add]
   rfl
  ·simp only[aj]
   exact⟨ez,rfl,hb,hm,H⟩
theorem abW {ty e:TypeId} {len z:Nat} {own:Bool} {x i:Operand} {m:Nm} {off:Nat} {k:IntKind} {j:Int} (hu:P.underlying ty=some (.slice e)) (G:0<z) (hz:P.cellsOf e=z) (hx:ev t x = .sl m z off len own)
  (hi:ev t i = .sc (.int k j)) (hm:(ae h m).isSome=true) (h0:0<=j) (A:j<len):Yields P n (.indexAddr ty x i) t h (.ptr m (off+j.toNat*z)) [] :=
 Yields.pure fun C a o ho W ht=>by
  have hp:=b0 ht x
  have hq:=b0 ht i
  rw[hx]at hp
  rw[hi]at hq
  simp only[aj]at hp hq
  obtain⟨cap,of,E,aZ,oe,_⟩:=hp.2.2 ((W.live m).2 hm)
  have Ml:of=C.bs m+off:=by
   rcases oe with h3 | h3
   ·exact h3
   ·omega
  subst Ml
  refine⟨.pointer (some ⟨C.ρ m,C.bs m+off+j.toNat*z,none⟩),?_,?_⟩
  ·unfold execOp
   rw[ho]
   simp only[E,hq,Sem.run_bind,YF hu (by omega) _ k j h0 A,Result.andThen_ok,jS,hz]
   rfl
  ·simp only[aj]
   exact⟨⟨_,rfl⟩,hp.2.1,fun _=>by rw[Nat.add_assoc]⟩
theorem abV {ty e:TypeId} {z:Nat} {full:Bool} {D:List (List AV)} {x i:Operand} {k:IntKind} {j:Int} {kw:List AV} (hu:P.underlying ty=some (.slice e)) (G:0<z) (hz:P.cellsOf e=z) (hx:ev t x = .ro z D full)
  (hi:ev t i = .sc (.int k j)) (h0:0<=j) (A:D[j.toNat]? = some kw):Yields P n (.indexAddr ty x i) t h (.ip kw 0) [] :=
 Yields.pure fun C a o ho W ht=>by
  have hp:=b0 ht x
  have hq:=b0 ht i
  rw[hx]at hp
  rw[hi]at hq
  simp only[aj]at hp hq
  obtain⟨ab,cap,E,aZ,_,ay⟩:=hp
  have aQ:j.toNat<D.length:=(List.getElem?_eq_some_iff.1 A).1
  obtain⟨ez,rfl,hb,hm,H⟩:=ay (by intro e;rw[e]at aQ;simp at aQ)
  obtain⟨_,mX⟩:=H.get j.toNat kw A
  rw[Nat.zero_add]at mX
  have O:j<D.length:=by omega
  have qA:0<P.cellsOf e:=by omega
  refine⟨.pointer (some (ez.add (j.toNat*z))),?_,?_⟩
  ·unfold execOp
   rw[ho]
   simp only[E,hq,Sem.run_bind,YF hu qA _ k j h0 O,Result.andThen_ok,hz]
   rfl
  ·simp only[aj]
   exact⟨ez.add (j.toNat*z),by simp[Addr.add],by rw[block_add];exact hb,by rw[block_add];exact hm,mX⟩
def xC (P:Program) (ty:TypeId) (f:Nat):Option Nat:=match P.underlying ty with | some (.struct fs)=>(fs[f]?).bind fun fl=>if 0<P.cellsOf fl.type then some fl.offset else none | _=>none
theorem YD {ty:TypeId} {f o:Nat} (hf:xC P ty f=some o) (a:Addr) (w:World):(Instr.fieldAt ty (.pointer (some a)) f).run P w = .ok (.pointer (some (a.add o))) w:=by
 unfold xC at hf
 unfold Instr.fieldAt
 cases hu:P.underlying ty with
 | none=>rw[hu]at hf;cases hf
 | some d =>
  rw[hu]at hf
  cases d<;>simp only[reduceCtorEq]at hf
  obtain⟨fl,hF,hf⟩:=Option.bind_eq_some_iff.1 hf
  by_cases b7:0<P.cellsOf fl.type
  case neg=>rw[if_neg b7]at hf;cases hf
  rw[if_pos b7]at hf
  cases hf
  unfold fieldPlace
  simp only[Sem.run_bind,run_underlying hu,Result.andThen_ok,hF,Instr.sureAddr,Sem.run_pure,oL b7,Nat.ne_of_gt b7,if_false]
theorem abR {ty:TypeId} {x:Operand} {f o:Nat} {m:Nm} {off:Nat} (hf:xC P ty f=some o) (hx:ev t x = .ptr m off) (hm:(ae h m).isSome=true):Yields P n (.fieldAddr ty x f) t h (.ptr m (off+o)) [] :=
 Yields.pure fun C a op ho W ht=>by
  have hp:=b0 ht x
  rw[hx]at hp
  simp only[aj]at hp
  have E:=hp.2.2 ((W.live m).2 hm)
  refine⟨.pointer (some ⟨C.ρ m,C.bs m+off+o,none⟩),?_,?_⟩
  ·unfold execOp
   rw[ho]
   simp only[E,Sem.run_bind,YD hf,Result.andThen_ok,jS]
   rfl
  ·simp only[aj]
   exact⟨⟨_,rfl⟩,hp.2.1,fun _=>by rw[Nat.add_assoc]⟩
theorem abS {ty:TypeId} {x:Operand} {f o:Nat} {cs:List AV} {off:Nat} (hf:xC P ty f=some o) (hx:ev t x = .ip cs off):Yields P n (.fieldAddr ty x f) t h (.ip cs (off+o)) [] :=
 Yields.pure fun C a op ho W ht=>by
  have hp:=b0 ht x
  rw[hx]at hp
  simp only[aj]at hp
  obtain⟨ez,E,hb,hm,H⟩:=hp
  refine⟨.pointer (some (ez.add (off+o))),?_,?_⟩
  ·unfold execOp
   rw[ho]
   simp only[E,Sem.run_bind,YD hf,Result.andThen_ok,add_add]
   rfl
  ·simp only[aj]
   exact⟨ez,rfl,hb,hm,H⟩
theorem ab9 {x:Operand} {m:Nm} {off:Nat} (hx:ev t x = .ptr m off) (hm:(ae h m).isSome=true):Yields P n (.nilCheck x) t h (.ptr m off) [] :=
 Yields.pure fun C a op ho W ht=>by
  have hp:=b0 ht x
  rw[hx]at hp
  have E:a.eval x = .pointer (some ⟨C.ρ m,C.bs m+off,none⟩):=by
   simp only[aj]at hp
   exact hp.2.2 ((W.live m).2 hm)
  refine⟨_,?_,hp⟩
  unfold execOp
  rw[ho]
  simp only[E]
  rfl
theorem ab8 {x:Operand} {cs:List AV} {off:Nat} (hx:ev t x = .ip cs off):Yields P n (.nilCheck x) t h (.ip cs off) [] :=
 Yields.pure fun C a op ho W ht=>by
  have hp:=b0 ht x
  rw[hx]at hp
  have qG:=hp
  simp only[aj]at qG
  obtain⟨ez,E,_⟩:=qG
  refine⟨_,?_,hp⟩
  unfold execOp
  rw[ho]
  simp only[E]
  rfl
theorem ab7 {x:Operand} {f:FuncId} {xs ys:List AV} (hx:ev t x = .fn (.func f) xs ys):Yields P n (.nilCheck x) t h (.fn (.func f) xs ys) [] :=
 Yields.pure fun C a op ho W ht=>by
  have hp:=b0 ht x
  rw[hx]at hp
  have qG:=hp
  simp only[aj]at qG
  obtain⟨us,vs,E,_⟩:=qG
  refine⟨_,?_,hp⟩
  unfold execOp
  rw[ho]
  simp only[E]
  rfl
theorem H0 {ty:TypeId} {agg:Bool} (hb:eT P ty=some agg) {C:Ctx} {cs:List AV} {us:Array Value} (hL:aC C cs us.toList) {off:Nat} {v:AV} (hr:Rd agg (P.cellsOf ty) cs off v):∃Y,(part ty us off).run P C.w = .ok Y C.w/\aj C v Y:=by
 unfold part
 rcases hr with⟨rfl,h0,hlen,rfl⟩ | ⟨rfl,R⟩
 ·refine⟨.agg (us.extract off (off+P.cellsOf ty)),?_,?_⟩
  ·simp only[Sem.run_bind,HY hb,Result.andThen_ok,if_true,oL h0]
   rfl
  ·simp only[aj]
   refine⟨_,rfl,?_⟩
   have:=(hL.drop off).take (P.cellsOf ty)
   have e:(us.extract off (off+P.cellsOf ty)).toList=(us.toList.drop off).take (P.cellsOf ty):=by
    rw[Array.toList_extract,List.extract_eq_take_drop]
    simp
   rw[e];exact this
 ·obtain⟨Y,hu,H⟩:=hL.get off v R
  refine⟨Y,?_,H⟩
  have a3:us[off]? = some Y:=by simpa using hu
  simp only[Sem.run_bind,HY hb,Result.andThen_ok,Bool.false_eq_true,if_false,a3]
  rfl
theorem abQ {ty:TypeId} {x:Operand} {f:Nat} {fs:Array Field} {fl:Field} {cs:List AV} {agg:Bool} {v:AV} (hu:P.underlying ty=some (.struct fs)) (hf:fs[f]? = some fl) (hx:ev t x = .agg cs) (hb:eT P fl.type=some agg)
  (hr:Rd agg (P.cellsOf fl.type) cs fl.offset v):Yields P n (.field ty x f) t h v [] :=
 Yields.pure fun C a op ho W ht=>by
  have hp:=b0 ht x
  rw[hx]at hp
  simp only[aj]at hp
  obtain⟨us,E,hL⟩:=hp
  obtain⟨Y,a3,H⟩:=H0 hb hL hr
  refine⟨Y,?_,H⟩
  unfold execOp
  rw[ho]
  simp only[E,Instr.field,Sem.run_bind,run_underlying hu,Result.andThen_ok,hf,asAgg,Sem.run_pure,a3]
theorem abX {ty e:TypeId} {len:Nat} {x i:Operand} {k:IntKind} {j:Int} {cs:List AV} {agg:Bool} {v:AV} (hu:P.underlying ty=some (.array len e)) (G:0<P.cellsOf e) (hx:ev t x = .agg cs) (hi:ev t i = .sc (.int k j))
  (h0:0<=j) (A:j<len) (hb:eT P e=some agg) (hr:Rd agg (P.cellsOf e) cs (j.toNat*P.cellsOf e) v):Yields P n (.index ty x i) t h v [] :=
 Yields.pure fun C a op ho W ht=>by
  have hp:=b0 ht x
  have hq:=b0 ht i
  rw[hx]at hp
  rw[hi]at hq
  simp only[aj]at hp hq
  obtain⟨us,E,hL⟩:=hp
  obtain⟨Y,a3,H⟩:=H0 hb hL hr
  refine⟨Y,?_,H⟩
  unfold execOp
  rw[ho]
  simp only[E,hq,Instr.index,Sem.run_bind,CM,run_underlying hu,Result.andThen_ok,h0,A,and_self,if_true,oL G,Sem.run_pure,a3]
theorem abP {x:Operand} {i:Nat} {vs:List AV} {v:AV} (hx:ev t x = .tup vs) (R:vs[i]? = some v):Yields P n (.extract x i) t h v [] :=
 Yields.pure fun C a op ho W ht=>by
  have hp:=b0 ht x
  rw[hx]at hp
  simp only[aj]at hp
  obtain⟨us,E,hL⟩:=hp
  obtain⟨Y,hu,H⟩:=hL.get i v R
  have a3:us[i]? = some Y:=by simpa using hu
  refine⟨Y,?_,H⟩
  unfold execOp
  rw[ho]
  simp only[E,Instr.extract,a3]
  rfl
theorem aC.EZ {C:Ctx} {a:Act} (ht:fY C t a):∀(xs:List Operand),aC C (xs.map (ev t)) (xs.map a.eval)
 | []=>by simp only[List.map_nil,aC]
 | x::xs=>by
  simp only[List.map_cons,aC]
  exact⟨_,_,rfl,b0 ht x,aC.EZ ht xs⟩
theorem ab2 {f:Fn} {xs ys:Array Operand}:Yields P n (.makeFunc f xs ys) t h (.fn f (xs.toList.map (ev t)) (ys.toList.map (ev t))) [] :=
 Yields.pure fun C a op ho W ht=>by
  refine⟨.func f (xs.map a.eval) (ys.map a.eval),?_,?_⟩
  ·unfold execOp
   rw[ho]
   rfl
  ·simp only[aj]
   exact⟨_,_,rfl,by simpa using aC.EZ ht xs.toList,by simpa using aC.EZ ht ys.toList⟩
def hc (d:Nat) (x:Option AV) (l:Nat):Prop:=(x=none/\l=d)\/∃k i,x=some (.sc (.int k i))/\0<=i/\l=i.toNat
theorem hc.val {C : Ctx} {a : Act} (ht : fY C t a) {d l : Nat} {x : Option Operand} (hb : hc d (x.map (ev t)) l) : (x.map a.eval = none /\ l = d) \/ ∃ k i, x.map a.eval = some (.int k i) /\ 0 <= i /\ l = i.toNat := by
  cases x with
  | none => rcases hb with ⟨_, E⟩ | ⟨k, i, A, _⟩
            · exact .inl ⟨rfl, E⟩
            · cases A
  | some x =>
    rcases hb with ⟨A, _⟩ | ⟨k, i, A, E, h3⟩
    · cases A
    · simp only [Option.map_some, Option.some.injEq] at A
      have := b0 ht x
      rw [A] at this
      simp only [aj] at this
      exact .inr ⟨k, i, by simp [this], E, h3⟩
theorem run_sliceBound (k:IntKind) (i:Int) (y:Nat) (code:BoundsCode) (h0:0<=i) (A:i.toNat<=y) (w:World):(Instr.sliceBound (.int k i) y code).run P w = .ok i.toNat w:=by
 unfold Instr.sliceBound
 have:i<=(y:Int):=by omega
 simp only[Sem.run_bind,CM,Result.andThen_ok,h0,this,and_self,if_true,Sem.run_pure]
theorem CN (M3:Bool) (len cap l W:Nat) (lo hi:Option Value) (iS:(lo=none/\l=0)\/∃k i,lo=some (.int k i)/\0<=i/\l=i.toNat) (eX:(hi=none/\W=len)\/∃k i,hi=some (.int k i)/\0<=i/\W=i.toNat)
  (A:l<=W) (E:W<=cap) (w:World):(Instr.sliceBounds M3 len cap lo hi none).run P w = .ok (l,W,cap) w:=by
 unfold Instr.sliceBounds
 rcases eX with⟨rfl,rfl⟩ | ⟨k,i,rfl,Bq,rfl⟩<;>rcases iS with⟨rfl,rfl⟩ | ⟨k',i',rfl,Fv,rfl⟩
 ·simp only[Sem.run_bind,Sem.run_pure,Result.andThen_ok]
 ·simp only[Sem.run_bind,Sem.run_pure,Result.andThen_ok,run_sliceBound k' i' _ _ Fv A]
 ·simp only[Sem.run_bind,Sem.run_pure,Result.andThen_ok,run_sliceBound k i _ _ Bq E]
 ·simp only[Sem.run_bind,Sem.run_pure,Result.andThen_ok,run_sliceBound k i _ _ Bq E,run_sliceBound k' i' _ _ Fv A]
theorem YK (M3:Bool) (len cap l W m:Nat) (lo hi mx:Option Value) (iS:(lo=none/\l=0)\/∃k i,lo=some (.int k i)/\0<=i/\l=i.toNat) (eX:∃k i,hi=some (.int k i)/\0<=i/\W=i.toNat)
  (i6:∃k i,mx=some (.int k i)/\0<=i/\m=i.toNat) (A:l<=W) (E:W<=m) (h3:m<=cap) (w:World):(Instr.sliceBounds M3 len cap lo hi mx).run P w = .ok (l,W,m) w:=by
 unfold Instr.sliceBounds
 obtain⟨k,i,rfl,Bq,rfl⟩:=eX
 obtain⟨k1,i1,rfl,Fw,rfl⟩:=i6
 rcases iS with⟨rfl,rfl⟩ | ⟨k',i',rfl,Fv,rfl⟩
 ·simp only[Sem.run_bind,Sem.run_pure,Result.andThen_ok,run_sliceBound k i _ _ Bq E,run_sliceBound k1 i1 _ _ Fw h3]
 ·simp only[Sem.run_bind,Sem.run_pure,Result.andThen_ok,run_sliceBound k i _ _ Bq E,run_sliceBound k1 i1 _ _ Fw h3,run_sliceBound k' i' _ _ Fv A]
theorem dc.cut {C:Ctx} {a:Addr} {z:Nat} {D:List (List AV)} (hE:dc C a z 0 D) (l W:Nat):dc C (a.add (l*z)) z 0 ((D.take W).drop l) :=
 dc.mk fun j e O=>by
  rw[List.getElem?_drop,List.getElem?_take]at O
  split at O
  ·obtain⟨A,E⟩:=hE.get (l+j) e O
   refine⟨A,?_⟩
   rw[add_add,Nat.zero_add,<-Nat.add_mul]
   simpa using E
  ·cases O
theorem SG {C:Ctx} {z:Nat} {D:List (List AV)} {ab:Option Addr} {cap l W m:Nat} {full:Bool} (A:l<=W) (E:W<=D.length) (hm:W<=m) (hf:full=true->m=W)
  (ay:D≠[]->∃a,ab=some a/\a.block<C.w.heap.size/\¬C.mt a.block/\dc C a z 0 D) (f2:cap=m-l) (A':Option Addr) (hA:A'=if m=l then ab else ab.map (·.add (l*z))) :
  aj C (.ro z ((D.take W).drop l) full) (.slice A' (W-l) cap):=by
 have hlen:((D.take W).drop l).length=W-l:=by simp[Nat.min_eq_left E]
 simp only[aj]
 refine⟨A',cap,by rw[hlen],by rw[hlen];omega,fun u1=>by rw[hlen,f2,hf u1],fun hn => ?_⟩
 have aQ:l<W:=by
  rcases Nat.lt_or_ge l W with h3 | h3
  ·exact h3
  ·exfalso;apply hn;apply List.length_eq_zero_iff.1;rw[hlen];omega
 obtain⟨a,rfl,hb,a0,hE⟩:=ay (by intro e;rw[e]at E;simp at E;omega)
 refine⟨a.add (l*z),by rw[hA,if_neg (by omega)];rfl,by rw[block_add];exact hb,by rw[block_add];exact a0,hE.cut l W⟩
theorem CO {ty e:TypeId} (hu:P.underlying ty=some (.slice e)) {z:Nat} (hz:P.cellsOf e=z) (h0:0<z) (ab:Option Addr) (len cap l W m:Nat) (lo hi mx:Option Value)
  (hb:∀w,(Instr.sliceBounds true len cap lo hi mx).run P w = .ok (l,W,m) w) (w:World) :
  (Instr.sliceAt ty (.slice ab len cap) lo hi mx).run P w = .ok (.slice (if m=l then ab else ab.map (·.add (l*z))) (W-l) (m-l)) w:=by
 unfold Instr.sliceAt
 simp only[Sem.run_bind,run_underlying hu,Result.andThen_ok,Instr.slice,hb,oL (show 0<P.cellsOf e by omega),hz,Sem.run_pure]
theorem acg {ty e:TypeId} {x:Operand} {lo hi:Option Operand} {z l W:Nat} {D:List (List AV)} {full:Bool} (hu:P.underlying ty=some (.slice e)) (hz:P.cellsOf e=z) (h0:0<z) (hx:ev t x = .ro z D full)
  (iS:hc 0 (lo.map (ev t)) l) (eX:hc D.length (hi.map (ev t)) W) (A:l<=W) (E:W<=D.length):Yields P n (.slice ty x lo hi none) t h (.ro z ((D.take W).drop l) (full&&W==D.length)) [] :=
 Yields.pure fun C a op ho a2 ht=>by
  have hp:=b0 ht x
  rw[hx]at hp
  simp only[aj]at hp
  obtain⟨ab,cap,R,aZ,hf,ay⟩:=hp
  refine⟨_,?_,SG (m:=cap) A E (by omega) (fun u1 => ?_) ay rfl _ rfl⟩
  ·unfold execOp
   rw[ho]
   simp only[R,Option.map_none,Sem.run_bind,CO hu hz h0 ab _ cap l W cap _ _ _ (CN true D.length cap l W _ _ (iS.val ht) (eX.val ht) A (by omega)),Result.andThen_ok]
   rfl
  ·simp only[Bool.and_eq_true,beq_iff_eq]at u1
   rw[hf u1.1,u1.2]
theorem acf {ty e:TypeId} {x:Operand} {lo hi:Option Operand} {z:Nat} (hu:P.underlying ty=some (.slice e)) (hz:P.cellsOf e=z) (h0:0<z) (hx:ev t x = .sc (.slice none 0 0))
  (iS:hc 0 (lo.map (ev t)) 0) (eX:hc 0 (hi.map (ev t)) 0):Yields P n (.slice ty x lo hi none) t h (.sc (.slice none 0 0)) [] :=
 Yields.pure fun C a op ho a2 ht=>by
  have hp:=b0 ht x
  rw[hx]at hp
  simp only[aj]at hp
  refine⟨.slice none 0 0,?_,by simp only[aj]⟩
  unfold execOp
  rw[ho]
  simp only[hp,Option.map_none,Sem.run_bind,CO hu hz h0 none 0 0 0 0 0 _ _ _ (CN true 0 0 0 0 _ _ (iS.val ht) (eX.val ht) (Nat.le_refl _) (Nat.le_refl _)),Result.andThen_ok]
  rfl
theorem ach {ty e:TypeId} {x mx hi:Operand} {lo:Option Operand} {z l W m:Nat} {D:List (List AV)} {full:Bool} (hu:P.underlying ty=some (.slice e)) (hz:P.cellsOf e=z) (h0:0<z) (hx:ev t x = .ro z D full)
  (iS:hc 0 (lo.map (ev t)) l) (eX:hc 0 ((some hi).map (ev t)) W) (i6:hc 0 ((some mx).map (ev t)) m) (A:l<=W) (E:W<=m) (h3:m<=D.length):Yields P n (.slice ty x lo (some hi) (some mx)) t h (.ro z ((D.take W).drop l) (m==W)) [] :=
 Yields.pure fun C a op ho a2 ht=>by
  have hp:=b0 ht x
  rw[hx]at hp
  simp only[aj]at hp
  obtain⟨ab,cap,R,aZ,hf,ay⟩:=hp
  have b1:∃k i,(some hi).map a.eval=some (.int k i)/\0<=i/\W=i.toNat:=by
   rcases eX.val ht with⟨h,_⟩ | h
   ·cases h
   ·exact h
  have b2:∃k i,(some mx).map a.eval=some (.int k i)/\0<=i/\m=i.toNat:=by
   rcases i6.val ht with⟨h,_⟩ | h
   ·cases h
   ·exact h
  refine⟨_,?_,SG (m:=m) A (by omega) E (fun u1=>by simpa using u1) ay rfl _ rfl⟩
  unfold execOp
  rw[ho]
  simp only[R,Sem.run_bind,CO hu hz h0 ab _ cap l W m _ _ _ (YK true D.length cap l W m _ _ _ (iS.val ht) b1 b2 A E (by omega)),Result.andThen_ok]
  rfl
theorem ace {ty e:TypeId} {x mx hi:Operand} {lo:Option Operand} {z l off len:Nat} {own:Bool} {s8:Nm} (hu:P.underlying ty=some (.slice e)) (hz:P.cellsOf e=z) (h0:0<z) (hx:ev t x = .sl s8 z off len own) (hm:(ae h s8).isSome=true)
  (iS:hc 0 (lo.map (ev t)) l) (eX:hc 0 ((some hi).map (ev t)) l) (i6:hc 0 ((some mx).map (ev t)) l) (h3:l<=len):Yields P n (.slice ty x lo (some hi) (some mx)) t h (.ro z [] true) [] :=
 Yields.pure fun C a op ho a2 ht=>by
  have hp:=b0 ht x
  rw[hx]at hp
  simp only[aj]at hp
  obtain⟨_,_,hp⟩:=hp
  obtain⟨cap,o,R,aZ,_,_⟩:=hp ((a2.live s8).2 hm)
  have b1:∃k i,(some hi).map a.eval=some (.int k i)/\0<=i/\l=i.toNat:=by
   rcases eX.val ht with⟨h,_⟩ | h
   ·cases h
   ·exact h
  have b2:∃k i,(some mx).map a.eval=some (.int k i)/\0<=i/\l=i.toNat:=by
   rcases i6.val ht with⟨h,_⟩ | h
   ·cases h
   ·exact h
  refine⟨.slice (if l=l then some ⟨C.ρ s8,o,none⟩else(some ⟨C.ρ s8,o,none⟩:Option Addr).map (·.add (l*z))) (l-l) (l-l),?_,?_⟩
  ·unfold execOp
   rw[ho]
   simp only[R,Sem.run_bind,CO hu hz h0 _ len cap l l l _ _ _ (YK true len cap l l l _ _ _ (iS.val ht) b1 b2 (Nat.le_refl _) (Nat.le_refl _) (by omega)),Result.andThen_ok]
   rfl
  ·simp only[aj,Nat.sub_self]
   exact⟨_,0,rfl,Nat.le_refl _,fun _=>rfl,fun h=>absurd rfl h⟩
theorem aci {ty e:TypeId} {x:Operand} {lo hi:Option Operand} {z l W off len:Nat} {own:Bool} {m:Nm} (hu:P.underlying ty=some (.slice e)) (hz:P.cellsOf e=z) (h0:0<z) (hx:ev t x = .sl m z off len own) (hm:(ae h m).isSome=true)
  (iS:hc 0 (lo.map (ev t)) l) (eX:hc len (hi.map (ev t)) W) (A:l<=W) (E:W<=len):Yields P n (.slice ty x lo hi none) t h (.sl m z (off+l*z) (W-l) own) [] :=
 Yields.pure fun C a op ho a2 ht=>by
  have hp:=b0 ht x
  rw[hx]at hp
  simp only[aj]at hp
  obtain⟨_,u,hp⟩:=hp
  obtain⟨cap,o,R,aZ,oe,xZ⟩:=hp ((a2.live m).2 hm)
  refine⟨.slice (if cap=l then some ⟨C.ρ m,o,none⟩else some ⟨C.ρ m,o+l*z,none⟩) (W-l) (cap-l),?_,?_⟩
  ·unfold execOp
   rw[ho]
   simp only[R,Option.map_none,Sem.run_bind,CO hu hz h0 _ len cap l W cap _ _ _ (CN true len cap l W _ _ (iS.val ht) (eX.val ht) A (by omega)),Result.andThen_ok,Option.map_some,jS]
   rfl
  ·simp only[aj]
   refine⟨⟨_,_,_,rfl⟩,u,fun _ => ?_⟩
   by_cases H:cap=l
   ·refine⟨cap-l,o,by rw[if_pos H],by omega,.inr (by omega),fun dT => ?_⟩
    obtain⟨cs,ty',h4,h5⟩:=xZ dT
    refine⟨cs,ty',h4,?_⟩
    have e1:cap-l=0:=by omega
    rw[e1,Nat.zero_mul,Nat.add_zero,<-H,<-Nat.add_assoc]
    exact h5
   ·refine⟨cap-l,o+l*z,by rw[if_neg H],by omega,?_,fun dT => ?_⟩
    ·rcases oe with h3 | h3
     ·exact .inl (by rw[h3,Nat.add_assoc])
     ·exact .inr (by omega)
    ·obtain⟨cs,ty',h4,h5⟩:=xZ dT
     refine⟨cs,ty',h4,?_⟩
     have e1:l*z+(cap-l)*z=cap*z:=by rw[<-Nat.add_mul];congr 1;omega
     omega
theorem arf {ty e:TypeId} {len:Nat} (hu:P.underlying ty=some (.array len e)) {z:Nat} (hz:P.cellsOf e=z) (h0:0<z) (a:Addr) (l W m:Nat) (lo hi mx:Option Value)
  (hb:∀w,(Instr.sliceBounds false len len lo hi mx).run P w = .ok (l,W,m) w) (w:World) :
  (Instr.sliceAt ty (.pointer (some a)) lo hi mx).run P w = .ok (.slice (some (if m=l then a else a.add (l*z))) (W-l) (m-l)) w:=by
 unfold Instr.sliceAt
 simp only[Sem.run_bind,run_underlying hu,Result.andThen_ok,Instr.sureAddr,hb,oL (show 0<P.cellsOf e by omega),hz,Sem.run_pure]
theorem acd {ty e:TypeId} {x:Operand} {lo hi:Option Operand} {z l W off len:Nat} {m:Nm} (hu:P.underlying ty=some (.array len e)) (hz:P.cellsOf e=z) (h0:0<z) (hx:ev t x = .ptr m off) (hm:(ae h m).isSome=true)
  (iS:hc 0 (lo.map (ev t)) l) (eX:hc len (hi.map (ev t)) W) (A:l<=W) (E:W<=len):Yields P n (.slice ty x lo hi none) t h (.sl m z (off+l*z) (W-l) false) [] :=
 Yields.pure fun C a op ho a2 ht=>by
  have hp:=b0 ht x
  rw[hx]at hp
  simp only[aj]at hp
  obtain⟨_,u,hp⟩:=hp
  have R:=hp ((a2.live m).2 hm)
  refine⟨.slice (some (if len=l then⟨C.ρ m,C.bs m+off,none⟩else⟨C.ρ m,C.bs m+off+l*z,none⟩)) (W-l) (len-l),?_,?_⟩
  ·unfold execOp
   rw[ho]
   simp only[R,Option.map_none,Sem.run_bind,arf hu hz h0 _ l W len _ _ _ (CN false len len l W _ _ (iS.val ht) (eX.val ht) A E),Result.andThen_ok,jS]
   rfl
  ·simp only[aj]
   refine⟨⟨_,_,_,rfl⟩,u,fun _ => ?_⟩
   by_cases H:len=l
   ·exact⟨len-l,C.bs m+off,by rw[if_pos H],by omega,.inr (by omega),fun dT=>by cases dT⟩
   ·exact⟨len-l,C.bs m+off+l*z,by rw[if_neg H],by omega,.inl (Nat.add_assoc _ _ _),fun dT=>by cases dT⟩
theorem acj {ty:TypeId} {x:Operand} {lo hi:Option Operand} {l W:Nat} {s:ByteArray} (hu:P.underlying ty=some .string) (hx:ev t x = .sc (.string s))
  (iS:hc 0 (lo.map (ev t)) l) (eX:hc s.size (hi.map (ev t)) W) (A:l<=W) (E:W<=s.size):Yields P n (.slice ty x lo hi none) t h (.sc (.string (s.extract l W))) [] :=
 Yields.pure fun C a op ho a2 ht=>by
  have hp:=b0 ht x
  rw[hx]at hp
  simp only[aj]at hp
  refine⟨.string (s.extract l W),?_,by simp only[aj]⟩
  unfold execOp
  rw[ho]
  simp only[hp,Option.map_none,Sem.run_bind,Instr.sliceAt,Instr.slice,run_underlying hu,Result.andThen_ok,Option.isSome_none,Bool.false_eq_true,if_false,Sem.run_pure,CN false s.size s.size l W _ _ (iS.val ht) (eX.val ht) A E]
end
end Go.Proofs.Aw
namespace Go.Proofs.Aw
open Go
def ai:List Nat->List AV->List AV->Option Bool
 | [],[],[]=>some true
 | k::ks,a::as,b::bs =>
  match k,a,b with
  | 0,.sc (.bool x),.sc (.bool y)=>(ai ks as bs).map fun r=>(x==y)&&r
  | 1,.sc (.int i x),.sc (.int j y)=>if i=j then(ai ks as bs).map fun r=>(x==y)&&r else none
  | 2,.sc (.string x),.sc (.string y)=>(ai ks as bs).map fun r=>(x.toList==y.toList)&&r
  | _,_,_=>none
 | _,_,_=>none
def l8:Nat->AV->AV->Option Bool
 | 0,.sc (.bool x),.sc (.bool y)=>some (x==y)
 | 1,.sc (.int i x),.sc (.int j y)=>if i=j then some (x==y)else none
 | 2,.sc (.string x),.sc (.string y)=>some (x.toList==y.toList)
 | _,_,_=>none
theorem KQ {k:Nat} {ks:List Nat} {a b:AV} {as bs:List AV} {r:Bool} (h:ai (k::ks) (a::as) (b::bs)=some r):∃x y,l8 k a b=some x/\ai ks as bs=some y/\r=(x&&y):=by
 simp only[ai]at h
 split at h
 ·obtain⟨y,hy,rfl⟩:=Option.map_eq_some_iff.1 h
  exact⟨_,y,rfl,hy,rfl⟩
 ·split at h
  ·rename_i hG
   obtain⟨y,hy,rfl⟩:=Option.map_eq_some_iff.1 h
   exact⟨_,y,by simp only[l8,hG,if_true],hy,rfl⟩
  ·cases h
 ·obtain⟨y,hy,rfl⟩:=Option.map_eq_some_iff.1 h
  exact⟨_,y,rfl,hy,rfl⟩
 ·cases h
theorem Av:∀{ks:List Nat} {xs ys:List AV} {r:Bool},ai ks xs ys=some r->xs.length=ks.length/\ys.length=ks.length
 | [],[],[],_,_=>⟨rfl,rfl⟩
 | [],[],_::_,_,h=>by simp[ai]at h
 | [],_::_,_,_,h=>by simp[ai]at h
 | _::_,[],_,_,h=>by simp[ai]at h
 | _::_,_::_,[],_,h=>by simp[ai]at h
 | k::ks,a::as,b::bs,r,h=>by
  obtain⟨x,y,_,E,_⟩:=KQ h
  have:=Av E
  simp[this]
theorem KP:∀{ks yu:List Nat} {xs ys:List AV} {r:Bool},ai (ks++yu) xs ys=some r ->
  ∃b1 b2,ai ks (xs.take ks.length) (ys.take ks.length)=some b1/\ai yu (xs.drop ks.length) (ys.drop ks.length)=some b2/\r=(b1&&b2)
 | [],yu,xs,ys,r,h=>⟨true,r,by simp[ai],by simpa using h,by simp⟩
 | k::ks,yu,[],ys,r,h=>by simp[ai]at h
 | k::ks,yu,_::_,[],r,h=>by simp[ai]at h
 | k::ks,yu,x::xs,y::ys,r,h=>by
  simp only[List.cons_append]at h
  obtain⟨c,s,A,E,rfl⟩:=KQ h
  obtain⟨b1,b2,e1,e2,rfl⟩:=KP E
  refine⟨c&&b1,b2,?_,by simpa using e2,by rw[Bool.and_assoc]⟩
  simp only[List.length_cons,List.take_succ_cons,ai]
  unfold l8 at A
  split at A
  ·cases A;simp[e1]
  ·split at A
   ·rename_i hG;cases A;simp[e1,hG]
   ·cases A
  ·cases A;simp[e1]
  ·cases A
def BV (P:Program) (p:TypeId->Option (List Nat)):Nat->List Field->Option (List Nat)
 | _,[]=>some []
 | off,f::fs =>
  if f.name ≠ "_" /\ f.offset = off /\ 0 < P.cellsOf f.type then
   (p f.type).bind fun l=>(BV P p (off+P.cellsOf f.type) fs).map fun r=>l++r
  else none
def ru:Nat->List Nat->List Nat
 | 0,_=>[]
 | n+1,l=>l++ru n l
def leaves (P:Program):Nat->TypeId->Option (List Nat)
 | 0,_=>none
 | d+1,t =>
  let r:=match P.underlying t with
   | some .bool=>some [0]
   | some (.int _)=>some [1]
   | some .string=>some [2]
   | some (.struct fs)=>if P.stoodInHeld t then none else BV P (leaves P d) 0 fs.toList
   | some (.array n e)=>if 0<P.cellsOf e then(leaves P d e).map (ru n)else none
   | _=>none
  r.bind fun l=>if l.length=P.cellsOf t then some l else none
theorem BW {P:Program} {d:Nat} {t:TypeId} {l:List Nat} (h:leaves P d t=some l):l.length=P.cellsOf t:=by
 cases d with
 | zero=>simp[leaves]at h
 | succ d =>
  simp only[leaves]at h
  obtain⟨r,_,hr⟩:=Option.bind_eq_some_iff.1 h
  split at hr
  ·cases hr;assumption
  ·cases hr
def oy (agg:Bool) (cs:List AV):AV:=if agg=true then .agg cs else cs.headD .top
theorem ahI {P:Program} {d:Nat} {t:TypeId} {l:List Nat} (h:leaves P d t=some l):∃b,eT P t=some b/\(b=false->P.cellsOf t=1):=by
 have hlen:=BW h
 cases d with
 | zero=>simp[leaves]at h
 | succ d =>
  simp only[leaves]at h
  obtain⟨r,hr,iU⟩:=Option.bind_eq_some_iff.1 h
  have e:r=l:=by
   split at iU
   ·cases iU;rfl
   ·cases iU
  subst e
  unfold eT
  cases hu:P.underlying t with
  | none=>rw[hu]at hr;cases hr
  | some ds =>
   rw[hu]at hr
   cases ds<;>simp only[reduceCtorEq]at hr<;>first
    | exact⟨true,rfl,fun h=>by cases h⟩
    | (cases hr;exact⟨false,rfl,fun _=>by simpa using hlen.symm⟩)
theorem H2 {P:Program} {C:Ctx} {d:Nat} {t:TypeId} {l:List Nat} (hp:leaves P d t=some l) (h0:0<P.cellsOf t) {cs:List AV} {us:Array Value} (hL:aC C cs us.toList) {off:Nat} (hlen:off+P.cellsOf t<=cs.length) :
  ∃b Y,eT P t=some b/\(part t us off).run P C.w = .ok Y C.w/\aj C (oy b ((cs.drop off).take (P.cellsOf t))) Y:=by
 obtain⟨b,hb,LY⟩:=ahI hp
 cases b with
 | true =>
  obtain⟨Y,hu,H⟩:=H0 hb hL (.inl ⟨rfl,h0,hlen,rfl⟩)
  exact⟨true,Y,hb,hu,H⟩
 | false =>
  have e:=LY rfl
  have R:cs[off]? = some (cs[off]'(by omega)):=List.getElem?_eq_getElem _
  obtain⟨Y,hu,H⟩:=H0 hb hL (.inr ⟨rfl,R⟩)
  refine⟨false,Y,hb,hu,?_⟩
  rw[e]
  have e2:oy false ((cs.drop off).take 1)=cs[off]'(by omega):=by
   rw[List.drop_eq_getElem_cons (by omega)]
   rfl
  rw[e2];exact H
def o0 (P:Program) (C:Ctx) (bM:Nat) (t:TypeId) (l:List Nat):Prop :=
 ∀(xs ys:List AV) (b ah:Bool) (Y v:Value),eT P t=some ah->ai l xs ys=some b->aj C (oy ah xs) Y->aj C (oy ah ys) v->(Op.equalIn bM t Y v).run P C.w = .ok b C.w
theorem run_eqFields_plain {P:Program} {C:Ctx} {d bM:Nat} (ih:∀t l,leaves P d t=some l->o0 P C bM t l) {xs ys:List AV} {us vs:Array Value} (hx:aC C xs us.toList) (hy:aC C ys vs.toList) :
  ∀(fs:List Field) (off:Nat) (l:List Nat) (b:Bool),BV P (leaves P d) off fs=some l->off+l.length=xs.length->off+l.length=ys.length->ai l (xs.drop off) (ys.drop off)=some b->(Op.eqFields bM us vs fs).run P C.w = .ok b C.w
 | [],off,l,b,M,_,_,G=>by
  simp only[BV,Option.some.injEq]at M
  subst M
  have:=Av G
  simp only[List.length_nil,List.length_eq_zero_iff]at this
  rw[this.1,this.2]at G
  simp[ai]at G
  subst G
  rfl
 | f::fs,off,l,b,M,A,E,G=>by
  simp only[BV]at M
  split at M
  ·rename_i hf
   obtain⟨hn,rfl,h0⟩:=hf
   obtain⟨l1,sF,kc⟩:=Option.bind_eq_some_iff.1 M
   obtain⟨l2,hl3,rfl⟩:=Option.map_eq_some_iff.1 kc
   have hz:=BW sF
   simp only[List.length_append]at A E
   obtain⟨b1,b2,e1,e2,rfl⟩:=KP G
   rw[hz]at e1 e2
   rw[List.drop_drop,List.drop_drop]at e2
   obtain⟨ah,Y,cf,hu,a9⟩:=H2 (P:=P) sF h0 hx (off:=f.offset) (by omega)
   obtain⟨acc,v,Bb,R,cn⟩:=H2 (P:=P) sF h0 hy (off:=f.offset) (by omega)
   rw[cf]at Bb;cases Bb
   have hr:=ih f.type l1 sF _ _ b1 ah Y v cf e1 a9 cn
   simp only[Op.eqFields,hn,ne_eq,not_false_eq_true,if_true,Sem.run_bind,hu,R,Result.andThen_ok,hr]
   cases b1 with
   | false=>simp
   | true =>
    simp only[Bool.not_true,Bool.false_eq_true,if_false,Bool.true_and]
    exact run_eqFields_plain ih hx hy fs _ l2 b2 hl3 (by omega) (by omega) e2
  ·cases M
theorem YC {P:Program} {C:Ctx} {bM:Nat} {e:TypeId} {le:List Nat} {d:Nat} (aZ:leaves P d e=some le) (ih:o0 P C bM e le) (h0:0<P.cellsOf e) {xs ys:List AV} {us vs:Array Value} (hx:aC C xs us.toList) (hy:aC C ys vs.toList) :
  ∀(n i:Nat) (b:Bool),(i+n)*P.cellsOf e=xs.length->(i+n)*P.cellsOf e=ys.length->ai (ru n le) (xs.drop (i*P.cellsOf e)) (ys.drop (i*P.cellsOf e))=some b ->
   ((forIn (List.range' i n) ((none,()):Option Bool×Unit) fun i (_:Option Bool×Unit)=>(do
     let x <-part e us (i*P.cellsOf e)
     let y <-part e vs (i*P.cellsOf e)
     let r <-Op.equalIn bM e x y
     if(!r)=true then pure (ForInStep.done (some false,()))else pure (ForInStep.yield (none,())):Sem (ForInStep (Option Bool×Unit)))):Sem (Option Bool×Unit)).run P C.w = .ok (if b then none else some false,()) C.w
 | 0,i,b,_,_,G=>by
  have:=Av G
  simp only[ru,List.length_nil,List.length_eq_zero_iff]at this
  rw[this.1,this.2]at G
  simp[ai,ru]at G
  subst G
  rfl
 | n+1,i,b,A,E,G=>by
  have hz:=BW aZ
  simp only[ru]at G
  obtain⟨b1,b2,e1,e2,rfl⟩:=KP G
  rw[hz]at e1 e2
  rw[List.drop_drop,List.drop_drop,show i*P.cellsOf e+P.cellsOf e=(i+1)*P.cellsOf e from by rw[Nat.add_mul];omega]at e2
  have aga:i*P.cellsOf e+P.cellsOf e<=xs.length:=by
   rw[<-A,<-Nat.succ_mul];exact Nat.mul_le_mul_right _ (by omega)
  have agb:i*P.cellsOf e+P.cellsOf e<=ys.length:=by
   rw[<-E,<-Nat.succ_mul];exact Nat.mul_le_mul_right _ (by omega)
  obtain⟨ah,Y,cf,hu,a9⟩:=H2 (P:=P) aZ h0 hx (off:=i*P.cellsOf e) aga
  obtain⟨acc,v,Bb,R,cn⟩:=H2 (P:=P) aZ h0 hy (off:=i*P.cellsOf e) agb
  rw[cf]at Bb;cases Bb
  have hr:=ih _ _ b1 ah Y v cf e1 a9 cn
  simp only[List.range'_succ,List.forIn_cons,Sem.run_bind,hu,R,Result.andThen_ok,hr]
  cases b1 with
  | false=>simp
  | true =>
   simp only[Bool.not_true,Bool.false_eq_true,if_false,Bool.true_and,Sem.run_pure,Result.andThen_ok]
   exact YC aZ ih h0 hx hy n (i+1) b2 (by rw[<-A];congr 1;omega) (by rw[<-E];congr 1;omega) e2
theorem D8 {C:Ctx} {xs:List AV} {Y:Value} (h:aj C (oy true xs) Y):∃us:Array Value,Y = .agg us/\aC C xs us.toList:=by
 simpa only[oy,if_true,aj]using h
theorem aec {a b:AV} {x:Bool} (h:l8 0 a b=some x):∃p q,a = .sc (.bool p)/\b = .sc (.bool q)/\x=(p==q):=by
 unfold l8 at h
 split at h<;>first
  | contradiction
  | exact⟨_,_,rfl,rfl,by simpa using h.symm⟩
theorem aed {a b:AV} {x:Bool} (h:l8 1 a b=some x):∃k p q,a = .sc (.int k p)/\b = .sc (.int k q)/\x=(p==q):=by
  unfold l8 at h
  split at h<;>first
    | contradiction
    | (split at h
       · rename_i hG;subst hG;exact⟨_,_,_,rfl,rfl,by simpa using h.symm⟩
       · cases h)
theorem aee {a b:AV} {x:Bool} (h:l8 2 a b=some x):∃p q,a = .sc (.string p)/\b = .sc (.string q)/\x=(p.toList==q.toList):=by
 unfold l8 at h
 split at h<;>first
  | contradiction
  | exact⟨_,_,rfl,rfl,by simpa using h.symm⟩
theorem KR {k:Nat} {xs ys:List AV} {b:Bool} (h:ai [k] xs ys=some b):∃x y,xs=[x]/\ys=[y]/\l8 k x y=some b:=by
 obtain⟨A,E⟩:=Av h
 match xs,A,ys,E with
 | [x],_,[y],_ =>
  obtain⟨c,s,h3,h4,rfl⟩:=KQ h
  simp[ai]at h4;subst h4
  exact⟨x,y,rfl,rfl,by simpa using h3⟩
theorem xq {P:Program} {C:Ctx}:∀(d bM:Nat) (t:TypeId) (l:List Nat),d<=bM->leaves P d t=some l->o0 P C bM t l
 | 0,_,_,_,_,h=>by simp[leaves]at h
 | d+1,0,_,_,hd,_=>by omega
 | d+1,bM+1,t,l,hd,h=>by
  have hlen:=BW h
  simp only[leaves]at h
  obtain⟨r,hr,iU⟩:=Option.bind_eq_some_iff.1 h
  have e:r=l:=by
   split at iU
   ·cases iU;rfl
   ·cases iU
  subst e
  clear iU h
  intro xs ys b ah Y v cf G hu R
  obtain⟨hx,hy⟩:=Av G
  cases qK:P.underlying t with
  | none=>rw[qK]at hr;cases hr
  | some ds =>
   rw[qK]at hr
   unfold eT at cf
   rw[qK]at cf
   cases ds<;>simp only[reduceCtorEq]at hr<;>simp only[Option.some.injEq]at cf<;>subst cf
   case bool =>
    cases hr
    obtain⟨x,y,rfl,rfl,A⟩:=KR G
    obtain⟨p,q,rfl,rfl,rfl⟩:=aec A
    simp only[oy,Bool.false_eq_true,if_false,List.headD_cons,aj]at hu R
    subst hu;subst R
    exact run_equalIn_bool' _ _ _ _ _ qK
   case int k =>
    cases hr
    obtain⟨x,y,rfl,rfl,A⟩:=KR G
    obtain⟨k',p,q,rfl,rfl,rfl⟩:=aed A
    simp only[oy,Bool.false_eq_true,if_false,List.headD_cons,aj]at hu R
    subst hu;subst R
    exact run_equalIn_int _ _ _ _ _ _ _ qK
   case string =>
    cases hr
    obtain⟨x,y,rfl,rfl,A⟩:=KR G
    obtain⟨p,q,rfl,rfl,rfl⟩:=aee A
    simp only[oy,Bool.false_eq_true,if_false,List.headD_cons,aj]at hu R
    subst hu;subst R
    exact run_equalIn_string _ _ _ _ _ qK
   case array n e =>
    split at hr
    ·rename_i h0
     obtain⟨le,aZ,rfl⟩:=Option.map_eq_some_iff.1 hr
     obtain⟨us,rfl,fH⟩:=D8 hu
     obtain⟨vs,rfl,iW⟩:=D8 R
     have hz:=BW aZ
     have Vd:∀n,(ru n le).length=n*P.cellsOf e:=fun n=>by
      induction n with
      | zero=>simp[ru]
      | succ n ih=>simp only[ru,List.length_append,ih,hz,Nat.succ_mul];omega
     have af0:=YC aZ (xq d bM e le (by omega) aZ) h0 fH iW n 0 b (by rw[hx,Vd];simp) (by rw[hy,Vd];simp) (by simpa using G)
     simp only[Op.equalIn,Sem.run_bind,run_underlying qK,Result.andThen_ok,oL h0]
     rw[Std.Legacy.Range.forIn_eq_forIn_range']
     have b7:(([:n]:Std.Legacy.Range)).size=n:=by simp[Std.Legacy.Range.size]
     rw[b7]
     rw[af0]
     cases b<;>rfl
    ·cases hr
   case struct fs =>
    split at hr
    ·cases hr
    ·rename_i eP
     obtain⟨us,rfl,fH⟩:=D8 hu
     obtain⟨vs,rfl,iW⟩:=D8 R
     have Bo:P.fieldsOf t=fs:=by simp[Program.fieldsOf,qK]
     rw[run_equalIn_struct C.w bM t us vs (by rw[Bo];exact qK) (by simpa using eP),Bo]
     exact run_eqFields_plain (fun t' l' bX=>xq d bM t' l' (by omega) bX) fH iW fs.toList 0 r b hr (by omega) (by omega) (by simpa using G)
end Go.Proofs.Aw
namespace Go.Proofs.Aw
open Go
def rk (N:Nat):Nat:=(N.log2+1022)*2 ^ 52+N*2 ^ (52-N.log2)
def a6 (n:Int) (z:Bool):Bool:=if n=0 then z else decide (n<0)
def fv (n:Int) (z:Bool):Nat:=(if a6 n z=true then 2 ^ 63 else 0)+(if n=0 then 0 else rk n.natAbs)
def pl (n:Int):Nat:=if n=0 then 1074 else 52-n.natAbs.log2
theorem Gg {N:Nat} (h0:N≠0) (h:N<2 ^ 53):N.log2<=52:=by
 have:=(Nat.log2_lt h0).2 h
 omega
theorem NG {N:Nat} (h0:N≠0) (b:Nat):(N*2 ^ b).log2=N.log2+b:=by
 have hp:0<2 ^ b:=Nat.two_pow_pos b
 have ay:N*2 ^ b≠0:=Nat.mul_ne_zero h0 (by omega)
 have A:2 ^ N.log2<=N:=(Nat.le_log2 h0).1 (Nat.le_refl _)
 have E:N<2 ^ (N.log2+1):=(Nat.log2_lt h0).1 (Nat.lt_succ_self _)
 have g1:N.log2+b<=(N*2 ^ b).log2:=(Nat.le_log2 ay).2 (by rw[Nat.pow_add];exact Nat.mul_le_mul_right _ A)
 have g2:(N*2 ^ b).log2<N.log2+b+1:=(Nat.log2_lt ay).2 (by
  rw[show N.log2+b+1=N.log2+1+b by omega,Nat.pow_add]
  exact Nat.mul_lt_mul_of_pos_right E hp)
 omega
theorem Ni {N:Nat} (h0:N≠0) (h:N<2 ^ 53):2 ^ 52<=N*2 ^ (52-N.log2)/\N*2 ^ (52-N.log2)<2 ^ 53:=by
 have M:=Gg h0 h
 have A:2 ^ N.log2<=N:=(Nat.le_log2 h0).1 (Nat.le_refl _)
 have E:N<2 ^ (N.log2+1):=(Nat.log2_lt h0).1 (Nat.lt_succ_self _)
 constructor
 ·calc 2 ^ 52=2 ^ N.log2*2 ^ (52-N.log2):=by rw[<-Nat.pow_add];congr 1;omega
   _<=_:=Nat.mul_le_mul_right _ A
 ·calc N*2 ^ (52-N.log2)<2 ^ (N.log2+1)*2 ^ (52-N.log2):=Nat.mul_lt_mul_of_pos_right E (Nat.two_pow_pos _)
   _=2 ^ 53:=by rw[<-Nat.pow_add];congr 1;omega
theorem Pu {N:Nat} (h0:N≠0) (h:N<2 ^ 53):2 ^ 52<=rk N/\rk N<1076*2 ^ 52:=by
 have M:=Gg h0 h
 obtain⟨k1,k2⟩:=Ni h0 h
 unfold rk
 generalize N*2 ^ (52-N.log2)=k at *
 generalize N.log2=l at *
 constructor<;>omega
theorem aax (s:Bool) (r:Nat):Ieee.double.word s r=(if s=true then 2 ^ 63 else 0)+r:=by
 cases s<;>simp[Ieee.Format.word,Ieee.Format.signWeight,Ieee.double]
theorem SO (s:Bool) {dl:Nat} (d:Nat) (hd:d<=(dl*2 ^ d).log2+2):Ieee.Toward.even.cut s (dl*2 ^ d) d=dl:=by
 unfold Ieee.Toward.cut
 rw[Nat.min_eq_left hd,Nat.one_shiftLeft]
 have hp:0<2 ^ d:=Nat.two_pow_pos d
 simp only[Nat.mul_div_cancel _ hp,Nat.mul_mod_left,Nat.mul_zero]
 simp
theorem aiP (s:Bool) {N:Nat} (h0:N≠0) (h:N<2 ^ 53) (b:Nat):Ieee.double.nearest s (N*2 ^ b) (-(b:Int))=(if s=true then 2 ^ 63 else 0)+rk N:=by
 have M:=Gg h0 h
 have hp:0<2 ^ b:=Nat.two_pow_pos b
 have ay:N*2 ^ b≠0:=Nat.mul_ne_zero h0 (by omega)
 obtain⟨k1,k2⟩:=Ni h0 h
 have lp:Ieee.double.leastPlace = -1074:=by decide
 have lf:(Ieee.double.fractionBits:Int)=52:=rfl
 unfold Ieee.Format.nearest
 rw[if_neg ay,NG h0]
 have Bt:max (-(b:Int)+((N.log2+b:Nat):Int)-(Ieee.double.fractionBits:Int)) Ieee.double.leastPlace=(N.log2:Int)-52:=by rw[lp,lf];omega
 rw[Bt,lp,aax]
 have u:Ieee.Toward.even.cut s ((N*2 ^ b) <<< (-(b:Int)-((N.log2:Int)-52)).toNat) (((N.log2:Int)-52) - -(b:Int)).toNat=N*2 ^ (52-N.log2):=by
  rcases Nat.le_total b (52-N.log2)with H | H
  ·rw[show(((N.log2:Int)-52) - -(b:Int)).toNat=0 by omega,show(-(b:Int)-((N.log2:Int)-52)).toNat=52-N.log2-b by omega]
   rw[Nat.shiftLeft_eq,Nat.mul_assoc,<-Nat.pow_add,show b+(52-N.log2-b)=52-N.log2 by omega]
   have:=SO s (dl:=N*2 ^ (52-N.log2)) 0 (by omega)
   rwa[Nat.pow_zero,Nat.mul_one]at this
  ·rw[show(-(b:Int)-((N.log2:Int)-52)).toNat=0 by omega,show(((N.log2:Int)-52) - -(b:Int)).toNat=b-(52-N.log2)by omega]
   rw[Nat.shiftLeft_zero]
   have e:N*2 ^ b=N*2 ^ (52-N.log2)*2 ^ (b-(52-N.log2)):=by rw[Nat.mul_assoc,<-Nat.pow_add];congr 2;omega
   rw[e]
   refine SO s _ ?_
   rw[<-e,NG h0]
   omega
 rw[u]
 have hr:((N.log2:Int)-52 - -1074).toNat*Ieee.double.binade+N*2 ^ (52-N.log2)=rk N:=by
  rw[show((N.log2:Int)-52 - -1074).toNat=N.log2+1022 by omega]
  rfl
 rw[hr,Nat.min_eq_left]
 have:=(Pu h0 h).2
 have e:Ieee.double.infRung=2047*2 ^ 52:=by decide
 omega
theorem rp {n:Int} {z:Bool} (h:n.natAbs<2 ^ 53):Ieee.double.read (fv n z) = .number (a6 n z) (n.natAbs*2 ^ pl n) (-(pl n:Int)):=by
 have arZ:Ieee.double.signWeight=2 ^ 63:=by decide
 have ac8:Ieee.double.binade=2 ^ 52:=by decide
 have agS:Ieee.double.infRung=2047*2 ^ 52:=by decide
 have lp:Ieee.double.leastPlace = -1074:=by decide
 unfold Ieee.Format.read
 rw[arZ,ac8,agS,lp]
 by_cases h0:n=0
 ·subst h0
  have e1:fv 0 z=if z=true then 2 ^ 63 else 0:=by simp[fv,a6]
  rw[e1]
  have e2:a6 0 z=z:=by simp[a6]
  rw[e2,Int.natAbs_zero,Nat.zero_mul]
  cases z<;>simp[pl]
 ·have ha:n.natAbs≠0:=by omega
  obtain⟨r1,r2⟩:=Pu ha h
  obtain⟨k1,k2⟩:=Ni ha h
  have M:=Gg ha h
  have e1:fv n z=(if a6 n z=true then 2 ^ 63 else 0)+rk n.natAbs:=by simp[fv,h0]
  have e2:fv n z / 2 ^ 63 % 2=(if a6 n z=true then 1 else 0):=by
   rw[e1];split<;>omega
  have e3:fv n z % 2 ^ 63=rk n.natAbs:=by
   rw[e1];split<;>omega
  simp only[e2,e3]
  have s1:((if a6 n z=true then 1 else 0:Nat)==1)=a6 n z:=by cases a6 n z<;>rfl
  rw[s1,if_neg (by omega),if_pos (by omega)]
  have p1:pl n=52-n.natAbs.log2:=by simp[pl,h0]
  have q1:rk n.natAbs / 2 ^ 52=n.natAbs.log2+1023:=by
   unfold rk
   generalize n.natAbs*2 ^ (52-n.natAbs.log2)=k at *
   generalize n.natAbs.log2=l at *
   omega
  have q2:2 ^ 52+rk n.natAbs % 2 ^ 52=n.natAbs*2 ^ (52-n.natAbs.log2):=by
   unfold rk
   generalize n.natAbs*2 ^ (52-n.natAbs.log2)=k at *
   generalize n.natAbs.log2=l at *
   omega
  rw[q1,q2,p1]
  have e:(-1074:Int)+((n.natAbs.log2+1023-1:Nat):Int) = -((52-n.natAbs.log2:Nat):Int):=by omega
  rw[e]
theorem IT (n:Int) (z:Bool) (h:n.natAbs<2 ^ 53) (b:Nat):Ieee.double.write (.number (a6 n z) (n.natAbs*2 ^ b) (-(b:Int)))=fv n z:=by
 show Ieee.double.nearest (a6 n z) (n.natAbs*2 ^ b) (-(b:Int))=fv n z
 by_cases h0:n=0
 ·subst h0
  unfold Ieee.Format.nearest
  rw[if_pos (by simp),aax]
  simp[fv]
 ·rw[aiP _ (by omega) h b]
  simp[fv,h0]
theorem CT (n:Int) (z:Bool) (b c:Nat):Ieee.signed (a6 n z) (n.natAbs*2 ^ b) c=n*2 ^ (b+c):=by
 have key:((n.natAbs*2 ^ b) <<< c:Nat)=n.natAbs*2 ^ (b+c):=by rw[Nat.shiftLeft_eq,Nat.mul_assoc,<-Nat.pow_add]
 unfold Ieee.signed
 rw[key]
 by_cases h0:n=0
 ·subst h0;cases z<;>simp[a6]
 ·by_cases hn:n<0
  ·rw[if_pos (by simp[a6,h0,hn])]
   rw[Int.natCast_mul,Int.ofNat_natAbs_of_nonpos (by omega),Int.natCast_pow]
   simp[Int.neg_mul]
  ·rw[if_neg (by simp[a6,h0,hn])]
   rw[Int.natCast_mul,Int.natAbs_of_nonneg (by omega),Int.natCast_pow]
   simp
theorem Zo (n m:Int) (y z:Bool) (a b:Nat):Ieee.Datum.sum (.number (a6 n y) (n.natAbs*2 ^ a) (-(a:Int))) (.number (a6 m z) (m.natAbs*2 ^ b) (-(b:Int))) =
  some (.number (a6 (n+m) (a6 n y&&a6 m z)) ((n+m).natAbs*2 ^ (max a b)) (-((max a b:Nat):Int))):=by
 unfold Ieee.Datum.sum
 have hb:min (-(a:Int)) (-(b:Int)) = -((max a b:Nat):Int):=by omega
 simp only[hb]
 have ha:(-(a:Int) - -((max a b:Nat):Int)).toNat=max a b-a:=by omega
 have f0:(-(b:Int) - -((max a b:Nat):Int)).toNat=max a b-b:=by omega
 rw[ha,f0,CT,CT,show a+(max a b-a)=max a b by omega,show b+(max a b-b)=max a b by omega]
 have e:n*2 ^ (max a b)+m*2 ^ (max a b)=(n+m)*2 ^ (max a b):=by rw[Int.add_mul]
 rw[e]
 have hp:(0:Int)<2 ^ (max a b):=Int.pow_pos (by decide)
 have e1:((n+m)*2 ^ (max a b)).natAbs=(n+m).natAbs*2 ^ (max a b):=by
  rw[Int.natAbs_mul,Int.natAbs_pow];rfl
 rw[e1]
 have e2:(if(n+m)*2 ^ (max a b)=0 then(a6 n y&&a6 m z)else decide ((n+m)*2 ^ (max a b)<0))=a6 (n+m) (a6 n y&&a6 m z):=by
  unfold a6
  by_cases h0:n+m=0
  ·rw[if_pos (by rw[h0,Int.zero_mul]),if_pos h0]
  ·rw[if_neg (Int.mul_ne_zero h0 (by omega)),if_neg h0]
   by_cases A:n+m<0
   ·rw[decide_eq_true A,decide_eq_true (Int.mul_neg_of_neg_of_pos A hp)]
   ·rw[decide_eq_false A,decide_eq_false (by have:=Int.mul_nonneg (show 0<=n+m by omega) (Int.le_of_lt hp);omega)]
 rw[<-e2]
theorem aeS {n m:Int} {y z:Bool} (hn:n.natAbs<2 ^ 53) (hm:m.natAbs<2 ^ 53) (hs:(n+m).natAbs<2 ^ 53):Ieee.double.add (fv n y) (fv m z)=some (fv (n+m) (a6 n y&&a6 m z)):=by
 unfold Ieee.Format.add
 rw[rp hn,rp hm,Zo,Option.map_some,IT _ _ hs]
theorem Y' (n:Int) (z:Bool):(!a6 n z)=a6 (-n) (!z):=by
 unfold a6
 by_cases h0:n=0
 ·subst h0;simp
 ·rw[if_neg h0,if_neg (by omega)]
  by_cases h:n<0
  ·rw[decide_eq_true h,decide_eq_false (by omega)];rfl
  ·rw[decide_eq_false h,decide_eq_true (by omega)];rfl
theorem afe {n m:Int} {y z:Bool} (hn:n.natAbs<2 ^ 53) (hm:m.natAbs<2 ^ 53) (hs:(n-m).natAbs<2 ^ 53):Ieee.double.sub (fv n y) (fv m z)=some (fv (n-m) (a6 n y && !a6 m z)):=by
 unfold Ieee.Format.sub
 rw[rp hn,rp hm]
 simp only[Ieee.Datum.opposite]
 rw[Y',show m.natAbs=(-m).natAbs by omega,Zo,Option.map_some,<-Int.sub_eq_add_neg,IT _ _ hs]
theorem ae6 {n m:Int} {y z:Bool} (hn:n.natAbs<2 ^ 53) (hm:m.natAbs<2 ^ 53) (hs:(n*m).natAbs<2 ^ 53):Ieee.double.mul (fv n y) (fv m z)=some (fv (n*m) (a6 n y ^^ a6 m z)):=by
 unfold Ieee.Format.mul
 rw[rp hn,rp hm]
 simp only[Ieee.Datum.product,Option.map_some]
 have e1:n.natAbs*2 ^ pl n*(m.natAbs*2 ^ pl m)=(n*m).natAbs*2 ^ (pl n+pl m):=by
  rw[Int.natAbs_mul,Nat.pow_add];ac_rfl
 have e2 : -(pl n:Int) + -(pl m:Int) = -((pl n+pl m:Nat):Int):=by omega
 have e3:(a6 n y ^^ a6 m z)=a6 (n*m) (a6 n y ^^ a6 m z):=by
  unfold a6
  by_cases h0:n=0
  ·subst h0;simp
  ·by_cases A:m=0
   ·subst A;simp
   ·rw[if_neg h0,if_neg A,if_neg (Int.mul_ne_zero h0 A)]
    by_cases a:n<0
    ·by_cases b:m<0
     ·have:=Int.mul_pos_of_neg_of_neg a b
      rw[decide_eq_true a,decide_eq_true b,decide_eq_false (by omega)];rfl
     ·have:=Int.mul_neg_of_neg_of_pos a (show 0<m by omega)
      rw[decide_eq_true a,decide_eq_false b,decide_eq_true this];rfl
    ·by_cases b:m<0
     ·have:=Int.mul_neg_of_pos_of_neg (show 0<n by omega) b
      rw[decide_eq_false a,decide_eq_true b,decide_eq_true this];rfl
     ·have:=Int.mul_pos (show 0<n by omega) (show 0<m by omega)
      rw[decide_eq_false a,decide_eq_false b,decide_eq_false (by omega)];rfl
 rw[e1,e2,e3,IT _ _ hs,<-e3]
theorem ae8 {n m:Int} {y z:Bool} (hn:n.natAbs<2 ^ 53) (hm:m.natAbs<2 ^ 53):Ieee.double.order (fv n y) (fv m z)=some (compare n m):=by
 unfold Ieee.Format.order
 rw[rp hn,rp hm]
 unfold Ieee.Datum.order
 generalize pl n=a
 generalize pl m=b
 have hb:min (-(a:Int)) (-(b:Int)) = -((max a b:Nat):Int):=by omega
 simp only[hb]
 have ha:(-(a:Int) - -((max a b:Nat):Int)).toNat=max a b-a:=by omega
 have f0:(-(b:Int) - -((max a b:Nat):Int)).toNat=max a b-b:=by omega
 rw[ha,f0,CT,CT,show a+(max a b-a)=max a b by omega,show b+(max a b-b)=max a b by omega]
 have hp:(0:Int)<2 ^ (max a b):=Int.pow_pos (by decide)
 congr 1
 have lt:n*2 ^ (max a b)<m*2 ^ (max a b)↔n<m:=⟨fun h=>Int.lt_of_mul_lt_mul_right h (Int.le_of_lt hp),fun h=>Int.mul_lt_mul_of_pos_right h hp⟩
 have eq:n*2 ^ (max a b)=m*2 ^ (max a b)↔n=m:=⟨fun h=>Int.eq_of_mul_eq_mul_right (by omega) h,fun h=>by rw[h]⟩
 simp only[compare,compareOfLessAndEq,lt,eq]
theorem ae1 {n:Int} {z:Bool} (hn:n.natAbs<2 ^ 53):(Ieee.double.read (fv n z)).toInt .zero=some n:=by
 rw[rp hn]
 unfold Ieee.Datum.toInt Ieee.Datum.integral
 simp only
 have e0:(-(pl n:Int)).toNat=0:=by omega
 have e1:(- -(pl n:Int)).toNat=pl n:=by omega
 rw[e0,e1,Nat.shiftLeft_zero]
 have H:Ieee.Toward.zero.cut (a6 n z) (n.natAbs*2 ^ pl n) (pl n)=n.natAbs:=by
  unfold Ieee.Toward.cut
  by_cases h0:n=0
  ·subst h0;simp
  ·have M:pl n<=(n.natAbs*2 ^ pl n).log2+2:=by rw[NG (by omega)];omega
   rw[Nat.min_eq_left M,Nat.one_shiftLeft]
   have hp:0<2 ^ pl n:=Nat.two_pow_pos _
   simp only[Nat.mul_div_cancel _ hp]
   rfl
 rw[H]
 have:=CT n z 0 0
 simp only[Nat.pow_zero,Nat.mul_one,Int.pow_zero,Int.mul_one,Nat.add_zero]at this
 rw[this]
theorem ae7 (n:Int) (hn:n.natAbs<2 ^ 53):FloatKind.f64.nearest n=fv n false:=by
 have h:=IT n false hn 0
 have e:a6 n false=decide (n<0):=by
  unfold a6;split
  ·rename_i h0;subst h0;rfl
  ·rfl
 rw[e,Nat.pow_zero,Nat.mul_one]at h
 exact h
theorem Ly {n:Int} {z:Bool} (hn:n.natAbs<2 ^ 53):Op.negFloat .f64 (fv n z)=fv (-n) (!z):=by
 have w:∀(s:Bool) (r:Nat),r<2 ^ 63->Nat.xor ((if s=true then 2 ^ 63 else 0)+r) (2 ^ 63)=(if(!s)=true then 2 ^ 63 else 0)+r:=by
  intro s r hr
  have x:2 ^ 63 ^^^ r=2 ^ 63+r:=by
   have:=Nat.two_pow_add_eq_or_of_lt hr 1
   rw[Nat.mul_one]at this
   rw[this]
   refine Nat.eq_of_testBit_eq fun i => ?_
   rw[Nat.testBit_xor,Nat.testBit_or,Nat.testBit_two_pow]
   by_cases hi:63=i
   ·subst hi;rw[Nat.testBit_lt_two_pow hr];simp
   ·simp[hi]
  cases s
  ·simp only[Bool.false_eq_true,if_false,Nat.zero_add,Bool.not_false,if_true]
   rw[<-x];exact Nat.xor_comm _ _
  ·simp only[if_true,Bool.not_true,Bool.false_eq_true,if_false,Nat.zero_add]
   rw[<-x]
   show(2 ^ 63 ^^^ r) ^^^ 2 ^ 63=r
   rw[Nat.xor_comm,<-Nat.xor_assoc,Nat.xor_self,Nat.zero_xor]
 have hr:(if n=0 then 0 else rk n.natAbs)<2 ^ 63:=by
  split
  ·decide
  ·have:=(Pu (N:=n.natAbs) (by omega) hn).2
   omega
 have e:Op.negFloat .f64 (fv n z)=Nat.xor (fv n z) (2 ^ 63):=rfl
 rw[e]
 unfold fv
 rw[w _ _ hr,Y',show(-n).natAbs=n.natAbs by omega]
 congr 1
 by_cases h0:n=0
 ·subst h0;rfl
 ·rw[if_neg h0,if_neg (by omega)]
end Go.Proofs.Aw
namespace Go.Proofs.Aw
open Go
def qO (op:BinOp) (k:IntKind) (a:Int) (k':IntKind) (b:Int):Option Value :=
 match op with
 | .shl=>if 0<=b then some (.int k (k.wrap (a*2 ^ (min b.toNat k.bits))))else none
 | .shr=>if 0<=b then some (.int k (a.fdiv (2 ^ (min b.toNat k.bits))))else none
 | .add=>if k=k' then some (.int k (k.wrap (a+b)))else none
 | .sub=>if k=k' then some (.int k (k.wrap (a-b)))else none
 | .mul=>if k=k' then some (.int k (k.wrap (a*b)))else none
 | .quo=>if k=k'/\b≠0 then some (.int k (k.wrap (a.tdiv b)))else none
 | .rem=>if k=k'/\b≠0 then some (.int k (a.tmod b))else none
 | .and=>if k=k' then some (.int k (bits .and k a b))else none
 | .or=>if k=k' then some (.int k (bits .or k a b))else none
 | .xor=>if k=k' then some (.int k (bits .xor k a b))else none
 | .andNot=>if k=k' then some (.int k (bits .andNot k a b))else none
 | .lss=>if k=k' then some (.bool (decide (a<b)))else none
 | .leq=>if k=k' then some (.bool (decide (a<=b)))else none
 | .gtr=>if k=k' then some (.bool (decide (b<a)))else none
 | .geq=>if k=k' then some (.bool (decide (b<=a)))else none
 | .eql=>if k=k' then some (.bool (a==b))else none
 | .neq=>if k=k' then some (.bool (!(a==b)))else none
def CX (op:BinOp) (a b:ByteArray):Option Value :=
 match op with
 | .eql=>some (.bool (a.toList==b.toList))
 | .neq=>some (.bool (!(a.toList==b.toList)))
 | .lss=>some (.bool (Op.bytesLess a.toList b.toList))
 | .leq=>some (.bool (Op.bytesLess a.toList b.toList||a.toList==b.toList))
 | .gtr=>some (.bool (!(Op.bytesLess a.toList b.toList||a.toList==b.toList)))
 | .geq=>some (.bool (!Op.bytesLess a.toList b.toList))
 | _=>none
theorem ard {P:Program} {op:BinOp} {k k':IntKind} {a b:Int} {v:Value} (h:qO op k a k' b=some v) (ty:TypeId) (w:World):(binOp op ty (.int k a) (.int k' b)).run P w = .ok v w:=by
 cases op<;>simp only[qO]at h<;>split at h<;>first | cases h | skip
 case shl.isTrue hb=>simp[binOp,Op.shift,Int.not_lt.2 hb]
 case shr.isTrue hb=>simp[binOp,Op.shift,Int.not_lt.2 hb]
 case quo.isTrue hb=>simp[binOp,hb.1,Op.intDiv,hb.2]
 case rem.isTrue hb=>simp[binOp,hb.1,Op.intDiv,hb.2]
 all_goals (rename_i u;subst u)
 all_goals first
  | (simp[binOp,Op.intArith];done)
  | (simp[binOp,Op.intCmp];done)
  | (simp[binOp,Op.intCmp,bne];done)
  | (simp[binOp,intBits_and,intBits_or,intBits_xor,intBits_andNot];done)
theorem arh {P:Program} {op:BinOp} {a b:ByteArray} {v:Value} (h:CX op a b=some v) (ty:TypeId) (w:World):(binOp op ty (.string a) (.string b)).run P w = .ok v w:=by
 cases op<;>simp only[CX,Option.some.injEq,reduceCtorEq]at h<;>subst h<;>simp[binOp,Op.stringOp]
def eV (op:BinOp) (a b:Nat):Option Value :=
 match op with
 | .add=>(Ieee.double.add a b).map (.float .f64)
 | .sub=>(Ieee.double.sub a b).map (.float .f64)
 | .mul=>(Ieee.double.mul a b).map (.float .f64)
 | .eql=>some (.bool (Ieee.double.order a b==some .eq))
 | .neq=>some (.bool (Ieee.double.order a b != some .eq))
 | .lss=>some (.bool (Ieee.double.order a b==some .lt))
 | .leq=>some (.bool (Ieee.double.order a b==some .lt||Ieee.double.order a b==some .eq))
 | .gtr=>some (.bool (Ieee.double.order a b==some .gt))
 | .geq=>some (.bool (Ieee.double.order a b==some .gt||Ieee.double.order a b==some .eq))
 | _=>none
theorem arc {P:Program} {op:BinOp} {a b:Nat} {v:Value} (h:eV op a b=some v) (ty:TypeId) (w:World):(binOp op ty (.float .f64 a) (.float .f64 b)).run P w = .ok v w:=by
 cases op<;>simp only[eV,reduceCtorEq]at h
 case add=>obtain⟨r,hr,rfl⟩:=Option.map_eq_some_iff.1 h;simp[binOp,Op.floatArith,FloatKind.format,hr]
 case sub=>obtain⟨r,hr,rfl⟩:=Option.map_eq_some_iff.1 h;simp[binOp,Op.floatArith,FloatKind.format,hr]
 case mul=>obtain⟨r,hr,rfl⟩:=Option.map_eq_some_iff.1 h;simp[binOp,Op.floatArith,FloatKind.format,hr]
 all_goals (cases h;simp[binOp,Op.floatCmp,FloatKind.format])
def Km (wt rV ez wZ:Option Nat):Option Value :=
 match wt,rV,ez,wZ with
 | some wt,some rV,some ez,some wZ=>match Ieee.double.sub wt rV,Ieee.double.add ez wZ with
  | some x,some y=>some (.complex .f64 x y)
  | _,_=>none
 | _,_,_,_=>none
def ql (op:BinOp) (a b c d:Nat):Option Value :=
 match op with
 | .add=>match Ieee.double.add a c,Ieee.double.add b d with
  | some x,some y=>some (.complex .f64 x y)
  | _,_=>none
 | .sub=>match Ieee.double.sub a c,Ieee.double.sub b d with
  | some x,some y=>some (.complex .f64 x y)
  | _,_=>none
 | .mul=>Km (Ieee.double.mul a c) (Ieee.double.mul b d) (Ieee.double.mul a d) (Ieee.double.mul b c)
 | .eql=>some (.bool ((Ieee.double.order a c==some .eq)&&(Ieee.double.order b d==some .eq)))
 | .neq=>some (.bool !((Ieee.double.order a c==some .eq)&&(Ieee.double.order b d==some .eq)))
 | _=>none
theorem arb {P:Program} {op:BinOp} {a b r:Nat} (h:eV op a b=some (.float .f64 r)) (w:World):(Op.Complex.arith op .f64 a b).run P w = .ok r w:=by
 cases op<;>simp only[eV,reduceCtorEq,Option.some.injEq]at h
 case add=>obtain⟨r,hr,e⟩:=Option.map_eq_some_iff.1 h;cases e;simp[Op.Complex.arith,Op.floatArith,FloatKind.format,hr]
 case sub=>obtain⟨r,hr,e⟩:=Option.map_eq_some_iff.1 h;cases e;simp[Op.Complex.arith,Op.floatArith,FloatKind.format,hr]
 case mul=>obtain⟨r,hr,e⟩:=Option.map_eq_some_iff.1 h;cases e;simp[Op.Complex.arith,Op.floatArith,FloatKind.format,hr]
theorem ara {P:Program} {op:BinOp} {a b c d:Nat} {v:Value} (h:ql op a b c d=some v) (ty:TypeId) (w:World):(binOp op ty (.complex .f64 a b) (.complex .f64 c d)).run P w = .ok v w:=by
 have o4:∀{op:BinOp} {x y r:Nat},eV op x y=some (.float .f64 r)->(Op.Complex.arith op .f64 x y).run P w = .ok r w:=fun h=>arb h w
 cases op<;>simp only[ql,reduceCtorEq]at h
 case add =>
  split at h
  ·rename_i x y A E
   cases h
   have e1:=o4 (op := .add) (x:=a) (y:=c) (r:=x) (by simp[eV,A])
   have e2:=o4 (op := .add) (x:=b) (y:=d) (r:=y) (by simp[eV,E])
   simp[binOp,Op.complexOp,e1,e2]
  ·cases h
 case sub =>
  split at h
  ·rename_i x y A E
   cases h
   have e1:=o4 (op := .sub) (x:=a) (y:=c) (r:=x) (by simp[eV,A])
   have e2:=o4 (op := .sub) (x:=b) (y:=d) (r:=y) (by simp[eV,E])
   simp[binOp,Op.complexOp,e1,e2]
  ·cases h
 case mul =>
  unfold Km at h
  split at h
  ·rename_i wt rV ez wZ A E h3 h4
   split at h
   ·rename_i x y h5 h6
    cases h
    have e1:=o4 (op := .mul) (x:=a) (y:=c) (r:=wt) (by simp[eV,A])
    have e2:=o4 (op := .mul) (x:=b) (y:=d) (r:=rV) (by simp[eV,E])
    have e3:=o4 (op := .mul) (x:=a) (y:=d) (r:=ez) (by simp[eV,h3])
    have e4:=o4 (op := .mul) (x:=b) (y:=c) (r:=wZ) (by simp[eV,h4])
    have iG:=o4 (op := .sub) (x:=wt) (y:=rV) (r:=x) (by simp[eV,h5])
    have KG:=o4 (op := .add) (x:=ez) (y:=wZ) (r:=y) (by simp[eV,h6])
    simp[binOp,Op.complexOp,Op.Complex.conv,Op.Complex.product,Op.Complex.mul,Op.Complex.sub,Op.Complex.add,e1,e2,e3,e4,iG,KG]
   ·cases h
  ·cases h
 all_goals (cases h;simp[binOp,Op.complexOp,Op.Complex.cmp,Op.floatCmp,FloatKind.format];rfl)
theorem wk {P:Program} (op:BinOp) (ty:TypeId) (x y:Operand) (Y v:Value) (A:∀c,Y ≠ .agg c) (E:Y ≠ .nilIface) (w:World):(eqGuard op ty x y Y v).run P w = .ok () w:=by
 cases Y<;>first
  | exact absurd rfl (A _)
  | exact absurd rfl E
  | (cases op<;>rfl)
def vw (P:Program) (ty:TypeId):Option (List Nat):=if P.eqGuardType P.depth ty=false/\eT P ty=some true then leaves P 8 ty else none
def w3 (P:Program) (ty:TypeId):Bool:=match P.underlying ty with | some .bool=>true | _=>false
def gp (P:Program) (op:BinOp) (ty:TypeId) (x y:AV):Option AV :=
 match x,y with
 | .sc (.int k a),.sc (.int k' b)=>(qO op k a k' b).map .sc
 | .sc (.string a),.sc (.string b)=>(CX op a b).map .sc
 | .sc (.bool a),.sc (.bool b)=>match w3 P ty,op with
  | true,.eql=>some (.sc (.bool (a==b)))
  | true,.neq=>some (.sc (.bool (!(a==b))))
  | _,_=>none
 | .sc (.float .f64 a),.sc (.float .f64 b)=>(eV op a b).map .sc
 | .sc (.complex .f64 a b),.sc (.complex .f64 c d)=>(ql op a b c d).map .sc
 | .agg xs,.agg ys=>match op with
  | .eql=>(vw P ty).bind fun l=>(ai l xs ys).map fun b => .sc (.bool b)
  | .neq=>(vw P ty).bind fun l=>(ai l xs ys).map fun b => .sc (.bool (!b))
  | _=>none
 | _,_=>none
theorem YB {P:Program} {C:Ctx} {ty:TypeId} {xs ys:List AV} {us vs:Array Value} {l:List Nat} {b:Bool} (M:vw P ty=some l) (G:ai l xs ys=some b) (hx:aC C xs us.toList) (hy:aC C ys vs.toList) (x y:Operand) (op:BinOp) :
  (eqGuard op ty x y (.agg us) (.agg vs)).run P C.w = .ok () C.w/\(Op.equalIn 10000 ty (.agg us) (.agg vs)).run P C.w = .ok b C.w:=by
 unfold vw at M
 split at M
 ·rename_i Z
  refine⟨run_eqGuard_agg C.w op ty x y us vs Z.1,?_⟩
  exact xq 8 10000 ty l (by omega) M xs ys b true _ _ Z.2 G (by simp only[oy,if_true,aj];exact⟨us,rfl,hx⟩) (by simp only[oy,if_true,aj];exact⟨vs,rfl,hy⟩)
 ·cases M
section
variable {P:Program} {n:Nat} {t:Tp} {h:Hp}
theorem abH {op:BinOp} {ty ty':TypeId} {x y:Operand} {v:AV} (R:gp P op ty (ev t x) (ev t y)=some v):Yields P n (.binOp op ty x y ty') t h v [] :=
 Yields.pure fun C a o ho W ht=>by
  have A:=b0 ht x
  have E:=b0 ht y
  revert A E R
  generalize ev t x=X
  generalize ev t y=abs
  intro R A E
  have key:∀(Y:Value),(eqGuard op ty x y (a.eval x) (a.eval y)).run P C.w = .ok () C.w->(binOp op ty (a.eval x) (a.eval y)).run P C.w = .ok Y C.w->(execOp a.eval o).run P C.w = .ok (.value Y) C.w:=by
   intro Y e1 e2
   unfold execOp
   rw[ho]
   simp only[Sem.run_bind,e1,e2,Result.andThen_ok]
   rfl
  unfold gp at R
  split at R
  ·simp only[aj]at A E
   obtain⟨Y,hu,rfl⟩:=Option.map_eq_some_iff.1 R
   refine⟨Y,key Y ?_ ?_,by simp only[aj]⟩
   ·rw[A];exact wk _ _ _ _ _ _ (by simp) (by simp) _
   ·rw[A,E];exact ard hu _ _
  ·simp only[aj]at A E
   obtain⟨Y,hu,rfl⟩:=Option.map_eq_some_iff.1 R
   refine⟨Y,key Y ?_ ?_,by simp only[aj]⟩
   ·rw[A];exact wk _ _ _ _ _ _ (by simp) (by simp) _
   ·rw[A,E];exact arh hu _ _
  ·simp only[aj]at A E
   have Z:(eqGuard op ty x y (a.eval x) (a.eval y)).run P C.w = .ok () C.w:=by rw[A];exact wk _ _ _ _ _ _ (by simp) (by simp) _
   split at R
   ·rename_i hb
    cases R
    have hu:P.underlying ty=some .bool:=by
     unfold w3 at hb
     split at hb
     ·assumption
     ·cases hb
    exact⟨_,key _ Z (by rw[A,E];exact run_eql_bool _ _ _ _ hu),by simp only[aj]⟩
   ·rename_i hb
    cases R
    have hu:P.underlying ty=some .bool:=by
     unfold w3 at hb
     split at hb
     ·assumption
     ·cases hb
    exact⟨_,key _ Z (by rw[A,E];exact run_neq_bool _ _ _ _ hu),by simp only[aj]⟩
   ·cases R
  ·simp only[aj]at A E
   obtain⟨Y,hu,rfl⟩:=Option.map_eq_some_iff.1 R
   refine⟨Y,key Y ?_ ?_,by simp only[aj]⟩
   ·rw[A];exact wk _ _ _ _ _ _ (by simp) (by simp) _
   ·rw[A,E];exact arc hu _ _
  ·simp only[aj]at A E
   obtain⟨Y,hu,rfl⟩:=Option.map_eq_some_iff.1 R
   refine⟨Y,key Y ?_ ?_,by simp only[aj]⟩
   ·rw[A];exact wk _ _ _ _ _ _ (by simp) (by simp) _
   ·rw[A,E];exact ara hu _ _
  ·simp only[aj]at A E
   obtain⟨us,e1,hx⟩:=A
   obtain⟨vs,e2,hy⟩:=E
   split at R
   ·obtain⟨l,M,R⟩:=Option.bind_eq_some_iff.1 R
    obtain⟨b,hb,rfl⟩:=Option.map_eq_some_iff.1 R
    obtain⟨g1,g2⟩:=YB M hb hx hy x y .eql
    exact⟨.bool b,key _ (by rw[e1,e2];exact g1) (by rw[e1,e2,run_eql_struct,g2];rfl),by simp only[aj]⟩
   ·obtain⟨l,M,R⟩:=Option.bind_eq_some_iff.1 R
    obtain⟨b,hb,rfl⟩:=Option.map_eq_some_iff.1 R
    obtain⟨g1,g2⟩:=YB M hb hx hy x y .neq
    exact⟨.bool (!b),key _ (by rw[e1,e2];exact g1) (by rw[e1,e2,run_neq_struct,g2];rfl),by simp only[aj]⟩
   ·cases R
  ·cases R
def rN (op:UnOp) (x:AV):Option AV :=
 match op,x with
 | .not,.sc (.bool b)=>some (.sc (.bool (!b)))
 | .neg,.sc (.int k a)=>some (.sc (.int k (k.wrap (0-a))))
 | .neg,.sc (.float .f64 a)=>some (.sc (.float .f64 (Op.negFloat .f64 a)))
 | .neg,.sc (.complex .f64 a b)=>some (.sc (.complex .f64 (Op.negFloat .f64 a) (Op.negFloat .f64 b)))
 | _,_=>none
theorem aco {op:UnOp} {ty:TypeId} {x:Operand} {v:AV} (R:rN op (ev t x)=some v):Yields P n (.unOp op ty x) t h v [] :=
 Yields.pure fun C a o ho W ht=>by
  have A:=b0 ht x
  revert A R
  generalize ev t x=X
  intro R A
  unfold rN at R
  split at R
  ·cases R
   simp only[aj]at A
   refine⟨_,?_,by simp only[aj];rfl⟩
   unfold execOp
   rw[ho]
   simp only[A]
   rfl
  ·cases R
   simp only[aj]at A
   refine⟨_,?_,by simp only[aj];rfl⟩
   unfold execOp
   rw[ho]
   simp only[A]
   rfl
  ·cases R
   simp only[aj]at A
   refine⟨_,?_,by simp only[aj];rfl⟩
   unfold execOp
   rw[ho]
   simp only[A]
   rfl
  ·cases R
   simp only[aj]at A
   refine⟨_,?_,by simp only[aj];rfl⟩
   unfold execOp
   rw[ho]
   simp only[A]
   rfl
  ·cases R
def uC (P:Program) (dst:TypeId) (x:AV):Option AV :=
 match P.underlying dst,x with
 | some (.int k),.sc (.int _ i)=>some (.sc (.int k (k.wrap i)))
 | some (.float .f64),.sc (.int _ i)=>some (.sc (.float .f64 (FloatKind.f64.nearest i)))
 | some (.int k),.sc (.float .f64 b)=>match(Ieee.double.read b).toInt .zero with
  | some i=>if k.min<=i/\i<=k.max then some (.sc (.int k i))else none
  | none=>none
 | _,_=>none
theorem abM {src dst:TypeId} {x:Operand} {v:AV} (hs:(P.underlying src).isSome=true) (R:uC P dst (ev t x)=some v):Yields P n (.convert src dst x) t h v [] :=
 Yields.pure fun C a o ho W ht=>by
  have A:=b0 ht x
  revert A R
  generalize ev t x=X
  intro R A
  unfold uC at R
  split at R
  ·rename_i k k' i hd
   cases R
   simp only[aj]at A
   obtain⟨ds,i5⟩:=Option.isSome_iff_exists.1 hs
   refine⟨.int k (k.wrap i),?_,by simp only[aj]⟩
   unfold execOp
   rw[ho]
   simp only[A,convert,Sem.run_bind,run_underlying i5,run_underlying hd,Result.andThen_ok]
   cases ds<;>rfl
  ·rename_i k' i hd
   cases R
   simp only[aj]at A
   obtain⟨ds,i5⟩:=Option.isSome_iff_exists.1 hs
   refine⟨.float .f64 (FloatKind.f64.nearest i),?_,by simp only[aj]⟩
   unfold execOp
   rw[ho]
   simp only[A,convert,Sem.run_bind,run_underlying i5,run_underlying hd,Result.andThen_ok]
   cases ds<;>rfl
  ·rename_i k b hd
   split at R
   ·rename_i i hi
    split at R
    ·rename_i H
     cases R
     simp only[aj]at A
     obtain⟨ds,i5⟩:=Option.isSome_iff_exists.1 hs
     have e:(Conv.floatToInt .f64 b k).run P C.w = .ok (.int k i) C.w:=by
      have Ma:(FloatKind.f64.decode b).toInt .zero=some i:=hi
      unfold Conv.floatToInt
      simp only[Ma,H,and_self,if_true]
      rfl
     refine⟨.int k i,?_,by simp only[aj]⟩
     unfold execOp
     rw[ho]
     have c:(convert src dst (.float .f64 b)).run P C.w = .ok (.int k i) C.w:=by
      simp only[convert,Sem.run_bind,run_underlying i5,run_underlying hd,Result.andThen_ok]
      cases ds<;>exact e
     simp only[A,Sem.run_bind,c,Result.andThen_ok]
     rfl
    ·cases R
   ·cases R
  ·cases R
theorem tC {b:Builtin} {c:Call} (hb:c.callee = .builtin b) (ρ:Operand->Value) (w:World) (o:Oper) (ho:o.op = .call c) :
  (execOp ρ o).run P w=(builtin b c.argTypes o.type (c.args.map fun | .const _=>true | _=>false) (c.args.map ρ)).run P w:=by
 obtain⟨cal,args,gH⟩:=c
 simp only at hb
 subst hb
 unfold execOp
 rw[ho]
 rfl
def uD:Builtin->List AV->Option AV
 | .real,[.sc (.complex k a _)]=>some (.sc (.float k a))
 | .imag,[.sc (.complex k _ b)]=>some (.sc (.float k b))
 | .complex,[.sc (.float .f64 a),.sc (.float .f64 b)]=>some (.sc (.complex .f64 a b))
 | _,_=>none
end
end Go.Proofs.Aw
namespace Go.Proofs.Aw
open Go
def ep (P:Program) (t:TypeId):Option (Nat×Nat):=match P.underlying t with | some (.array n e)=>if 0<P.cellsOf e then some (n,P.cellsOf e)else none | _=>none
def bE (P:Program) (t:TypeId):Option (TypeId×Nat):=match P.underlying t with | some (.slice e)=>if 0<P.cellsOf e then some (e,P.cellsOf e)else none | _=>none
def jc (P:Program) (t:TypeId):Option (List (Nat×Nat)):=match P.underlying t with | some (.struct fs)=>if fs.toList.all (fun f=>decide (0<P.cellsOf f.type))=true then some (fs.toList.map fun f=>(f.offset,P.cellsOf f.type))else none | _=>none
def nv (P:Program) (t:TypeId):Bool:=match P.underlying t with | some .string=>true | _=>false
theorem D7 {P:Program} {t:TypeId} {n z:Nat} (h:ep P t=some (n,z)):∃e,P.underlying t=some (.array n e)/\P.cellsOf e=z/\0<z:=by
 unfold ep at h
 split at h
 ·rename_i m e hu
  split at h
  ·cases h;exact⟨e,hu,rfl,by assumption⟩
  ·cases h
 ·cases h
theorem lI {P:Program} {t e:TypeId} {z:Nat} (h:bE P t=some (e,z)):P.underlying t=some (.slice e)/\P.cellsOf e=z/\0<z:=by
 unfold bE at h
 split at h
 ·rename_i e' hu
  split at h
  ·cases h;exact⟨hu,rfl,by assumption⟩
  ·cases h
 ·cases h
theorem XW {P:Program} {t:TypeId} {l:List (Nat×Nat)} (h:jc P t=some l):∃fs,P.underlying t=some (.struct fs)/\(∀f∈fs.toList,0<P.cellsOf f.type)/\l=fs.toList.map fun f=>(f.offset,P.cellsOf f.type):=by
 unfold jc at h
 split at h
 ·rename_i fs hu
  split at h
  ·rename_i ha
   cases h
   exact⟨fs,hu,fun f hf=>by simpa using List.all_eq_true.1 ha f hf,rfl⟩
  ·cases h
 ·cases h
def l_ (place:Nat->Option (Nat×Nat)) (cells:List AV):List (Nat×AV)->Option (List AV)
 | []=>some cells
 | (i,v)::r=>match place i with
  | none=>none
  | some (off,size)=>if v.cells.length=size/\off+size<=cells.length/\v.cells.all AV.one=true then l_ place (fT cells off v.cells) r else none
theorem foldl_set (off:Nat):∀(l:List Value) (k:Nat) (cs:Array Value),((l.zipIdx k).foldl (fun cs x=>cs.setIfInBounds (off+x.2) x.1) cs).size=cs.size /\
  ∀i,i<cs.size->((l.zipIdx k).foldl (fun cs x=>cs.setIfInBounds (off+x.2) x.1) cs)[i]? = if off+k<=i/\i<off+k+l.length then l[i-(off+k)]? else cs[i]?
 | [],k,cs=>by
  refine⟨by simp,fun i _ => ?_⟩
  rw[if_neg (by simp)]
  simp
 | v::l,k,cs=>by
  have ih:=foldl_set off l (k+1) (cs.setIfInBounds (off+k) v)
  simp only[List.zipIdx_cons,List.foldl_cons]
  refine⟨by rw[ih.1];simp,fun i hi => ?_⟩
  rw[ih.2 i (by simpa using hi)]
  by_cases A:off+(k+1)<=i/\i<off+(k+1)+l.length
  ·rw[if_pos A,if_pos (by simp;omega)]
   rw[show i-(off+k)=i-(off+(k+1))+1 from by omega,List.getElem?_cons_succ]
  ·rw[if_neg A]
   by_cases E:i=off+k
   ·subst E
    rw[if_pos (by simp),Nat.sub_self,List.getElem?_cons_zero,Array.getElem?_setIfInBounds_self]
    simp[hi]
   ·rw[if_neg (by simp;omega),Array.getElem?_setIfInBounds_ne (Ne.symm E)]
theorem arI {C:Ctx} {cs vs:List AV} {us ws rs:List Value} {off:Nat} (H:aC C cs us) (R:aC C vs ws) (M:off+vs.length<=cs.length) (gg:rs.length=us.length)
  (hr:∀i,i<us.length->rs[i]? = if off<=i/\i<off+ws.length then ws[i-off]? else us[i]?):aC C (fT cs off vs) rs:=by
 have l1:=H.length
 have l2:=R.length
 refine aC.mk (by simp[fT];omega) fun i c Y A E => ?_
 have hi:i<us.length:=by rw[<-gg];exact(List.getElem?_eq_some_iff.1 E).1
 rw[hr i hi]at E
 simp only[fT]at A
 by_cases ha:i<off
 ·rw[List.getElem?_append_left (by simp;omega),List.getElem?_take,if_pos ha]at A
  rw[if_neg (by omega)]at E
  obtain⟨u',a3,a9⟩:=H.get i c A
  rw[E]at a3;cases a3;exact a9
 ·rw[List.getElem?_append_right (by simp;omega)]at A
  simp only[List.length_take,Nat.min_eq_left (show off<=cs.length by omega)]at A
  by_cases hb:i<off+vs.length
  ·rw[List.getElem?_append_left (by omega)]at A
   rw[if_pos (by omega)]at E
   obtain⟨u',a3,a9⟩:=R.get _ c A
   rw[E]at a3;cases a3;exact a9
  ·rw[List.getElem?_append_right (by omega),List.getElem?_drop,show off+vs.length+(i-off-vs.length)=i from by omega]at A
   rw[if_neg (by omega)]at E
   obtain⟨u',a3,a9⟩:=H.get i c A
   rw[E]at a3;cases a3;exact a9
theorem Lq {C:Ctx} {place:Nat->Option (Nat×Nat)}:∀(ps:List (Nat×AV)) (CC:List (Nat×Value)) (cs bn:List AV) (us:Array Value),ps.map (·.1)=CC.map (·.1)->(∀(i:Nat) (p:Nat×AV) (q:Nat×Value),ps[i]? = some p->CC[i]? = some q->aj C p.2 q.2) ->
  aC C cs us.toList->l_ place cs ps=some bn->∃g_,Instr.fill place us CC=some g_/\aC C bn g_.toList
 | [],[],cs,bn,us,_,_,H,h=>by
  simp only[l_,Option.some.injEq]at h
  subst h
  exact⟨us,rfl,H⟩
 | [],_::_,_,_,_,hm,_,_,_=>by simp at hm
 | _::_,[],_,_,_,hm,_,_,_=>by simp at hm
 | (i,v)::ps,(j,q)::CC,cs,bn,us,hm,H,hL,h=>by
  simp only[List.map_cons,List.cons.injEq]at hm
  obtain⟨e,hm⟩:=hm
  subst e
  have R:aj C v q:=H 0 _ _ rfl rfl
  simp only[l_]at h
  simp only[Instr.fill]
  cases hp:place i with
  | none=>simp[hp]at h
  | some os =>
   obtain⟨off,size⟩:=os
   simp only[hp]at h ⊢
   split at h
   ·rename_i afO
    obtain⟨A,E,h3⟩:=afO
    obtain⟨BH,_⟩:=J0 R h3
    have hqs:q.cells.size=size:=by have:=BH.length;simp at this;omega
    have fH:us.size=cs.length:=by have:=hL.length;simp at this;omega
    have iT:¬((decide (q.cells.size≠size)||decide (off+q.cells.size>us.size))=true):=by
     simp[hqs];omega
    rw[if_neg iT]
    have hf:=foldl_set off q.cells.toList 0 us
    simp only[Nat.add_zero]at hf
    have hz:q.cells.zipIdx=(q.cells.toList.zipIdx 0).toArray:=by apply Array.ext';simp
    refine Lq ps CC (fT cs off v.cells) bn _ hm (fun k p apf u hq=>H (k+1) p apf (by simpa using u) (by simpa using hq)) ?_ h
    refine arI hL BH (by omega) ?_ ?_
    ·rw[hz,<-Array.foldl_toList]
     simpa using hf.1
    ·intro k u
     rw[hz,<-Array.foldl_toList]
     have:=hf.2 k (by simpa using u)
     simpa using this
   ·cases h
theorem I_ {P:Program} {t:TypeId} {cs:List AV} (h:fz P t=some cs):∃i z,P.info? t=some i/\i.zero=some z/\cs=z.cells.toList.map AV.sc:=by
 unfold fz at h
 obtain⟨i,hi,h⟩:=Option.bind_eq_some_iff.1 h
 obtain⟨z,hz,rfl⟩:=Option.map_eq_some_iff.1 h
 exact⟨i,z,hi,hz,rfl⟩
theorem Y6 {C:Ctx}:∀(us:List Value),aC C (us.map AV.sc) us
 | []=>by simp only[List.map_nil,aC]
 | Y::us=>by simp only[List.map_cons,aC];exact⟨Y,us,rfl,by simp only[aj],Y6 us⟩
def placeOf (P:Program) (t:TypeId):Nat->Option (Nat×Nat) :=
 match ep P t,jc P t with
 | some (_,z),_=>fun i=>some (i*z,z)
 | none,some l=>fun i=>l[i]?
 | none,none=>fun _=>none
theorem Wc {P:Program}:∀(fs:List Field),(∀f∈fs,0<P.cellsOf f.type)->fs.mapM (fun f=>(P.info? f.type).map fun i=>(f.offset,i.size))=some (fs.map fun f=>(f.offset,P.cellsOf f.type))
 | [],_=>rfl
 | f::fs,h=>by
  obtain⟨i,hi,hs⟩:=MZ (P:=P) (ty:=f.type) rfl (h f List.mem_cons_self)
  rw[List.mapM_cons,Wc fs fun g Z=>h g (List.mem_cons_of_mem _ Z)]
  simp[hi,hs]
section
variable {P:Program} {n:Nat} {t:Tp} {h:Hp}
theorem abK {ty:TypeId} {ps:Array (Nat×Operand)} {cs bn:List AV} (hz:fz P ty=some cs) (hf:l_ (placeOf P ty) cs (ps.toList.map fun p=>(p.1,ev t p.2))=some bn) (hp:((ep P ty).isSome||(jc P ty).isSome)=true):Yields P n (.build ty ps) t h (.agg bn) [] :=
 Yields.pure fun C a o ho W ht=>by
  obtain⟨it,z,hit,il,rfl⟩:=I_ hz
  obtain⟨g_,a3,hL⟩:=Lq (C:=C) (ps.toList.map fun p=>(p.1,ev t p.2)) (ps.toList.map fun p=>(p.1,a.eval p.2)) _ bn z.cells (by simp) (fun i p q A E=>by
   rw[List.getElem?_map]at A E
   cases hx:ps.toList[i]? with
   | none=>rw[hx]at A;cases A
   | some x=>rw[hx]at A E;cases A;cases E;exact b0 ht x.2) (Y6 _) hf
  refine⟨.agg g_,?_,by simp only[aj];exact⟨g_,rfl,hL⟩⟩
  have hb:P.built ty (ps.toList.map fun p=>(p.1,a.eval p.2))=some g_:=by
   unfold Program.built
   rw[hit]
   cases ha:ep P ty with
   | some nz =>
    obtain⟨m,auE⟩:=nz
    obtain⟨e,hu,G,h0⟩:=D7 ha
    obtain⟨ie,gx,hs⟩:=MZ G h0
    simp only[placeOf,ha]at a3
    simp only[hu,il,gx,hs]
    exact a3
   | none =>
    cases hr:jc P ty with
    | none=>simp[ha,hr]at hp
    | some l =>
     obtain⟨fs,hu,kf,rfl⟩:=XW hr
     simp only[placeOf,ha,hr]at a3
     simp only[hu,il,Wc fs.toList kf]
     have e:(fun i:Nat=>(fs.toList.map fun f=>(f.offset,P.cellsOf f.type)).toArray[i]?)=fun i:Nat=>(fs.toList.map fun f=>(f.offset,P.cellsOf f.type))[i]? := by
      funext i;simp
     rw[e];exact a3
  unfold execOp
  rw[ho]
  have:=run_build C.w ty (ps.map fun p=>(p.1,a.eval p.2)) g_ (by simpa using hb)
  simp only[Sem.run_bind,this,Result.andThen_ok]
  rfl
def mF:Nat->List AV->List AV
 | 0,_=>[]
 | k+1,z=>z++mF k z
def chunk (z:Nat):Nat->List AV->List (List AV)
 | 0,_=>[]
 | k+1,cs=>cs.take z::chunk z k (cs.drop z)
theorem F_ (z:List AV):∀k,(mF k z).length=k*z.length
 | 0=>by simp[mF]
 | k+1=>by simp only[mF,List.length_append,F_ z k,Nat.succ_mul];omega
theorem aa2 (z:List AV) (hz:0<z.length):∀k i,i<k*z.length->(mF k z)[i]? = z[i % z.length]?
 | 0,i,h=>by simp at h
 | k+1,i,h=>by
  simp only[mF]
  by_cases hi:i<z.length
  ·rw[List.getElem?_append_left hi,Nat.mod_eq_of_lt hi]
  ·rw[List.getElem?_append_right (by omega),aa2 z hz k (i-z.length) (by rw[Nat.succ_mul]at h;omega)]
   congr 1
   rw[<-Nat.mod_eq_sub_mod (by omega)]
theorem qi (z:Nat):∀k cs,(chunk z k cs).length=k
 | 0,_=>rfl
 | k+1,cs=>by simp[chunk,qi z k]
theorem Aj (z:Nat):∀k cs j e,(chunk z k cs)[j]? = some e->j<k/\e=(cs.drop (j*z)).take z
 | 0,_,j,e,h=>by simp[chunk]at h
 | k+1,cs,0,e,h=>by simp[chunk]at h;simp[h]
 | k+1,cs,j+1,e,h=>by
  simp only[chunk,List.getElem?_cons_succ]at h
  obtain⟨A,E⟩:=Aj z k _ j e h
  refine⟨by omega,?_⟩
  rw[E,List.drop_drop,Nat.succ_mul,Nat.add_comm z]
theorem aa0 {zc:List AV} {z:Value} {len:Nat} {C:Ctx} (h:zc=z.cells.toList.map AV.sc) (h0:0<zc.length):aC C (mF len zc) ((Array.range (len*zc.length)).map (z.cells[· % z.cells.size]!)).toList:=by
 have jx:z.cells.size=zc.length:=by rw[h];simp
 refine aC.mk (by simp[F_]) fun i c Y A E => ?_
 have hi:i<len*zc.length:=by rw[<-F_];exact(List.getElem?_eq_some_iff.1 A).1
 rw[aa2 zc h0 len i hi]at A
 simp[hi]at E
 have hm:i % zc.length<z.cells.size:=by rw[jx];exact Nat.mod_lt _ h0
 rw[h,List.getElem?_map]at A
 have Z:z.cells.toList[i % zc.length]? = some (z.cells[i % zc.length]):=by simp[hm]
 rw[<-h,Z]at A
 simp only[Option.map_some,Option.some.injEq]at A
 rw[<-A,<-E]
 simp only[aj]
 rw[jx]
 simp[hm]
end
def mw:BinOp->Bool->Option AV
 | .eql,b=>some (.sc (.bool b))
 | .neq,b=>some (.sc (.bool (!b)))
 | _,_=>none
def CA (P:Program) (t:TypeId):Bool:=match P.underlying t with | some (.pointer e)=>e==P.pointee t | _=>false
theorem apb {P:Program} {t:TypeId} (h:CA P t=true):P.underlying t=some (.pointer (P.pointee t)):=by
 unfold CA at h
 split at h
 ·rename_i e G;rw[G,eq_of_beq h]
 ·cases h
def kA (P:Program) (h:Hp) (op:BinOp) (ty:TypeId) (x y:AV):Option AV :=
 match y with
 | .sc (.slice none 0 0)=>match bE P ty with
  | some _=>match x with
   | .sl m _ _ _ _=>if(ae h m).isSome=true then mw op false else none
   | .ro _ (_::_) _=>mw op false
   | .sc (.slice ab _ _)=>mw op ab.isNone
   | _=>none
  | none=>none
 | .sc (.pointer none)=>match CA P ty with
  | true=>match x with
   | .ptr m _=>if(ae h m).isSome=true then mw op false else none
   | .sc (.pointer none)=>mw op true
   | _=>none
  | false=>none
 | _=>none
def gP (P:Program) (h:Hp) (op:BinOp) (ty:TypeId) (x y:AV):Option AV :=
 match gp P op ty x y with
 | some v=>some v
 | none=>kA P h op ty x y
theorem ac9 {P:Program} {h:Hp} {op:BinOp} {ty:TypeId} {x y v:AV} (R:gp P op ty x y=some v):gP P h op ty x y=some v:=by
 unfold gP;rw[R]
theorem aca {P:Program} {n:Nat} {t:Tp} {h:Hp} {op:BinOp} {ty ty':TypeId} {x y:Operand} {v:AV} (R:kA P h op ty (ev t x) (ev t y)=some v):Yields P n (.binOp op ty x y ty') t h v [] :=
 Yields.pure fun C a o ho W ht=>by
  have A:=b0 ht x
  have E:=b0 ht y
  revert A E R
  generalize ev t x=X
  generalize ev t y=abs
  intro R A E
  unfold kA at R
  split at R
  ·simp only[aj]at E
   split at R
   ·rename_i p hs
    obtain⟨e,z⟩:=p
    obtain⟨hu,_,_⟩:=lI hs
    have fin:∀(ab:Option Addr) (l c:Nat) (b:Bool),a.eval x = .slice ab l c->ab.isNone=b->mw op b=some v->∃Y,(execOp a.eval o).run P C.w = .ok (.value Y) C.w/\aj C v Y:=by
     intro ab l c b hA hb hn
     have e1:(eqGuard op ty x y (a.eval x) (a.eval y)).run P C.w = .ok () C.w:=by rw[hA];exact wk _ _ _ _ _ _ (by simp) (by simp) _
     unfold mw at hn
     split at hn
     ·cases hn
      refine⟨.bool b,?_,by simp only[aj]⟩
      unfold execOp
      rw[ho]
      simp only[Sem.run_bind,e1,Result.andThen_ok]
      rw[hA,E,Go.run_eql_slice_nil _ _ e _ _ _ hu,hb]
      rfl
     ·cases hn
      refine⟨.bool (!b),?_,by simp only[aj]⟩
      unfold execOp
      rw[ho]
      simp only[Sem.run_bind,e1,Result.andThen_ok]
      rw[hA,E,Go.run_neq_slice_nil _ _ e _ _ _ hu,hb]
      rfl
     ·cases hn
    split at R
    ·rename_i m z' off len own
     split at R
     ·rename_i hm
      simp only[aj]at A
      obtain⟨cap,o',hx,_⟩:=A.2.2 ((W.live m).2 hm)
      exact fin _ _ _ false hx rfl R
     ·cases R
    ·rename_i z' e0 D full
     simp only[aj]at A
     obtain⟨ab,cap,hx,_,_,ay⟩:=A
     obtain⟨bz,rfl,_⟩:=ay (by simp)
     exact fin _ _ _ false hx rfl R
    ·simp only[aj]at A
     exact fin _ _ _ _ A rfl R
    ·cases R
   ·cases R
  ·simp only[aj]at E
   split at R
   ·rename_i hs
    have hu:=apb hs
    have fin:∀(ab:Option Addr) (b:Bool),a.eval x = .pointer ab->ab.isNone=b->mw op b=some v->∃Y,(execOp a.eval o).run P C.w = .ok (.value Y) C.w/\aj C v Y:=by
     intro ab b hA hb hn
     have e1:(eqGuard op ty x y (a.eval x) (a.eval y)).run P C.w = .ok () C.w:=by rw[hA];exact wk _ _ _ _ _ _ (by simp) (by simp) _
     unfold mw at hn
     split at hn
     ·cases hn
      refine⟨.bool b,?_,by simp only[aj]⟩
      unfold execOp
      rw[ho]
      simp only[Sem.run_bind,e1,Result.andThen_ok]
      rw[hA,E,Go.run_eql_pointer_nil _ _ _ hu,hb]
      rfl
     ·cases hn
      refine⟨.bool (!b),?_,by simp only[aj]⟩
      unfold execOp
      rw[ho]
      simp only[Sem.run_bind,e1,Result.andThen_ok]
      rw[hA,E,Go.run_neq_pointer_nil _ _ _ hu,hb]
      rfl
     ·cases hn
    split at R
    ·rename_i m off
     split at R
     ·rename_i hm
      simp only[aj]at A
      exact fin _ false (A.2.2 ((W.live m).2 hm)) rfl R
     ·cases R
    ·simp only[aj]at A
     exact fin _ true A rfl R
    ·cases R
   ·cases R
  ·cases R
theorem abI {P:Program} {n:Nat} {t:Tp} {h:Hp} {op:BinOp} {ty ty':TypeId} {x y:Operand} {v:AV} (R:gP P h op ty (ev t x) (ev t y)=some v):Yields P n (.binOp op ty x y ty') t h v []:=by
 unfold gP at R
 split at R
 ·rename_i w hw;cases R;exact abH hw
 ·exact aca R
end Go.Proofs.Aw
namespace Go.Proofs.Aw
open Go
def kX (z:Nat):Nat->List (Nat×AV)->Bool
 | _,[]=>true
 | k,(i,v)::r=>i==k&&(v.cells.length==z&&(v.cells.all AV.one&&kX z (k+1) r))
def gC:List (Nat×AV)->List (List AV)
 | []=>[]
 | (_,v)::r=>v.cells::gC r
theorem O1:∀ps,(gC ps).length=ps.length
 | []=>rfl
 | (_,v)::r=>by simp[gC,O1 r]
theorem Kt {z:Nat}:∀(k:Nat) (ps:List (Nat×AV)),kX z k ps=true->∀(j:Nat) (e:List AV),(gC ps)[j]? = some e->e.length=z/\e.all AV.one=true
 | _,[],_,j,e,h=>by simp[gC]at h
 | k,(i,v)::r,hd,j,e,h=>by
  simp only[kX,Bool.and_eq_true,beq_iff_eq]at hd
  cases j with
  | zero=>simp[gC]at h;subst h;exact⟨hd.2.1,hd.2.2.1⟩
  | succ j=>exact Kt (k+1) r hd.2.2.2 j e (by simpa [gC]using h)
theorem gS {ao:Type} {z:Nat}:∀(D:List (List ao)),(∀(j:Nat) (e:List ao),D[j]? = some e->e.length=z)->D.flatten.length=D.length*z
 | [],_=>by simp
 | e::D,h=>by
  have h0:=h 0 e rfl
  have ih:=gS D fun j e' O=>h (j+1) e' (by simpa using O)
  rw[List.flatten_cons,List.length_append,ih,h0,List.length_cons,Nat.succ_mul];omega
theorem AU {ao:Type} {z:Nat}:∀(D:List (List ao)),(∀(j:Nat) (e:List ao),D[j]? = some e->e.length=z)->∀(j:Nat) (e:List ao),D[j]? = some e->∀k,k<z->D.flatten[j*z+k]? = e[k]?
 | [],_,j,e,h,_,_=>by simp at h
 | d::D,h,j,e,O,k,u=>by
  have h0:=h 0 d rfl
  cases j with
  | zero =>
   simp at O;subst O
   rw[List.flatten_cons,List.getElem?_append_left (by omega),Nat.zero_mul,Nat.zero_add]
  | succ j =>
   rw[List.flatten_cons,List.getElem?_append_right (by rw[Nat.succ_mul];omega),h0,show(j+1)*z+k-z=j*z+k from by rw[Nat.succ_mul];omega]
   exact AU D (fun j e' O=>h (j+1) e' (by simpa using O)) j e (by simpa using O) k u
theorem T7 {ao:Type} {z:Nat} (hz:0<z) (D:List (List ao)) (h:∀(j:Nat) (e:List ao),D[j]? = some e->e.length=z) (i:Nat) (c:ao) (H:D.flatten[i]? = some c):∃e,D[i / z]? = some e/\e[i % z]? = some c:=by
 have hi:i<D.length*z:=by rw[<-gS D h];exact(List.getElem?_eq_some_iff.1 H).1
 have hd:i / z<D.length:=Nat.div_lt_of_lt_mul (by rw[Nat.mul_comm];exact hi)
 have G:D[i / z]? = some D[i / z]:=List.getElem?_eq_getElem hd
 refine⟨_,G,?_⟩
 have:=AU D h _ _ G (i % z) (Nat.mod_lt _ hz)
 rw[<-this,Nat.mul_comm,Nat.div_add_mod]
 exact H
theorem TV {z:Nat}:∀(ps:List (Nat×AV)) (k:Nat) (cs:List AV),kX z k ps=true->cs.length=(k+ps.length)*z ->
  l_ (fun i=>some (i*z,z)) cs ps=some (cs.take (k*z)++(gC ps).flatten)
 | [],k,cs,_,M=>by
  simp only[l_,gC,List.flatten_nil,List.append_nil]
  rw[List.take_of_length_le (by rw[M];simp)]
 | (i,v)::r,k,cs,hd,M=>by
  simp only[kX,Bool.and_eq_true,beq_iff_eq]at hd
  obtain⟨rfl,A,E,h3⟩:=hd
  have aZ:i*z+z<=cs.length:=by
   rw[M,<-Nat.succ_mul];exact Nat.mul_le_mul_right _ (by simp)
  simp only[l_]
  rw[if_pos ⟨A,aZ,E⟩]
  have hlen:(fT cs (i*z) v.cells).length=cs.length:=by simp[fT];omega
  rw[TV r (i+1) _ h3 (by rw[hlen,M,List.length_cons];congr 1;omega)]
  congr 1
  simp only[gC,List.flatten_cons,fT]
  have e:(i+1)*z=i*z+v.cells.length:=by rw[Nat.succ_mul,A]
  rw[e,List.take_append,List.take_of_length_le (by simp;omega),List.append_assoc]
  congr 1
  rw[List.length_take,Nat.min_eq_left (by omega),Nat.add_sub_cancel_left,List.take_left']
  rfl
theorem X_ {C:Ctx} {n:Nat} {w:World} {arr:Array Value} {ty:TypeId} {cs:List AV} {D:List (List AV)} {z cap:Nat} {full:Bool} (hw:w.heap=C.w.heap.push (.cells arr ty))
  (aI:∀(j:Nat) (c:AV),cs[j]? = some c->∃Y,arr[j]? = some Y/\aj C c Y) (Bj:∀(j:Nat) (e:List AV),D[j]? = some e->e.length=z) (hF:cs=D.flatten) (f2:D.length<=cap) (xU:full=true->cap=D.length) :
  aj (C.iC n w) (.ro z D full) (.slice (some ⟨C.w.heap.size,0,none⟩) D.length cap):=by
 simp only[aj]
 refine⟨_,cap,rfl,f2,xU,fun _=>⟨_,rfl,by simp[Ctx.iC,hw],by simp[Ctx.iC],dc.mk fun j e O=>⟨Bj j e O,cT.mk fun k c u => ?_⟩⟩⟩
 have hkz:k<z:=by rw[<-Bj j e O];exact(List.getElem?_eq_some_iff.1 u).1
 have A:cs[j*z+k]? = some c:=by rw[hF,AU D Bj j e O k hkz];exact u
 obtain⟨Y,hu,H⟩:=aI _ c A
 refine⟨Y,?_,H.mono (C.Np n hw)⟩
 rw[add_add,jS]
 simp[Ctx.iC,World.cell?,hw]
 exact hu
section
variable {P:Program} {n:Nat} {t:Tp} {h:Hp}
theorem YL {ty e:TypeId} {z len:Nat} {zc:List AV} (hs:bE P ty=some (e,z)) (hz:fz P e=some zc) (jx:zc.length=z) (m9:len*z<=2 ^ 24) {C:Ctx} {a:Act} (ht:fY C t a) {ps:Array (Nat×Operand)}
  (M:ps.size=len) (hd:kX z 0 (ps.toList.map fun p=>(p.1,ev t p.2))=true) :
  ∃arr:Array Value,(∀(j:Nat) (c:AV),(gC (ps.toList.map fun p=>(p.1,ev t p.2))).flatten[j]? = some c->∃Y,arr[j]? = some Y/\aj C c Y)/\arr.size=len*z /\
   (Instr.buildSlice ty len (ps.map fun p=>(p.1,a.eval p.2))).run P C.w = .ok (.slice (some ⟨C.w.heap.size,0,none⟩) len len) (C.w.alloc (.cells arr e)):=by
 obtain⟨hu,G,h0⟩:=lI hs
 obtain⟨ie,zv,gx,il,jw⟩:=I_ hz
 have b7:ie.size=z:=by
  have:P.cellsOf e=ie.size:=by simp[Program.cellsOf,gx]
  omega
 by_cases hlen:len=0
 ·subst hlen
  have BC:ps = #[]:=by
   apply Array.eq_empty_of_size_eq_zero M
  subst BC
  refine⟨#[],by simp[gC],by simp,?_⟩
  simp[Instr.buildSlice,run_underlying hu,sizeOf,typeInfo,gx,Instr.fill,newRow]
  congr 2
  apply Array.ext'
  simp
 ·have FM:=aa0 (C:=C) (len:=len) jw (by omega)
  rw[jx]at FM
  have Bm:=TV (z:=z) (ps.toList.map fun p=>(p.1,ev t p.2)) 0 (mF len zc) hd (by rw[F_,jx];simp[M])
  rw[Nat.zero_mul,List.take_zero,List.nil_append]at Bm
  obtain⟨g_,a3,hL⟩:=Lq (C:=C) (ps.toList.map fun p=>(p.1,ev t p.2)) (ps.toList.map fun p=>(p.1,a.eval p.2)) _ _ _ (by simp) (fun i p q A E=>by
   rw[List.getElem?_map]at A E
   cases hx:ps.toList[i]? with
   | none=>rw[hx]at A;cases A
   | some x=>rw[hx]at A E;cases A;cases E;exact b0 ht x.2) FM Bm
  refine⟨g_,fun j c O => ?_,?_,?_⟩
  ·obtain⟨Y,My,H⟩:=hL.get j c O
   exact⟨Y,by simpa using My,H⟩
  ·have A:=hL.length
   rw[gS (z:=z) _ (fun j e O=>(Kt 0 _ hd j e O).1),O1]at A
   simp[M]at A
   omega
  ·have kf:¬len*ie.size=0:=by
    rw[b7]
    have:0<len*z:=Nat.mul_pos (by omega) h0
    omega
   refine run_buildSlice C.w ty e len _ g_ ie zv hu gx il (by rw[b7];omega) kf ?_
   rw[b7]
   simpa using a3
theorem ack {ty e:TypeId} {z len:Nat} {zc:List AV} {ps:Array (Nat×Operand)} (hs:bE P ty=some (e,z)) (hz:fz P e=some zc) (jx:zc.length=z) (m9:len*z<=2 ^ 24) (M:ps.size=len) (hd:kX z 0 (ps.toList.map fun p=>(p.1,ev t p.2))=true) :
  Yields P n (.buildSlice ty len ps) t h (.ro z (gC (ps.toList.map fun p=>(p.1,ev t p.2))) true) [] :=
 Yields.run fun C a o ho W ht hn=>by
  obtain⟨arr,aI,_,hr⟩:=YL hs hz jx m9 ht M hd
  have hlen:(gC (ps.toList.map fun p=>(p.1,ev t p.2))).length=len:=by rw[O1];simp[M]
  refine⟨.slice (some ⟨C.w.heap.size,0,none⟩) len len,C.iC n (C.w.alloc (.cells arr e)),?_,cZ.iC W (o := .cells arr e) rfl ?_ rfl rfl rfl⟩
  ·unfold execOp
   rw[ho]
   simp only[Sem.run_bind,hr,Result.andThen_ok]
   rfl
  ·have:=X_ (C:=C) (n:=n) (w:=C.w.alloc (.cells arr e)) (ty:=e) (full:=true) (cap:=len) rfl aI (fun j e O=>(Kt 0 _ hd j e O).1) rfl (by omega) (fun _=>hlen.symm)
   rwa[hlen]at this
theorem acm {ty e:TypeId} {z len:Nat} {zc:List AV} {ps:Array (Nat×Operand)} (hs:bE P ty=some (e,z)) (hz:fz P e=some zc) (jx:zc.length=z) (m9:len*z<=2 ^ 24) (M:ps.size=len) (hd:kX z 0 (ps.toList.map fun p=>(p.1,ev t p.2))=true) :
  Yields P n (.buildSlice ty len ps) t h (.sl (n,0) z 0 len true) [((n,0),some (gC (ps.toList.map fun p=>(p.1,ev t p.2))).flatten)] :=
 Yields.run fun C a o ho W ht hn=>by
  obtain⟨arr,aI,b7,hr⟩:=YL hs hz jx m9 ht M hd
  refine⟨.slice (some ⟨C.w.heap.size,0,none⟩) len len,C.cg n (C.w.alloc (.cells arr e)),?_,cZ.cg W hn (arr:=arr) (ty:=e) rfl aI ?_ rfl rfl rfl⟩
  ·unfold execOp
   rw[ho]
   simp only[Sem.run_bind,hr,Result.andThen_ok]
   rfl
  ·simp only[aj,Ctx.cg,if_true]
   exact⟨⟨_,_,_,rfl⟩,.inr trivial,fun _=>⟨len,0,rfl,Nat.le_refl _,.inl rfl,fun _=>⟨arr,e,heap_alloc_new C.w _,by omega⟩⟩⟩
def i_ (P:Program) (h:Hp) (ty:TypeId) (x:AV):Option Int :=
 match x with
 | .ro _ D _=>if(bE P ty).isSome=true then some D.length else none
 | .sl m _ _ len _=>if(bE P ty).isSome=true/\(ae h m).isSome=true then some len else none
 | .sc (.slice _ m _)=>if(bE P ty).isSome=true then some m else none
 | .sc (.string s)=>if nv P ty=true then some s.size else none
 | .agg _=>(ep P ty).map fun p=>(p.1:Int)
 | _=>none
theorem PK {P:Program} {ty:TypeId} {e:TypeId} {ab:Option Addr} {l c:Nat} (hu:P.underlying ty=some (.slice e)) {gH:Array TypeId} {vs:Array Value} (A:gH[0]? = some ty) (E:vs[0]? = some (.slice ab l c)) (r:TypeId) (w:World) :
  (Builtin.len_ gH r vs).run P w = .ok (goInt l) w:=by
 unfold Builtin.len_
 simp only[A,E,Sem.run_bind,run_underlying hu,Result.andThen_ok,Sem.run_pure]
theorem abZ {c:Call} {ty:TypeId} {x:Operand} {m:Int} (hb:c.callee = .builtin .len) (A:c.argTypes[0]? = some ty) (hx:c.args[0]? = some x) (M:i_ P h ty (ev t x)=some m):Yields P n (.call c) t h (.sc (.int .i64 m)) [] :=
 Yields.pure fun C a o ho W ht=>by
  refine⟨.int .i64 m,?_,by simp only[aj]⟩
  rw[tC hb _ _ o ho]
  have E:(c.args.map a.eval)[0]? = some (a.eval x):=by simp[hx]
  have H:=b0 ht x
  have key:(Builtin.len_ c.argTypes o.type (c.args.map a.eval)).run P C.w = .ok (goInt m) C.w:=by
   revert H M
   generalize ev t x=X
   intro M H
   unfold i_ at M
   split at M
   ·split at M
    ·rename_i hs
     cases M
     obtain⟨⟨e,z⟩,hs⟩:=Option.isSome_iff_exists.1 hs
     simp only[aj]at H
     obtain⟨ab,cap,R,_⟩:=H
     exact PK (lI hs).1 A (by rw[E,R]) _ _
    ·cases M
   ·split at M
    ·rename_i hs
     cases M
     obtain⟨⟨e,z⟩,kj⟩:=Option.isSome_iff_exists.1 hs.1
     simp only[aj]at H
     obtain⟨cap,of,R,_⟩:=H.2.2 ((W.live _).2 hs.2)
     exact PK (lI kj).1 A (by rw[E,R]) _ _
    ·cases M
   ·split at M
    ·rename_i hs
     cases M
     obtain⟨⟨e,z⟩,hs⟩:=Option.isSome_iff_exists.1 hs
     simp only[aj]at H
     exact PK (lI hs).1 A (by rw[E,H]) _ _
    ·cases M
   ·split at M
    ·rename_i hs
     cases M
     simp only[aj]at H
     unfold nv at hs
     split at hs
     ·rename_i hu
      unfold Builtin.len_
      simp only[A,E,H,Sem.run_bind,run_underlying hu,Result.andThen_ok,Sem.run_pure]
     ·cases hs
    ·cases M
   ·obtain⟨⟨p,z⟩,hp,rfl⟩:=Option.map_eq_some_iff.1 M
    obtain⟨e,hu,_⟩:=D7 hp
    unfold Builtin.len_
    simp only[A,E,Sem.run_bind,run_underlying hu,Result.andThen_ok,Sem.run_pure]
   ·cases M
  simp only[builtin,Sem.run_bind,key,Result.andThen_ok]
  rfl
end
end Go.Proofs.Aw
namespace Go.Proofs.Aw
open Go
def px:AV->List AV->Option AV
 | .sc (.int k a),[]=>some (.sc (.int k a))
 | .sc (.int k a),.sc (.int _ b)::r=>px (.sc (.int k (max a b))) r
 | _,_=>none
def py:AV->List AV->Option AV
 | .sc (.int k a),[]=>some (.sc (.int k a))
 | .sc (.int k a),.sc (.int _ b)::r=>py (.sc (.int k (min a b))) r
 | _,_=>none
theorem YG {P:Program} {C:Ctx}:∀(xs:List AV) (us:List Value) (x v:AV) (Y:Value),aj C x Y->aC C xs us->px x xs=some v->∃r,(us.foldlM Builtin.max2 Y).run P C.w = .ok r C.w/\aj C v r
 | [],us,x,v,Y,hx,M,h=>by
  simp only[aC]at M
  subst M
  unfold px at h
  split at h
  ·cases h;exact⟨Y,rfl,hx⟩
  ·contradiction
  ·cases h
 | y::xs,us,x,v,Y,hx,M,h=>by
  simp only[aC]at M
  obtain⟨w,vs,rfl,hy,M⟩:=M
  unfold px at h
  split at h
  ·contradiction
  ·rename_i k a k' b r A
   cases A
   simp only[aj]at hx hy
   subst hx;subst hy
   obtain⟨r',E,h3⟩:=YG xs vs (.sc (.int k (max a b))) v (.int k (max a b)) (by simp only[aj]) M h
   refine⟨r',?_,h3⟩
   have e:(if b>a then b else a)=max a b:=by split<;>omega
   simp only[List.foldlM_cons,Sem.run_bind,Builtin.max2,Sem.run_pure,Result.andThen_ok,e]
   exact E
  ·cases h
theorem YH {P:Program} {C:Ctx}:∀(xs:List AV) (us:List Value) (x v:AV) (Y:Value),aj C x Y->aC C xs us->py x xs=some v->∃r,(us.foldlM Builtin.min2 Y).run P C.w = .ok r C.w/\aj C v r
 | [],us,x,v,Y,hx,M,h=>by
  simp only[aC]at M
  subst M
  unfold py at h
  split at h
  ·cases h;exact⟨Y,rfl,hx⟩
  ·contradiction
  ·cases h
 | y::xs,us,x,v,Y,hx,M,h=>by
  simp only[aC]at M
  obtain⟨w,vs,rfl,hy,M⟩:=M
  unfold py at h
  split at h
  ·contradiction
  ·rename_i k a k' b r A
   cases A
   simp only[aj]at hx hy
   subst hx;subst hy
   obtain⟨r',E,h3⟩:=YH xs vs (.sc (.int k (min a b))) v (.int k (min a b)) (by simp only[aj]) M h
   refine⟨r',?_,h3⟩
   have e:(if b<a then b else a)=min a b:=by split<;>omega
   simp only[List.foldlM_cons,Sem.run_bind,Builtin.min2,Sem.run_pure,Result.andThen_ok,e]
   exact E
  ·cases h
def er (h:Hp) (z:Nat):AV->Option (List (List AV))
 | .ro z' D _=>if z'=z then some D else none
 | .sl m z' off len _=>(ae h m).bind fun cs=>if z'=z/\off+len*z<=cs.length then some (chunk z len (cs.drop off))else none
 | .sc (.slice _ 0 _)=>some []
 | _=>none
structure wN (P:Program) (C:Ctx) (z:Nat) (Y:Value) (fs:List (List AV)):Prop where
 len:∀(j:Nat) (e:List AV),fs[j]? = some e->e.length=z
 news:∃(ab:Option Addr) (c:Nat) (news:List Value),Y = .slice ab fs.length c/\fs.length<=c/\aC C fs.flatten news/\(∀w:World,w.heap=C.w.heap->(Builtin.firstCells z fs.length Y).run P w = .ok news.toArray w)
theorem uH {P:Program} {C:Ctx} {h:Hp} (W:cY C h) {z:Nat} (h0:0<z) {v:AV} {Y:Value} {fs:List (List AV)} (H:aj C v Y) (G:er h z v=some fs):wN P C z Y fs:=by
 have fromCells:∀(a:Addr) (c:Nat),(∀(j:Nat) (e:List AV),fs[j]? = some e->e.length=z)->fs.length<=c->(∀(j:Nat) (c:AV),fs.flatten[j]? = some c->∃Y,C.w.cell? (a.add j)=some Y/\aj C c Y)->Y = .slice (some a) fs.length c->wN P C z Y fs:=by
  intro a c M f2 mZ hu
  refine⟨M,some a,c,(List.range (fs.length*z)).map fun j=>(C.w.cell? (a.add j)).getD undef,hu,f2,?_,?_⟩
  ·refine aC.mk (by rw[gS fs M];simp) fun i c Y A E => ?_
   obtain⟨u',a3,a9⟩:=mZ i c A
   have hi:i<fs.length*z:=by rw[<-gS fs M];exact(List.getElem?_eq_some_iff.1 A).1
   rw[List.getElem?_map,List.getElem?_range hi,Option.map_some,a3,Option.getD_some]at E
   cases E;exact a9
  ·intro w hw
   rw[hu]
   have Z:∀(j:Nat) (v:Value),((List.range (fs.length*z)).map fun j=>(C.w.cell? (a.add j)).getD undef)[j]? = some v->w.cell? (a.add j)=some v:=by
    intro j v O
    have hi:j<fs.length*z:=by
     have:=(List.getElem?_eq_some_iff.1 O).1
     simpa using this
    rw[List.getElem?_map,List.getElem?_range hi,Option.map_some]at O
    have hF:fs.flatten[j]? = some (fs.flatten[j]'(by rw[gS fs M];exact hi)):=List.getElem?_eq_getElem _
    obtain⟨u',a3,_⟩:=mZ j _ hF
    rw[a3,Option.getD_some]at O
    cases O
    rw[World.cell?,hw]
    exact a3
   exact run_firstCells_some (P:=P) w z fs.length a fs.length c _ (by simp) Z
 unfold er at G
 split at G
 ·split at G
  ·rename_i z' D full hz
   subst hz
   cases G
   simp only[aj]at H
   obtain⟨ab,cap,hu,aZ,_,ay⟩:=H
   by_cases qD:fs=[]
   ·subst qD
    refine⟨fun j e O=>by simp at O,ab,cap,[],hu,aZ,by simp only[List.flatten_nil,aC],fun w hw => ?_⟩
    rw[hu]
    cases ab with
    | none=>rfl
    | some a=>simp[Builtin.firstCells,loadCells,loadCellsFrom]
   ·obtain⟨a,rfl,hb,hm,hE⟩:=ay qD
    have M:∀(j:Nat) (e:List AV),fs[j]? = some e->e.length=z':=fun j e O=>(hE.get j e O).1
    refine fromCells a cap M aZ (fun j c O => ?_) hu
    obtain⟨e,G,Bf⟩:=T7 h0 fs M j c O
    obtain⟨_,mX⟩:=hE.get _ e G
    obtain⟨u',a3,a9⟩:=mX.get _ c Bf
    rw[add_add,Nat.zero_add,Nat.zero_add,Nat.mul_comm,Nat.div_add_mod]at a3
    exact⟨u',a3,a9⟩
  ·cases G
 ·obtain⟨cs,Z,G⟩:=Option.bind_eq_some_iff.1 G
  split at G
  ·rename_i m z' off len own _ hz
   obtain⟨rfl,hlen⟩:=hz
   cases G
   simp only[aj]at H
   obtain⟨cap,o,hu,aZ,oe,_⟩:=H.2.2 (W.get Z)
   by_cases eO:len=0
   ·subst eO
    refine⟨fun j e O=>by simp[chunk]at O,some ⟨C.ρ m,o,none⟩,cap,[],by rw[hu];rfl,by simp[chunk],by simp only[chunk,List.flatten_nil,aC],fun w hw => ?_⟩
    rw[hu]
    simp[Builtin.firstCells,loadCells,loadCellsFrom,chunk]
   ·have Ml:o=C.bs m+off:=by
     rcases oe with h3 | h3
     ·exact h3
     ·omega
    subst Ml
    have mb:(chunk z' len (cs.drop off)).length=len:=qi _ _ _
    have M:∀(j:Nat) (e:List AV),(chunk z' len (cs.drop off))[j]? = some e->e.length=z':=fun j e O=>by
     obtain⟨A,rfl⟩:=Aj _ _ _ _ _ O
     have:(j+1)*z'<=len*z':=Nat.mul_le_mul_right _ A
     rw[Nat.succ_mul]at this
     simp;omega
    refine fromCells ⟨C.ρ m,C.bs m+off,none⟩ cap M (by rw[mb];exact aZ) (fun j c O => ?_) (by rw[mb];exact hu)
    obtain⟨e,G,Bf⟩:=T7 h0 _ M j c O
    obtain⟨A,rfl⟩:=Aj _ _ _ _ _ G
    rw[List.getElem?_take,if_pos (Nat.mod_lt _ h0),List.getElem?_drop,List.getElem?_drop]at Bf
    have e1:off+(j / z'*z'+j % z')=off+j:=by rw[Nat.mul_comm,Nat.div_add_mod]
    rw[e1]at Bf
    obtain⟨u',a3,a9⟩:=yL (W.obj m cs Z) _ c Bf
    rw[jS]at a3
    exact⟨u',by rw[jS,Nat.add_assoc];exact a3,a9⟩
  ·cases G
 ·cases G
  simp only[aj]at H
  subst H
  rename_i ab c
  refine⟨fun j e O=>by simp at O,ab,c,[],rfl,Nat.zero_le _,by simp only[List.flatten_nil,aC],fun w _ => ?_⟩
  cases ab with
  | none=>rfl
  | some a=>simp[Builtin.firstCells,loadCells,loadCellsFrom]
 ·cases G
def de (P:Program) (e:TypeId):Nat:=((P.info? e).map (·.bytes)).getD 0
theorem PJ {P:Program} {w:World} {t xt ty e:TypeId} {i:TypeInfo} {zv:Value} (ht:P.underlying t=some (.slice e)) (BJ:P.underlying xt=some (.slice e)) (hi:P.info? e=some i) (hz:i.zero=some zv)
  (ab ad:Option Addr) (sLen sCap k c:Nat) (olds news:List Value)
  (ho:∀w':World,w'.heap=w.heap->(Builtin.firstCells i.size sLen (.slice ab sLen sCap)).run P w' = .ok olds.toArray w')
  (hn:∀w':World,w'.heap=w.heap->(Builtin.firstCells i.size k (.slice ad k c)).run P w' = .ok news.toArray w')
  (Z:sCap<sLen+k) (h47:(sLen+k)*i.bytes<=140737488355328) (h63:sLen+k<=9223372036854775807) :
  ∃cap zs,(Builtin.append_ #[t,xt] ty #[.slice ab sLen sCap,.slice ad k c]).run P w = .ok (.slice (some ⟨w.heap.size,0,none⟩) (sLen+k) cap) (w.drew.alloc (.cells (olds.toArray++news.toArray++zs) e))/\sLen+k<=cap/\zs.size=(cap-(sLen+k))*zv.cells.size:=by
 have u7:¬(sLen+k<=sCap):=by omega
 have afu:¬(9223372036854775807<((sLen:Int)+(k:Int))):=by omega
 have d7:=growslice_fits (bytes:=i.bytes) Z h47
 have aft:¬(281474976710656<Builtin.nextslicecap (sLen+k) sCap*i.bytes):=by omega
 refine⟨grownCap w (sLen+k) sCap e,Builtin.zeroCells zv.cells (grownCap w (sLen+k) sCap e-(sLen+k)),?_,grownCap_ge _ _ _ _,by rw[size_zeroCells]⟩
 have hf:=hn w.drew rfl
 have gc:=ho w.drew rfl
 simp[Builtin.append_,run_underlying ht,run_underlying BJ,sizeOf,typeInfo,zeroValue,hi,hz,Builtin.lenOf,u7,afu,aft,Question.forced,hf,gc,newRow,grownCap]
 congr 2
 apply Array.ext'
 simp[List.append_assoc]
theorem YA {P:Program} {w:World} {t xt ty e:TypeId} {i:TypeInfo} (ht:P.underlying t=some (.slice e)) (BJ:P.underlying xt=some (.slice e)) (hi:P.info? e=some i)
  (ab ad:Option Addr) (sLen sCap c:Nat) (hs:sLen<=sCap) (hn:(Builtin.firstCells i.size 0 (.slice ad 0 c)).run P w = .ok #[] w) :
  (Builtin.append_ #[t,xt] ty #[.slice ab sLen sCap,.slice ad 0 c]).run P w = .ok (.slice ab sLen sCap) w:=by
 cases ab<;>simp[Builtin.append_,run_underlying ht,run_underlying BJ,sizeOf,typeInfo,hi,Builtin.lenOf,hs,hn,storeCells]
end Go.Proofs.Aw
namespace Go.Proofs.Aw
open Go
def Ctx.move (C:Ctx) (n:Nat) (m:Nm) (b k0:Nat) (w:World):Ctx where
 ρ:=fun k=>if k=(n,0)then b else C.ρ k
 bs:=fun k=>if k=(n,0)then k0 else C.bs k
 live:=fun k=>k=(n,0)\/(C.live k/\k≠m)
 kn:=fun i=>C.kn i\/i.1=n
 mt:=fun dn=>(C.mt dn/\dn<C.w.heap.size)\/dn=b
 w:=w
theorem cZ.move {C:Ctx} {n:Nat} {h:Hp} {r:AV} {Y:Value} {m:Nm} {cs bn:List AV} {b k0:Nat} {arr':Array Value} {ty:TypeId} (W:cY C h) (hn:(∀k,¬C.kn (n,k))) (Z:ae h m=some cs) {w:World}
  (f0:w.heap[b]? = some (.cells arr' ty (0,0))) (b7:C.w.heap.size<=w.heap.size) (sO:∀k,k<C.w.heap.size->k≠C.ρ m->w.heap[k]? = C.w.heap[k]?) (pe:b=C.ρ m\/C.w.heap.size<=b)
  (aI:∀(j:Nat) (c:AV),bn[j]? = some c->∃Y,arr'[k0+j]? = some Y/\aj C c Y) (hr:aj (C.move n m b k0 w) r Y) (ho:w.os=C.w.os) (ht:w.tape=C.w.tape) (hu:w.output=C.w.output) :
  cZ C n h r [(m,none),((n,0),some bn)] Y (C.move n m b k0 w):=by
 have M:=W.get Z
 have ay:∀k,C.live k->k≠(n,0):=fun k u e=>hn 0 (by have:=W.kn k u;rw[e]at this;exact this)
 have hmn:=ay m M
 have By:=W.mt m M
 have sK:=W.lt M
 have kg:∀k,C.live k->(C.move n m b k0 w).ρ k=C.ρ k:=fun k u=>by simp[Ctx.move,ay k u]
 have n8:∀k,C.live k->(C.move n m b k0 w).bs k=C.bs k:=fun k u=>by simp[Ctx.move,ay k u]
 have iR:∀k,ae (aD [(m,none),((n,0),some bn)] h) k=if(n,0)=k then some bn else if m=k then none else ae h k:=fun k=>by
  simp only[aD];rw[dI,u3]
 have le:C.le (C.move n m b k0 w):=by
  refine⟨b7,fun k u Bx=>sO k u (fun e=>Bx (by rw[e];exact By)),fun k u Bx => ?_,fun _ h => .inl h,fun k u sH => ?_,fun k u sH ds ty' H => ?_⟩
  ·rcases Bx with A | A
   ·exact A.1
   ·rcases pe with E | E
    ·rw[A,E];exact By
    ·omega
  ·have aM:k≠(n,0):=fun e=>hn 0 (by rw[e]at u;exact u)
   rcases sH with A | A
   ·exact absurd A aM
   ·exact⟨A.1,by simp[Ctx.move,aM]⟩
  ·have aM:k≠(n,0):=fun e=>hn 0 (by rw[e]at u;exact u)
   rcases sH with A | A
   ·exact absurd A aM
   ·exact⟨ds,ty',(sO _ (W.lt A.1) (fun e=>A.2 (W.inj _ _ A.1 M e))).trans H,rfl⟩
 have UP:b<w.heap.size:=by
  rcases Nat.lt_or_ge b w.heap.size with E | E
  ·exact E
  ·rw[Array.getElem?_eq_none E]at f0;cases f0
 have xN:∀k,C.live k->k≠m->C.ρ k≠b:=fun k u Mg e=>by
  rcases pe with E | E
  ·exact Mg (W.inj _ _ u M (e.trans E))
  ·have:=W.lt u;omega
 refine⟨le,fun _=>Iff.rfl,⟨fun k => ?_,fun k ds u => ?_,fun k k' u aM G => ?_,fun k u => ?_,fun k u => ?_⟩,hr,fun k u iT=>sO k u (iT m (by simp) M),fun k u => ?_,ho,ht,hu,fun k u => ?_,fun k u => ?_⟩
 ·rw[iR]
  by_cases e:(n,0)=k
  ·simp[Ctx.move,<-e]
  ·rw[if_neg e]
   by_cases e2:m=k
   ·simp[Ctx.move,<-e2,hmn]
   ·rw[if_neg e2,<-W.live k]
    simp[Ctx.move,Ne.symm e,Ne.symm e2]
 ·rw[iR]at u
  by_cases e:(n,0)=k
  ·rw[if_pos e]at u
   subst e
   cases u
   refine⟨arr',ty,by simp[Ctx.move,f0],fun j c O => ?_⟩
   obtain⟨u',a3,H⟩:=aI j c O
   exact⟨u',by simpa only[Ctx.move,if_true]using a3,H.mono le⟩
  ·rw[if_neg e]at u
   by_cases e2:m=k
   ·rw[if_pos e2]at u;cases u
   ·rw[if_neg e2]at u
    have sH:=W.get u
    obtain⟨arr1,zr,ha,H⟩:=W.obj k ds u
    refine⟨arr1,zr,?_,fun j c O => ?_⟩
    ·rw[kg k sH]
     exact(sO _ (W.lt sH) (fun G=>e2 (W.inj _ _ sH M G).symm)).trans ha
    ·obtain⟨u',a3,dA⟩:=H j c O
     exact⟨u',by rw[n8 k sH];exact a3,dA.mono le⟩
 ·rcases u with rfl | ⟨u,Mg⟩<;>rcases aM with rfl | ⟨aM,af8⟩
  ·rfl
  ·rw[kg k' aM]at G
   simp[Ctx.move]at G
   exact absurd G.symm (xN k' aM af8)
  ·rw[kg k u]at G
   simp[Ctx.move]at G
   exact absurd G (xN k u Mg)
  ·rw[kg k u,kg k' aM]at G
   exact W.inj k k' u aM G
 ·rcases u with rfl | ⟨u,_⟩
  ·simp[Ctx.move]
  ·rw[kg k u];exact .inl ⟨W.mt k u,W.lt u⟩
 ·rcases u with rfl | ⟨u,_⟩
  ·exact .inr rfl
  ·exact .inl (W.kn k u)
 ·simp only[Ctx.move]
  constructor
  ·rintro(A | A)
   ·exact A.1
   ·rcases pe with E | E
    ·rw[A,E];exact By
    ·omega
  ·intro A;exact .inl ⟨A,u⟩
 ·rcases u with rfl | ⟨u,_⟩
  ·rcases pe with E | E
   ·exact .inr (.inr ⟨m,by simp,M,by simp[Ctx.move,E]⟩)
   ·exact .inr (.inl (by simp[Ctx.move,E]))
  ·exact .inl ⟨u,kg k u⟩
 ·simp at u
  rcases u with rfl | rfl
  ·exact .inl M
  ·exact .inr rfl
theorem Ai (z:Nat):∀(k:Nat) (cs:List AV),cs.length=k*z->(chunk z k cs).flatten=cs
 | 0,cs,h=>by simp[chunk];exact List.length_eq_zero_iff.1 (by simpa using h)
 | k+1,cs,h=>by
  simp only[chunk,List.flatten_cons]
  rw[Ai z k (cs.drop z) (by rw[List.length_drop,h,Nat.succ_mul];omega)]
  exact List.take_append_drop z cs
section
variable {P:Program} {n:Nat} {t:Tp} {h:Hp}
theorem EU {C:Ctx} {a:Act} (ht:fY C t a) (c:Call):aC C (c.args.toList.map (ev t)) (c.args.map a.eval).toList:=by
 rw[Array.toList_map]
 exact aC.EZ ht _
theorem ab4 {c:Call} {x:AV} {xs:List AV} {v:AV} (hb:c.callee = .builtin .max) (hx:c.args.toList.map (ev t)=x::xs) (hm:px x xs=some v):Yields P n (.call c) t h v [] :=
 Yields.pure fun C a o ho W ht=>by
  have hL:=EU ht c
  rw[hx]at hL
  simp only[aC]at hL
  obtain⟨Y,us,G,hu,fH⟩:=hL
  obtain⟨r,hr,R⟩:=YG (P:=P) xs us x v Y hu fH hm
  refine⟨r,?_,R⟩
  rw[tC hb _ _ o ho]
  have:(Builtin.max_ c.argTypes o.type (c.args.map a.eval)).run P C.w = .ok r C.w:=by
   unfold Builtin.max_
   simp only[G,hr]
  simp only[builtin,Sem.run_bind,this,Result.andThen_ok]
  rfl
theorem abO {c:Call} {b:Builtin} {xs:List AV} {v:AV} (hb:c.callee = .builtin b) (hx:c.args.toList.map (ev t)=xs) (hm:uD b xs=some v):Yields P n (.call c) t h v [] :=
 Yields.pure fun C a o ho W ht=>by
  have hL:=EU ht c
  rw[hx]at hL
  unfold uD at hm
  split at hm
  ·cases hm
   simp only[aC,aj]at hL
   obtain⟨_,_,G,rfl,rfl⟩:=hL
   refine⟨_,?_,by simp only[aj];rfl⟩
   rw[tC hb _ _ o ho]
   have e:c.args.map a.eval = #[_]:=Array.ext' G
   rw[e]
   rfl
  ·cases hm
   simp only[aC,aj]at hL
   obtain⟨_,_,G,rfl,rfl⟩:=hL
   refine⟨_,?_,by simp only[aj];rfl⟩
   rw[tC hb _ _ o ho]
   have e:c.args.map a.eval = #[_]:=Array.ext' G
   rw[e]
   rfl
  ·cases hm
   simp only[aC,aj]at hL
   obtain⟨_,_,G,rfl,_,_,rfl,rfl,rfl⟩:=hL
   refine⟨_,?_,by simp only[aj];rfl⟩
   rw[tC hb _ _ o ho]
   have e:c.args.map a.eval = #[_,_]:=Array.ext' G
   rw[e]
   rfl
  ·cases hm
theorem ab5 {c:Call} {x:AV} {xs:List AV} {v:AV} (hb:c.callee = .builtin .min) (hx:c.args.toList.map (ev t)=x::xs) (hm:py x xs=some v):Yields P n (.call c) t h v [] :=
 Yields.pure fun C a o ho W ht=>by
  have hL:=EU ht c
  rw[hx]at hL
  simp only[aC]at hL
  obtain⟨Y,us,G,hu,fH⟩:=hL
  obtain⟨r,hr,R⟩:=YH (P:=P) xs us x v Y hu fH hm
  refine⟨r,?_,R⟩
  rw[tC hb _ _ o ho]
  have:(Builtin.min_ c.argTypes o.type (c.args.map a.eval)).run P C.w = .ok r C.w:=by
   unfold Builtin.min_
   simp only[G,hr]
  simp only[builtin,Sem.run_bind,this,Result.andThen_ok]
  rfl
def jn (z:Nat):AV->Option (List (List AV))
 | .ro z' D true=>if z'=z then some D else none
 | .sc (.slice none 0 0)=>some []
 | _=>none
theorem hv {C:Ctx} {z:Nat} {D:List (List AV)} {full:Bool} {Y:Value}:aj C (.ro z D full) Y↔∃ab cap,Y = .slice ab D.length cap/\D.length<=cap/\(full=true->cap=D.length) /\
   (D≠[]->∃a,ab=some a/\a.block<C.w.heap.size/\¬C.mt a.block/\dc C a z 0 D):=Iff.rfl
theorem R9 {C:Ctx} (W:cY C h) {z:Nat} (h0:0<z) {v:AV} {Y:Value} {D:List (List AV)} (H:aj C v Y) (G:jn z v=some D) :
  wN P C z Y D/\(∃ab,Y = .slice ab D.length D.length)/\aj C (.ro z D false) Y:=by
 unfold jn at G
 split at G
 ·split at G
  ·rename_i z' bi hz
   cases G
   subst hz
   have hs:wN P C z' Y D:=uH W h0 H (by simp[er])
   obtain⟨ab,cap,hu,aZ,hf,ay⟩:=hv.1 H
   exact⟨hs,⟨ab,by rw[hu,hf rfl]⟩,hv.2 ⟨ab,cap,hu,aZ,fun h=>(nomatch h),ay⟩⟩
  ·cases G
 ·cases G
  have hs:wN P C z Y []:=uH W h0 H (by simp[er])
  simp only[aj]at H
  subst H
  exact⟨hs,⟨none,rfl⟩,hv.2 ⟨none,0,rfl,Nat.le_refl _,fun h=>(nomatch h),fun h=>absurd rfl h⟩⟩
 ·cases G
structure zL (P:Program) (ty xt e:TypeId) (z:Nat) (wy:Nat):Prop where
 hs:bE P ty=some (e,z)
 hx:bE P xt=some (e,z)
 hz:(fz P e).map List.length=some z
 hb:wy*de P e<=140737488355328
 hm:wy<=9223372036854775807
theorem zL.info {ty xt e:TypeId} {z wy:Nat} (hA:zL P ty xt e z wy):∃i zv,P.underlying ty=some (.slice e)/\P.underlying xt=some (.slice e)/\P.info? e=some i/\i.zero=some zv/\zv.cells.size=z/\i.size=z/\0<z/\wy*i.bytes<=140737488355328:=by
 obtain⟨hu,G,h0⟩:=lI hA.hs
 obtain⟨a3,_,_⟩:=lI hA.hx
 obtain⟨zc,jw,jx⟩:=Option.map_eq_some_iff.1 hA.hz
 obtain⟨i,zv,hi,il,rfl⟩:=I_ jw
 refine⟨i,zv,hu,a3,hi,il,by simpa using jx,?_,h0,?_⟩
 ·have:P.cellsOf e=i.size:=by simp[Program.cellsOf,hi]
  omega
 ·have hb:=hA.hb
  simp only[de,hi,Option.map_some,Option.getD_some]at hb
  exact hb
theorem zd {c:Call} {ty xt:TypeId} {s x:Operand} (hb:c.callee = .builtin .append) (i9:c.argTypes = #[ty,xt]) (ha:c.args = #[s,x]) {a:Act} {o:Oper} (ho:o.op = .call c) {w w':World} {r:Value}
  (h:(Builtin.append_ #[ty,xt] o.type #[a.eval s,a.eval x]).run P w = .ok r w'):(execOp a.eval o).run P w = .ok (.value r) w':=by
 rw[tC hb _ _ o ho,i9,ha]
 simp only[builtin,Sem.run_bind,List.map_toArray,List.map_cons,List.map_nil,h,Result.andThen_ok]
 rfl
theorem abF {c:Call} {ty xt e:TypeId} {s x:Operand} {z:Nat} {D fs:List (List AV)} (hb:c.callee = .builtin .append) (i9:c.argTypes = #[ty,xt]) (ha:c.args = #[s,x]) (G:jn z (ev t s)=some D) (hf:er h z (ev t x)=some fs)
  (hA:zL P ty xt e z (D.length+fs.length)):Yields P n (.call c) t h (.ro z (D++fs) false) [] :=
 Yields.run fun C a o ho W ht hn=>by
  obtain⟨i,zv,hu,a3,hi,il,x9,b7,h0,uW⟩:=hA.info
  obtain⟨kj,⟨ab,R⟩,eW⟩:=R9 (P:=P) W h0 (b0 ht s) G
  have i7:=uH (P:=P) W h0 (b0 ht x) hf
  obtain⟨ad,c2,news,kl,_,ke,iU⟩:=i7.news
  by_cases Bo:fs=[]
  ·subst Bo
   refine⟨a.eval s,C.same n C.w,?_,?_⟩
   ·refine zd hb i9 ha ho ?_
    rw[R,kl]
    have qD:news=[]:=by
     have:=ke.length
     simpa using this.symm
    have:=iU C.w rfl
    rw[kl,qD,<-b7]at this
    exact YA hu a3 hi ab ad _ _ c2 (Nat.le_refl _) this
   ·rw[List.append_nil]
    exact cZ.pure W eW rfl rfl rfl rfl
  ·obtain⟨A',c1,olds,mh,_,sL,x0⟩:=kj.news
   have hlen:0<fs.length:=List.length_pos_iff.2 Bo
   rw[R]at mh
   obtain⟨e1,-,e2⟩:=Value.slice.inj mh
   subst e1 e2
   obtain⟨cap,zs,bD,f2,_⟩:=PJ (P:=P) (w:=C.w) (ty:=o.type) hu a3 hi il ab ad D.length D.length fs.length c2 olds news
    (fun w' hw=>by have:=x0 w' hw;rw[R]at this;rw[b7];exact this) (fun w' hw=>by have:=iU w' hw;rw[kl]at this;rw[b7];exact this) (by omega) uW hA.hm
   refine⟨_,C.iC n (C.w.drew.alloc (.cells (olds.toArray++news.toArray++zs) e)),zd hb i9 ha ho (by rw[R,kl];exact bD),?_⟩
   refine cZ.iC W (o := .cells (olds.toArray++news.toArray++zs) e) rfl ?_ rfl rfl rfl
   have agc:∀(j:Nat) (e:List AV),(D++fs)[j]? = some e->e.length=z:=fun j e O=>by
    rcases List.mem_append.1 (List.mem_of_getElem? O)with A | A
    ·obtain⟨k,u⟩:=List.mem_iff_getElem?.1 A;exact kj.len k e u
    ·obtain⟨k,u⟩:=List.mem_iff_getElem?.1 A;exact i7.len k e u
   have hL:=sL.append ke
   have:=X_ (C:=C) (n:=n) (w:=C.w.drew.alloc (.cells (olds.toArray++news.toArray++zs) e)) (ty:=e) (cs:=(D++fs).flatten) (D:=D++fs) (z:=z) (cap:=cap) (full:=false) rfl (fun j c O=>by
    rw[List.flatten_append]at O
    obtain⟨Y,hu,a9⟩:=hL.get j c O
    refine⟨Y,?_,a9⟩
    rw[Array.getElem?_append_left]
    ·simpa using hu
    ·have:=(List.getElem?_eq_some_iff.1 hu).1
     simpa using this) agc rfl (by simpa using f2) (fun h=>by cases h)
   rw[List.length_append]at this
   exact this
theorem abD {c:Call} {ty xt e:TypeId} {s x:Operand} {z:Nat} {D fs:List (List AV)} (hb:c.callee = .builtin .append) (i9:c.argTypes = #[ty,xt]) (ha:c.args = #[s,x]) (G:jn z (ev t s)=some D) (hf:er h z (ev t x)=some fs)
  (hA:zL P ty xt e z (D.length+fs.length)) (ay:fs≠[]):Yields P n (.call c) t h (.sl (n,0) z 0 (D.length+fs.length) true) [((n,0),some (D.flatten++fs.flatten))] :=
 Yields.run fun C a o ho W ht hn=>by
  obtain⟨i,zv,hu,a3,hi,il,x9,b7,h0,uW⟩:=hA.info
  obtain⟨kj,⟨ab,R⟩,_⟩:=R9 (P:=P) W h0 (b0 ht s) G
  have i7:=uH (P:=P) W h0 (b0 ht x) hf
  obtain⟨ad,c2,news,kl,_,ke,iU⟩:=i7.news
  obtain⟨A',c1,olds,mh,_,sL,x0⟩:=kj.news
  have hlen:0<fs.length:=List.length_pos_iff.2 ay
  rw[R]at mh
  obtain⟨e1,-,e2⟩:=Value.slice.inj mh
  subst e1 e2
  obtain⟨cap,zs,bD,f2,MP⟩:=PJ (P:=P) (w:=C.w) (ty:=o.type) hu a3 hi il ab ad D.length D.length fs.length c2 olds news
   (fun w' hw=>by have:=x0 w' hw;rw[R]at this;rw[b7];exact this) (fun w' hw=>by have:=iU w' hw;rw[kl]at this;rw[b7];exact this) (by omega) uW hA.hm
  refine⟨_,C.cg n (C.w.drew.alloc (.cells (olds.toArray++news.toArray++zs) e)),zd hb i9 ha ho (by rw[R,kl];exact bD),?_⟩
  have hL:=sL.append ke
  refine cZ.cg W hn (arr:=olds.toArray++news.toArray++zs) (ty:=e) rfl (fun j c O => ?_) ?_ rfl rfl rfl
  ·obtain⟨Y,hu,a9⟩:=hL.get j c O
   refine⟨Y,?_,a9⟩
   rw[Array.getElem?_append_left]
   ·simpa using hu
   ·have:=(List.getElem?_eq_some_iff.1 hu).1
    simpa using this
  ·simp only[aj,Ctx.cg,if_true]
   refine⟨⟨_,_,_,rfl⟩,.inr trivial,fun _=>⟨cap,0,rfl,f2,.inl rfl,fun _=>⟨_,e,heap_alloc_new C.w.drew _,?_⟩⟩⟩
   have l1:=sL.length
   have l2:=ke.length
   rw[gS D kj.len]at l1
   rw[gS fs i7.len]at l2
   have:(D.length+fs.length)*z+(cap-(D.length+fs.length))*z=cap*z:=by rw[<-Nat.add_mul];congr 1;omega
   rw[Nat.add_mul]at this
   simp[MP,x9]
   omega
theorem abE {c:Call} {ty xt e:TypeId} {s x:Operand} {z off len:Nat} {m:Nm} {cs:List AV} {fs:List (List AV)} (hb:c.callee = .builtin .append) (i9:c.argTypes = #[ty,xt]) (ha:c.args = #[s,x]) (m_:ev t s = .sl m z off len true)
  (Z:ae h m=some cs) (mb:cs.length=off+len*z) (hf:er h z (ev t x)=some fs) (A:fs.flatten.all AV.one=true) (hA:zL P ty xt e z (len+fs.length)) :
  Yields P n (.call c) t h (.sl (n,0) z 0 (len+fs.length) true) [(m,none),((n,0),some (cs.drop off++fs.flatten))] :=
 Yields.run fun C a o ho W ht hn=>by
  obtain⟨i,zv,hu,a3,hi,il,x9,b7,h0,uW⟩:=hA.info
  have eW:=b0 ht s
  rw[m_]at eW
  have kj:wN P C z (a.eval s) (chunk z len (cs.drop off)):=uH W h0 eW (by simp[er,Z,mb])
  simp only[aj]at eW
  obtain⟨cap,of,R,aZ,oe,xZ⟩:=eW.2.2 (W.get Z)
  obtain⟨arr,oX,lc,f2⟩:=xZ trivial
  have Fj:arr.toList.length=arr.size:=by simp
  have i7:=uH (P:=P) W h0 (b0 ht x) hf
  obtain⟨ad,c2,news,kl,_,ke,iU⟩:=i7.news
  have l2:=ke.length
  rw[gS fs i7.len]at l2
  obtain⟨arr0,zr,Fi,od⟩:=W.obj m cs Z
  rw[lc]at Fi
  cases Fi
  generalize UO:C.bs m=dp at oe f2 od
  have Fq:(cs.drop off).length=len*z:=by rw[List.length_drop,mb];omega
  have Vb:∀(j:Nat) (c:AV),(cs.drop off)[j]? = some c->∃Y,arr[dp+off+j]? = some Y/\aj C c Y:=fun j c O=>by
   rw[List.getElem?_drop]at O
   rw[Nat.add_assoc];exact od _ c O
  have afH:dp+off+len*z<=arr.size:=by
   have:len*z<=cap*z:=Nat.mul_le_mul_right _ aZ
   omega
  have Fr:∀w':World,w'.heap=C.w.heap->(Builtin.firstCells i.size fs.length (.slice ad fs.length c2)).run P w' = .ok news.toArray w':=fun w' hw=>by
   have:=iU w' hw;rw[kl]at this;rw[b7];exact this
  have LO:∀(arr':Array Value) (k0:Nat),(∀(j:Nat) (c:AV),(cs.drop off)[j]? = some c->∃Y,arr'[k0+j]? = some Y/\aj C c Y)->(∀(j:Nat) (Y:Value),news[j]? = some Y->arr'[k0+(len*z+j)]? = some Y)->∀(j:Nat) (c:AV),(cs.drop off++fs.flatten)[j]? = some c->∃Y,arr'[k0+j]? = some Y/\aj C c Y:=by
   intro arr' k0 hA1 hA2 j c O
   by_cases m5:j<(cs.drop off).length
   ·rw[List.getElem?_append_left m5]at O
    exact hA1 j c O
   ·rw[List.getElem?_append_right (by omega)]at O
    obtain⟨Y,hu,a9⟩:=ke.get _ c O
    have:=hA2 _ Y hu
    rw[Fq,show len*z+(j-len*z)=j from by omega]at this
    exact⟨Y,this,a9⟩
  have sK:=W.lt (W.get Z)
  by_cases Bk:fs=[]
  ·
   subst Bk
   have qD:news=[]:=by simpa using l2.symm
   refine⟨a.eval s,C.move n m (C.ρ m) (dp+off) C.w,?_,cZ.move W hn Z lc (Nat.le_refl _) (fun _ _ _=>rfl) (.inl rfl) (LO arr _ Vb (fun j Y O=>by rw[qD]at O;simp at O)) ?_ rfl rfl rfl⟩
   ·refine zd hb i9 ha ho ?_
    rw[R,kl]
    have:=Fr C.w rfl
    rw[qD]at this
    exact YA hu a3 hi _ ad _ _ c2 aZ this
   ·simp only[aj,Ctx.move,if_true]
    refine⟨⟨_,_,_,R⟩,.inr trivial,fun _=>⟨cap,of,by rw[R];rfl,by simpa using aZ,oe,fun _=>⟨arr,oX,lc,f2⟩⟩⟩
  have hlen:0<fs.length:=List.length_pos_iff.2 Bk
  by_cases Mt:len+fs.length<=cap
  ·
   have Mm:of=dp+off:=by
    rcases oe with E | E
    ·exact E
    ·omega
   subst Mm
   have gA:∀v∈news,v.oneCell'=true:=fun v og=>by
    obtain⟨k,u⟩:=List.mem_iff_getElem?.1 og
    have Mf:k<fs.flatten.length:=by rw[gS fs i7.len,l2];exact(List.getElem?_eq_some_iff.1 u).1
    obtain⟨u',a3,a9⟩:=ke.get k (fs.flatten[k]) (List.getElem?_eq_getElem Mf)
    rw[u]at a3;cases a3
    exact Ct a9 (List.all_eq_true.1 A _ (List.getElem_mem _))
   have agq:dp+off+len*z+news.length<=arr.size:=by
    have:(len+fs.length)*z<=cap*z:=Nat.mul_le_mul_right _ Mt
    rw[Nat.add_mul]at this
    omega
   have eP:=run_storeCells_at (P:=P) (C.ρ m) (dp+off+len*z) oX news 0 arr C.w lc (by simpa using agq) gA
   rw[Nat.add_zero]at eP
   refine⟨.slice (some ⟨C.ρ m,dp+off,none⟩) (len+fs.length) cap,C.move n m (C.ρ m) (dp+off) (C.w.setRow (C.ρ m) (arr.toList.take (dp+off+len*z)++news++arr.toList.drop (dp+off+len*z+news.length)).toArray),?_,
    cZ.move (arr':=(arr.toList.take (dp+off+len*z)++news++arr.toList.drop (dp+off+len*z+news.length)).toArray) W hn Z (setRow_heap C.w (C.ρ m) arr _ oX _ lc) (by simp) (fun k _ u=>by simp[World.setRow,Array.getElem?_modify,Ne.symm u]) (.inl rfl) (LO _ _ (fun j c O => ?_) (fun j Y O => ?_)) ?_ rfl rfl rfl⟩
   ·refine zd hb i9 ha ho ?_
    rw[R,kl]
    have Bl:=Fr C.w rfl
    simp only[b7]at Bl
    simp[Builtin.append_,run_underlying hu,run_underlying a3,sizeOf,typeInfo,hi,b7,Builtin.lenOf,Mt,Bl,jS,eP,Ctx.move]
   ·obtain⟨Y,a3,a9⟩:=Vb j c O
    refine⟨Y,?_,a9⟩
    have m5:j<len*z:=by rw[<-Fq];exact(List.getElem?_eq_some_iff.1 O).1
    simp only[List.getElem?_toArray]
    rw[List.append_assoc,List.getElem?_append_left (by simp;omega),List.getElem?_take,if_pos (by omega)]
    simpa using a3
   ·simp only[List.getElem?_toArray]
    have m5:=(List.getElem?_eq_some_iff.1 O).1
    rw[List.append_assoc,List.getElem?_append_right (by simp;omega),List.length_take,Fj,Nat.min_eq_left afH,show dp+off+(len*z+j)-(dp+off+len*z)=j from by omega,List.getElem?_append_left m5]
    exact O
   ·simp only[aj,Ctx.move,if_true]
    refine⟨⟨_,_,_,rfl⟩,.inr trivial,fun _=>⟨cap,dp+off,rfl,Mt,.inl rfl,fun _=>⟨_,oX,setRow_heap C.w (C.ρ m) arr _ oX _ lc,?_⟩⟩⟩
    simp
    omega
  ·
   obtain⟨auk,c1,olds,mh,_,sL,x0⟩:=kj.news
   rw[qi]at mh x0
   rw[R]at mh
   obtain⟨e1,-,e2⟩:=Value.slice.inj mh
   subst e1 e2
   have l1:=sL.length
   rw[gS _ kj.len,qi]at l1
   obtain⟨cap',zs,bD,afM,MP⟩:=PJ (P:=P) (w:=C.w) (ty:=o.type) hu a3 hi il _ ad len cap fs.length c2 olds news
    (fun w' hw=>by have:=x0 w' hw;rw[R]at this;rw[b7];exact this) Fr (by omega) uW hA.hm
   rw[Ai z len (cs.drop off) Fq]at sL
   refine⟨_,C.move n m C.w.heap.size 0 (C.w.drew.alloc (.cells (olds.toArray++news.toArray++zs) e)),zd hb i9 ha ho (by rw[R,kl];exact bD),
    cZ.move (arr':=olds.toArray++news.toArray++zs) (ty:=e) W hn Z (heap_alloc_new C.w.drew _) (by simp) (fun k u _=>heap_alloc_old C.w.drew _ u) (.inr (Nat.le_refl _)) (LO _ _ (fun j c O => ?_) (fun j Y O => ?_)) ?_ rfl rfl rfl⟩
   ·obtain⟨Y,a3,a9⟩:=sL.get j c O
    refine⟨Y,?_,a9⟩
    have m5:=(List.getElem?_eq_some_iff.1 a3).1
    rw[Nat.zero_add,Array.getElem?_append_left (by simp;omega),Array.getElem?_append_left (by simpa using m5)]
    simpa using a3
   ·have m5:=(List.getElem?_eq_some_iff.1 O).1
    rw[Nat.zero_add,Array.getElem?_append_left (by simp;omega),Array.getElem?_append_right (by simp;omega)]
    simp[<-l1]
    exact O
   ·simp only[aj,Ctx.move,if_true]
    refine⟨⟨_,_,_,rfl⟩,.inr trivial,fun _=>⟨cap',0,rfl,afM,.inl rfl,fun _=>⟨_,e,heap_alloc_new C.w.drew _,?_⟩⟩⟩
    have:(len+fs.length)*z+(cap'-(len+fs.length))*z=cap'*z:=by rw[<-Nat.add_mul];congr 1;omega
    rw[Nat.add_mul]at this
    simp[MP,x9]
    omega
end
def w9 (P:Program) (h:Hp) (ty:TypeId) (s x:AV):Option (AV×Dl) :=
 match bE P ty with
 | some (_,z)=>match er h z x with
  | some fs=>match s with
   | .sl m z' off len _=>match ae h m with
    | some cs=>if z'=z/\fs.length<=len/\off+fs.length*z<=cs.length/\fs.flatten.all AV.one=true then some (.sc (.int .i64 fs.length),[(m,some (fT cs off fs.flatten))])else none
    | none=>none
   | _=>none
  | none=>none
 | none=>none
theorem abN {P:Program} {n:Nat} {t:Tp} {h:Hp} {c:Call} {ty xt:TypeId} {s x:Operand} {r:AV} {d:Dl} (hb:c.callee = .builtin .copy) (i9:c.argTypes = #[ty,xt]) (ha:c.args = #[s,x]) (G:w9 P h ty (ev t s) (ev t x)=some (r,d)):Yields P n (.call c) t h r d :=
 Yields.run fun C a o ho W ht hn=>by
  unfold w9 at G
  split at G
  ·rename_i e z hs
   obtain⟨hu,hz,h0⟩:=lI hs
   subst hz
   split at G
   ·rename_i fs hf
    split at G
    ·rename_i m z' off len own m_
     split at G
     ·rename_i cs Z
      split at G
      ·rename_i H
       obtain⟨rfl,aZ,d7,A⟩:=H
       cases G
       have eW:=b0 ht s
       rw[m_]at eW
       simp only[aj]at eW
       obtain⟨cap,of,R,U7,oe,_⟩:=eW.2.2 (W.get Z)
       have i7:=uH (P:=P) W h0 (b0 ht x) hf
       obtain⟨ad,c2,news,kl,_,ke,iU⟩:=i7.news
       have l2:=ke.length
       rw[gS fs i7.len]at l2
       obtain⟨arr,oX,lc,od⟩:=W.obj m cs Z
       have Fj:arr.toList.length=arr.size:=by simp
       have agh:Nat.min fs.length len=fs.length:=Nat.min_eq_left aZ
       have Bl:=iU C.w rfl
       rw[kl]at Bl
       have aP:∀w',(storeCells ⟨C.ρ m,of,none⟩ news).run P C.w = .ok () w'->(execOp a.eval o).run P C.w = .ok (.value (.int .i64 fs.length)) w':=by
        intro w' eP
        rw[tC hb _ _ o ho,i9,ha]
        have hcp:(Builtin.copy_ #[ty,xt] o.type #[a.eval s,a.eval x]).run P C.w = .ok (.int .i64 fs.length) w':=by
         rw[R,kl]
         simp[Builtin.copy_,run_underlying hu,Builtin.lenOf,agh,oL h0,Bl,eP,goInt]
        simp only[builtin,Sem.run_bind,List.map_toArray,List.map_cons,List.map_nil,hcp,Result.andThen_ok]
        rfl
       by_cases Bk:fs=[]
       ·subst Bk
        have qD:news=[]:=by simpa using l2.symm
        refine⟨_,C.same n C.w,aP C.w (by rw[qD];rfl),?_⟩
        refine cZ.mod W Z lc lc rfl rfl (fun _ _=>rfl) (fun j c O => ?_) (by simp only[aj]) rfl rfl rfl
        have e0:fT cs off ([]:List (List AV)).flatten=cs:=by simp[fT]
        rw[e0]at O
        exact od j c O
       ·have hlen:0<fs.length:=List.length_pos_iff.2 Bk
        have Mm:of=C.bs m+off:=by
         rcases oe with E | E
         ·exact E
         ·omega
        subst Mm
        generalize UO:C.bs m=dp at od aP
        have gA:∀v∈news,v.oneCell'=true:=fun v og=>by
         obtain⟨k,u⟩:=List.mem_iff_getElem?.1 og
         have Mf:k<fs.flatten.length:=by rw[gS fs i7.len,l2];exact(List.getElem?_eq_some_iff.1 u).1
         obtain⟨u',a3,a9⟩:=ke.get k (fs.flatten[k]) (List.getElem?_eq_getElem Mf)
         rw[u]at a3;cases a3
         exact Ct a9 (List.all_eq_true.1 A _ (List.getElem_mem _))
        have UY:fs.flatten.length=news.length:=by rw[gS fs i7.len,l2]
        have kf:0<fs.length*P.cellsOf e:=Nat.mul_pos hlen h0
        have b7:dp+off+news.length<=arr.size:=by
         have Bt:cs[off+fs.length*P.cellsOf e-1]? = some (cs[off+fs.length*P.cellsOf e-1]'(by omega)):=List.getElem?_eq_getElem _
         obtain⟨Y,hu,_⟩:=od _ _ Bt
         have:=(Array.getElem?_eq_some_iff.1 hu).1
         omega
        have eP:=run_storeCells_at (P:=P) (C.ρ m) (dp+off) oX news 0 arr C.w lc (by omega) gA
        rw[Nat.add_zero]at eP
        refine⟨_,C.same n (C.w.setRow (C.ρ m) (arr.toList.take (dp+off)++news++arr.toList.drop (dp+off+news.length)).toArray),aP _ eP,?_⟩
        refine cZ.mod (arr':=(arr.toList.take (dp+off)++news++arr.toList.drop (dp+off+news.length)).toArray) W Z lc (setRow_heap C.w (C.ρ m) arr _ oX _ lc) ?_ (by simp) (fun k u => ?_) (fun j c O => ?_) (by simp only[aj]) rfl rfl rfl
        ·simp;omega
        ·simp[World.setRow,Array.getElem?_modify,Ne.symm u]
        ·rw[UO]
         simp only[fT,UY]at O
         simp only[List.getElem?_toArray]
         by_cases Br:j<off
         ·rw[List.getElem?_append_left (by simp;omega),List.getElem?_take,if_pos Br]at O
          obtain⟨Y,hu,a9⟩:=od j c O
          refine⟨Y,?_,a9⟩
          rw[List.append_assoc,List.getElem?_append_left (by simp;omega),List.getElem?_take,if_pos (by omega)]
          simpa using hu
         ·rw[List.getElem?_append_right (by simp;omega)]at O
          simp only[List.length_take,Nat.min_eq_left (show off<=cs.length by omega)]at O
          rw[List.append_assoc,List.getElem?_append_right (by simp;omega)]
          simp only[List.length_take,Array.length_toList,Nat.min_eq_left (show dp+off<=arr.size by omega)]
          rw[show dp+j-(dp+off)=j-off from by omega]
          by_cases Mc:j-off<news.length
          ·rw[List.getElem?_append_left (by omega)]at O ⊢
           exact ke.get _ c O
          ·rw[List.getElem?_append_right (by omega)]at O ⊢
           rw[UY,List.getElem?_drop]at O
           rw[List.getElem?_drop]
           obtain⟨Y,hu,a9⟩:=od _ c O
           exact⟨Y,by rw[Nat.add_assoc,Nat.add_assoc,<-Nat.add_assoc off];simpa using hu,a9⟩
      ·cases G
     ·cases G
    ·cases G
   ·cases G
  ·cases G
end Go.Proofs.Aw
namespace Go.Proofs.Aw
open Go
section
variable {P:Program} {n:Nat} {t:Tp} {h:Hp}
theorem ab3 {ty e:TypeId} {z:Nat} {zc:List AV} {l c:Operand} {k k':IntKind} {m:Nat} (hs:bE P ty=some (e,z)) (hz:fz P e=some zc) (jx:zc.length=z) (M:ev t l = .sc (.int k m)) (H:ev t c = .sc (.int k' m))
  (hb:m*de P e<=140737488355328) (hm:m<=9223372036854775807):Yields P n (.makeSlice ty l c) t h (.sl (n,0) z 0 m true) [((n,0),some (mF m zc))] :=
 Yields.run fun C a o ho W ht hn=>by
  obtain⟨hu,G,h0⟩:=lI hs
  obtain⟨ie,zv,gx,il,jw⟩:=I_ hz
  have b7:ie.size=z:=by
   have:P.cellsOf e=ie.size:=by simp[Program.cellsOf,gx]
   omega
  have UP:de P e=ie.bytes:=by simp[de,gx]
  have kw:a.eval l = .int k m:=by have:=b0 ht l;rw[M]at this;simpa only[aj]using this
  have qs:a.eval c = .int k' m:=by have:=b0 ht c;rw[H]at this;simpa only[aj]using this
  have f0:(ie.bytes:Int)*(m:Int)<=281474976710656:=by
   rw[UP]at hb
   have:((ie.bytes*m:Nat):Int)<=281474976710656:=by rw[Nat.mul_comm];omega
   rwa[Int.natCast_mul]at this
  have hr:=run_make (P:=P) C.w ty e ie zv hu gx il k k' m m (by omega) (Int.le_refl _) f0 (by omega)
  have FM:=aa0 (C:=C) (len:=m) jw (by omega)
  have hL:aC C (mF m zc) (madeCells zv.cells (m*ie.size)).toList:=by rw[b7,<-jx];exact FM
  refine⟨.slice (some ⟨C.w.heap.size,0,none⟩) m m,C.cg n (C.w.alloc (.cells (madeCells zv.cells (m*ie.size)) e)),?_,cZ.cg W hn (arr:=madeCells zv.cells (m*ie.size)) (ty:=e) rfl (fun j c O => ?_) ?_ rfl rfl rfl⟩
  ·unfold execOp
   rw[ho]
   simp only[Sem.run_bind,kw,qs,hr,Result.andThen_ok,Int.toNat_natCast]
   rfl
  ·obtain⟨Y,My,H⟩:=hL.get j c O
   exact⟨Y,by simpa using My,H⟩
  ·simp only[aj,Ctx.cg,if_true]
   exact⟨⟨_,_,_,rfl⟩,.inr trivial,fun _=>⟨m,0,rfl,Nat.le_refl _,.inl rfl,fun _=>⟨madeCells zv.cells (m*ie.size),e,heap_alloc_new C.w _,by rw[size_madeCells,b7];omega⟩⟩⟩
end
end Go.Proofs.Aw
namespace Go.Proofs.Aw
open Go
def CY (P:Program) (n:Nat) (f:FuncId) (args:List AV) (h:Hp) (r:AV) (d:Dl):Prop :=
 ∀(C:Ctx) (vs:List Value),cY C h->aC C args vs->(∀k,¬C.kn (n,k))->Calls P f vs.toArray C.w fun e w'=>∃Y C',e = .returned Y/\C'.w=w'/\cZ C n h r d Y C'
def b_ (P : Program) (f : FuncId) : Bool := match P.funcs[f]? with | some fn => fn.body.isSome && fn.name != "runtime.NumGoroutine" | none => false
theorem aq9 {P:Program} {f:FuncId} (hb:b_ P f=true) (args:Array Value) (w:World):(callFunc f args).run P w = .ok (.enter f args) w:=by
 unfold b_ at hb
 cases hf:P.funcs[f]? with
 | none=>rw[hf]at hb;cases hb
 | some fn =>
  rw[hf]at hb
  simp only[Bool.and_eq_true,bne_iff_ne,ne_eq]at hb
  unfold callFunc
  have hn : (fn.name == "runtime.NumGoroutine") = false := by simpa using hb.2
  have hi:fn.body.isNone=false:=by
   cases h:fn.body with
   | none=>rw[h]at hb;simp at hb
   | some c=>rfl
  simp only[program,bind,Sem.bind,pure,Sem.run,hf,hn,hi,Bool.false_eq_true,if_false]
theorem abL {P:Program} {n:Nat} {t:Tp} {h:Hp} {c:Call} {x:Operand} {f:FuncId} {xs ys:List AV} {r:AV} {d:Dl} (H:c.callee = .value x) (hx:ev t x = .fn (.func f) xs ys) (hb:b_ P f=true)
  (qz:CY P n f (xs++(c.args.toList.map (ev t)++ys)) h r d):Yields P n (.call c) t h r d:=by
 intro C a o next Q ho W ht hn u
 have A:=b0 ht x
 rw[hx]at A
 simp only[aj]at A
 obtain⟨us,vs,R,fH,iW⟩:=A
 have LX:=EU ht c
 have hL:=fH.append (LX.append iW)
 have UR:=qz C _ W hL hn
 have lc:(us.toList++((c.args.map a.eval).toList++vs.toList)).toArray=us++c.args.map a.eval++vs:=by
  apply Array.ext';simp
 rw[lc]at UR
 have bD:(execOp a.eval o).run P C.w = .ok (.enter f (us++c.args.map a.eval++vs)) C.w:=by
  obtain⟨cal,args,gH⟩:=c
  simp only at H
  subst H
  unfold execOp
  rw[ho]
  simp only[resolve,Deferred.ofValue,R,Sem.run_bind,Sem.run_pure,Result.andThen_ok,invoke,aq9 hb]
 unfold Oper.wp
 rw[bD,Oper.upon_enter]
 exact UR.mono fun e w' ⟨Y,C',G,hw,hp⟩=>by
  subst G;subst hw
  exact u Y C' hp
def tn (b:Option Bool) (z:Nat) (cs:List AV) (off:Nat) (K:AV->Prop):Prop :=
 match b with
 | some true=>0<z/\off+z<=cs.length/\K (.agg ((cs.drop off).take z))
 | some false=>match cs[off]? with
  | some v=>K v
  | none=>False
 | none=>False
theorem yZ {b:Option Bool} {z:Nat} {cs:List AV} {off:Nat} {K:AV->Prop} (h:tn b z cs off K):∃ah v,b=some ah/\Rd ah z cs off v/\K v:=by
 unfold tn at h
 split at h
 ·exact⟨true,_,rfl,.inl ⟨rfl,h.1,h.2.1,rfl⟩,h.2.2⟩
 ·split at h
  ·rename_i v R
   exact⟨false,v,rfl,.inr ⟨rfl,R⟩,h⟩
  ·exact h.elim
 ·exact h.elim
def sX (P:Program) (h:Hp) (ty:TypeId) (x:AV) (K:AV->Prop):Prop :=
 match x with
 | .ptr m off=>match ae h m with
  | some cs=>tn (eT P ty) (P.cellsOf ty) cs off K
  | none=>False
 | .ip cs off=>tn (eT P ty) (P.cellsOf ty) cs off K
 | _=>False
def CW (P:Program) (h:Hp) (ty:TypeId) (x y:AV) (K:Dl->Prop):Prop :=
 match x with
 | .ptr m off=>match ae h m with
  | some cs=>0<P.cellsOf ty/\y.cells.length=P.cellsOf ty/\off+P.cellsOf ty<=cs.length/\y.cells.all AV.one=true/\K [(m,some (fT cs off y.cells))]
  | none=>False
 | _=>False
def sQ (P:Program) (h:Hp) (ty:TypeId) (x i:AV) (K:AV->Prop):Prop :=
 match i with
 | .sc (.int _ j)=>match x with
  | .ptr m off=>match ep P ty with
   | some (len,z)=>(ae h m).isSome=true/\0<=j/\j<len/\K (.ptr m (off+j.toNat*z))
   | none=>False
  | .ip cs off=>match ep P ty with
   | some (len,z)=>0<=j/\j<len/\K (.ip cs (off+j.toNat*z))
   | none=>False
  | .sl m z off len _=>match bE P ty with
   | some (_,z')=>z'=z/\(ae h m).isSome=true/\0<=j/\j<len/\K (.ptr m (off+j.toNat*z))
   | none=>False
  | .ro z D _=>match bE P ty with
   | some (_,z')=>z'=z/\0<=j/\match D[j.toNat]? with
    | some kw=>K (.ip kw 0)
    | none=>False
   | none=>False
  | _=>False
 | _=>False
def AM (P:Program) (h:Hp) (ty:TypeId) (x:AV) (f:Nat) (K:AV->Prop):Prop :=
 match jc P ty with
 | some l=>match l[f]? with
  | some (o,_)=>match x with
   | .ptr m off=>(ae h m).isSome=true/\K (.ptr m (off+o))
   | .ip cs off=>K (.ip cs (off+o))
   | _=>False
  | none=>False
 | none=>False
def CD (P:Program) (ty:TypeId):Option (List (Option Bool)):=match P.underlying ty with | some (.struct fs)=>some (fs.toList.map fun f=>eT P f.type) | _=>none
def rU (P:Program) (ty:TypeId):Option Bool:=match P.underlying ty with | some (.array _ e)=>eT P e | _=>none
def AO (P:Program) (ty:TypeId) (x:AV) (f:Nat) (K:AV->Prop):Prop :=
 match jc P ty,CD P ty,x with
 | some l,some bs,.agg cs=>match l[f]?,bs[f]? with
  | some (o,z),some b=>tn b z cs o K
  | _,_=>False
 | _,_,_=>False
def ya (P:Program) (ty:TypeId) (x i:AV) (K:AV->Prop):Prop :=
 match i with
 | .sc (.int _ j)=>match x with
  | .agg cs=>match ep P ty with
   | some (len,z)=>0<=j/\j<len/\tn (rU P ty) z cs (j.toNat*z) K
   | none=>False
  | .sc (.string s)=>nv P ty=true/\0<=j/\match s[j.toNat]? with
   | some b=>K (.sc (.int .u8 b.toNat))
   | none=>False
  | _=>False
 | _=>False
def hk (d:Nat) (x:Option AV) (K:Nat->Prop):Prop :=
 match x with
 | none=>K d
 | some (.sc (.int _ i))=>0<=i/\K i.toNat
 | _=>False
theorem jq {d:Nat} {x:Option AV} {K:Nat->Prop} (h:hk d x K):∃l,hc d x l/\K l:=by
 unfold hk at h
 split at h
 ·exact⟨d,.inl ⟨rfl,rfl⟩,h⟩
 ·exact⟨_,.inr ⟨_,_,rfl,h.1,rfl⟩,h.2⟩
 ·exact h.elim
def oN (P:Program) (h:Hp) (ty:TypeId) (x:AV) (lo hi mx:Option AV) (K:AV->Prop):Prop :=
 match x with
 | .ro z D full=>match bE P ty with
  | some (_,z')=>z'=z/\(match mx with
   | none=>hk 0 lo fun l=>hk D.length hi fun W=>l<=W/\W<=D.length/\K (.ro z ((D.take W).drop l) (full&&W==D.length))
   | some mx=>hk 0 lo fun l=>(match hi with
    | some hi=>hk 0 (some hi) fun W=>hk 0 (some mx) fun m=>l<=W/\W<=m/\m<=D.length/\K (.ro z ((D.take W).drop l) (m==W))
    | none=>False))
  | none=>False
 | .sl m z off len own=>match bE P ty with
  | some (_,z')=>z'=z/\(ae h m).isSome=true/\(match mx with
   | none=>hk 0 lo fun l=>hk len hi fun W=>l<=W/\W<=len/\K (.sl m z (off+l*z) (W-l) own)
   | some mx=>hk 0 lo fun l=>(match hi with
    | some hi=>hk 0 (some hi) fun W=>hk 0 (some mx) fun m'=>W=l/\m'=l/\l<=len/\K (.ro z [] true)
    | none=>False))
  | none=>False
 | .ptr m off=>match ep P ty with
  | some (len,z)=>(ae h m).isSome=true/\mx=none/\hk 0 lo fun l=>hk len hi fun W=>l<=W/\W<=len/\K (.sl m z (off+l*z) (W-l) false)
  | none=>False
 | .sc (.string s)=>nv P ty=true/\mx=none/\hk 0 lo fun l=>hk s.size hi fun W=>l<=W/\W<=s.size/\K (.sc (.string (s.extract l W)))
 | .sc (.slice none 0 0)=>match bE P ty with
  | some _=>mx=none/\hk 0 lo fun l=>hk 0 hi fun W=>l=0/\W=0/\K (.sc (.slice none 0 0))
  | none=>False
 | _=>False
def nH (P:Program) (e:TypeId):Option Nat:=(fz P e).map List.length
def sZ (P:Program) (n:Nat) (ty:TypeId) (l c:AV):Option (AV×Dl) :=
 match bE P ty,l,c with
 | some (e,z),.sc (.int _ a),.sc (.int _ b)=>match fz P e with
  | some zc=>if zc.length=z/\0<=a/\b=a/\a.toNat*de P e<=140737488355328/\a<=9223372036854775807 then some (.sl (n,0) z 0 a.toNat true,[((n,0),some (mF a.toNat zc))])else none
  | none=>none
 | _,_,_=>none
def z8 (P:Program) (n:Nat) (mu:Bool) (ty:TypeId) (len:Nat) (ps:List (Nat×AV)) (K:AV->Dl->Prop):Prop :=
 match bE P ty with
 | some (e,z)=>nH P e=some z/\len*z<=16777216/\ps.length=len/\kX z 0 ps=true /\
  (match mu with
  | false=>K (.ro z (gC ps) true) []
  | true=>K (.sl (n,0) z 0 len true) [((n,0),some (gC ps).flatten)])
 | none=>False
def zX (P:Program) (n:Nat) (h:Hp) (mu:Bool) (ty xt:TypeId) (s x:AV) (K:AV->Dl->Prop):Prop :=
 match bE P ty with
 | some (e,z)=>bE P xt=some (e,z)/\nH P e=some z /\
  (match er h z x with
  | some fs=>match s with
   | .sl m z' off len own=>z'=z/\own=true/\(match ae h m with
    | some cs=>cs.length=off+len*z/\fs.flatten.all AV.one=true/\(len+fs.length)*de P e<=140737488355328/\len+fs.length<=9223372036854775807/\K (.sl (n,0) z 0 (len+fs.length) true) [(m,none),((n,0),some (cs.drop off++fs.flatten))]
    | none=>False)
   | s=>match jn z s with
    | some D=>(D.length+fs.length)*de P e<=140737488355328/\D.length+fs.length<=9223372036854775807 /\
     (match mu with
     | false=>K (.ro z (D++fs) false) []
     | true=>fs≠[]/\K (.sl (n,0) z 0 (D.length+fs.length) true) [((n,0),some (D.flatten++fs.flatten))])
    | none=>False
  | none=>False)
 | none=>False
def JT (P:Program) (n:Nat) (f:FuncId) (args:List AV) (h:Hp) (K:AV->Dl->Prop):Prop:=∃r d,b_ P f=true/\CY P n f args h r d/\K r d
def Cu (c a b:AV) (K:AV->Prop):Prop :=
 match c with
 | .sc (.bool p)=>(p=true->K a)/\(p=false->K b)
 | _=>False
def Oo (h:Hp) (x:AV) (K:AV->Prop):Prop :=
 match x with
 | .ptr m off=>(ae h m).isSome=true/\K (.ptr m off)
 | .ip cs off=>K (.ip cs off)
 | .fn (.func f) xs ys=>K (.fn (.func f) xs ys)
 | _=>False
def jH (x:Option AV) (K:AV->Prop):Prop:=match x with | some v=>K v | none=>False
def o6 (P:Program) (n:Nat) (mu:Bool) (b:Builtin) (h:Hp) (gH:List TypeId) (args:List AV) (K:AV->Dl->Prop):Prop :=
 match b,gH,args with
 | .len,ty::_,x::_=>match i_ P h ty x with
  | some m=>K (.sc (.int .i64 m)) []
  | none=>False
 | .max,_,x::xs=>jH (px x xs) fun v=>K v []
 | .min,_,x::xs=>jH (py x xs) fun v=>K v []
 | .append,[ty,xt],[s,x]=>zX P n h mu ty xt s x K
 | .copy,[ty,_],[s,x]=>(match w9 P h ty s x with
  | some (r,d)=>K r d
  | none=>False)
 | b,_,xs=>jH (uD b xs) fun v=>K v []
def jL (P:Program) (n:Nat) (mu:Bool) (op:Op) (t:Tp) (h:Hp) (K:AV->Dl->Prop):Prop :=
 match op with
 | .move x=>K (ev t x) []
 | .assign x=>K (ev t x) []
 | .pick c a b=>Cu (ev t c) (ev t a) (ev t b) fun v=>K v []
 | .alloc e=>match fz P e with
  | some cs=>K (.ptr (n,0) 0) [((n,0),some cs)]
  | none=>False
 | .box _ x=>(ev t x).cells.all AV.one=true/\K (.ptr (n,0) 0) [((n,0),some (ev t x).cells)]
 | .load ty x=>sX P h ty (ev t x) fun v=>K v []
 | .store ty x y=>CW P h ty (ev t x) (ev t y) fun d=>K (.sc undef) d
 | .nilCheck x=>Oo h (ev t x) fun v=>K v []
 | .indexAddr ty x i=>sQ P h ty (ev t x) (ev t i) fun v=>K v []
 | .fieldAddr ty x f=>AM P h ty (ev t x) f fun v=>K v []
 | .field ty x f=>AO P ty (ev t x) f fun v=>K v []
 | .index ty x i=>ya P ty (ev t x) (ev t i) fun v=>K v []
 | .slice ty x lo hi mx=>oN P h ty (ev t x) (lo.map (ev t)) (hi.map (ev t)) (mx.map (ev t)) fun v=>K v []
 | .binOp op ty x y _=>jH (gP P h op ty (ev t x) (ev t y)) fun v=>K v []
 | .unOp op _ x=>jH (rN op (ev t x)) fun v=>K v []
 | .convert src dst x=>(P.underlying src).isSome=true/\jH (uC P dst (ev t x)) fun v=>K v []
 | .extract x i=>match ev t x with
  | .tup vs=>jH vs[i]? fun v=>K v []
  | _=>False
 | .makeFunc f xs ys=>K (.fn f (xs.toList.map (ev t)) (ys.toList.map (ev t))) []
 | .build ty ps=>match fz P ty with
  | some cs=>match l_ (placeOf P ty) cs (ps.toList.map fun p=>(p.1,ev t p.2))with
   | some bn=>((ep P ty).isSome||(jc P ty).isSome)=true/\K (.agg bn) []
   | none=>False
  | none=>False
 | .buildSlice ty len ps=>z8 P n mu ty len (ps.toList.map fun p=>(p.1,ev t p.2)) K
 | .makeSlice ty l c=>match sZ P n ty (ev t l) (ev t c)with
  | some r=>K r.1 r.2
  | none=>False
 | .call c=>match c.callee with
  | .builtin b=>o6 P n mu b h c.argTypes.toList (c.args.toList.map (ev t)) K
  | .value x=>match ev t x with
   | .fn (.func f) xs ys=>JT P n f (xs++(c.args.toList.map (ev t)++ys)) h K
   | _=>False
  | _=>False
 | _=>False
section
variable {P:Program} {n:Nat} {t:Tp} {h:Hp} {mu:Bool} {K:AV->Dl->Prop}
def lN (P:Program) (n:Nat) (op:Op) (t:Tp) (h:Hp) (K:AV->Dl->Prop):Prop:=∃r d,Yields P n op t h r d/\K r d
theorem JC {ty:TypeId} {len z:Nat} (ha:ep P ty=some (len,z)):∃e,P.underlying ty=some (.array len e)/\P.cellsOf e=z/\0<P.cellsOf e:=by
 obtain⟨e,hu,G,h0⟩:=D7 ha
 exact⟨e,hu,G,by omega⟩
theorem XV {ty:TypeId} {l:List (Nat×Nat)} {f o z:Nat} (hr:jc P ty=some l) (hf:l[f]? = some (o,z)):xC P ty f=some o/\∃fs fl,P.underlying ty=some (.struct fs)/\fs[f]? = some fl/\fl.offset=o/\P.cellsOf fl.type=z:=by
 obtain⟨fs,hu,hp,rfl⟩:=XW hr
 rw[List.getElem?_map]at hf
 cases Z:fs.toList[f]? with
 | none=>rw[Z]at hf;cases hf
 | some fl =>
  rw[Z]at hf
  simp only[Option.map_some,Option.some.injEq,Prod.mk.injEq]at hf
  have gT:fs[f]? = some fl:=by simpa using Z
  have h0:=hp fl (List.mem_of_getElem? Z)
  refine⟨?_,fs,fl,hu,gT,hf.1,hf.2⟩
  unfold xC
  simp[hu,gT,h0,hf.1]
theorem aby {ty:TypeId} {x:Operand} (u:sX P h ty (ev t x) fun v=>K v []):lN P n (.load ty x) t h K:=by
 unfold sX at u
 split at u
 ·rename_i m off hx
  split at u
  ·rename_i cs Z
   obtain⟨ah,v,hb,hr,R⟩:=yZ u
   exact⟨v,[],ab1 hx Z hb hr,R⟩
  ·exact u.elim
 ·rename_i cs off hx
  obtain⟨ah,v,hb,hr,R⟩:=yZ u
  exact⟨v,[],ab0 hx hb hr,R⟩
 ·exact u.elim
theorem abB {ty:TypeId} {x y:Operand} (u:CW P h ty (ev t x) (ev t y) fun d=>K (.sc undef) d):lN P n (.store ty x y) t h K:=by
 unfold CW at u
 split at u
 ·rename_i m off hx
  split at u
  ·rename_i cs Z
   obtain⟨h0,M,hlen,A,R⟩:=u
   exact⟨_,_,acn hx Z h0 M hlen A,R⟩
  ·exact u.elim
 ·exact u.elim
theorem abx {ty:TypeId} {x i:Operand} (u:sQ P h ty (ev t x) (ev t i) fun v=>K v []):lN P n (.indexAddr ty x i) t h K:=by
 unfold sQ at u
 split at u
 ·rename_i k j hi
  split at u
  ·rename_i m off hx
   split at u
   ·rename_i len z ha
    obtain⟨e,hu,G,h0⟩:=JC ha
    have:=abT (P:=P) (n:=n) hu h0 hx hi u.1 u.2.1 u.2.2.1
    rw[G]at this
    exact⟨_,_,this,u.2.2.2⟩
   ·exact u.elim
  ·rename_i cs off hx
   split at u
   ·rename_i len z ha
    obtain⟨e,hu,G,h0⟩:=JC ha
    have:=abU (P:=P) (n:=n) (h:=h) hu h0 hx hi u.1 u.2.1
    rw[G]at this
    exact⟨_,_,this,u.2.2⟩
   ·exact u.elim
  ·rename_i m z off len own hx
   split at u
   ·rename_i e z' ha
    obtain⟨rfl,hm,h0,A,R⟩:=u
    obtain⟨hu,G,hz⟩:=lI ha
    exact⟨_,_,abW hu hz G hx hi hm h0 A,R⟩
   ·exact u.elim
  ·rename_i z D full hx
   split at u
   ·rename_i e z' ha
    obtain⟨rfl,h0,u⟩:=u
    obtain⟨hu,G,hz⟩:=lI ha
    split at u
    ·rename_i kw sB
     exact⟨_,_,abV hu hz G hx hi h0 sB,u⟩
    ·exact u.elim
   ·exact u.elim
  ·exact u.elim
 ·exact u.elim
theorem abv {ty:TypeId} {x:Operand} {f:Nat} (u:AM P h ty (ev t x) f fun v=>K v []):lN P n (.fieldAddr ty x f) t h K:=by
 unfold AM at u
 split at u
 ·rename_i l hr
  split at u
  ·rename_i o z hf
   have gc:=(XV hr hf).1
   split at u
   ·rename_i m off hx
    exact⟨_,_,abR gc hx u.1,u.2⟩
   ·rename_i cs off hx
    exact⟨_,_,abS gc hx,u⟩
   ·exact u.elim
  ·exact u.elim
 ·exact u.elim
theorem abu {ty:TypeId} {x:Operand} {f:Nat} (u:AO P ty (ev t x) f fun v=>K v []):lN P n (.field ty x f) t h K:=by
 unfold AO at u
 split at u
 ·rename_i l bs cs hr hb hx
  split at u
  ·rename_i o z b hf xL
   obtain⟨ah,v,rfl,Mr,R⟩:=yZ u
   obtain⟨_,fs,fl,hu,hF,ho,hz⟩:=XV hr hf
   have cf:eT P fl.type=some ah:=by
    unfold CD at hb
    rw[hu]at hb
    simp only[Option.some.injEq]at hb
    rw[<-hb,List.getElem?_map]at xL
    have:fs.toList[f]? = some fl:=by simpa using hF
    rw[this]at xL
    simpa using xL
   exact⟨v,[],abQ hu hF hx cf (by rw[hz,ho];exact Mr),R⟩
  ·exact u.elim
 ·exact u.elim
end
end Go.Proofs.Aw
namespace Go.Proofs.Aw
open Go
section
variable {P:Program} {n:Nat} {t:Tp} {h:Hp} {mu:Bool} {K:AV->Dl->Prop}
theorem Zm {ty:TypeId} (hs:nv P ty=true):P.underlying ty=some .string:=by
 unfold nv at hs
 split at hs
 ·assumption
 ·cases hs
theorem abY {ty:TypeId} {x i:Operand} {k:IntKind} {j:Int} {s:ByteArray} {b:UInt8} (hu:P.underlying ty=some .string) (hx:ev t x = .sc (.string s)) (hi:ev t i = .sc (.int k j)) (h0:0<=j) (hb:s[j.toNat]? = some b) :
  Yields P n (.index ty x i) t h (.sc (.int .u8 b.toNat)) [] :=
 Yields.pure fun C a op ho W ht=>by
  have hp:=b0 ht x
  have hq:=b0 ht i
  rw[hx]at hp
  rw[hi]at hq
  simp only[aj]at hp hq
  refine⟨.int .u8 b.toNat,?_,by simp only[aj]⟩
  unfold execOp
  rw[ho]
  simp only[hp,hq,Instr.index,Sem.run_bind,CM,run_underlying hu,Result.andThen_ok,h0,if_true,hb,Sem.run_pure]
theorem abw {ty:TypeId} {x i:Operand} (u:ya P ty (ev t x) (ev t i) fun v=>K v []):lN P n (.index ty x i) t h K:=by
 unfold ya at u
 split at u
 ·rename_i k j hi
  split at u
  ·rename_i cs hx
   split at u
   ·rename_i len z ha
    obtain⟨e,hu,G,h0⟩:=JC ha
    obtain⟨Mb,Br,hr⟩:=u
    obtain⟨ah,v,hb,Mr,R⟩:=yZ hr
    have cf:eT P e=some ah:=by
     unfold rU at hb
     rw[hu]at hb
     exact hb
    exact⟨v,[],abX hu h0 hx hi Mb Br cf (by rw[G];exact Mr),R⟩
   ·exact u.elim
  ·rename_i s hx
   obtain⟨hs,Mb,u⟩:=u
   split at u
   ·rename_i b hb
    exact⟨_,_,abY (Zm hs) hx hi Mb hb,u⟩
   ·exact u.elim
  ·exact u.elim
 ·exact u.elim
theorem abA {ty:TypeId} {x:Operand} {lo hi mx:Option Operand} (u:oN P h ty (ev t x) (lo.map (ev t)) (hi.map (ev t)) (mx.map (ev t)) fun v=>K v []):lN P n (.slice ty x lo hi mx) t h K:=by
 unfold oN at u
 split at u
 ·rename_i z D full hx
  split at u
  ·rename_i e z' hs
   obtain⟨hu,G,h0⟩:=lI hs
   obtain⟨rfl,u⟩:=u
   cases mx with
   | none =>
    simp only[Option.map_none]at u
    obtain⟨l,M,u⟩:=jq u
    obtain⟨W,lg,A,E,u⟩:=jq u
    exact⟨_,_,acg hu G h0 hx M lg A E,u⟩
   | some m =>
    simp only[Option.map_some]at u
    obtain⟨l,M,u⟩:=jq u
    cases hi with
    | none=>exact u.elim
    | some hi =>
     simp only[Option.map_some]at u
     obtain⟨W,lg,u⟩:=jq u
     obtain⟨s8,u6,A,E,h3,u⟩:=jq u
     exact⟨_,_,ach hu G h0 hx M lg u6 A E h3,u⟩
  ·exact u.elim
 ·rename_i m z off len own hx
  split at u
  ·rename_i e z' hs
   obtain⟨hu,G,h0⟩:=lI hs
   obtain⟨rfl,hm,u⟩:=u
   cases mx with
   | some mx =>
    simp only[Option.map_some]at u
    obtain⟨l,M,u⟩:=jq u
    cases hi with
    | none=>exact u.elim
    | some hi =>
     simp only[Option.map_some]at u
     obtain⟨W,lg,u⟩:=jq u
     obtain⟨s8,u6,A,E,h3,aM⟩:=jq u
     rw[A]at lg
     rw[E]at u6
     exact⟨_,_,ace hu G h0 hx hm M lg u6 h3,aM⟩
   | none =>
    simp only[Option.map_none]at u
    obtain⟨l,M,u⟩:=jq u
    obtain⟨W,lg,A,E,u⟩:=jq u
    exact⟨_,_,aci hu G h0 hx hm M lg A E,u⟩
  ·exact u.elim
 ·rename_i m off hx
  split at u
  ·rename_i len z ha
   obtain⟨e,hu,G,h0⟩:=D7 ha
   obtain⟨hm,i6,u⟩:=u
   cases mx with
   | some m=>cases i6
   | none =>
    obtain⟨l,M,u⟩:=jq u
    obtain⟨W,lg,A,E,u⟩:=jq u
    exact⟨_,_,acd hu G h0 hx hm M lg A E,u⟩
  ·exact u.elim
 ·rename_i s hx
  obtain⟨hs,i6,u⟩:=u
  cases mx with
  | some m=>cases i6
  | none =>
   obtain⟨l,M,u⟩:=jq u
   obtain⟨W,lg,A,E,u⟩:=jq u
   exact⟨_,_,acj (Zm hs) hx M lg A E,u⟩
 ·rename_i hx
  split at u
  ·rename_i _ TR hs
   obtain⟨hu,G,h0⟩:=lI hs
   obtain⟨i6,u⟩:=u
   cases mx with
   | some m=>cases i6
   | none =>
    obtain⟨l,M,u⟩:=jq u
    obtain⟨W,lg,rfl,rfl,u⟩:=jq u
    exact⟨_,_,acf hu G h0 hx M lg,u⟩
  ·exact u.elim
 ·exact u.elim
theorem abr {ty:TypeId} {len:Nat} {ps:Array (Nat×Operand)} (u:z8 P n mu ty len (ps.toList.map fun p=>(p.1,ev t p.2)) K):lN P n (.buildSlice ty len ps) t h K:=by
 unfold z8 at u
 split at u
 ·rename_i e z hs
  obtain⟨hz,m9,M,hd,u⟩:=u
  obtain⟨zc,jw,jx⟩:=Option.map_eq_some_iff.1 hz
  have bX:ps.size=len:=by simpa using M
  cases mu with
  | false=>exact⟨_,_,ack hs jw jx (by omega) bX hd,u⟩
  | true=>exact⟨_,_,acm hs jw jx (by omega) bX hd,u⟩
 ·exact u.elim
theorem abz {ty:TypeId} {l c:Operand} (u:match sZ P n ty (ev t l) (ev t c)with | some r=>K r.1 r.2 | none=>False):lN P n (.makeSlice ty l c) t h K:=by
 cases G:sZ P n ty (ev t l) (ev t c)with
 | none=>rw[G]at u;exact u.elim
 | some r =>
  rw[G]at u
  unfold sZ at G
  split at G
  ·rename_i e z k a k' b hs M H
   split at G
   ·rename_i zc hz
    split at G
    ·rename_i W
     obtain⟨A,E,h3,h4,h5⟩:=W
     cases G
     obtain⟨m,rfl⟩:∃m:Nat,a=m:=⟨a.toNat,by omega⟩
     subst h3
     exact⟨_,_,ab3 hs hz A M H (by simpa using h4) (by omega),u⟩
    ·cases G
   ·cases G
  ·cases G
theorem abq {c:Call} {ty xt:TypeId} {s x:Operand} (hb:c.callee = .builtin .append) (i9:c.argTypes = #[ty,xt]) (ha:c.args = #[s,x]) (u:zX P n h mu ty xt (ev t s) (ev t x) K):lN P n (.call c) t h K:=by
 unfold zX at u
 split at u
 ·rename_i e z hs
  obtain⟨hx,hz,u⟩:=u
  split at u
  ·rename_i fs hf
   split at u
   ·rename_i m z' off len own m_
    obtain⟨rfl,rfl,u⟩:=u
    split at u
    ·rename_i cs Z
     obtain⟨mb,A,Fk,i6,u⟩:=u
     exact⟨_,_,abE hb i9 ha m_ Z mb hf A ⟨hs,hx,hz,Fk,i6⟩,u⟩
    ·exact u.elim
   ·split at u
    ·rename_i D G
     obtain⟨Fk,i6,u⟩:=u
     cases mu with
     | false=>exact⟨_,_,abF hb i9 ha G hf ⟨hs,hx,hz,Fk,i6⟩,u⟩
     | true=>exact⟨_,_,abD hb i9 ha G hf ⟨hs,hx,hz,Fk,i6⟩ u.1,u.2⟩
    ·exact u.elim
  ·exact u.elim
 ·exact u.elim
theorem ug {x:Option AV} {op:Op} (hy:∀v,x=some v->Yields P n op t h v []) (u:jH x fun v=>K v []):lN P n op t h K:=by
 unfold jH at u
 split at u
 ·rename_i v
  exact⟨v,[],hy v rfl,u⟩
 ·exact u.elim
theorem Gc {ao:Type} {l:Array ao} {a b:ao} (h:l.toList=[a,b]):l = #[a,b]:=by apply Array.ext';rw[h]
theorem abt {c:Call} {b:Builtin} (hb:c.callee = .builtin b) (u:o6 P n mu b h c.argTypes.toList (c.args.toList.map (ev t)) K):lN P n (.call c) t h K:=by
 unfold o6 at u
 split at u
 ·rename_i ty gH X Xs A E
  split at u
  ·rename_i m hm
   cases ha:c.args.toList with
   | nil=>rw[ha]at E;cases E
   | cons x xs =>
    rw[ha]at E
    simp only[List.map_cons,List.cons.injEq]at E
    have e1:c.argTypes[0]? = some ty:=by rw[<-Array.getElem?_toList,A];rfl
    have e2:c.args[0]? = some x:=by rw[<-Array.getElem?_toList,ha];rfl
    exact⟨_,_,abZ hb e1 e2 (by rw[E.1];exact hm),u⟩
  ·exact u.elim
 ·rename_i X Xs E
  exact ug (fun v R=>ab4 hb E R) u
 ·rename_i X Xs E
  exact ug (fun v R=>ab5 hb E R) u
 ·rename_i ty xt S X A E
  match ha:c.args.toList with
  | []=>rw[ha]at E;cases E
  | [s]=>rw[ha]at E;cases E
  | [s,x] =>
   rw[ha]at E
   simp only[List.map_cons,List.map_nil,List.cons.injEq,and_true]at E
   obtain⟨rfl,rfl⟩:=E
   exact abq hb (Gc A) (Gc ha) u
  | _::_::_::_=>rw[ha]at E;cases E
 ·rename_i ty xt S X A E
  match ha:c.args.toList with
  | []=>rw[ha]at E;cases E
  | [s]=>rw[ha]at E;cases E
  | [s,x] =>
   rw[ha]at E
   simp only[List.map_cons,List.map_nil,List.cons.injEq,and_true]at E
   obtain⟨rfl,rfl⟩:=E
   split at u
   ·rename_i r d G
    exact⟨r,d,abN hb (Gc A) (Gc ha) G,u⟩
   ·exact u.elim
  | _::_::_::_=>rw[ha]at E;cases E
 ·exact ug (fun v R=>abO hb rfl R) u
theorem Qd:∀{op:Op},jL P n mu op t h K->lN P n op t h K:=by
 intro op u
 cases op<;>simp only[jL]at u
 case move x=>exact⟨_,_,ab6 x,u⟩
 case assign x=>exact⟨_,_,abG x,u⟩
 case pick c a b =>
  unfold Cu at u
  split at u
  ·rename_i p H
   refine⟨_,_,acb H,?_⟩
   cases p with
   | true=>exact u.1 rfl
   | false=>exact u.2 rfl
  ·exact u.elim
 case alloc e =>
  split at u
  ·rename_i cs hz
   exact⟨_,_,abC hz,u⟩
  ·exact u.elim
 case box e x=>exact⟨_,_,abJ u.1,u.2⟩
 case load ty x=>exact aby u
 case store ty x y=>exact abB u
 case nilCheck x =>
  unfold Oo at u
  split at u
  ·rename_i m off hx
   exact⟨_,_,ab9 hx u.1,u.2⟩
  ·rename_i cs off hx
   exact⟨_,_,ab8 hx,u⟩
  ·rename_i f xs ys hx
   exact⟨_,_,ab7 hx,u⟩
  ·exact u.elim
 case indexAddr ty x i=>exact abx u
 case fieldAddr ty x f=>exact abv u
 case field ty x f=>exact abu u
 case index ty x i=>exact abw u
 case slice ty x lo hi mx=>exact abA u
 case binOp op ty x y ty'=>exact ug (fun v R=>abI R) u
 case unOp op ty x=>exact ug (fun v R=>aco R) u
 case convert src dst x=>exact ug (fun v R=>abM u.1 R) u.2
 case extract x i =>
  split at u
  ·rename_i vs hx
   exact ug (fun v R=>abP hx R) u
  ·exact u.elim
 case makeFunc f xs ys=>exact⟨_,_,ab2,u⟩
 case build ty ps =>
  split at u
  ·rename_i cs hz
   split at u
   ·rename_i bn hf
    exact⟨_,_,abK hz hf u.1,u.2⟩
   ·exact u.elim
  ·exact u.elim
 case buildSlice ty len ps=>exact abr u
 case makeSlice ty l c=>exact abz u
 case call c =>
  split at u
  ·rename_i b hb
   exact abt hb u
  ·rename_i x hx
   split at u
   ·rename_i f xs ys hf
    obtain⟨r,d,hb,qz,u⟩:=u
    exact⟨r,d,abL hx hf hb qz,u⟩
   ·exact u.elim
  ·exact u.elim
end
end Go.Proofs.Aw
namespace Go.Proofs.Aw
open Go
structure St where
 t:Tp
 h:Hp
 nx:Nat
structure Env where
 N:Nat
 w0:World
 wr:Nat->Prop
 N5:Nat->Prop
 c0:Ctx
structure mH (ac:Env) (C:Ctx):Prop where
 os:C.w.os=ac.w0.os
 tape:C.w.tape=ac.w0.tape
 output:C.w.output=ac.w0.output
 size:ac.w0.heap.size<=C.w.heap.size
 same:∀b,b<ac.w0.heap.size->¬ac.wr b->C.w.heap[b]? = ac.w0.heap[b]?
 mt:∀b,b<ac.w0.heap.size->(C.mt b↔ac.N5 b)
 wr:∀n,C.live n->C.ρ n<ac.w0.heap.size->ac.wr (C.ρ n)
 le:ac.c0.le C
theorem mH.step {ac:Env} {C C':Ctx} {n:Nat} {h:Hp} {r:AV} {d:Dl} {Y:Value} (hf:mH ac C) (hp:cZ C n h r d Y C'):mH ac C' where
 os:=hp.os.trans hf.os
 tape:=hp.tape.trans hf.tape
 output:=hp.output.trans hf.output
 size:=Nat.le_trans hf.size hp.le.size
 same b hb hw:=(hp.same b (Nat.lt_of_lt_of_le hb hf.size) (fun m _ M e=>hw (by rw[e];exact hf.wr m M (by rw[<-e];exact hb)))).trans (hf.same b hb hw)
 mt b hb:=(hp.mt b (Nat.lt_of_lt_of_le hb hf.size)).trans (hf.mt b hb)
 wr m M hb:=by
  rcases hp.lA m M with⟨A,E⟩ | A | ⟨m0,_,A,E⟩
  ·rw[E]at hb ⊢;exact hf.wr m A hb
  ·have:=hf.size;omega
  ·rw[E]at hb ⊢;exact hf.wr m0 A hb
 le:=hf.le.trans hp.le
structure ue (ac:Env) (V:St) (a:Act) (C:Ctx):Prop where
 heap:cY C V.h
 t:fY C V.t a
 size:a.tmps.size=ac.N
 defers:a.defers=[]
 kn:∀m,C.kn m->m.1<V.nx
 frame:mH ac C
def Rel (ac:Env) (V:St) (a:Act) (w:World):Prop:=∃C,C.w=w/\ue ac V a C
theorem fY.put {C:Ctx} {t:Tp} {a:Act} {d:Option Tmp} {v:AV} {Y:Value} (ht:fY C t a) (R:aj C v Y) (hd:∀i,d=some i->i<a.tmps.size):fY C (gG d v t) (a.put d Y):=by
 intro i
 cases d with
 | none=>exact ht i
 | some j =>
  simp only[gG,bR,Act.put]
  by_cases hG:j=i
  ·subst hG
   rw[if_pos rfl]
   have O:=hd j rfl
   have:(a.tmps.setIfInBounds j Y).getD j undef=Y:=by simp[Array.getD,O]
   rw[this];exact R
  ·rw[if_neg hG]
   have:(a.tmps.setIfInBounds j Y).getD i undef=a.tmps.getD i undef:=by
    simp[Array.getD_eq_getD_getElem?,Array.getElem?_setIfInBounds_ne hG]
   rw[this];exact ht i
theorem yU (a:Act) (d:Option Tmp) (Y:Value):(a.put d Y).tmps.size=a.tmps.size:=by cases d<;>simp[Act.put]
theorem put_defers (a:Act) (d:Option Tmp) (Y:Value):(a.put d Y).defers=a.defers:=by cases d<;>rfl
theorem ue.step {ac:Env} {V:St} {a:Act} {C C':Ctx} {r:AV} {d:Dl} {Y:Value} {dst:Option Tmp} (h:ue ac V a C) (hp:cZ C V.nx V.h r d Y C') (hd:∀i,dst=some i->i<ac.N) :
  ue ac ⟨gG dst r V.t,aD d V.h,V.nx+1⟩ (a.put dst Y) C' where
 heap:=hp.heap
 t:=fY.put (h.t.mono hp.le) hp.val (fun i hi=>by rw[h.size];exact hd i hi)
 size:=by rw[yU];exact h.size
 defers:=by rw[put_defers];exact h.defers
 kn m hm:=by
  rcases(hp.kn m).1 hm with A | A
  ·exact Nat.lt_succ_of_lt (h.kn m A)
  ·simp only;omega
 frame:=h.frame.step hp
theorem ue.skip {ac:Env} {V:St} {a:Act} {C:Ctx} {dst:Option Tmp} (h:ue ac V a C) (hd:∀i,dst=some i->i<ac.N):ue ac ⟨gG dst (.sc undef) V.t,V.h,V.nx⟩ (a.put dst undef) C where
 heap:=h.heap
 t:=fY.put h.t (by simp only[aj]) (fun i hi=>by rw[h.size];exact hd i hi)
 size:=by rw[yU];exact h.size
 defers:=by rw[put_defers];exact h.defers
 kn m hm:=h.kn m hm
 frame:=h.frame
def yv (ops:List Oper) (t:Tp) (j:Nat):AV :=
 match(ops[j]?).bind (·.dst)with
 | some d=>bR t d
 | none => .top
def Fa (v:AV) (want:Bool) (ab ad:Prop):Prop :=
 match v with
 | .sc (.bool b)=>(b=want->ab)/\(b = !want->ad)
 | .sc (.tuple _)=>ad
 | _=>False
def nI (P:Program) (ms:List Nat) (ops:List Oper):List Oper->(St->Prop)->St->Prop
 | [],K,V=>K V
 | o::l,K,V =>
  match o.guard with
  | none=>jL P V.nx (o.dst.any ms.contains) o.op V.t V.h fun r d=>nI P ms ops l K ⟨gG o.dst r V.t,aD d V.h,V.nx+1⟩
  | some (j,want)=>Fa (yv ops V.t j) want
    (jL P V.nx (o.dst.any ms.contains) o.op V.t V.h fun r d=>nI P ms ops l K ⟨gG o.dst r V.t,aD d V.h,V.nx+1⟩)
    (nI P ms ops l K ⟨gG o.dst (.sc undef) V.t,V.h,V.nx⟩)
def fits (N:Nat) (ops:List Oper):Bool:=ops.all fun o=>match o.dst with | some d=>Nat.blt d N | none=>true
theorem T0 {N:Nat} {o:Oper} {l:List Oper} (h:fits N (o::l)=true):(∀i,o.dst=some i->i<N)/\fits N l=true:=by
 simp only[fits,List.all_cons,Bool.and_eq_true]at h
 refine⟨fun i hi => ?_,h.2⟩
 have:=h.1
 rw[hi]at this
 simpa [Nat.blt_eq]using this
theorem Rc {C:Ctx} {t:Tp} {a:Act} (ht:fY C t a) (ops:List Oper) (j:Nat):(∀b,yv ops t j = .sc (.bool b)->yielded ops.toArray a.tmps j=some b)/\(∀x,yv ops t j = .sc (.tuple x)->yielded ops.toArray a.tmps j=none):=by
 unfold yv yielded
 have e:ops.toArray[j]? = ops[j]? := by simp
 rw[e]
 cases hd:(ops[j]?).bind (·.dst)with
 | none=>exact⟨fun b h=>(nomatch h),fun b h=>(nomatch h)⟩
 | some d =>
  have H:=ht d
  simp only[Option.bind_some]
  refine⟨fun b h => ?_,fun x h => ?_⟩
  ·rw[h]at H
   simp only[aj]at H
   cases Z:a.tmps[d]? with
   | none=>simp[Array.getD_eq_getD_getElem?,Z,undef]at H
   | some v =>
    have:v = .bool b:=by simpa [Array.getD_eq_getD_getElem?,Z]using H
    rw[this]
  ·rw[h]at H
   simp only[aj]at H
   cases Z:a.tmps[d]? with
   | none=>rfl
   | some v =>
    have:v = .tuple x:=by simpa [Array.getD_eq_getD_getElem?,Z]using H
    rw[this]
theorem Jb {P:Program} {ms:List Nat} {ac:Env} {ops:List Oper} {Q:Exit->Act->World->Prop} {K:St->Prop} (hK:∀V a w,K V->Rel ac V a w->Q .normal a w) :
  ∀(l:List Oper) (V:St) (a:Act) (w:World),fits ac.N l=true->nI P ms ops l K V->Rel ac V a w->wpList P ops.toArray Q l a w
 | [],V,a,w,_,h,hr=>hK V a w h hr
 | o::l,V,a,w,d7,h,hr=>by
  obtain⟨hd,Bn⟩:=T0 d7
  obtain⟨C,rfl,hC⟩:=hr
  have stepped:∀(u:jL P V.nx (o.dst.any ms.contains) o.op V.t V.h fun r d=>nI P ms ops l K ⟨gG o.dst r V.t,aD d V.h,V.nx+1⟩),Region.wanted o (yielded ops.toArray a.tmps)=true->wpList P ops.toArray Q (o::l) a C.w:=by
   intro u hw
   obtain⟨r,d,hy,hn⟩:=Qd u
   unfold wpList
   rw[if_pos hw]
   refine .inl (hy C a o _ _ rfl hC.heap hC.t (fun k bI=>absurd (hC.kn _ bI) (by simp)) fun Y C' hp => ?_)
   exact Jb hK l _ _ _ Bn hn ⟨C',rfl,hC.step hp hd⟩
  have skipped:nI P ms ops l K ⟨gG o.dst (.sc undef) V.t,V.h,V.nx⟩->Region.wanted o (yielded ops.toArray a.tmps)=false->wpList P ops.toArray Q (o::l) a C.w:=by
   intro u hw
   unfold wpList
   rw[if_neg (by rw[hw];simp)]
   exact Jb hK l _ _ _ Bn u ⟨C,rfl,hC.skip hd⟩
  unfold nI at h
  cases Z:o.guard with
  | none =>
   rw[Z]at h
   exact stepped h (by simp[Region.wanted,Z])
  | some pm =>
   obtain⟨j,want⟩:=pm
   rw[Z]at h
   obtain⟨y1,y2⟩:=Rc hC.t ops j
   simp only at h
   unfold Fa at h
   split at h
   ·rename_i b hb
    have hy:=y1 b hb
    by_cases uV:b=want
    ·exact stepped (h.1 uV) (by simp[Region.wanted,Z,hy,uV])
    ·exact skipped (h.2 (by cases b<;>cases want<;>simp_all)) (by simp[Region.wanted,Z,hy,uV])
   ·rename_i x hx
    have hy:=y2 x hx
    exact skipped h (by simp[Region.wanted,Z,hy])
   ·exact h.elim
def AW (P:Program) (ac:Env) (c:Code) (Q:Exit->St->Prop) (V:St):Prop :=
 ∀a w,Rel ac V a w->c.wp P (fun e bz w'=>∃aK,Rel ac aK bz w'/\Q e aK) a w
def DQ (next:St->Prop) (Q:Exit->St->Prop):Exit->St->Prop
 | .normal,V=>next V
 | e,V=>Q e V
def Je (id:Nat) (Q:Exit->St->Prop):Exit->St->Prop
 | .exit j,V=>if j=id then Q .normal V else Q (.exit j) V
 | e,V=>Q e V
def dF (ac:Env) (V aK:St):Prop:=∀a w,Rel ac V a w->Rel ac aK a w
section
variable {P:Program} {ac:Env} {Q:Exit->St->Prop} {V:St}
theorem p_ {c:Code} {aK:St} (hi:dF ac V aK) (h:AW P ac c Q aK):AW P ac c Q V:=fun a w hr=>h a w (hi a w hr)
theorem dE {c:Code} {Q':Exit->St->Prop} (hq:∀e V,Q e V->Q' e V) (h:AW P ac c Q V):AW P ac c Q' V:=fun a w hr=>Code.wp_mono (fun _ _ _ ⟨aK,A,E⟩=>⟨aK,A,hq _ _ E⟩) (h a w hr)
theorem oZ {x y:Code} (h:∀K:St->Prop,(∀V,AW P ac y Q V->K V)->AW P ac x (DQ K Q) V):AW P ac (.seq x y) Q V:=fun a w hr =>
 wp_seq (Code.wp_mono (fun e bz w' ⟨aK,A,E⟩=>by
  cases e with
  | normal=>exact E bz w' A
  | _=>exact⟨aK,A,E⟩) (h _ (fun _ W=>W) a w hr))
theorem Ja (h:Q .normal V):AW P ac .skip Q V:=fun _ _ hr=>wp_skip ⟨V,hr,h⟩
theorem aba {l:Nat} (h:Q .normal V):AW P ac (.label l) Q V:=fun _ _ hr=>wp_label ⟨V,hr,h⟩
theorem DK (h:Q .ret V):AW P ac .ret Q V:=fun _ _ hr=>wp_ret ⟨V,hr,h⟩
theorem aa9 {id:Nat} (h:Q (.exit id) V):AW P ac (.exit id) Q V:=fun _ _ hr=>wp_exit ⟨V,hr,h⟩
theorem aa5 {id:Nat} {c:Code} (h:AW P ac c (Je id Q) V):AW P ac (.block id c) Q V:=fun a w hr =>
 wp_block (Code.wp_mono (fun e bz w' ⟨aK,A,E⟩=>by
  cases e with
  | exit j =>
   simp only[Je]at E
   simp only[Exit.inBlock]
   split
   ·rename_i O;rw[if_pos O]at E;exact⟨aK,A,E⟩
   ·rename_i O;rw[if_neg O]at E;exact⟨aK,A,E⟩
  | _=>exact⟨aK,A,E⟩) (h a w hr))
theorem DJ {c:Operand} {x y:Code} {b:Bool} (H:ev V.t c = .sc (.bool b)) (A:b=true->AW P ac x Q V) (E:b=false->AW P ac y Q V):AW P ac (.cond c x y) Q V:=fun a w hr=>by
 obtain⟨C,rfl,hC⟩:=hr
 have G:=b0 hC.t c
 rw[H]at G
 simp only[aj]at G
 refine wp_cond G ?_
 cases b with
 | true=>exact A rfl a _ ⟨C,rfl,hC⟩
 | false=>exact E rfl a _ ⟨C,rfl,hC⟩
theorem aa7 {c:Operand} {x y:Code} (H:ev V.t c = .sc (.bool true)) (h:AW P ac x Q V):AW P ac (.cond c x y) Q V:=DJ H (fun _=>h) (fun e=>nomatch e)
theorem aa6 {c:Operand} {x y:Code} (H:ev V.t c = .sc (.bool false)) (h:AW P ac y Q V):AW P ac (.cond c x y) Q V:=DJ H (fun e=>nomatch e) (fun _=>h)
theorem abc {id:Nat} {ops:List Oper} (ms:List Nat) (hf:fits ac.N ops=true) (h:nI P ms ops ops (Q .normal) V):AW P ac (.region id ops.toArray false) Q V:=fun a w hr =>
 wp_region_lit (Jb (fun aK _ _ u mf=>⟨aK,mf,u⟩) ops V a w hf h hr)
def jM (P:Program) (ac:Env) (c:Code) (Q:Exit->St->Prop):Nat->St->Prop
 | 0,_=>False
 | n+1,V=>AW P ac c (DQ (jM P ac c Q n) Q) V
theorem aa4 {c:Code} {n:Nat} (h:AW P ac c (DQ (jM P ac c Q n) Q) V):jM P ac c Q (n+1) V:=h
theorem Ru {c:Code}:∀(n:Nat) (V:St) (a:Act) (w:World),jM P ac c Q n V->Rel ac V a w->Code.rounds P c (fun e bz w'=>∃aK,Rel ac aK bz w'/\Q e aK) n a w
 | 0,_,_,_,h,_=>h.elim
 | n+1,V,a,w,h,hr=>by
  rw[rounds_succ]
  refine Code.wp_mono (fun e bz w' ⟨aK,A,E⟩ => ?_) (h a w hr)
  cases e with
  | normal=>exact Ru n aK bz w' E A
  | _=>exact⟨aK,A,E⟩
theorem DL {c:Code} (n:Nat) (h:jM P ac c Q n V):AW P ac (.loop c) Q V:=fun a w hr=>wp_loop_rounds n (Ru n V a w h hr)
theorem Rw {c:Code} (aB:Nat->St->Prop) (k:Nat) (h0:∃aK,dF ac V aK/\aB k aK) (round:∀k V,aB k V->AW P ac c (DQ (fun aK=>∃k' wn,k'<k/\dF ac aK wn/\aB k' wn) Q) V):AW P ac (.loop c) Q V:=by
 have key:∀(n k:Nat),k<=n->∀V,aB k V->jM P ac c Q (n+1) V:=by
  intro n
  induction n with
  | zero =>
   intro k u V hI
   refine dE (fun e aK hq => ?_) (round k V hI)
   cases e with
   | normal=>obtain⟨k',_,aQ,_⟩:=hq;omega
   | _=>exact hq
  | succ n ih =>
   intro k u V hI
   refine dE (fun e aK hq => ?_) (round k V hI)
   cases e with
   | normal =>
    obtain⟨k',wn,aQ,hi,afy⟩:=hq
    exact p_ hi (ih k' (by omega) wn afy)
   | _=>exact hq
 obtain⟨aK,hi,hI⟩:=h0
 exact p_ hi (DL (k+1) (key k k (Nat.le_refl _) aK hI))
end
end Go.Proofs.Aw
namespace Go.Proofs.Aw
open Go
mutual
def b8 (p:Nm->Bool):AV->Bool
 | .top=>true
 | .sc _=>true
 | .agg cs=>a4 p cs
 | .tup vs=>a4 p vs
 | .ptr n _=>p n
 | .sl n _ _ _ _=>p n
 | .ip cs _=>a4 p cs
 | .ro _ D _=>cq p D
 | .fn _ xs ys=>a4 p xs&&a4 p ys
 | .ifc _ v=>b8 p v
def a4 (p:Nm->Bool):List AV->Bool
 | []=>true
 | v::vs=>b8 p v&&a4 p vs
def cq (p:Nm->Bool):List (List AV)->Bool
 | []=>true
 | e::D=>a4 p e&&cq p D
end
mutual
def aW (f:Nm->Nm):AV->AV
 | .top => .top
 | .sc v => .sc v
 | .agg cs => .agg (bu f cs)
 | .tup vs => .tup (bu f vs)
 | .ptr n off => .ptr (f n) off
 | .sl n z off len own => .sl (f n) z off len own
 | .ip cs off => .ip (bu f cs) off
 | .ro z D full => .ro z (dD f D) full
 | .fn g xs ys => .fn g (bu f xs) (bu f ys)
 | .ifc t v => .ifc t (aW f v)
def bu (f:Nm->Nm):List AV->List AV
 | []=>[]
 | v::vs=>aW f v::bu f vs
def dD (f:Nm->Nm):List (List AV)->List (List AV)
 | []=>[]
 | e::D=>bu f e::dD f D
end
theorem X1 (f:Nm->Nm):∀cs,(bu f cs).length=cs.length
 | []=>rfl
 | v::vs=>by simp[bu,X1 f vs]
theorem Po (f:Nm->Nm):∀D,(dD f D).length=D.length
 | []=>rfl
 | v::vs=>by simp[dD,Po f vs]
theorem y4 (f:Nm->Nm):∀(cs:List AV) (i:Nat) (c:AV),cs[i]? = some c->(bu f cs)[i]? = some (aW f c)
 | [],i,c,h=>by simp at h
 | v::vs,0,c,h=>by simp at h;simp[bu,h]
 | v::vs,i+1,c,h=>by simpa [bu]using y4 f vs i c (by simpa using h)
theorem pC {p:Nm->Bool}:∀{cs:List AV} {i:Nat} {c:AV},a4 p cs=true->cs[i]? = some c->b8 p c=true
 | [],i,c,_,h=>by simp at h
 | v::vs,0,c,hp,h=>by simp only[a4,Bool.and_eq_true]at hp;simp at h;rw[<-h];exact hp.1
 | v::vs,i+1,c,hp,h=>by simp only[a4,Bool.and_eq_true]at hp;exact pC hp.2 (by simpa using h)
structure Ctx.sub (C C':Ctx) (f:Nm->Nm) (p:Nm->Bool):Prop where
 w:C'.w=C.w
 mt:∀b,b<C.w.heap.size->C'.mt b->C.mt b
 kn:∀m,p m=true->C.kn (f m)->C'.kn m
 live:∀m,p m=true->C.kn (f m)->C'.live m->C.live (f m)/\C'.ρ m=C.ρ (f m)/\C'.bs m=C.bs (f m)
mutual
theorem aj.aW {C C':Ctx} {f:Nm->Nm} {p:Nm->Bool} (h:C.sub C' f p):∀(v:AV) (Y:Value),b8 p v=true->aj C (Aw.aW f v) Y->aj C' v Y
 | .top,_,_,_=>trivial
 | .sc _,_,_,hu=>hu
 | .agg cs,_,hp,⟨us,e,H⟩=>⟨us,e,aC.aW h cs _ hp H⟩
 | .tup cs,_,hp,⟨us,e,H⟩=>⟨us,e,aC.aW h cs _ hp H⟩
 | .ptr n off,_,hp,⟨R,u,hu⟩=>⟨R,h.kn n hp u,fun M=>by
   obtain⟨l,e,e'⟩:=h.live n hp u M
   rw[e,e'];exact hu l⟩
 | .sl n z off len own,_,hp,⟨R,u,hu⟩=>⟨R,h.kn n hp u,fun M=>by
   obtain⟨l,e,e'⟩:=h.live n hp u M
   obtain⟨cap,o,A,E,h3,h4⟩:=hu l
   refine⟨cap,o,by rw[e];exact A,E,by rw[e'];exact h3,fun ho => ?_⟩
   rw[e,e',h.w]
   exact h4 ho⟩
 | .ip cs off,_,hp,⟨a,A,E,h3,h4⟩=>⟨a,A,by rw[h.w];exact E,fun hm=>h3 (h.mt _ E hm),cT.aW h a 0 cs hp h4⟩
 | .ro z D full,Y,hp,H=>by
   obtain⟨ab,cap,A,E,h3,h4⟩:=hv.1 H
   rw[Po]at A E h3
   refine hv.2 ⟨ab,cap,A,E,h3,fun ay => ?_⟩
   obtain⟨a,h5,h6,h7,ul⟩:=h4 (by
    intro e;apply ay
    have:=Po f D
    rw[e]at this
    exact List.length_eq_zero_iff.1 this.symm)
   exact⟨a,h5,by rw[h.w];exact h6,fun hm=>h7 (h.mt _ h6 hm),dc.aW h a z 0 D hp ul⟩
 | .fn g xs ys,_,hp,⟨us,vs,e,hx,hy⟩=>by
   simp only[b8,Bool.and_eq_true]at hp
   exact⟨us,vs,e,aC.aW h xs _ hp.1 hx,aC.aW h ys _ hp.2 hy⟩
 | .ifc t v,_,hp,⟨x,e,hx⟩=>⟨x,e,aj.aW h v _ hp hx⟩
theorem aC.aW {C C':Ctx} {f:Nm->Nm} {p:Nm->Bool} (h:C.sub C' f p):∀(cs:List AV) (us:List Value),a4 p cs=true->aC C (bu f cs) us->aC C' cs us
 | [],_,_,hu=>hu
 | c::cs,_,hp,⟨Y,vs,e,H,M⟩=>by
   simp only[a4,Bool.and_eq_true]at hp
   exact⟨Y,vs,e,aj.aW h c Y hp.1 H,aC.aW h cs vs hp.2 M⟩
theorem cT.aW {C C':Ctx} {f:Nm->Nm} {p:Nm->Bool} (h:C.sub C' f p) (a:Addr):∀(i:Nat) (cs:List AV),a4 p cs=true->cT C a i (bu f cs)->cT C' a i cs
 | _,[],_,_=>trivial
 | i,c::cs,hp,⟨⟨Y,hu,H⟩,M⟩=>by
   simp only[a4,Bool.and_eq_true]at hp
   exact⟨⟨Y,by rw[h.w];exact hu,aj.aW h c Y hp.1 H⟩,cT.aW h a (i+1) cs hp.2 M⟩
theorem dc.aW {C C':Ctx} {f:Nm->Nm} {p:Nm->Bool} (h:C.sub C' f p) (a:Addr) (z:Nat):∀(i:Nat) (D:List (List AV)),cq p D=true->dc C a z i (dD f D)->dc C' a z i D
 | _,[],_,_=>trivial
 | i,e::D,hp,⟨hz,H,M⟩=>by
   simp only[cq,Bool.and_eq_true]at hp
   exact⟨by rw[<-X1 f e];exact hz,cT.aW h a _ e hp.1 H,dc.aW h a z (i+1) D hp.2 M⟩
end
mutual
theorem y5:∀(v:AV),aW id v=v
 | .top=>rfl
 | .sc _=>rfl
 | .agg cs=>by simp only[aW,pO cs]
 | .tup cs=>by simp only[aW,pO cs]
 | .ptr _ _=>rfl
 | .sl _ _ _ _ _=>rfl
 | .ip cs _=>by simp only[aW,pO cs]
 | .ro _ D _=>by simp only[aW,XY D]
 | .fn _ xs ys=>by simp only[aW,pO xs,pO ys]
 | .ifc _ v=>by simp only[aW,y5 v]
theorem pO:∀(cs:List AV),bu id cs=cs
 | []=>rfl
 | c::cs=>by simp only[bu,y5 c,pO cs]
theorem XY:∀(D:List (List AV)),dD id D=D
 | []=>rfl
 | e::D=>by simp only[dD,pO e,XY D]
end
mutual
theorem OA {p q:Nm->Bool} (h:∀m,p m=true->q m=true):∀(v:AV),b8 p v=true->b8 q v=true
 | .top,_=>rfl
 | .sc _,_=>rfl
 | .agg cs,hp=>pD h cs hp
 | .tup cs,hp=>pD h cs hp
 | .ptr n _,hp=>h n hp
 | .sl n _ _ _ _,hp=>h n hp
 | .ip cs _,hp=>pD h cs hp
 | .ro _ D _,hp=>Ox h D hp
 | .fn _ xs ys,hp=>by
   simp only[b8,Bool.and_eq_true]at hp ⊢
   exact⟨pD h xs hp.1,pD h ys hp.2⟩
 | .ifc _ v,hp=>OA h v hp
theorem pD {p q:Nm->Bool} (h:∀m,p m=true->q m=true):∀(cs:List AV),a4 p cs=true->a4 q cs=true
 | [],_=>rfl
 | c::cs,hp=>by
   simp only[a4,Bool.and_eq_true]at hp ⊢
   exact⟨OA h c hp.1,pD h cs hp.2⟩
theorem Ox {p q:Nm->Bool} (h:∀m,p m=true->q m=true):∀(D:List (List AV)),cq p D=true->cq q D=true
 | [],_=>rfl
 | e::D,hp=>by
   simp only[cq,Bool.and_eq_true]at hp ⊢
   exact⟨pD h e hp.1,Ox h D hp.2⟩
end
def gE:Nat->List AV->Tp
 | _,[]=>[]
 | i,v::vs=>(i,v)::gE (i+1) vs
def kK (P:Program) (V:St):List ResultVar->(List AV->Prop)->Prop
 | [],K=>K []
 | .tmp i::rs,K=>kK P V rs fun vs=>K (bR V.t i::vs)
 | .cell p ty::rs,K=>sX P V.h ty (bR V.t p) fun v=>kK P V rs fun vs=>K (v::vs)
def oneOf:List AV->AV
 | [v]=>v
 | vs => .tup vs
def DV (P:Program) (rs:List ResultVar) (r:AV) (e:Exit) (V:St):Prop:=(e = .ret\/e = .normal)/\kK P V rs fun vs=>oneOf vs=r
theorem are {P:Program} {C:Ctx} {h:Hp} (W:cY C h) {ty:TypeId} {x:AV} {Y:Value} {K:AV->Prop} (H:aj C x Y) (u:sX P h ty x K):∃a v r,Y = .pointer (some a)/\(loadVar ty a).run P C.w = .ok r C.w/\aj C v r/\K v:=by
 unfold sX at u
 split at u
 ·rename_i m off
  split at u
  ·rename_i cs Z
   obtain⟨ah,v,hb,hr,R⟩:=yZ u
   simp only[aj]at H
   have E:=H.2.2 (W.get Z)
   obtain⟨r,bD,n9⟩:=HZ (P:=P) (a:=⟨C.ρ m,C.bs m,none⟩) hb (yL (W.obj m cs Z)) hr
   rw[jS]at bD
   exact⟨_,v,r,E,bD,n9,R⟩
  ·exact u.elim
 ·rename_i cs off
  obtain⟨ah,v,hb,hr,R⟩:=yZ u
  simp only[aj]at H
  obtain⟨ez,E,_,_,mX⟩:=H
  obtain⟨r,bD,n9⟩:=HZ (P:=P) (a:=ez) hb (fun j c O=>by simpa using mX.get j c O) hr
  exact⟨_,v,r,E,bD,n9,R⟩
 ·exact u.elim
def y7 (tmps:Array Value):ResultVar->Sem Value
 | .tmp t=>pure (tmps.getD t undef)
 | .cell a t=>do loadVar t (<-asAddr (tmps.getD a undef))
theorem aq8 (P:Program) (a:Addr) (w:World):(asAddr (.pointer (some a))).run P w = .ok a w:=rfl
theorem PL {P:Program} {C:Ctx} {V:St} {tmps:Array Value} (W:cY C V.h) (ht:∀i,aj C (bR V.t i) (tmps.getD i undef)):∀(rs:List ResultVar) (K:List AV->Prop),kK P V rs K ->
  ∃vs us,(rs.mapM (y7 tmps)).run P C.w = .ok us C.w/\aC C vs us/\K vs
 | [],K,h=>⟨[],[],rfl,by simp only[aC],h⟩
 | .tmp i::rs,K,h=>by
  simp only[kK]at h
  obtain⟨vs,us,A,E,h3⟩:=PL W ht rs _ h
  refine⟨bR V.t i::vs,tmps.getD i undef::us,?_,by simp only[aC];exact⟨_,_,rfl,ht i,E⟩,h3⟩
  simp only[List.mapM_cons,Sem.run_bind,y7,Sem.run_pure,Result.andThen_ok,A]
 | .cell p ty::rs,K,h=>by
  simp only[kK]at h
  obtain⟨a,v,r,hu,bD,n9,u⟩:=are W (ht p) h
  obtain⟨vs,us,A,E,h3⟩:=PL W ht rs _ u
  refine⟨v::vs,r::us,?_,by simp only[aC];exact⟨_,_,rfl,n9,E⟩,h3⟩
  have e:(y7 tmps (.cell p ty)).run P C.w = .ok r C.w:=by
   simp only[y7,Sem.run_bind,hu,aq8,Result.andThen_ok,bD]
  simp only[List.mapM_cons,Sem.run_bind,e,Result.andThen_ok,A,Sem.run_pure]
theorem aqu (fn:Func) (tmps:Array Value):results fn tmps=(do
  let vs <-fn.results.mapM (y7 tmps)
  pure (if h:vs.size=1 then vs[0]else .tuple vs)):=by
 unfold results
 congr 1
theorem YJ {P:Program} {C:Ctx} {V:St} {a:Act} {fn:Func} (W:cY C V.h) (ht:fY C V.t a) {K:List AV->Prop} (u:kK P V fn.results.toList K):∃vs Y,(results fn a.tmps).run P C.w = .ok Y C.w/\aj C (oneOf vs) Y/\K vs:=by
 obtain⟨vs,us,A,E,h3⟩:=PL W ht fn.results.toList K u
 refine⟨vs,if h:us.toArray.size=1 then us.toArray[0]else .tuple us.toArray,?_,?_,h3⟩
 ·rw[aqu,Array.mapM_eq_mapM_toList]
  have e:(List.toArray <$> fn.results.toList.mapM (y7 a.tmps):Sem (Array Value)).run P C.w = .ok us.toArray C.w:=by
   rw[map_eq_pure_bind]
   simp only[Sem.run_bind,A,Sem.run_pure,Result.andThen_ok]
  simp only[Sem.run_bind,e,Sem.run_pure,Result.andThen_ok]
 ·have M:=E.length
  match vs,us,M,E with
  | [],[],_,_=>simp only[oneOf,List.size_toArray,List.length_nil,Nat.zero_ne_one,dite_false,aj];exact⟨_,rfl,by simp only[aC]⟩
  | [v],[Y],_,E =>
   simp only[aC]at E
   obtain⟨u',ch,e,H,_⟩:=E
   simp only[List.cons.injEq]at e
   simp only[oneOf,List.size_toArray,List.length_singleton,dite_true]
   rw[e.1];exact H
  | v::v'::vs,Y::u'::us,_,E =>
   have:¬(Y::u'::us).toArray.size=1:=by simp
   simp only[oneOf,this,dite_false,aj]
   exact⟨_,rfl,E⟩
end Go.Proofs.Aw
