/- Parts of the logic that the proof runs in, one behind the other. -/
import Derived.WalkKit
import Derived.Orders
import Derived.Laws.Pointers
import Derived.Lib.LazyBuf
import Derived.Great.BuildSlice
import Derived.Laws.MakeOwn
import Derived.LoopN
namespace Go.Proofs.Aw
open Go
abbrev Nm:=Nat×Nat
inductive AV where
 | top
 | sc (v:Value)
 | agg (cs:List AV)
 | tup (vs:List AV)
 | ptr (n:Nm) (off:Nat)
 | sl (n:Nm) (z off len:Nat) (own:Bool)
 | ip (cs:List AV) (off:Nat)
 | ro (z:Nat) (D:List (List AV)) (full:Bool)
 | fn (f:Fn) (first cap:List AV)
 | ifc (t:TypeId) (v:AV)
structure Ctx where
 ρ:Nm->Nat
 bs:Nm->Nat
 live:Nm->Prop
 kn:Nm->Prop
 mt:Nat->Prop
 w:World
mutual
def ak (C:Ctx):AV->Value->Prop
 | .top,_=>True
 | .sc v,Y=>Y=v
 | .agg cs,Y=>∃us,Y = .agg us/\aD C cs us.toList
 | .tup cs,Y=>∃us,Y = .tuple us/\aD C cs us.toList
 | .ptr n off,Y=>(∃p,Y = .pointer p)/\C.kn n/\(C.live n->Y = .pointer (some ⟨C.ρ n,C.bs n+off,none⟩))
 | .sl n z off len own,Y=>(∃ab l c,Y = .slice ab l c)/\C.kn n/\(C.live n->∃cap o,Y = .slice (some ⟨C.ρ n,o,none⟩) len cap/\len<=cap/\(o=C.bs n+off\/cap=0) /\
   (own=true->∃cs ty,C.w.heap[C.ρ n]? = some (.cells cs ty (0,0))/\C.bs n+off+cap*z<=cs.size))
 | .ip cs off,Y=>∃a:Addr,Y = .pointer (some (a.add off))/\a.block<C.w.heap.size/\¬C.mt a.block/\dC C a 0 cs
 | .ro z D full,Y=>∃ab cap,Y = .slice ab D.length cap/\D.length<=cap/\(full=true->cap=D.length) /\
   (D≠[]->∃a,ab=some a/\a.block<C.w.heap.size/\¬C.mt a.block/\dR C a z 0 D)
 | .fn f xs ys,Y=>∃us vs,Y = .func f us vs/\aD C xs us.toList/\aD C ys vs.toList
 | .ifc t v,Y=>∃x,Y = .iface t x/\ak C v x
def aD (C:Ctx):List AV->List Value->Prop
 | [],us=>us=[]
 | c::cs,us=>∃Y vs,us=Y::vs/\ak C c Y/\aD C cs vs
def dC (C:Ctx) (a:Addr):Nat->List AV->Prop
 | _,[]=>True
 | i,c::cs=>(∃Y,C.w.cell? (a.add i)=some Y/\ak C c Y)/\dC C a (i+1) cs
def dR (C:Ctx) (a:Addr) (z:Nat):Nat->List (List AV)->Prop
 | _,[]=>True
 | i,e::D=>e.length=z/\dC C a (i*z) e/\dR C a z (i+1) D
end
theorem block_add (a:Addr) (n:Nat):(a.add n).block=a.block:=by unfold Addr.add;split<;>rfl
theorem add_add (a:Addr) (i j:Nat):(a.add i).add j=a.add (i+j):=by
 unfold Addr.add
 by_cases hi:i=0<;>by_cases M:j=0<;>simp[hi,M,Nat.add_assoc]
theorem j_ (b o n:Nat):(⟨b,o,none⟩:Addr).add n=⟨b,o+n,none⟩:=by
 unfold Addr.add
 by_cases h:n=0<;>simp[h]
structure Ctx.le (C C':Ctx):Prop where
 size:C.w.heap.size<=C'.w.heap.size
 same:∀b,b<C.w.heap.size->¬C.mt b->C'.w.heap[b]? = C.w.heap[b]?
 mt:∀b,b<C.w.heap.size->C'.mt b->C.mt b
 kn:∀i,C.kn i->C'.kn i
 live:∀n,C.kn n->C'.live n->C.live n/\C'.ρ n=C.ρ n/\C'.bs n=C.bs n
 own:∀n,C.kn n->C'.live n->∀cs ty,C.w.heap[C.ρ n]? = some (.cells cs ty (0,0))->∃bi ty',C'.w.heap[C.ρ n]? = some (.cells bi ty' (0,0))/\bi.size=cs.size
theorem Ctx.le.refl (C:Ctx):C.le C:=⟨Nat.le_refl _,fun _ _ _=>rfl,fun _ _ h=>h,fun _ h=>h,fun _ _ h=>⟨h,rfl,rfl⟩,fun _ _ _ cs ty h=>⟨cs,ty,h,rfl⟩⟩
theorem Ctx.le.trans {ab ad C:Ctx} (h:ab.le ad) (k:ad.le C):ab.le C where
 size:=Nat.le_trans h.size k.size
 same b hb hm:=(k.same b (Nat.lt_of_lt_of_le hb h.size) (fun a1=>hm (h.mt b hb a1))).trans (h.same b hb hm)
 mt b hb hm:=h.mt b hb (k.mt b (Nat.lt_of_lt_of_le hb h.size) hm)
 kn i hi:=k.kn i (h.kn i hi)
 live n hn O:=by
  obtain⟨l1,e1,f1⟩:=k.live n (h.kn _ hn) O
  obtain⟨l2,e2,f2⟩:=h.live n hn l1
  exact⟨l2,e1.trans e2,f1.trans f2⟩
 own n hn O cs ty H:=by
  obtain⟨l1,e1,_⟩:=k.live n (h.kn _ hn) O
  obtain⟨cs1,zB,A,s1⟩:=h.own n hn l1 cs ty H
  have e2:=(h.live n hn l1).2.1
  obtain⟨cs2,ty2,E,s2⟩:=k.own n (h.kn _ hn) O cs1 zB (by rw[e2];exact A)
  exact⟨cs2,ty2,by rw[<-e2];exact E,s2.trans s1⟩
theorem Ctx.le.cell {C C':Ctx} (h:C.le C') {a:Addr} (hb:a.block<C.w.heap.size) (hm:¬C.mt a.block):C'.w.cell? a=C.w.cell? a :=
 World.cell?_of_block (h.same _ hb hm)
mutual
theorem ak.mono {C C':Ctx} (h:C.le C'):∀(v:AV) (Y:Value),ak C v Y->ak C' v Y
 | .top,_,_=>trivial
 | .sc _,_,hu=>hu
 | .agg cs,_,⟨us,e,H⟩=>⟨us,e,aD.mono h cs _ H⟩
 | .tup cs,_,⟨us,e,H⟩=>⟨us,e,aD.mono h cs _ H⟩
 | .ptr n _,_,⟨hp,u,hu⟩=>⟨hp,h.kn _ u,fun O=>by
   obtain⟨l,e,f⟩:=h.live n u O
   rw[e,f];exact hu l⟩
 | .sl n z off len own,_,⟨hp,u,hu⟩=>⟨hp,h.kn _ u,fun O=>by
   obtain⟨l,e,f⟩:=h.live n u O
   obtain⟨cap,o,hu1,a0,q',ho⟩:=hu l
   refine⟨cap,o,by rw[e];exact hu1,a0,by rw[f];exact q',fun x9 => ?_⟩
   obtain⟨cs,ty,H,hs⟩:=ho x9
   obtain⟨bi,ty',dH,cB⟩:=h.own n u O cs ty H
   exact⟨bi,ty',by rw[e];exact dH,by rw[cB,f];exact hs⟩⟩
 | .ip cs off,_,⟨a,hu,hb,hm,H⟩=>⟨a,hu,Nat.lt_of_lt_of_le hb h.size,fun a1=>hm (h.mt _ hb a1),dC.mono h a hb hm 0 cs H⟩
 | .ro z D full,_,⟨ab,cap,hu,a0,hf,F⟩=>⟨ab,cap,hu,a0,hf,fun ay=>by
   obtain⟨a,hA,hb,hm,H⟩:=F ay
   exact⟨a,hA,Nat.lt_of_lt_of_le hb h.size,fun a1=>hm (h.mt _ hb a1),dR.mono h a z hb hm 0 D H⟩⟩
 | .fn f xs ys,_,⟨us,vs,e,hx,hy⟩=>⟨us,vs,e,aD.mono h xs _ hx,aD.mono h ys _ hy⟩
 | .ifc t v,_,⟨x,e,hx⟩=>⟨x,e,ak.mono h v _ hx⟩
theorem aD.mono {C C':Ctx} (h:C.le C'):∀(cs:List AV) (us:List Value),aD C cs us->aD C' cs us
 | [],_,hu=>hu
 | c::cs,_,⟨Y,vs,e,H,O⟩=>⟨Y,vs,e,ak.mono h c Y H,aD.mono h cs vs O⟩
theorem dC.mono {C C':Ctx} (h:C.le C') (a:Addr) (hb:a.block<C.w.heap.size) (hm:¬C.mt a.block):∀(i:Nat) (cs:List AV),dC C a i cs->dC C' a i cs
 | _,[],_=>trivial
 | i,c::cs,⟨⟨Y,hu,H⟩,O⟩=>⟨⟨Y,by rw[h.cell (by rw[block_add];exact hb) (by rw[block_add];exact hm)];exact hu,ak.mono h c Y H⟩,dC.mono h a hb hm (i+1) cs O⟩
theorem dR.mono {C C':Ctx} (h:C.le C') (a:Addr) (z:Nat) (hb:a.block<C.w.heap.size) (hm:¬C.mt a.block):∀(i:Nat) (D:List (List AV)),dR C a z i D->dR C' a z i D
 | _,[],_=>trivial
 | i,e::D,⟨O,H,F⟩=>⟨O,dC.mono h a hb hm _ e H,dR.mono h a z hb hm (i+1) D F⟩
end
theorem aD.length {C:Ctx}:∀{cs:List AV} {us:List Value},aD C cs us->cs.length=us.length
 | [],_,h=>by simp only[aD]at h;subst h;rfl
 | c::cs,_,h=>by
  simp only[aD]at h
  obtain⟨Y,vs,rfl,_,O⟩:=h
  simp[aD.length O]
theorem aD.get {C:Ctx}:∀{cs:List AV} {us:List Value},aD C cs us->∀(i:Nat) (c:AV),cs[i]? = some c->∃Y,us[i]? = some Y/\ak C c Y
 | [],_,_,i,c,h=>by simp at h
 | d::cs,_,W,i,c,h=>by
  simp only[aD]at W
  obtain⟨Y,vs,rfl,H,O⟩:=W
  cases i with
  | zero=>simp at h;subst h;exact⟨Y,rfl,H⟩
  | succ i=>simpa using aD.get O i c (by simpa using h)
theorem aD.mk {C:Ctx}:∀{cs:List AV} {us:List Value},cs.length=us.length->(∀(i:Nat) (c:AV) (Y:Value),cs[i]? = some c->us[i]? = some Y->ak C c Y)->aD C cs us
 | [],us,O,_=>by
  simp only[aD]
  exact List.length_eq_zero_iff.1 O.symm
 | c::cs,[],O,_=>by simp at O
 | c::cs,Y::us,O,h=>by
  simp only[aD]
  exact⟨Y,us,rfl,h 0 c Y rfl rfl,aD.mk (by simpa using O) fun i dD u' A E=>h (i+1) dD u' (by simpa using A) (by simpa using E)⟩
theorem aD.take {C:Ctx} {cs:List AV} {us:List Value} (h:aD C cs us) (n:Nat):aD C (cs.take n) (us.take n) :=
 aD.mk (by simp[h.length]) fun i c Y A E=>by
  simp only[List.getElem?_take]at A E
  split at A
  ·rename_i hi
   simp only[hi,if_true]at E
   obtain⟨u',a3,H⟩:=h.get i c A
   rw[a3]at E;cases E;exact H
  ·cases A
theorem aD.drop {C:Ctx} {cs:List AV} {us:List Value} (h:aD C cs us) (n:Nat):aD C (cs.drop n) (us.drop n) :=
 aD.mk (by simp[h.length]) fun i c Y A E=>by
  simp only[List.getElem?_drop]at A E
  obtain⟨u',a3,H⟩:=h.get _ c A
  rw[a3]at E;cases E;exact H
theorem aD.append {C:Ctx}:∀{cs ds:List AV} {us vs:List Value},aD C cs us->aD C ds vs->aD C (cs++ds) (us++vs)
 | [],ds,us,vs,h,k=>by simp only[aD]at h;subst h;exact k
 | c::cs,ds,_,vs,h,k=>by
  simp only[aD]at h
  obtain⟨Y,us,rfl,H,O⟩:=h
  simp only[List.cons_append,aD]
  exact⟨Y,us++vs,rfl,H,aD.append O k⟩
theorem dC.get {C:Ctx} {a:Addr}:∀{i:Nat} {cs:List AV},dC C a i cs->∀(j:Nat) (c:AV),cs[j]? = some c->∃Y,C.w.cell? (a.add (i+j))=some Y/\ak C c Y
 | _,[],_,j,c,h=>by simp at h
 | i,d::cs,W,j,c,h=>by
  simp only[dC]at W
  obtain⟨⟨Y,hu,H⟩,O⟩:=W
  cases j with
  | zero=>simp at h;subst h;exact⟨Y,hu,H⟩
  | succ j =>
   have:=dC.get O j c (by simpa using h)
   rwa[show i+1+j=i+(j+1)from by omega]at this
theorem dC.mk {C:Ctx} {a:Addr}:∀{i:Nat} {cs:List AV},(∀(j:Nat) (c:AV),cs[j]? = some c->∃Y,C.w.cell? (a.add (i+j))=some Y/\ak C c Y)->dC C a i cs
 | _,[],_=>by simp only[dC]
 | i,d::cs,h=>by
  simp only[dC]
  refine⟨h 0 d rfl,dC.mk fun j c M => ?_⟩
  have:=h (j+1) c (by simpa using M)
  rwa[show i+(j+1)=i+1+j from by omega]at this
theorem dR.get {C:Ctx} {a:Addr} {z:Nat}:∀{i:Nat} {D:List (List AV)},dR C a z i D->∀(j:Nat) (e:List AV),D[j]? = some e->e.length=z/\dC C (a.add ((i+j)*z)) 0 e
 | _,[],_,j,c,h=>by simp at h
 | i,d::D,W,j,e,h=>by
  simp only[dR]at W
  obtain⟨hz,H,O⟩:=W
  cases j with
  | zero =>
   simp at h;subst h
   refine⟨hz,dC.mk fun j c M => ?_⟩
   obtain⟨Y,hu,a'⟩:=H.get j c M
   exact⟨Y,by rw[add_add];simpa using hu,a'⟩
  | succ j =>
   have:=dR.get O j e (by simpa using h)
   rwa[show i+1+j=i+(j+1)from by omega]at this
theorem dR.mk {C:Ctx} {a:Addr} {z:Nat}:∀{i:Nat} {D:List (List AV)},(∀(j:Nat) (e:List AV),D[j]? = some e->e.length=z/\dC C (a.add ((i+j)*z)) 0 e)->dR C a z i D
 | _,[],_=>by simp only[dR]
 | i,d::D,h=>by
  simp only[dR]
  obtain⟨A,E⟩:=h 0 d rfl
  refine⟨A,dC.mk fun j c M => ?_,dR.mk fun j e M => ?_⟩
  ·obtain⟨Y,hu,a'⟩:=E.get j c M
   rw[add_add]at hu
   exact⟨Y,by simpa using hu,a'⟩
  ·have:=h (j+1) e (by simpa using M)
   rwa[show i+(j+1)=i+1+j from by omega]at this
end Go.Proofs.Aw
namespace Go.Proofs.Aw
open Go
abbrev Tp:=List (Nat×AV)
abbrev Hp:=List (Nm×List AV)
abbrev Dl:=List (Nm×Option (List AV))
def bU:Tp->Nat->AV
 | [],_ => .top
 | (j,v)::l,i=>if j=i then v else bU l i
def ae:Hp->Nm->Option (List AV)
 | [],_=>none
 | (m,v)::l,n=>if m=n then some v else ae l n
def pz:Hp->Nm->Hp
 | [],_=>[]
 | (m,v)::l,n=>if m=n then pz l n else(m,v)::pz l n
def g9:Hp->Nm->List AV->Hp
 | [],n,v=>[(n,v)]
 | (m,Y)::l,n,v=>if m=n then(m,v)::l else(m,Y)::g9 l n v
def aE:Dl->Hp->Hp
 | [],h=>h
 | (n,some v)::d,h=>aE d (g9 h n v)
 | (n,none)::d,h=>aE d (pz h n)
def gP (d:Option Tmp) (v:AV) (t:Tp):Tp :=
 match d with
 | some d=>(d,v)::t
 | none=>t
def ev (t:Tp):Operand->AV
 | .tmp i=>bU t i
 | .const v => .sc v
 | .global g => .sc (.pointer (some ⟨g,0,none⟩))
 | .func f => .fn (.func f) [] []
theorem dO (h:Hp) (n m:Nm) (v:List AV):ae (g9 h n v) m=if n=m then some v else ae h m:=by
 induction h with
 | nil=>simp[g9,ae]
 | cons x l ih =>
  obtain⟨k,Y⟩:=x
  by_cases u:k=n
  ·subst u;by_cases hm:k=m<;>simp[g9,ae,hm]
  ·by_cases hm:k=m
   ·subst hm;simp[g9,ae,u,Ne.symm u]
   ·simp only[g9,u,if_false,ae,hm,ih]
theorem vm (h:Hp) (n m:Nm):ae (pz h n) m=if n=m then none else ae h m:=by
 induction h with
 | nil=>simp[pz,ae]
 | cons x l ih =>
  obtain⟨k,Y⟩:=x
  by_cases u:k=n
  ·subst u
   simp only[pz,if_true,ih,ae]
   by_cases hm:k=m<;>simp[hm]
  ·by_cases hm:k=m
   ·subst hm;simp[pz,ae,u,Ne.symm u]
   ·simp only[pz,u,if_false,ae,hm,ih]
theorem gC:∀(d:Dl) (h:Hp) (m:Nm),m∉d.map (·.1)->ae (aE d h) m=ae h m
 | [],_,_,_=>rfl
 | (n,some v)::d,h,m,hm=>by
  simp only[List.map_cons,List.mem_cons,not_or]at hm
  simp only[aE]
  rw[gC d _ m hm.2,dO,if_neg (Ne.symm hm.1)]
 | (n,none)::d,h,m,hm=>by
  simp only[List.map_cons,List.mem_cons,not_or]at hm
  simp only[aE]
  rw[gC d _ m hm.2,vm,if_neg (Ne.symm hm.1)]
def JG (C:Ctx) (b k:Nat) (cs:List AV):Prop :=
 ∃arr ty,C.w.heap[b]? = some (.cells arr ty (0,0))/\∀(j:Nat) (c:AV),cs[j]? = some c->∃Y,arr[k+j]? = some Y/\ak C c Y
structure c6 (C:Ctx) (h:Hp):Prop where
 live:∀n,C.live n↔(ae h n).isSome=true
 obj:∀n cs,ae h n=some cs->JG C (C.ρ n) (C.bs n) cs
 inj:∀n m,C.live n->C.live m->C.ρ n=C.ρ m->n=m
 mt:∀n,C.live n->C.mt (C.ρ n)
 kn:∀n,C.live n->C.kn n
def gb (C:Ctx) (t:Tp) (a:Act):Prop:=∀i,ak C (bU t i) (a.tmps.getD i undef)
theorem c6.lt {C:Ctx} {h:Hp} (W:c6 C h) {n:Nm} (O:C.live n):C.ρ n<C.w.heap.size:=by
 have A:=(W.live n).1 O
 obtain⟨cs,aI⟩:=Option.isSome_iff_exists.1 A
 obtain⟨arr,ty,ha,_⟩:=W.obj n cs aI
 rcases Nat.lt_or_ge (C.ρ n) C.w.heap.size with E | E
 ·exact E
 ·rw[Array.getElem?_eq_none E]at ha;cases ha
theorem c6.get {C:Ctx} {h:Hp} (W:c6 C h) {n:Nm} {cs:List AV} (Z:ae h n=some cs):C.live n:=(W.live n).2 (by rw[Z];rfl)
theorem gb.mono {C C':Ctx} {t:Tp} {a:Act} (h:C.le C') (ht:gb C t a):gb C' t a:=fun i=>ak.mono h _ _ (ht i)
theorem b4 {C:Ctx} {t:Tp} {a:Act} (ht:gb C t a) (x:Operand):ak C (ev t x) (a.eval x):=by
 cases x with
 | tmp i=>exact ht i
 | const v=>simp only[ev,ak,Act.eval]
 | global g=>simp only[ev,ak,Act.eval]
 | func f=>simp only[ev,ak,aD,Act.eval];exact⟨#[],#[],rfl,rfl,rfl⟩
structure c8 (C:Ctx) (n:Nat) (h:Hp) (r:AV) (d:Dl) (Y:Value) (C':Ctx):Prop where
 le:C.le C'
 kn:∀i,C'.kn i↔C.kn i\/i.1=n
 heap:c6 C' (aE d h)
 val:ak C' r Y
 same:∀b,b<C.w.heap.size->(∀m,m∈d.map (·.1)->C.live m->b≠C.ρ m)->C'.w.heap[b]? = C.w.heap[b]?
 mt:∀b,b<C.w.heap.size->(C'.mt b↔C.mt b)
 os:C'.w.os=C.w.os
 tape:C'.w.tape=C.w.tape
 output:C'.w.output=C.w.output
 lM:∀m,C'.live m->(C.live m/\C'.ρ m=C.ρ m)\/C.w.heap.size<=C'.ρ m\/∃m0,m0∈d.map (·.1)/\C.live m0/\C'.ρ m=C.ρ m0
 names:∀m,m∈d.map (·.1)->C.live m\/m.1=n
def Yields (P:Program) (n:Nat) (op:Op) (t:Tp) (h:Hp) (r:AV) (d:Dl):Prop :=
 ∀(C:Ctx) (a:Act) (o:Oper) (next:Act->World->Prop) (Q:Exit->Act->World->Prop),o.op=op->c6 C h->gb C t a->(∀k,¬C.kn (n,k)) ->
  (∀Y C',c8 C n h r d Y C'->next (a.put o.dst Y) C'.w)->o.wp P a C.w next Q
def Ctx.same (C:Ctx) (n:Nat) (w:World):Ctx:={ C with kn:=fun i=>C.kn i\/i.1=n,w:=w }
theorem Ctx.NF (C:Ctx) (n:Nat) {w:World} (hw:w.heap=C.w.heap):C.le (C.same n w) where
 size:=by simp[Ctx.same,hw]
 same b _ _:=by simp[Ctx.same,hw]
 mt _ _ h:=h
 kn _ h := .inl h
 live _ _ h:=⟨h,rfl,rfl⟩
 own n _ _ cs ty H:=⟨cs,ty,by simp[Ctx.same,hw,H],rfl⟩
theorem c6.mono {C C':Ctx} {h:Hp} (W:c6 C h) (le:C.le C') (O:∀n,C'.live n↔C.live n) (hb:∀n,C.live n->C'.w.heap[C.ρ n]? = C.w.heap[C.ρ n]?) (hm:∀b,C.mt b->b<C.w.heap.size->C'.mt b):c6 C' h where
 live n:=(O n).trans (W.live n)
 obj n cs Z:=by
  have dP:=W.get Z
  obtain⟨_,e,f⟩:=le.live n (W.kn n dP) ((O n).2 dP)
  obtain⟨arr,ty,ha,H⟩:=W.obj n cs Z
  refine⟨arr,ty,by rw[e,hb n dP];exact ha,fun j c M => ?_⟩
  obtain⟨Y,hu,a'⟩:=H j c M
  exact⟨Y,by rw[f];exact hu,a'.mono le⟩
 inj n m hn a1 F:=by
  have A:=(O n).1 hn
  have E:=(O m).1 a1
  rw[(le.live n (W.kn n A) hn).2.1,(le.live m (W.kn m E) a1).2.1]at F
  exact W.inj n m A E F
 mt n hn:=by
  have A:=(O n).1 hn
  rw[(le.live n (W.kn n A) hn).2.1]
  exact hm _ (W.mt n A) (W.lt A)
 kn n hn:=le.kn _ (W.kn n ((O n).1 hn))
theorem c8.pure {C:Ctx} {n:Nat} {h:Hp} {r:AV} {Y:Value} (W:c6 C h) (hr:ak C r Y) {w:World} (hw:w.heap=C.w.heap) (ho:w.os=C.w.os) (ht:w.tape=C.w.tape) (hu:w.output=C.w.output):c8 C n h r [] Y (C.same n w) where
 le:=C.NF n hw
 kn _:=Iff.rfl
 heap:=W.mono (C.NF n hw) (fun _=>Iff.rfl) (fun _ _=>by simp[Ctx.same,hw]) (fun _ hm _=>hm)
 val:=hr.mono (C.NF n hw)
 same b _ _:=by simp[Ctx.same,hw]
 mt _ _:=Iff.rfl
 os:=ho
 tape:=ht
 output:=hu
 lM m hm := .inl ⟨hm,rfl⟩
 names _ hm:=by simp at hm
def Ctx.iQ (C:Ctx) (n:Nat) (w:World):Ctx:={ C with kn:=fun i=>C.kn i\/i.1=n,mt:=fun b=>C.mt b/\b<C.w.heap.size,w:=w }
theorem Ctx.ND (C:Ctx) (n:Nat) {w:World} {o:Obj} (hw:w.heap=C.w.heap.push o):C.le (C.iQ n w) where
 size:=by simp[Ctx.iQ,hw]
 same b hb _:=by simp[Ctx.iQ,hw,Array.getElem?_push,Nat.ne_of_lt hb]
 mt _ _ h:=h.1
 kn _ h := .inl h
 live _ _ h:=⟨h,rfl,rfl⟩
 own n _ _ cs ty H:=⟨cs,ty,by
  have hb:C.ρ n<C.w.heap.size:=by
   rcases Nat.lt_or_ge (C.ρ n) C.w.heap.size with E | E
   ·exact E
   ·rw[Array.getElem?_eq_none E]at H;cases H
  simp[Ctx.iQ,hw,Array.getElem?_push,Nat.ne_of_lt hb,H],rfl⟩
theorem c8.iQ {C:Ctx} {n:Nat} {h:Hp} {r:AV} {Y:Value} (W:c6 C h) {w:World} {o:Obj} (hw:w.heap=C.w.heap.push o) (hr:ak (C.iQ n w) r Y) (ho:w.os=C.w.os) (ht:w.tape=C.w.tape) (hu:w.output=C.w.output):c8 C n h r [] Y (C.iQ n w) where
 le:=C.ND n hw
 kn _:=Iff.rfl
 heap:=W.mono (C.ND n hw) (fun _=>Iff.rfl) (fun n' O=>by
   have hb:=W.lt O
   simp[Ctx.iQ,hw,Array.getElem?_push,Nat.ne_of_lt hb]) (fun b hm hb=>⟨hm,hb⟩)
 val:=hr
 same b hb _:=by simp[Ctx.iQ,hw,Array.getElem?_push,Nat.ne_of_lt hb]
 mt b hb:=⟨fun hm=>hm.1,fun hm=>⟨hm,hb⟩⟩
 os:=ho
 tape:=ht
 output:=hu
 lM m hm := .inl ⟨hm,rfl⟩
 names _ hm:=by simp at hm
def Ctx.ck (C:Ctx) (n:Nat) (w:World):Ctx where
 ρ:=fun m=>if m=(n,0)then C.w.heap.size else C.ρ m
 bs:=fun m=>if m=(n,0)then 0 else C.bs m
 live:=fun m=>m=(n,0)\/C.live m
 kn:=fun i=>C.kn i\/i.1=n
 mt:=fun b=>(C.mt b/\b<C.w.heap.size)\/b=C.w.heap.size
 w:=w
theorem Ctx.ahX (C:Ctx) (n:Nat) (hn:(∀k,¬C.kn (n,k))) {w:World} {o:Obj} (hw:w.heap=C.w.heap.push o):C.le (C.ck n w) where
 size:=by simp[Ctx.ck,hw]
 same b hb _:=by simp[Ctx.ck,hw,Array.getElem?_push,Nat.ne_of_lt hb]
 mt b hb h:=by
  rcases h with h | h
  ·exact h.1
  ·omega
 kn _ h := .inl h
 live m u h:=by
  have ay:m≠(n,0):=fun e=>by subst e;exact hn 0 u
  simp only[Ctx.ck,ay,false_or,if_false]at h ⊢
  exact⟨h,trivial,trivial⟩
 own m _ _ cs ty H:=⟨cs,ty,by
  have hb:C.ρ m<C.w.heap.size:=by
   rcases Nat.lt_or_ge (C.ρ m) C.w.heap.size with E | E
   ·exact E
   ·rw[Array.getElem?_eq_none E]at H;cases H
  simp[Ctx.ck,hw,Array.getElem?_push,Nat.ne_of_lt hb,H],rfl⟩
theorem c8.ck {C:Ctx} {n:Nat} {h:Hp} {r:AV} {Y:Value} {cs:List AV} {arr:Array Value} {ty:TypeId} (W:c6 C h) (hn:(∀k,¬C.kn (n,k))) {w:World} (hw:w.heap=C.w.heap.push (.cells arr ty))
  (aI:∀(j:Nat) (c:AV),cs[j]? = some c->∃Y,arr[j]? = some Y/\ak C c Y) (hr:ak (C.ck n w) r Y) (ho:w.os=C.w.os) (ht:w.tape=C.w.tape) (hu:w.output=C.w.output) :
  c8 C n h r [((n,0),some cs)] Y (C.ck n w):=by
 have le:=C.ahX n hn hw
 have ay:∀m,C.live m->m≠(n,0):=fun m hm e=>hn 0 (by have:=W.kn m hm;rw[e]at this;exact this)
 have i6:∀m,ae (aE [((n,0),some cs)] h) m=if(n,0)=m then some cs else ae h m:=fun m=>by simp only[aE];exact dO _ _ _ _
 have kC:∀m,C.live m->(C.ck n w).ρ m=C.ρ m:=fun m hm=>by simp[Ctx.ck,ay m hm]
 have od:∀m,C.live m->(C.ck n w).bs m=C.bs m:=fun m hm=>by simp[Ctx.ck,ay m hm]
 refine⟨le,fun _=>Iff.rfl,⟨fun m => ?_,fun m bi Z => ?_,fun m m' hm a1 F => ?_,fun m hm => ?_,fun m hm => ?_⟩,hr,fun b hb _ => ?_,fun b hb => ?_,ho,ht,hu,fun m hm => ?_,fun m hm => ?_⟩
 ·rw[i6]
  by_cases e:(n,0)=m
  ·simp[Ctx.ck,<-e]
  ·rw[if_neg e,<-W.live m]
   simp[Ctx.ck,Ne.symm e]
 ·rw[i6]at Z
  by_cases e:(n,0)=m
  ·rw[if_pos e]at Z
   subst e
   cases Z
   refine⟨arr,ty,by simp[Ctx.ck,hw],fun j c M => ?_⟩
   obtain⟨u',a3,H⟩:=aI j c M
   exact⟨u',by simp only[Ctx.ck,if_true,Nat.zero_add];exact a3,H.mono le⟩
  ·rw[if_neg e]at Z
   have O:=W.get Z
   obtain⟨arr',ty',ha,H⟩:=W.obj m bi Z
   have hb:=W.lt O
   refine⟨arr',ty',by rw[kC m O];simp[Ctx.ck,hw,Array.getElem?_push,Nat.ne_of_lt hb,ha],fun j c M => ?_⟩
   obtain⟨u',a3,dH⟩:=H j c M
   exact⟨u',by rw[od m O];exact a3,dH.mono le⟩
 ·by_cases e:m=(n,0)<;>by_cases e':m'=(n,0)
  ·rw[e,e']
  ·have bY:C.live m':=by simpa [Ctx.ck,e']using a1
   have:=W.lt bY
   rw[kC m' bY,e]at F
   simp[Ctx.ck]at F
   omega
  ·have O:C.live m:=by simpa [Ctx.ck,e]using hm
   have:=W.lt O
   rw[kC m O,e']at F
   simp[Ctx.ck]at F
   omega
  ·have O:C.live m:=by simpa [Ctx.ck,e]using hm
   have bY:C.live m':=by simpa [Ctx.ck,e']using a1
   rw[kC m O,kC m' bY]at F
   exact W.inj m m' O bY F
 ·by_cases e:m=(n,0)
  ·simp[Ctx.ck,e]
  ·have O:C.live m:=by simpa [Ctx.ck,e]using hm
   rw[kC m O]
   exact .inl ⟨W.mt m O,W.lt O⟩
 ·by_cases e:m=(n,0)
  ·simp[Ctx.ck,e]
  ·have O:C.live m:=by simpa [Ctx.ck,e]using hm
   exact .inl (W.kn m O)
 ·simp[Ctx.ck,hw,Array.getElem?_push,Nat.ne_of_lt hb]
 ·simp only[Ctx.ck]
  constructor
  ·rintro(A | A)
   ·exact A.1
   ·omega
  ·intro A;exact .inl ⟨A,hb⟩
 ·by_cases e:m=(n,0)
  ·exact .inr (.inl (by simp[Ctx.ck,e]))
  ·have O:C.live m:=by simpa [Ctx.ck,e]using hm
   exact .inl ⟨O,kC m O⟩
 ·simp at hm
  exact .inr (by rw[hm])
theorem Ctx.ahY (C:Ctx) (n:Nat) {b:Nat} (hm:C.mt b) {w:World} {arr arr':Array Value} {ty:TypeId} (hb:C.w.heap[b]? = some (.cells arr ty (0,0))) (gc:w.heap[b]? = some (.cells arr' ty (0,0)))
  (hs:arr'.size=arr.size) (b9:w.heap.size=C.w.heap.size) (ho:∀k,k≠b->w.heap[k]? = C.w.heap[k]?):C.le (C.same n w) where
 size:=by simp[Ctx.same,b9]
 same k _ u:=ho k (fun e=>u (by rw[e];exact hm))
 mt _ _ h:=h
 kn _ h := .inl h
 live _ _ h:=⟨h,rfl,rfl⟩
 own m _ _ cs ty' H:=by
  by_cases e:C.ρ m=b
  ·rw[e]at H ⊢
   rw[hb]at H
   cases H
   exact⟨arr',ty,gc,hs⟩
  ·exact⟨cs,ty',(ho _ e).trans H,rfl⟩
theorem c8.mod {C:Ctx} {n:Nat} {h:Hp} {r:AV} {Y:Value} {m:Nm} {cs bi:List AV} (W:c6 C h) (Z:ae h m=some cs) {w:World} {arr arr':Array Value} {ty:TypeId}
  (hb:C.w.heap[C.ρ m]? = some (.cells arr ty (0,0))) (gc:w.heap[C.ρ m]? = some (.cells arr' ty (0,0))) (hs:arr'.size=arr.size) (b9:w.heap.size=C.w.heap.size) (s_:∀k,k≠C.ρ m->w.heap[k]? = C.w.heap[k]?)
  (aI:∀(j:Nat) (c:AV),bi[j]? = some c->∃Y,arr'[C.bs m+j]? = some Y/\ak C c Y) (hr:ak C r Y) (ho:w.os=C.w.os) (ht:w.tape=C.w.tape) (hu:w.output=C.w.output) :
  c8 C n h r [(m,some bi)] Y (C.same n w):=by
 have O:=W.get Z
 have le:=C.ahY n (W.mt m O) hb gc hs b9 s_
 have i6:∀k,ae (aE [(m,some bi)] h) k=if m=k then some bi else ae h k:=fun k=>by simp only[aE];exact dO _ _ _ _
 refine⟨le,fun _=>Iff.rfl,⟨fun k => ?_,fun k ds u => ?_,fun k k' u aJ F=>W.inj k k' u aJ F,fun k u=>W.mt k u,fun k u => .inl (W.kn k u)⟩,hr.mono le,fun b _ ay=>s_ b (ay m (by simp) O),fun _ _=>Iff.rfl,ho,ht,hu,fun k u => .inl ⟨u,rfl⟩,fun k u => ?_⟩
 ·rw[i6]
  by_cases e:m=k
  ·subst e;simp[Ctx.same,O]
  ·rw[if_neg e];exact W.live k
 ·rw[i6]at u
  by_cases e:m=k
  ·subst e
   rw[if_pos rfl]at u;cases u
   refine⟨arr',ty,gc,fun j c M => ?_⟩
   obtain⟨u',a3,H⟩:=aI j c M
   exact⟨u',a3,H.mono le⟩
  ·rw[if_neg e]at u
   obtain⟨arr1,zB,ha,H⟩:=W.obj k ds u
   refine⟨arr1,zB,?_,fun j c M => ?_⟩
   ·exact(s_ _ (fun F=>e (W.inj _ _ O (W.get u) F.symm))).trans ha
   ·obtain⟨u',a3,dH⟩:=H j c M
    exact⟨u',a3,dH.mono le⟩
 ·simp at u;subst u;exact .inl O
theorem Yields.pure {P:Program} {n:Nat} {op:Op} {t:Tp} {h:Hp} {r:AV}
  (aR:∀(C:Ctx) (a:Act) (o:Oper),o.op=op->c6 C h->gb C t a->∃Y,(execOp a.eval o).run P C.w = .ok (.value Y) C.w/\ak C r Y):Yields P n op t h r []:=by
 intro C a o next Q ho W ht _ u
 obtain⟨Y,hr,H⟩:=aR C a o ho W ht
 unfold Oper.wp
 rw[hr]
 exact u Y (C.same n C.w) (c8.pure W H rfl rfl rfl rfl)
theorem Yields.run {P:Program} {n:Nat} {op:Op} {t:Tp} {h:Hp} {r:AV} {d:Dl}
  (aR:∀(C:Ctx) (a:Act) (o:Oper),o.op=op->c6 C h->gb C t a->(∀k,¬C.kn (n,k))->∃Y C',(execOp a.eval o).run P C.w = .ok (.value Y) C'.w/\c8 C n h r d Y C'):Yields P n op t h r d:=by
 intro C a o next Q ho W ht hn u
 obtain⟨Y,C',hr,hp⟩:=aR C a o ho W ht hn
 unfold Oper.wp
 rw[hr]
 exact u Y C' hp
theorem Yields.skip {P:Program} {n:Nat} {op:Op} {t:Tp} {h:Hp} {d:Dl}
  (aR:∀(C:Ctx) (a:Act) (o:Oper),o.op=op->c6 C h->gb C t a->(∀k,¬C.kn (n,k))->∃C',(execOp a.eval o).run P C.w = .ok .skip C'.w/\c8 C n h (.sc undef) d undef C'):Yields P n op t h (.sc undef) d:=by
 intro C a o next Q ho W ht hn u
 obtain⟨C',hr,hp⟩:=aR C a o ho W ht hn
 unfold Oper.wp
 rw[hr]
 exact u undef C' hp
end Go.Proofs.Aw
namespace Go.Proofs.Aw
open Go
def AV.cells:AV->List AV
 | .agg cs=>cs
 | v=>[v]
def AV.one:AV->Bool
 | .sc v=>v.oneCell'
 | .top | .agg _ | .tup _=>false
 | _=>true
def fE (P:Program) (t:TypeId):Option (List AV):=(P.info? t).bind fun i=>i.zero.map fun v=>v.cells.toList.map AV.sc
def e5 (P:Program) (t:TypeId):Option Bool:=match P.underlying t with | some (.struct _) | some (.array _ _)=>some true | some _=>some false | none=>none
section
variable {P:Program} {n:Nat} {t:Tp} {h:Hp}
theorem acr (x:Operand):Yields P n (.move x) t h (ev t x) [] :=
 Yields.pure fun C a o ho _ ht=>⟨a.eval x,by unfold execOp;rw[ho];rfl,b4 ht x⟩
theorem abZ (x:Operand):Yields P n (.assign x) t h (ev t x) [] :=
 Yields.pure fun C a o ho _ ht=>⟨a.eval x,by unfold execOp;rw[ho];rfl,b4 ht x⟩
theorem acx {c x y:Operand} {b:Bool} (H:ev t c = .sc (.bool b)):Yields P n (.pick c x y) t h (if b=true then ev t x else ev t y) [] :=
 Yields.pure fun C a o ho _ ht=>by
  have A:=b4 ht c
  rw[H]at A
  simp only[ak]at A
  refine⟨if b=true then a.eval x else a.eval y,?_,?_⟩
  ·unfold execOp
   rw[ho]
   simp only[A,asBool]
   rfl
  ·split
   ·exact b4 ht x
   ·exact b4 ht y
theorem CM {C:Ctx} {v:AV} {Y:Value} (H:ak C v Y) (A:v.one=true):Y.oneCell'=true:=by
 cases v<;>simp only[AV.one,Bool.false_eq_true]at A<;>simp only[ak]at H
 case sc=>rw[H];exact A
 case ptr=>obtain⟨⟨p,rfl⟩,_⟩:=H;rfl
 case sl=>obtain⟨⟨ab,l,c,rfl⟩,_⟩:=H;rfl
 case ip=>obtain⟨a,rfl,_⟩:=H;rfl
 case ro=>obtain⟨ab,c,rfl,_⟩:=H;rfl
 case fn=>obtain⟨x,y,rfl,_⟩:=H;rfl
 case ifc=>obtain⟨x,rfl,_⟩:=H;rfl
theorem Ki {C:Ctx} {v:AV} {Y:Value} (H:ak C v Y) (A:v.cells.all AV.one=true):aD C v.cells Y.cells.toList/\∀x∈Y.cells.toList,x.oneCell'=true:=by
 have hL:aD C v.cells Y.cells.toList:=by
  cases v with
  | agg cs =>
   simp only[ak]at H
   obtain⟨us,rfl,O⟩:=H
   exact O
  | _ =>
   have ho:Y.oneCell'=true:=CM H (by simpa [AV.cells]using A)
   have e:Y.cells.toList=[Y]:=by cases Y<;>first | rfl | cases ho
   rw[e]
   simp only[AV.cells,aD]
   exact⟨Y,[],rfl,H,rfl⟩
 refine⟨hL,fun x hx => ?_⟩
 obtain⟨i,hi,rfl⟩:=List.mem_iff_getElem.1 hx
 have hlen:=hL.length
 obtain⟨u',a3,a'⟩:=hL.get i (v.cells[i]'(by omega)) (List.getElem?_eq_getElem _)
 rw[List.getElem?_eq_getElem hi]at a3
 cases a3
 exact CM a' (List.all_eq_true.1 A _ (List.getElem_mem _))
theorem Y2 (w:World) (e:TypeId) (v:Value):(newVar e v).run P w = .ok ⟨w.heap.size,0,none⟩ { w with heap:=w.heap.push (.cells v.cells e) }:=rfl
theorem aq4 {e:TypeId} {cs:List AV} (hz:fE P e=some cs) (w:World):∃z,(zeroValue e).run P w = .ok z w/\cs=z.cells.toList.map AV.sc:=by
 unfold fE at hz
 cases hi:P.info? e with
 | none=>rw[hi]at hz;cases hz
 | some i =>
  rw[hi]at hz
  cases iC:i.zero with
  | none=>simp[iC]at hz
  | some z =>
   simp[iC]at hz
   refine⟨z,?_,hz.symm⟩
   unfold zeroValue typeInfo program
   simp only[bind,Sem.bind,pure,Sem.run,hi,iC]
theorem P' {C:Ctx} (us:List Value) (j:Nat) (c:AV) (h:(us.map AV.sc)[j]? = some c):∃Y,us.toArray[j]? = some Y/\ak C c Y:=by
 rw[List.getElem?_map]at h
 cases hu:us[j]? with
 | none=>rw[hu]at h;cases h
 | some Y =>
  rw[hu]at h;cases h
  exact⟨Y,by simpa using hu,by simp only[ak]⟩
theorem abV {e:TypeId} {cs:List AV} (hz:fE P e=some cs):Yields P n (.alloc e) t h (.ptr (n,0) 0) [((n,0),some cs)] :=
 Yields.run fun C a o ho W _ hn=>by
  obtain⟨z,hr,rfl⟩:=aq4 hz C.w
  refine⟨.pointer (some ⟨C.w.heap.size,0,none⟩),C.ck n { C.w with heap:=C.w.heap.push (.cells z.cells e) },?_,?_⟩
  ·unfold execOp
   rw[ho]
   simp only[Instr.alloc,Sem.run_bind,hr,Result.andThen_ok,Y2,Ctx.ck]
   rfl
  ·refine c8.ck (arr:=z.cells) (ty:=e) W hn rfl (fun j c M=>by simpa using P' _ j c M) ?_ rfl rfl rfl
   simp only[ak,Ctx.ck,if_true]
   exact⟨⟨_,rfl⟩,.inr trivial,fun _=>trivial⟩
theorem ab2 {e:TypeId} {x:Operand} (A:(ev t x).cells.all AV.one=true):Yields P n (.box e x) t h (.ptr (n,0) 0) [((n,0),some (ev t x).cells)] :=
 Yields.run fun C a o ho W ht hn=>by
  refine⟨.pointer (some ⟨C.w.heap.size,0,none⟩),C.ck n { C.w with heap:=C.w.heap.push (.cells (a.eval x).cells e) },?_,?_⟩
  ·unfold execOp
   rw[ho]
   simp only[Instr.box,Sem.run_bind,Y2,Result.andThen_ok,Ctx.ck]
   rfl
  ·refine c8.ck (arr:=(a.eval x).cells) (ty:=e) W hn rfl (fun j c M => ?_) ?_ rfl rfl rfl
   ·obtain⟨Y,hu,a'⟩:=(Ki (b4 ht x) A).1.get j c M
    exact⟨Y,by simpa using hu,a'⟩
   ·simp only[ak,Ctx.ck,if_true]
    exact⟨⟨_,rfl⟩,.inr trivial,fun _=>trivial⟩
theorem Ig {ty:TypeId} {b:Bool} (hb:e5 P ty=some b) (w:World):(isAgg ty).run P w = .ok b w:=by
 unfold e5 at hb
 unfold isAgg
 cases hu:P.underlying ty with
 | none=>rw[hu]at hb;cases hb
 | some d =>
  rw[hu]at hb
  simp only[Sem.run_bind,run_underlying hu,Result.andThen_ok]
  cases d<;>simp at hb<;>subst hb<;>rfl
theorem Nc {ty:TypeId} {z:Nat} (hz:P.cellsOf ty=z) (h0:0<z):∃i,P.info? ty=some i/\i.size=z:=by
 unfold Program.cellsOf at hz
 cases hi:P.info? ty with
 | none=>simp[hi]at hz;omega
 | some i=>exact⟨i,rfl,by simpa [hi]using hz⟩
theorem oV {ty:TypeId} (h0:0<P.cellsOf ty) (w:World):(sizeOf ty).run P w = .ok (P.cellsOf ty) w:=by
 obtain⟨i,hi,_⟩:=Nc (P:=P) (ty:=ty) rfl h0
 exact run_sizeOf w hi
def Rd (agg:Bool) (z:Nat) (cs:List AV) (off:Nat) (v:AV):Prop :=
 (agg=true/\0<z/\off+z<=cs.length/\v = .agg ((cs.drop off).take z))\/(agg=false/\cs[off]? = some v)
theorem Ih {ty:TypeId} {agg:Bool} (hb:e5 P ty=some agg) {C:Ctx} {a:Addr} {cs:List AV} {off:Nat} {v:AV}
  (gH:∀(j:Nat) (c:AV),cs[j]? = some c->∃Y,C.w.cell? (a.add j)=some Y/\ak C c Y) (hr:Rd agg (P.cellsOf ty) cs off v):∃Y,(loadVar ty (a.add off)).run P C.w = .ok Y C.w/\ak C v Y:=by
 unfold loadVar
 rcases hr with⟨rfl,h0,hlen,rfl⟩ | ⟨rfl,R⟩
 ·have hx:∀j,j<P.cellsOf ty->∃Y,C.w.cell? ((a.add off).add j)=some Y/\∃c,((cs.drop off).take (P.cellsOf ty))[j]? = some c/\ak C c Y:=fun j M=>by
   obtain⟨Y,hu,H⟩:=gH (off+j) (cs[off+j]'(by omega)) (List.getElem?_eq_getElem _)
   refine⟨Y,by rw[add_add];exact hu,_,?_,H⟩
   rw[List.getElem?_take,if_pos M,List.getElem?_drop,List.getElem?_eq_getElem (by omega)]
  let us:List Value:=(List.range (P.cellsOf ty)).map fun j=>(C.w.cell? ((a.add off).add j)).getD undef
  have fL:us.length=P.cellsOf ty:=by simp[us]
  have ae:∀j v,us[j]? = some v->C.w.cell? ((a.add off).add j)=some v:=fun j v M=>by
   have gE:j<P.cellsOf ty:=by
    have:=(List.getElem?_eq_some_iff.1 M).1
    omega
   obtain⟨Y,hu,_⟩:=hx j gE
   simp only[us,List.getElem?_map,List.getElem?_range gE,Option.map_some,hu,Option.getD_some,Option.some.injEq]at M
   rw[<-M];exact hu
  have bJ:=run_loadCells_list (P:=P) C.w (a.add off) us ae
  rw[fL]at bJ
  refine⟨.agg us.toArray,?_,?_⟩
  ·simp only[Sem.run_bind,Ig hb,Result.andThen_ok,if_true,oV h0,bJ]
   rfl
  ·simp only[ak]
   refine⟨us.toArray,rfl,aD.mk ?_ fun j c Y A E => ?_⟩
   ·simp[fL];omega
   ·have gE:j<P.cellsOf ty:=by
     have:=(List.getElem?_eq_some_iff.1 A).1
     simp at this;omega
    obtain⟨u',a3,dD,dH,kq⟩:=hx j gE
    rw[A]at dH;cases dH
    have:=ae j Y (by simpa using E)
    rw[a3]at this;cases this
    exact kq
 ·obtain⟨Y,hu,H⟩:=gH off v R
  refine⟨Y,?_,H⟩
  simp only[Sem.run_bind,Ig hb,Result.andThen_ok,Bool.false_eq_true,if_false]
  unfold load
  simp only[Sem.run,hu]
theorem yR {C:Ctx} {b k:Nat} {cs:List AV} (ho:JG C b k cs) (j:Nat) (c:AV) (M:cs[j]? = some c):∃Y,C.w.cell? ((⟨b,k,none⟩:Addr).add j)=some Y/\ak C c Y:=by
 obtain⟨arr,ty,ha,H⟩:=ho
 obtain⟨Y,hu,a'⟩:=H j c M
 exact⟨Y,by rw[j_,World.cell?,ha];simpa using hu,a'⟩
theorem acm {ty:TypeId} {x:Operand} {m:Nm} {off:Nat} {cs:List AV} {agg:Bool} {v:AV} (hx:ev t x = .ptr m off) (Z:ae h m=some cs) (hb:e5 P ty=some agg) (hr:Rd agg (P.cellsOf ty) cs off v) :
  Yields P n (.load ty x) t h v [] :=
 Yields.pure fun C a o ho W ht=>by
  have A:=b4 ht x
  rw[hx]at A
  simp only[ak]at A
  have E:=A.2.2 (W.get Z)
  obtain⟨Y,hu,H⟩:=Ih (a:=⟨C.ρ m,C.bs m,none⟩) hb (yR (W.obj m cs Z)) hr
  rw[j_]at hu
  refine⟨Y,?_,H⟩
  unfold execOp
  rw[ho]
  simp only[Instr.loadAt,E,Instr.sureAddr,Sem.run_bind,Sem.run_pure,Result.andThen_ok,hu]
theorem ack {ty:TypeId} {x:Operand} {off:Nat} {cs:List AV} {agg:Bool} {v:AV} (hx:ev t x = .ip cs off) (hb:e5 P ty=some agg) (hr:Rd agg (P.cellsOf ty) cs off v) :
  Yields P n (.load ty x) t h v [] :=
 Yields.pure fun C a o ho W ht=>by
  have A:=b4 ht x
  rw[hx]at A
  simp only[ak]at A
  obtain⟨eE,E,_,_,m9⟩:=A
  obtain⟨Y,hu,H⟩:=Ih (a:=eE) hb (fun j c M=>by simpa using m9.get j c M) hr
  refine⟨Y,?_,H⟩
  unfold execOp
  rw[ho]
  simp only[Instr.loadAt,E,Instr.sureAddr,Sem.run_bind,Sem.run_pure,Result.andThen_ok,hu]
def fY (cs:List AV) (off:Nat) (vs:List AV):List AV:=cs.take off++(vs++cs.drop (off+vs.length))
theorem acH {ty:TypeId} {x y:Operand} {m:Nm} {off:Nat} {cs:List AV} (hx:ev t x = .ptr m off) (Z:ae h m=some cs) (h0:0<P.cellsOf ty) (O:(ev t y).cells.length=P.cellsOf ty) (hlen:off+P.cellsOf ty<=cs.length)
  (A:(ev t y).cells.all AV.one=true):Yields P n (.store ty x y) t h (.sc undef) [(m,some (fY cs off (ev t y).cells))] :=
 Yields.skip fun C a o ho W ht hn=>by
  have hp:=b4 ht x
  rw[hx]at hp
  simp only[ak]at hp
  have E:=hp.2.2 (W.get Z)
  obtain⟨U0,gG⟩:=Ki (b4 ht y) A
  obtain⟨arr,o9,ha,H⟩:=W.obj m cs Z
  generalize od:C.bs m=du at H E
  have b9:du+off+P.cellsOf ty<=arr.size:=by
   have BI:cs[off+P.cellsOf ty-1]? = some (cs[off+P.cellsOf ty-1]'(by omega)):=List.getElem?_eq_getElem _
   obtain⟨Y,hu,_⟩:=H _ _ BI
   have:=(Array.getElem?_eq_some_iff.1 hu).1
   omega
  have MU:(a.eval y).cells.toList.length=P.cellsOf ty:=by rw[<-U0.length];exact O
  have Vx:(a.eval y).cells.size=P.cellsOf ty:=by simpa using MU
  let arr':Array Value:=(arr.toList.take (du+off)++(a.eval y).cells.toList++arr.toList.drop (du+off+P.cellsOf ty)).toArray
  have bJ:=run_storeCells_at (P:=P) (C.ρ m) (du+off) o9 (a.eval y).cells.toList 0 arr C.w ha (by omega) gG
  rw[Nat.add_zero,MU]at bJ
  refine⟨C.same n (C.w.setRow (C.ρ m) arr'),?_,?_⟩
  ·unfold execOp
   rw[ho]
   simp only[Instr.storeAt,E,Instr.sureAddr,Sem.run_bind,Sem.run_pure,Result.andThen_ok,storeVar,oV h0,Vx,ne_eq,not_true_eq_false,if_false,bJ,Ctx.same]
   rfl
  ·refine c8.mod W Z ha (setRow_heap C.w (C.ρ m) arr _ o9 _ ha) ?_ (by simp) (fun k u => ?_) (fun j c M => ?_) (by simp only[ak]) rfl rfl rfl
   ·simp[arr',Vx];omega
   ·simp[World.setRow,Array.getElem?_modify,Ne.symm u]
   ·rw[od]
    simp only[fY,O]at M
    have e1:arr'[du+j]? = (arr.toList.take (du+off)++(a.eval y).cells.toList++arr.toList.drop (du+off+P.cellsOf ty))[du+j]? := by simp[arr']
    rw[e1]
    by_cases BG:j<off
    ·rw[List.getElem?_append_left (by simp;omega),List.getElem?_take,if_pos BG]at M
     obtain⟨Y,hu,a'⟩:=H j c M
     refine⟨Y,?_,a'⟩
     rw[List.append_assoc,List.getElem?_append_left (by simp;omega),List.getElem?_take,if_pos (by omega)]
     simpa using hu
    ·rw[List.getElem?_append_right (by simp;omega)]at M
     simp only[List.length_take,Nat.min_eq_left (show off<=cs.length by omega)]at M
     rw[List.append_assoc,List.getElem?_append_right (by simp;omega)]
     simp only[List.length_take,Array.length_toList,Nat.min_eq_left (show du+off<=arr.size by omega)]
     rw[show du+j-(du+off)=j-off from by omega]
     by_cases Mr:j-off<P.cellsOf ty
     ·rw[List.getElem?_append_left (by omega)]at M ⊢
      exact U0.get _ c M
     ·rw[List.getElem?_append_right (by omega)]at M ⊢
      rw[O,List.getElem?_drop]at M
      rw[MU,List.getElem?_drop]
      obtain⟨Y,hu,a'⟩:=H _ c M
      exact⟨Y,by rw[Nat.add_assoc,Nat.add_assoc,<-Nat.add_assoc off];simpa using hu,a'⟩
end
end Go.Proofs.Aw
namespace Go.Proofs.Aw
open Go
section
variable {P:Program} {n:Nat} {t:Tp} {h:Hp}
theorem Da (k:IntKind) (i:Int) (w:World):(asIntOf (.int k i)).run P w = .ok (k,i) w:=rfl
theorem YY {ty e:TypeId} {len:Nat} (hu:P.underlying ty=some (.array len e)) (F:0<P.cellsOf e) (a:Addr) (k:IntKind) (i:Int) (h0:0<=i) (A:i<len) (w:World) :
  (Instr.indexAt ty (.pointer (some a)) (.int k i)).run P w = .ok (.pointer (some (a.add (i.toNat*P.cellsOf e)))) w:=by
 unfold Instr.indexAt
 simp only[Sem.run_bind,Da,Result.andThen_ok,run_underlying hu,Instr.sureAddr,Sem.run_pure,oV F,h0,A,and_self,if_true]
theorem YZ {ty e:TypeId} {len cap:Nat} (hu:P.underlying ty=some (.slice e)) (F:0<P.cellsOf e) (a:Addr) (k:IntKind) (i:Int) (h0:0<=i) (A:i<len) (w:World) :
  (Instr.indexAt ty (.slice (some a) len cap) (.int k i)).run P w = .ok (.pointer (some (a.add (i.toNat*P.cellsOf e)))) w:=by
 unfold Instr.indexAt
 simp only[Sem.run_bind,Da,Result.andThen_ok,run_underlying hu,Sem.run_pure,oV F,h0,A,and_self,if_true]
theorem acd {ty e:TypeId} {len:Nat} {x i:Operand} {m:Nm} {off:Nat} {k:IntKind} {j:Int} (hu:P.underlying ty=some (.array len e)) (F:0<P.cellsOf e) (hx:ev t x = .ptr m off) (hi:ev t i = .sc (.int k j))
  (hm:(ae h m).isSome=true) (h0:0<=j) (A:j<len):Yields P n (.indexAddr ty x i) t h (.ptr m (off+j.toNat*P.cellsOf e)) [] :=
 Yields.pure fun C a o ho W ht=>by
  have hp:=b4 ht x
  have hq:=b4 ht i
  rw[hx]at hp
  rw[hi]at hq
  simp only[ak]at hp hq
  have E:=hp.2.2 ((W.live m).2 hm)
  refine⟨.pointer (some ⟨C.ρ m,C.bs m+off+j.toNat*P.cellsOf e,none⟩),?_,?_⟩
  ·unfold execOp
   rw[ho]
   simp only[E,hq,Sem.run_bind,YY hu F _ k j h0 A,Result.andThen_ok,j_]
   rfl
  ·simp only[ak]
   exact⟨⟨_,rfl⟩,hp.2.1,fun _=>by rw[Nat.add_assoc]⟩
theorem ace {ty e:TypeId} {len:Nat} {x i:Operand} {cs:List AV} {off:Nat} {k:IntKind} {j:Int} (hu:P.underlying ty=some (.array len e)) (F:0<P.cellsOf e) (hx:ev t x = .ip cs off) (hi:ev t i = .sc (.int k j))
  (h0:0<=j) (A:j<len):Yields P n (.indexAddr ty x i) t h (.ip cs (off+j.toNat*P.cellsOf e)) [] :=
 Yields.pure fun C a o ho W ht=>by
  have hp:=b4 ht x
  have hq:=b4 ht i
  rw[hx]at hp
  rw[hi]at hq
  simp only[ak]at hp hq
  obtain⟨eE,E,hb,hm,H⟩:=hp
  refine⟨.pointer (some (eE.add (off+j.toNat*P.cellsOf e))),?_,?_⟩
  ·unfold execOp
   rw[ho]
   simp only[E,hq,Sem.run_bind,YY hu F _ k j h0 A,Result.andThen_ok,add_add]
   rfl
  ·simp only[ak]
   exact⟨eE,rfl,hb,hm,H⟩
theorem acg {ty e:TypeId} {len z:Nat} {own:Bool} {x i:Operand} {m:Nm} {off:Nat} {k:IntKind} {j:Int} (hu:P.underlying ty=some (.slice e)) (F:0<z) (hz:P.cellsOf e=z) (hx:ev t x = .sl m z off len own)
  (hi:ev t i = .sc (.int k j)) (hm:(ae h m).isSome=true) (h0:0<=j) (A:j<len):Yields P n (.indexAddr ty x i) t h (.ptr m (off+j.toNat*z)) [] :=
 Yields.pure fun C a o ho W ht=>by
  have hp:=b4 ht x
  have hq:=b4 ht i
  rw[hx]at hp
  rw[hi]at hq
  simp only[ak]at hp hq
  obtain⟨cap,of,E,a0,oo,_⟩:=hp.2.2 ((W.live m).2 hm)
  have MB:of=C.bs m+off:=by
   rcases oo with h3 | h3
   ·exact h3
   ·omega
  subst MB
  refine⟨.pointer (some ⟨C.ρ m,C.bs m+off+j.toNat*z,none⟩),?_,?_⟩
  ·unfold execOp
   rw[ho]
   simp only[E,hq,Sem.run_bind,YZ hu (by omega) _ k j h0 A,Result.andThen_ok,j_,hz]
   rfl
  ·simp only[ak]
   exact⟨⟨_,rfl⟩,hp.2.1,fun _=>by rw[Nat.add_assoc]⟩
theorem acf {ty e:TypeId} {z:Nat} {full:Bool} {D:List (List AV)} {x i:Operand} {k:IntKind} {j:Int} {n9:List AV} (hu:P.underlying ty=some (.slice e)) (F:0<z) (hz:P.cellsOf e=z) (hx:ev t x = .ro z D full)
  (hi:ev t i = .sc (.int k j)) (h0:0<=j) (A:D[j.toNat]? = some n9):Yields P n (.indexAddr ty x i) t h (.ip n9 0) [] :=
 Yields.pure fun C a o ho W ht=>by
  have hp:=b4 ht x
  have hq:=b4 ht i
  rw[hx]at hp
  rw[hi]at hq
  simp only[ak]at hp hq
  obtain⟨ab,cap,E,a0,_,ay⟩:=hp
  have aT:j.toNat<D.length:=(List.getElem?_eq_some_iff.1 A).1
  obtain⟨eE,rfl,hb,hm,H⟩:=ay (by intro e;rw[e]at aT;simp at aT)
  obtain⟨_,m9⟩:=H.get j.toNat n9 A
  rw[Nat.zero_add]at m9
  have M:j<D.length:=by omega
  have qY:0<P.cellsOf e:=by omega
  refine⟨.pointer (some (eE.add (j.toNat*z))),?_,?_⟩
  ·unfold execOp
   rw[ho]
   simp only[E,hq,Sem.run_bind,YZ hu qY _ k j h0 M,Result.andThen_ok,hz]
   rfl
  ·simp only[ak]
   exact⟨eE.add (j.toNat*z),by simp[Addr.add],by rw[block_add];exact hb,by rw[block_add];exact hm,m9⟩
def xN (P:Program) (ty:TypeId) (f:Nat):Option Nat:=match P.underlying ty with | some (.struct fs)=>(fs[f]?).bind fun fl=>if 0<P.cellsOf fl.type then some fl.offset else none | _=>none
theorem YX {ty:TypeId} {f o:Nat} (hf:xN P ty f=some o) (a:Addr) (w:World):(Instr.fieldAt ty (.pointer (some a)) f).run P w = .ok (.pointer (some (a.add o))) w:=by
 unfold xN at hf
 unfold Instr.fieldAt
 cases hu:P.underlying ty with
 | none=>rw[hu]at hf;cases hf
 | some d =>
  rw[hu]at hf
  cases d<;>simp only[reduceCtorEq]at hf
  obtain⟨fl,hZ,hf⟩:=Option.bind_eq_some_iff.1 hf
  by_cases b9:0<P.cellsOf fl.type
  case neg=>rw[if_neg b9]at hf;cases hf
  rw[if_pos b9]at hf
  cases hf
  unfold fieldPlace
  simp only[Sem.run_bind,run_underlying hu,Result.andThen_ok,hZ,Instr.sureAddr,Sem.run_pure,oV b9,Nat.ne_of_gt b9,if_false]
theorem aca {ty:TypeId} {x:Operand} {f o:Nat} {m:Nm} {off:Nat} (hf:xN P ty f=some o) (hx:ev t x = .ptr m off) (hm:(ae h m).isSome=true):Yields P n (.fieldAddr ty x f) t h (.ptr m (off+o)) [] :=
 Yields.pure fun C a op ho W ht=>by
  have hp:=b4 ht x
  rw[hx]at hp
  simp only[ak]at hp
  have E:=hp.2.2 ((W.live m).2 hm)
  refine⟨.pointer (some ⟨C.ρ m,C.bs m+off+o,none⟩),?_,?_⟩
  ·unfold execOp
   rw[ho]
   simp only[E,Sem.run_bind,YX hf,Result.andThen_ok,j_]
   rfl
  ·simp only[ak]
   exact⟨⟨_,rfl⟩,hp.2.1,fun _=>by rw[Nat.add_assoc]⟩
theorem acb {ty:TypeId} {x:Operand} {f o:Nat} {cs:List AV} {off:Nat} (hf:xN P ty f=some o) (hx:ev t x = .ip cs off):Yields P n (.fieldAddr ty x f) t h (.ip cs (off+o)) [] :=
 Yields.pure fun C a op ho W ht=>by
  have hp:=b4 ht x
  rw[hx]at hp
  simp only[ak]at hp
  obtain⟨eE,E,hb,hm,H⟩:=hp
  refine⟨.pointer (some (eE.add (off+o))),?_,?_⟩
  ·unfold execOp
   rw[ho]
   simp only[E,Sem.run_bind,YX hf,Result.andThen_ok,add_add]
   rfl
  ·simp only[ak]
   exact⟨eE,rfl,hb,hm,H⟩
theorem acv {x:Operand} {m:Nm} {off:Nat} (hx:ev t x = .ptr m off) (hm:(ae h m).isSome=true):Yields P n (.nilCheck x) t h (.ptr m off) [] :=
 Yields.pure fun C a op ho W ht=>by
  have hp:=b4 ht x
  rw[hx]at hp
  have E:a.eval x = .pointer (some ⟨C.ρ m,C.bs m+off,none⟩):=by
   simp only[ak]at hp
   exact hp.2.2 ((W.live m).2 hm)
  refine⟨_,?_,hp⟩
  unfold execOp
  rw[ho]
  simp only[E]
  rfl
theorem acu {x:Operand} {cs:List AV} {off:Nat} (hx:ev t x = .ip cs off):Yields P n (.nilCheck x) t h (.ip cs off) [] :=
 Yields.pure fun C a op ho W ht=>by
  have hp:=b4 ht x
  rw[hx]at hp
  have rb:=hp
  simp only[ak]at rb
  obtain⟨eE,E,_⟩:=rb
  refine⟨_,?_,hp⟩
  unfold execOp
  rw[ho]
  simp only[E]
  rfl
theorem acs {x:Operand} {f:FuncId} {xs ys:List AV} (hx:ev t x = .fn (.func f) xs ys):Yields P n (.nilCheck x) t h (.fn (.func f) xs ys) [] :=
 Yields.pure fun C a op ho W ht=>by
  have hp:=b4 ht x
  rw[hx]at hp
  have rb:=hp
  simp only[ak]at rb
  obtain⟨us,vs,E,_⟩:=rb
  refine⟨_,?_,hp⟩
  unfold execOp
  rw[ho]
  simp only[E]
  rfl
theorem Ii {ty:TypeId} {agg:Bool} (hb:e5 P ty=some agg) {C:Ctx} {cs:List AV} {us:Array Value} (hL:aD C cs us.toList) {off:Nat} {v:AV} (hr:Rd agg (P.cellsOf ty) cs off v):∃Y,(part ty us off).run P C.w = .ok Y C.w/\ak C v Y:=by
 unfold part
 rcases hr with⟨rfl,h0,hlen,rfl⟩ | ⟨rfl,R⟩
 ·refine⟨.agg (us.extract off (off+P.cellsOf ty)),?_,?_⟩
  ·simp only[Sem.run_bind,Ig hb,Result.andThen_ok,if_true,oV h0]
   rfl
  ·simp only[ak]
   refine⟨_,rfl,?_⟩
   have:=(hL.drop off).take (P.cellsOf ty)
   have e:(us.extract off (off+P.cellsOf ty)).toList=(us.toList.drop off).take (P.cellsOf ty):=by
    rw[Array.toList_extract,List.extract_eq_take_drop]
    simp
   rw[e];exact this
 ·obtain⟨Y,hu,H⟩:=hL.get off v R
  refine⟨Y,?_,H⟩
  have a3:us[off]? = some Y:=by simpa using hu
  simp only[Sem.run_bind,Ig hb,Result.andThen_ok,Bool.false_eq_true,if_false,a3]
  rfl
theorem ab9 {ty:TypeId} {x:Operand} {f:Nat} {fs:Array Field} {fl:Field} {cs:List AV} {agg:Bool} {v:AV} (hu:P.underlying ty=some (.struct fs)) (hf:fs[f]? = some fl) (hx:ev t x = .agg cs) (hb:e5 P fl.type=some agg)
  (hr:Rd agg (P.cellsOf fl.type) cs fl.offset v):Yields P n (.field ty x f) t h v [] :=
 Yields.pure fun C a op ho W ht=>by
  have hp:=b4 ht x
  rw[hx]at hp
  simp only[ak]at hp
  obtain⟨us,E,hL⟩:=hp
  obtain⟨Y,a3,H⟩:=Ii hb hL hr
  refine⟨Y,?_,H⟩
  unfold execOp
  rw[ho]
  simp only[E,Instr.field,Sem.run_bind,run_underlying hu,Result.andThen_ok,hf,asAgg,Sem.run_pure,a3]
theorem ach {ty e:TypeId} {len:Nat} {x i:Operand} {k:IntKind} {j:Int} {cs:List AV} {agg:Bool} {v:AV} (hu:P.underlying ty=some (.array len e)) (F:0<P.cellsOf e) (hx:ev t x = .agg cs) (hi:ev t i = .sc (.int k j))
  (h0:0<=j) (A:j<len) (hb:e5 P e=some agg) (hr:Rd agg (P.cellsOf e) cs (j.toNat*P.cellsOf e) v):Yields P n (.index ty x i) t h v [] :=
 Yields.pure fun C a op ho W ht=>by
  have hp:=b4 ht x
  have hq:=b4 ht i
  rw[hx]at hp
  rw[hi]at hq
  simp only[ak]at hp hq
  obtain⟨us,E,hL⟩:=hp
  obtain⟨Y,a3,H⟩:=Ii hb hL hr
  refine⟨Y,?_,H⟩
  unfold execOp
  rw[ho]
  simp only[E,hq,Instr.index,Sem.run_bind,Da,run_underlying hu,Result.andThen_ok,h0,A,and_self,if_true,oV F,Sem.run_pure,a3]
theorem ab8 {x:Operand} {i:Nat} {vs:List AV} {v:AV} (hx:ev t x = .tup vs) (R:vs[i]? = some v):Yields P n (.extract x i) t h v [] :=
 Yields.pure fun C a op ho W ht=>by
  have hp:=b4 ht x
  rw[hx]at hp
  simp only[ak]at hp
  obtain⟨us,E,hL⟩:=hp
  obtain⟨Y,hu,H⟩:=hL.get i v R
  have a3:us[i]? = some Y:=by simpa using hu
  refine⟨Y,?_,H⟩
  unfold execOp
  rw[ho]
  simp only[E,Instr.extract,a3]
  rfl
theorem aD.Fg {C:Ctx} {a:Act} (ht:gb C t a):∀(xs:List Operand),aD C (xs.map (ev t)) (xs.map a.eval)
 | []=>by simp only[List.map_nil,aD]
 | x::xs=>by
  simp only[List.map_cons,aD]
  exact⟨_,_,rfl,b4 ht x,aD.Fg ht xs⟩
theorem acn {f:Fn} {xs ys:Array Operand}:Yields P n (.makeFunc f xs ys) t h (.fn f (xs.toList.map (ev t)) (ys.toList.map (ev t))) [] :=
 Yields.pure fun C a op ho W ht=>by
  refine⟨.func f (xs.map a.eval) (ys.map a.eval),?_,?_⟩
  ·unfold execOp
   rw[ho]
   rfl
  ·simp only[ak]
   exact⟨_,_,rfl,by simpa using aD.Fg ht xs.toList,by simpa using aD.Fg ht ys.toList⟩
def hJ (d:Nat) (x:Option AV) (l:Nat):Prop:=(x=none/\l=d)\/∃k i,x=some (.sc (.int k i))/\0<=i/\l=i.toNat
theorem hJ.val {C : Ctx} {a : Act} (ht : gb C t a) {d l : Nat} {x : Option Operand} (hb : hJ d (x.map (ev t)) l) : (x.map a.eval = none /\ l = d) \/ ∃ k i, x.map a.eval = some (.int k i) /\ 0 <= i /\ l = i.toNat := by
  cases x with
  | none => rcases hb with ⟨_, E⟩ | ⟨k, i, A, _⟩
            · exact .inl ⟨rfl, E⟩
            · cases A
  | some x =>
    rcases hb with ⟨A, _⟩ | ⟨k, i, A, E, h3⟩
    · cases A
    · simp only [Option.map_some, Option.some.injEq] at A
      have := b4 ht x
      rw [A] at this
      simp only [ak] at this
      exact .inr ⟨k, i, by simp [this], E, h3⟩
theorem run_sliceBound (k:IntKind) (i:Int) (y:Nat) (code:BoundsCode) (h0:0<=i) (A:i.toNat<=y) (w:World):(Instr.sliceBound (.int k i) y code).run P w = .ok i.toNat w:=by
 unfold Instr.sliceBound
 have:i<=(y:Int):=by omega
 simp only[Sem.run_bind,Da,Result.andThen_ok,h0,this,and_self,if_true,Sem.run_pure]
theorem Db (Nh:Bool) (len cap l W:Nat) (lo hi:Option Value) (i7:(lo=none/\l=0)\/∃k i,lo=some (.int k i)/\0<=i/\l=i.toNat) (e8:(hi=none/\W=len)\/∃k i,hi=some (.int k i)/\0<=i/\W=i.toNat)
  (A:l<=W) (E:W<=cap) (w:World):(Instr.sliceBounds Nh len cap lo hi none).run P w = .ok (l,W,cap) w:=by
 unfold Instr.sliceBounds
 rcases e8 with⟨rfl,rfl⟩ | ⟨k,i,rfl,BF,rfl⟩<;>rcases i7 with⟨rfl,rfl⟩ | ⟨k',i',rfl,FR,rfl⟩
 ·simp only[Sem.run_bind,Sem.run_pure,Result.andThen_ok]
 ·simp only[Sem.run_bind,Sem.run_pure,Result.andThen_ok,run_sliceBound k' i' _ _ FR A]
 ·simp only[Sem.run_bind,Sem.run_pure,Result.andThen_ok,run_sliceBound k i _ _ BF E]
 ·simp only[Sem.run_bind,Sem.run_pure,Result.andThen_ok,run_sliceBound k i _ _ BF E,run_sliceBound k' i' _ _ FR A]
theorem Y4 (Nh:Bool) (len cap l W m:Nat) (lo hi mx:Option Value) (i7:(lo=none/\l=0)\/∃k i,lo=some (.int k i)/\0<=i/\l=i.toNat) (e8:∃k i,hi=some (.int k i)/\0<=i/\W=i.toNat)
  (jF:∃k i,mx=some (.int k i)/\0<=i/\m=i.toNat) (A:l<=W) (E:W<=m) (h3:m<=cap) (w:World):(Instr.sliceBounds Nh len cap lo hi mx).run P w = .ok (l,W,m) w:=by
 unfold Instr.sliceBounds
 obtain⟨k,i,rfl,BF,rfl⟩:=e8
 obtain⟨k1,i1,rfl,FS,rfl⟩:=jF
 rcases i7 with⟨rfl,rfl⟩ | ⟨k',i',rfl,FR,rfl⟩
 ·simp only[Sem.run_bind,Sem.run_pure,Result.andThen_ok,run_sliceBound k i _ _ BF E,run_sliceBound k1 i1 _ _ FS h3]
 ·simp only[Sem.run_bind,Sem.run_pure,Result.andThen_ok,run_sliceBound k i _ _ BF E,run_sliceBound k1 i1 _ _ FS h3,run_sliceBound k' i' _ _ FR A]
theorem dR.cut {C:Ctx} {a:Addr} {z:Nat} {D:List (List AV)} (hE:dR C a z 0 D) (l W:Nat):dR C (a.add (l*z)) z 0 ((D.take W).drop l) :=
 dR.mk fun j e M=>by
  rw[List.getElem?_drop,List.getElem?_take]at M
  split at M
  ·obtain⟨A,E⟩:=hE.get (l+j) e M
   refine⟨A,?_⟩
   rw[add_add,Nat.zero_add,<-Nat.add_mul]
   simpa using E
  ·cases M
theorem SZ {C:Ctx} {z:Nat} {D:List (List AV)} {ab:Option Addr} {cap l W m:Nat} {full:Bool} (A:l<=W) (E:W<=D.length) (hm:W<=m) (hf:full=true->m=W)
  (ay:D≠[]->∃a,ab=some a/\a.block<C.w.heap.size/\¬C.mt a.block/\dR C a z 0 D) (gi:cap=m-l) (A':Option Addr) (hA:A'=if m=l then ab else ab.map (·.add (l*z))) :
  ak C (.ro z ((D.take W).drop l) full) (.slice A' (W-l) cap):=by
 have hlen:((D.take W).drop l).length=W-l:=by simp[Nat.min_eq_left E]
 simp only[ak]
 refine⟨A',cap,by rw[hlen],by rw[hlen];omega,fun vk=>by rw[hlen,gi,hf vk],fun hn => ?_⟩
 have aT:l<W:=by
  rcases Nat.lt_or_ge l W with h3 | h3
  ·exact h3
  ·exfalso;apply hn;apply List.length_eq_zero_iff.1;rw[hlen];omega
 obtain⟨a,rfl,hb,a1,hE⟩:=ay (by intro e;rw[e]at E;simp at E;omega)
 refine⟨a.add (l*z),by rw[hA,if_neg (by omega)];rfl,by rw[block_add];exact hb,by rw[block_add];exact a1,hE.cut l W⟩
theorem Dc {ty e:TypeId} (hu:P.underlying ty=some (.slice e)) {z:Nat} (hz:P.cellsOf e=z) (h0:0<z) (ab:Option Addr) (len cap l W m:Nat) (lo hi mx:Option Value)
  (hb:∀w,(Instr.sliceBounds true len cap lo hi mx).run P w = .ok (l,W,m) w) (w:World) :
  (Instr.sliceAt ty (.slice ab len cap) lo hi mx).run P w = .ok (.slice (if m=l then ab else ab.map (·.add (l*z))) (W-l) (m-l)) w:=by
 unfold Instr.sliceAt
 simp only[Sem.run_bind,run_underlying hu,Result.andThen_ok,Instr.slice,hb,oV (show 0<P.cellsOf e by omega),hz,Sem.run_pure]
theorem acB {ty e:TypeId} {x:Operand} {lo hi:Option Operand} {z l W:Nat} {D:List (List AV)} {full:Bool} (hu:P.underlying ty=some (.slice e)) (hz:P.cellsOf e=z) (h0:0<z) (hx:ev t x = .ro z D full)
  (i7:hJ 0 (lo.map (ev t)) l) (e8:hJ D.length (hi.map (ev t)) W) (A:l<=W) (E:W<=D.length):Yields P n (.slice ty x lo hi none) t h (.ro z ((D.take W).drop l) (full&&W==D.length)) [] :=
 Yields.pure fun C a op ho a2 ht=>by
  have hp:=b4 ht x
  rw[hx]at hp
  simp only[ak]at hp
  obtain⟨ab,cap,R,a0,hf,ay⟩:=hp
  refine⟨_,?_,SZ (m:=cap) A E (by omega) (fun vk => ?_) ay rfl _ rfl⟩
  ·unfold execOp
   rw[ho]
   simp only[R,Option.map_none,Sem.run_bind,Dc hu hz h0 ab _ cap l W cap _ _ _ (Db true D.length cap l W _ _ (i7.val ht) (e8.val ht) A (by omega)),Result.andThen_ok]
   rfl
  ·simp only[Bool.and_eq_true,beq_iff_eq]at vk
   rw[hf vk.1,vk.2]
theorem acA {ty e:TypeId} {x:Operand} {lo hi:Option Operand} {z:Nat} (hu:P.underlying ty=some (.slice e)) (hz:P.cellsOf e=z) (h0:0<z) (hx:ev t x = .sc (.slice none 0 0))
  (i7:hJ 0 (lo.map (ev t)) 0) (e8:hJ 0 (hi.map (ev t)) 0):Yields P n (.slice ty x lo hi none) t h (.sc (.slice none 0 0)) [] :=
 Yields.pure fun C a op ho a2 ht=>by
  have hp:=b4 ht x
  rw[hx]at hp
  simp only[ak]at hp
  refine⟨.slice none 0 0,?_,by simp only[ak]⟩
  unfold execOp
  rw[ho]
  simp only[hp,Option.map_none,Sem.run_bind,Dc hu hz h0 none 0 0 0 0 0 _ _ _ (Db true 0 0 0 0 _ _ (i7.val ht) (e8.val ht) (Nat.le_refl _) (Nat.le_refl _)),Result.andThen_ok]
  rfl
theorem acC {ty e:TypeId} {x mx hi:Operand} {lo:Option Operand} {z l W m:Nat} {D:List (List AV)} {full:Bool} (hu:P.underlying ty=some (.slice e)) (hz:P.cellsOf e=z) (h0:0<z) (hx:ev t x = .ro z D full)
  (i7:hJ 0 (lo.map (ev t)) l) (e8:hJ 0 ((some hi).map (ev t)) W) (jF:hJ 0 ((some mx).map (ev t)) m) (A:l<=W) (E:W<=m) (h3:m<=D.length):Yields P n (.slice ty x lo (some hi) (some mx)) t h (.ro z ((D.take W).drop l) (m==W)) [] :=
 Yields.pure fun C a op ho a2 ht=>by
  have hp:=b4 ht x
  rw[hx]at hp
  simp only[ak]at hp
  obtain⟨ab,cap,R,a0,hf,ay⟩:=hp
  have b1:∃k i,(some hi).map a.eval=some (.int k i)/\0<=i/\W=i.toNat:=by
   rcases e8.val ht with⟨h,_⟩ | h
   ·cases h
   ·exact h
  have b2:∃k i,(some mx).map a.eval=some (.int k i)/\0<=i/\m=i.toNat:=by
   rcases jF.val ht with⟨h,_⟩ | h
   ·cases h
   ·exact h
  refine⟨_,?_,SZ (m:=m) A (by omega) E (fun vk=>by simpa using vk) ay rfl _ rfl⟩
  unfold execOp
  rw[ho]
  simp only[R,Sem.run_bind,Dc hu hz h0 ab _ cap l W m _ _ _ (Y4 true D.length cap l W m _ _ _ (i7.val ht) b1 b2 A E (by omega)),Result.andThen_ok]
  rfl
theorem acz {ty e:TypeId} {x mx hi:Operand} {lo:Option Operand} {z l off len:Nat} {own:Bool} {tA:Nm} (hu:P.underlying ty=some (.slice e)) (hz:P.cellsOf e=z) (h0:0<z) (hx:ev t x = .sl tA z off len own) (hm:(ae h tA).isSome=true)
  (i7:hJ 0 (lo.map (ev t)) l) (e8:hJ 0 ((some hi).map (ev t)) l) (jF:hJ 0 ((some mx).map (ev t)) l) (h3:l<=len):Yields P n (.slice ty x lo (some hi) (some mx)) t h (.ro z [] true) [] :=
 Yields.pure fun C a op ho a2 ht=>by
  have hp:=b4 ht x
  rw[hx]at hp
  simp only[ak]at hp
  obtain⟨_,_,hp⟩:=hp
  obtain⟨cap,o,R,a0,_,_⟩:=hp ((a2.live tA).2 hm)
  have b1:∃k i,(some hi).map a.eval=some (.int k i)/\0<=i/\l=i.toNat:=by
   rcases e8.val ht with⟨h,_⟩ | h
   ·cases h
   ·exact h
  have b2:∃k i,(some mx).map a.eval=some (.int k i)/\0<=i/\l=i.toNat:=by
   rcases jF.val ht with⟨h,_⟩ | h
   ·cases h
   ·exact h
  refine⟨.slice (if l=l then some ⟨C.ρ tA,o,none⟩else(some ⟨C.ρ tA,o,none⟩:Option Addr).map (·.add (l*z))) (l-l) (l-l),?_,?_⟩
  ·unfold execOp
   rw[ho]
   simp only[R,Sem.run_bind,Dc hu hz h0 _ len cap l l l _ _ _ (Y4 true len cap l l l _ _ _ (i7.val ht) b1 b2 (Nat.le_refl _) (Nat.le_refl _) (by omega)),Result.andThen_ok]
   rfl
  ·simp only[ak,Nat.sub_self]
   exact⟨_,0,rfl,Nat.le_refl _,fun _=>rfl,fun h=>absurd rfl h⟩
theorem acD {ty e:TypeId} {x:Operand} {lo hi:Option Operand} {z l W off len:Nat} {own:Bool} {m:Nm} (hu:P.underlying ty=some (.slice e)) (hz:P.cellsOf e=z) (h0:0<z) (hx:ev t x = .sl m z off len own) (hm:(ae h m).isSome=true)
  (i7:hJ 0 (lo.map (ev t)) l) (e8:hJ len (hi.map (ev t)) W) (A:l<=W) (E:W<=len):Yields P n (.slice ty x lo hi none) t h (.sl m z (off+l*z) (W-l) own) [] :=
 Yields.pure fun C a op ho a2 ht=>by
  have hp:=b4 ht x
  rw[hx]at hp
  simp only[ak]at hp
  obtain⟨_,u,hp⟩:=hp
  obtain⟨cap,o,R,a0,oo,x9⟩:=hp ((a2.live m).2 hm)
  refine⟨.slice (if cap=l then some ⟨C.ρ m,o,none⟩else some ⟨C.ρ m,o+l*z,none⟩) (W-l) (cap-l),?_,?_⟩
  ·unfold execOp
   rw[ho]
   simp only[R,Option.map_none,Sem.run_bind,Dc hu hz h0 _ len cap l W cap _ _ _ (Db true len cap l W _ _ (i7.val ht) (e8.val ht) A (by omega)),Result.andThen_ok,Option.map_some,j_]
   rfl
  ·simp only[ak]
   refine⟨⟨_,_,_,rfl⟩,u,fun _ => ?_⟩
   by_cases H:cap=l
   ·refine⟨cap-l,o,by rw[if_pos H],by omega,.inr (by omega),fun d3 => ?_⟩
    obtain⟨cs,ty',h4,h5⟩:=x9 d3
    refine⟨cs,ty',h4,?_⟩
    have e1:cap-l=0:=by omega
    rw[e1,Nat.zero_mul,Nat.add_zero,<-H,<-Nat.add_assoc]
    exact h5
   ·refine⟨cap-l,o+l*z,by rw[if_neg H],by omega,?_,fun d3 => ?_⟩
    ·rcases oo with h3 | h3
     ·exact .inl (by rw[h3,Nat.add_assoc])
     ·exact .inr (by omega)
    ·obtain⟨cs,ty',h4,h5⟩:=x9 d3
     refine⟨cs,ty',h4,?_⟩
     have e1:l*z+(cap-l)*z=cap*z:=by rw[<-Nat.add_mul];congr 1;omega
     omega
theorem aq2 {ty e:TypeId} {len:Nat} (hu:P.underlying ty=some (.array len e)) {z:Nat} (hz:P.cellsOf e=z) (h0:0<z) (a:Addr) (l W m:Nat) (lo hi mx:Option Value)
  (hb:∀w,(Instr.sliceBounds false len len lo hi mx).run P w = .ok (l,W,m) w) (w:World) :
  (Instr.sliceAt ty (.pointer (some a)) lo hi mx).run P w = .ok (.slice (some (if m=l then a else a.add (l*z))) (W-l) (m-l)) w:=by
 unfold Instr.sliceAt
 simp only[Sem.run_bind,run_underlying hu,Result.andThen_ok,Instr.sureAddr,hb,oV (show 0<P.cellsOf e by omega),hz,Sem.run_pure]
theorem acy {ty e:TypeId} {x:Operand} {lo hi:Option Operand} {z l W off len:Nat} {m:Nm} (hu:P.underlying ty=some (.array len e)) (hz:P.cellsOf e=z) (h0:0<z) (hx:ev t x = .ptr m off) (hm:(ae h m).isSome=true)
  (i7:hJ 0 (lo.map (ev t)) l) (e8:hJ len (hi.map (ev t)) W) (A:l<=W) (E:W<=len):Yields P n (.slice ty x lo hi none) t h (.sl m z (off+l*z) (W-l) false) [] :=
 Yields.pure fun C a op ho a2 ht=>by
  have hp:=b4 ht x
  rw[hx]at hp
  simp only[ak]at hp
  obtain⟨_,u,hp⟩:=hp
  have R:=hp ((a2.live m).2 hm)
  refine⟨.slice (some (if len=l then⟨C.ρ m,C.bs m+off,none⟩else⟨C.ρ m,C.bs m+off+l*z,none⟩)) (W-l) (len-l),?_,?_⟩
  ·unfold execOp
   rw[ho]
   simp only[R,Option.map_none,Sem.run_bind,aq2 hu hz h0 _ l W len _ _ _ (Db false len len l W _ _ (i7.val ht) (e8.val ht) A E),Result.andThen_ok,j_]
   rfl
  ·simp only[ak]
   refine⟨⟨_,_,_,rfl⟩,u,fun _ => ?_⟩
   by_cases H:len=l
   ·exact⟨len-l,C.bs m+off,by rw[if_pos H],by omega,.inr (by omega),fun d3=>by cases d3⟩
   ·exact⟨len-l,C.bs m+off+l*z,by rw[if_neg H],by omega,.inl (Nat.add_assoc _ _ _),fun d3=>by cases d3⟩
theorem acE {ty:TypeId} {x:Operand} {lo hi:Option Operand} {l W:Nat} {s:ByteArray} (hu:P.underlying ty=some .string) (hx:ev t x = .sc (.string s))
  (i7:hJ 0 (lo.map (ev t)) l) (e8:hJ s.size (hi.map (ev t)) W) (A:l<=W) (E:W<=s.size):Yields P n (.slice ty x lo hi none) t h (.sc (.string (s.extract l W))) [] :=
 Yields.pure fun C a op ho a2 ht=>by
  have hp:=b4 ht x
  rw[hx]at hp
  simp only[ak]at hp
  refine⟨.string (s.extract l W),?_,by simp only[ak]⟩
  unfold execOp
  rw[ho]
  simp only[hp,Option.map_none,Sem.run_bind,Instr.sliceAt,Instr.slice,run_underlying hu,Result.andThen_ok,Option.isSome_none,Bool.false_eq_true,if_false,Sem.run_pure,Db false s.size s.size l W _ _ (i7.val ht) (e8.val ht) A E]
end
end Go.Proofs.Aw
namespace Go.Proofs.Aw
open Go
def ai:List Nat->List AV->List AV->Option Bool
 | [],[],[]=>some true
 | k::ks,a::as,b::bs =>
  match k,a,b with
  | 0,.sc (.bool x),.sc (.bool y)=>(ai ks as bs).map fun r=>(x==y)&&r
  | 1,.sc (.int i x),.sc (.int j y)=>if i=j then(ai ks as bs).map fun r=>(x==y)&&r else none
  | 2,.sc (.string x),.sc (.string y)=>(ai ks as bs).map fun r=>(x.toList==y.toList)&&r
  | _,_,_=>none
 | _,_,_=>none
def lk:Nat->AV->AV->Option Bool
 | 0,.sc (.bool x),.sc (.bool y)=>some (x==y)
 | 1,.sc (.int i x),.sc (.int j y)=>if i=j then some (x==y)else none
 | 2,.sc (.string x),.sc (.string y)=>some (x.toList==y.toList)
 | _,_,_=>none
theorem K8 {k:Nat} {ks:List Nat} {a b:AV} {as bs:List AV} {r:Bool} (h:ai (k::ks) (a::as) (b::bs)=some r):∃x y,lk k a b=some x/\ai ks as bs=some y/\r=(x&&y):=by
 simp only[ai]at h
 split at h
 ·obtain⟨y,hy,rfl⟩:=Option.map_eq_some_iff.1 h
  exact⟨_,y,rfl,hy,rfl⟩
 ·split at h
  ·rename_i h1
   obtain⟨y,hy,rfl⟩:=Option.map_eq_some_iff.1 h
   exact⟨_,y,by simp only[lk,h1,if_true],hy,rfl⟩
  ·cases h
 ·obtain⟨y,hy,rfl⟩:=Option.map_eq_some_iff.1 h
  exact⟨_,y,rfl,hy,rfl⟩
 ·cases h
theorem AN:∀{ks:List Nat} {xs ys:List AV} {r:Bool},ai ks xs ys=some r->xs.length=ks.length/\ys.length=ks.length
 | [],[],[],_,_=>⟨rfl,rfl⟩
 | [],[],_::_,_,h=>by simp[ai]at h
 | [],_::_,_,_,h=>by simp[ai]at h
 | _::_,[],_,_,h=>by simp[ai]at h
 | _::_,_::_,[],_,h=>by simp[ai]at h
 | k::ks,a::as,b::bs,r,h=>by
  obtain⟨x,y,_,E,_⟩:=K8 h
  have:=AN E
  simp[this]
theorem K7:∀{ks yB:List Nat} {xs ys:List AV} {r:Bool},ai (ks++yB) xs ys=some r ->
  ∃b1 b2,ai ks (xs.take ks.length) (ys.take ks.length)=some b1/\ai yB (xs.drop ks.length) (ys.drop ks.length)=some b2/\r=(b1&&b2)
 | [],yB,xs,ys,r,h=>⟨true,r,by simp[ai],by simpa using h,by simp⟩
 | k::ks,yB,[],ys,r,h=>by simp[ai]at h
 | k::ks,yB,_::_,[],r,h=>by simp[ai]at h
 | k::ks,yB,x::xs,y::ys,r,h=>by
  simp only[List.cons_append]at h
  obtain⟨c,s,A,E,rfl⟩:=K8 h
  obtain⟨b1,b2,e1,e2,rfl⟩:=K7 E
  refine⟨c&&b1,b2,?_,by simpa using e2,by rw[Bool.and_assoc]⟩
  simp only[List.length_cons,List.take_succ_cons,ai]
  unfold lk at A
  split at A
  ·cases A;simp[e1]
  ·split at A
   ·rename_i h1;cases A;simp[e1,h1]
   ·cases A
  ·cases A;simp[e1]
  ·cases A
def Ca (P:Program) (p:TypeId->Option (List Nat)):Nat->List Field->Option (List Nat)
 | _,[]=>some []
 | off,f::fs =>
  if f.name ≠ "_" /\ f.offset = off /\ 0 < P.cellsOf f.type then
   (p f.type).bind fun l=>(Ca P p (off+P.cellsOf f.type) fs).map fun r=>l++r
  else none
def rU:Nat->List Nat->List Nat
 | 0,_=>[]
 | n+1,l=>l++rU n l
def leaves (P:Program):Nat->TypeId->Option (List Nat)
 | 0,_=>none
 | d+1,t =>
  let r:=match P.underlying t with
   | some .bool=>some [0]
   | some (.int _)=>some [1]
   | some .string=>some [2]
   | some (.struct fs)=>if P.stoodInHeld t then none else Ca P (leaves P d) 0 fs.toList
   | some (.array n e)=>if 0<P.cellsOf e then(leaves P d e).map (rU n)else none
   | _=>none
  r.bind fun l=>if l.length=P.cellsOf t then some l else none
theorem Cc {P:Program} {d:Nat} {t:TypeId} {l:List Nat} (h:leaves P d t=some l):l.length=P.cellsOf t:=by
 cases d with
 | zero=>simp[leaves]at h
 | succ d =>
  simp only[leaves]at h
  obtain⟨r,_,hr⟩:=Option.bind_eq_some_iff.1 h
  split at hr
  ·cases hr;assumption
  ·cases hr
def oJ (agg:Bool) (cs:List AV):AV:=if agg=true then .agg cs else cs.headD .top
theorem ahZ {P:Program} {d:Nat} {t:TypeId} {l:List Nat} (h:leaves P d t=some l):∃b,e5 P t=some b/\(b=false->P.cellsOf t=1):=by
 have hlen:=Cc h
 cases d with
 | zero=>simp[leaves]at h
 | succ d =>
  simp only[leaves]at h
  obtain⟨r,hr,i_⟩:=Option.bind_eq_some_iff.1 h
  have e:r=l:=by
   split at i_
   ·cases i_;rfl
   ·cases i_
  subst e
  unfold e5
  cases hu:P.underlying t with
  | none=>rw[hu]at hr;cases hr
  | some ds =>
   rw[hu]at hr
   cases ds<;>simp only[reduceCtorEq]at hr<;>first
    | exact⟨true,rfl,fun h=>by cases h⟩
    | (cases hr;exact⟨false,rfl,fun _=>by simpa using hlen.symm⟩)
theorem Ij {P:Program} {C:Ctx} {d:Nat} {t:TypeId} {l:List Nat} (hp:leaves P d t=some l) (h0:0<P.cellsOf t) {cs:List AV} {us:Array Value} (hL:aD C cs us.toList) {off:Nat} (hlen:off+P.cellsOf t<=cs.length) :
  ∃b Y,e5 P t=some b/\(part t us off).run P C.w = .ok Y C.w/\ak C (oJ b ((cs.drop off).take (P.cellsOf t))) Y:=by
 obtain⟨b,hb,Mc⟩:=ahZ hp
 cases b with
 | true =>
  obtain⟨Y,hu,H⟩:=Ii hb hL (.inl ⟨rfl,h0,hlen,rfl⟩)
  exact⟨true,Y,hb,hu,H⟩
 | false =>
  have e:=Mc rfl
  have R:cs[off]? = some (cs[off]'(by omega)):=List.getElem?_eq_getElem _
  obtain⟨Y,hu,H⟩:=Ii hb hL (.inr ⟨rfl,R⟩)
  refine⟨false,Y,hb,hu,?_⟩
  rw[e]
  have e2:oJ false ((cs.drop off).take 1)=cs[off]'(by omega):=by
   rw[List.drop_eq_getElem_cons (by omega)]
   rfl
  rw[e2];exact H
def pa (P:Program) (C:Ctx) (bO:Nat) (t:TypeId) (l:List Nat):Prop :=
 ∀(xs ys:List AV) (b ah:Bool) (Y v:Value),e5 P t=some ah->ai l xs ys=some b->ak C (oJ ah xs) Y->ak C (oJ ah ys) v->(Op.equalIn bO t Y v).run P C.w = .ok b C.w
theorem run_eqFields_plain {P:Program} {C:Ctx} {d bO:Nat} (ih:∀t l,leaves P d t=some l->pa P C bO t l) {xs ys:List AV} {us vs:Array Value} (hx:aD C xs us.toList) (hy:aD C ys vs.toList) :
  ∀(fs:List Field) (off:Nat) (l:List Nat) (b:Bool),Ca P (leaves P d) off fs=some l->off+l.length=xs.length->off+l.length=ys.length->ai l (xs.drop off) (ys.drop off)=some b->(Op.eqFields bO us vs fs).run P C.w = .ok b C.w
 | [],off,l,b,O,_,_,F=>by
  simp only[Ca,Option.some.injEq]at O
  subst O
  have:=AN F
  simp only[List.length_nil,List.length_eq_zero_iff]at this
  rw[this.1,this.2]at F
  simp[ai]at F
  subst F
  rfl
 | f::fs,off,l,b,O,A,E,F=>by
  simp only[Ca]at O
  split at O
  ·rename_i hf
   obtain⟨hn,rfl,h0⟩:=hf
   obtain⟨l1,sW,kz⟩:=Option.bind_eq_some_iff.1 O
   obtain⟨l2,hl3,rfl⟩:=Option.map_eq_some_iff.1 kz
   have hz:=Cc sW
   simp only[List.length_append]at A E
   obtain⟨b1,b2,e1,e2,rfl⟩:=K7 F
   rw[hz]at e1 e2
   rw[List.drop_drop,List.drop_drop]at e2
   obtain⟨ah,Y,ch,hu,a'⟩:=Ij (P:=P) sW h0 hx (off:=f.offset) (by omega)
   obtain⟨t6,v,Bp,R,co⟩:=Ij (P:=P) sW h0 hy (off:=f.offset) (by omega)
   rw[ch]at Bp;cases Bp
   have hr:=ih f.type l1 sW _ _ b1 ah Y v ch e1 a' co
   simp only[Op.eqFields,hn,ne_eq,not_false_eq_true,if_true,Sem.run_bind,hu,R,Result.andThen_ok,hr]
   cases b1 with
   | false=>simp
   | true =>
    simp only[Bool.not_true,Bool.false_eq_true,if_false,Bool.true_and]
    exact run_eqFields_plain ih hx hy fs _ l2 b2 hl3 (by omega) (by omega) e2
  ·cases O
theorem YW {P:Program} {C:Ctx} {bO:Nat} {e:TypeId} {le:List Nat} {d:Nat} (a0:leaves P d e=some le) (ih:pa P C bO e le) (h0:0<P.cellsOf e) {xs ys:List AV} {us vs:Array Value} (hx:aD C xs us.toList) (hy:aD C ys vs.toList) :
  ∀(n i:Nat) (b:Bool),(i+n)*P.cellsOf e=xs.length->(i+n)*P.cellsOf e=ys.length->ai (rU n le) (xs.drop (i*P.cellsOf e)) (ys.drop (i*P.cellsOf e))=some b ->
   ((forIn (List.range' i n) ((none,()):Option Bool×Unit) fun i (_:Option Bool×Unit)=>(do
     let x <-part e us (i*P.cellsOf e)
     let y <-part e vs (i*P.cellsOf e)
     let r <-Op.equalIn bO e x y
     if(!r)=true then pure (ForInStep.done (some false,()))else pure (ForInStep.yield (none,())):Sem (ForInStep (Option Bool×Unit)))):Sem (Option Bool×Unit)).run P C.w = .ok (if b then none else some false,()) C.w
 | 0,i,b,_,_,F=>by
  have:=AN F
  simp only[rU,List.length_nil,List.length_eq_zero_iff]at this
  rw[this.1,this.2]at F
  simp[ai,rU]at F
  subst F
  rfl
 | n+1,i,b,A,E,F=>by
  have hz:=Cc a0
  simp only[rU]at F
  obtain⟨b1,b2,e1,e2,rfl⟩:=K7 F
  rw[hz]at e1 e2
  rw[List.drop_drop,List.drop_drop,show i*P.cellsOf e+P.cellsOf e=(i+1)*P.cellsOf e from by rw[Nat.add_mul];omega]at e2
  have agt:i*P.cellsOf e+P.cellsOf e<=xs.length:=by
   rw[<-A,<-Nat.succ_mul];exact Nat.mul_le_mul_right _ (by omega)
  have agu:i*P.cellsOf e+P.cellsOf e<=ys.length:=by
   rw[<-E,<-Nat.succ_mul];exact Nat.mul_le_mul_right _ (by omega)
  obtain⟨ah,Y,ch,hu,a'⟩:=Ij (P:=P) a0 h0 hx (off:=i*P.cellsOf e) agt
  obtain⟨t6,v,Bp,R,co⟩:=Ij (P:=P) a0 h0 hy (off:=i*P.cellsOf e) agu
  rw[ch]at Bp;cases Bp
  have hr:=ih _ _ b1 ah Y v ch e1 a' co
  simp only[List.range'_succ,List.forIn_cons,Sem.run_bind,hu,R,Result.andThen_ok,hr]
  cases b1 with
  | false=>simp
  | true =>
   simp only[Bool.not_true,Bool.false_eq_true,if_false,Bool.true_and,Sem.run_pure,Result.andThen_ok]
   exact YW a0 ih h0 hx hy n (i+1) b2 (by rw[<-A];congr 1;omega) (by rw[<-E];congr 1;omega) e2
theorem Ew {C:Ctx} {xs:List AV} {Y:Value} (h:ak C (oJ true xs) Y):∃us:Array Value,Y = .agg us/\aD C xs us.toList:=by
 simpa only[oJ,if_true,ak]using h
theorem aeG {a b:AV} {x:Bool} (h:lk 0 a b=some x):∃p q,a = .sc (.bool p)/\b = .sc (.bool q)/\x=(p==q):=by
 unfold lk at h
 split at h<;>first
  | contradiction
  | exact⟨_,_,rfl,rfl,by simpa using h.symm⟩
theorem aeH {a b:AV} {x:Bool} (h:lk 1 a b=some x):∃k p q,a = .sc (.int k p)/\b = .sc (.int k q)/\x=(p==q):=by
  unfold lk at h
  split at h<;>first
    | contradiction
    | (split at h
       · rename_i h1;subst h1;exact⟨_,_,_,rfl,rfl,by simpa using h.symm⟩
       · cases h)
theorem aeI {a b:AV} {x:Bool} (h:lk 2 a b=some x):∃p q,a = .sc (.string p)/\b = .sc (.string q)/\x=(p.toList==q.toList):=by
 unfold lk at h
 split at h<;>first
  | contradiction
  | exact⟨_,_,rfl,rfl,by simpa using h.symm⟩
theorem K9 {k:Nat} {xs ys:List AV} {b:Bool} (h:ai [k] xs ys=some b):∃x y,xs=[x]/\ys=[y]/\lk k x y=some b:=by
 obtain⟨A,E⟩:=AN h
 match xs,A,ys,E with
 | [x],_,[y],_ =>
  obtain⟨c,s,h3,h4,rfl⟩:=K8 h
  simp[ai]at h4;subst h4
  exact⟨x,y,rfl,rfl,by simpa using h3⟩
theorem K_ {P:Program} {C:Ctx}:∀(d bO:Nat) (t:TypeId) (l:List Nat),d<=bO->leaves P d t=some l->pa P C bO t l
 | 0,_,_,_,_,h=>by simp[leaves]at h
 | d+1,0,_,_,hd,_=>by omega
 | d+1,bO+1,t,l,hd,h=>by
  have hlen:=Cc h
  simp only[leaves]at h
  obtain⟨r,hr,i_⟩:=Option.bind_eq_some_iff.1 h
  have e:r=l:=by
   split at i_
   ·cases i_;rfl
   ·cases i_
  subst e
  clear i_ h
  intro xs ys b ah Y v ch F hu R
  obtain⟨hx,hy⟩:=AN F
  cases rg:P.underlying t with
  | none=>rw[rg]at hr;cases hr
  | some ds =>
   rw[rg]at hr
   unfold e5 at ch
   rw[rg]at ch
   cases ds<;>simp only[reduceCtorEq]at hr<;>simp only[Option.some.injEq]at ch<;>subst ch
   case bool =>
    cases hr
    obtain⟨x,y,rfl,rfl,A⟩:=K9 F
    obtain⟨p,q,rfl,rfl,rfl⟩:=aeG A
    simp only[oJ,Bool.false_eq_true,if_false,List.headD_cons,ak]at hu R
    subst hu;subst R
    exact run_equalIn_bool' _ _ _ _ _ rg
   case int k =>
    cases hr
    obtain⟨x,y,rfl,rfl,A⟩:=K9 F
    obtain⟨k',p,q,rfl,rfl,rfl⟩:=aeH A
    simp only[oJ,Bool.false_eq_true,if_false,List.headD_cons,ak]at hu R
    subst hu;subst R
    exact run_equalIn_int _ _ _ _ _ _ _ rg
   case string =>
    cases hr
    obtain⟨x,y,rfl,rfl,A⟩:=K9 F
    obtain⟨p,q,rfl,rfl,rfl⟩:=aeI A
    simp only[oJ,Bool.false_eq_true,if_false,List.headD_cons,ak]at hu R
    subst hu;subst R
    exact run_equalIn_string _ _ _ _ _ rg
   case array n e =>
    split at hr
    ·rename_i h0
     obtain⟨le,a0,rfl⟩:=Option.map_eq_some_iff.1 hr
     obtain⟨us,rfl,fL⟩:=Ew hu
     obtain⟨vs,rfl,iB⟩:=Ew R
     have hz:=Cc a0
     have Vo:∀n,(rU n le).length=n*P.cellsOf e:=fun n=>by
      induction n with
      | zero=>simp[rU]
      | succ n ih=>simp only[rU,List.length_append,ih,hz,Nat.succ_mul];omega
     have agj:=YW a0 (K_ d bO e le (by omega) a0) h0 fL iB n 0 b (by rw[hx,Vo];simp) (by rw[hy,Vo];simp) (by simpa using F)
     simp only[Op.equalIn,Sem.run_bind,run_underlying rg,Result.andThen_ok,oV h0]
     rw[Std.Legacy.Range.forIn_eq_forIn_range']
     have b9:(([:n]:Std.Legacy.Range)).size=n:=by simp[Std.Legacy.Range.size]
     rw[b9]
     rw[agj]
     cases b<;>rfl
    ·cases hr
   case struct fs =>
    split at hr
    ·cases hr
    ·rename_i fK
     obtain⟨us,rfl,fL⟩:=Ew hu
     obtain⟨vs,rfl,iB⟩:=Ew R
     have BC:P.fieldsOf t=fs:=by simp[Program.fieldsOf,rg]
     rw[run_equalIn_struct C.w bO t us vs (by rw[BC];exact rg) (by simpa using fK),BC]
     exact run_eqFields_plain (fun t' l' bY=>K_ d bO t' l' (by omega) bY) fL iB fs.toList 0 r b hr (by omega) (by omega) (by simpa using F)
end Go.Proofs.Aw
namespace Go.Proofs.Aw
open Go
def rk (N:Nat):Nat:=(N.log2+1022)*2 ^ 52+N*2 ^ (52-N.log2)
def a9 (n:Int) (z:Bool):Bool:=if n=0 then z else decide (n<0)
def fv (n:Int) (z:Bool):Nat:=(if a9 n z=true then 2 ^ 63 else 0)+(if n=0 then 0 else rk n.natAbs)
def pl (n:Int):Nat:=if n=0 then 1074 else 52-n.natAbs.log2
theorem GF {N:Nat} (h0:N≠0) (h:N<2 ^ 53):N.log2<=52:=by
 have:=(Nat.log2_lt h0).2 h
 omega
theorem NS {N:Nat} (h0:N≠0) (b:Nat):(N*2 ^ b).log2=N.log2+b:=by
 have hp:0<2 ^ b:=Nat.two_pow_pos b
 have ay:N*2 ^ b≠0:=Nat.mul_ne_zero h0 (by omega)
 have A:2 ^ N.log2<=N:=(Nat.le_log2 h0).1 (Nat.le_refl _)
 have E:N<2 ^ (N.log2+1):=(Nat.log2_lt h0).1 (Nat.lt_succ_self _)
 have g1:N.log2+b<=(N*2 ^ b).log2:=(Nat.le_log2 ay).2 (by rw[Nat.pow_add];exact Nat.mul_le_mul_right _ A)
 have g2:(N*2 ^ b).log2<N.log2+b+1:=(Nat.log2_lt ay).2 (by
  rw[show N.log2+b+1=N.log2+1+b by omega,Nat.pow_add]
  exact Nat.mul_lt_mul_of_pos_right E hp)
 omega
theorem NB {N:Nat} (h0:N≠0) (h:N<2 ^ 53):2 ^ 52<=N*2 ^ (52-N.log2)/\N*2 ^ (52-N.log2)<2 ^ 53:=by
 have O:=GF h0 h
 have A:2 ^ N.log2<=N:=(Nat.le_log2 h0).1 (Nat.le_refl _)
 have E:N<2 ^ (N.log2+1):=(Nat.log2_lt h0).1 (Nat.lt_succ_self _)
 constructor
 ·calc 2 ^ 52=2 ^ N.log2*2 ^ (52-N.log2):=by rw[<-Nat.pow_add];congr 1;omega
   _<=_:=Nat.mul_le_mul_right _ A
 ·calc N*2 ^ (52-N.log2)<2 ^ (N.log2+1)*2 ^ (52-N.log2):=Nat.mul_lt_mul_of_pos_right E (Nat.two_pow_pos _)
   _=2 ^ 53:=by rw[<-Nat.pow_add];congr 1;omega
theorem PG {N:Nat} (h0:N≠0) (h:N<2 ^ 53):2 ^ 52<=rk N/\rk N<1076*2 ^ 52:=by
 have O:=GF h0 h
 obtain⟨k1,k2⟩:=NB h0 h
 unfold rk
 generalize N*2 ^ (52-N.log2)=k at *
 generalize N.log2=l at *
 constructor<;>omega
theorem aaN (s:Bool) (r:Nat):Ieee.double.word s r=(if s=true then 2 ^ 63 else 0)+r:=by
 cases s<;>simp[Ieee.Format.word,Ieee.Format.signWeight,Ieee.double]
theorem S8 (s:Bool) {dr:Nat} (d:Nat) (hd:d<=(dr*2 ^ d).log2+2):Ieee.Toward.even.cut s (dr*2 ^ d) d=dr:=by
 unfold Ieee.Toward.cut
 rw[Nat.min_eq_left hd,Nat.one_shiftLeft]
 have hp:0<2 ^ d:=Nat.two_pow_pos d
 simp only[Nat.mul_div_cancel _ hp,Nat.mul_mod_left,Nat.mul_zero]
 simp
theorem ai6 (s:Bool) {N:Nat} (h0:N≠0) (h:N<2 ^ 53) (b:Nat):Ieee.double.nearest s (N*2 ^ b) (-(b:Int))=(if s=true then 2 ^ 63 else 0)+rk N:=by
 have O:=GF h0 h
 have hp:0<2 ^ b:=Nat.two_pow_pos b
 have ay:N*2 ^ b≠0:=Nat.mul_ne_zero h0 (by omega)
 obtain⟨k1,k2⟩:=NB h0 h
 have lp:Ieee.double.leastPlace = -1074:=by decide
 have lf:(Ieee.double.fractionBits:Int)=52:=rfl
 unfold Ieee.Format.nearest
 rw[if_neg ay,NS h0]
 have BI:max (-(b:Int)+((N.log2+b:Nat):Int)-(Ieee.double.fractionBits:Int)) Ieee.double.leastPlace=(N.log2:Int)-52:=by rw[lp,lf];omega
 rw[BI,lp,aaN]
 have u:Ieee.Toward.even.cut s ((N*2 ^ b) <<< (-(b:Int)-((N.log2:Int)-52)).toNat) (((N.log2:Int)-52) - -(b:Int)).toNat=N*2 ^ (52-N.log2):=by
  rcases Nat.le_total b (52-N.log2)with H | H
  ·rw[show(((N.log2:Int)-52) - -(b:Int)).toNat=0 by omega,show(-(b:Int)-((N.log2:Int)-52)).toNat=52-N.log2-b by omega]
   rw[Nat.shiftLeft_eq,Nat.mul_assoc,<-Nat.pow_add,show b+(52-N.log2-b)=52-N.log2 by omega]
   have:=S8 s (dr:=N*2 ^ (52-N.log2)) 0 (by omega)
   rwa[Nat.pow_zero,Nat.mul_one]at this
  ·rw[show(-(b:Int)-((N.log2:Int)-52)).toNat=0 by omega,show(((N.log2:Int)-52) - -(b:Int)).toNat=b-(52-N.log2)by omega]
   rw[Nat.shiftLeft_zero]
   have e:N*2 ^ b=N*2 ^ (52-N.log2)*2 ^ (b-(52-N.log2)):=by rw[Nat.mul_assoc,<-Nat.pow_add];congr 2;omega
   rw[e]
   refine S8 s _ ?_
   rw[<-e,NS h0]
   omega
 rw[u]
 have hr:((N.log2:Int)-52 - -1074).toNat*Ieee.double.binade+N*2 ^ (52-N.log2)=rk N:=by
  rw[show((N.log2:Int)-52 - -1074).toNat=N.log2+1022 by omega]
  rfl
 rw[hr,Nat.min_eq_left]
 have:=(PG h0 h).2
 have e:Ieee.double.infRung=2047*2 ^ 52:=by decide
 omega
theorem rR {n:Int} {z:Bool} (h:n.natAbs<2 ^ 53):Ieee.double.read (fv n z) = .number (a9 n z) (n.natAbs*2 ^ pl n) (-(pl n:Int)):=by
 have arm:Ieee.double.signWeight=2 ^ 63:=by decide
 have adB:Ieee.double.binade=2 ^ 52:=by decide
 have ag8:Ieee.double.infRung=2047*2 ^ 52:=by decide
 have lp:Ieee.double.leastPlace = -1074:=by decide
 unfold Ieee.Format.read
 rw[arm,adB,ag8,lp]
 by_cases h0:n=0
 ·subst h0
  have e1:fv 0 z=if z=true then 2 ^ 63 else 0:=by simp[fv,a9]
  rw[e1]
  have e2:a9 0 z=z:=by simp[a9]
  rw[e2,Int.natAbs_zero,Nat.zero_mul]
  cases z<;>simp[pl]
 ·have ha:n.natAbs≠0:=by omega
  obtain⟨r1,r2⟩:=PG ha h
  obtain⟨k1,k2⟩:=NB ha h
  have O:=GF ha h
  have e1:fv n z=(if a9 n z=true then 2 ^ 63 else 0)+rk n.natAbs:=by simp[fv,h0]
  have e2:fv n z / 2 ^ 63 % 2=(if a9 n z=true then 1 else 0):=by
   rw[e1];split<;>omega
  have e3:fv n z % 2 ^ 63=rk n.natAbs:=by
   rw[e1];split<;>omega
  simp only[e2,e3]
  have s1:((if a9 n z=true then 1 else 0:Nat)==1)=a9 n z:=by cases a9 n z<;>rfl
  rw[s1,if_neg (by omega),if_pos (by omega)]
  have p1:pl n=52-n.natAbs.log2:=by simp[pl,h0]
  have q1:rk n.natAbs / 2 ^ 52=n.natAbs.log2+1023:=by
   unfold rk
   generalize n.natAbs*2 ^ (52-n.natAbs.log2)=k at *
   generalize n.natAbs.log2=l at *
   omega
  have q2:2 ^ 52+rk n.natAbs % 2 ^ 52=n.natAbs*2 ^ (52-n.natAbs.log2):=by
   unfold rk
   generalize n.natAbs*2 ^ (52-n.natAbs.log2)=k at *
   generalize n.natAbs.log2=l at *
   omega
  rw[q1,q2,p1]
  have e:(-1074:Int)+((n.natAbs.log2+1023-1:Nat):Int) = -((52-n.natAbs.log2:Nat):Int):=by omega
  rw[e]
theorem Jb (n:Int) (z:Bool) (h:n.natAbs<2 ^ 53) (b:Nat):Ieee.double.write (.number (a9 n z) (n.natAbs*2 ^ b) (-(b:Int)))=fv n z:=by
 show Ieee.double.nearest (a9 n z) (n.natAbs*2 ^ b) (-(b:Int))=fv n z
 by_cases h0:n=0
 ·subst h0
  unfold Ieee.Format.nearest
  rw[if_pos (by simp),aaN]
  simp[fv]
 ·rw[ai6 _ (by omega) h b]
  simp[fv,h0]
theorem Dh (n:Int) (z:Bool) (b c:Nat):Ieee.signed (a9 n z) (n.natAbs*2 ^ b) c=n*2 ^ (b+c):=by
 have key:((n.natAbs*2 ^ b) <<< c:Nat)=n.natAbs*2 ^ (b+c):=by rw[Nat.shiftLeft_eq,Nat.mul_assoc,<-Nat.pow_add]
 unfold Ieee.signed
 rw[key]
 by_cases h0:n=0
 ·subst h0;cases z<;>simp[a9]
 ·by_cases hn:n<0
  ·rw[if_pos (by simp[a9,h0,hn])]
   rw[Int.natCast_mul,Int.ofNat_natAbs_of_nonpos (by omega),Int.natCast_pow]
   simp[Int.neg_mul]
  ·rw[if_neg (by simp[a9,h0,hn])]
   rw[Int.natCast_mul,Int.natAbs_of_nonneg (by omega),Int.natCast_pow]
   simp
theorem ZI (n m:Int) (y z:Bool) (a b:Nat):Ieee.Datum.sum (.number (a9 n y) (n.natAbs*2 ^ a) (-(a:Int))) (.number (a9 m z) (m.natAbs*2 ^ b) (-(b:Int))) =
  some (.number (a9 (n+m) (a9 n y&&a9 m z)) ((n+m).natAbs*2 ^ (max a b)) (-((max a b:Nat):Int))):=by
 unfold Ieee.Datum.sum
 have hb:min (-(a:Int)) (-(b:Int)) = -((max a b:Nat):Int):=by omega
 simp only[hb]
 have ha:(-(a:Int) - -((max a b:Nat):Int)).toNat=max a b-a:=by omega
 have gc:(-(b:Int) - -((max a b:Nat):Int)).toNat=max a b-b:=by omega
 rw[ha,gc,Dh,Dh,show a+(max a b-a)=max a b by omega,show b+(max a b-b)=max a b by omega]
 have e:n*2 ^ (max a b)+m*2 ^ (max a b)=(n+m)*2 ^ (max a b):=by rw[Int.add_mul]
 rw[e]
 have hp:(0:Int)<2 ^ (max a b):=Int.pow_pos (by decide)
 have e1:((n+m)*2 ^ (max a b)).natAbs=(n+m).natAbs*2 ^ (max a b):=by
  rw[Int.natAbs_mul,Int.natAbs_pow];rfl
 rw[e1]
 have e2:(if(n+m)*2 ^ (max a b)=0 then(a9 n y&&a9 m z)else decide ((n+m)*2 ^ (max a b)<0))=a9 (n+m) (a9 n y&&a9 m z):=by
  unfold a9
  by_cases h0:n+m=0
  ·rw[if_pos (by rw[h0,Int.zero_mul]),if_pos h0]
  ·rw[if_neg (Int.mul_ne_zero h0 (by omega)),if_neg h0]
   by_cases A:n+m<0
   ·rw[decide_eq_true A,decide_eq_true (Int.mul_neg_of_neg_of_pos A hp)]
   ·rw[decide_eq_false A,decide_eq_false (by have:=Int.mul_nonneg (show 0<=n+m by omega) (Int.le_of_lt hp);omega)]
 rw[<-e2]
theorem afa {n m:Int} {y z:Bool} (hn:n.natAbs<2 ^ 53) (hm:m.natAbs<2 ^ 53) (hs:(n+m).natAbs<2 ^ 53):Ieee.double.add (fv n y) (fv m z)=some (fv (n+m) (a9 n y&&a9 m z)):=by
 unfold Ieee.Format.add
 rw[rR hn,rR hm,ZI,Option.map_some,Jb _ _ hs]
theorem Zt (n:Int) (z:Bool):(!a9 n z)=a9 (-n) (!z):=by
 unfold a9
 by_cases h0:n=0
 ·subst h0;simp
 ·rw[if_neg h0,if_neg (by omega)]
  by_cases h:n<0
  ·rw[decide_eq_true h,decide_eq_false (by omega)];rfl
  ·rw[decide_eq_false h,decide_eq_true (by omega)];rfl
theorem afv {n m:Int} {y z:Bool} (hn:n.natAbs<2 ^ 53) (hm:m.natAbs<2 ^ 53) (hs:(n-m).natAbs<2 ^ 53):Ieee.double.sub (fv n y) (fv m z)=some (fv (n-m) (a9 n y && !a9 m z)):=by
 unfold Ieee.Format.sub
 rw[rR hn,rR hm]
 simp only[Ieee.Datum.opposite]
 rw[Zt,show m.natAbs=(-m).natAbs by omega,ZI,Option.map_some,<-Int.sub_eq_add_neg,Jb _ _ hs]
theorem afn {n m:Int} {y z:Bool} (hn:n.natAbs<2 ^ 53) (hm:m.natAbs<2 ^ 53) (hs:(n*m).natAbs<2 ^ 53):Ieee.double.mul (fv n y) (fv m z)=some (fv (n*m) (a9 n y ^^ a9 m z)):=by
 unfold Ieee.Format.mul
 rw[rR hn,rR hm]
 simp only[Ieee.Datum.product,Option.map_some]
 have e1:n.natAbs*2 ^ pl n*(m.natAbs*2 ^ pl m)=(n*m).natAbs*2 ^ (pl n+pl m):=by
  rw[Int.natAbs_mul,Nat.pow_add];ac_rfl
 have e2 : -(pl n:Int) + -(pl m:Int) = -((pl n+pl m:Nat):Int):=by omega
 have e3:(a9 n y ^^ a9 m z)=a9 (n*m) (a9 n y ^^ a9 m z):=by
  unfold a9
  by_cases h0:n=0
  ·subst h0;simp
  ·by_cases A:m=0
   ·subst A;simp
   ·rw[if_neg h0,if_neg A,if_neg (Int.mul_ne_zero h0 A)]
    by_cases a:n<0
    ·by_cases b:m<0
     ·have:=Int.mul_pos_of_neg_of_neg a b
      rw[decide_eq_true a,decide_eq_true b,decide_eq_false (by omega)];rfl
     ·have:=Int.mul_neg_of_neg_of_pos a (show 0<m by omega)
      rw[decide_eq_true a,decide_eq_false b,decide_eq_true this];rfl
    ·by_cases b:m<0
     ·have:=Int.mul_neg_of_pos_of_neg (show 0<n by omega) b
      rw[decide_eq_false a,decide_eq_true b,decide_eq_true this];rfl
     ·have:=Int.mul_pos (show 0<n by omega) (show 0<m by omega)
      rw[decide_eq_false a,decide_eq_false b,decide_eq_false (by omega)];rfl
 rw[e1,e2,e3,Jb _ _ hs,<-e3]
theorem afp {n m:Int} {y z:Bool} (hn:n.natAbs<2 ^ 53) (hm:m.natAbs<2 ^ 53):Ieee.double.order (fv n y) (fv m z)=some (compare n m):=by
 unfold Ieee.Format.order
 rw[rR hn,rR hm]
 unfold Ieee.Datum.order
 generalize pl n=a
 generalize pl m=b
 have hb:min (-(a:Int)) (-(b:Int)) = -((max a b:Nat):Int):=by omega
 simp only[hb]
 have ha:(-(a:Int) - -((max a b:Nat):Int)).toNat=max a b-a:=by omega
 have gc:(-(b:Int) - -((max a b:Nat):Int)).toNat=max a b-b:=by omega
 rw[ha,gc,Dh,Dh,show a+(max a b-a)=max a b by omega,show b+(max a b-b)=max a b by omega]
 have hp:(0:Int)<2 ^ (max a b):=Int.pow_pos (by decide)
 congr 1
 have lt:n*2 ^ (max a b)<m*2 ^ (max a b)↔n<m:=⟨fun h=>Int.lt_of_mul_lt_mul_right h (Int.le_of_lt hp),fun h=>Int.mul_lt_mul_of_pos_right h hp⟩
 have eq:n*2 ^ (max a b)=m*2 ^ (max a b)↔n=m:=⟨fun h=>Int.eq_of_mul_eq_mul_right (by omega) h,fun h=>by rw[h]⟩
 simp only[compare,compareOfLessAndEq,lt,eq]
theorem afi {n:Int} {z:Bool} (hn:n.natAbs<2 ^ 53):(Ieee.double.read (fv n z)).toInt .zero=some n:=by
 rw[rR hn]
 unfold Ieee.Datum.toInt Ieee.Datum.integral
 simp only
 have e0:(-(pl n:Int)).toNat=0:=by omega
 have e1:(- -(pl n:Int)).toNat=pl n:=by omega
 rw[e0,e1,Nat.shiftLeft_zero]
 have H:Ieee.Toward.zero.cut (a9 n z) (n.natAbs*2 ^ pl n) (pl n)=n.natAbs:=by
  unfold Ieee.Toward.cut
  by_cases h0:n=0
  ·subst h0;simp
  ·have O:pl n<=(n.natAbs*2 ^ pl n).log2+2:=by rw[NS (by omega)];omega
   rw[Nat.min_eq_left O,Nat.one_shiftLeft]
   have hp:0<2 ^ pl n:=Nat.two_pow_pos _
   simp only[Nat.mul_div_cancel _ hp]
   rfl
 rw[H]
 have:=Dh n z 0 0
 simp only[Nat.pow_zero,Nat.mul_one,Int.pow_zero,Int.mul_one,Nat.add_zero]at this
 rw[this]
theorem afo (n:Int) (hn:n.natAbs<2 ^ 53):FloatKind.f64.nearest n=fv n false:=by
 have h:=Jb n false hn 0
 have e:a9 n false=decide (n<0):=by
  unfold a9;split
  ·rename_i h0;subst h0;rfl
  ·rfl
 rw[e,Nat.pow_zero,Nat.mul_one]at h
 exact h
theorem LP {n:Int} {z:Bool} (hn:n.natAbs<2 ^ 53):Op.negFloat .f64 (fv n z)=fv (-n) (!z):=by
 have w:∀(s:Bool) (r:Nat),r<2 ^ 63->Nat.xor ((if s=true then 2 ^ 63 else 0)+r) (2 ^ 63)=(if(!s)=true then 2 ^ 63 else 0)+r:=by
  intro s r hr
  have x:2 ^ 63 ^^^ r=2 ^ 63+r:=by
   have:=Nat.two_pow_add_eq_or_of_lt hr 1
   rw[Nat.mul_one]at this
   rw[this]
   refine Nat.eq_of_testBit_eq fun i => ?_
   rw[Nat.testBit_xor,Nat.testBit_or,Nat.testBit_two_pow]
   by_cases hi:63=i
   ·subst hi;rw[Nat.testBit_lt_two_pow hr];simp
   ·simp[hi]
  cases s
  ·simp only[Bool.false_eq_true,if_false,Nat.zero_add,Bool.not_false,if_true]
   rw[<-x];exact Nat.xor_comm _ _
  ·simp only[if_true,Bool.not_true,Bool.false_eq_true,if_false,Nat.zero_add]
   rw[<-x]
   show(2 ^ 63 ^^^ r) ^^^ 2 ^ 63=r
   rw[Nat.xor_comm,<-Nat.xor_assoc,Nat.xor_self,Nat.zero_xor]
 have hr:(if n=0 then 0 else rk n.natAbs)<2 ^ 63:=by
  split
  ·decide
  ·have:=(PG (N:=n.natAbs) (by omega) hn).2
   omega
 have e:Op.negFloat .f64 (fv n z)=Nat.xor (fv n z) (2 ^ 63):=rfl
 rw[e]
 unfold fv
 rw[w _ _ hr,Zt,show(-n).natAbs=n.natAbs by omega]
 congr 1
 by_cases h0:n=0
 ·subst h0;rfl
 ·rw[if_neg h0,if_neg (by omega)]
end Go.Proofs.Aw
namespace Go.Proofs.Aw
open Go
def rm (op:BinOp) (k:IntKind) (a:Int) (k':IntKind) (b:Int):Option Value :=
 match op with
 | .shl=>if 0<=b then some (.int k (k.wrap (a*2 ^ (min b.toNat k.bits))))else none
 | .shr=>if 0<=b then some (.int k (a.fdiv (2 ^ (min b.toNat k.bits))))else none
 | .add=>if k=k' then some (.int k (k.wrap (a+b)))else none
 | .sub=>if k=k' then some (.int k (k.wrap (a-b)))else none
 | .mul=>if k=k' then some (.int k (k.wrap (a*b)))else none
 | .quo=>if k=k'/\b≠0 then some (.int k (k.wrap (a.tdiv b)))else none
 | .rem=>if k=k'/\b≠0 then some (.int k (a.tmod b))else none
 | .and=>if k=k' then some (.int k (bits .and k a b))else none
 | .or=>if k=k' then some (.int k (bits .or k a b))else none
 | .xor=>if k=k' then some (.int k (bits .xor k a b))else none
 | .andNot=>if k=k' then some (.int k (bits .andNot k a b))else none
 | .lss=>if k=k' then some (.bool (decide (a<b)))else none
 | .leq=>if k=k' then some (.bool (decide (a<=b)))else none
 | .gtr=>if k=k' then some (.bool (decide (b<a)))else none
 | .geq=>if k=k' then some (.bool (decide (b<=a)))else none
 | .eql=>if k=k' then some (.bool (a==b))else none
 | .neq=>if k=k' then some (.bool (!(a==b)))else none
def Dn (op:BinOp) (a b:ByteArray):Option Value :=
 match op with
 | .eql=>some (.bool (a.toList==b.toList))
 | .neq=>some (.bool (!(a.toList==b.toList)))
 | .lss=>some (.bool (Op.bytesLess a.toList b.toList))
 | .leq=>some (.bool (Op.bytesLess a.toList b.toList||a.toList==b.toList))
 | .gtr=>some (.bool (!(Op.bytesLess a.toList b.toList||a.toList==b.toList)))
 | .geq=>some (.bool (!Op.bytesLess a.toList b.toList))
 | _=>none
theorem aq0 {P:Program} {op:BinOp} {k k':IntKind} {a b:Int} {v:Value} (h:rm op k a k' b=some v) (ty:TypeId) (w:World):(binOp op ty (.int k a) (.int k' b)).run P w = .ok v w:=by
 cases op<;>simp only[rm]at h<;>split at h<;>first | cases h | skip
 case shl.isTrue hb=>simp[binOp,Op.shift,Int.not_lt.2 hb]
 case shr.isTrue hb=>simp[binOp,Op.shift,Int.not_lt.2 hb]
 case quo.isTrue hb=>simp[binOp,hb.1,Op.intDiv,hb.2]
 case rem.isTrue hb=>simp[binOp,hb.1,Op.intDiv,hb.2]
 all_goals (rename_i u;subst u)
 all_goals first
  | (simp[binOp,Op.intArith];done)
  | (simp[binOp,Op.intCmp];done)
  | (simp[binOp,Op.intCmp,bne];done)
  | (simp[binOp,intBits_and,intBits_or,intBits_xor,intBits_andNot];done)
theorem aq3 {P:Program} {op:BinOp} {a b:ByteArray} {v:Value} (h:Dn op a b=some v) (ty:TypeId) (w:World):(binOp op ty (.string a) (.string b)).run P w = .ok v w:=by
 cases op<;>simp only[Dn,Option.some.injEq,reduceCtorEq]at h<;>subst h<;>simp[binOp,Op.stringOp]
def e6 (op:BinOp) (a b:Nat):Option Value :=
 match op with
 | .add=>(Ieee.double.add a b).map (.float .f64)
 | .sub=>(Ieee.double.sub a b).map (.float .f64)
 | .mul=>(Ieee.double.mul a b).map (.float .f64)
 | .eql=>some (.bool (Ieee.double.order a b==some .eq))
 | .neq=>some (.bool (Ieee.double.order a b != some .eq))
 | .lss=>some (.bool (Ieee.double.order a b==some .lt))
 | .leq=>some (.bool (Ieee.double.order a b==some .lt||Ieee.double.order a b==some .eq))
 | .gtr=>some (.bool (Ieee.double.order a b==some .gt))
 | .geq=>some (.bool (Ieee.double.order a b==some .gt||Ieee.double.order a b==some .eq))
 | _=>none
theorem aqZ {P:Program} {op:BinOp} {a b:Nat} {v:Value} (h:e6 op a b=some v) (ty:TypeId) (w:World):(binOp op ty (.float .f64 a) (.float .f64 b)).run P w = .ok v w:=by
 cases op<;>simp only[e6,reduceCtorEq]at h
 case add=>obtain⟨r,hr,rfl⟩:=Option.map_eq_some_iff.1 h;simp[binOp,Op.floatArith,FloatKind.format,hr]
 case sub=>obtain⟨r,hr,rfl⟩:=Option.map_eq_some_iff.1 h;simp[binOp,Op.floatArith,FloatKind.format,hr]
 case mul=>obtain⟨r,hr,rfl⟩:=Option.map_eq_some_iff.1 h;simp[binOp,Op.floatArith,FloatKind.format,hr]
 all_goals (cases h;simp[binOp,Op.floatCmp,FloatKind.format])
def KE (wt sw eE xk:Option Nat):Option Value :=
 match wt,sw,eE,xk with
 | some wt,some sw,some eE,some xk=>match Ieee.double.sub wt sw,Ieee.double.add eE xk with
  | some x,some y=>some (.complex .f64 x y)
  | _,_=>none
 | _,_,_,_=>none
def qH (op:BinOp) (a b c d:Nat):Option Value :=
 match op with
 | .add=>match Ieee.double.add a c,Ieee.double.add b d with
  | some x,some y=>some (.complex .f64 x y)
  | _,_=>none
 | .sub=>match Ieee.double.sub a c,Ieee.double.sub b d with
  | some x,some y=>some (.complex .f64 x y)
  | _,_=>none
 | .mul=>KE (Ieee.double.mul a c) (Ieee.double.mul b d) (Ieee.double.mul a d) (Ieee.double.mul b c)
 | .eql=>some (.bool ((Ieee.double.order a c==some .eq)&&(Ieee.double.order b d==some .eq)))
 | .neq=>some (.bool !((Ieee.double.order a c==some .eq)&&(Ieee.double.order b d==some .eq)))
 | _=>none
theorem aqY {P:Program} {op:BinOp} {a b r:Nat} (h:e6 op a b=some (.float .f64 r)) (w:World):(Op.Complex.arith op .f64 a b).run P w = .ok r w:=by
 cases op<;>simp only[e6,reduceCtorEq,Option.some.injEq]at h
 case add=>obtain⟨r,hr,e⟩:=Option.map_eq_some_iff.1 h;cases e;simp[Op.Complex.arith,Op.floatArith,FloatKind.format,hr]
 case sub=>obtain⟨r,hr,e⟩:=Option.map_eq_some_iff.1 h;cases e;simp[Op.Complex.arith,Op.floatArith,FloatKind.format,hr]
 case mul=>obtain⟨r,hr,e⟩:=Option.map_eq_some_iff.1 h;cases e;simp[Op.Complex.arith,Op.floatArith,FloatKind.format,hr]
theorem aqX {P:Program} {op:BinOp} {a b c d:Nat} {v:Value} (h:qH op a b c d=some v) (ty:TypeId) (w:World):(binOp op ty (.complex .f64 a b) (.complex .f64 c d)).run P w = .ok v w:=by
 have pf:∀{op:BinOp} {x y r:Nat},e6 op x y=some (.float .f64 r)->(Op.Complex.arith op .f64 x y).run P w = .ok r w:=fun h=>aqY h w
 cases op<;>simp only[qH,reduceCtorEq]at h
 case add =>
  split at h
  ·rename_i x y A E
   cases h
   have e1:=pf (op := .add) (x:=a) (y:=c) (r:=x) (by simp[e6,A])
   have e2:=pf (op := .add) (x:=b) (y:=d) (r:=y) (by simp[e6,E])
   simp[binOp,Op.complexOp,e1,e2]
  ·cases h
 case sub =>
  split at h
  ·rename_i x y A E
   cases h
   have e1:=pf (op := .sub) (x:=a) (y:=c) (r:=x) (by simp[e6,A])
   have e2:=pf (op := .sub) (x:=b) (y:=d) (r:=y) (by simp[e6,E])
   simp[binOp,Op.complexOp,e1,e2]
  ·cases h
 case mul =>
  unfold KE at h
  split at h
  ·rename_i wt sw eE xk A E h3 h4
   split at h
   ·rename_i x y h5 h6
    cases h
    have e1:=pf (op := .mul) (x:=a) (y:=c) (r:=wt) (by simp[e6,A])
    have e2:=pf (op := .mul) (x:=b) (y:=d) (r:=sw) (by simp[e6,E])
    have e3:=pf (op := .mul) (x:=a) (y:=d) (r:=eE) (by simp[e6,h3])
    have e4:=pf (op := .mul) (x:=b) (y:=c) (r:=xk) (by simp[e6,h4])
    have iV:=pf (op := .sub) (x:=wt) (y:=sw) (r:=x) (by simp[e6,h5])
    have KZ:=pf (op := .add) (x:=eE) (y:=xk) (r:=y) (by simp[e6,h6])
    simp[binOp,Op.complexOp,Op.Complex.conv,Op.Complex.product,Op.Complex.mul,Op.Complex.sub,Op.Complex.add,e1,e2,e3,e4,iV,KZ]
   ·cases h
  ·cases h
 all_goals (cases h;simp[binOp,Op.complexOp,Op.Complex.cmp,Op.floatCmp,FloatKind.format];rfl)
theorem wL {P:Program} (op:BinOp) (ty:TypeId) (x y:Operand) (Y v:Value) (A:∀c,Y ≠ .agg c) (E:Y ≠ .nilIface) (w:World):(eqGuard op ty x y Y v).run P w = .ok () w:=by
 cases Y<;>first
  | exact absurd rfl (A _)
  | exact absurd rfl E
  | (cases op<;>rfl)
def vR (P:Program) (ty:TypeId):Option (List Nat):=if P.eqGuardType P.depth ty=false/\e5 P ty=some true then leaves P 8 ty else none
def xo (P:Program) (ty:TypeId):Bool:=match P.underlying ty with | some .bool=>true | _=>false
def gw (P:Program) (op:BinOp) (ty:TypeId) (x y:AV):Option AV :=
 match x,y with
 | .sc (.int k a),.sc (.int k' b)=>(rm op k a k' b).map .sc
 | .sc (.string a),.sc (.string b)=>(Dn op a b).map .sc
 | .sc (.bool a),.sc (.bool b)=>match xo P ty,op with
  | true,.eql=>some (.sc (.bool (a==b)))
  | true,.neq=>some (.sc (.bool (!(a==b))))
  | _,_=>none
 | .sc (.float .f64 a),.sc (.float .f64 b)=>(e6 op a b).map .sc
 | .sc (.complex .f64 a b),.sc (.complex .f64 c d)=>(qH op a b c d).map .sc
 | .agg xs,.agg ys=>match op with
  | .eql=>(vR P ty).bind fun l=>(ai l xs ys).map fun b => .sc (.bool b)
  | .neq=>(vR P ty).bind fun l=>(ai l xs ys).map fun b => .sc (.bool (!b))
  | _=>none
 | _,_=>none
theorem YV {P:Program} {C:Ctx} {ty:TypeId} {xs ys:List AV} {us vs:Array Value} {l:List Nat} {b:Bool} (O:vR P ty=some l) (F:ai l xs ys=some b) (hx:aD C xs us.toList) (hy:aD C ys vs.toList) (x y:Operand) (op:BinOp) :
  (eqGuard op ty x y (.agg us) (.agg vs)).run P C.w = .ok () C.w/\(Op.equalIn 10000 ty (.agg us) (.agg vs)).run P C.w = .ok b C.w:=by
 unfold vR at O
 split at O
 ·rename_i Z
  refine⟨run_eqGuard_agg C.w op ty x y us vs Z.1,?_⟩
  exact K_ 8 10000 ty l (by omega) O xs ys b true _ _ Z.2 F (by simp only[oJ,if_true,ak];exact⟨us,rfl,hx⟩) (by simp only[oJ,if_true,ak];exact⟨vs,rfl,hy⟩)
 ·cases O
section
variable {P:Program} {n:Nat} {t:Tp} {h:Hp}
theorem ab0 {op:BinOp} {ty ty':TypeId} {x y:Operand} {v:AV} (R:gw P op ty (ev t x) (ev t y)=some v):Yields P n (.binOp op ty x y ty') t h v [] :=
 Yields.pure fun C a o ho W ht=>by
  have A:=b4 ht x
  have E:=b4 ht y
  revert A E R
  generalize ev t x=X
  generalize ev t y=abU
  intro R A E
  have key:∀(Y:Value),(eqGuard op ty x y (a.eval x) (a.eval y)).run P C.w = .ok () C.w->(binOp op ty (a.eval x) (a.eval y)).run P C.w = .ok Y C.w->(execOp a.eval o).run P C.w = .ok (.value Y) C.w:=by
   intro Y e1 e2
   unfold execOp
   rw[ho]
   simp only[Sem.run_bind,e1,e2,Result.andThen_ok]
   rfl
  unfold gw at R
  split at R
  ·simp only[ak]at A E
   obtain⟨Y,hu,rfl⟩:=Option.map_eq_some_iff.1 R
   refine⟨Y,key Y ?_ ?_,by simp only[ak]⟩
   ·rw[A];exact wL _ _ _ _ _ _ (by simp) (by simp) _
   ·rw[A,E];exact aq0 hu _ _
  ·simp only[ak]at A E
   obtain⟨Y,hu,rfl⟩:=Option.map_eq_some_iff.1 R
   refine⟨Y,key Y ?_ ?_,by simp only[ak]⟩
   ·rw[A];exact wL _ _ _ _ _ _ (by simp) (by simp) _
   ·rw[A,E];exact aq3 hu _ _
  ·simp only[ak]at A E
   have Z:(eqGuard op ty x y (a.eval x) (a.eval y)).run P C.w = .ok () C.w:=by rw[A];exact wL _ _ _ _ _ _ (by simp) (by simp) _
   split at R
   ·rename_i hb
    cases R
    have hu:P.underlying ty=some .bool:=by
     unfold xo at hb
     split at hb
     ·assumption
     ·cases hb
    exact⟨_,key _ Z (by rw[A,E];exact run_eql_bool _ _ _ _ hu),by simp only[ak]⟩
   ·rename_i hb
    cases R
    have hu:P.underlying ty=some .bool:=by
     unfold xo at hb
     split at hb
     ·assumption
     ·cases hb
    exact⟨_,key _ Z (by rw[A,E];exact run_neq_bool _ _ _ _ hu),by simp only[ak]⟩
   ·cases R
  ·simp only[ak]at A E
   obtain⟨Y,hu,rfl⟩:=Option.map_eq_some_iff.1 R
   refine⟨Y,key Y ?_ ?_,by simp only[ak]⟩
   ·rw[A];exact wL _ _ _ _ _ _ (by simp) (by simp) _
   ·rw[A,E];exact aqZ hu _ _
  ·simp only[ak]at A E
   obtain⟨Y,hu,rfl⟩:=Option.map_eq_some_iff.1 R
   refine⟨Y,key Y ?_ ?_,by simp only[ak]⟩
   ·rw[A];exact wL _ _ _ _ _ _ (by simp) (by simp) _
   ·rw[A,E];exact aqX hu _ _
  ·simp only[ak]at A E
   obtain⟨us,e1,hx⟩:=A
   obtain⟨vs,e2,hy⟩:=E
   split at R
   ·obtain⟨l,O,R⟩:=Option.bind_eq_some_iff.1 R
    obtain⟨b,hb,rfl⟩:=Option.map_eq_some_iff.1 R
    obtain⟨g1,g2⟩:=YV O hb hx hy x y .eql
    exact⟨.bool b,key _ (by rw[e1,e2];exact g1) (by rw[e1,e2,run_eql_struct,g2];rfl),by simp only[ak]⟩
   ·obtain⟨l,O,R⟩:=Option.bind_eq_some_iff.1 R
    obtain⟨b,hb,rfl⟩:=Option.map_eq_some_iff.1 R
    obtain⟨g1,g2⟩:=YV O hb hx hy x y .neq
    exact⟨.bool (!b),key _ (by rw[e1,e2];exact g1) (by rw[e1,e2,run_neq_struct,g2];rfl),by simp only[ak]⟩
   ·cases R
  ·cases R
def si (op:UnOp) (x:AV):Option AV :=
 match op,x with
 | .not,.sc (.bool b)=>some (.sc (.bool (!b)))
 | .neg,.sc (.int k a)=>some (.sc (.int k (k.wrap (0-a))))
 | .neg,.sc (.float .f64 a)=>some (.sc (.float .f64 (Op.negFloat .f64 a)))
 | .neg,.sc (.complex .f64 a b)=>some (.sc (.complex .f64 (Op.negFloat .f64 a) (Op.negFloat .f64 b)))
 | _,_=>none
theorem acI {op:UnOp} {ty:TypeId} {x:Operand} {v:AV} (R:si op (ev t x)=some v):Yields P n (.unOp op ty x) t h v [] :=
 Yields.pure fun C a o ho W ht=>by
  have A:=b4 ht x
  revert A R
  generalize ev t x=X
  intro R A
  unfold si at R
  split at R
  ·cases R
   simp only[ak]at A
   refine⟨_,?_,by simp only[ak];rfl⟩
   unfold execOp
   rw[ho]
   simp only[A]
   rfl
  ·cases R
   simp only[ak]at A
   refine⟨_,?_,by simp only[ak];rfl⟩
   unfold execOp
   rw[ho]
   simp only[A]
   rfl
  ·cases R
   simp only[ak]at A
   refine⟨_,?_,by simp only[ak];rfl⟩
   unfold execOp
   rw[ho]
   simp only[A]
   rfl
  ·cases R
   simp only[ak]at A
   refine⟨_,?_,by simp only[ak];rfl⟩
   unfold execOp
   rw[ho]
   simp only[A]
   rfl
  ·cases R
def uU (P:Program) (dst:TypeId) (x:AV):Option AV :=
 match P.underlying dst,x with
 | some (.int k),.sc (.int _ i)=>some (.sc (.int k (k.wrap i)))
 | some (.float .f64),.sc (.int _ i)=>some (.sc (.float .f64 (FloatKind.f64.nearest i)))
 | some (.int k),.sc (.float .f64 b)=>match(Ieee.double.read b).toInt .zero with
  | some i=>if k.min<=i/\i<=k.max then some (.sc (.int k i))else none
  | none=>none
 | _,_=>none
theorem ab5 {src dst:TypeId} {x:Operand} {v:AV} (hs:(P.underlying src).isSome=true) (R:uU P dst (ev t x)=some v):Yields P n (.convert src dst x) t h v [] :=
 Yields.pure fun C a o ho W ht=>by
  have A:=b4 ht x
  revert A R
  generalize ev t x=X
  intro R A
  unfold uU at R
  split at R
  ·rename_i k k' i hd
   cases R
   simp only[ak]at A
   obtain⟨ds,jE⟩:=Option.isSome_iff_exists.1 hs
   refine⟨.int k (k.wrap i),?_,by simp only[ak]⟩
   unfold execOp
   rw[ho]
   simp only[A,convert,Sem.run_bind,run_underlying jE,run_underlying hd,Result.andThen_ok]
   cases ds<;>rfl
  ·rename_i k' i hd
   cases R
   simp only[ak]at A
   obtain⟨ds,jE⟩:=Option.isSome_iff_exists.1 hs
   refine⟨.float .f64 (FloatKind.f64.nearest i),?_,by simp only[ak]⟩
   unfold execOp
   rw[ho]
   simp only[A,convert,Sem.run_bind,run_underlying jE,run_underlying hd,Result.andThen_ok]
   cases ds<;>rfl
  ·rename_i k b hd
   split at R
   ·rename_i i hi
    split at R
    ·rename_i H
     cases R
     simp only[ak]at A
     obtain⟨ds,jE⟩:=Option.isSome_iff_exists.1 hs
     have e:(Conv.floatToInt .f64 b k).run P C.w = .ok (.int k i) C.w:=by
      have Mp:(FloatKind.f64.decode b).toInt .zero=some i:=hi
      unfold Conv.floatToInt
      simp only[Mp,H,and_self,if_true]
      rfl
     refine⟨.int k i,?_,by simp only[ak]⟩
     unfold execOp
     rw[ho]
     have c:(convert src dst (.float .f64 b)).run P C.w = .ok (.int k i) C.w:=by
      simp only[convert,Sem.run_bind,run_underlying jE,run_underlying hd,Result.andThen_ok]
      cases ds<;>exact e
     simp only[A,Sem.run_bind,c,Result.andThen_ok]
     rfl
    ·cases R
   ·cases R
  ·cases R
theorem tU {b:Builtin} {c:Call} (hb:c.callee = .builtin b) (ρ:Operand->Value) (w:World) (o:Oper) (ho:o.op = .call c) :
  (execOp ρ o).run P w=(builtin b c.argTypes o.type (c.args.map fun | .const _=>true | _=>false) (c.args.map ρ)).run P w:=by
 obtain⟨cal,args,gQ⟩:=c
 simp only at hb
 subst hb
 unfold execOp
 rw[ho]
 rfl
def uV:Builtin->List AV->Option AV
 | .real,[.sc (.complex k a _)]=>some (.sc (.float k a))
 | .imag,[.sc (.complex k _ b)]=>some (.sc (.float k b))
 | .complex,[.sc (.float .f64 a),.sc (.float .f64 b)]=>some (.sc (.complex .f64 a b))
 | _,_=>none
end
end Go.Proofs.Aw
namespace Go.Proofs.Aw
open Go
def ey (P:Program) (t:TypeId):Option (Nat×Nat):=match P.underlying t with | some (.array n e)=>if 0<P.cellsOf e then some (n,P.cellsOf e)else none | _=>none
def bE (P:Program) (t:TypeId):Option (TypeId×Nat):=match P.underlying t with | some (.slice e)=>if 0<P.cellsOf e then some (e,P.cellsOf e)else none | _=>none
def ji (P:Program) (t:TypeId):Option (List (Nat×Nat)):=match P.underlying t with | some (.struct fs)=>if fs.toList.all (fun f=>decide (0<P.cellsOf f.type))=true then some (fs.toList.map fun f=>(f.offset,P.cellsOf f.type))else none | _=>none
def nE (P:Program) (t:TypeId):Bool:=match P.underlying t with | some .string=>true | _=>false
theorem Eu {P:Program} {t:TypeId} {n z:Nat} (h:ey P t=some (n,z)):∃e,P.underlying t=some (.array n e)/\P.cellsOf e=z/\0<z:=by
 unfold ey at h
 split at h
 ·rename_i m e hu
  split at h
  ·cases h;exact⟨e,hu,rfl,by assumption⟩
  ·cases h
 ·cases h
theorem lT {P:Program} {t e:TypeId} {z:Nat} (h:bE P t=some (e,z)):P.underlying t=some (.slice e)/\P.cellsOf e=z/\0<z:=by
 unfold bE at h
 split at h
 ·rename_i e' hu
  split at h
  ·cases h;exact⟨hu,rfl,by assumption⟩
  ·cases h
 ·cases h
theorem Yd {P:Program} {t:TypeId} {l:List (Nat×Nat)} (h:ji P t=some l):∃fs,P.underlying t=some (.struct fs)/\(∀f∈fs.toList,0<P.cellsOf f.type)/\l=fs.toList.map fun f=>(f.offset,P.cellsOf f.type):=by
 unfold ji at h
 split at h
 ·rename_i fs hu
  split at h
  ·rename_i ha
   cases h
   exact⟨fs,hu,fun f hf=>by simpa using List.all_eq_true.1 ha f hf,rfl⟩
  ·cases h
 ·cases h
def mj (place:Nat->Option (Nat×Nat)) (cells:List AV):List (Nat×AV)->Option (List AV)
 | []=>some cells
 | (i,v)::r=>match place i with
  | none=>none
  | some (off,size)=>if v.cells.length=size/\off+size<=cells.length/\v.cells.all AV.one=true then mj place (fY cells off v.cells) r else none
theorem foldl_set (off:Nat):∀(l:List Value) (k:Nat) (cs:Array Value),((l.zipIdx k).foldl (fun cs x=>cs.setIfInBounds (off+x.2) x.1) cs).size=cs.size /\
  ∀i,i<cs.size->((l.zipIdx k).foldl (fun cs x=>cs.setIfInBounds (off+x.2) x.1) cs)[i]? = if off+k<=i/\i<off+k+l.length then l[i-(off+k)]? else cs[i]?
 | [],k,cs=>by
  refine⟨by simp,fun i _ => ?_⟩
  rw[if_neg (by simp)]
  simp
 | v::l,k,cs=>by
  have ih:=foldl_set off l (k+1) (cs.setIfInBounds (off+k) v)
  simp only[List.zipIdx_cons,List.foldl_cons]
  refine⟨by rw[ih.1];simp,fun i hi => ?_⟩
  rw[ih.2 i (by simpa using hi)]
  by_cases A:off+(k+1)<=i/\i<off+(k+1)+l.length
  ·rw[if_pos A,if_pos (by simp;omega)]
   rw[show i-(off+k)=i-(off+(k+1))+1 from by omega,List.getElem?_cons_succ]
  ·rw[if_neg A]
   by_cases E:i=off+k
   ·subst E
    rw[if_pos (by simp),Nat.sub_self,List.getElem?_cons_zero,Array.getElem?_setIfInBounds_self]
    simp[hi]
   ·rw[if_neg (by simp;omega),Array.getElem?_setIfInBounds_ne (Ne.symm E)]
theorem aru {C:Ctx} {cs vs:List AV} {us ws rs:List Value} {off:Nat} (H:aD C cs us) (R:aD C vs ws) (O:off+vs.length<=cs.length) (gk:rs.length=us.length)
  (hr:∀i,i<us.length->rs[i]? = if off<=i/\i<off+ws.length then ws[i-off]? else us[i]?):aD C (fY cs off vs) rs:=by
 have l1:=H.length
 have l2:=R.length
 refine aD.mk (by simp[fY];omega) fun i c Y A E => ?_
 have hi:i<us.length:=by rw[<-gk];exact(List.getElem?_eq_some_iff.1 E).1
 rw[hr i hi]at E
 simp only[fY]at A
 by_cases ha:i<off
 ·rw[List.getElem?_append_left (by simp;omega),List.getElem?_take,if_pos ha]at A
  rw[if_neg (by omega)]at E
  obtain⟨u',a3,a'⟩:=H.get i c A
  rw[E]at a3;cases a3;exact a'
 ·rw[List.getElem?_append_right (by simp;omega)]at A
  simp only[List.length_take,Nat.min_eq_left (show off<=cs.length by omega)]at A
  by_cases hb:i<off+vs.length
  ·rw[List.getElem?_append_left (by omega)]at A
   rw[if_pos (by omega)]at E
   obtain⟨u',a3,a'⟩:=R.get _ c A
   rw[E]at a3;cases a3;exact a'
  ·rw[List.getElem?_append_right (by omega),List.getElem?_drop,show off+vs.length+(i-off-vs.length)=i from by omega]at A
   rw[if_neg (by omega)]at E
   obtain⟨u',a3,a'⟩:=H.get i c A
   rw[E]at a3;cases a3;exact a'
theorem LI {C:Ctx} {place:Nat->Option (Nat×Nat)}:∀(ps:List (Nat×AV)) (CW:List (Nat×Value)) (cs bi:List AV) (us:Array Value),ps.map (·.1)=CW.map (·.1)->(∀(i:Nat) (p:Nat×AV) (q:Nat×Value),ps[i]? = some p->CW[i]? = some q->ak C p.2 q.2) ->
  aD C cs us.toList->mj place cs ps=some bi->∃he,Instr.fill place us CW=some he/\aD C bi he.toList
 | [],[],cs,bi,us,_,_,H,h=>by
  simp only[mj,Option.some.injEq]at h
  subst h
  exact⟨us,rfl,H⟩
 | [],_::_,_,_,_,hm,_,_,_=>by simp at hm
 | _::_,[],_,_,_,hm,_,_,_=>by simp at hm
 | (i,v)::ps,(j,q)::CW,cs,bi,us,hm,H,hL,h=>by
  simp only[List.map_cons,List.cons.injEq]at hm
  obtain⟨e,hm⟩:=hm
  subst e
  have R:ak C v q:=H 0 _ _ rfl rfl
  simp only[mj]at h
  simp only[Instr.fill]
  cases hp:place i with
  | none=>simp[hp]at h
  | some os =>
   obtain⟨off,size⟩:=os
   simp only[hp]at h ⊢
   split at h
   ·rename_i af6
    obtain⟨A,E,h3⟩:=af6
    obtain⟨BU,_⟩:=Ki R h3
    have hqs:q.cells.size=size:=by have:=BU.length;simp at this;omega
    have fL:us.size=cs.length:=by have:=hL.length;simp at this;omega
    have i9:¬((decide (q.cells.size≠size)||decide (off+q.cells.size>us.size))=true):=by
     simp[hqs];omega
    rw[if_neg i9]
    have hf:=foldl_set off q.cells.toList 0 us
    simp only[Nat.add_zero]at hf
    have hz:q.cells.zipIdx=(q.cells.toList.zipIdx 0).toArray:=by apply Array.ext';simp
    refine LI ps CW (fY cs off v.cells) bi _ hm (fun k p ao2 u hq=>H (k+1) p ao2 (by simpa using u) (by simpa using hq)) ?_ h
    refine aru hL BU (by omega) ?_ ?_
    ·rw[hz,<-Array.foldl_toList]
     simpa using hf.1
    ·intro k u
     rw[hz,<-Array.foldl_toList]
     have:=hf.2 k (by simpa using u)
     simpa using this
   ·cases h
theorem Js {P:Program} {t:TypeId} {cs:List AV} (h:fE P t=some cs):∃i z,P.info? t=some i/\i.zero=some z/\cs=z.cells.toList.map AV.sc:=by
 unfold fE at h
 obtain⟨i,hi,h⟩:=Option.bind_eq_some_iff.1 h
 obtain⟨z,hz,rfl⟩:=Option.map_eq_some_iff.1 h
 exact⟨i,z,hi,hz,rfl⟩
theorem Zo {C:Ctx}:∀(us:List Value),aD C (us.map AV.sc) us
 | []=>by simp only[List.map_nil,aD]
 | Y::us=>by simp only[List.map_cons,aD];exact⟨Y,us,rfl,by simp only[ak],Zo us⟩
def placeOf (P:Program) (t:TypeId):Nat->Option (Nat×Nat) :=
 match ey P t,ji P t with
 | some (_,z),_=>fun i=>some (i*z,z)
 | none,some l=>fun i=>l[i]?
 | none,none=>fun _=>none
theorem Wr {P:Program}:∀(fs:List Field),(∀f∈fs,0<P.cellsOf f.type)->fs.mapM (fun f=>(P.info? f.type).map fun i=>(f.offset,i.size))=some (fs.map fun f=>(f.offset,P.cellsOf f.type))
 | [],_=>rfl
 | f::fs,h=>by
  obtain⟨i,hi,hs⟩:=Nc (P:=P) (ty:=f.type) rfl (h f List.mem_cons_self)
  rw[List.mapM_cons,Wr fs fun g Z=>h g (List.mem_cons_of_mem _ Z)]
  simp[hi,hs]
section
variable {P:Program} {n:Nat} {t:Tp} {h:Hp}
theorem ab3 {ty:TypeId} {ps:Array (Nat×Operand)} {cs bi:List AV} (hz:fE P ty=some cs) (hf:mj (placeOf P ty) cs (ps.toList.map fun p=>(p.1,ev t p.2))=some bi) (hp:((ey P ty).isSome||(ji P ty).isSome)=true):Yields P n (.build ty ps) t h (.agg bi) [] :=
 Yields.pure fun C a o ho W ht=>by
  obtain⟨it,z,hit,iC,rfl⟩:=Js hz
  obtain⟨he,a3,hL⟩:=LI (C:=C) (ps.toList.map fun p=>(p.1,ev t p.2)) (ps.toList.map fun p=>(p.1,a.eval p.2)) _ bi z.cells (by simp) (fun i p q A E=>by
   rw[List.getElem?_map]at A E
   cases hx:ps.toList[i]? with
   | none=>rw[hx]at A;cases A
   | some x=>rw[hx]at A E;cases A;cases E;exact b4 ht x.2) (Zo _) hf
  refine⟨.agg he,?_,by simp only[ak];exact⟨he,rfl,hL⟩⟩
  have hb:P.built ty (ps.toList.map fun p=>(p.1,a.eval p.2))=some he:=by
   unfold Program.built
   rw[hit]
   cases ha:ey P ty with
   | some nz =>
    obtain⟨m,awf⟩:=nz
    obtain⟨e,hu,F,h0⟩:=Eu ha
    obtain⟨ie,gD,hs⟩:=Nc F h0
    simp only[placeOf,ha]at a3
    simp only[hu,iC,gD,hs]
    exact a3
   | none =>
    cases hr:ji P ty with
    | none=>simp[ha,hr]at hp
    | some l =>
     obtain⟨fs,hu,kB,rfl⟩:=Yd hr
     simp only[placeOf,ha,hr]at a3
     simp only[hu,iC,Wr fs.toList kB]
     have e:(fun i:Nat=>(fs.toList.map fun f=>(f.offset,P.cellsOf f.type)).toArray[i]?)=fun i:Nat=>(fs.toList.map fun f=>(f.offset,P.cellsOf f.type))[i]? := by
      funext i;simp
     rw[e];exact a3
  unfold execOp
  rw[ho]
  have:=run_build C.w ty (ps.map fun p=>(p.1,a.eval p.2)) he (by simpa using hb)
  simp only[Sem.run_bind,this,Result.andThen_ok]
  rfl
def mN:Nat->List AV->List AV
 | 0,_=>[]
 | k+1,z=>z++mN k z
def chunk (z:Nat):Nat->List AV->List (List AV)
 | 0,_=>[]
 | k+1,cs=>cs.take z::chunk z k (cs.drop z)
theorem Gx (z:List AV):∀k,(mN k z).length=k*z.length
 | 0=>by simp[mN]
 | k+1=>by simp only[mN,List.length_append,Gx z k,Nat.succ_mul];omega
theorem abl (z:List AV) (hz:0<z.length):∀k i,i<k*z.length->(mN k z)[i]? = z[i % z.length]?
 | 0,i,h=>by simp at h
 | k+1,i,h=>by
  simp only[mN]
  by_cases hi:i<z.length
  ·rw[List.getElem?_append_left hi,Nat.mod_eq_of_lt hi]
  ·rw[List.getElem?_append_right (by omega),abl z hz k (i-z.length) (by rw[Nat.succ_mul]at h;omega)]
   congr 1
   rw[<-Nat.mod_eq_sub_mod (by omega)]
theorem qE (z:Nat):∀k cs,(chunk z k cs).length=k
 | 0,_=>rfl
 | k+1,cs=>by simp[chunk,qE z k]
theorem AA (z:Nat):∀k cs j e,(chunk z k cs)[j]? = some e->j<k/\e=(cs.drop (j*z)).take z
 | 0,_,j,e,h=>by simp[chunk]at h
 | k+1,cs,0,e,h=>by simp[chunk]at h;simp[h]
 | k+1,cs,j+1,e,h=>by
  simp only[chunk,List.getElem?_cons_succ]at h
  obtain⟨A,E⟩:=AA z k _ j e h
  refine⟨by omega,?_⟩
  rw[E,List.drop_drop,Nat.succ_mul,Nat.add_comm z]
theorem abj {zc:List AV} {z:Value} {len:Nat} {C:Ctx} (h:zc=z.cells.toList.map AV.sc) (h0:0<zc.length):aD C (mN len zc) ((Array.range (len*zc.length)).map (z.cells[· % z.cells.size]!)).toList:=by
 have jJ:z.cells.size=zc.length:=by rw[h];simp
 refine aD.mk (by simp[Gx]) fun i c Y A E => ?_
 have hi:i<len*zc.length:=by rw[<-Gx];exact(List.getElem?_eq_some_iff.1 A).1
 rw[abl zc h0 len i hi]at A
 simp[hi]at E
 have hm:i % zc.length<z.cells.size:=by rw[jJ];exact Nat.mod_lt _ h0
 rw[h,List.getElem?_map]at A
 have Z:z.cells.toList[i % zc.length]? = some (z.cells[i % zc.length]):=by simp[hm]
 rw[<-h,Z]at A
 simp only[Option.map_some,Option.some.injEq]at A
 rw[<-A,<-E]
 simp only[ak]
 rw[jJ]
 simp[hm]
end
def mE:BinOp->Bool->Option AV
 | .eql,b=>some (.sc (.bool b))
 | .neq,b=>some (.sc (.bool (!b)))
 | _,_=>none
def CU (P:Program) (t:TypeId):Bool:=match P.underlying t with | some (.pointer e)=>e==P.pointee t | _=>false
theorem aoY {P:Program} {t:TypeId} (h:CU P t=true):P.underlying t=some (.pointer (P.pointee t)):=by
 unfold CU at h
 split at h
 ·rename_i e F;rw[F,eq_of_beq h]
 ·cases h
def kO (P:Program) (h:Hp) (op:BinOp) (ty:TypeId) (x y:AV):Option AV :=
 match y with
 | .sc (.slice none 0 0)=>match bE P ty with
  | some _=>match x with
   | .sl m _ _ _ _=>if(ae h m).isSome=true then mE op false else none
   | .ro _ (_::_) _=>mE op false
   | .sc (.slice ab _ _)=>mE op ab.isNone
   | _=>none
  | none=>none
 | .sc (.pointer none)=>match CU P ty with
  | true=>match x with
   | .ptr m _=>if(ae h m).isSome=true then mE op false else none
   | .sc (.pointer none)=>mE op true
   | _=>none
  | false=>none
 | _=>none
def gX (P:Program) (h:Hp) (op:BinOp) (ty:TypeId) (x y:AV):Option AV :=
 match gw P op ty x y with
 | some v=>some v
 | none=>kO P h op ty x y
theorem adC {P:Program} {h:Hp} {op:BinOp} {ty:TypeId} {x y v:AV} (R:gw P op ty x y=some v):gX P h op ty x y=some v:=by
 unfold gX;rw[R]
theorem acw {P:Program} {n:Nat} {t:Tp} {h:Hp} {op:BinOp} {ty ty':TypeId} {x y:Operand} {v:AV} (R:kO P h op ty (ev t x) (ev t y)=some v):Yields P n (.binOp op ty x y ty') t h v [] :=
 Yields.pure fun C a o ho W ht=>by
  have A:=b4 ht x
  have E:=b4 ht y
  revert A E R
  generalize ev t x=X
  generalize ev t y=abU
  intro R A E
  unfold kO at R
  split at R
  ·simp only[ak]at E
   split at R
   ·rename_i p hs
    obtain⟨e,z⟩:=p
    obtain⟨hu,_,_⟩:=lT hs
    have fin:∀(ab:Option Addr) (l c:Nat) (b:Bool),a.eval x = .slice ab l c->ab.isNone=b->mE op b=some v->∃Y,(execOp a.eval o).run P C.w = .ok (.value Y) C.w/\ak C v Y:=by
     intro ab l c b hA hb hn
     have e1:(eqGuard op ty x y (a.eval x) (a.eval y)).run P C.w = .ok () C.w:=by rw[hA];exact wL _ _ _ _ _ _ (by simp) (by simp) _
     unfold mE at hn
     split at hn
     ·cases hn
      refine⟨.bool b,?_,by simp only[ak]⟩
      unfold execOp
      rw[ho]
      simp only[Sem.run_bind,e1,Result.andThen_ok]
      rw[hA,E,Go.run_eql_slice_nil _ _ e _ _ _ hu,hb]
      rfl
     ·cases hn
      refine⟨.bool (!b),?_,by simp only[ak]⟩
      unfold execOp
      rw[ho]
      simp only[Sem.run_bind,e1,Result.andThen_ok]
      rw[hA,E,Go.run_neq_slice_nil _ _ e _ _ _ hu,hb]
      rfl
     ·cases hn
    split at R
    ·rename_i m z' off len own
     split at R
     ·rename_i hm
      simp only[ak]at A
      obtain⟨cap,o',hx,_⟩:=A.2.2 ((W.live m).2 hm)
      exact fin _ _ _ false hx rfl R
     ·cases R
    ·rename_i z' e0 D full
     simp only[ak]at A
     obtain⟨ab,cap,hx,_,_,ay⟩:=A
     obtain⟨bz,rfl,_⟩:=ay (by simp)
     exact fin _ _ _ false hx rfl R
    ·simp only[ak]at A
     exact fin _ _ _ _ A rfl R
    ·cases R
   ·cases R
  ·simp only[ak]at E
   split at R
   ·rename_i hs
    have hu:=aoY hs
    have fin:∀(ab:Option Addr) (b:Bool),a.eval x = .pointer ab->ab.isNone=b->mE op b=some v->∃Y,(execOp a.eval o).run P C.w = .ok (.value Y) C.w/\ak C v Y:=by
     intro ab b hA hb hn
     have e1:(eqGuard op ty x y (a.eval x) (a.eval y)).run P C.w = .ok () C.w:=by rw[hA];exact wL _ _ _ _ _ _ (by simp) (by simp) _
     unfold mE at hn
     split at hn
     ·cases hn
      refine⟨.bool b,?_,by simp only[ak]⟩
      unfold execOp
      rw[ho]
      simp only[Sem.run_bind,e1,Result.andThen_ok]
      rw[hA,E,Go.run_eql_pointer_nil _ _ _ hu,hb]
      rfl
     ·cases hn
      refine⟨.bool (!b),?_,by simp only[ak]⟩
      unfold execOp
      rw[ho]
      simp only[Sem.run_bind,e1,Result.andThen_ok]
      rw[hA,E,Go.run_neq_pointer_nil _ _ _ hu,hb]
      rfl
     ·cases hn
    split at R
    ·rename_i m off
     split at R
     ·rename_i hm
      simp only[ak]at A
      exact fin _ false (A.2.2 ((W.live m).2 hm)) rfl R
     ·cases R
    ·simp only[ak]at A
     exact fin _ true A rfl R
    ·cases R
   ·cases R
  ·cases R
theorem ab1 {P:Program} {n:Nat} {t:Tp} {h:Hp} {op:BinOp} {ty ty':TypeId} {x y:Operand} {v:AV} (R:gX P h op ty (ev t x) (ev t y)=some v):Yields P n (.binOp op ty x y ty') t h v []:=by
 unfold gX at R
 split at R
 ·rename_i w hw;cases R;exact ab0 hw
 ·exact acw R
end Go.Proofs.Aw
namespace Go.Proofs.Aw
open Go
def ld (z:Nat):Nat->List (Nat×AV)->Bool
 | _,[]=>true
 | k,(i,v)::r=>i==k&&(v.cells.length==z&&(v.cells.all AV.one&&ld z (k+1) r))
def gL:List (Nat×AV)->List (List AV)
 | []=>[]
 | (_,v)::r=>v.cells::gL r
theorem Pd:∀ps,(gL ps).length=ps.length
 | []=>rfl
 | (_,v)::r=>by simp[gL,Pd r]
theorem KK {z:Nat}:∀(k:Nat) (ps:List (Nat×AV)),ld z k ps=true->∀(j:Nat) (e:List AV),(gL ps)[j]? = some e->e.length=z/\e.all AV.one=true
 | _,[],_,j,e,h=>by simp[gL]at h
 | k,(i,v)::r,hd,j,e,h=>by
  simp only[ld,Bool.and_eq_true,beq_iff_eq]at hd
  cases j with
  | zero=>simp[gL]at h;subst h;exact⟨hd.2.1,hd.2.2.1⟩
  | succ j=>exact KK (k+1) r hd.2.2.2 j e (by simpa [gL]using h)
theorem gY {am:Type} {z:Nat}:∀(D:List (List am)),(∀(j:Nat) (e:List am),D[j]? = some e->e.length=z)->D.flatten.length=D.length*z
 | [],_=>by simp
 | e::D,h=>by
  have h0:=h 0 e rfl
  have ih:=gY D fun j e' M=>h (j+1) e' (by simpa using M)
  rw[List.flatten_cons,List.length_append,ih,h0,List.length_cons,Nat.succ_mul];omega
theorem A9 {am:Type} {z:Nat}:∀(D:List (List am)),(∀(j:Nat) (e:List am),D[j]? = some e->e.length=z)->∀(j:Nat) (e:List am),D[j]? = some e->∀k,k<z->D.flatten[j*z+k]? = e[k]?
 | [],_,j,e,h,_,_=>by simp at h
 | d::D,h,j,e,M,k,u=>by
  have h0:=h 0 d rfl
  cases j with
  | zero =>
   simp at M;subst M
   rw[List.flatten_cons,List.getElem?_append_left (by omega),Nat.zero_mul,Nat.zero_add]
  | succ j =>
   rw[List.flatten_cons,List.getElem?_append_right (by rw[Nat.succ_mul];omega),h0,show(j+1)*z+k-z=j*z+k from by rw[Nat.succ_mul];omega]
   exact A9 D (fun j e' M=>h (j+1) e' (by simpa using M)) j e (by simpa using M) k u
theorem Uf {am:Type} {z:Nat} (hz:0<z) (D:List (List am)) (h:∀(j:Nat) (e:List am),D[j]? = some e->e.length=z) (i:Nat) (c:am) (H:D.flatten[i]? = some c):∃e,D[i / z]? = some e/\e[i % z]? = some c:=by
 have hi:i<D.length*z:=by rw[<-gY D h];exact(List.getElem?_eq_some_iff.1 H).1
 have hd:i / z<D.length:=Nat.div_lt_of_lt_mul (by rw[Nat.mul_comm];exact hi)
 have F:D[i / z]? = some D[i / z]:=List.getElem?_eq_getElem hd
 refine⟨_,F,?_⟩
 have:=A9 D h _ _ F (i % z) (Nat.mod_lt _ hz)
 rw[<-this,Nat.mul_comm,Nat.div_add_mod]
 exact H
theorem T5 {z:Nat}:∀(ps:List (Nat×AV)) (k:Nat) (cs:List AV),ld z k ps=true->cs.length=(k+ps.length)*z ->
  mj (fun i=>some (i*z,z)) cs ps=some (cs.take (k*z)++(gL ps).flatten)
 | [],k,cs,_,O=>by
  simp only[mj,gL,List.flatten_nil,List.append_nil]
  rw[List.take_of_length_le (by rw[O];simp)]
 | (i,v)::r,k,cs,hd,O=>by
  simp only[ld,Bool.and_eq_true,beq_iff_eq]at hd
  obtain⟨rfl,A,E,h3⟩:=hd
  have a0:i*z+z<=cs.length:=by
   rw[O,<-Nat.succ_mul];exact Nat.mul_le_mul_right _ (by simp)
  simp only[mj]
  rw[if_pos ⟨A,a0,E⟩]
  have hlen:(fY cs (i*z) v.cells).length=cs.length:=by simp[fY];omega
  rw[T5 r (i+1) _ h3 (by rw[hlen,O,List.length_cons];congr 1;omega)]
  congr 1
  simp only[gL,List.flatten_cons,fY]
  have e:(i+1)*z=i*z+v.cells.length:=by rw[Nat.succ_mul,A]
  rw[e,List.take_append,List.take_of_length_le (by simp;omega),List.append_assoc]
  congr 1
  rw[List.length_take,Nat.min_eq_left (by omega),Nat.add_sub_cancel_left,List.take_left']
  rfl
theorem Yr {C:Ctx} {n:Nat} {w:World} {arr:Array Value} {ty:TypeId} {cs:List AV} {D:List (List AV)} {z cap:Nat} {full:Bool} (hw:w.heap=C.w.heap.push (.cells arr ty))
  (aI:∀(j:Nat) (c:AV),cs[j]? = some c->∃Y,arr[j]? = some Y/\ak C c Y) (Bx:∀(j:Nat) (e:List AV),D[j]? = some e->e.length=z) (hZ:cs=D.flatten) (gi:D.length<=cap) (x3:full=true->cap=D.length) :
  ak (C.iQ n w) (.ro z D full) (.slice (some ⟨C.w.heap.size,0,none⟩) D.length cap):=by
 simp only[ak]
 refine⟨_,cap,rfl,gi,x3,fun _=>⟨_,rfl,by simp[Ctx.iQ,hw],by simp[Ctx.iQ],dR.mk fun j e M=>⟨Bx j e M,dC.mk fun k c u => ?_⟩⟩⟩
 have hkz:k<z:=by rw[<-Bx j e M];exact(List.getElem?_eq_some_iff.1 u).1
 have A:cs[j*z+k]? = some c:=by rw[hZ,A9 D Bx j e M k hkz];exact u
 obtain⟨Y,hu,H⟩:=aI _ c A
 refine⟨Y,?_,H.mono (C.ND n hw)⟩
 rw[add_add,j_]
 simp[Ctx.iQ,World.cell?,hw]
 exact hu
section
variable {P:Program} {n:Nat} {t:Tp} {h:Hp}
theorem Y5 {ty e:TypeId} {z len:Nat} {zc:List AV} (hs:bE P ty=some (e,z)) (hz:fE P e=some zc) (jJ:zc.length=z) (ng:len*z<=2 ^ 24) {C:Ctx} {a:Act} (ht:gb C t a) {ps:Array (Nat×Operand)}
  (O:ps.size=len) (hd:ld z 0 (ps.toList.map fun p=>(p.1,ev t p.2))=true) :
  ∃arr:Array Value,(∀(j:Nat) (c:AV),(gL (ps.toList.map fun p=>(p.1,ev t p.2))).flatten[j]? = some c->∃Y,arr[j]? = some Y/\ak C c Y)/\arr.size=len*z /\
   (Instr.buildSlice ty len (ps.map fun p=>(p.1,a.eval p.2))).run P C.w = .ok (.slice (some ⟨C.w.heap.size,0,none⟩) len len) (C.w.alloc (.cells arr e)):=by
 obtain⟨hu,F,h0⟩:=lT hs
 obtain⟨ie,zv,gD,iC,jI⟩:=Js hz
 have b9:ie.size=z:=by
  have:P.cellsOf e=ie.size:=by simp[Program.cellsOf,gD]
  omega
 by_cases hlen:len=0
 ·subst hlen
  have BQ:ps = #[]:=by
   apply Array.eq_empty_of_size_eq_zero O
  subst BQ
  refine⟨#[],by simp[gL],by simp,?_⟩
  simp[Instr.buildSlice,run_underlying hu,sizeOf,typeInfo,gD,Instr.fill,newRow]
  congr 2
  apply Array.ext'
  simp
 ·have F_:=abj (C:=C) (len:=len) jI (by omega)
  rw[jJ]at F_
  have BA:=T5 (z:=z) (ps.toList.map fun p=>(p.1,ev t p.2)) 0 (mN len zc) hd (by rw[Gx,jJ];simp[O])
  rw[Nat.zero_mul,List.take_zero,List.nil_append]at BA
  obtain⟨he,a3,hL⟩:=LI (C:=C) (ps.toList.map fun p=>(p.1,ev t p.2)) (ps.toList.map fun p=>(p.1,a.eval p.2)) _ _ _ (by simp) (fun i p q A E=>by
   rw[List.getElem?_map]at A E
   cases hx:ps.toList[i]? with
   | none=>rw[hx]at A;cases A
   | some x=>rw[hx]at A E;cases A;cases E;exact b4 ht x.2) F_ BA
  refine⟨he,fun j c M => ?_,?_,?_⟩
  ·obtain⟨Y,MO,H⟩:=hL.get j c M
   exact⟨Y,by simpa using MO,H⟩
  ·have A:=hL.length
   rw[gY (z:=z) _ (fun j e M=>(KK 0 _ hd j e M).1),Pd]at A
   simp[O]at A
   omega
  ·have kB:¬len*ie.size=0:=by
    rw[b9]
    have:0<len*z:=Nat.mul_pos (by omega) h0
    omega
   refine run_buildSlice C.w ty e len _ he ie zv hu gD iC (by rw[b9];omega) kB ?_
   rw[b9]
   simpa using a3
theorem acF {ty e:TypeId} {z len:Nat} {zc:List AV} {ps:Array (Nat×Operand)} (hs:bE P ty=some (e,z)) (hz:fE P e=some zc) (jJ:zc.length=z) (ng:len*z<=2 ^ 24) (O:ps.size=len) (hd:ld z 0 (ps.toList.map fun p=>(p.1,ev t p.2))=true) :
  Yields P n (.buildSlice ty len ps) t h (.ro z (gL (ps.toList.map fun p=>(p.1,ev t p.2))) true) [] :=
 Yields.run fun C a o ho W ht hn=>by
  obtain⟨arr,aI,_,hr⟩:=Y5 hs hz jJ ng ht O hd
  have hlen:(gL (ps.toList.map fun p=>(p.1,ev t p.2))).length=len:=by rw[Pd];simp[O]
  refine⟨.slice (some ⟨C.w.heap.size,0,none⟩) len len,C.iQ n (C.w.alloc (.cells arr e)),?_,c8.iQ W (o := .cells arr e) rfl ?_ rfl rfl rfl⟩
  ·unfold execOp
   rw[ho]
   simp only[Sem.run_bind,hr,Result.andThen_ok]
   rfl
  ·have:=Yr (C:=C) (n:=n) (w:=C.w.alloc (.cells arr e)) (ty:=e) (full:=true) (cap:=len) rfl aI (fun j e M=>(KK 0 _ hd j e M).1) rfl (by omega) (fun _=>hlen.symm)
   rwa[hlen]at this
theorem acG {ty e:TypeId} {z len:Nat} {zc:List AV} {ps:Array (Nat×Operand)} (hs:bE P ty=some (e,z)) (hz:fE P e=some zc) (jJ:zc.length=z) (ng:len*z<=2 ^ 24) (O:ps.size=len) (hd:ld z 0 (ps.toList.map fun p=>(p.1,ev t p.2))=true) :
  Yields P n (.buildSlice ty len ps) t h (.sl (n,0) z 0 len true) [((n,0),some (gL (ps.toList.map fun p=>(p.1,ev t p.2))).flatten)] :=
 Yields.run fun C a o ho W ht hn=>by
  obtain⟨arr,aI,b9,hr⟩:=Y5 hs hz jJ ng ht O hd
  refine⟨.slice (some ⟨C.w.heap.size,0,none⟩) len len,C.ck n (C.w.alloc (.cells arr e)),?_,c8.ck W hn (arr:=arr) (ty:=e) rfl aI ?_ rfl rfl rfl⟩
  ·unfold execOp
   rw[ho]
   simp only[Sem.run_bind,hr,Result.andThen_ok]
   rfl
  ·simp only[ak,Ctx.ck,if_true]
   exact⟨⟨_,_,_,rfl⟩,.inr trivial,fun _=>⟨len,0,rfl,Nat.le_refl _,.inl rfl,fun _=>⟨arr,e,heap_alloc_new C.w _,by omega⟩⟩⟩
def je (P:Program) (h:Hp) (ty:TypeId) (x:AV):Option Int :=
 match x with
 | .ro _ D _=>if(bE P ty).isSome=true then some D.length else none
 | .sl m _ _ len _=>if(bE P ty).isSome=true/\(ae h m).isSome=true then some len else none
 | .sc (.slice _ m _)=>if(bE P ty).isSome=true then some m else none
 | .sc (.string s)=>if nE P ty=true then some s.size else none
 | .agg _=>(ey P ty).map fun p=>(p.1:Int)
 | _=>none
theorem PZ {P:Program} {ty:TypeId} {e:TypeId} {ab:Option Addr} {l c:Nat} (hu:P.underlying ty=some (.slice e)) {gQ:Array TypeId} {vs:Array Value} (A:gQ[0]? = some ty) (E:vs[0]? = some (.slice ab l c)) (r:TypeId) (w:World) :
  (Builtin.len_ gQ r vs).run P w = .ok (goInt l) w:=by
 unfold Builtin.len_
 simp only[A,E,Sem.run_bind,run_underlying hu,Result.andThen_ok,Sem.run_pure]
theorem acj {c:Call} {ty:TypeId} {x:Operand} {m:Int} (hb:c.callee = .builtin .len) (A:c.argTypes[0]? = some ty) (hx:c.args[0]? = some x) (O:je P h ty (ev t x)=some m):Yields P n (.call c) t h (.sc (.int .i64 m)) [] :=
 Yields.pure fun C a o ho W ht=>by
  refine⟨.int .i64 m,?_,by simp only[ak]⟩
  rw[tU hb _ _ o ho]
  have E:(c.args.map a.eval)[0]? = some (a.eval x):=by simp[hx]
  have H:=b4 ht x
  have key:(Builtin.len_ c.argTypes o.type (c.args.map a.eval)).run P C.w = .ok (goInt m) C.w:=by
   revert H O
   generalize ev t x=X
   intro O H
   unfold je at O
   split at O
   ·split at O
    ·rename_i hs
     cases O
     obtain⟨⟨e,z⟩,hs⟩:=Option.isSome_iff_exists.1 hs
     simp only[ak]at H
     obtain⟨ab,cap,R,_⟩:=H
     exact PZ (lT hs).1 A (by rw[E,R]) _ _
    ·cases O
   ·split at O
    ·rename_i hs
     cases O
     obtain⟨⟨e,z⟩,kD⟩:=Option.isSome_iff_exists.1 hs.1
     simp only[ak]at H
     obtain⟨cap,of,R,_⟩:=H.2.2 ((W.live _).2 hs.2)
     exact PZ (lT kD).1 A (by rw[E,R]) _ _
    ·cases O
   ·split at O
    ·rename_i hs
     cases O
     obtain⟨⟨e,z⟩,hs⟩:=Option.isSome_iff_exists.1 hs
     simp only[ak]at H
     exact PZ (lT hs).1 A (by rw[E,H]) _ _
    ·cases O
   ·split at O
    ·rename_i hs
     cases O
     simp only[ak]at H
     unfold nE at hs
     split at hs
     ·rename_i hu
      unfold Builtin.len_
      simp only[A,E,H,Sem.run_bind,run_underlying hu,Result.andThen_ok,Sem.run_pure]
     ·cases hs
    ·cases O
   ·obtain⟨⟨p,z⟩,hp,rfl⟩:=Option.map_eq_some_iff.1 O
    obtain⟨e,hu,_⟩:=Eu hp
    unfold Builtin.len_
    simp only[A,E,Sem.run_bind,run_underlying hu,Result.andThen_ok,Sem.run_pure]
   ·cases O
  simp only[builtin,Sem.run_bind,key,Result.andThen_ok]
  rfl
end
end Go.Proofs.Aw
namespace Go.Proofs.Aw
open Go
def pO:AV->List AV->Option AV
 | .sc (.int k a),[]=>some (.sc (.int k a))
 | .sc (.int k a),.sc (.int _ b)::r=>pO (.sc (.int k (max a b))) r
 | _,_=>none
def pP:AV->List AV->Option AV
 | .sc (.int k a),[]=>some (.sc (.int k a))
 | .sc (.int k a),.sc (.int _ b)::r=>pP (.sc (.int k (min a b))) r
 | _,_=>none
theorem Y0 {P:Program} {C:Ctx}:∀(xs:List AV) (us:List Value) (x v:AV) (Y:Value),ak C x Y->aD C xs us->pO x xs=some v->∃r,(us.foldlM Builtin.max2 Y).run P C.w = .ok r C.w/\ak C v r
 | [],us,x,v,Y,hx,O,h=>by
  simp only[aD]at O
  subst O
  unfold pO at h
  split at h
  ·cases h;exact⟨Y,rfl,hx⟩
  ·contradiction
  ·cases h
 | y::xs,us,x,v,Y,hx,O,h=>by
  simp only[aD]at O
  obtain⟨w,vs,rfl,hy,O⟩:=O
  unfold pO at h
  split at h
  ·contradiction
  ·rename_i k a k' b r A
   cases A
   simp only[ak]at hx hy
   subst hx;subst hy
   obtain⟨r',E,h3⟩:=Y0 xs vs (.sc (.int k (max a b))) v (.int k (max a b)) (by simp only[ak]) O h
   refine⟨r',?_,h3⟩
   have e:(if b>a then b else a)=max a b:=by split<;>omega
   simp only[List.foldlM_cons,Sem.run_bind,Builtin.max2,Sem.run_pure,Result.andThen_ok,e]
   exact E
  ·cases h
theorem Y1 {P:Program} {C:Ctx}:∀(xs:List AV) (us:List Value) (x v:AV) (Y:Value),ak C x Y->aD C xs us->pP x xs=some v->∃r,(us.foldlM Builtin.min2 Y).run P C.w = .ok r C.w/\ak C v r
 | [],us,x,v,Y,hx,O,h=>by
  simp only[aD]at O
  subst O
  unfold pP at h
  split at h
  ·cases h;exact⟨Y,rfl,hx⟩
  ·contradiction
  ·cases h
 | y::xs,us,x,v,Y,hx,O,h=>by
  simp only[aD]at O
  obtain⟨w,vs,rfl,hy,O⟩:=O
  unfold pP at h
  split at h
  ·contradiction
  ·rename_i k a k' b r A
   cases A
   simp only[ak]at hx hy
   subst hx;subst hy
   obtain⟨r',E,h3⟩:=Y1 xs vs (.sc (.int k (min a b))) v (.int k (min a b)) (by simp only[ak]) O h
   refine⟨r',?_,h3⟩
   have e:(if b<a then b else a)=min a b:=by split<;>omega
   simp only[List.foldlM_cons,Sem.run_bind,Builtin.min2,Sem.run_pure,Result.andThen_ok,e]
   exact E
  ·cases h
def ez (h:Hp) (z:Nat):AV->Option (List (List AV))
 | .ro z' D _=>if z'=z then some D else none
 | .sl m z' off len _=>(ae h m).bind fun cs=>if z'=z/\off+len*z<=cs.length then some (chunk z len (cs.drop off))else none
 | .sc (.slice _ 0 _)=>some []
 | _=>none
structure w7 (P:Program) (C:Ctx) (z:Nat) (Y:Value) (fs:List (List AV)):Prop where
 len:∀(j:Nat) (e:List AV),fs[j]? = some e->e.length=z
 news:∃(ab:Option Addr) (c:Nat) (news:List Value),Y = .slice ab fs.length c/\fs.length<=c/\aD C fs.flatten news/\(∀w:World,w.heap=C.w.heap->(Builtin.firstCells z fs.length Y).run P w = .ok news.toArray w)
theorem u0 {P:Program} {C:Ctx} {h:Hp} (W:c6 C h) {z:Nat} (h0:0<z) {v:AV} {Y:Value} {fs:List (List AV)} (H:ak C v Y) (F:ez h z v=some fs):w7 P C z Y fs:=by
 have fromCells:∀(a:Addr) (c:Nat),(∀(j:Nat) (e:List AV),fs[j]? = some e->e.length=z)->fs.length<=c->(∀(j:Nat) (c:AV),fs.flatten[j]? = some c->∃Y,C.w.cell? (a.add j)=some Y/\ak C c Y)->Y = .slice (some a) fs.length c->w7 P C z Y fs:=by
  intro a c O gi lu hu
  refine⟨O,some a,c,(List.range (fs.length*z)).map fun j=>(C.w.cell? (a.add j)).getD undef,hu,gi,?_,?_⟩
  ·refine aD.mk (by rw[gY fs O];simp) fun i c Y A E => ?_
   obtain⟨u',a3,a'⟩:=lu i c A
   have hi:i<fs.length*z:=by rw[<-gY fs O];exact(List.getElem?_eq_some_iff.1 A).1
   rw[List.getElem?_map,List.getElem?_range hi,Option.map_some,a3,Option.getD_some]at E
   cases E;exact a'
  ·intro w hw
   rw[hu]
   have Z:∀(j:Nat) (v:Value),((List.range (fs.length*z)).map fun j=>(C.w.cell? (a.add j)).getD undef)[j]? = some v->w.cell? (a.add j)=some v:=by
    intro j v M
    have hi:j<fs.length*z:=by
     have:=(List.getElem?_eq_some_iff.1 M).1
     simpa using this
    rw[List.getElem?_map,List.getElem?_range hi,Option.map_some]at M
    have hZ:fs.flatten[j]? = some (fs.flatten[j]'(by rw[gY fs O];exact hi)):=List.getElem?_eq_getElem _
    obtain⟨u',a3,_⟩:=lu j _ hZ
    rw[a3,Option.getD_some]at M
    cases M
    rw[World.cell?,hw]
    exact a3
   exact run_firstCells_some (P:=P) w z fs.length a fs.length c _ (by simp) Z
 unfold ez at F
 split at F
 ·split at F
  ·rename_i z' D full hz
   subst hz
   cases F
   simp only[ak]at H
   obtain⟨ab,cap,hu,a0,_,ay⟩:=H
   by_cases q9:fs=[]
   ·subst q9
    refine⟨fun j e M=>by simp at M,ab,cap,[],hu,a0,by simp only[List.flatten_nil,aD],fun w hw => ?_⟩
    rw[hu]
    cases ab with
    | none=>rfl
    | some a=>simp[Builtin.firstCells,loadCells,loadCellsFrom]
   ·obtain⟨a,rfl,hb,hm,hE⟩:=ay q9
    have O:∀(j:Nat) (e:List AV),fs[j]? = some e->e.length=z':=fun j e M=>(hE.get j e M).1
    refine fromCells a cap O a0 (fun j c M => ?_) hu
    obtain⟨e,F,Bs⟩:=Uf h0 fs O j c M
    obtain⟨_,m9⟩:=hE.get _ e F
    obtain⟨u',a3,a'⟩:=m9.get _ c Bs
    rw[add_add,Nat.zero_add,Nat.zero_add,Nat.mul_comm,Nat.div_add_mod]at a3
    exact⟨u',a3,a'⟩
  ·cases F
 ·obtain⟨cs,Z,F⟩:=Option.bind_eq_some_iff.1 F
  split at F
  ·rename_i m z' off len own _ hz
   obtain⟨rfl,hlen⟩:=hz
   cases F
   simp only[ak]at H
   obtain⟨cap,o,hu,a0,oo,_⟩:=H.2.2 (W.get Z)
   by_cases eW:len=0
   ·subst eW
    refine⟨fun j e M=>by simp[chunk]at M,some ⟨C.ρ m,o,none⟩,cap,[],by rw[hu];rfl,by simp[chunk],by simp only[chunk,List.flatten_nil,aD],fun w hw => ?_⟩
    rw[hu]
    simp[Builtin.firstCells,loadCells,loadCellsFrom,chunk]
   ·have MB:o=C.bs m+off:=by
     rcases oo with h3 | h3
     ·exact h3
     ·omega
    subst MB
    have md:(chunk z' len (cs.drop off)).length=len:=qE _ _ _
    have O:∀(j:Nat) (e:List AV),(chunk z' len (cs.drop off))[j]? = some e->e.length=z':=fun j e M=>by
     obtain⟨A,rfl⟩:=AA _ _ _ _ _ M
     have:(j+1)*z'<=len*z':=Nat.mul_le_mul_right _ A
     rw[Nat.succ_mul]at this
     simp;omega
    refine fromCells ⟨C.ρ m,C.bs m+off,none⟩ cap O (by rw[md];exact a0) (fun j c M => ?_) (by rw[md];exact hu)
    obtain⟨e,F,Bs⟩:=Uf h0 _ O j c M
    obtain⟨A,rfl⟩:=AA _ _ _ _ _ F
    rw[List.getElem?_take,if_pos (Nat.mod_lt _ h0),List.getElem?_drop,List.getElem?_drop]at Bs
    have e1:off+(j / z'*z'+j % z')=off+j:=by rw[Nat.mul_comm,Nat.div_add_mod]
    rw[e1]at Bs
    obtain⟨u',a3,a'⟩:=yR (W.obj m cs Z) _ c Bs
    rw[j_]at a3
    exact⟨u',by rw[j_,Nat.add_assoc];exact a3,a'⟩
  ·cases F
 ·cases F
  simp only[ak]at H
  subst H
  rename_i ab c
  refine⟨fun j e M=>by simp at M,ab,c,[],rfl,Nat.zero_le _,by simp only[List.flatten_nil,aD],fun w _ => ?_⟩
  cases ab with
  | none=>rfl
  | some a=>simp[Builtin.firstCells,loadCells,loadCellsFrom]
 ·cases F
def c' (P:Program) (e:TypeId):Nat:=((P.info? e).map (·.bytes)).getD 0
theorem PY {P:Program} {w:World} {t xt ty e:TypeId} {i:TypeInfo} {zv:Value} (ht:P.underlying t=some (.slice e)) (BV:P.underlying xt=some (.slice e)) (hi:P.info? e=some i) (hz:i.zero=some zv)
  (ab ad:Option Addr) (sLen sCap k c:Nat) (olds news:List Value)
  (ho:∀w':World,w'.heap=w.heap->(Builtin.firstCells i.size sLen (.slice ab sLen sCap)).run P w' = .ok olds.toArray w')
  (hn:∀w':World,w'.heap=w.heap->(Builtin.firstCells i.size k (.slice ad k c)).run P w' = .ok news.toArray w')
  (Z:sCap<sLen+k) (h47:(sLen+k)*i.bytes<=140737488355328) (h63:sLen+k<=9223372036854775807) :
  ∃cap zs,(Builtin.append_ #[t,xt] ty #[.slice ab sLen sCap,.slice ad k c]).run P w = .ok (.slice (some ⟨w.heap.size,0,none⟩) (sLen+k) cap) (w.drew.alloc (.cells (olds.toArray++news.toArray++zs) e))/\sLen+k<=cap/\zs.size=(cap-(sLen+k))*zv.cells.size:=by
 have vq:¬(sLen+k<=sCap):=by omega
 have afM:¬(9223372036854775807<((sLen:Int)+(k:Int))):=by omega
 have d8:=growslice_fits (bytes:=i.bytes) Z h47
 have afL:¬(281474976710656<Builtin.nextslicecap (sLen+k) sCap*i.bytes):=by omega
 refine⟨grownCap w (sLen+k) sCap e,Builtin.zeroCells zv.cells (grownCap w (sLen+k) sCap e-(sLen+k)),?_,grownCap_ge _ _ _ _,by rw[size_zeroCells]⟩
 have hf:=hn w.drew rfl
 have g0:=ho w.drew rfl
 simp[Builtin.append_,run_underlying ht,run_underlying BV,sizeOf,typeInfo,zeroValue,hi,hz,Builtin.lenOf,vq,afM,afL,Question.forced,hf,g0,newRow,grownCap]
 congr 2
 apply Array.ext'
 simp[List.append_assoc]
theorem YU {P:Program} {w:World} {t xt ty e:TypeId} {i:TypeInfo} (ht:P.underlying t=some (.slice e)) (BV:P.underlying xt=some (.slice e)) (hi:P.info? e=some i)
  (ab ad:Option Addr) (sLen sCap c:Nat) (hs:sLen<=sCap) (hn:(Builtin.firstCells i.size 0 (.slice ad 0 c)).run P w = .ok #[] w) :
  (Builtin.append_ #[t,xt] ty #[.slice ab sLen sCap,.slice ad 0 c]).run P w = .ok (.slice ab sLen sCap) w:=by
 cases ab<;>simp[Builtin.append_,run_underlying ht,run_underlying BV,sizeOf,typeInfo,hi,Builtin.lenOf,hs,hn,storeCells]
end Go.Proofs.Aw
namespace Go.Proofs.Aw
open Go
def Ctx.move (C:Ctx) (n:Nat) (m:Nm) (b k0:Nat) (w:World):Ctx where
 ρ:=fun k=>if k=(n,0)then b else C.ρ k
 bs:=fun k=>if k=(n,0)then k0 else C.bs k
 live:=fun k=>k=(n,0)\/(C.live k/\k≠m)
 kn:=fun i=>C.kn i\/i.1=n
 mt:=fun dt=>(C.mt dt/\dt<C.w.heap.size)\/dt=b
 w:=w
theorem c8.move {C:Ctx} {n:Nat} {h:Hp} {r:AV} {Y:Value} {m:Nm} {cs bi:List AV} {b k0:Nat} {arr':Array Value} {ty:TypeId} (W:c6 C h) (hn:(∀k,¬C.kn (n,k))) (Z:ae h m=some cs) {w:World}
  (gc:w.heap[b]? = some (.cells arr' ty (0,0))) (b9:C.w.heap.size<=w.heap.size) (s_:∀k,k<C.w.heap.size->k≠C.ρ m->w.heap[k]? = C.w.heap[k]?) (py:b=C.ρ m\/C.w.heap.size<=b)
  (aI:∀(j:Nat) (c:AV),bi[j]? = some c->∃Y,arr'[k0+j]? = some Y/\ak C c Y) (hr:ak (C.move n m b k0 w) r Y) (ho:w.os=C.w.os) (ht:w.tape=C.w.tape) (hu:w.output=C.w.output) :
  c8 C n h r [(m,none),((n,0),some bi)] Y (C.move n m b k0 w):=by
 have O:=W.get Z
 have ay:∀k,C.live k->k≠(n,0):=fun k u e=>hn 0 (by have:=W.kn k u;rw[e]at this;exact this)
 have hmn:=ay m O
 have BM:=W.mt m O
 have s6:=W.lt O
 have kC:∀k,C.live k->(C.move n m b k0 w).ρ k=C.ρ k:=fun k u=>by simp[Ctx.move,ay k u]
 have od:∀k,C.live k->(C.move n m b k0 w).bs k=C.bs k:=fun k u=>by simp[Ctx.move,ay k u]
 have i6:∀k,ae (aE [(m,none),((n,0),some bi)] h) k=if(n,0)=k then some bi else if m=k then none else ae h k:=fun k=>by
  simp only[aE];rw[dO,vm]
 have le:C.le (C.move n m b k0 w):=by
  refine⟨b9,fun k u BL=>s_ k u (fun e=>BL (by rw[e];exact BM)),fun k u BL => ?_,fun _ h => .inl h,fun k u sY => ?_,fun k u sY ds ty' H => ?_⟩
  ·rcases BL with A | A
   ·exact A.1
   ·rcases py with E | E
    ·rw[A,E];exact BM
    ·omega
  ·have aJ:k≠(n,0):=fun e=>hn 0 (by rw[e]at u;exact u)
   rcases sY with A | A
   ·exact absurd A aJ
   ·exact⟨A.1,by simp[Ctx.move,aJ]⟩
  ·have aJ:k≠(n,0):=fun e=>hn 0 (by rw[e]at u;exact u)
   rcases sY with A | A
   ·exact absurd A aJ
   ·exact⟨ds,ty',(s_ _ (W.lt A.1) (fun e=>A.2 (W.inj _ _ A.1 O e))).trans H,rfl⟩
 have UZ:b<w.heap.size:=by
  rcases Nat.lt_or_ge b w.heap.size with E | E
  ·exact E
  ·rw[Array.getElem?_eq_none E]at gc;cases gc
 have xX:∀k,C.live k->k≠m->C.ρ k≠b:=fun k u Mv e=>by
  rcases py with E | E
  ·exact Mv (W.inj _ _ u O (e.trans E))
  ·have:=W.lt u;omega
 refine⟨le,fun _=>Iff.rfl,⟨fun k => ?_,fun k ds u => ?_,fun k k' u aJ F => ?_,fun k u => ?_,fun k u => ?_⟩,hr,fun k u i9=>s_ k u (i9 m (by simp) O),fun k u => ?_,ho,ht,hu,fun k u => ?_,fun k u => ?_⟩
 ·rw[i6]
  by_cases e:(n,0)=k
  ·simp[Ctx.move,<-e]
  ·rw[if_neg e]
   by_cases e2:m=k
   ·simp[Ctx.move,<-e2,hmn]
   ·rw[if_neg e2,<-W.live k]
    simp[Ctx.move,Ne.symm e,Ne.symm e2]
 ·rw[i6]at u
  by_cases e:(n,0)=k
  ·rw[if_pos e]at u
   subst e
   cases u
   refine⟨arr',ty,by simp[Ctx.move,gc],fun j c M => ?_⟩
   obtain⟨u',a3,H⟩:=aI j c M
   exact⟨u',by simpa only[Ctx.move,if_true]using a3,H.mono le⟩
  ·rw[if_neg e]at u
   by_cases e2:m=k
   ·rw[if_pos e2]at u;cases u
   ·rw[if_neg e2]at u
    have sY:=W.get u
    obtain⟨arr1,zB,ha,H⟩:=W.obj k ds u
    refine⟨arr1,zB,?_,fun j c M => ?_⟩
    ·rw[kC k sY]
     exact(s_ _ (W.lt sY) (fun F=>e2 (W.inj _ _ sY O F).symm)).trans ha
    ·obtain⟨u',a3,dH⟩:=H j c M
     exact⟨u',by rw[od k sY];exact a3,dH.mono le⟩
 ·rcases u with rfl | ⟨u,Mv⟩<;>rcases aJ with rfl | ⟨aJ,agr⟩
  ·rfl
  ·rw[kC k' aJ]at F
   simp[Ctx.move]at F
   exact absurd F.symm (xX k' aJ agr)
  ·rw[kC k u]at F
   simp[Ctx.move]at F
   exact absurd F (xX k u Mv)
  ·rw[kC k u,kC k' aJ]at F
   exact W.inj k k' u aJ F
 ·rcases u with rfl | ⟨u,_⟩
  ·simp[Ctx.move]
  ·rw[kC k u];exact .inl ⟨W.mt k u,W.lt u⟩
 ·rcases u with rfl | ⟨u,_⟩
  ·exact .inr rfl
  ·exact .inl (W.kn k u)
 ·simp only[Ctx.move]
  constructor
  ·rintro(A | A)
   ·exact A.1
   ·rcases py with E | E
    ·rw[A,E];exact BM
    ·omega
  ·intro A;exact .inl ⟨A,u⟩
 ·rcases u with rfl | ⟨u,_⟩
  ·rcases py with E | E
   ·exact .inr (.inr ⟨m,by simp,O,by simp[Ctx.move,E]⟩)
   ·exact .inr (.inl (by simp[Ctx.move,E]))
  ·exact .inl ⟨u,kC k u⟩
 ·simp at u
  rcases u with rfl | rfl
  ·exact .inl O
  ·exact .inr rfl
theorem Az (z:Nat):∀(k:Nat) (cs:List AV),cs.length=k*z->(chunk z k cs).flatten=cs
 | 0,cs,h=>by simp[chunk];exact List.length_eq_zero_iff.1 (by simpa using h)
 | k+1,cs,h=>by
  simp only[chunk,List.flatten_cons]
  rw[Az z k (cs.drop z) (by rw[List.length_drop,h,Nat.succ_mul];omega)]
  exact List.take_append_drop z cs
section
variable {P:Program} {n:Nat} {t:Tp} {h:Hp}
theorem Fa {C:Ctx} {a:Act} (ht:gb C t a) (c:Call):aD C (c.args.toList.map (ev t)) (c.args.map a.eval).toList:=by
 rw[Array.toList_map]
 exact aD.Fg ht _
theorem acp {c:Call} {x:AV} {xs:List AV} {v:AV} (hb:c.callee = .builtin .max) (hx:c.args.toList.map (ev t)=x::xs) (hm:pO x xs=some v):Yields P n (.call c) t h v [] :=
 Yields.pure fun C a o ho W ht=>by
  have hL:=Fa ht c
  rw[hx]at hL
  simp only[aD]at hL
  obtain⟨Y,us,F,hu,fL⟩:=hL
  obtain⟨r,hr,R⟩:=Y0 (P:=P) xs us x v Y hu fL hm
  refine⟨r,?_,R⟩
  rw[tU hb _ _ o ho]
  have:(Builtin.max_ c.argTypes o.type (c.args.map a.eval)).run P C.w = .ok r C.w:=by
   unfold Builtin.max_
   simp only[F,hr]
  simp only[builtin,Sem.run_bind,this,Result.andThen_ok]
  rfl
theorem ab7 {c:Call} {b:Builtin} {xs:List AV} {v:AV} (hb:c.callee = .builtin b) (hx:c.args.toList.map (ev t)=xs) (hm:uV b xs=some v):Yields P n (.call c) t h v [] :=
 Yields.pure fun C a o ho W ht=>by
  have hL:=Fa ht c
  rw[hx]at hL
  unfold uV at hm
  split at hm
  ·cases hm
   simp only[aD,ak]at hL
   obtain⟨_,_,F,rfl,rfl⟩:=hL
   refine⟨_,?_,by simp only[ak];rfl⟩
   rw[tU hb _ _ o ho]
   have e:c.args.map a.eval = #[_]:=Array.ext' F
   rw[e]
   rfl
  ·cases hm
   simp only[aD,ak]at hL
   obtain⟨_,_,F,rfl,rfl⟩:=hL
   refine⟨_,?_,by simp only[ak];rfl⟩
   rw[tU hb _ _ o ho]
   have e:c.args.map a.eval = #[_]:=Array.ext' F
   rw[e]
   rfl
  ·cases hm
   simp only[aD,ak]at hL
   obtain⟨_,_,F,rfl,_,_,rfl,rfl,rfl⟩:=hL
   refine⟨_,?_,by simp only[ak];rfl⟩
   rw[tU hb _ _ o ho]
   have e:c.args.map a.eval = #[_,_]:=Array.ext' F
   rw[e]
   rfl
  ·cases hm
theorem acq {c:Call} {x:AV} {xs:List AV} {v:AV} (hb:c.callee = .builtin .min) (hx:c.args.toList.map (ev t)=x::xs) (hm:pP x xs=some v):Yields P n (.call c) t h v [] :=
 Yields.pure fun C a o ho W ht=>by
  have hL:=Fa ht c
  rw[hx]at hL
  simp only[aD]at hL
  obtain⟨Y,us,F,hu,fL⟩:=hL
  obtain⟨r,hr,R⟩:=Y1 (P:=P) xs us x v Y hu fL hm
  refine⟨r,?_,R⟩
  rw[tU hb _ _ o ho]
  have:(Builtin.min_ c.argTypes o.type (c.args.map a.eval)).run P C.w = .ok r C.w:=by
   unfold Builtin.min_
   simp only[F,hr]
  simp only[builtin,Sem.run_bind,this,Result.andThen_ok]
  rfl
def jv (z:Nat):AV->Option (List (List AV))
 | .ro z' D true=>if z'=z then some D else none
 | .sc (.slice none 0 0)=>some []
 | _=>none
theorem iU {C:Ctx} {z:Nat} {D:List (List AV)} {full:Bool} {Y:Value}:ak C (.ro z D full) Y↔∃ab cap,Y = .slice ab D.length cap/\D.length<=cap/\(full=true->cap=D.length) /\
   (D≠[]->∃a,ab=some a/\a.block<C.w.heap.size/\¬C.mt a.block/\dR C a z 0 D):=Iff.rfl
theorem Sn {C:Ctx} (W:c6 C h) {z:Nat} (h0:0<z) {v:AV} {Y:Value} {D:List (List AV)} (H:ak C v Y) (F:jv z v=some D) :
  w7 P C z Y D/\(∃ab,Y = .slice ab D.length D.length)/\ak C (.ro z D false) Y:=by
 unfold jv at F
 split at F
 ·split at F
  ·rename_i z' bB hz
   cases F
   subst hz
   have hs:w7 P C z' Y D:=u0 W h0 H (by simp[ez])
   obtain⟨ab,cap,hu,a0,hf,ay⟩:=iU.1 H
   exact⟨hs,⟨ab,by rw[hu,hf rfl]⟩,iU.2 ⟨ab,cap,hu,a0,fun h=>(nomatch h),ay⟩⟩
  ·cases F
 ·cases F
  have hs:w7 P C z Y []:=u0 W h0 H (by simp[ez])
  simp only[ak]at H
  subst H
  exact⟨hs,⟨none,rfl⟩,iU.2 ⟨none,0,rfl,Nat.le_refl _,fun h=>(nomatch h),fun h=>absurd rfl h⟩⟩
 ·cases F
structure zV (P:Program) (ty xt e:TypeId) (z:Nat) (wS:Nat):Prop where
 hs:bE P ty=some (e,z)
 hx:bE P xt=some (e,z)
 hz:(fE P e).map List.length=some z
 hb:wS*c' P e<=140737488355328
 hm:wS<=9223372036854775807
theorem zV.info {ty xt e:TypeId} {z wS:Nat} (hA:zV P ty xt e z wS):∃i zv,P.underlying ty=some (.slice e)/\P.underlying xt=some (.slice e)/\P.info? e=some i/\i.zero=some zv/\zv.cells.size=z/\i.size=z/\0<z/\wS*i.bytes<=140737488355328:=by
 obtain⟨hu,F,h0⟩:=lT hA.hs
 obtain⟨a3,_,_⟩:=lT hA.hx
 obtain⟨zc,jI,jJ⟩:=Option.map_eq_some_iff.1 hA.hz
 obtain⟨i,zv,hi,iC,rfl⟩:=Js jI
 refine⟨i,zv,hu,a3,hi,iC,by simpa using jJ,?_,h0,?_⟩
 ·have:P.cellsOf e=i.size:=by simp[Program.cellsOf,hi]
  omega
 ·have hb:=hA.hb
  simp only[c',hi,Option.map_some,Option.getD_some]at hb
  exact hb
theorem zm {c:Call} {ty xt:TypeId} {s x:Operand} (hb:c.callee = .builtin .append) (is:c.argTypes = #[ty,xt]) (ha:c.args = #[s,x]) {a:Act} {o:Oper} (ho:o.op = .call c) {w w':World} {r:Value}
  (h:(Builtin.append_ #[ty,xt] o.type #[a.eval s,a.eval x]).run P w = .ok r w'):(execOp a.eval o).run P w = .ok (.value r) w':=by
 rw[tU hb _ _ o ho,is,ha]
 simp only[builtin,Sem.run_bind,List.map_toArray,List.map_cons,List.map_nil,h,Result.andThen_ok]
 rfl
theorem abY {c:Call} {ty xt e:TypeId} {s x:Operand} {z:Nat} {D fs:List (List AV)} (hb:c.callee = .builtin .append) (is:c.argTypes = #[ty,xt]) (ha:c.args = #[s,x]) (F:jv z (ev t s)=some D) (hf:ez h z (ev t x)=some fs)
  (hA:zV P ty xt e z (D.length+fs.length)):Yields P n (.call c) t h (.ro z (D++fs) false) [] :=
 Yields.run fun C a o ho W ht hn=>by
  obtain⟨i,zv,hu,a3,hi,iC,yh,b9,h0,ut⟩:=hA.info
  obtain⟨kD,⟨ab,R⟩,e7⟩:=Sn (P:=P) W h0 (b4 ht s) F
  have jG:=u0 (P:=P) W h0 (b4 ht x) hf
  obtain⟨ad,c2,news,kE,_,kA,i_⟩:=jG.news
  by_cases BC:fs=[]
  ·subst BC
   refine⟨a.eval s,C.same n C.w,?_,?_⟩
   ·refine zm hb is ha ho ?_
    rw[R,kE]
    have q9:news=[]:=by
     have:=kA.length
     simpa using this.symm
    have:=i_ C.w rfl
    rw[kE,q9,<-b9]at this
    exact YU hu a3 hi ab ad _ _ c2 (Nat.le_refl _) this
   ·rw[List.append_nil]
    exact c8.pure W e7 rfl rfl rfl rfl
  ·obtain⟨A',c1,olds,mr,_,s7,x_⟩:=kD.news
   have hlen:0<fs.length:=List.length_pos_iff.2 BC
   rw[R]at mr
   obtain⟨e1,-,e2⟩:=Value.slice.inj mr
   subst e1 e2
   obtain⟨cap,zs,bJ,gi,_⟩:=PY (P:=P) (w:=C.w) (ty:=o.type) hu a3 hi iC ab ad D.length D.length fs.length c2 olds news
    (fun w' hw=>by have:=x_ w' hw;rw[R]at this;rw[b9];exact this) (fun w' hw=>by have:=i_ w' hw;rw[kE]at this;rw[b9];exact this) (by omega) ut hA.hm
   refine⟨_,C.iQ n (C.w.drew.alloc (.cells (olds.toArray++news.toArray++zs) e)),zm hb is ha ho (by rw[R,kE];exact bJ),?_⟩
   refine c8.iQ W (o := .cells (olds.toArray++news.toArray++zs) e) rfl ?_ rfl rfl rfl
   have agv:∀(j:Nat) (e:List AV),(D++fs)[j]? = some e->e.length=z:=fun j e M=>by
    rcases List.mem_append.1 (List.mem_of_getElem? M)with A | A
    ·obtain⟨k,u⟩:=List.mem_iff_getElem?.1 A;exact kD.len k e u
    ·obtain⟨k,u⟩:=List.mem_iff_getElem?.1 A;exact jG.len k e u
   have hL:=s7.append kA
   have:=Yr (C:=C) (n:=n) (w:=C.w.drew.alloc (.cells (olds.toArray++news.toArray++zs) e)) (ty:=e) (cs:=(D++fs).flatten) (D:=D++fs) (z:=z) (cap:=cap) (full:=false) rfl (fun j c M=>by
    rw[List.flatten_append]at M
    obtain⟨Y,hu,a'⟩:=hL.get j c M
    refine⟨Y,?_,a'⟩
    rw[Array.getElem?_append_left]
    ·simpa using hu
    ·have:=(List.getElem?_eq_some_iff.1 hu).1
     simpa using this) agv rfl (by simpa using gi) (fun h=>by cases h)
   rw[List.length_append]at this
   exact this
theorem abW {c:Call} {ty xt e:TypeId} {s x:Operand} {z:Nat} {D fs:List (List AV)} (hb:c.callee = .builtin .append) (is:c.argTypes = #[ty,xt]) (ha:c.args = #[s,x]) (F:jv z (ev t s)=some D) (hf:ez h z (ev t x)=some fs)
  (hA:zV P ty xt e z (D.length+fs.length)) (ay:fs≠[]):Yields P n (.call c) t h (.sl (n,0) z 0 (D.length+fs.length) true) [((n,0),some (D.flatten++fs.flatten))] :=
 Yields.run fun C a o ho W ht hn=>by
  obtain⟨i,zv,hu,a3,hi,iC,yh,b9,h0,ut⟩:=hA.info
  obtain⟨kD,⟨ab,R⟩,_⟩:=Sn (P:=P) W h0 (b4 ht s) F
  have jG:=u0 (P:=P) W h0 (b4 ht x) hf
  obtain⟨ad,c2,news,kE,_,kA,i_⟩:=jG.news
  obtain⟨A',c1,olds,mr,_,s7,x_⟩:=kD.news
  have hlen:0<fs.length:=List.length_pos_iff.2 ay
  rw[R]at mr
  obtain⟨e1,-,e2⟩:=Value.slice.inj mr
  subst e1 e2
  obtain⟨cap,zs,bJ,gi,M3⟩:=PY (P:=P) (w:=C.w) (ty:=o.type) hu a3 hi iC ab ad D.length D.length fs.length c2 olds news
   (fun w' hw=>by have:=x_ w' hw;rw[R]at this;rw[b9];exact this) (fun w' hw=>by have:=i_ w' hw;rw[kE]at this;rw[b9];exact this) (by omega) ut hA.hm
  refine⟨_,C.ck n (C.w.drew.alloc (.cells (olds.toArray++news.toArray++zs) e)),zm hb is ha ho (by rw[R,kE];exact bJ),?_⟩
  have hL:=s7.append kA
  refine c8.ck W hn (arr:=olds.toArray++news.toArray++zs) (ty:=e) rfl (fun j c M => ?_) ?_ rfl rfl rfl
  ·obtain⟨Y,hu,a'⟩:=hL.get j c M
   refine⟨Y,?_,a'⟩
   rw[Array.getElem?_append_left]
   ·simpa using hu
   ·have:=(List.getElem?_eq_some_iff.1 hu).1
    simpa using this
  ·simp only[ak,Ctx.ck,if_true]
   refine⟨⟨_,_,_,rfl⟩,.inr trivial,fun _=>⟨cap,0,rfl,gi,.inl rfl,fun _=>⟨_,e,heap_alloc_new C.w.drew _,?_⟩⟩⟩
   have l1:=s7.length
   have l2:=kA.length
   rw[gY D kD.len]at l1
   rw[gY fs jG.len]at l2
   have:(D.length+fs.length)*z+(cap-(D.length+fs.length))*z=cap*z:=by rw[<-Nat.add_mul];congr 1;omega
   rw[Nat.add_mul]at this
   simp[M3,yh]
   omega
theorem abX {c:Call} {ty xt e:TypeId} {s x:Operand} {z off len:Nat} {m:Nm} {cs:List AV} {fs:List (List AV)} (hb:c.callee = .builtin .append) (is:c.argTypes = #[ty,xt]) (ha:c.args = #[s,x]) (nh:ev t s = .sl m z off len true)
  (Z:ae h m=some cs) (md:cs.length=off+len*z) (hf:ez h z (ev t x)=some fs) (A:fs.flatten.all AV.one=true) (hA:zV P ty xt e z (len+fs.length)) :
  Yields P n (.call c) t h (.sl (n,0) z 0 (len+fs.length) true) [(m,none),((n,0),some (cs.drop off++fs.flatten))] :=
 Yields.run fun C a o ho W ht hn=>by
  obtain⟨i,zv,hu,a3,hi,iC,yh,b9,h0,ut⟩:=hA.info
  have e7:=b4 ht s
  rw[nh]at e7
  have kD:w7 P C z (a.eval s) (chunk z len (cs.drop off)):=u0 W h0 e7 (by simp[ez,Z,md])
  simp only[ak]at e7
  obtain⟨cap,of,R,a0,oo,x9⟩:=e7.2.2 (W.get Z)
  obtain⟨arr,o9,lm,gi⟩:=x9 trivial
  have FG:arr.toList.length=arr.size:=by simp
  have jG:=u0 (P:=P) W h0 (b4 ht x) hf
  obtain⟨ad,c2,news,kE,_,kA,i_⟩:=jG.news
  have l2:=kA.length
  rw[gY fs jG.len]at l2
  obtain⟨arr0,zB,FF,om⟩:=W.obj m cs Z
  rw[lm]at FF
  cases FF
  generalize UY:C.bs m=du at oo gi om
  have FL:(cs.drop off).length=len*z:=by rw[List.length_drop,md];omega
  have Vm:∀(j:Nat) (c:AV),(cs.drop off)[j]? = some c->∃Y,arr[du+off+j]? = some Y/\ak C c Y:=fun j c M=>by
   rw[List.getElem?_drop]at M
   rw[Nat.add_assoc];exact om _ c M
  have afZ:du+off+len*z<=arr.size:=by
   have:len*z<=cap*z:=Nat.mul_le_mul_right _ a0
   omega
  have FQ:∀w':World,w'.heap=C.w.heap->(Builtin.firstCells i.size fs.length (.slice ad fs.length c2)).run P w' = .ok news.toArray w':=fun w' hw=>by
   have:=i_ w' hw;rw[kE]at this;rw[b9];exact this
  have L5:∀(arr':Array Value) (k0:Nat),(∀(j:Nat) (c:AV),(cs.drop off)[j]? = some c->∃Y,arr'[k0+j]? = some Y/\ak C c Y)->(∀(j:Nat) (Y:Value),news[j]? = some Y->arr'[k0+(len*z+j)]? = some Y)->∀(j:Nat) (c:AV),(cs.drop off++fs.flatten)[j]? = some c->∃Y,arr'[k0+j]? = some Y/\ak C c Y:=by
   intro arr' k0 hA1 hA2 j c M
   by_cases nb:j<(cs.drop off).length
   ·rw[List.getElem?_append_left nb]at M
    exact hA1 j c M
   ·rw[List.getElem?_append_right (by omega)]at M
    obtain⟨Y,hu,a'⟩:=kA.get _ c M
    have:=hA2 _ Y hu
    rw[FL,show len*z+(j-len*z)=j from by omega]at this
    exact⟨Y,this,a'⟩
  have s6:=W.lt (W.get Z)
  by_cases By:fs=[]
  ·
   subst By
   have q9:news=[]:=by simpa using l2.symm
   refine⟨a.eval s,C.move n m (C.ρ m) (du+off) C.w,?_,c8.move W hn Z lm (Nat.le_refl _) (fun _ _ _=>rfl) (.inl rfl) (L5 arr _ Vm (fun j Y M=>by rw[q9]at M;simp at M)) ?_ rfl rfl rfl⟩
   ·refine zm hb is ha ho ?_
    rw[R,kE]
    have:=FQ C.w rfl
    rw[q9]at this
    exact YU hu a3 hi _ ad _ _ c2 a0 this
   ·simp only[ak,Ctx.move,if_true]
    refine⟨⟨_,_,_,R⟩,.inr trivial,fun _=>⟨cap,of,by rw[R];rfl,by simpa using a0,oo,fun _=>⟨arr,o9,lm,gi⟩⟩⟩
  have hlen:0<fs.length:=List.length_pos_iff.2 By
  by_cases MJ:len+fs.length<=cap
  ·
   have MC:of=du+off:=by
    rcases oo with E | E
    ·exact E
    ·omega
   subst MC
   have gG:∀v∈news,v.oneCell'=true:=fun v oq=>by
    obtain⟨k,u⟩:=List.mem_iff_getElem?.1 oq
    have Mu:k<fs.flatten.length:=by rw[gY fs jG.len,l2];exact(List.getElem?_eq_some_iff.1 u).1
    obtain⟨u',a3,a'⟩:=kA.get k (fs.flatten[k]) (List.getElem?_eq_getElem Mu)
    rw[u]at a3;cases a3
    exact CM a' (List.all_eq_true.1 A _ (List.getElem_mem _))
   have agH:du+off+len*z+news.length<=arr.size:=by
    have:(len+fs.length)*z<=cap*z:=Nat.mul_le_mul_right _ MJ
    rw[Nat.add_mul]at this
    omega
   have fK:=run_storeCells_at (P:=P) (C.ρ m) (du+off+len*z) o9 news 0 arr C.w lm (by simpa using agH) gG
   rw[Nat.add_zero]at fK
   refine⟨.slice (some ⟨C.ρ m,du+off,none⟩) (len+fs.length) cap,C.move n m (C.ρ m) (du+off) (C.w.setRow (C.ρ m) (arr.toList.take (du+off+len*z)++news++arr.toList.drop (du+off+len*z+news.length)).toArray),?_,
    c8.move (arr':=(arr.toList.take (du+off+len*z)++news++arr.toList.drop (du+off+len*z+news.length)).toArray) W hn Z (setRow_heap C.w (C.ρ m) arr _ o9 _ lm) (by simp) (fun k _ u=>by simp[World.setRow,Array.getElem?_modify,Ne.symm u]) (.inl rfl) (L5 _ _ (fun j c M => ?_) (fun j Y M => ?_)) ?_ rfl rfl rfl⟩
   ·refine zm hb is ha ho ?_
    rw[R,kE]
    have Bz:=FQ C.w rfl
    simp only[b9]at Bz
    simp[Builtin.append_,run_underlying hu,run_underlying a3,sizeOf,typeInfo,hi,b9,Builtin.lenOf,MJ,Bz,j_,fK,Ctx.move]
   ·obtain⟨Y,a3,a'⟩:=Vm j c M
    refine⟨Y,?_,a'⟩
    have nb:j<len*z:=by rw[<-FL];exact(List.getElem?_eq_some_iff.1 M).1
    simp only[List.getElem?_toArray]
    rw[List.append_assoc,List.getElem?_append_left (by simp;omega),List.getElem?_take,if_pos (by omega)]
    simpa using a3
   ·simp only[List.getElem?_toArray]
    have nb:=(List.getElem?_eq_some_iff.1 M).1
    rw[List.append_assoc,List.getElem?_append_right (by simp;omega),List.length_take,FG,Nat.min_eq_left afZ,show du+off+(len*z+j)-(du+off+len*z)=j from by omega,List.getElem?_append_left nb]
    exact M
   ·simp only[ak,Ctx.move,if_true]
    refine⟨⟨_,_,_,rfl⟩,.inr trivial,fun _=>⟨cap,du+off,rfl,MJ,.inl rfl,fun _=>⟨_,o9,setRow_heap C.w (C.ρ m) arr _ o9 _ lm,?_⟩⟩⟩
    simp
    omega
  ·
   obtain⟨avV,c1,olds,mr,_,s7,x_⟩:=kD.news
   rw[qE]at mr x_
   rw[R]at mr
   obtain⟨e1,-,e2⟩:=Value.slice.inj mr
   subst e1 e2
   have l1:=s7.length
   rw[gY _ kD.len,qE]at l1
   obtain⟨cap',zs,bJ,af4,M3⟩:=PY (P:=P) (w:=C.w) (ty:=o.type) hu a3 hi iC _ ad len cap fs.length c2 olds news
    (fun w' hw=>by have:=x_ w' hw;rw[R]at this;rw[b9];exact this) FQ (by omega) ut hA.hm
   rw[Az z len (cs.drop off) FL]at s7
   refine⟨_,C.move n m C.w.heap.size 0 (C.w.drew.alloc (.cells (olds.toArray++news.toArray++zs) e)),zm hb is ha ho (by rw[R,kE];exact bJ),
    c8.move (arr':=olds.toArray++news.toArray++zs) (ty:=e) W hn Z (heap_alloc_new C.w.drew _) (by simp) (fun k u _=>heap_alloc_old C.w.drew _ u) (.inr (Nat.le_refl _)) (L5 _ _ (fun j c M => ?_) (fun j Y M => ?_)) ?_ rfl rfl rfl⟩
   ·obtain⟨Y,a3,a'⟩:=s7.get j c M
    refine⟨Y,?_,a'⟩
    have nb:=(List.getElem?_eq_some_iff.1 a3).1
    rw[Nat.zero_add,Array.getElem?_append_left (by simp;omega),Array.getElem?_append_left (by simpa using nb)]
    simpa using a3
   ·have nb:=(List.getElem?_eq_some_iff.1 M).1
    rw[Nat.zero_add,Array.getElem?_append_left (by simp;omega),Array.getElem?_append_right (by simp;omega)]
    simp[<-l1]
    exact M
   ·simp only[ak,Ctx.move,if_true]
    refine⟨⟨_,_,_,rfl⟩,.inr trivial,fun _=>⟨cap',0,rfl,af4,.inl rfl,fun _=>⟨_,e,heap_alloc_new C.w.drew _,?_⟩⟩⟩
    have:(len+fs.length)*z+(cap'-(len+fs.length))*z=cap'*z:=by rw[<-Nat.add_mul];congr 1;omega
    rw[Nat.add_mul]at this
    simp[M3,yh]
    omega
end
def xw (P:Program) (h:Hp) (ty:TypeId) (s x:AV):Option (AV×Dl) :=
 match bE P ty with
 | some (_,z)=>match ez h z x with
  | some fs=>match s with
   | .sl m z' off len _=>match ae h m with
    | some cs=>if z'=z/\fs.length<=len/\off+fs.length*z<=cs.length/\fs.flatten.all AV.one=true then some (.sc (.int .i64 fs.length),[(m,some (fY cs off fs.flatten))])else none
    | none=>none
   | _=>none
  | none=>none
 | none=>none
theorem ab6 {P:Program} {n:Nat} {t:Tp} {h:Hp} {c:Call} {ty xt:TypeId} {s x:Operand} {r:AV} {d:Dl} (hb:c.callee = .builtin .copy) (is:c.argTypes = #[ty,xt]) (ha:c.args = #[s,x]) (F:xw P h ty (ev t s) (ev t x)=some (r,d)):Yields P n (.call c) t h r d :=
 Yields.run fun C a o ho W ht hn=>by
  unfold xw at F
  split at F
  ·rename_i e z hs
   obtain⟨hu,hz,h0⟩:=lT hs
   subst hz
   split at F
   ·rename_i fs hf
    split at F
    ·rename_i m z' off len own nh
     split at F
     ·rename_i cs Z
      split at F
      ·rename_i H
       obtain⟨rfl,a0,d8,A⟩:=H
       cases F
       have e7:=b4 ht s
       rw[nh]at e7
       simp only[ak]at e7
       obtain⟨cap,of,R,Vg,oo,_⟩:=e7.2.2 (W.get Z)
       have jG:=u0 (P:=P) W h0 (b4 ht x) hf
       obtain⟨ad,c2,news,kE,_,kA,i_⟩:=jG.news
       have l2:=kA.length
       rw[gY fs jG.len]at l2
       obtain⟨arr,o9,lm,om⟩:=W.obj m cs Z
       have FG:arr.toList.length=arr.size:=by simp
       have agz:Nat.min fs.length len=fs.length:=Nat.min_eq_left a0
       have Bz:=i_ C.w rfl
       rw[kE]at Bz
       have aO:∀w',(storeCells ⟨C.ρ m,of,none⟩ news).run P C.w = .ok () w'->(execOp a.eval o).run P C.w = .ok (.value (.int .i64 fs.length)) w':=by
        intro w' fK
        rw[tU hb _ _ o ho,is,ha]
        have hcp:(Builtin.copy_ #[ty,xt] o.type #[a.eval s,a.eval x]).run P C.w = .ok (.int .i64 fs.length) w':=by
         rw[R,kE]
         simp[Builtin.copy_,run_underlying hu,Builtin.lenOf,agz,oV h0,Bz,fK,goInt]
        simp only[builtin,Sem.run_bind,List.map_toArray,List.map_cons,List.map_nil,hcp,Result.andThen_ok]
        rfl
       by_cases By:fs=[]
       ·subst By
        have q9:news=[]:=by simpa using l2.symm
        refine⟨_,C.same n C.w,aO C.w (by rw[q9];rfl),?_⟩
        refine c8.mod W Z lm lm rfl rfl (fun _ _=>rfl) (fun j c M => ?_) (by simp only[ak]) rfl rfl rfl
        have e0:fY cs off ([]:List (List AV)).flatten=cs:=by simp[fY]
        rw[e0]at M
        exact om j c M
       ·have hlen:0<fs.length:=List.length_pos_iff.2 By
        have MC:of=C.bs m+off:=by
         rcases oo with E | E
         ·exact E
         ·omega
        subst MC
        generalize UY:C.bs m=du at om aO
        have gG:∀v∈news,v.oneCell'=true:=fun v oq=>by
         obtain⟨k,u⟩:=List.mem_iff_getElem?.1 oq
         have Mu:k<fs.flatten.length:=by rw[gY fs jG.len,l2];exact(List.getElem?_eq_some_iff.1 u).1
         obtain⟨u',a3,a'⟩:=kA.get k (fs.flatten[k]) (List.getElem?_eq_getElem Mu)
         rw[u]at a3;cases a3
         exact CM a' (List.all_eq_true.1 A _ (List.getElem_mem _))
        have U9:fs.flatten.length=news.length:=by rw[gY fs jG.len,l2]
        have kB:0<fs.length*P.cellsOf e:=Nat.mul_pos hlen h0
        have b9:du+off+news.length<=arr.size:=by
         have BI:cs[off+fs.length*P.cellsOf e-1]? = some (cs[off+fs.length*P.cellsOf e-1]'(by omega)):=List.getElem?_eq_getElem _
         obtain⟨Y,hu,_⟩:=om _ _ BI
         have:=(Array.getElem?_eq_some_iff.1 hu).1
         omega
        have fK:=run_storeCells_at (P:=P) (C.ρ m) (du+off) o9 news 0 arr C.w lm (by omega) gG
        rw[Nat.add_zero]at fK
        refine⟨_,C.same n (C.w.setRow (C.ρ m) (arr.toList.take (du+off)++news++arr.toList.drop (du+off+news.length)).toArray),aO _ fK,?_⟩
        refine c8.mod (arr':=(arr.toList.take (du+off)++news++arr.toList.drop (du+off+news.length)).toArray) W Z lm (setRow_heap C.w (C.ρ m) arr _ o9 _ lm) ?_ (by simp) (fun k u => ?_) (fun j c M => ?_) (by simp only[ak]) rfl rfl rfl
        ·simp;omega
        ·simp[World.setRow,Array.getElem?_modify,Ne.symm u]
        ·rw[UY]
         simp only[fY,U9]at M
         simp only[List.getElem?_toArray]
         by_cases BG:j<off
         ·rw[List.getElem?_append_left (by simp;omega),List.getElem?_take,if_pos BG]at M
          obtain⟨Y,hu,a'⟩:=om j c M
          refine⟨Y,?_,a'⟩
          rw[List.append_assoc,List.getElem?_append_left (by simp;omega),List.getElem?_take,if_pos (by omega)]
          simpa using hu
         ·rw[List.getElem?_append_right (by simp;omega)]at M
          simp only[List.length_take,Nat.min_eq_left (show off<=cs.length by omega)]at M
          rw[List.append_assoc,List.getElem?_append_right (by simp;omega)]
          simp only[List.length_take,Array.length_toList,Nat.min_eq_left (show du+off<=arr.size by omega)]
          rw[show du+j-(du+off)=j-off from by omega]
          by_cases Mr:j-off<news.length
          ·rw[List.getElem?_append_left (by omega)]at M ⊢
           exact kA.get _ c M
          ·rw[List.getElem?_append_right (by omega)]at M ⊢
           rw[U9,List.getElem?_drop]at M
           rw[List.getElem?_drop]
           obtain⟨Y,hu,a'⟩:=om _ c M
           exact⟨Y,by rw[Nat.add_assoc,Nat.add_assoc,<-Nat.add_assoc off];simpa using hu,a'⟩
      ·cases F
     ·cases F
    ·cases F
   ·cases F
  ·cases F
end Go.Proofs.Aw
namespace Go.Proofs.Aw
open Go
section
variable {P:Program} {n:Nat} {t:Tp} {h:Hp}
theorem aco {ty e:TypeId} {z:Nat} {zc:List AV} {l c:Operand} {k k':IntKind} {m:Nat} (hs:bE P ty=some (e,z)) (hz:fE P e=some zc) (jJ:zc.length=z) (O:ev t l = .sc (.int k m)) (H:ev t c = .sc (.int k' m))
  (hb:m*c' P e<=140737488355328) (hm:m<=9223372036854775807):Yields P n (.makeSlice ty l c) t h (.sl (n,0) z 0 m true) [((n,0),some (mN m zc))] :=
 Yields.run fun C a o ho W ht hn=>by
  obtain⟨hu,F,h0⟩:=lT hs
  obtain⟨ie,zv,gD,iC,jI⟩:=Js hz
  have b9:ie.size=z:=by
   have:P.cellsOf e=ie.size:=by simp[Program.cellsOf,gD]
   omega
  have UZ:c' P e=ie.bytes:=by simp[c',gD]
  have n9:a.eval l = .int k m:=by have:=b4 ht l;rw[O]at this;simpa only[ak]using this
  have qO:a.eval c = .int k' m:=by have:=b4 ht c;rw[H]at this;simpa only[ak]using this
  have gc:(ie.bytes:Int)*(m:Int)<=281474976710656:=by
   rw[UZ]at hb
   have:((ie.bytes*m:Nat):Int)<=281474976710656:=by rw[Nat.mul_comm];omega
   rwa[Int.natCast_mul]at this
  have hr:=run_make (P:=P) C.w ty e ie zv hu gD iC k k' m m (by omega) (Int.le_refl _) gc (by omega)
  have F_:=abj (C:=C) (len:=m) jI (by omega)
  have hL:aD C (mN m zc) (madeCells zv.cells (m*ie.size)).toList:=by rw[b9,<-jJ];exact F_
  refine⟨.slice (some ⟨C.w.heap.size,0,none⟩) m m,C.ck n (C.w.alloc (.cells (madeCells zv.cells (m*ie.size)) e)),?_,c8.ck W hn (arr:=madeCells zv.cells (m*ie.size)) (ty:=e) rfl (fun j c M => ?_) ?_ rfl rfl rfl⟩
  ·unfold execOp
   rw[ho]
   simp only[Sem.run_bind,n9,qO,hr,Result.andThen_ok,Int.toNat_natCast]
   rfl
  ·obtain⟨Y,MO,H⟩:=hL.get j c M
   exact⟨Y,by simpa using MO,H⟩
  ·simp only[ak,Ctx.ck,if_true]
   exact⟨⟨_,_,_,rfl⟩,.inr trivial,fun _=>⟨m,0,rfl,Nat.le_refl _,.inl rfl,fun _=>⟨madeCells zv.cells (m*ie.size),e,heap_alloc_new C.w _,by rw[size_madeCells,b9];omega⟩⟩⟩
end
end Go.Proofs.Aw
namespace Go.Proofs.Aw
open Go
def CY (P:Program) (n:Nat) (f:FuncId) (args:List AV) (h:Hp) (r:AV) (d:Dl):Prop :=
 ∀(C:Ctx) (vs:List Value),c6 C h->aD C args vs->(∀k,¬C.kn (n,k))->Calls P f vs.toArray C.w fun e w'=>∃Y C',e = .returned Y/\C'.w=w'/\c8 C n h r d Y C'
def cj (P : Program) (f : FuncId) : Bool := match P.funcs[f]? with | some fn => fn.body.isSome && fn.name != "runtime.NumGoroutine" | none => false
theorem aqW {P:Program} {f:FuncId} (hb:cj P f=true) (args:Array Value) (w:World):(callFunc f args).run P w = .ok (.enter f args) w:=by
 unfold cj at hb
 cases hf:P.funcs[f]? with
 | none=>rw[hf]at hb;cases hb
 | some fn =>
  rw[hf]at hb
  simp only[Bool.and_eq_true,bne_iff_ne,ne_eq]at hb
  unfold callFunc
  have hn : (fn.name == "runtime.NumGoroutine") = false := by simpa using hb.2
  have hi:fn.body.isNone=false:=by
   cases h:fn.body with
   | none=>rw[h]at hb;simp at hb
   | some c=>rfl
  simp only[program,bind,Sem.bind,pure,Sem.run,hf,hn,hi,Bool.false_eq_true,if_false]
theorem ab4 {P:Program} {n:Nat} {t:Tp} {h:Hp} {c:Call} {x:Operand} {f:FuncId} {xs ys:List AV} {r:AV} {d:Dl} (H:c.callee = .value x) (hx:ev t x = .fn (.func f) xs ys) (hb:cj P f=true)
  (qX:CY P n f (xs++(c.args.toList.map (ev t)++ys)) h r d):Yields P n (.call c) t h r d:=by
 intro C a o next Q ho W ht hn u
 have A:=b4 ht x
 rw[hx]at A
 simp only[ak]at A
 obtain⟨us,vs,R,fL,iB⟩:=A
 have Mb:=Fa ht c
 have hL:=fL.append (Mb.append iB)
 have U1:=qX C _ W hL hn
 have lm:(us.toList++((c.args.map a.eval).toList++vs.toList)).toArray=us++c.args.map a.eval++vs:=by
  apply Array.ext';simp
 rw[lm]at U1
 have bJ:(execOp a.eval o).run P C.w = .ok (.enter f (us++c.args.map a.eval++vs)) C.w:=by
  obtain⟨cal,args,gQ⟩:=c
  simp only at H
  subst H
  unfold execOp
  rw[ho]
  simp only[resolve,Deferred.ofValue,R,Sem.run_bind,Sem.run_pure,Result.andThen_ok,invoke,aqW hb]
 unfold Oper.wp
 rw[bJ,Oper.upon_enter]
 exact U1.mono fun e w' ⟨Y,C',F,hw,hp⟩=>by
  subst F;subst hw
  exact u Y C' hp
def tK (b:Option Bool) (z:Nat) (cs:List AV) (off:Nat) (K:AV->Prop):Prop :=
 match b with
 | some true=>0<z/\off+z<=cs.length/\K (.agg ((cs.drop off).take z))
 | some false=>match cs[off]? with
  | some v=>K v
  | none=>False
 | none=>False
theorem y9 {b:Option Bool} {z:Nat} {cs:List AV} {off:Nat} {K:AV->Prop} (h:tK b z cs off K):∃ah v,b=some ah/\Rd ah z cs off v/\K v:=by
 unfold tK at h
 split at h
 ·exact⟨true,_,rfl,.inl ⟨rfl,h.1,h.2.1,rfl⟩,h.2.2⟩
 ·split at h
  ·rename_i v R
   exact⟨false,v,rfl,.inr ⟨rfl,R⟩,h⟩
  ·exact h.elim
 ·exact h.elim
def tn (P:Program) (h:Hp) (ty:TypeId) (x:AV) (K:AV->Prop):Prop :=
 match x with
 | .ptr m off=>match ae h m with
  | some cs=>tK (e5 P ty) (P.cellsOf ty) cs off K
  | none=>False
 | .ip cs off=>tK (e5 P ty) (P.cellsOf ty) cs off K
 | _=>False
def Dm (P:Program) (h:Hp) (ty:TypeId) (x y:AV) (K:Dl->Prop):Prop :=
 match x with
 | .ptr m off=>match ae h m with
  | some cs=>0<P.cellsOf ty/\y.cells.length=P.cellsOf ty/\off+P.cellsOf ty<=cs.length/\y.cells.all AV.one=true/\K [(m,some (fY cs off y.cells))]
  | none=>False
 | _=>False
def tc (P:Program) (h:Hp) (ty:TypeId) (x i:AV) (K:AV->Prop):Prop :=
 match i with
 | .sc (.int _ j)=>match x with
  | .ptr m off=>match ey P ty with
   | some (len,z)=>(ae h m).isSome=true/\0<=j/\j<len/\K (.ptr m (off+j.toNat*z))
   | none=>False
  | .ip cs off=>match ey P ty with
   | some (len,z)=>0<=j/\j<len/\K (.ip cs (off+j.toNat*z))
   | none=>False
  | .sl m z off len _=>match bE P ty with
   | some (_,z')=>z'=z/\(ae h m).isSome=true/\0<=j/\j<len/\K (.ptr m (off+j.toNat*z))
   | none=>False
  | .ro z D _=>match bE P ty with
   | some (_,z')=>z'=z/\0<=j/\match D[j.toNat]? with
    | some n9=>K (.ip n9 0)
    | none=>False
   | none=>False
  | _=>False
 | _=>False
def A0 (P:Program) (h:Hp) (ty:TypeId) (x:AV) (f:Nat) (K:AV->Prop):Prop :=
 match ji P ty with
 | some l=>match l[f]? with
  | some (o,_)=>match x with
   | .ptr m off=>(ae h m).isSome=true/\K (.ptr m (off+o))
   | .ip cs off=>K (.ip cs (off+o))
   | _=>False
  | none=>False
 | none=>False
def CZ (P:Program) (ty:TypeId):Option (List (Option Bool)):=match P.underlying ty with | some (.struct fs)=>some (fs.toList.map fun f=>e5 P f.type) | _=>none
def sv (P:Program) (ty:TypeId):Option Bool:=match P.underlying ty with | some (.array _ e)=>e5 P e | _=>none
def A3 (P:Program) (ty:TypeId) (x:AV) (f:Nat) (K:AV->Prop):Prop :=
 match ji P ty,CZ P ty,x with
 | some l,some bs,.agg cs=>match l[f]?,bs[f]? with
  | some (o,z),some b=>tK b z cs o K
  | _,_=>False
 | _,_,_=>False
def yk (P:Program) (ty:TypeId) (x i:AV) (K:AV->Prop):Prop :=
 match i with
 | .sc (.int _ j)=>match x with
  | .agg cs=>match ey P ty with
   | some (len,z)=>0<=j/\j<len/\tK (sv P ty) z cs (j.toNat*z) K
   | none=>False
  | .sc (.string s)=>nE P ty=true/\0<=j/\match s[j.toNat]? with
   | some b=>K (.sc (.int .u8 b.toNat))
   | none=>False
  | _=>False
 | _=>False
def hQ (d:Nat) (x:Option AV) (K:Nat->Prop):Prop :=
 match x with
 | none=>K d
 | some (.sc (.int _ i))=>0<=i/\K i.toNat
 | _=>False
theorem jx {d:Nat} {x:Option AV} {K:Nat->Prop} (h:hQ d x K):∃l,hJ d x l/\K l:=by
 unfold hQ at h
 split at h
 ·exact⟨d,.inl ⟨rfl,rfl⟩,h⟩
 ·exact⟨_,.inr ⟨_,_,rfl,h.1,rfl⟩,h.2⟩
 ·exact h.elim
def o0 (P:Program) (h:Hp) (ty:TypeId) (x:AV) (lo hi mx:Option AV) (K:AV->Prop):Prop :=
 match x with
 | .ro z D full=>match bE P ty with
  | some (_,z')=>z'=z/\(match mx with
   | none=>hQ 0 lo fun l=>hQ D.length hi fun W=>l<=W/\W<=D.length/\K (.ro z ((D.take W).drop l) (full&&W==D.length))
   | some mx=>hQ 0 lo fun l=>(match hi with
    | some hi=>hQ 0 (some hi) fun W=>hQ 0 (some mx) fun m=>l<=W/\W<=m/\m<=D.length/\K (.ro z ((D.take W).drop l) (m==W))
    | none=>False))
  | none=>False
 | .sl m z off len own=>match bE P ty with
  | some (_,z')=>z'=z/\(ae h m).isSome=true/\(match mx with
   | none=>hQ 0 lo fun l=>hQ len hi fun W=>l<=W/\W<=len/\K (.sl m z (off+l*z) (W-l) own)
   | some mx=>hQ 0 lo fun l=>(match hi with
    | some hi=>hQ 0 (some hi) fun W=>hQ 0 (some mx) fun m'=>W=l/\m'=l/\l<=len/\K (.ro z [] true)
    | none=>False))
  | none=>False
 | .ptr m off=>match ey P ty with
  | some (len,z)=>(ae h m).isSome=true/\mx=none/\hQ 0 lo fun l=>hQ len hi fun W=>l<=W/\W<=len/\K (.sl m z (off+l*z) (W-l) false)
  | none=>False
 | .sc (.string s)=>nE P ty=true/\mx=none/\hQ 0 lo fun l=>hQ s.size hi fun W=>l<=W/\W<=s.size/\K (.sc (.string (s.extract l W)))
 | .sc (.slice none 0 0)=>match bE P ty with
  | some _=>mx=none/\hQ 0 lo fun l=>hQ 0 hi fun W=>l=0/\W=0/\K (.sc (.slice none 0 0))
  | none=>False
 | _=>False
def nL (P:Program) (e:TypeId):Option Nat:=(fE P e).map List.length
def tp (P:Program) (n:Nat) (ty:TypeId) (l c:AV):Option (AV×Dl) :=
 match bE P ty,l,c with
 | some (e,z),.sc (.int _ a),.sc (.int _ b)=>match fE P e with
  | some zc=>if zc.length=z/\0<=a/\b=a/\a.toNat*c' P e<=140737488355328/\a<=9223372036854775807 then some (.sl (n,0) z 0 a.toNat true,[((n,0),some (mN a.toNat zc))])else none
  | none=>none
 | _,_,_=>none
def Al (P:Program) (n:Nat) (mu:Bool) (ty:TypeId) (len:Nat) (ps:List (Nat×AV)) (K:AV->Dl->Prop):Prop :=
 match bE P ty with
 | some (e,z)=>nL P e=some z/\len*z<=16777216/\ps.length=len/\ld z 0 ps=true /\
  (match mu with
  | false=>K (.ro z (gL ps) true) []
  | true=>K (.sl (n,0) z 0 len true) [((n,0),some (gL ps).flatten)])
 | none=>False
def z9 (P:Program) (n:Nat) (h:Hp) (mu:Bool) (ty xt:TypeId) (s x:AV) (K:AV->Dl->Prop):Prop :=
 match bE P ty with
 | some (e,z)=>bE P xt=some (e,z)/\nL P e=some z /\
  (match ez h z x with
  | some fs=>match s with
   | .sl m z' off len own=>z'=z/\own=true/\(match ae h m with
    | some cs=>cs.length=off+len*z/\fs.flatten.all AV.one=true/\(len+fs.length)*c' P e<=140737488355328/\len+fs.length<=9223372036854775807/\K (.sl (n,0) z 0 (len+fs.length) true) [(m,none),((n,0),some (cs.drop off++fs.flatten))]
    | none=>False)
   | s=>match jv z s with
    | some D=>(D.length+fs.length)*c' P e<=140737488355328/\D.length+fs.length<=9223372036854775807 /\
     (match mu with
     | false=>K (.ro z (D++fs) false) []
     | true=>fs≠[]/\K (.sl (n,0) z 0 (D.length+fs.length) true) [((n,0),some (D.flatten++fs.flatten))])
    | none=>False
  | none=>False)
 | none=>False
def Ke (P:Program) (n:Nat) (f:FuncId) (args:List AV) (h:Hp) (K:AV->Dl->Prop):Prop:=∃r d,cj P f=true/\CY P n f args h r d/\K r d
def CP (c a b:AV) (K:AV->Prop):Prop :=
 match c with
 | .sc (.bool p)=>(p=true->K a)/\(p=false->K b)
 | _=>False
def OC (h:Hp) (x:AV) (K:AV->Prop):Prop :=
 match x with
 | .ptr m off=>(ae h m).isSome=true/\K (.ptr m off)
 | .ip cs off=>K (.ip cs off)
 | .fn (.func f) xs ys=>K (.fn (.func f) xs ys)
 | _=>False
def jU (x:Option AV) (K:AV->Prop):Prop:=match x with | some v=>K v | none=>False
def ph (P:Program) (n:Nat) (mu:Bool) (b:Builtin) (h:Hp) (gQ:List TypeId) (args:List AV) (K:AV->Dl->Prop):Prop :=
 match b,gQ,args with
 | .len,ty::_,x::_=>match je P h ty x with
  | some m=>K (.sc (.int .i64 m)) []
  | none=>False
 | .max,_,x::xs=>jU (pO x xs) fun v=>K v []
 | .min,_,x::xs=>jU (pP x xs) fun v=>K v []
 | .append,[ty,xt],[s,x]=>z9 P n h mu ty xt s x K
 | .copy,[ty,_],[s,x]=>(match xw P h ty s x with
  | some (r,d)=>K r d
  | none=>False)
 | b,_,xs=>jU (uV b xs) fun v=>K v []
def j2 (P:Program) (n:Nat) (mu:Bool) (op:Op) (t:Tp) (h:Hp) (K:AV->Dl->Prop):Prop :=
 match op with
 | .move x=>K (ev t x) []
 | .assign x=>K (ev t x) []
 | .pick c a b=>CP (ev t c) (ev t a) (ev t b) fun v=>K v []
 | .alloc e=>match fE P e with
  | some cs=>K (.ptr (n,0) 0) [((n,0),some cs)]
  | none=>False
 | .box _ x=>(ev t x).cells.all AV.one=true/\K (.ptr (n,0) 0) [((n,0),some (ev t x).cells)]
 | .load ty x=>tn P h ty (ev t x) fun v=>K v []
 | .store ty x y=>Dm P h ty (ev t x) (ev t y) fun d=>K (.sc undef) d
 | .nilCheck x=>OC h (ev t x) fun v=>K v []
 | .indexAddr ty x i=>tc P h ty (ev t x) (ev t i) fun v=>K v []
 | .fieldAddr ty x f=>A0 P h ty (ev t x) f fun v=>K v []
 | .field ty x f=>A3 P ty (ev t x) f fun v=>K v []
 | .index ty x i=>yk P ty (ev t x) (ev t i) fun v=>K v []
 | .slice ty x lo hi mx=>o0 P h ty (ev t x) (lo.map (ev t)) (hi.map (ev t)) (mx.map (ev t)) fun v=>K v []
 | .binOp op ty x y _=>jU (gX P h op ty (ev t x) (ev t y)) fun v=>K v []
 | .unOp op _ x=>jU (si op (ev t x)) fun v=>K v []
 | .convert src dst x=>(P.underlying src).isSome=true/\jU (uU P dst (ev t x)) fun v=>K v []
 | .extract x i=>match ev t x with
  | .tup vs=>jU vs[i]? fun v=>K v []
  | _=>False
 | .makeFunc f xs ys=>K (.fn f (xs.toList.map (ev t)) (ys.toList.map (ev t))) []
 | .build ty ps=>match fE P ty with
  | some cs=>match mj (placeOf P ty) cs (ps.toList.map fun p=>(p.1,ev t p.2))with
   | some bi=>((ey P ty).isSome||(ji P ty).isSome)=true/\K (.agg bi) []
   | none=>False
  | none=>False
 | .buildSlice ty len ps=>Al P n mu ty len (ps.toList.map fun p=>(p.1,ev t p.2)) K
 | .makeSlice ty l c=>match tp P n ty (ev t l) (ev t c)with
  | some r=>K r.1 r.2
  | none=>False
 | .call c=>match c.callee with
  | .builtin b=>ph P n mu b h c.argTypes.toList (c.args.toList.map (ev t)) K
  | .value x=>match ev t x with
   | .fn (.func f) xs ys=>Ke P n f (xs++(c.args.toList.map (ev t)++ys)) h K
   | _=>False
  | _=>False
 | _=>False
section
variable {P:Program} {n:Nat} {t:Tp} {h:Hp} {mu:Bool} {K:AV->Dl->Prop}
def l3 (P:Program) (n:Nat) (op:Op) (t:Tp) (h:Hp) (K:AV->Dl->Prop):Prop:=∃r d,Yields P n op t h r d/\K r d
theorem JW {ty:TypeId} {len z:Nat} (ha:ey P ty=some (len,z)):∃e,P.underlying ty=some (.array len e)/\P.cellsOf e=z/\0<P.cellsOf e:=by
 obtain⟨e,hu,F,h0⟩:=Eu ha
 exact⟨e,hu,F,by omega⟩
theorem Yc {ty:TypeId} {l:List (Nat×Nat)} {f o z:Nat} (hr:ji P ty=some l) (hf:l[f]? = some (o,z)):xN P ty f=some o/\∃fs fl,P.underlying ty=some (.struct fs)/\fs[f]? = some fl/\fl.offset=o/\P.cellsOf fl.type=z:=by
 obtain⟨fs,hu,hp,rfl⟩:=Yd hr
 rw[List.getElem?_map]at hf
 cases Z:fs.toList[f]? with
 | none=>rw[Z]at hf;cases hf
 | some fl =>
  rw[Z]at hf
  simp only[Option.map_some,Option.some.injEq,Prod.mk.injEq]at hf
  have g8:fs[f]? = some fl:=by simpa using Z
  have h0:=hp fl (List.mem_of_getElem? Z)
  refine⟨?_,fs,fl,hu,g8,hf.1,hf.2⟩
  unfold xN
  simp[hu,g8,h0,hf.1]
theorem abQ {ty:TypeId} {x:Operand} (u:tn P h ty (ev t x) fun v=>K v []):l3 P n (.load ty x) t h K:=by
 unfold tn at u
 split at u
 ·rename_i m off hx
  split at u
  ·rename_i cs Z
   obtain⟨ah,v,hb,hr,R⟩:=y9 u
   exact⟨v,[],acm hx Z hb hr,R⟩
  ·exact u.elim
 ·rename_i cs off hx
  obtain⟨ah,v,hb,hr,R⟩:=y9 u
  exact⟨v,[],ack hx hb hr,R⟩
 ·exact u.elim
theorem abT {ty:TypeId} {x y:Operand} (u:Dm P h ty (ev t x) (ev t y) fun d=>K (.sc undef) d):l3 P n (.store ty x y) t h K:=by
 unfold Dm at u
 split at u
 ·rename_i m off hx
  split at u
  ·rename_i cs Z
   obtain⟨h0,O,hlen,A,R⟩:=u
   exact⟨_,_,acH hx Z h0 O hlen A,R⟩
  ·exact u.elim
 ·exact u.elim
theorem abP {ty:TypeId} {x i:Operand} (u:tc P h ty (ev t x) (ev t i) fun v=>K v []):l3 P n (.indexAddr ty x i) t h K:=by
 unfold tc at u
 split at u
 ·rename_i k j hi
  split at u
  ·rename_i m off hx
   split at u
   ·rename_i len z ha
    obtain⟨e,hu,F,h0⟩:=JW ha
    have:=acd (P:=P) (n:=n) hu h0 hx hi u.1 u.2.1 u.2.2.1
    rw[F]at this
    exact⟨_,_,this,u.2.2.2⟩
   ·exact u.elim
  ·rename_i cs off hx
   split at u
   ·rename_i len z ha
    obtain⟨e,hu,F,h0⟩:=JW ha
    have:=ace (P:=P) (n:=n) (h:=h) hu h0 hx hi u.1 u.2.1
    rw[F]at this
    exact⟨_,_,this,u.2.2⟩
   ·exact u.elim
  ·rename_i m z off len own hx
   split at u
   ·rename_i e z' ha
    obtain⟨rfl,hm,h0,A,R⟩:=u
    obtain⟨hu,F,hz⟩:=lT ha
    exact⟨_,_,acg hu hz F hx hi hm h0 A,R⟩
   ·exact u.elim
  ·rename_i z D full hx
   split at u
   ·rename_i e z' ha
    obtain⟨rfl,h0,u⟩:=u
    obtain⟨hu,F,hz⟩:=lT ha
    split at u
    ·rename_i n9 sT
     exact⟨_,_,acf hu hz F hx hi h0 sT,u⟩
    ·exact u.elim
   ·exact u.elim
  ·exact u.elim
 ·exact u.elim
theorem abN {ty:TypeId} {x:Operand} {f:Nat} (u:A0 P h ty (ev t x) f fun v=>K v []):l3 P n (.fieldAddr ty x f) t h K:=by
 unfold A0 at u
 split at u
 ·rename_i l hr
  split at u
  ·rename_i o z hf
   have g0:=(Yc hr hf).1
   split at u
   ·rename_i m off hx
    exact⟨_,_,aca g0 hx u.1,u.2⟩
   ·rename_i cs off hx
    exact⟨_,_,acb g0 hx,u⟩
   ·exact u.elim
  ·exact u.elim
 ·exact u.elim
theorem abM {ty:TypeId} {x:Operand} {f:Nat} (u:A3 P ty (ev t x) f fun v=>K v []):l3 P n (.field ty x f) t h K:=by
 unfold A3 at u
 split at u
 ·rename_i l bs cs hr hb hx
  split at u
  ·rename_i o z b hf xV
   obtain⟨ah,v,rfl,MH,R⟩:=y9 u
   obtain⟨_,fs,fl,hu,hZ,ho,hz⟩:=Yc hr hf
   have ch:e5 P fl.type=some ah:=by
    unfold CZ at hb
    rw[hu]at hb
    simp only[Option.some.injEq]at hb
    rw[<-hb,List.getElem?_map]at xV
    have:fs.toList[f]? = some fl:=by simpa using hZ
    rw[this]at xV
    simpa using xV
   exact⟨v,[],ab9 hu hZ hx ch (by rw[hz,ho];exact MH),R⟩
  ·exact u.elim
 ·exact u.elim
end
end Go.Proofs.Aw
namespace Go.Proofs.Aw
open Go
section
variable {P:Program} {n:Nat} {t:Tp} {h:Hp} {mu:Bool} {K:AV->Dl->Prop}
theorem ZG {ty:TypeId} (hs:nE P ty=true):P.underlying ty=some .string:=by
 unfold nE at hs
 split at hs
 ·assumption
 ·cases hs
theorem aci {ty:TypeId} {x i:Operand} {k:IntKind} {j:Int} {s:ByteArray} {b:UInt8} (hu:P.underlying ty=some .string) (hx:ev t x = .sc (.string s)) (hi:ev t i = .sc (.int k j)) (h0:0<=j) (hb:s[j.toNat]? = some b) :
  Yields P n (.index ty x i) t h (.sc (.int .u8 b.toNat)) [] :=
 Yields.pure fun C a op ho W ht=>by
  have hp:=b4 ht x
  have hq:=b4 ht i
  rw[hx]at hp
  rw[hi]at hq
  simp only[ak]at hp hq
  refine⟨.int .u8 b.toNat,?_,by simp only[ak]⟩
  unfold execOp
  rw[ho]
  simp only[hp,hq,Instr.index,Sem.run_bind,Da,run_underlying hu,Result.andThen_ok,h0,if_true,hb,Sem.run_pure]
theorem abO {ty:TypeId} {x i:Operand} (u:yk P ty (ev t x) (ev t i) fun v=>K v []):l3 P n (.index ty x i) t h K:=by
 unfold yk at u
 split at u
 ·rename_i k j hi
  split at u
  ·rename_i cs hx
   split at u
   ·rename_i len z ha
    obtain⟨e,hu,F,h0⟩:=JW ha
    obtain⟨Mq,BG,hr⟩:=u
    obtain⟨ah,v,hb,MH,R⟩:=y9 hr
    have ch:e5 P e=some ah:=by
     unfold sv at hb
     rw[hu]at hb
     exact hb
    exact⟨v,[],ach hu h0 hx hi Mq BG ch (by rw[F];exact MH),R⟩
   ·exact u.elim
  ·rename_i s hx
   obtain⟨hs,Mq,u⟩:=u
   split at u
   ·rename_i b hb
    exact⟨_,_,aci (ZG hs) hx hi Mq hb,u⟩
   ·exact u.elim
  ·exact u.elim
 ·exact u.elim
theorem abS {ty:TypeId} {x:Operand} {lo hi mx:Option Operand} (u:o0 P h ty (ev t x) (lo.map (ev t)) (hi.map (ev t)) (mx.map (ev t)) fun v=>K v []):l3 P n (.slice ty x lo hi mx) t h K:=by
 unfold o0 at u
 split at u
 ·rename_i z D full hx
  split at u
  ·rename_i e z' hs
   obtain⟨hu,F,h0⟩:=lT hs
   obtain⟨rfl,u⟩:=u
   cases mx with
   | none =>
    simp only[Option.map_none]at u
    obtain⟨l,O,u⟩:=jx u
    obtain⟨W,lv,A,E,u⟩:=jx u
    exact⟨_,_,acB hu F h0 hx O lv A E,u⟩
   | some m =>
    simp only[Option.map_some]at u
    obtain⟨l,O,u⟩:=jx u
    cases hi with
    | none=>exact u.elim
    | some hi =>
     simp only[Option.map_some]at u
     obtain⟨W,lv,u⟩:=jx u
     obtain⟨tA,vp,A,E,h3,u⟩:=jx u
     exact⟨_,_,acC hu F h0 hx O lv vp A E h3,u⟩
  ·exact u.elim
 ·rename_i m z off len own hx
  split at u
  ·rename_i e z' hs
   obtain⟨hu,F,h0⟩:=lT hs
   obtain⟨rfl,hm,u⟩:=u
   cases mx with
   | some mx =>
    simp only[Option.map_some]at u
    obtain⟨l,O,u⟩:=jx u
    cases hi with
    | none=>exact u.elim
    | some hi =>
     simp only[Option.map_some]at u
     obtain⟨W,lv,u⟩:=jx u
     obtain⟨tA,vp,A,E,h3,aJ⟩:=jx u
     rw[A]at lv
     rw[E]at vp
     exact⟨_,_,acz hu F h0 hx hm O lv vp h3,aJ⟩
   | none =>
    simp only[Option.map_none]at u
    obtain⟨l,O,u⟩:=jx u
    obtain⟨W,lv,A,E,u⟩:=jx u
    exact⟨_,_,acD hu F h0 hx hm O lv A E,u⟩
  ·exact u.elim
 ·rename_i m off hx
  split at u
  ·rename_i len z ha
   obtain⟨e,hu,F,h0⟩:=Eu ha
   obtain⟨hm,jF,u⟩:=u
   cases mx with
   | some m=>cases jF
   | none =>
    obtain⟨l,O,u⟩:=jx u
    obtain⟨W,lv,A,E,u⟩:=jx u
    exact⟨_,_,acy hu F h0 hx hm O lv A E,u⟩
  ·exact u.elim
 ·rename_i s hx
  obtain⟨hs,jF,u⟩:=u
  cases mx with
  | some m=>cases jF
  | none =>
   obtain⟨l,O,u⟩:=jx u
   obtain⟨W,lv,A,E,u⟩:=jx u
   exact⟨_,_,acE (ZG hs) hx O lv A E,u⟩
 ·rename_i hx
  split at u
  ·rename_i _ TZ hs
   obtain⟨hu,F,h0⟩:=lT hs
   obtain⟨jF,u⟩:=u
   cases mx with
   | some m=>cases jF
   | none =>
    obtain⟨l,O,u⟩:=jx u
    obtain⟨W,lv,rfl,rfl,u⟩:=jx u
    exact⟨_,_,acA hu F h0 hx O lv,u⟩
  ·exact u.elim
 ·exact u.elim
theorem abK {ty:TypeId} {len:Nat} {ps:Array (Nat×Operand)} (u:Al P n mu ty len (ps.toList.map fun p=>(p.1,ev t p.2)) K):l3 P n (.buildSlice ty len ps) t h K:=by
 unfold Al at u
 split at u
 ·rename_i e z hs
  obtain⟨hz,ng,O,hd,u⟩:=u
  obtain⟨zc,jI,jJ⟩:=Option.map_eq_some_iff.1 hz
  have bY:ps.size=len:=by simpa using O
  cases mu with
  | false=>exact⟨_,_,acF hs jI jJ (by omega) bY hd,u⟩
  | true=>exact⟨_,_,acG hs jI jJ (by omega) bY hd,u⟩
 ·exact u.elim
theorem abR {ty:TypeId} {l c:Operand} (u:match tp P n ty (ev t l) (ev t c)with | some r=>K r.1 r.2 | none=>False):l3 P n (.makeSlice ty l c) t h K:=by
 cases F:tp P n ty (ev t l) (ev t c)with
 | none=>rw[F]at u;exact u.elim
 | some r =>
  rw[F]at u
  unfold tp at F
  split at F
  ·rename_i e z k a k' b hs O H
   split at F
   ·rename_i zc hz
    split at F
    ·rename_i W
     obtain⟨A,E,h3,h4,h5⟩:=W
     cases F
     obtain⟨m,rfl⟩:∃m:Nat,a=m:=⟨a.toNat,by omega⟩
     subst h3
     exact⟨_,_,aco hs hz A O H (by simpa using h4) (by omega),u⟩
    ·cases F
   ·cases F
  ·cases F
theorem abJ {c:Call} {ty xt:TypeId} {s x:Operand} (hb:c.callee = .builtin .append) (is:c.argTypes = #[ty,xt]) (ha:c.args = #[s,x]) (u:z9 P n h mu ty xt (ev t s) (ev t x) K):l3 P n (.call c) t h K:=by
 unfold z9 at u
 split at u
 ·rename_i e z hs
  obtain⟨hx,hz,u⟩:=u
  split at u
  ·rename_i fs hf
   split at u
   ·rename_i m z' off len own nh
    obtain⟨rfl,rfl,u⟩:=u
    split at u
    ·rename_i cs Z
     obtain⟨md,A,FH,jF,u⟩:=u
     exact⟨_,_,abX hb is ha nh Z md hf A ⟨hs,hx,hz,FH,jF⟩,u⟩
    ·exact u.elim
   ·split at u
    ·rename_i D F
     obtain⟨FH,jF,u⟩:=u
     cases mu with
     | false=>exact⟨_,_,abY hb is ha F hf ⟨hs,hx,hz,FH,jF⟩,u⟩
     | true=>exact⟨_,_,abW hb is ha F hf ⟨hs,hx,hz,FH,jF⟩ u.1,u.2⟩
    ·exact u.elim
  ·exact u.elim
 ·exact u.elim
theorem uC {x:Option AV} {op:Op} (hy:∀v,x=some v->Yields P n op t h v []) (u:jU x fun v=>K v []):l3 P n op t h K:=by
 unfold jU at u
 split at u
 ·rename_i v
  exact⟨v,[],hy v rfl,u⟩
 ·exact u.elim
theorem GC {am:Type} {l:Array am} {a b:am} (h:l.toList=[a,b]):l = #[a,b]:=by apply Array.ext';rw[h]
theorem abL {c:Call} {b:Builtin} (hb:c.callee = .builtin b) (u:ph P n mu b h c.argTypes.toList (c.args.toList.map (ev t)) K):l3 P n (.call c) t h K:=by
 unfold ph at u
 split at u
 ·rename_i ty gQ X Xs A E
  split at u
  ·rename_i m hm
   cases ha:c.args.toList with
   | nil=>rw[ha]at E;cases E
   | cons x xs =>
    rw[ha]at E
    simp only[List.map_cons,List.cons.injEq]at E
    have e1:c.argTypes[0]? = some ty:=by rw[<-Array.getElem?_toList,A];rfl
    have e2:c.args[0]? = some x:=by rw[<-Array.getElem?_toList,ha];rfl
    exact⟨_,_,acj hb e1 e2 (by rw[E.1];exact hm),u⟩
  ·exact u.elim
 ·rename_i X Xs E
  exact uC (fun v R=>acp hb E R) u
 ·rename_i X Xs E
  exact uC (fun v R=>acq hb E R) u
 ·rename_i ty xt S X A E
  match ha:c.args.toList with
  | []=>rw[ha]at E;cases E
  | [s]=>rw[ha]at E;cases E
  | [s,x] =>
   rw[ha]at E
   simp only[List.map_cons,List.map_nil,List.cons.injEq,and_true]at E
   obtain⟨rfl,rfl⟩:=E
   exact abJ hb (GC A) (GC ha) u
  | _::_::_::_=>rw[ha]at E;cases E
 ·rename_i ty xt S X A E
  match ha:c.args.toList with
  | []=>rw[ha]at E;cases E
  | [s]=>rw[ha]at E;cases E
  | [s,x] =>
   rw[ha]at E
   simp only[List.map_cons,List.map_nil,List.cons.injEq,and_true]at E
   obtain⟨rfl,rfl⟩:=E
   split at u
   ·rename_i r d F
    exact⟨r,d,ab6 hb (GC A) (GC ha) F,u⟩
   ·exact u.elim
  | _::_::_::_=>rw[ha]at E;cases E
 ·exact uC (fun v R=>ab7 hb rfl R) u
theorem Qn:∀{op:Op},j2 P n mu op t h K->l3 P n op t h K:=by
 intro op u
 cases op<;>simp only[j2]at u
 case move x=>exact⟨_,_,acr x,u⟩
 case assign x=>exact⟨_,_,abZ x,u⟩
 case pick c a b =>
  unfold CP at u
  split at u
  ·rename_i p H
   refine⟨_,_,acx H,?_⟩
   cases p with
   | true=>exact u.1 rfl
   | false=>exact u.2 rfl
  ·exact u.elim
 case alloc e =>
  split at u
  ·rename_i cs hz
   exact⟨_,_,abV hz,u⟩
  ·exact u.elim
 case box e x=>exact⟨_,_,ab2 u.1,u.2⟩
 case load ty x=>exact abQ u
 case store ty x y=>exact abT u
 case nilCheck x =>
  unfold OC at u
  split at u
  ·rename_i m off hx
   exact⟨_,_,acv hx u.1,u.2⟩
  ·rename_i cs off hx
   exact⟨_,_,acu hx,u⟩
  ·rename_i f xs ys hx
   exact⟨_,_,acs hx,u⟩
  ·exact u.elim
 case indexAddr ty x i=>exact abP u
 case fieldAddr ty x f=>exact abN u
 case field ty x f=>exact abM u
 case index ty x i=>exact abO u
 case slice ty x lo hi mx=>exact abS u
 case binOp op ty x y ty'=>exact uC (fun v R=>ab1 R) u
 case unOp op ty x=>exact uC (fun v R=>acI R) u
 case convert src dst x=>exact uC (fun v R=>ab5 u.1 R) u.2
 case extract x i =>
  split at u
  ·rename_i vs hx
   exact uC (fun v R=>ab8 hx R) u
  ·exact u.elim
 case makeFunc f xs ys=>exact⟨_,_,acn,u⟩
 case build ty ps =>
  split at u
  ·rename_i cs hz
   split at u
   ·rename_i bi hf
    exact⟨_,_,ab3 hz hf u.1,u.2⟩
   ·exact u.elim
  ·exact u.elim
 case buildSlice ty len ps=>exact abK u
 case makeSlice ty l c=>exact abR u
 case call c =>
  split at u
  ·rename_i b hb
   exact abL hb u
  ·rename_i x hx
   split at u
   ·rename_i f xs ys hf
    obtain⟨r,d,hb,qX,u⟩:=u
    exact⟨r,d,ab4 hx hf hb qX,u⟩
   ·exact u.elim
  ·exact u.elim
end
end Go.Proofs.Aw
namespace Go.Proofs.Aw
open Go
structure St where
 t:Tp
 h:Hp
 nx:Nat
structure Env where
 N:Nat
 w0:World
 wr:Nat->Prop
 Od:Nat->Prop
 c0:Ctx
structure mP (ac:Env) (C:Ctx):Prop where
 os:C.w.os=ac.w0.os
 tape:C.w.tape=ac.w0.tape
 output:C.w.output=ac.w0.output
 size:ac.w0.heap.size<=C.w.heap.size
 same:∀b,b<ac.w0.heap.size->¬ac.wr b->C.w.heap[b]? = ac.w0.heap[b]?
 mt:∀b,b<ac.w0.heap.size->(C.mt b↔ac.Od b)
 wr:∀n,C.live n->C.ρ n<ac.w0.heap.size->ac.wr (C.ρ n)
 le:ac.c0.le C
theorem mP.step {ac:Env} {C C':Ctx} {n:Nat} {h:Hp} {r:AV} {d:Dl} {Y:Value} (hf:mP ac C) (hp:c8 C n h r d Y C'):mP ac C' where
 os:=hp.os.trans hf.os
 tape:=hp.tape.trans hf.tape
 output:=hp.output.trans hf.output
 size:=Nat.le_trans hf.size hp.le.size
 same b hb hw:=(hp.same b (Nat.lt_of_lt_of_le hb hf.size) (fun m _ O e=>hw (by rw[e];exact hf.wr m O (by rw[<-e];exact hb)))).trans (hf.same b hb hw)
 mt b hb:=(hp.mt b (Nat.lt_of_lt_of_le hb hf.size)).trans (hf.mt b hb)
 wr m O hb:=by
  rcases hp.lM m O with⟨A,E⟩ | A | ⟨m0,_,A,E⟩
  ·rw[E]at hb ⊢;exact hf.wr m A hb
  ·have:=hf.size;omega
  ·rw[E]at hb ⊢;exact hf.wr m0 A hb
 le:=hf.le.trans hp.le
structure uB (ac:Env) (V:St) (a:Act) (C:Ctx):Prop where
 heap:c6 C V.h
 t:gb C V.t a
 size:a.tmps.size=ac.N
 defers:a.defers=[]
 kn:∀m,C.kn m->m.1<V.nx
 frame:mP ac C
def Rel (ac:Env) (V:St) (a:Act) (w:World):Prop:=∃C,C.w=w/\uB ac V a C
theorem gb.put {C:Ctx} {t:Tp} {a:Act} {d:Option Tmp} {v:AV} {Y:Value} (ht:gb C t a) (R:ak C v Y) (hd:∀i,d=some i->i<a.tmps.size):gb C (gP d v t) (a.put d Y):=by
 intro i
 cases d with
 | none=>exact ht i
 | some j =>
  simp only[gP,bU,Act.put]
  by_cases h1:j=i
  ·subst h1
   rw[if_pos rfl]
   have M:=hd j rfl
   have:(a.tmps.setIfInBounds j Y).getD j undef=Y:=by simp[Array.getD,M]
   rw[this];exact R
  ·rw[if_neg h1]
   have:(a.tmps.setIfInBounds j Y).getD i undef=a.tmps.getD i undef:=by
    simp[Array.getD_eq_getD_getElem?,Array.getElem?_setIfInBounds_ne h1]
   rw[this];exact ht i
theorem y3 (a:Act) (d:Option Tmp) (Y:Value):(a.put d Y).tmps.size=a.tmps.size:=by cases d<;>simp[Act.put]
theorem put_defers (a:Act) (d:Option Tmp) (Y:Value):(a.put d Y).defers=a.defers:=by cases d<;>rfl
theorem uB.step {ac:Env} {V:St} {a:Act} {C C':Ctx} {r:AV} {d:Dl} {Y:Value} {dst:Option Tmp} (h:uB ac V a C) (hp:c8 C V.nx V.h r d Y C') (hd:∀i,dst=some i->i<ac.N) :
  uB ac ⟨gP dst r V.t,aE d V.h,V.nx+1⟩ (a.put dst Y) C' where
 heap:=hp.heap
 t:=gb.put (h.t.mono hp.le) hp.val (fun i hi=>by rw[h.size];exact hd i hi)
 size:=by rw[y3];exact h.size
 defers:=by rw[put_defers];exact h.defers
 kn m hm:=by
  rcases(hp.kn m).1 hm with A | A
  ·exact Nat.lt_succ_of_lt (h.kn m A)
  ·simp only;omega
 frame:=h.frame.step hp
theorem uB.skip {ac:Env} {V:St} {a:Act} {C:Ctx} {dst:Option Tmp} (h:uB ac V a C) (hd:∀i,dst=some i->i<ac.N):uB ac ⟨gP dst (.sc undef) V.t,V.h,V.nx⟩ (a.put dst undef) C where
 heap:=h.heap
 t:=gb.put h.t (by simp only[ak]) (fun i hi=>by rw[h.size];exact hd i hi)
 size:=by rw[y3];exact h.size
 defers:=by rw[put_defers];exact h.defers
 kn m hm:=h.kn m hm
 frame:=h.frame
def yv (ops:List Oper) (t:Tp) (j:Nat):AV :=
 match(ops[j]?).bind (·.dst)with
 | some d=>bU t d
 | none => .top
def Fw (v:AV) (want:Bool) (ab ad:Prop):Prop :=
 match v with
 | .sc (.bool b)=>(b=want->ab)/\(b = !want->ad)
 | .sc (.tuple _)=>ad
 | _=>False
def nN (P:Program) (ms:List Nat) (ops:List Oper):List Oper->(St->Prop)->St->Prop
 | [],K,V=>K V
 | o::l,K,V =>
  match o.guard with
  | none=>j2 P V.nx (o.dst.any ms.contains) o.op V.t V.h fun r d=>nN P ms ops l K ⟨gP o.dst r V.t,aE d V.h,V.nx+1⟩
  | some (j,want)=>Fw (yv ops V.t j) want
    (j2 P V.nx (o.dst.any ms.contains) o.op V.t V.h fun r d=>nN P ms ops l K ⟨gP o.dst r V.t,aE d V.h,V.nx+1⟩)
    (nN P ms ops l K ⟨gP o.dst (.sc undef) V.t,V.h,V.nx⟩)
def fits (N:Nat) (ops:List Oper):Bool:=ops.all fun o=>match o.dst with | some d=>Nat.blt d N | none=>true
theorem T_ {N:Nat} {o:Oper} {l:List Oper} (h:fits N (o::l)=true):(∀i,o.dst=some i->i<N)/\fits N l=true:=by
 simp only[fits,List.all_cons,Bool.and_eq_true]at h
 refine⟨fun i hi => ?_,h.2⟩
 have:=h.1
 rw[hi]at this
 simpa [Nat.blt_eq]using this
theorem Rp {C:Ctx} {t:Tp} {a:Act} (ht:gb C t a) (ops:List Oper) (j:Nat):(∀b,yv ops t j = .sc (.bool b)->yielded ops.toArray a.tmps j=some b)/\(∀x,yv ops t j = .sc (.tuple x)->yielded ops.toArray a.tmps j=none):=by
 unfold yv yielded
 have e:ops.toArray[j]? = ops[j]? := by simp
 rw[e]
 cases hd:(ops[j]?).bind (·.dst)with
 | none=>exact⟨fun b h=>(nomatch h),fun b h=>(nomatch h)⟩
 | some d =>
  have H:=ht d
  simp only[Option.bind_some]
  refine⟨fun b h => ?_,fun x h => ?_⟩
  ·rw[h]at H
   simp only[ak]at H
   cases Z:a.tmps[d]? with
   | none=>simp[Array.getD_eq_getD_getElem?,Z,undef]at H
   | some v =>
    have:v = .bool b:=by simpa [Array.getD_eq_getD_getElem?,Z]using H
    rw[this]
  ·rw[h]at H
   simp only[ak]at H
   cases Z:a.tmps[d]? with
   | none=>rfl
   | some v =>
    have:v = .tuple x:=by simpa [Array.getD_eq_getD_getElem?,Z]using H
    rw[this]
theorem Jw {P:Program} {ms:List Nat} {ac:Env} {ops:List Oper} {Q:Exit->Act->World->Prop} {K:St->Prop} (hK:∀V a w,K V->Rel ac V a w->Q .normal a w) :
  ∀(l:List Oper) (V:St) (a:Act) (w:World),fits ac.N l=true->nN P ms ops l K V->Rel ac V a w->wpList P ops.toArray Q l a w
 | [],V,a,w,_,h,hr=>hK V a w h hr
 | o::l,V,a,w,d8,h,hr=>by
  obtain⟨hd,BB⟩:=T_ d8
  obtain⟨C,rfl,hC⟩:=hr
  have stepped:∀(u:j2 P V.nx (o.dst.any ms.contains) o.op V.t V.h fun r d=>nN P ms ops l K ⟨gP o.dst r V.t,aE d V.h,V.nx+1⟩),Region.wanted o (yielded ops.toArray a.tmps)=true->wpList P ops.toArray Q (o::l) a C.w:=by
   intro u hw
   obtain⟨r,d,hy,hn⟩:=Qn u
   unfold wpList
   rw[if_pos hw]
   refine .inl (hy C a o _ _ rfl hC.heap hC.t (fun k bM=>absurd (hC.kn _ bM) (by simp)) fun Y C' hp => ?_)
   exact Jw hK l _ _ _ BB hn ⟨C',rfl,hC.step hp hd⟩
  have skipped:nN P ms ops l K ⟨gP o.dst (.sc undef) V.t,V.h,V.nx⟩->Region.wanted o (yielded ops.toArray a.tmps)=false->wpList P ops.toArray Q (o::l) a C.w:=by
   intro u hw
   unfold wpList
   rw[if_neg (by rw[hw];simp)]
   exact Jw hK l _ _ _ BB u ⟨C,rfl,hC.skip hd⟩
  unfold nN at h
  cases Z:o.guard with
  | none =>
   rw[Z]at h
   exact stepped h (by simp[Region.wanted,Z])
  | some pI =>
   obtain⟨j,want⟩:=pI
   rw[Z]at h
   obtain⟨y1,y2⟩:=Rp hC.t ops j
   simp only at h
   unfold Fw at h
   split at h
   ·rename_i b hb
    have hy:=y1 b hb
    by_cases un:b=want
    ·exact stepped (h.1 un) (by simp[Region.wanted,Z,hy,un])
    ·exact skipped (h.2 (by cases b<;>cases want<;>simp_all)) (by simp[Region.wanted,Z,hy,un])
   ·rename_i x hx
    have hy:=y2 x hx
    exact skipped h (by simp[Region.wanted,Z,hy])
   ·exact h.elim
def AW (P:Program) (ac:Env) (c:Code) (Q:Exit->St->Prop) (V:St):Prop :=
 ∀a w,Rel ac V a w->c.wp P (fun e bz w'=>∃aM,Rel ac aM bz w'/\Q e aM) a w
def Ec (next:St->Prop) (Q:Exit->St->Prop):Exit->St->Prop
 | .normal,V=>next V
 | e,V=>Q e V
def Jy (id:Nat) (Q:Exit->St->Prop):Exit->St->Prop
 | .exit j,V=>if j=id then Q .normal V else Q (.exit j) V
 | e,V=>Q e V
def dL (ac:Env) (V aM:St):Prop:=∀a w,Rel ac V a w->Rel ac aM a w
section
variable {P:Program} {ac:Env} {Q:Exit->St->Prop} {V:St}
theorem qs {c:Code} {aM:St} (hi:dL ac V aM) (h:AW P ac c Q aM):AW P ac c Q V:=fun a w hr=>h a w (hi a w hr)
theorem dB {c:Code} {Q':Exit->St->Prop} (hq:∀e V,Q e V->Q' e V) (h:AW P ac c Q V):AW P ac c Q' V:=fun a w hr=>Code.wp_mono (fun _ _ _ ⟨aM,A,E⟩=>⟨aM,A,hq _ _ E⟩) (h a w hr)
theorem o_ {x y:Code} (h:∀K:St->Prop,(∀V,AW P ac y Q V->K V)->AW P ac x (Ec K Q) V):AW P ac (.seq x y) Q V:=fun a w hr =>
 wp_seq (Code.wp_mono (fun e bz w' ⟨aM,A,E⟩=>by
  cases e with
  | normal=>exact E bz w' A
  | _=>exact⟨aM,A,E⟩) (h _ (fun _ W=>W) a w hr))
theorem Jv (h:Q .normal V):AW P ac .skip Q V:=fun _ _ hr=>wp_skip ⟨V,hr,h⟩
theorem abu {l:Nat} (h:Q .normal V):AW P ac (.label l) Q V:=fun _ _ hr=>wp_label ⟨V,hr,h⟩
theorem D9 (h:Q .ret V):AW P ac .ret Q V:=fun _ _ hr=>wp_ret ⟨V,hr,h⟩
theorem abt {id:Nat} (h:Q (.exit id) V):AW P ac (.exit id) Q V:=fun _ _ hr=>wp_exit ⟨V,hr,h⟩
theorem abo {id:Nat} {c:Code} (h:AW P ac c (Jy id Q) V):AW P ac (.block id c) Q V:=fun a w hr =>
 wp_block (Code.wp_mono (fun e bz w' ⟨aM,A,E⟩=>by
  cases e with
  | exit j =>
   simp only[Jy]at E
   simp only[Exit.inBlock]
   split
   ·rename_i M;rw[if_pos M]at E;exact⟨aM,A,E⟩
   ·rename_i M;rw[if_neg M]at E;exact⟨aM,A,E⟩
  | _=>exact⟨aM,A,E⟩) (h a w hr))
theorem D8 {c:Operand} {x y:Code} {b:Bool} (H:ev V.t c = .sc (.bool b)) (A:b=true->AW P ac x Q V) (E:b=false->AW P ac y Q V):AW P ac (.cond c x y) Q V:=fun a w hr=>by
 obtain⟨C,rfl,hC⟩:=hr
 have F:=b4 hC.t c
 rw[H]at F
 simp only[ak]at F
 refine wp_cond F ?_
 cases b with
 | true=>exact A rfl a _ ⟨C,rfl,hC⟩
 | false=>exact E rfl a _ ⟨C,rfl,hC⟩
theorem abq {c:Operand} {x y:Code} (H:ev V.t c = .sc (.bool true)) (h:AW P ac x Q V):AW P ac (.cond c x y) Q V:=D8 H (fun _=>h) (fun e=>nomatch e)
theorem abp {c:Operand} {x y:Code} (H:ev V.t c = .sc (.bool false)) (h:AW P ac y Q V):AW P ac (.cond c x y) Q V:=D8 H (fun e=>nomatch e) (fun _=>h)
theorem abw {id:Nat} {ops:List Oper} (ms:List Nat) (hf:fits ac.N ops=true) (h:nN P ms ops ops (Q .normal) V):AW P ac (.region id ops.toArray false) Q V:=fun a w hr =>
 wp_region_lit (Jw (fun aM _ _ u mo=>⟨aM,mo,u⟩) ops V a w hf h hr)
def j3 (P:Program) (ac:Env) (c:Code) (Q:Exit->St->Prop):Nat->St->Prop
 | 0,_=>False
 | n+1,V=>AW P ac c (Ec (j3 P ac c Q n) Q) V
theorem abn {c:Code} {n:Nat} (h:AW P ac c (Ec (j3 P ac c Q n) Q) V):j3 P ac c Q (n+1) V:=h
theorem RF {c:Code}:∀(n:Nat) (V:St) (a:Act) (w:World),j3 P ac c Q n V->Rel ac V a w->Code.rounds P c (fun e bz w'=>∃aM,Rel ac aM bz w'/\Q e aM) n a w
 | 0,_,_,_,h,_=>h.elim
 | n+1,V,a,w,h,hr=>by
  rw[rounds_succ]
  refine Code.wp_mono (fun e bz w' ⟨aM,A,E⟩ => ?_) (h a w hr)
  cases e with
  | normal=>exact RF n aM bz w' E A
  | _=>exact⟨aM,A,E⟩
theorem D_ {c:Code} (n:Nat) (h:j3 P ac c Q n V):AW P ac (.loop c) Q V:=fun a w hr=>wp_loop_rounds n (RF n V a w h hr)
theorem RH {c:Code} (aC:Nat->St->Prop) (k:Nat) (h0:∃aM,dL ac V aM/\aC k aM) (round:∀k V,aC k V->AW P ac c (Ec (fun aM=>∃k' wn,k'<k/\dL ac aM wn/\aC k' wn) Q) V):AW P ac (.loop c) Q V:=by
 have key:∀(n k:Nat),k<=n->∀V,aC k V->j3 P ac c Q (n+1) V:=by
  intro n
  induction n with
  | zero =>
   intro k u V hI
   refine dB (fun e aM hq => ?_) (round k V hI)
   cases e with
   | normal=>obtain⟨k',_,aT,_⟩:=hq;omega
   | _=>exact hq
  | succ n ih =>
   intro k u V hI
   refine dB (fun e aM hq => ?_) (round k V hI)
   cases e with
   | normal =>
    obtain⟨k',wn,aT,hi,afQ⟩:=hq
    exact qs hi (ih k' (by omega) wn afQ)
   | _=>exact hq
 obtain⟨aM,hi,hI⟩:=h0
 exact qs hi (D_ (k+1) (key k k (Nat.le_refl _) aM hI))
end
end Go.Proofs.Aw
namespace Go.Proofs.Aw
open Go
mutual
def ca (p:Nm->Bool):AV->Bool
 | .top=>true
 | .sc _=>true
 | .agg cs=>a4 p cs
 | .tup vs=>a4 p vs
 | .ptr n _=>p n
 | .sl n _ _ _ _=>p n
 | .ip cs _=>a4 p cs
 | .ro _ D _=>cw p D
 | .fn _ xs ys=>a4 p xs&&a4 p ys
 | .ifc _ v=>ca p v
def a4 (p:Nm->Bool):List AV->Bool
 | []=>true
 | v::vs=>ca p v&&a4 p vs
def cw (p:Nm->Bool):List (List AV)->Bool
 | []=>true
 | e::D=>a4 p e&&cw p D
end
mutual
def aW (f:Nm->Nm):AV->AV
 | .top => .top
 | .sc v => .sc v
 | .agg cs => .agg (bu f cs)
 | .tup vs => .tup (bu f vs)
 | .ptr n off => .ptr (f n) off
 | .sl n z off len own => .sl (f n) z off len own
 | .ip cs off => .ip (bu f cs) off
 | .ro z D full => .ro z (dJ f D) full
 | .fn g xs ys => .fn g (bu f xs) (bu f ys)
 | .ifc t v => .ifc t (aW f v)
def bu (f:Nm->Nm):List AV->List AV
 | []=>[]
 | v::vs=>aW f v::bu f vs
def dJ (f:Nm->Nm):List (List AV)->List (List AV)
 | []=>[]
 | e::D=>bu f e::dJ f D
end
theorem Yi (f:Nm->Nm):∀cs,(bu f cs).length=cs.length
 | []=>rfl
 | v::vs=>by simp[bu,Yi f vs]
theorem PB (f:Nm->Nm):∀D,(dJ f D).length=D.length
 | []=>rfl
 | v::vs=>by simp[dJ,PB f vs]
theorem za (f:Nm->Nm):∀(cs:List AV) (i:Nat) (c:AV),cs[i]? = some c->(bu f cs)[i]? = some (aW f c)
 | [],i,c,h=>by simp at h
 | v::vs,0,c,h=>by simp at h;simp[bu,h]
 | v::vs,i+1,c,h=>by simpa [bu]using za f vs i c (by simpa using h)
theorem pW {p:Nm->Bool}:∀{cs:List AV} {i:Nat} {c:AV},a4 p cs=true->cs[i]? = some c->ca p c=true
 | [],i,c,_,h=>by simp at h
 | v::vs,0,c,hp,h=>by simp only[a4,Bool.and_eq_true]at hp;simp at h;rw[<-h];exact hp.1
 | v::vs,i+1,c,hp,h=>by simp only[a4,Bool.and_eq_true]at hp;exact pW hp.2 (by simpa using h)
structure Ctx.sub (C C':Ctx) (f:Nm->Nm) (p:Nm->Bool):Prop where
 w:C'.w=C.w
 mt:∀b,b<C.w.heap.size->C'.mt b->C.mt b
 kn:∀m,p m=true->C.kn (f m)->C'.kn m
 live:∀m,p m=true->C.kn (f m)->C'.live m->C.live (f m)/\C'.ρ m=C.ρ (f m)/\C'.bs m=C.bs (f m)
mutual
theorem ak.aW {C C':Ctx} {f:Nm->Nm} {p:Nm->Bool} (h:C.sub C' f p):∀(v:AV) (Y:Value),ca p v=true->ak C (Aw.aW f v) Y->ak C' v Y
 | .top,_,_,_=>trivial
 | .sc _,_,_,hu=>hu
 | .agg cs,_,hp,⟨us,e,H⟩=>⟨us,e,aD.aW h cs _ hp H⟩
 | .tup cs,_,hp,⟨us,e,H⟩=>⟨us,e,aD.aW h cs _ hp H⟩
 | .ptr n off,_,hp,⟨R,u,hu⟩=>⟨R,h.kn n hp u,fun O=>by
   obtain⟨l,e,e'⟩:=h.live n hp u O
   rw[e,e'];exact hu l⟩
 | .sl n z off len own,_,hp,⟨R,u,hu⟩=>⟨R,h.kn n hp u,fun O=>by
   obtain⟨l,e,e'⟩:=h.live n hp u O
   obtain⟨cap,o,A,E,h3,h4⟩:=hu l
   refine⟨cap,o,by rw[e];exact A,E,by rw[e'];exact h3,fun ho => ?_⟩
   rw[e,e',h.w]
   exact h4 ho⟩
 | .ip cs off,_,hp,⟨a,A,E,h3,h4⟩=>⟨a,A,by rw[h.w];exact E,fun hm=>h3 (h.mt _ E hm),dC.aW h a 0 cs hp h4⟩
 | .ro z D full,Y,hp,H=>by
   obtain⟨ab,cap,A,E,h3,h4⟩:=iU.1 H
   rw[PB]at A E h3
   refine iU.2 ⟨ab,cap,A,E,h3,fun ay => ?_⟩
   obtain⟨a,h5,h6,h7,Fd⟩:=h4 (by
    intro e;apply ay
    have:=PB f D
    rw[e]at this
    exact List.length_eq_zero_iff.1 this.symm)
   exact⟨a,h5,by rw[h.w];exact h6,fun hm=>h7 (h.mt _ h6 hm),dR.aW h a z 0 D hp Fd⟩
 | .fn g xs ys,_,hp,⟨us,vs,e,hx,hy⟩=>by
   simp only[ca,Bool.and_eq_true]at hp
   exact⟨us,vs,e,aD.aW h xs _ hp.1 hx,aD.aW h ys _ hp.2 hy⟩
 | .ifc t v,_,hp,⟨x,e,hx⟩=>⟨x,e,ak.aW h v _ hp hx⟩
theorem aD.aW {C C':Ctx} {f:Nm->Nm} {p:Nm->Bool} (h:C.sub C' f p):∀(cs:List AV) (us:List Value),a4 p cs=true->aD C (bu f cs) us->aD C' cs us
 | [],_,_,hu=>hu
 | c::cs,_,hp,⟨Y,vs,e,H,O⟩=>by
   simp only[a4,Bool.and_eq_true]at hp
   exact⟨Y,vs,e,ak.aW h c Y hp.1 H,aD.aW h cs vs hp.2 O⟩
theorem dC.aW {C C':Ctx} {f:Nm->Nm} {p:Nm->Bool} (h:C.sub C' f p) (a:Addr):∀(i:Nat) (cs:List AV),a4 p cs=true->dC C a i (bu f cs)->dC C' a i cs
 | _,[],_,_=>trivial
 | i,c::cs,hp,⟨⟨Y,hu,H⟩,O⟩=>by
   simp only[a4,Bool.and_eq_true]at hp
   exact⟨⟨Y,by rw[h.w];exact hu,ak.aW h c Y hp.1 H⟩,dC.aW h a (i+1) cs hp.2 O⟩
theorem dR.aW {C C':Ctx} {f:Nm->Nm} {p:Nm->Bool} (h:C.sub C' f p) (a:Addr) (z:Nat):∀(i:Nat) (D:List (List AV)),cw p D=true->dR C a z i (dJ f D)->dR C' a z i D
 | _,[],_,_=>trivial
 | i,e::D,hp,⟨hz,H,O⟩=>by
   simp only[cw,Bool.and_eq_true]at hp
   exact⟨by rw[<-Yi f e];exact hz,dC.aW h a _ e hp.1 H,dR.aW h a z (i+1) D hp.2 O⟩
end
mutual
theorem zb:∀(v:AV),aW id v=v
 | .top=>rfl
 | .sc _=>rfl
 | .agg cs=>by simp only[aW,p_ cs]
 | .tup cs=>by simp only[aW,p_ cs]
 | .ptr _ _=>rfl
 | .sl _ _ _ _ _=>rfl
 | .ip cs _=>by simp only[aW,p_ cs]
 | .ro _ D _=>by simp only[aW,Yf D]
 | .fn _ xs ys=>by simp only[aW,p_ xs,p_ ys]
 | .ifc _ v=>by simp only[aW,zb v]
theorem p_:∀(cs:List AV),bu id cs=cs
 | []=>rfl
 | c::cs=>by simp only[bu,zb c,p_ cs]
theorem Yf:∀(D:List (List AV)),dJ id D=D
 | []=>rfl
 | e::D=>by simp only[dJ,p_ e,Yf D]
end
mutual
theorem OL {p q:Nm->Bool} (h:∀m,p m=true->q m=true):∀(v:AV),ca p v=true->ca q v=true
 | .top,_=>rfl
 | .sc _,_=>rfl
 | .agg cs,hp=>pX h cs hp
 | .tup cs,hp=>pX h cs hp
 | .ptr n _,hp=>h n hp
 | .sl n _ _ _ _,hp=>h n hp
 | .ip cs _,hp=>pX h cs hp
 | .ro _ D _,hp=>OI h D hp
 | .fn _ xs ys,hp=>by
   simp only[ca,Bool.and_eq_true]at hp ⊢
   exact⟨pX h xs hp.1,pX h ys hp.2⟩
 | .ifc _ v,hp=>OL h v hp
theorem pX {p q:Nm->Bool} (h:∀m,p m=true->q m=true):∀(cs:List AV),a4 p cs=true->a4 q cs=true
 | [],_=>rfl
 | c::cs,hp=>by
   simp only[a4,Bool.and_eq_true]at hp ⊢
   exact⟨OL h c hp.1,pX h cs hp.2⟩
theorem OI {p q:Nm->Bool} (h:∀m,p m=true->q m=true):∀(D:List (List AV)),cw p D=true->cw q D=true
 | [],_=>rfl
 | e::D,hp=>by
   simp only[cw,Bool.and_eq_true]at hp ⊢
   exact⟨pX h e hp.1,OI h D hp.2⟩
end
def gN:Nat->List AV->Tp
 | _,[]=>[]
 | i,v::vs=>(i,v)::gN (i+1) vs
def kW (P:Program) (V:St):List ResultVar->(List AV->Prop)->Prop
 | [],K=>K []
 | .tmp i::rs,K=>kW P V rs fun vs=>K (bU V.t i::vs)
 | .cell p ty::rs,K=>tn P V.h ty (bU V.t p) fun v=>kW P V rs fun vs=>K (v::vs)
def oneOf:List AV->AV
 | [v]=>v
 | vs => .tup vs
def Eg (P:Program) (rs:List ResultVar) (r:AV) (e:Exit) (V:St):Prop:=(e = .ret\/e = .normal)/\kW P V rs fun vs=>oneOf vs=r
theorem aq1 {P:Program} {C:Ctx} {h:Hp} (W:c6 C h) {ty:TypeId} {x:AV} {Y:Value} {K:AV->Prop} (H:ak C x Y) (u:tn P h ty x K):∃a v r,Y = .pointer (some a)/\(loadVar ty a).run P C.w = .ok r C.w/\ak C v r/\K v:=by
 unfold tn at u
 split at u
 ·rename_i m off
  split at u
  ·rename_i cs Z
   obtain⟨ah,v,hb,hr,R⟩:=y9 u
   simp only[ak]at H
   have E:=H.2.2 (W.get Z)
   obtain⟨r,bJ,oe⟩:=Ih (P:=P) (a:=⟨C.ρ m,C.bs m,none⟩) hb (yR (W.obj m cs Z)) hr
   rw[j_]at bJ
   exact⟨_,v,r,E,bJ,oe,R⟩
  ·exact u.elim
 ·rename_i cs off
  obtain⟨ah,v,hb,hr,R⟩:=y9 u
  simp only[ak]at H
  obtain⟨eE,E,_,_,m9⟩:=H
  obtain⟨r,bJ,oe⟩:=Ih (P:=P) (a:=eE) hb (fun j c M=>by simpa using m9.get j c M) hr
  exact⟨_,v,r,E,bJ,oe,R⟩
 ·exact u.elim
def ze (tmps:Array Value):ResultVar->Sem Value
 | .tmp t=>pure (tmps.getD t undef)
 | .cell a t=>do loadVar t (<-asAddr (tmps.getD a undef))
theorem aqV (P:Program) (a:Addr) (w:World):(asAddr (.pointer (some a))).run P w = .ok a w:=rfl
theorem P0 {P:Program} {C:Ctx} {V:St} {tmps:Array Value} (W:c6 C V.h) (ht:∀i,ak C (bU V.t i) (tmps.getD i undef)):∀(rs:List ResultVar) (K:List AV->Prop),kW P V rs K ->
  ∃vs us,(rs.mapM (ze tmps)).run P C.w = .ok us C.w/\aD C vs us/\K vs
 | [],K,h=>⟨[],[],rfl,by simp only[aD],h⟩
 | .tmp i::rs,K,h=>by
  simp only[kW]at h
  obtain⟨vs,us,A,E,h3⟩:=P0 W ht rs _ h
  refine⟨bU V.t i::vs,tmps.getD i undef::us,?_,by simp only[aD];exact⟨_,_,rfl,ht i,E⟩,h3⟩
  simp only[List.mapM_cons,Sem.run_bind,ze,Sem.run_pure,Result.andThen_ok,A]
 | .cell p ty::rs,K,h=>by
  simp only[kW]at h
  obtain⟨a,v,r,hu,bJ,oe,u⟩:=aq1 W (ht p) h
  obtain⟨vs,us,A,E,h3⟩:=P0 W ht rs _ u
  refine⟨v::vs,r::us,?_,by simp only[aD];exact⟨_,_,rfl,oe,E⟩,h3⟩
  have e:(ze tmps (.cell p ty)).run P C.w = .ok r C.w:=by
   simp only[ze,Sem.run_bind,hu,aqV,Result.andThen_ok,bJ]
  simp only[List.mapM_cons,Sem.run_bind,e,Result.andThen_ok,A,Sem.run_pure]
theorem aqj (fn:Func) (tmps:Array Value):results fn tmps=(do
  let vs <-fn.results.mapM (ze tmps)
  pure (if h:vs.size=1 then vs[0]else .tuple vs)):=by
 unfold results
 congr 1
theorem Y3 {P:Program} {C:Ctx} {V:St} {a:Act} {fn:Func} (W:c6 C V.h) (ht:gb C V.t a) {K:List AV->Prop} (u:kW P V fn.results.toList K):∃vs Y,(results fn a.tmps).run P C.w = .ok Y C.w/\ak C (oneOf vs) Y/\K vs:=by
 obtain⟨vs,us,A,E,h3⟩:=P0 W ht fn.results.toList K u
 refine⟨vs,if h:us.toArray.size=1 then us.toArray[0]else .tuple us.toArray,?_,?_,h3⟩
 ·rw[aqj,Array.mapM_eq_mapM_toList]
  have e:(List.toArray <$> fn.results.toList.mapM (ze a.tmps):Sem (Array Value)).run P C.w = .ok us.toArray C.w:=by
   rw[map_eq_pure_bind]
   simp only[Sem.run_bind,A,Sem.run_pure,Result.andThen_ok]
  simp only[Sem.run_bind,e,Sem.run_pure,Result.andThen_ok]
 ·have O:=E.length
  match vs,us,O,E with
  | [],[],_,_=>simp only[oneOf,List.size_toArray,List.length_nil,Nat.zero_ne_one,dite_false,ak];exact⟨_,rfl,by simp only[aD]⟩
  | [v],[Y],_,E =>
   simp only[aD]at E
   obtain⟨u',cn,e,H,_⟩:=E
   simp only[List.cons.injEq]at e
   simp only[oneOf,List.size_toArray,List.length_singleton,dite_true]
   rw[e.1];exact H
  | v::v'::vs,Y::u'::us,_,E =>
   have:¬(Y::u'::us).toArray.size=1:=by simp
   simp only[oneOf,this,dite_false,ak]
   exact⟨_,rfl,E⟩
end Go.Proofs.Aw
