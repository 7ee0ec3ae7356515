/- Parts of the logic that the proof runs in, one behind the other. -/
import Derived.WalkKit
import Derived.Orders
import Derived.Laws.Pointers
import Derived.Lib.LazyBuf
import Derived.Great.BuildSlice
import Derived.Laws.MakeOwn
import Derived.LoopN
namespace Go.Proofs.Aw
open Go
abbrev Nm:=Nat×Nat
inductive AV where
 | top
 | sc (v:Value)
 | agg (cs:List AV)
 | tup (vs:List AV)
 | ptr (n:Nm) (off:Nat)
 | sl (n:Nm) (z off len:Nat) (own:Bool)
 | ip (cs:List AV) (off:Nat)
 | ro (z:Nat) (es:List (List AV)) (full:Bool)
 | fn (f:Fn) (first cap:List AV)
 | ifc (t:TypeId) (v:AV)
structure Ctx where
 J:Nm->Nat
 bs:Nm->Nat
 live:Nm->Prop
 kn:Nm->Prop
 mt:Nat->Prop
 w:World
mutual
def Conc (C:Ctx):AV->Value->Prop
 | .top,_=>True
 | .sc v,u=>u=v
 | .agg cs,u=>∃us,u = .agg us/\ConcL C cs us.toList
 | .tup cs,u=>∃us,u = .tuple us/\ConcL C cs us.toList
 | .ptr n off,u=>(∃p,u = .pointer p)/\C.kn n/\(C.live n->u = .pointer (some ⟨C.J n,C.bs n+off,none⟩))
 | .sl n z off len own,u=>(∃A l c,u = .slice A l c)/\C.kn n/\(C.live n->∃cap o,u = .slice (some ⟨C.J n,o,none⟩) len cap/\len<=cap/\(o=C.bs n+off\/cap=0) /\
   (own=true->∃cs ty,C.w.heap[C.J n]? = some (.cells cs ty (0,0))/\C.bs n+off+cap*z<=cs.size))
 | .ip cs off,u=>∃a:Addr,u = .pointer (some (a.add off))/\a.block<C.w.heap.size/\¬C.mt a.block/\ConcM C a 0 cs
 | .ro z es full,u=>∃A cap,u = .slice A es.length cap/\es.length<=cap/\(full=true->cap=es.length) /\
   (es≠[]->∃a,A=some a/\a.block<C.w.heap.size/\¬C.mt a.block/\ConcE C a z 0 es)
 | .fn f xs ys,u=>∃us vs,u = .func f us vs/\ConcL C xs us.toList/\ConcL C ys vs.toList
 | .ifc t v,u=>∃x,u = .iface t x/\Conc C v x
def ConcL (C:Ctx):List AV->List Value->Prop
 | [],us=>us=[]
 | c::cs,us=>∃u vs,us=u::vs/\Conc C c u/\ConcL C cs vs
def ConcM (C:Ctx) (a:Addr):Nat->List AV->Prop
 | _,[]=>True
 | i,c::cs=>(∃u,C.w.cell? (a.add i)=some u/\Conc C c u)/\ConcM C a (i+1) cs
def ConcE (C:Ctx) (a:Addr) (z:Nat):Nat->List (List AV)->Prop
 | _,[]=>True
 | i,e::es=>e.length=z/\ConcM C a (i*z) e/\ConcE C a z (i+1) es
end
theorem block_add (a:Addr) (n:Nat):(a.add n).block=a.block:=by unfold Addr.add;split<;>rfl
theorem add_add (a:Addr) (i j:Nat):(a.add i).add j=a.add (i+j):=by
 unfold Addr.add
 by_cases hi:i=0<;>by_cases hj:j=0<;>simp[hi,hj,Nat.add_assoc]
theorem kM (b o n:Nat):(⟨b,o,none⟩:Addr).add n=⟨b,o+n,none⟩:=by
 unfold Addr.add
 by_cases h:n=0<;>simp[h]
structure Ctx.le (C C':Ctx):Prop where
 size:C.w.heap.size<=C'.w.heap.size
 same:∀b,b<C.w.heap.size->¬C.mt b->C'.w.heap[b]? = C.w.heap[b]?
 mt:∀b,b<C.w.heap.size->C'.mt b->C.mt b
 kn:∀i,C.kn i->C'.kn i
 live:∀n,C.kn n->C'.live n->C.live n/\C'.J n=C.J n/\C'.bs n=C.bs n
 own:∀n,C.kn n->C'.live n->∀cs ty,C.w.heap[C.J n]? = some (.cells cs ty (0,0))->∃cs' ty',C'.w.heap[C.J n]? = some (.cells cs' ty' (0,0))/\cs'.size=cs.size
theorem Ctx.le.refl (C:Ctx):C.le C:=⟨Nat.le_refl _,fun _ _ _=>rfl,fun _ _ h=>h,fun _ h=>h,fun _ _ h=>⟨h,rfl,rfl⟩,fun _ _ _ cs ty h=>⟨cs,ty,h,rfl⟩⟩
theorem Ctx.le.trans {A B C:Ctx} (h:A.le B) (k:B.le C):A.le C where
 size:=Nat.le_trans h.size k.size
 same b hb hm:=(k.same b (Nat.lt_of_lt_of_le hb h.size) (fun hm'=>hm (h.mt b hb hm'))).trans (h.same b hb hm)
 mt b hb hm:=h.mt b hb (k.mt b (Nat.lt_of_lt_of_le hb h.size) hm)
 kn i hi:=k.kn i (h.kn i hi)
 live n hn hl:=by
  obtain⟨l1,e1,f1⟩:=k.live n (h.kn _ hn) hl
  obtain⟨l2,e2,f2⟩:=h.live n hn l1
  exact⟨l2,e1.trans e2,f1.trans f2⟩
 own n hn hl cs ty hc:=by
  obtain⟨l1,e1,_⟩:=k.live n (h.kn _ hn) hl
  obtain⟨cs1,ty1,h1,s1⟩:=h.own n hn l1 cs ty hc
  have e2:=(h.live n hn l1).2.1
  obtain⟨cs2,ty2,h2,s2⟩:=k.own n (h.kn _ hn) hl cs1 ty1 (by rw[e2];exact h1)
  exact⟨cs2,ty2,by rw[<-e2];exact h2,s2.trans s1⟩
theorem Ctx.le.cell {C C':Ctx} (h:C.le C') {a:Addr} (hb:a.block<C.w.heap.size) (hm:¬C.mt a.block):C'.w.cell? a=C.w.cell? a :=
 World.cell?_of_block (h.same _ hb hm)
mutual
theorem Conc.mono {C C':Ctx} (h:C.le C'):∀(v:AV) (u:Value),Conc C v u->Conc C' v u
 | .top,_,_=>trivial
 | .sc _,_,hu=>hu
 | .agg cs,_,⟨us,e,hc⟩=>⟨us,e,ConcL.mono h cs _ hc⟩
 | .tup cs,_,⟨us,e,hc⟩=>⟨us,e,ConcL.mono h cs _ hc⟩
 | .ptr n _,_,⟨hp,hk,hu⟩=>⟨hp,h.kn _ hk,fun hl=>by
   obtain⟨l,e,f⟩:=h.live n hk hl
   rw[e,f];exact hu l⟩
 | .sl n z off len own,_,⟨hp,hk,hu⟩=>⟨hp,h.kn _ hk,fun hl=>by
   obtain⟨l,e,f⟩:=h.live n hk hl
   obtain⟨cap,o,hu1,hle,hoff,ho⟩:=hu l
   refine⟨cap,o,by rw[e];exact hu1,hle,by rw[f];exact hoff,fun hown => ?_⟩
   obtain⟨cs,ty,hc,hs⟩:=ho hown
   obtain⟨cs',ty',hc',hs'⟩:=h.own n hk hl cs ty hc
   exact⟨cs',ty',by rw[e];exact hc',by rw[hs',f];exact hs⟩⟩
 | .ip cs off,_,⟨a,hu,hb,hm,hc⟩=>⟨a,hu,Nat.lt_of_lt_of_le hb h.size,fun hm'=>hm (h.mt _ hb hm'),ConcM.mono h a hb hm 0 cs hc⟩
 | .ro z es full,_,⟨A,cap,hu,hle,hf,he⟩=>⟨A,cap,hu,hle,hf,fun hne=>by
   obtain⟨a,hA,hb,hm,hc⟩:=he hne
   exact⟨a,hA,Nat.lt_of_lt_of_le hb h.size,fun hm'=>hm (h.mt _ hb hm'),ConcE.mono h a z hb hm 0 es hc⟩⟩
 | .fn f xs ys,_,⟨us,vs,e,hx,hy⟩=>⟨us,vs,e,ConcL.mono h xs _ hx,ConcL.mono h ys _ hy⟩
 | .ifc t v,_,⟨x,e,hx⟩=>⟨x,e,Conc.mono h v _ hx⟩
theorem ConcL.mono {C C':Ctx} (h:C.le C'):∀(cs:List AV) (us:List Value),ConcL C cs us->ConcL C' cs us
 | [],_,hu=>hu
 | c::cs,_,⟨u,vs,e,hc,hl⟩=>⟨u,vs,e,Conc.mono h c u hc,ConcL.mono h cs vs hl⟩
theorem ConcM.mono {C C':Ctx} (h:C.le C') (a:Addr) (hb:a.block<C.w.heap.size) (hm:¬C.mt a.block):∀(i:Nat) (cs:List AV),ConcM C a i cs->ConcM C' a i cs
 | _,[],_=>trivial
 | i,c::cs,⟨⟨u,hu,hc⟩,hl⟩=>⟨⟨u,by rw[h.cell (by rw[block_add];exact hb) (by rw[block_add];exact hm)];exact hu,Conc.mono h c u hc⟩,ConcM.mono h a hb hm (i+1) cs hl⟩
theorem ConcE.mono {C C':Ctx} (h:C.le C') (a:Addr) (z:Nat) (hb:a.block<C.w.heap.size) (hm:¬C.mt a.block):∀(i:Nat) (es:List (List AV)),ConcE C a z i es->ConcE C' a z i es
 | _,[],_=>trivial
 | i,e::es,⟨hl,hc,he⟩=>⟨hl,ConcM.mono h a hb hm _ e hc,ConcE.mono h a z hb hm (i+1) es he⟩
end
theorem ConcL.length {C:Ctx}:∀{cs:List AV} {us:List Value},ConcL C cs us->cs.length=us.length
 | [],_,h=>by simp only[ConcL]at h;subst h;rfl
 | c::cs,_,h=>by
  simp only[ConcL]at h
  obtain⟨u,vs,rfl,_,hl⟩:=h
  simp[ConcL.length hl]
theorem ConcL.get {C:Ctx}:∀{cs:List AV} {us:List Value},ConcL C cs us->∀(i:Nat) (c:AV),cs[i]? = some c->∃u,us[i]? = some u/\Conc C c u
 | [],_,_,i,c,h=>by simp at h
 | d::cs,_,hh,i,c,h=>by
  simp only[ConcL]at hh
  obtain⟨u,vs,rfl,hc,hl⟩:=hh
  cases i with
  | zero=>simp at h;subst h;exact⟨u,rfl,hc⟩
  | succ i=>simpa using ConcL.get hl i c (by simpa using h)
theorem ConcL.mk {C:Ctx}:∀{cs:List AV} {us:List Value},cs.length=us.length->(∀(i:Nat) (c:AV) (u:Value),cs[i]? = some c->us[i]? = some u->Conc C c u)->ConcL C cs us
 | [],us,hl,_=>by
  simp only[ConcL]
  exact List.length_eq_zero_iff.1 hl.symm
 | c::cs,[],hl,_=>by simp at hl
 | c::cs,u::us,hl,h=>by
  simp only[ConcL]
  exact⟨u,us,rfl,h 0 c u rfl rfl,ConcL.mk (by simpa using hl) fun i c' u' h1 h2=>h (i+1) c' u' (by simpa using h1) (by simpa using h2)⟩
theorem ConcL.take {C:Ctx} {cs:List AV} {us:List Value} (h:ConcL C cs us) (n:Nat):ConcL C (cs.take n) (us.take n) :=
 ConcL.mk (by simp[h.length]) fun i c u h1 h2=>by
  simp only[List.getElem?_take]at h1 h2
  split at h1
  ·rename_i hi
   simp only[hi,if_true]at h2
   obtain⟨u',hu',hc⟩:=h.get i c h1
   rw[hu']at h2;cases h2;exact hc
  ·cases h1
theorem ConcL.drop {C:Ctx} {cs:List AV} {us:List Value} (h:ConcL C cs us) (n:Nat):ConcL C (cs.drop n) (us.drop n) :=
 ConcL.mk (by simp[h.length]) fun i c u h1 h2=>by
  simp only[List.getElem?_drop]at h1 h2
  obtain⟨u',hu',hc⟩:=h.get _ c h1
  rw[hu']at h2;cases h2;exact hc
theorem ConcL.append {C:Ctx}:∀{cs ds:List AV} {us vs:List Value},ConcL C cs us->ConcL C ds vs->ConcL C (cs++ds) (us++vs)
 | [],ds,us,vs,h,k=>by simp only[ConcL]at h;subst h;exact k
 | c::cs,ds,_,vs,h,k=>by
  simp only[ConcL]at h
  obtain⟨u,us,rfl,hc,hl⟩:=h
  simp only[List.cons_append,ConcL]
  exact⟨u,us++vs,rfl,hc,ConcL.append hl k⟩
theorem ConcM.get {C:Ctx} {a:Addr}:∀{i:Nat} {cs:List AV},ConcM C a i cs->∀(j:Nat) (c:AV),cs[j]? = some c->∃u,C.w.cell? (a.add (i+j))=some u/\Conc C c u
 | _,[],_,j,c,h=>by simp at h
 | i,d::cs,hh,j,c,h=>by
  simp only[ConcM]at hh
  obtain⟨⟨u,hu,hc⟩,hl⟩:=hh
  cases j with
  | zero=>simp at h;subst h;exact⟨u,hu,hc⟩
  | succ j =>
   have:=ConcM.get hl j c (by simpa using h)
   rwa[show i+1+j=i+(j+1)from by omega]at this
theorem ConcM.mk {C:Ctx} {a:Addr}:∀{i:Nat} {cs:List AV},(∀(j:Nat) (c:AV),cs[j]? = some c->∃u,C.w.cell? (a.add (i+j))=some u/\Conc C c u)->ConcM C a i cs
 | _,[],_=>by simp only[ConcM]
 | i,d::cs,h=>by
  simp only[ConcM]
  refine⟨h 0 d rfl,ConcM.mk fun j c hj => ?_⟩
  have:=h (j+1) c (by simpa using hj)
  rwa[show i+(j+1)=i+1+j from by omega]at this
theorem ConcE.get {C:Ctx} {a:Addr} {z:Nat}:∀{i:Nat} {es:List (List AV)},ConcE C a z i es->∀(j:Nat) (e:List AV),es[j]? = some e->e.length=z/\ConcM C (a.add ((i+j)*z)) 0 e
 | _,[],_,j,c,h=>by simp at h
 | i,d::es,hh,j,e,h=>by
  simp only[ConcE]at hh
  obtain⟨hz,hc,hl⟩:=hh
  cases j with
  | zero =>
   simp at h;subst h
   refine⟨hz,ConcM.mk fun j c hj => ?_⟩
   obtain⟨u,hu,hcu⟩:=hc.get j c hj
   exact⟨u,by rw[add_add];simpa using hu,hcu⟩
  | succ j =>
   have:=ConcE.get hl j e (by simpa using h)
   rwa[show i+1+j=i+(j+1)from by omega]at this
theorem ConcE.mk {C:Ctx} {a:Addr} {z:Nat}:∀{i:Nat} {es:List (List AV)},(∀(j:Nat) (e:List AV),es[j]? = some e->e.length=z/\ConcM C (a.add ((i+j)*z)) 0 e)->ConcE C a z i es
 | _,[],_=>by simp only[ConcE]
 | i,d::es,h=>by
  simp only[ConcE]
  obtain⟨h1,h2⟩:=h 0 d rfl
  refine⟨h1,ConcM.mk fun j c hj => ?_,ConcE.mk fun j e hj => ?_⟩
  ·obtain⟨u,hu,hcu⟩:=h2.get j c hj
   rw[add_add]at hu
   exact⟨u,by simpa using hu,hcu⟩
  ·have:=h (j+1) e (by simpa using hj)
   rwa[show i+(j+1)=i+1+j from by omega]at this
end Go.Proofs.Aw
namespace Go.Proofs.Aw
open Go
abbrev Tp:=List (Nat×AV)
abbrev Hp:=List (Nm×List AV)
abbrev Dl:=List (Nm×Option (List AV))
def dX:Tp->Nat->AV
 | [],_ => .top
 | (j,v)::l,i=>if j=i then v else dX l i
def hget:Hp->Nm->Option (List AV)
 | [],_=>none
 | (m,v)::l,n=>if m=n then some v else hget l n
def hdel:Hp->Nm->Hp
 | [],_=>[]
 | (m,v)::l,n=>if m=n then hdel l n else(m,v)::hdel l n
def hset:Hp->Nm->List AV->Hp
 | [],n,v=>[(n,v)]
 | (m,u)::l,n,v=>if m=n then(m,v)::l else(m,u)::hset l n v
def hap:Dl->Hp->Hp
 | [],h=>h
 | (n,some v)::d,h=>hap d (hset h n v)
 | (n,none)::d,h=>hap d (hdel h n)
def qm (d:Option Tmp) (v:AV) (t:Tp):Tp :=
 match d with
 | some d=>(d,v)::t
 | none=>t
def ev (t:Tp):Operand->AV
 | .tmp i=>dX t i
 | .const v => .sc v
 | .global g => .sc (.pointer (some ⟨g,0,none⟩))
 | .func f => .fn (.func f) [] []
theorem dF (h:Hp) (n m:Nm) (v:List AV):hget (hset h n v) m=if n=m then some v else hget h m:=by
 induction h with
 | nil=>simp[hset,hget]
 | cons x l ih =>
  obtain⟨k,u⟩:=x
  by_cases hk:k=n
  ·subst hk;by_cases hm:k=m<;>simp[hset,hget,hm]
  ·by_cases hm:k=m
   ·subst hm;simp[hset,hget,hk,Ne.symm hk]
   ·simp only[hset,hk,if_false,hget,hm,ih]
theorem mi (h:Hp) (n m:Nm):hget (hdel h n) m=if n=m then none else hget h m:=by
 induction h with
 | nil=>simp[hdel,hget]
 | cons x l ih =>
  obtain⟨k,u⟩:=x
  by_cases hk:k=n
  ·subst hk
   simp only[hdel,if_true,ih,hget]
   by_cases hm:k=m<;>simp[hm]
  ·by_cases hm:k=m
   ·subst hm;simp[hdel,hget,hk,Ne.symm hk]
   ·simp only[hdel,hk,if_false,hget,hm,ih]
theorem aO:∀(d:Dl) (h:Hp) (m:Nm),m∉d.map (·.1)->hget (hap d h) m=hget h m
 | [],_,_,_=>rfl
 | (n,some v)::d,h,m,hm=>by
  simp only[List.map_cons,List.mem_cons,not_or]at hm
  simp only[hap]
  rw[aO d _ m hm.2,dF,if_neg (Ne.symm hm.1)]
 | (n,none)::d,h,m,hm=>by
  simp only[List.map_cons,List.mem_cons,not_or]at hm
  simp only[hap]
  rw[aO d _ m hm.2,mi,if_neg (Ne.symm hm.1)]
def aq4 (C:Ctx) (b k:Nat) (cs:List AV):Prop :=
 ∃arr ty,C.w.heap[b]? = some (.cells arr ty (0,0))/\∀(j:Nat) (c:AV),cs[j]? = some c->∃u,arr[k+j]? = some u/\Conc C c u
structure HeapOk (C:Ctx) (h:Hp):Prop where
 live:∀n,C.live n<->(hget h n).isSome=true
 obj:∀n cs,hget h n=some cs->aq4 C (C.J n) (C.bs n) cs
 inj:∀n m,C.live n->C.live m->C.J n=C.J m->n=m
 mt:∀n,C.live n->C.mt (C.J n)
 kn:∀n,C.live n->C.kn n
def TOk (C:Ctx) (t:Tp) (a:Act):Prop:=∀i,Conc C (dX t i) (a.tmps.getD i undef)
theorem HeapOk.lt {C:Ctx} {h:Hp} (hh:HeapOk C h) {n:Nm} (hl:C.live n):C.J n<C.w.heap.size:=by
 have h1:=(hh.live n).1 hl
 obtain⟨cs,hcs⟩:=Option.isSome_iff_exists.1 h1
 obtain⟨arr,ty,ha,_⟩:=hh.obj n cs hcs
 rcases Nat.lt_or_ge (C.J n) C.w.heap.size with h2 | h2
 ·exact h2
 ·rw[Array.getElem?_eq_none h2]at ha;cases ha
theorem HeapOk.get {C:Ctx} {h:Hp} (hh:HeapOk C h) {n:Nm} {cs:List AV} (hg:hget h n=some cs):C.live n:=(hh.live n).2 (by rw[hg];rfl)
theorem TOk.mono {C C':Ctx} {t:Tp} {a:Act} (h:C.le C') (ht:TOk C t a):TOk C' t a:=fun i=>Conc.mono h _ _ (ht i)
theorem aH {C:Ctx} {t:Tp} {a:Act} (ht:TOk C t a) (x:Operand):Conc C (ev t x) (a.eval x):=by
 cases x with
 | tmp i=>exact ht i
 | const v=>simp only[ev,Conc,Act.eval]
 | global g=>simp only[ev,Conc,Act.eval]
 | func f=>simp only[ev,Conc,ConcL,Act.eval];exact⟨#[],#[],rfl,rfl,rfl⟩
structure Post (C:Ctx) (n:Nat) (h:Hp) (r:AV) (d:Dl) (u:Value) (C':Ctx):Prop where
 le:C.le C'
 kn:∀i,C'.kn i<->C.kn i\/i.1=n
 heap:HeapOk C' (hap d h)
 val:Conc C' r u
 same:∀b,b<C.w.heap.size->(∀m,m∈d.map (·.1)->C.live m->b≠C.J m)->C'.w.heap[b]? = C.w.heap[b]?
 mt:∀b,b<C.w.heap.size->(C'.mt b<->C.mt b)
 os:C'.w.os=C.w.os
 tape:C'.w.tape=C.w.tape
 output:C'.w.output=C.w.output
 orig:∀m,C'.live m->(C.live m/\C'.J m=C.J m)\/C.w.heap.size<=C'.J m\/∃m0,m0∈d.map (·.1)/\C.live m0/\C'.J m=C.J m0
 names:∀m,m∈d.map (·.1)->C.live m\/m.1=n
def Yields (P:Program) (n:Nat) (op:Op) (t:Tp) (h:Hp) (r:AV) (d:Dl):Prop :=
 ∀(C:Ctx) (a:Act) (o:Oper) (next:Act->World->Prop) (Q:Exit->Act->World->Prop),o.op=op->HeapOk C h->TOk C t a->(∀k,¬C.kn (n,k)) ->
  (∀u C',Post C n h r d u C'->next (a.put o.dst u) C'.w)->o.wp P a C.w next Q
def Ctx.same (C:Ctx) (n:Nat) (w:World):Ctx:={ C with kn:=fun i=>C.kn i\/i.1=n,w:=w }
theorem Ctx.le_same (C:Ctx) (n:Nat) {w:World} (hw:w.heap=C.w.heap):C.le (C.same n w) where
 size:=by simp[Ctx.same,hw]
 same b _ _:=by simp[Ctx.same,hw]
 mt _ _ h:=h
 kn _ h := .inl h
 live _ _ h:=⟨h,rfl,rfl⟩
 own n _ _ cs ty hc:=⟨cs,ty,by simp[Ctx.same,hw,hc],rfl⟩
theorem HeapOk.mono {C C':Ctx} {h:Hp} (hh:HeapOk C h) (le:C.le C') (hl:∀n,C'.live n<->C.live n) (hb:∀n,C.live n->C'.w.heap[C.J n]? = C.w.heap[C.J n]?) (hm:∀b,C.mt b->b<C.w.heap.size->C'.mt b):HeapOk C' h where
 live n:=(hl n).trans (hh.live n)
 obj n cs hg:=by
  have hlv:=hh.get hg
  obtain⟨_,e,f⟩:=le.live n (hh.kn n hlv) ((hl n).2 hlv)
  obtain⟨arr,ty,ha,hc⟩:=hh.obj n cs hg
  refine⟨arr,ty,by rw[e,hb n hlv];exact ha,fun j c hj => ?_⟩
  obtain⟨u,hu,hcu⟩:=hc j c hj
  exact⟨u,by rw[f];exact hu,hcu.mono le⟩
 inj n m hn hm' he:=by
  have h1:=(hl n).1 hn
  have h2:=(hl m).1 hm'
  rw[(le.live n (hh.kn n h1) hn).2.1,(le.live m (hh.kn m h2) hm').2.1]at he
  exact hh.inj n m h1 h2 he
 mt n hn:=by
  have h1:=(hl n).1 hn
  rw[(le.live n (hh.kn n h1) hn).2.1]
  exact hm _ (hh.mt n h1) (hh.lt h1)
 kn n hn:=le.kn _ (hh.kn n ((hl n).1 hn))
theorem Post.pure {C:Ctx} {n:Nat} {h:Hp} {r:AV} {u:Value} (hh:HeapOk C h) (hr:Conc C r u) {w:World} (hw:w.heap=C.w.heap) (ho:w.os=C.w.os) (ht:w.tape=C.w.tape) (hu:w.output=C.w.output):Post C n h r [] u (C.same n w) where
 le:=C.le_same n hw
 kn _:=Iff.rfl
 heap:=hh.mono (C.le_same n hw) (fun _=>Iff.rfl) (fun _ _=>by simp[Ctx.same,hw]) (fun _ hm _=>hm)
 val:=hr.mono (C.le_same n hw)
 same b _ _:=by simp[Ctx.same,hw]
 mt _ _:=Iff.rfl
 os:=ho
 tape:=ht
 output:=hu
 orig m hm := .inl ⟨hm,rfl⟩
 names _ hm:=by simp at hm
def Ctx.allocI (C:Ctx) (n:Nat) (w:World):Ctx:={ C with kn:=fun i=>C.kn i\/i.1=n,mt:=fun b=>C.mt b/\b<C.w.heap.size,w:=w }
theorem Ctx.le_allocI (C:Ctx) (n:Nat) {w:World} {o:Obj} (hw:w.heap=C.w.heap.push o):C.le (C.allocI n w) where
 size:=by simp[Ctx.allocI,hw]
 same b hb _:=by simp[Ctx.allocI,hw,Array.getElem?_push,Nat.ne_of_lt hb]
 mt _ _ h:=h.1
 kn _ h := .inl h
 live _ _ h:=⟨h,rfl,rfl⟩
 own n _ _ cs ty hc:=⟨cs,ty,by
  have hb:C.J n<C.w.heap.size:=by
   rcases Nat.lt_or_ge (C.J n) C.w.heap.size with h2 | h2
   ·exact h2
   ·rw[Array.getElem?_eq_none h2]at hc;cases hc
  simp[Ctx.allocI,hw,Array.getElem?_push,Nat.ne_of_lt hb,hc],rfl⟩
theorem Post.allocI {C:Ctx} {n:Nat} {h:Hp} {r:AV} {u:Value} (hh:HeapOk C h) {w:World} {o:Obj} (hw:w.heap=C.w.heap.push o) (hr:Conc (C.allocI n w) r u) (ho:w.os=C.w.os) (ht:w.tape=C.w.tape) (hu:w.output=C.w.output):Post C n h r [] u (C.allocI n w) where
 le:=C.le_allocI n hw
 kn _:=Iff.rfl
 heap:=hh.mono (C.le_allocI n hw) (fun _=>Iff.rfl) (fun n' hl=>by
   have hb:=hh.lt hl
   simp[Ctx.allocI,hw,Array.getElem?_push,Nat.ne_of_lt hb]) (fun b hm hb=>⟨hm,hb⟩)
 val:=hr
 same b hb _:=by simp[Ctx.allocI,hw,Array.getElem?_push,Nat.ne_of_lt hb]
 mt b hb:=⟨fun hm=>hm.1,fun hm=>⟨hm,hb⟩⟩
 os:=ho
 tape:=ht
 output:=hu
 orig m hm := .inl ⟨hm,rfl⟩
 names _ hm:=by simp at hm
def Ctx.allocN (C:Ctx) (n:Nat) (w:World):Ctx where
 J:=fun m=>if m=(n,0)then C.w.heap.size else C.J m
 bs:=fun m=>if m=(n,0)then 0 else C.bs m
 live:=fun m=>m=(n,0)\/C.live m
 kn:=fun i=>C.kn i\/i.1=n
 mt:=fun b=>(C.mt b/\b<C.w.heap.size)\/b=C.w.heap.size
 w:=w
theorem Ctx.le_allocN (C:Ctx) (n:Nat) (hn:(∀k,¬C.kn (n,k))) {w:World} {o:Obj} (hw:w.heap=C.w.heap.push o):C.le (C.allocN n w) where
 size:=by simp[Ctx.allocN,hw]
 same b hb _:=by simp[Ctx.allocN,hw,Array.getElem?_push,Nat.ne_of_lt hb]
 mt b hb h:=by
  rcases h with h | h
  ·exact h.1
  ·omega
 kn _ h := .inl h
 live m hk h:=by
  have hne:m≠(n,0):=fun e=>by subst e;exact hn 0 hk
  simp only[Ctx.allocN,hne,false_or,if_false]at h ⊢
  exact⟨h,trivial,trivial⟩
 own m _ _ cs ty hc:=⟨cs,ty,by
  have hb:C.J m<C.w.heap.size:=by
   rcases Nat.lt_or_ge (C.J m) C.w.heap.size with h2 | h2
   ·exact h2
   ·rw[Array.getElem?_eq_none h2]at hc;cases hc
  simp[Ctx.allocN,hw,Array.getElem?_push,Nat.ne_of_lt hb,hc],rfl⟩
theorem Post.allocN {C:Ctx} {n:Nat} {h:Hp} {r:AV} {u:Value} {cs:List AV} {arr:Array Value} {ty:TypeId} (hh:HeapOk C h) (hn:(∀k,¬C.kn (n,k))) {w:World} (hw:w.heap=C.w.heap.push (.cells arr ty))
  (hcs:∀(j:Nat) (c:AV),cs[j]? = some c->∃u,arr[j]? = some u/\Conc C c u) (hr:Conc (C.allocN n w) r u) (ho:w.os=C.w.os) (ht:w.tape=C.w.tape) (hu:w.output=C.w.output) :
  Post C n h r [((n,0),some cs)] u (C.allocN n w):=by
 have le:=C.le_allocN n hn hw
 have hne:∀m,C.live m->m≠(n,0):=fun m hm e=>hn 0 (by have:=hh.kn m hm;rw[e]at this;exact this)
 have hget':∀m,hget (hap [((n,0),some cs)] h) m=if(n,0)=m then some cs else hget h m:=fun m=>by simp only[hap];exact dF _ _ _ _
 have hrho:∀m,C.live m->(C.allocN n w).J m=C.J m:=fun m hm=>by simp[Ctx.allocN,hne m hm]
 have hbs:∀m,C.live m->(C.allocN n w).bs m=C.bs m:=fun m hm=>by simp[Ctx.allocN,hne m hm]
 refine⟨le,fun _=>Iff.rfl,⟨fun m => ?_,fun m cs' hg => ?_,fun m m' hm hm' he => ?_,fun m hm => ?_,fun m hm => ?_⟩,hr,fun b hb _ => ?_,fun b hb => ?_,ho,ht,hu,fun m hm => ?_,fun m hm => ?_⟩
 ·rw[hget']
  by_cases e:(n,0)=m
  ·simp[Ctx.allocN,<-e]
  ·rw[if_neg e,<-hh.live m]
   simp[Ctx.allocN,Ne.symm e]
 ·rw[hget']at hg
  by_cases e:(n,0)=m
  ·rw[if_pos e]at hg
   subst e
   cases hg
   refine⟨arr,ty,by simp[Ctx.allocN,hw],fun j c hj => ?_⟩
   obtain⟨u',hu',hc⟩:=hcs j c hj
   exact⟨u',by simp only[Ctx.allocN,if_true,Nat.zero_add];exact hu',hc.mono le⟩
  ·rw[if_neg e]at hg
   have hl:=hh.get hg
   obtain⟨arr',ty',ha,hc⟩:=hh.obj m cs' hg
   have hb:=hh.lt hl
   refine⟨arr',ty',by rw[hrho m hl];simp[Ctx.allocN,hw,Array.getElem?_push,Nat.ne_of_lt hb,ha],fun j c hj => ?_⟩
   obtain⟨u',hu',hc'⟩:=hc j c hj
   exact⟨u',by rw[hbs m hl];exact hu',hc'.mono le⟩
 ·by_cases e:m=(n,0)<;>by_cases e':m'=(n,0)
  ·rw[e,e']
  ·have hl':C.live m':=by simpa [Ctx.allocN,e']using hm'
   have:=hh.lt hl'
   rw[hrho m' hl',e]at he
   simp[Ctx.allocN]at he
   omega
  ·have hl:C.live m:=by simpa [Ctx.allocN,e]using hm
   have:=hh.lt hl
   rw[hrho m hl,e']at he
   simp[Ctx.allocN]at he
   omega
  ·have hl:C.live m:=by simpa [Ctx.allocN,e]using hm
   have hl':C.live m':=by simpa [Ctx.allocN,e']using hm'
   rw[hrho m hl,hrho m' hl']at he
   exact hh.inj m m' hl hl' he
 ·by_cases e:m=(n,0)
  ·simp[Ctx.allocN,e]
  ·have hl:C.live m:=by simpa [Ctx.allocN,e]using hm
   rw[hrho m hl]
   exact .inl ⟨hh.mt m hl,hh.lt hl⟩
 ·by_cases e:m=(n,0)
  ·simp[Ctx.allocN,e]
  ·have hl:C.live m:=by simpa [Ctx.allocN,e]using hm
   exact .inl (hh.kn m hl)
 ·simp[Ctx.allocN,hw,Array.getElem?_push,Nat.ne_of_lt hb]
 ·simp only[Ctx.allocN]
  constructor
  ·rintro(h1 | h1)
   ·exact h1.1
   ·omega
  ·intro h1;exact .inl ⟨h1,hb⟩
 ·by_cases e:m=(n,0)
  ·exact .inr (.inl (by simp[Ctx.allocN,e]))
  ·have hl:C.live m:=by simpa [Ctx.allocN,e]using hm
   exact .inl ⟨hl,hrho m hl⟩
 ·simp at hm
  exact .inr (by rw[hm])
theorem Ctx.le_mod (C:Ctx) (n:Nat) {b:Nat} (hm:C.mt b) {w:World} {arr arr':Array Value} {ty:TypeId} (hb:C.w.heap[b]? = some (.cells arr ty (0,0))) (hb':w.heap[b]? = some (.cells arr' ty (0,0)))
  (hs:arr'.size=arr.size) (hsz:w.heap.size=C.w.heap.size) (ho:∀k,k≠b->w.heap[k]? = C.w.heap[k]?):C.le (C.same n w) where
 size:=by simp[Ctx.same,hsz]
 same k _ hk:=ho k (fun e=>hk (by rw[e];exact hm))
 mt _ _ h:=h
 kn _ h := .inl h
 live _ _ h:=⟨h,rfl,rfl⟩
 own m _ _ cs ty' hc:=by
  by_cases e:C.J m=b
  ·rw[e]at hc ⊢
   rw[hb]at hc
   cases hc
   exact⟨arr',ty,hb',hs⟩
  ·exact⟨cs,ty',(ho _ e).trans hc,rfl⟩
theorem Post.mod {C:Ctx} {n:Nat} {h:Hp} {r:AV} {u:Value} {m:Nm} {cs cs':List AV} (hh:HeapOk C h) (hg:hget h m=some cs) {w:World} {arr arr':Array Value} {ty:TypeId}
  (hb:C.w.heap[C.J m]? = some (.cells arr ty (0,0))) (hb':w.heap[C.J m]? = some (.cells arr' ty (0,0))) (hs:arr'.size=arr.size) (hsz:w.heap.size=C.w.heap.size) (hot:∀k,k≠C.J m->w.heap[k]? = C.w.heap[k]?)
  (hcs:∀(j:Nat) (c:AV),cs'[j]? = some c->∃u,arr'[C.bs m+j]? = some u/\Conc C c u) (hr:Conc C r u) (ho:w.os=C.w.os) (ht:w.tape=C.w.tape) (hu:w.output=C.w.output) :
  Post C n h r [(m,some cs')] u (C.same n w):=by
 have hl:=hh.get hg
 have le:=C.le_mod n (hh.mt m hl) hb hb' hs hsz hot
 have hget':∀k,hget (hap [(m,some cs')] h) k=if m=k then some cs' else hget h k:=fun k=>by simp only[hap];exact dF _ _ _ _
 refine⟨le,fun _=>Iff.rfl,⟨fun k => ?_,fun k ds hk => ?_,fun k k' hk hk' he=>hh.inj k k' hk hk' he,fun k hk=>hh.mt k hk,fun k hk => .inl (hh.kn k hk)⟩,hr.mono le,fun b _ hne=>hot b (hne m (by simp) hl),fun _ _=>Iff.rfl,ho,ht,hu,fun k hk => .inl ⟨hk,rfl⟩,fun k hk => ?_⟩
 ·rw[hget']
  by_cases e:m=k
  ·subst e;simp[Ctx.same,hl]
  ·rw[if_neg e];exact hh.live k
 ·rw[hget']at hk
  by_cases e:m=k
  ·subst e
   rw[if_pos rfl]at hk;cases hk
   refine⟨arr',ty,hb',fun j c hj => ?_⟩
   obtain⟨u',hu',hc⟩:=hcs j c hj
   exact⟨u',hu',hc.mono le⟩
  ·rw[if_neg e]at hk
   obtain⟨arr1,ty1,ha,hc⟩:=hh.obj k ds hk
   refine⟨arr1,ty1,?_,fun j c hj => ?_⟩
   ·exact(hot _ (fun he=>e (hh.inj _ _ hl (hh.get hk) he.symm))).trans ha
   ·obtain⟨u',hu',hc'⟩:=hc j c hj
    exact⟨u',hu',hc'.mono le⟩
 ·simp at hk;subst hk;exact .inl hl
theorem Yields.pure {P:Program} {n:Nat} {op:Op} {t:Tp} {h:Hp} {r:AV}
  (H:∀(C:Ctx) (a:Act) (o:Oper),o.op=op->HeapOk C h->TOk C t a->∃u,(execOp a.eval o).run P C.w = .ok (.value u) C.w/\Conc C r u):Yields P n op t h r []:=by
 intro C a o next Q ho hh ht _ hk
 obtain⟨u,hr,hc⟩:=H C a o ho hh ht
 unfold Oper.wp
 rw[hr]
 exact hk u (C.same n C.w) (Post.pure hh hc rfl rfl rfl rfl)
theorem Yields.run {P:Program} {n:Nat} {op:Op} {t:Tp} {h:Hp} {r:AV} {d:Dl}
  (H:∀(C:Ctx) (a:Act) (o:Oper),o.op=op->HeapOk C h->TOk C t a->(∀k,¬C.kn (n,k))->∃u C',(execOp a.eval o).run P C.w = .ok (.value u) C'.w/\Post C n h r d u C'):Yields P n op t h r d:=by
 intro C a o next Q ho hh ht hn hk
 obtain⟨u,C',hr,hp⟩:=H C a o ho hh ht hn
 unfold Oper.wp
 rw[hr]
 exact hk u C' hp
theorem Yields.skip {P:Program} {n:Nat} {op:Op} {t:Tp} {h:Hp} {d:Dl}
  (H:∀(C:Ctx) (a:Act) (o:Oper),o.op=op->HeapOk C h->TOk C t a->(∀k,¬C.kn (n,k))->∃C',(execOp a.eval o).run P C.w = .ok .skip C'.w/\Post C n h (.sc undef) d undef C'):Yields P n op t h (.sc undef) d:=by
 intro C a o next Q ho hh ht hn hk
 obtain⟨C',hr,hp⟩:=H C a o ho hh ht hn
 unfold Oper.wp
 rw[hr]
 exact hk undef C' hp
end Go.Proofs.Aw
namespace Go.Proofs.Aw
open Go
def AV.cells:AV->List AV
 | .agg cs=>cs
 | v=>[v]
def AV.one:AV->Bool
 | .sc v=>v.oneCell'
 | .top | .agg _ | .tup _=>false
 | _=>true
def jk (P:Program) (t:TypeId):Option (List AV):=(P.info? t).bind fun i=>i.zero.map fun v=>v.cells.toList.map AV.sc
def nC (P:Program) (t:TypeId):Option Bool:=match P.underlying t with | some (.struct _) | some (.array _ _)=>some true | some _=>some false | none=>none
section
variable {P:Program} {n:Nat} {t:Tp} {h:Hp}
theorem bo1 (x:Operand):Yields P n (.move x) t h (ev t x) [] :=
 Yields.pure fun C a o ho _ ht=>⟨a.eval x,by unfold execOp;rw[ho];rfl,aH ht x⟩
theorem aq1 (x:Operand):Yields P n (.assign x) t h (ev t x) [] :=
 Yields.pure fun C a o ho _ ht=>⟨a.eval x,by unfold execOp;rw[ho];rfl,aH ht x⟩
theorem bo0 {c x y:Operand} {b:Bool} (hc:ev t c = .sc (.bool b)):Yields P n (.pick c x y) t h (if b=true then ev t x else ev t y) [] :=
 Yields.pure fun C a o ho _ ht=>by
  have h1:=aH ht c
  rw[hc]at h1
  simp only[Conc]at h1
  refine⟨if b=true then a.eval x else a.eval y,?_,?_⟩
  ·unfold execOp
   rw[ho]
   simp only[h1,asBool]
   rfl
  ·split
   ·exact aH ht x
   ·exact aH ht y
theorem y7 {C:Ctx} {v:AV} {u:Value} (hc:Conc C v u) (h1:v.one=true):u.oneCell'=true:=by
 cases v<;>simp only[AV.one,Bool.false_eq_true]at h1<;>simp only[Conc]at hc
 case sc=>rw[hc];exact h1
 case ptr=>obtain⟨⟨p,rfl⟩,_⟩:=hc;rfl
 case sl=>obtain⟨⟨A,l,c,rfl⟩,_⟩:=hc;rfl
 case ip=>obtain⟨a,rfl,_⟩:=hc;rfl
 case ro=>obtain⟨A,c,rfl,_⟩:=hc;rfl
 case fn=>obtain⟨x,y,rfl,_⟩:=hc;rfl
 case ifc=>obtain⟨x,rfl,_⟩:=hc;rfl
theorem yh {C:Ctx} {v:AV} {u:Value} (hc:Conc C v u) (h1:v.cells.all AV.one=true):ConcL C v.cells u.cells.toList/\∀x∈u.cells.toList,x.oneCell'=true:=by
 have hL:ConcL C v.cells u.cells.toList:=by
  cases v with
  | agg cs =>
   simp only[Conc]at hc
   obtain⟨us,rfl,hl⟩:=hc
   exact hl
  | _ =>
   have ho:u.oneCell'=true:=y7 hc (by simpa [AV.cells]using h1)
   have e:u.cells.toList=[u]:=by cases u<;>first | rfl | cases ho
   rw[e]
   simp only[AV.cells,ConcL]
   exact⟨u,[],rfl,hc,rfl⟩
 refine⟨hL,fun x hx => ?_⟩
 obtain⟨i,hi,rfl⟩:=List.mem_iff_getElem.1 hx
 have hlen:=hL.length
 obtain⟨u',hu',hcu⟩:=hL.get i (v.cells[i]'(by omega)) (List.getElem?_eq_getElem _)
 rw[List.getElem?_eq_getElem hi]at hu'
 cases hu'
 exact y7 hcu (List.all_eq_true.1 h1 _ (List.getElem_mem _))
theorem BM (w:World) (e:TypeId) (v:Value):(newVar e v).run P w = .ok ⟨w.heap.size,0,none⟩ { w with heap:=w.heap.push (.cells v.cells e) }:=rfl
theorem ZF {e:TypeId} {cs:List AV} (hz:jk P e=some cs) (w:World):∃z,(zeroValue e).run P w = .ok z w/\cs=z.cells.toList.map AV.sc:=by
 unfold jk at hz
 cases hi:P.info? e with
 | none=>rw[hi]at hz;cases hz
 | some i =>
  rw[hi]at hz
  cases hz0:i.zero with
  | none=>simp[hz0]at hz
  | some z =>
   simp[hz0]at hz
   refine⟨z,?_,hz.symm⟩
   unfold zeroValue typeInfo program
   simp only[bind,Sem.bind,pure,Sem.run,hi,hz0]
theorem Es {C:Ctx} (us:List Value) (j:Nat) (c:AV) (h:(us.map AV.sc)[j]? = some c):∃u,us.toArray[j]? = some u/\Conc C c u:=by
 rw[List.getElem?_map]at h
 cases hu:us[j]? with
 | none=>rw[hu]at h;cases h
 | some u =>
  rw[hu]at h;cases h
  exact⟨u,by simpa using hu,by simp only[Conc]⟩
theorem aM8 {e:TypeId} {cs:List AV} (hz:jk P e=some cs):Yields P n (.alloc e) t h (.ptr (n,0) 0) [((n,0),some cs)] :=
 Yields.run fun C a o ho hh _ hn=>by
  obtain⟨z,hr,rfl⟩:=ZF hz C.w
  refine⟨.pointer (some ⟨C.w.heap.size,0,none⟩),C.allocN n { C.w with heap:=C.w.heap.push (.cells z.cells e) },?_,?_⟩
  ·unfold execOp
   rw[ho]
   simp only[Instr.alloc,Sem.run_bind,hr,Result.andThen_ok,BM,Ctx.allocN]
   rfl
  ·refine Post.allocN (arr:=z.cells) (ty:=e) hh hn rfl (fun j c hj=>by simpa using Es _ j c hj) ?_ rfl rfl rfl
   simp only[Conc,Ctx.allocN,if_true]
   exact⟨⟨_,rfl⟩,.inr trivial,fun _=>trivial⟩
theorem b56 {e:TypeId} {x:Operand} (h1:(ev t x).cells.all AV.one=true):Yields P n (.box e x) t h (.ptr (n,0) 0) [((n,0),some (ev t x).cells)] :=
 Yields.run fun C a o ho hh ht hn=>by
  refine⟨.pointer (some ⟨C.w.heap.size,0,none⟩),C.allocN n { C.w with heap:=C.w.heap.push (.cells (a.eval x).cells e) },?_,?_⟩
  ·unfold execOp
   rw[ho]
   simp only[Instr.box,Sem.run_bind,BM,Result.andThen_ok,Ctx.allocN]
   rfl
  ·refine Post.allocN (arr:=(a.eval x).cells) (ty:=e) hh hn rfl (fun j c hj => ?_) ?_ rfl rfl rfl
   ·obtain⟨u,hu,hcu⟩:=(yh (aH ht x) h1).1.get j c hj
    exact⟨u,by simpa using hu,hcu⟩
   ·simp only[Conc,Ctx.allocN,if_true]
    exact⟨⟨_,rfl⟩,.inr trivial,fun _=>trivial⟩
theorem vO {ty:TypeId} {b:Bool} (hb:nC P ty=some b) (w:World):(isAgg ty).run P w = .ok b w:=by
 unfold nC at hb
 unfold isAgg
 cases hu:P.underlying ty with
 | none=>rw[hu]at hb;cases hb
 | some d =>
  rw[hu]at hb
  simp only[Sem.run_bind,run_underlying hu,Result.andThen_ok]
  cases d<;>simp at hb<;>subst hb<;>rfl
theorem qx {ty:TypeId} {z:Nat} (hz:P.cellsOf ty=z) (h0:0<z):∃i,P.info? ty=some i/\i.size=z:=by
 unfold Program.cellsOf at hz
 cases hi:P.info? ty with
 | none=>simp[hi]at hz;omega
 | some i=>exact⟨i,rfl,by simpa [hi]using hz⟩
theorem jA {ty:TypeId} (h0:0<P.cellsOf ty) (w:World):(sizeOf ty).run P w = .ok (P.cellsOf ty) w:=by
 obtain⟨i,hi,_⟩:=qx (P:=P) (ty:=ty) rfl h0
 exact run_sizeOf w hi
def Rd (agg:Bool) (z:Nat) (cs:List AV) (off:Nat) (v:AV):Prop :=
 (agg=true/\0<z/\off+z<=cs.length/\v = .agg ((cs.drop off).take z))\/(agg=false/\cs[off]? = some v)
theorem lh {ty:TypeId} {agg:Bool} (hb:nC P ty=some agg) {C:Ctx} {a:Addr} {cs:List AV} {off:Nat} {v:AV}
  (hrow:∀(j:Nat) (c:AV),cs[j]? = some c->∃u,C.w.cell? (a.add j)=some u/\Conc C c u) (hr:Rd agg (P.cellsOf ty) cs off v):∃u,(loadVar ty (a.add off)).run P C.w = .ok u C.w/\Conc C v u:=by
 unfold loadVar
 rcases hr with⟨rfl,h0,hlen,rfl⟩ | ⟨rfl,hv⟩
 ·have hx:∀j,j<P.cellsOf ty->∃u,C.w.cell? ((a.add off).add j)=some u/\∃c,((cs.drop off).take (P.cellsOf ty))[j]? = some c/\Conc C c u:=fun j hj=>by
   obtain⟨u,hu,hc⟩:=hrow (off+j) (cs[off+j]'(by omega)) (List.getElem?_eq_getElem _)
   refine⟨u,by rw[add_add];exact hu,_,?_,hc⟩
   rw[List.getElem?_take,if_pos hj,List.getElem?_drop,List.getElem?_eq_getElem (by omega)]
  let us:List Value:=(List.range (P.cellsOf ty)).map fun j=>(C.w.cell? ((a.add off).add j)).getD undef
  have hus:us.length=P.cellsOf ty:=by simp[us]
  have hget:∀j v,us[j]? = some v->C.w.cell? ((a.add off).add j)=some v:=fun j v hj=>by
   have hj':j<P.cellsOf ty:=by
    have:=(List.getElem?_eq_some_iff.1 hj).1
    omega
   obtain⟨u,hu,_⟩:=hx j hj'
   simp only[us,List.getElem?_map,List.getElem?_range hj',Option.map_some,hu,Option.getD_some,Option.some.injEq]at hj
   rw[<-hj];exact hu
  have hrun:=run_loadCells_list (P:=P) C.w (a.add off) us hget
  rw[hus]at hrun
  refine⟨.agg us.toArray,?_,?_⟩
  ·simp only[Sem.run_bind,vO hb,Result.andThen_ok,if_true,jA h0,hrun]
   rfl
  ·simp only[Conc]
   refine⟨us.toArray,rfl,ConcL.mk ?_ fun j c u h1 h2 => ?_⟩
   ·simp[hus];omega
   ·have hj':j<P.cellsOf ty:=by
     have:=(List.getElem?_eq_some_iff.1 h1).1
     simp at this;omega
    obtain⟨u',hu',c',hc',hcc⟩:=hx j hj'
    rw[h1]at hc';cases hc'
    have:=hget j u (by simpa using h2)
    rw[hu']at this;cases this
    exact hcc
 ·obtain⟨u,hu,hc⟩:=hrow off v hv
  refine⟨u,?_,hc⟩
  simp only[Sem.run_bind,vO hb,Result.andThen_ok,Bool.false_eq_true,if_false]
  unfold load
  simp only[Sem.run,hu]
theorem vY {C:Ctx} {b k:Nat} {cs:List AV} (ho:aq4 C b k cs) (j:Nat) (c:AV) (hj:cs[j]? = some c):∃u,C.w.cell? ((⟨b,k,none⟩:Addr).add j)=some u/\Conc C c u:=by
 obtain⟨arr,ty,ha,hc⟩:=ho
 obtain⟨u,hu,hcu⟩:=hc j c hj
 exact⟨u,by rw[kM,World.cell?,ha];simpa using hu,hcu⟩
theorem Sz {ty:TypeId} {x:Operand} {m:Nm} {off:Nat} {cs:List AV} {agg:Bool} {v:AV} (hx:ev t x = .ptr m off) (hg:hget h m=some cs) (hb:nC P ty=some agg) (hr:Rd agg (P.cellsOf ty) cs off v) :
  Yields P n (.load ty x) t h v [] :=
 Yields.pure fun C a o ho hh ht=>by
  have h1:=aH ht x
  rw[hx]at h1
  simp only[Conc]at h1
  have h2:=h1.2.2 (hh.get hg)
  obtain⟨u,hu,hc⟩:=lh (a:=⟨C.J m,C.bs m,none⟩) hb (vY (hh.obj m cs hg)) hr
  rw[kM]at hu
  refine⟨u,?_,hc⟩
  unfold execOp
  rw[ho]
  simp only[Instr.loadAt,h2,Instr.sureAddr,Sem.run_bind,Sem.run_pure,Result.andThen_ok,hu]
theorem Ym {ty:TypeId} {x:Operand} {off:Nat} {cs:List AV} {agg:Bool} {v:AV} (hx:ev t x = .ip cs off) (hb:nC P ty=some agg) (hr:Rd agg (P.cellsOf ty) cs off v) :
  Yields P n (.load ty x) t h v [] :=
 Yields.pure fun C a o ho hh ht=>by
  have h1:=aH ht x
  rw[hx]at h1
  simp only[Conc]at h1
  obtain⟨ad,h2,_,_,hM⟩:=h1
  obtain⟨u,hu,hc⟩:=lh (a:=ad) hb (fun j c hj=>by simpa using hM.get j c hj) hr
  refine⟨u,?_,hc⟩
  unfold execOp
  rw[ho]
  simp only[Instr.loadAt,h2,Instr.sureAddr,Sem.run_bind,Sem.run_pure,Result.andThen_ok,hu]
def eH (cs:List AV) (off:Nat) (vs:List AV):List AV:=cs.take off++(vs++cs.drop (off+vs.length))
theorem aM3 {ty:TypeId} {x y:Operand} {m:Nm} {off:Nat} {cs:List AV} (hx:ev t x = .ptr m off) (hg:hget h m=some cs) (h0:0<P.cellsOf ty) (hl:(ev t y).cells.length=P.cellsOf ty) (hlen:off+P.cellsOf ty<=cs.length)
  (h1:(ev t y).cells.all AV.one=true):Yields P n (.store ty x y) t h (.sc undef) [(m,some (eH cs off (ev t y).cells))] :=
 Yields.skip fun C a o ho hh ht hn=>by
  have hp:=aH ht x
  rw[hx]at hp
  simp only[Conc]at hp
  have h2:=hp.2.2 (hh.get hg)
  obtain⟨hcL,hone⟩:=yh (aH ht y) h1
  obtain⟨arr,ty0,ha,hc⟩:=hh.obj m cs hg
  generalize hbs:C.bs m=bo at hc h2
  have hsz:bo+off+P.cellsOf ty<=arr.size:=by
   have hlast:cs[off+P.cellsOf ty-1]? = some (cs[off+P.cellsOf ty-1]'(by omega)):=List.getElem?_eq_getElem _
   obtain⟨u,hu,_⟩:=hc _ _ hlast
   have:=(Array.getElem?_eq_some_iff.1 hu).1
   omega
  have hvl:(a.eval y).cells.toList.length=P.cellsOf ty:=by rw[<-hcL.length];exact hl
  have hvl':(a.eval y).cells.size=P.cellsOf ty:=by simpa using hvl
  let arr':Array Value:=(arr.toList.take (bo+off)++(a.eval y).cells.toList++arr.toList.drop (bo+off+P.cellsOf ty)).toArray
  have hrun:=run_storeCells_at (P:=P) (C.J m) (bo+off) ty0 (a.eval y).cells.toList 0 arr C.w ha (by omega) hone
  rw[Nat.add_zero,hvl]at hrun
  refine⟨C.same n (C.w.setRow (C.J m) arr'),?_,?_⟩
  ·unfold execOp
   rw[ho]
   simp only[Instr.storeAt,h2,Instr.sureAddr,Sem.run_bind,Sem.run_pure,Result.andThen_ok,storeVar,jA h0,hvl',ne_eq,not_true_eq_false,if_false,hrun,Ctx.same]
   rfl
  ·refine Post.mod hh hg ha (setRow_heap C.w (C.J m) arr _ ty0 _ ha) ?_ (by simp) (fun k hk => ?_) (fun j c hj => ?_) (by simp only[Conc]) rfl rfl rfl
   ·simp[arr',hvl'];omega
   ·simp[World.setRow,Array.getElem?_modify,Ne.symm hk]
   ·rw[hbs]
    simp only[eH,hl]at hj
    have e1:arr'[bo+j]? = (arr.toList.take (bo+off)++(a.eval y).cells.toList++arr.toList.drop (bo+off+P.cellsOf ty))[bo+j]? := by simp[arr']
    rw[e1]
    by_cases hj1:j<off
    ·rw[List.getElem?_append_left (by simp;omega),List.getElem?_take,if_pos hj1]at hj
     obtain⟨u,hu,hcu⟩:=hc j c hj
     refine⟨u,?_,hcu⟩
     rw[List.append_assoc,List.getElem?_append_left (by simp;omega),List.getElem?_take,if_pos (by omega)]
     simpa using hu
    ·rw[List.getElem?_append_right (by simp;omega)]at hj
     simp only[List.length_take,Nat.min_eq_left (show off<=cs.length by omega)]at hj
     rw[List.append_assoc,List.getElem?_append_right (by simp;omega)]
     simp only[List.length_take,Array.length_toList,Nat.min_eq_left (show bo+off<=arr.size by omega)]
     rw[show bo+j-(bo+off)=j-off from by omega]
     by_cases hj2:j-off<P.cellsOf ty
     ·rw[List.getElem?_append_left (by omega)]at hj ⊢
      exact hcL.get _ c hj
     ·rw[List.getElem?_append_right (by omega)]at hj ⊢
      rw[hl,List.getElem?_drop]at hj
      rw[hvl,List.getElem?_drop]
      obtain⟨u,hu,hcu⟩:=hc _ c hj
      exact⟨u,by rw[Nat.add_assoc,Nat.add_assoc,<-Nat.add_assoc off];simpa using hu,hcu⟩
end
end Go.Proofs.Aw
namespace Go.Proofs.Aw
open Go
section
variable {P:Program} {n:Nat} {t:Tp} {h:Hp}
theorem mV (k:IntKind) (i:Int) (w:World):(asIntOf (.int k i)).run P w = .ok (k,i) w:=rfl
theorem tJ {ty e:TypeId} {len:Nat} (hu:P.underlying ty=some (.array len e)) (he:0<P.cellsOf e) (a:Addr) (k:IntKind) (i:Int) (h0:0<=i) (h1:i<len) (w:World) :
  (Instr.indexAt ty (.pointer (some a)) (.int k i)).run P w = .ok (.pointer (some (a.add (i.toNat*P.cellsOf e)))) w:=by
 unfold Instr.indexAt
 simp only[Sem.run_bind,mV,Result.andThen_ok,run_underlying hu,Instr.sureAddr,Sem.run_pure,jA he,h0,h1,and_self,if_true]
theorem ut {ty e:TypeId} {len cap:Nat} (hu:P.underlying ty=some (.slice e)) (he:0<P.cellsOf e) (a:Addr) (k:IntKind) (i:Int) (h0:0<=i) (h1:i<len) (w:World) :
  (Instr.indexAt ty (.slice (some a) len cap) (.int k i)).run P w = .ok (.pointer (some (a.add (i.toNat*P.cellsOf e)))) w:=by
 unfold Instr.indexAt
 simp only[Sem.run_bind,mV,Result.andThen_ok,run_underlying hu,Sem.run_pure,jA he,h0,h1,and_self,if_true]
theorem CZ {ty e:TypeId} {len:Nat} {x i:Operand} {m:Nm} {off:Nat} {k:IntKind} {j:Int} (hu:P.underlying ty=some (.array len e)) (he:0<P.cellsOf e) (hx:ev t x = .ptr m off) (hi:ev t i = .sc (.int k j))
  (hm:(hget h m).isSome=true) (h0:0<=j) (h1:j<len):Yields P n (.indexAddr ty x i) t h (.ptr m (off+j.toNat*P.cellsOf e)) [] :=
 Yields.pure fun C a o ho hh ht=>by
  have hp:=aH ht x
  have hq:=aH ht i
  rw[hx]at hp
  rw[hi]at hq
  simp only[Conc]at hp hq
  have h2:=hp.2.2 ((hh.live m).2 hm)
  refine⟨.pointer (some ⟨C.J m,C.bs m+off+j.toNat*P.cellsOf e,none⟩),?_,?_⟩
  ·unfold execOp
   rw[ho]
   simp only[h2,hq,Sem.run_bind,tJ hu he _ k j h0 h1,Result.andThen_ok,kM]
   rfl
  ·simp only[Conc]
   exact⟨⟨_,rfl⟩,hp.2.1,fun _=>by rw[Nat.add_assoc]⟩
theorem yx {ty e:TypeId} {len:Nat} {x i:Operand} {cs:List AV} {off:Nat} {k:IntKind} {j:Int} (hu:P.underlying ty=some (.array len e)) (he:0<P.cellsOf e) (hx:ev t x = .ip cs off) (hi:ev t i = .sc (.int k j))
  (h0:0<=j) (h1:j<len):Yields P n (.indexAddr ty x i) t h (.ip cs (off+j.toNat*P.cellsOf e)) [] :=
 Yields.pure fun C a o ho hh ht=>by
  have hp:=aH ht x
  have hq:=aH ht i
  rw[hx]at hp
  rw[hi]at hq
  simp only[Conc]at hp hq
  obtain⟨ad,h2,hb,hm,hc⟩:=hp
  refine⟨.pointer (some (ad.add (off+j.toNat*P.cellsOf e))),?_,?_⟩
  ·unfold execOp
   rw[ho]
   simp only[h2,hq,Sem.run_bind,tJ hu he _ k j h0 h1,Result.andThen_ok,add_add]
   rfl
  ·simp only[Conc]
   exact⟨ad,rfl,hb,hm,hc⟩
theorem Gx {ty e:TypeId} {len z:Nat} {own:Bool} {x i:Operand} {m:Nm} {off:Nat} {k:IntKind} {j:Int} (hu:P.underlying ty=some (.slice e)) (he:0<z) (hz:P.cellsOf e=z) (hx:ev t x = .sl m z off len own)
  (hi:ev t i = .sc (.int k j)) (hm:(hget h m).isSome=true) (h0:0<=j) (h1:j<len):Yields P n (.indexAddr ty x i) t h (.ptr m (off+j.toNat*z)) [] :=
 Yields.pure fun C a o ho hh ht=>by
  have hp:=aH ht x
  have hq:=aH ht i
  rw[hx]at hp
  rw[hi]at hq
  simp only[Conc]at hp hq
  obtain⟨cap,of,h2,hle,hof,_⟩:=hp.2.2 ((hh.live m).2 hm)
  have hof':of=C.bs m+off:=by
   rcases hof with h3 | h3
   ·exact h3
   ·omega
  subst hof'
  refine⟨.pointer (some ⟨C.J m,C.bs m+off+j.toNat*z,none⟩),?_,?_⟩
  ·unfold execOp
   rw[ho]
   simp only[h2,hq,Sem.run_bind,ut hu (by omega) _ k j h0 h1,Result.andThen_ok,kM,hz]
   rfl
  ·simp only[Conc]
   exact⟨⟨_,rfl⟩,hp.2.1,fun _=>by rw[Nat.add_assoc]⟩
theorem Gy {ty e:TypeId} {z:Nat} {full:Bool} {es:List (List AV)} {x i:Operand} {k:IntKind} {j:Int} {el:List AV} (hu:P.underlying ty=some (.slice e)) (he:0<z) (hz:P.cellsOf e=z) (hx:ev t x = .ro z es full)
  (hi:ev t i = .sc (.int k j)) (h0:0<=j) (h1:es[j.toNat]? = some el):Yields P n (.indexAddr ty x i) t h (.ip el 0) [] :=
 Yields.pure fun C a o ho hh ht=>by
  have hp:=aH ht x
  have hq:=aH ht i
  rw[hx]at hp
  rw[hi]at hq
  simp only[Conc]at hp hq
  obtain⟨A,cap,h2,hle,_,hne⟩:=hp
  have hlt:j.toNat<es.length:=(List.getElem?_eq_some_iff.1 h1).1
  obtain⟨ad,rfl,hb,hm,hc⟩:=hne (by intro e;rw[e]at hlt;simp at hlt)
  obtain⟨_,hM⟩:=hc.get j.toNat el h1
  rw[Nat.zero_add]at hM
  have hj:j<es.length:=by omega
  have he':0<P.cellsOf e:=by omega
  refine⟨.pointer (some (ad.add (j.toNat*z))),?_,?_⟩
  ·unfold execOp
   rw[ho]
   simp only[h2,hq,Sem.run_bind,ut hu he' _ k j h0 hj,Result.andThen_ok,hz]
   rfl
  ·simp only[Conc]
   exact⟨ad.add (j.toNat*z),by simp[Addr.add],by rw[block_add];exact hb,by rw[block_add];exact hm,hM⟩
def qY (P:Program) (ty:TypeId) (f:Nat):Option Nat:=match P.underlying ty with | some (.struct fs)=>(fs[f]?).bind fun fl=>if 0<P.cellsOf fl.type then some fl.offset else none | _=>none
theorem BN {ty:TypeId} {f o:Nat} (hf:qY P ty f=some o) (a:Addr) (w:World):(Instr.fieldAt ty (.pointer (some a)) f).run P w = .ok (.pointer (some (a.add o))) w:=by
 unfold qY at hf
 unfold Instr.fieldAt
 cases hu:P.underlying ty with
 | none=>rw[hu]at hf;cases hf
 | some d =>
  rw[hu]at hf
  cases d<;>simp only[reduceCtorEq]at hf
  obtain⟨fl,hfl,hf⟩:=Option.bind_eq_some_iff.1 hf
  by_cases hsz:0<P.cellsOf fl.type
  case neg=>rw[if_neg hsz]at hf;cases hf
  rw[if_pos hsz]at hf
  cases hf
  unfold fieldPlace
  simp only[Sem.run_bind,run_underlying hu,Result.andThen_ok,hfl,Instr.sureAddr,Sem.run_pure,jA hsz,Nat.ne_of_gt hsz,if_false]
theorem PL {ty:TypeId} {x:Operand} {f o:Nat} {m:Nm} {off:Nat} (hf:qY P ty f=some o) (hx:ev t x = .ptr m off) (hm:(hget h m).isSome=true):Yields P n (.fieldAddr ty x f) t h (.ptr m (off+o)) [] :=
 Yields.pure fun C a op ho hh ht=>by
  have hp:=aH ht x
  rw[hx]at hp
  simp only[Conc]at hp
  have h2:=hp.2.2 ((hh.live m).2 hm)
  refine⟨.pointer (some ⟨C.J m,C.bs m+off+o,none⟩),?_,?_⟩
  ·unfold execOp
   rw[ho]
   simp only[h2,Sem.run_bind,BN hf,Result.andThen_ok,kM]
   rfl
  ·simp only[Conc]
   exact⟨⟨_,rfl⟩,hp.2.1,fun _=>by rw[Nat.add_assoc]⟩
theorem Gz {ty:TypeId} {x:Operand} {f o:Nat} {cs:List AV} {off:Nat} (hf:qY P ty f=some o) (hx:ev t x = .ip cs off):Yields P n (.fieldAddr ty x f) t h (.ip cs (off+o)) [] :=
 Yields.pure fun C a op ho hh ht=>by
  have hp:=aH ht x
  rw[hx]at hp
  simp only[Conc]at hp
  obtain⟨ad,h2,hb,hm,hc⟩:=hp
  refine⟨.pointer (some (ad.add (off+o))),?_,?_⟩
  ·unfold execOp
   rw[ho]
   simp only[h2,Sem.run_bind,BN hf,Result.andThen_ok,add_add]
   rfl
  ·simp only[Conc]
   exact⟨ad,rfl,hb,hm,hc⟩
theorem Gw {x:Operand} {m:Nm} {off:Nat} (hx:ev t x = .ptr m off) (hm:(hget h m).isSome=true):Yields P n (.nilCheck x) t h (.ptr m off) [] :=
 Yields.pure fun C a op ho hh ht=>by
  have hp:=aH ht x
  rw[hx]at hp
  have h2:a.eval x = .pointer (some ⟨C.J m,C.bs m+off,none⟩):=by
   simp only[Conc]at hp
   exact hp.2.2 ((hh.live m).2 hm)
  refine⟨_,?_,hp⟩
  unfold execOp
  rw[ho]
  simp only[h2]
  rfl
theorem Hf {x:Operand} {cs:List AV} {off:Nat} (hx:ev t x = .ip cs off):Yields P n (.nilCheck x) t h (.ip cs off) [] :=
 Yields.pure fun C a op ho hh ht=>by
  have hp:=aH ht x
  rw[hx]at hp
  have hp':=hp
  simp only[Conc]at hp'
  obtain⟨ad,h2,_⟩:=hp'
  refine⟨_,?_,hp⟩
  unfold execOp
  rw[ho]
  simp only[h2]
  rfl
theorem Hg {x:Operand} {f:FuncId} {xs ys:List AV} (hx:ev t x = .fn (.func f) xs ys):Yields P n (.nilCheck x) t h (.fn (.func f) xs ys) [] :=
 Yields.pure fun C a op ho hh ht=>by
  have hp:=aH ht x
  rw[hx]at hp
  have hp':=hp
  simp only[Conc]at hp'
  obtain⟨us,vs,h2,_⟩:=hp'
  refine⟨_,?_,hp⟩
  unfold execOp
  rw[ho]
  simp only[h2]
  rfl
theorem yT {ty:TypeId} {agg:Bool} (hb:nC P ty=some agg) {C:Ctx} {cs:List AV} {us:Array Value} (hL:ConcL C cs us.toList) {off:Nat} {v:AV} (hr:Rd agg (P.cellsOf ty) cs off v):∃u,(part ty us off).run P C.w = .ok u C.w/\Conc C v u:=by
 unfold part
 rcases hr with⟨rfl,h0,hlen,rfl⟩ | ⟨rfl,hv⟩
 ·refine⟨.agg (us.extract off (off+P.cellsOf ty)),?_,?_⟩
  ·simp only[Sem.run_bind,vO hb,Result.andThen_ok,if_true,jA h0]
   rfl
  ·simp only[Conc]
   refine⟨_,rfl,?_⟩
   have:=(hL.drop off).take (P.cellsOf ty)
   have e:(us.extract off (off+P.cellsOf ty)).toList=(us.toList.drop off).take (P.cellsOf ty):=by
    rw[Array.toList_extract,List.extract_eq_take_drop]
    simp
   rw[e];exact this
 ·obtain⟨u,hu,hc⟩:=hL.get off v hv
  refine⟨u,?_,hc⟩
  have hu':us[off]? = some u:=by simpa using hu
  simp only[Sem.run_bind,vO hb,Result.andThen_ok,Bool.false_eq_true,if_false,hu']
  rfl
theorem aM5 {ty:TypeId} {x:Operand} {f:Nat} {fs:Array Field} {fl:Field} {cs:List AV} {agg:Bool} {v:AV} (hu:P.underlying ty=some (.struct fs)) (hf:fs[f]? = some fl) (hx:ev t x = .agg cs) (hb:nC P fl.type=some agg)
  (hr:Rd agg (P.cellsOf fl.type) cs fl.offset v):Yields P n (.field ty x f) t h v [] :=
 Yields.pure fun C a op ho hh ht=>by
  have hp:=aH ht x
  rw[hx]at hp
  simp only[Conc]at hp
  obtain⟨us,h2,hL⟩:=hp
  obtain⟨u,hu',hc⟩:=yT hb hL hr
  refine⟨u,?_,hc⟩
  unfold execOp
  rw[ho]
  simp only[h2,Instr.field,Sem.run_bind,run_underlying hu,Result.andThen_ok,hf,asAgg,Sem.run_pure,hu']
theorem PK {ty e:TypeId} {len:Nat} {x i:Operand} {k:IntKind} {j:Int} {cs:List AV} {agg:Bool} {v:AV} (hu:P.underlying ty=some (.array len e)) (he:0<P.cellsOf e) (hx:ev t x = .agg cs) (hi:ev t i = .sc (.int k j))
  (h0:0<=j) (h1:j<len) (hb:nC P e=some agg) (hr:Rd agg (P.cellsOf e) cs (j.toNat*P.cellsOf e) v):Yields P n (.index ty x i) t h v [] :=
 Yields.pure fun C a op ho hh ht=>by
  have hp:=aH ht x
  have hq:=aH ht i
  rw[hx]at hp
  rw[hi]at hq
  simp only[Conc]at hp hq
  obtain⟨us,h2,hL⟩:=hp
  obtain⟨u,hu',hc⟩:=yT hb hL hr
  refine⟨u,?_,hc⟩
  unfold execOp
  rw[ho]
  simp only[h2,hq,Instr.index,Sem.run_bind,mV,run_underlying hu,Result.andThen_ok,h0,h1,and_self,if_true,jA he,Sem.run_pure,hu']
theorem Yn {x:Operand} {i:Nat} {vs:List AV} {v:AV} (hx:ev t x = .tup vs) (hv:vs[i]? = some v):Yields P n (.extract x i) t h v [] :=
 Yields.pure fun C a op ho hh ht=>by
  have hp:=aH ht x
  rw[hx]at hp
  simp only[Conc]at hp
  obtain⟨us,h2,hL⟩:=hp
  obtain⟨u,hu,hc⟩:=hL.get i v hv
  have hu':us[i]? = some u:=by simpa using hu
  refine⟨u,?_,hc⟩
  unfold execOp
  rw[ho]
  simp only[h2,Instr.extract,hu']
  rfl
theorem ConcL.evs {C:Ctx} {a:Act} (ht:TOk C t a):∀(xs:List Operand),ConcL C (xs.map (ev t)) (xs.map a.eval)
 | []=>by simp only[List.map_nil,ConcL]
 | x::xs=>by
  simp only[List.map_cons,ConcL]
  exact⟨_,_,rfl,aH ht x,ConcL.evs ht xs⟩
theorem Sv {f:Fn} {xs ys:Array Operand}:Yields P n (.makeFunc f xs ys) t h (.fn f (xs.toList.map (ev t)) (ys.toList.map (ev t))) [] :=
 Yields.pure fun C a op ho hh ht=>by
  refine⟨.func f (xs.map a.eval) (ys.map a.eval),?_,?_⟩
  ·unfold execOp
   rw[ho]
   rfl
  ·simp only[Conc]
   exact⟨_,_,rfl,by simpa using ConcL.evs ht xs.toList,by simpa using ConcL.evs ht ys.toList⟩
def Bnd (d:Nat) (x:Option AV) (l:Nat):Prop:=(x=none/\l=d)\/∃k i,x=some (.sc (.int k i))/\0<=i/\l=i.toNat
theorem Bnd.val {C : Ctx} {a : Act} (ht : TOk C t a) {d l : Nat} {x : Option Operand} (hb : Bnd d (x.map (ev t)) l) : (x.map a.eval = none /\ l = d) \/ ∃ k i, x.map a.eval = some (.int k i) /\ 0 <= i /\ l = i.toNat := by
  cases x with
  | none => rcases hb with ⟨_, h2⟩ | ⟨k, i, h1, _⟩
            · exact .inl ⟨rfl, h2⟩
            · cases h1
  | some x =>
    rcases hb with ⟨h1, _⟩ | ⟨k, i, h1, h2, h3⟩
    · cases h1
    · simp only [Option.map_some, Option.some.injEq] at h1
      have := aH ht x
      rw [h1] at this
      simp only [Conc] at this
      exact .inr ⟨k, i, by simp [this], h2, h3⟩
theorem run_sliceBound (k:IntKind) (i:Int) (y:Nat) (code:BoundsCode) (h0:0<=i) (h1:i.toNat<=y) (w:World):(Instr.sliceBound (.int k i) y code).run P w = .ok i.toNat w:=by
 unfold Instr.sliceBound
 have:i<=(y:Int):=by omega
 simp only[Sem.run_bind,mV,Result.andThen_ok,h0,this,and_self,if_true,Sem.run_pure]
theorem iY (isS:Bool) (len cap l hh:Nat) (lo hi:Option Value) (hlo:(lo=none/\l=0)\/∃k i,lo=some (.int k i)/\0<=i/\l=i.toNat) (hhi:(hi=none/\hh=len)\/∃k i,hi=some (.int k i)/\0<=i/\hh=i.toNat)
  (h1:l<=hh) (h2:hh<=cap) (w:World):(Instr.sliceBounds isS len cap lo hi none).run P w = .ok (l,hh,cap) w:=by
 unfold Instr.sliceBounds
 rcases hhi with⟨rfl,rfl⟩ | ⟨k,i,rfl,hi0,rfl⟩<;>rcases hlo with⟨rfl,rfl⟩ | ⟨k',i',rfl,hi0',rfl⟩
 ·simp only[Sem.run_bind,Sem.run_pure,Result.andThen_ok]
 ·simp only[Sem.run_bind,Sem.run_pure,Result.andThen_ok,run_sliceBound k' i' _ _ hi0' h1]
 ·simp only[Sem.run_bind,Sem.run_pure,Result.andThen_ok,run_sliceBound k i _ _ hi0 h2]
 ·simp only[Sem.run_bind,Sem.run_pure,Result.andThen_ok,run_sliceBound k i _ _ hi0 h2,run_sliceBound k' i' _ _ hi0' h1]
theorem qL (isS:Bool) (len cap l hh m:Nat) (lo hi mx:Option Value) (hlo:(lo=none/\l=0)\/∃k i,lo=some (.int k i)/\0<=i/\l=i.toNat) (hhi:∃k i,hi=some (.int k i)/\0<=i/\hh=i.toNat)
  (hmx:∃k i,mx=some (.int k i)/\0<=i/\m=i.toNat) (h1:l<=hh) (h2:hh<=m) (h3:m<=cap) (w:World):(Instr.sliceBounds isS len cap lo hi mx).run P w = .ok (l,hh,m) w:=by
 unfold Instr.sliceBounds
 obtain⟨k,i,rfl,hi0,rfl⟩:=hhi
 obtain⟨k1,i1,rfl,hi1,rfl⟩:=hmx
 rcases hlo with⟨rfl,rfl⟩ | ⟨k',i',rfl,hi0',rfl⟩
 ·simp only[Sem.run_bind,Sem.run_pure,Result.andThen_ok,run_sliceBound k i _ _ hi0 h2,run_sliceBound k1 i1 _ _ hi1 h3]
 ·simp only[Sem.run_bind,Sem.run_pure,Result.andThen_ok,run_sliceBound k i _ _ hi0 h2,run_sliceBound k1 i1 _ _ hi1 h3,run_sliceBound k' i' _ _ hi0' h1]
theorem ConcE.cut {C:Ctx} {a:Addr} {z:Nat} {es:List (List AV)} (hE:ConcE C a z 0 es) (l hh:Nat):ConcE C (a.add (l*z)) z 0 ((es.take hh).drop l) :=
 ConcE.mk fun j e hj=>by
  rw[List.getElem?_drop,List.getElem?_take]at hj
  split at hj
  ·obtain⟨h1,h2⟩:=hE.get (l+j) e hj
   refine⟨h1,?_⟩
   rw[add_add,Nat.zero_add,<-Nat.add_mul]
   simpa using h2
  ·cases hj
theorem O9 {C:Ctx} {z:Nat} {es:List (List AV)} {A:Option Addr} {cap l hh m:Nat} {full:Bool} (h1:l<=hh) (h2:hh<=es.length) (hm:hh<=m) (hf:full=true->m=hh)
  (hne:es≠[]->∃a,A=some a/\a.block<C.w.heap.size/\¬C.mt a.block/\ConcE C a z 0 es) (hcap:cap=m-l) (A':Option Addr) (hA:A'=if m=l then A else A.map (·.add (l*z))) :
  Conc C (.ro z ((es.take hh).drop l) full) (.slice A' (hh-l) cap):=by
 have hlen:((es.take hh).drop l).length=hh-l:=by simp[Nat.min_eq_left h2]
 simp only[Conc]
 refine⟨A',cap,by rw[hlen],by rw[hlen];omega,fun hfu=>by rw[hlen,hcap,hf hfu],fun hn => ?_⟩
 have hlt:l<hh:=by
  rcases Nat.lt_or_ge l hh with h3 | h3
  ·exact h3
  ·exfalso;apply hn;apply List.length_eq_zero_iff.1;rw[hlen];omega
 obtain⟨a,rfl,hb,hm',hE⟩:=hne (by intro e;rw[e]at h2;simp at h2;omega)
 refine⟨a.add (l*z),by rw[hA,if_neg (by omega)];rfl,by rw[block_add];exact hb,by rw[block_add];exact hm',hE.cut l hh⟩
theorem kZ {ty e:TypeId} (hu:P.underlying ty=some (.slice e)) {z:Nat} (hz:P.cellsOf e=z) (h0:0<z) (A:Option Addr) (len cap l hh m:Nat) (lo hi mx:Option Value)
  (hb:∀w,(Instr.sliceBounds true len cap lo hi mx).run P w = .ok (l,hh,m) w) (w:World) :
  (Instr.sliceAt ty (.slice A len cap) lo hi mx).run P w = .ok (.slice (if m=l then A else A.map (·.add (l*z))) (hh-l) (m-l)) w:=by
 unfold Instr.sliceAt
 simp only[Sem.run_bind,run_underlying hu,Result.andThen_ok,Instr.slice,hb,jA (show 0<P.cellsOf e by omega),hz,Sem.run_pure]
theorem Sl {ty e:TypeId} {x:Operand} {lo hi:Option Operand} {z l hh:Nat} {es:List (List AV)} {full:Bool} (hu:P.underlying ty=some (.slice e)) (hz:P.cellsOf e=z) (h0:0<z) (hx:ev t x = .ro z es full)
  (hlo:Bnd 0 (lo.map (ev t)) l) (hhi:Bnd es.length (hi.map (ev t)) hh) (h1:l<=hh) (h2:hh<=es.length):Yields P n (.slice ty x lo hi none) t h (.ro z ((es.take hh).drop l) (full&&hh==es.length)) [] :=
 Yields.pure fun C a op ho hok ht=>by
  have hp:=aH ht x
  rw[hx]at hp
  simp only[Conc]at hp
  obtain⟨A,cap,hv,hle,hf,hne⟩:=hp
  refine⟨_,?_,O9 (m:=cap) h1 h2 (by omega) (fun hfu => ?_) hne rfl _ rfl⟩
  ·unfold execOp
   rw[ho]
   simp only[hv,Option.map_none,Sem.run_bind,kZ hu hz h0 A _ cap l hh cap _ _ _ (iY true es.length cap l hh _ _ (hlo.val ht) (hhi.val ht) h1 (by omega)),Result.andThen_ok]
   rfl
  ·simp only[Bool.and_eq_true,beq_iff_eq]at hfu
   rw[hf hfu.1,hfu.2]
theorem PE {ty e:TypeId} {x:Operand} {lo hi:Option Operand} {z:Nat} (hu:P.underlying ty=some (.slice e)) (hz:P.cellsOf e=z) (h0:0<z) (hx:ev t x = .sc (.slice none 0 0))
  (hlo:Bnd 0 (lo.map (ev t)) 0) (hhi:Bnd 0 (hi.map (ev t)) 0):Yields P n (.slice ty x lo hi none) t h (.sc (.slice none 0 0)) [] :=
 Yields.pure fun C a op ho hok ht=>by
  have hp:=aH ht x
  rw[hx]at hp
  simp only[Conc]at hp
  refine⟨.slice none 0 0,?_,by simp only[Conc]⟩
  unfold execOp
  rw[ho]
  simp only[hp,Option.map_none,Sem.run_bind,kZ hu hz h0 none 0 0 0 0 0 _ _ _ (iY true 0 0 0 0 _ _ (hlo.val ht) (hhi.val ht) (Nat.le_refl _) (Nat.le_refl _)),Result.andThen_ok]
  rfl
theorem PD {ty e:TypeId} {x mx hi:Operand} {lo:Option Operand} {z l hh m:Nat} {es:List (List AV)} {full:Bool} (hu:P.underlying ty=some (.slice e)) (hz:P.cellsOf e=z) (h0:0<z) (hx:ev t x = .ro z es full)
  (hlo:Bnd 0 (lo.map (ev t)) l) (hhi:Bnd 0 ((some hi).map (ev t)) hh) (hmx:Bnd 0 ((some mx).map (ev t)) m) (h1:l<=hh) (h2:hh<=m) (h3:m<=es.length):Yields P n (.slice ty x lo (some hi) (some mx)) t h (.ro z ((es.take hh).drop l) (m==hh)) [] :=
 Yields.pure fun C a op ho hok ht=>by
  have hp:=aH ht x
  rw[hx]at hp
  simp only[Conc]at hp
  obtain⟨A,cap,hv,hle,hf,hne⟩:=hp
  have b1:∃k i,(some hi).map a.eval=some (.int k i)/\0<=i/\hh=i.toNat:=by
   rcases hhi.val ht with⟨h,_⟩ | h
   ·cases h
   ·exact h
  have b2:∃k i,(some mx).map a.eval=some (.int k i)/\0<=i/\m=i.toNat:=by
   rcases hmx.val ht with⟨h,_⟩ | h
   ·cases h
   ·exact h
  refine⟨_,?_,O9 (m:=m) h1 (by omega) h2 (fun hfu=>by simpa using hfu) hne rfl _ rfl⟩
  unfold execOp
  rw[ho]
  simp only[hv,Sem.run_bind,kZ hu hz h0 A _ cap l hh m _ _ _ (qL true es.length cap l hh m _ _ _ (hlo.val ht) b1 b2 h1 h2 (by omega)),Result.andThen_ok]
  rfl
theorem Su {ty e:TypeId} {x mx hi:Operand} {lo:Option Operand} {z l off len:Nat} {own:Bool} {mm:Nm} (hu:P.underlying ty=some (.slice e)) (hz:P.cellsOf e=z) (h0:0<z) (hx:ev t x = .sl mm z off len own) (hm:(hget h mm).isSome=true)
  (hlo:Bnd 0 (lo.map (ev t)) l) (hhi:Bnd 0 ((some hi).map (ev t)) l) (hmx:Bnd 0 ((some mx).map (ev t)) l) (h3:l<=len):Yields P n (.slice ty x lo (some hi) (some mx)) t h (.ro z [] true) [] :=
 Yields.pure fun C a op ho hok ht=>by
  have hp:=aH ht x
  rw[hx]at hp
  simp only[Conc]at hp
  obtain⟨_,_,hp⟩:=hp
  obtain⟨cap,o,hv,hle,_,_⟩:=hp ((hok.live mm).2 hm)
  have b1:∃k i,(some hi).map a.eval=some (.int k i)/\0<=i/\l=i.toNat:=by
   rcases hhi.val ht with⟨h,_⟩ | h
   ·cases h
   ·exact h
  have b2:∃k i,(some mx).map a.eval=some (.int k i)/\0<=i/\l=i.toNat:=by
   rcases hmx.val ht with⟨h,_⟩ | h
   ·cases h
   ·exact h
  refine⟨.slice (if l=l then some ⟨C.J mm,o,none⟩else(some ⟨C.J mm,o,none⟩:Option Addr).map (·.add (l*z))) (l-l) (l-l),?_,?_⟩
  ·unfold execOp
   rw[ho]
   simp only[hv,Sem.run_bind,kZ hu hz h0 _ len cap l l l _ _ _ (qL true len cap l l l _ _ _ (hlo.val ht) b1 b2 (Nat.le_refl _) (Nat.le_refl _) (by omega)),Result.andThen_ok]
   rfl
  ·simp only[Conc,Nat.sub_self]
   exact⟨_,0,rfl,Nat.le_refl _,fun _=>rfl,fun h=>absurd rfl h⟩
theorem Sj {ty e:TypeId} {x:Operand} {lo hi:Option Operand} {z l hh off len:Nat} {own:Bool} {m:Nm} (hu:P.underlying ty=some (.slice e)) (hz:P.cellsOf e=z) (h0:0<z) (hx:ev t x = .sl m z off len own) (hm:(hget h m).isSome=true)
  (hlo:Bnd 0 (lo.map (ev t)) l) (hhi:Bnd len (hi.map (ev t)) hh) (h1:l<=hh) (h2:hh<=len):Yields P n (.slice ty x lo hi none) t h (.sl m z (off+l*z) (hh-l) own) [] :=
 Yields.pure fun C a op ho hok ht=>by
  have hp:=aH ht x
  rw[hx]at hp
  simp only[Conc]at hp
  obtain⟨_,hk,hp⟩:=hp
  obtain⟨cap,o,hv,hle,hof,hown⟩:=hp ((hok.live m).2 hm)
  refine⟨.slice (if cap=l then some ⟨C.J m,o,none⟩else some ⟨C.J m,o+l*z,none⟩) (hh-l) (cap-l),?_,?_⟩
  ·unfold execOp
   rw[ho]
   simp only[hv,Option.map_none,Sem.run_bind,kZ hu hz h0 _ len cap l hh cap _ _ _ (iY true len cap l hh _ _ (hlo.val ht) (hhi.val ht) h1 (by omega)),Result.andThen_ok,Option.map_some,kM]
   rfl
  ·simp only[Conc]
   refine⟨⟨_,_,_,rfl⟩,hk,fun _ => ?_⟩
   by_cases hc:cap=l
   ·refine⟨cap-l,o,by rw[if_pos hc],by omega,.inr (by omega),fun ho' => ?_⟩
    obtain⟨cs,ty',h4,h5⟩:=hown ho'
    refine⟨cs,ty',h4,?_⟩
    have e1:cap-l=0:=by omega
    rw[e1,Nat.zero_mul,Nat.add_zero,<-hc,<-Nat.add_assoc]
    exact h5
   ·refine⟨cap-l,o+l*z,by rw[if_neg hc],by omega,?_,fun ho' => ?_⟩
    ·rcases hof with h3 | h3
     ·exact .inl (by rw[h3,Nat.add_assoc])
     ·exact .inr (by omega)
    ·obtain⟨cs,ty',h4,h5⟩:=hown ho'
     refine⟨cs,ty',h4,?_⟩
     have e1:l*z+(cap-l)*z=cap*z:=by rw[<-Nat.add_mul];congr 1;omega
     omega
theorem GU {ty e:TypeId} {len:Nat} (hu:P.underlying ty=some (.array len e)) {z:Nat} (hz:P.cellsOf e=z) (h0:0<z) (a:Addr) (l hh m:Nat) (lo hi mx:Option Value)
  (hb:∀w,(Instr.sliceBounds false len len lo hi mx).run P w = .ok (l,hh,m) w) (w:World) :
  (Instr.sliceAt ty (.pointer (some a)) lo hi mx).run P w = .ok (.slice (some (if m=l then a else a.add (l*z))) (hh-l) (m-l)) w:=by
 unfold Instr.sliceAt
 simp only[Sem.run_bind,run_underlying hu,Result.andThen_ok,Instr.sureAddr,hb,jA (show 0<P.cellsOf e by omega),hz,Sem.run_pure]
theorem PG {ty e:TypeId} {x:Operand} {lo hi:Option Operand} {z l hh off len:Nat} {m:Nm} (hu:P.underlying ty=some (.array len e)) (hz:P.cellsOf e=z) (h0:0<z) (hx:ev t x = .ptr m off) (hm:(hget h m).isSome=true)
  (hlo:Bnd 0 (lo.map (ev t)) l) (hhi:Bnd len (hi.map (ev t)) hh) (h1:l<=hh) (h2:hh<=len):Yields P n (.slice ty x lo hi none) t h (.sl m z (off+l*z) (hh-l) false) [] :=
 Yields.pure fun C a op ho hok ht=>by
  have hp:=aH ht x
  rw[hx]at hp
  simp only[Conc]at hp
  obtain⟨_,hk,hp⟩:=hp
  have hv:=hp ((hok.live m).2 hm)
  refine⟨.slice (some (if len=l then⟨C.J m,C.bs m+off,none⟩else⟨C.J m,C.bs m+off+l*z,none⟩)) (hh-l) (len-l),?_,?_⟩
  ·unfold execOp
   rw[ho]
   simp only[hv,Option.map_none,Sem.run_bind,GU hu hz h0 _ l hh len _ _ _ (iY false len len l hh _ _ (hlo.val ht) (hhi.val ht) h1 h2),Result.andThen_ok,kM]
   rfl
  ·simp only[Conc]
   refine⟨⟨_,_,_,rfl⟩,hk,fun _ => ?_⟩
   by_cases hc:len=l
   ·exact⟨len-l,C.bs m+off,by rw[if_pos hc],by omega,.inr (by omega),fun ho'=>by cases ho'⟩
   ·exact⟨len-l,C.bs m+off+l*z,by rw[if_neg hc],by omega,.inl (Nat.add_assoc _ _ _),fun ho'=>by cases ho'⟩
theorem Pz {ty:TypeId} {x:Operand} {lo hi:Option Operand} {l hh:Nat} {s:ByteArray} (hu:P.underlying ty=some .string) (hx:ev t x = .sc (.string s))
  (hlo:Bnd 0 (lo.map (ev t)) l) (hhi:Bnd s.size (hi.map (ev t)) hh) (h1:l<=hh) (h2:hh<=s.size):Yields P n (.slice ty x lo hi none) t h (.sc (.string (s.extract l hh))) [] :=
 Yields.pure fun C a op ho hok ht=>by
  have hp:=aH ht x
  rw[hx]at hp
  simp only[Conc]at hp
  refine⟨.string (s.extract l hh),?_,by simp only[Conc]⟩
  unfold execOp
  rw[ho]
  simp only[hp,Option.map_none,Sem.run_bind,Instr.sliceAt,Instr.slice,run_underlying hu,Result.andThen_ok,Option.isSome_none,Bool.false_eq_true,if_false,Sem.run_pure,iY false s.size s.size l hh _ _ (hlo.val ht) (hhi.val ht) h1 h2]
end
end Go.Proofs.Aw
namespace Go.Proofs.Aw
open Go
def aJ:List Nat->List AV->List AV->Option Bool
 | [],[],[]=>some true
 | k::ks,a::as,b::bs =>
  match k,a,b with
  | 0,.sc (.bool x),.sc (.bool y)=>(aJ ks as bs).map fun r=>(x==y)&&r
  | 1,.sc (.int i x),.sc (.int j y)=>if i=j then(aJ ks as bs).map fun r=>(x==y)&&r else none
  | 2,.sc (.string x),.sc (.string y)=>(aJ ks as bs).map fun r=>(x.toList==y.toList)&&r
  | _,_,_=>none
 | _,_,_=>none
def Ve:Nat->AV->AV->Option Bool
 | 0,.sc (.bool x),.sc (.bool y)=>some (x==y)
 | 1,.sc (.int i x),.sc (.int j y)=>if i=j then some (x==y)else none
 | 2,.sc (.string x),.sc (.string y)=>some (x.toList==y.toList)
 | _,_,_=>none
theorem FU {k:Nat} {ks:List Nat} {a b:AV} {as bs:List AV} {r:Bool} (h:aJ (k::ks) (a::as) (b::bs)=some r):∃x y,Ve k a b=some x/\aJ ks as bs=some y/\r=(x&&y):=by
 simp only[aJ]at h
 split at h
 ·obtain⟨y,hy,rfl⟩:=Option.map_eq_some_iff.1 h
  exact⟨_,y,rfl,hy,rfl⟩
 ·split at h
  ·rename_i hij
   obtain⟨y,hy,rfl⟩:=Option.map_eq_some_iff.1 h
   exact⟨_,y,by simp only[Ve,hij,if_true],hy,rfl⟩
  ·cases h
 ·obtain⟨y,hy,rfl⟩:=Option.map_eq_some_iff.1 h
  exact⟨_,y,rfl,hy,rfl⟩
 ·cases h
theorem pq:∀{ks:List Nat} {xs ys:List AV} {r:Bool},aJ ks xs ys=some r->xs.length=ks.length/\ys.length=ks.length
 | [],[],[],_,_=>⟨rfl,rfl⟩
 | [],[],_::_,_,h=>by simp[aJ]at h
 | [],_::_,_,_,h=>by simp[aJ]at h
 | _::_,[],_,_,h=>by simp[aJ]at h
 | _::_,_::_,[],_,h=>by simp[aJ]at h
 | k::ks,a::as,b::bs,r,h=>by
  obtain⟨x,y,_,h2,_⟩:=FU h
  have:=pq h2
  simp[this]
theorem xX:∀{ks ls:List Nat} {xs ys:List AV} {r:Bool},aJ (ks++ls) xs ys=some r ->
  ∃b1 b2,aJ ks (xs.take ks.length) (ys.take ks.length)=some b1/\aJ ls (xs.drop ks.length) (ys.drop ks.length)=some b2/\r=(b1&&b2)
 | [],ls,xs,ys,r,h=>⟨true,r,by simp[aJ],by simpa using h,by simp⟩
 | k::ks,ls,[],ys,r,h=>by simp[aJ]at h
 | k::ks,ls,_::_,[],r,h=>by simp[aJ]at h
 | k::ks,ls,x::xs,y::ys,r,h=>by
  simp only[List.cons_append]at h
  obtain⟨c,s,h1,h2,rfl⟩:=FU h
  obtain⟨b1,b2,e1,e2,rfl⟩:=xX h2
  refine⟨c&&b1,b2,?_,by simpa using e2,by rw[Bool.and_assoc]⟩
  simp only[List.length_cons,List.take_succ_cons,aJ]
  unfold Ve at h1
  split at h1
  ·cases h1;simp[e1]
  ·split at h1
   ·rename_i hij;cases h1;simp[e1,hij]
   ·cases h1
  ·cases h1;simp[e1]
  ·cases h1
def zt (P:Program) (p:TypeId->Option (List Nat)):Nat->List Field->Option (List Nat)
 | _,[]=>some []
 | off,f::fs =>
  if f.name ≠ "_" /\ f.offset = off /\ 0 < P.cellsOf f.type then
   (p f.type).bind fun l=>(zt P p (off+P.cellsOf f.type) fs).map fun r=>l++r
  else none
def rep:Nat->List Nat->List Nat
 | 0,_=>[]
 | n+1,l=>l++rep n l
def leaves (P:Program):Nat->TypeId->Option (List Nat)
 | 0,_=>none
 | d+1,t =>
  let r:=match P.underlying t with
   | some .bool=>some [0]
   | some (.int _)=>some [1]
   | some .string=>some [2]
   | some (.struct fs)=>if P.stoodInHeld t then none else zt P (leaves P d) 0 fs.toList
   | some (.array n e)=>if 0<P.cellsOf e then(leaves P d e).map (rep n)else none
   | _=>none
  r.bind fun l=>if l.length=P.cellsOf t then some l else none
theorem ku {P:Program} {d:Nat} {t:TypeId} {l:List Nat} (h:leaves P d t=some l):l.length=P.cellsOf t:=by
 cases d with
 | zero=>simp[leaves]at h
 | succ d =>
  simp only[leaves]at h
  obtain⟨r,_,hr⟩:=Option.bind_eq_some_iff.1 h
  split at hr
  ·cases hr;assumption
  ·cases hr
def mkv (agg:Bool) (cs:List AV):AV:=if agg=true then .agg cs else cs.headD .top
theorem QO {P:Program} {d:Nat} {t:TypeId} {l:List Nat} (h:leaves P d t=some l):∃b,nC P t=some b/\(b=false->P.cellsOf t=1):=by
 have hlen:=ku h
 cases d with
 | zero=>simp[leaves]at h
 | succ d =>
  simp only[leaves]at h
  obtain⟨r,hr,hr2⟩:=Option.bind_eq_some_iff.1 h
  have e:r=l:=by
   split at hr2
   ·cases hr2;rfl
   ·cases hr2
  subst e
  unfold nC
  cases hu:P.underlying t with
  | none=>rw[hu]at hr;cases hr
  | some ds =>
   rw[hu]at hr
   cases ds<;>simp only[reduceCtorEq]at hr<;>first
    | exact⟨true,rfl,fun h=>by cases h⟩
    | (cases hr;exact⟨false,rfl,fun _=>by simpa using hlen.symm⟩)
theorem pW {P:Program} {C:Ctx} {d:Nat} {t:TypeId} {l:List Nat} (hp:leaves P d t=some l) (h0:0<P.cellsOf t) {cs:List AV} {us:Array Value} (hL:ConcL C cs us.toList) {off:Nat} (hlen:off+P.cellsOf t<=cs.length) :
  ∃b u,nC P t=some b/\(part t us off).run P C.w = .ok u C.w/\Conc C (mkv b ((cs.drop off).take (P.cellsOf t))) u:=by
 obtain⟨b,hb,hb1⟩:=QO hp
 cases b with
 | true =>
  obtain⟨u,hu,hc⟩:=yT hb hL (.inl ⟨rfl,h0,hlen,rfl⟩)
  exact⟨true,u,hb,hu,hc⟩
 | false =>
  have e:=hb1 rfl
  have hv:cs[off]? = some (cs[off]'(by omega)):=List.getElem?_eq_getElem _
  obtain⟨u,hu,hc⟩:=yT hb hL (.inr ⟨rfl,hv⟩)
  refine⟨false,u,hb,hu,?_⟩
  rw[e]
  have e2:mkv false ((cs.drop off).take 1)=cs[off]'(by omega):=by
   rw[List.drop_eq_getElem_cons (by omega)]
   rfl
  rw[e2];exact hc
def Hl (P:Program) (C:Ctx) (D:Nat) (t:TypeId) (l:List Nat):Prop :=
 ∀(xs ys:List AV) (b ag:Bool) (u v:Value),nC P t=some ag->aJ l xs ys=some b->Conc C (mkv ag xs) u->Conc C (mkv ag ys) v->(Op.equalIn D t u v).run P C.w = .ok b C.w
theorem run_eqFields_plain {P:Program} {C:Ctx} {d D:Nat} (ih:∀t l,leaves P d t=some l->Hl P C D t l) {xs ys:List AV} {us vs:Array Value} (hx:ConcL C xs us.toList) (hy:ConcL C ys vs.toList) :
  ∀(fs:List Field) (off:Nat) (l:List Nat) (b:Bool),zt P (leaves P d) off fs=some l->off+l.length=xs.length->off+l.length=ys.length->aJ l (xs.drop off) (ys.drop off)=some b->(Op.eqFields D us vs fs).run P C.w = .ok b C.w
 | [],off,l,b,hl,_,_,he=>by
  simp only[zt,Option.some.injEq]at hl
  subst hl
  have:=pq he
  simp only[List.length_nil,List.length_eq_zero_iff]at this
  rw[this.1,this.2]at he
  simp[aJ]at he
  subst he
  rfl
 | f::fs,off,l,b,hl,h1,h2,he=>by
  simp only[zt]at hl
  split at hl
  ·rename_i hf
   obtain⟨hn,rfl,h0⟩:=hf
   obtain⟨l1,hl1,hl2⟩:=Option.bind_eq_some_iff.1 hl
   obtain⟨l2,hl3,rfl⟩:=Option.map_eq_some_iff.1 hl2
   have hz:=ku hl1
   simp only[List.length_append]at h1 h2
   obtain⟨b1,b2,e1,e2,rfl⟩:=xX he
   rw[hz]at e1 e2
   rw[List.drop_drop,List.drop_drop]at e2
   obtain⟨ag,u,hag,hu,hcu⟩:=pW (P:=P) hl1 h0 hx (off:=f.offset) (by omega)
   obtain⟨ag',v,hag',hv,hcv⟩:=pW (P:=P) hl1 h0 hy (off:=f.offset) (by omega)
   rw[hag]at hag';cases hag'
   have hr:=ih f.type l1 hl1 _ _ b1 ag u v hag e1 hcu hcv
   simp only[Op.eqFields,hn,ne_eq,not_false_eq_true,if_true,Sem.run_bind,hu,hv,Result.andThen_ok,hr]
   cases b1 with
   | false=>simp
   | true =>
    simp only[Bool.not_true,Bool.false_eq_true,if_false,Bool.true_and]
    exact run_eqFields_plain ih hx hy fs _ l2 b2 hl3 (by omega) (by omega) e2
  ·cases hl
theorem tK {P:Program} {C:Ctx} {D:Nat} {e:TypeId} {le:List Nat} {d:Nat} (hle:leaves P d e=some le) (ih:Hl P C D e le) (h0:0<P.cellsOf e) {xs ys:List AV} {us vs:Array Value} (hx:ConcL C xs us.toList) (hy:ConcL C ys vs.toList) :
  ∀(n i:Nat) (b:Bool),(i+n)*P.cellsOf e=xs.length->(i+n)*P.cellsOf e=ys.length->aJ (rep n le) (xs.drop (i*P.cellsOf e)) (ys.drop (i*P.cellsOf e))=some b ->
   ((forIn (List.range' i n) ((none,()):Option Bool×Unit) fun i (_:Option Bool×Unit)=>(do
     let x <-part e us (i*P.cellsOf e)
     let y <-part e vs (i*P.cellsOf e)
     let r <-Op.equalIn D e x y
     if(!r)=true then pure (ForInStep.done (some false,()))else pure (ForInStep.yield (none,())):Sem (ForInStep (Option Bool×Unit)))):Sem (Option Bool×Unit)).run P C.w = .ok (if b then none else some false,()) C.w
 | 0,i,b,_,_,he=>by
  have:=pq he
  simp only[rep,List.length_nil,List.length_eq_zero_iff]at this
  rw[this.1,this.2]at he
  simp[aJ,rep]at he
  subst he
  rfl
 | n+1,i,b,h1,h2,he=>by
  have hz:=ku hle
  simp only[rep]at he
  obtain⟨b1,b2,e1,e2,rfl⟩:=xX he
  rw[hz]at e1 e2
  rw[List.drop_drop,List.drop_drop,show i*P.cellsOf e+P.cellsOf e=(i+1)*P.cellsOf e from by rw[Nat.add_mul];omega]at e2
  have hle1:i*P.cellsOf e+P.cellsOf e<=xs.length:=by
   rw[<-h1,<-Nat.succ_mul];exact Nat.mul_le_mul_right _ (by omega)
  have hle2:i*P.cellsOf e+P.cellsOf e<=ys.length:=by
   rw[<-h2,<-Nat.succ_mul];exact Nat.mul_le_mul_right _ (by omega)
  obtain⟨ag,u,hag,hu,hcu⟩:=pW (P:=P) hle h0 hx (off:=i*P.cellsOf e) hle1
  obtain⟨ag',v,hag',hv,hcv⟩:=pW (P:=P) hle h0 hy (off:=i*P.cellsOf e) hle2
  rw[hag]at hag';cases hag'
  have hr:=ih _ _ b1 ag u v hag e1 hcu hcv
  simp only[List.range'_succ,List.forIn_cons,Sem.run_bind,hu,hv,Result.andThen_ok,hr]
  cases b1 with
  | false=>simp
  | true =>
   simp only[Bool.not_true,Bool.false_eq_true,if_false,Bool.true_and,Sem.run_pure,Result.andThen_ok]
   exact tK hle ih h0 hx hy n (i+1) b2 (by rw[<-h1];congr 1;omega) (by rw[<-h2];congr 1;omega) e2
theorem oq {C:Ctx} {xs:List AV} {u:Value} (h:Conc C (mkv true xs) u):∃us:Array Value,u = .agg us/\ConcL C xs us.toList:=by
 simpa only[mkv,if_true,Conc]using h
theorem b24 {a b:AV} {x:Bool} (h:Ve 0 a b=some x):∃p q,a = .sc (.bool p)/\b = .sc (.bool q)/\x=(p==q):=by
 unfold Ve at h
 split at h<;>first
  | contradiction
  | exact⟨_,_,rfl,rfl,by simpa using h.symm⟩
theorem b23 {a b:AV} {x:Bool} (h:Ve 1 a b=some x):∃k p q,a = .sc (.int k p)/\b = .sc (.int k q)/\x=(p==q):=by
  unfold Ve at h
  split at h<;>first
    | contradiction
    | (split at h
       · rename_i hij;subst hij;exact⟨_,_,_,rfl,rfl,by simpa using h.symm⟩
       · cases h)
theorem b21 {a b:AV} {x:Bool} (h:Ve 2 a b=some x):∃p q,a = .sc (.string p)/\b = .sc (.string q)/\x=(p.toList==q.toList):=by
 unfold Ve at h
 split at h<;>first
  | contradiction
  | exact⟨_,_,rfl,rfl,by simpa using h.symm⟩
theorem Lh {k:Nat} {xs ys:List AV} {b:Bool} (h:aJ [k] xs ys=some b):∃x y,xs=[x]/\ys=[y]/\Ve k x y=some b:=by
 obtain⟨h1,h2⟩:=pq h
 match xs,h1,ys,h2 with
 | [x],_,[y],_ =>
  obtain⟨c,s,h3,h4,rfl⟩:=FU h
  simp[aJ]at h4;subst h4
  exact⟨x,y,rfl,rfl,by simpa using h3⟩
theorem bk8 {P:Program} {C:Ctx}:∀(d D:Nat) (t:TypeId) (l:List Nat),d<=D->leaves P d t=some l->Hl P C D t l
 | 0,_,_,_,_,h=>by simp[leaves]at h
 | d+1,0,_,_,hd,_=>by omega
 | d+1,D+1,t,l,hd,h=>by
  have hlen:=ku h
  simp only[leaves]at h
  obtain⟨r,hr,hr2⟩:=Option.bind_eq_some_iff.1 h
  have e:r=l:=by
   split at hr2
   ·cases hr2;rfl
   ·cases hr2
  subst e
  clear hr2 h
  intro xs ys b ag u v hag he hu hv
  obtain⟨hx,hy⟩:=pq he
  cases hut:P.underlying t with
  | none=>rw[hut]at hr;cases hr
  | some ds =>
   rw[hut]at hr
   unfold nC at hag
   rw[hut]at hag
   cases ds<;>simp only[reduceCtorEq]at hr<;>simp only[Option.some.injEq]at hag<;>subst hag
   case bool =>
    cases hr
    obtain⟨x,y,rfl,rfl,h1⟩:=Lh he
    obtain⟨p,q,rfl,rfl,rfl⟩:=b24 h1
    simp only[mkv,Bool.false_eq_true,if_false,List.headD_cons,Conc]at hu hv
    subst hu;subst hv
    exact run_equalIn_bool' _ _ _ _ _ hut
   case int k =>
    cases hr
    obtain⟨x,y,rfl,rfl,h1⟩:=Lh he
    obtain⟨k',p,q,rfl,rfl,rfl⟩:=b23 h1
    simp only[mkv,Bool.false_eq_true,if_false,List.headD_cons,Conc]at hu hv
    subst hu;subst hv
    exact run_equalIn_int _ _ _ _ _ _ _ hut
   case string =>
    cases hr
    obtain⟨x,y,rfl,rfl,h1⟩:=Lh he
    obtain⟨p,q,rfl,rfl,rfl⟩:=b21 h1
    simp only[mkv,Bool.false_eq_true,if_false,List.headD_cons,Conc]at hu hv
    subst hu;subst hv
    exact run_equalIn_string _ _ _ _ _ hut
   case array n e =>
    split at hr
    ·rename_i h0
     obtain⟨le,hle,rfl⟩:=Option.map_eq_some_iff.1 hr
     obtain⟨us,rfl,hus⟩:=oq hu
     obtain⟨vs,rfl,hvs⟩:=oq hv
     have hz:=ku hle
     have hrep:∀n,(rep n le).length=n*P.cellsOf e:=fun n=>by
      induction n with
      | zero=>simp[rep]
      | succ n ih=>simp only[rep,List.length_append,ih,hz,Nat.succ_mul];omega
     have hfor:=tK hle (bk8 d D e le (by omega) hle) h0 hus hvs n 0 b (by rw[hx,hrep];simp) (by rw[hy,hrep];simp) (by simpa using he)
     simp only[Op.equalIn,Sem.run_bind,run_underlying hut,Result.andThen_ok,jA h0]
     rw[Std.Legacy.Range.forIn_eq_forIn_range']
     have hsz:(([:n]:Std.Legacy.Range)).size=n:=by simp[Std.Legacy.Range.size]
     rw[hsz]
     rw[hfor]
     cases b<;>rfl
    ·cases hr
   case struct fs =>
    split at hr
    ·cases hr
    ·rename_i hst
     obtain⟨us,rfl,hus⟩:=oq hu
     obtain⟨vs,rfl,hvs⟩:=oq hv
     have hfs:P.fieldsOf t=fs:=by simp[Program.fieldsOf,hut]
     rw[run_equalIn_struct C.w D t us vs (by rw[hfs];exact hut) (by simpa using hst),hfs]
     exact run_eqFields_plain (fun t' l' hl'=>bk8 d D t' l' (by omega) hl') hus hvs fs.toList 0 r b hr (by omega) (by omega) (by simpa using he)
end Go.Proofs.Aw
namespace Go.Proofs.Aw
open Go
def rk (N:Nat):Nat:=(N.log2+1022)*2 ^ 52+N*2 ^ (52-N.log2)
def gu (n:Int) (z:Bool):Bool:=if n=0 then z else decide (n<0)
def fv (n:Int) (z:Bool):Nat:=(if gu n z=true then 2 ^ 63 else 0)+(if n=0 then 0 else rk n.natAbs)
def pl (n:Int):Nat:=if n=0 then 1074 else 52-n.natAbs.log2
theorem wz {N:Nat} (h0:N≠0) (h:N<2 ^ 53):N.log2<=52:=by
 have:=(Nat.log2_lt h0).2 h
 omega
theorem xJ {N:Nat} (h0:N≠0) (b:Nat):(N*2 ^ b).log2=N.log2+b:=by
 have hp:0<2 ^ b:=Nat.two_pow_pos b
 have hne:N*2 ^ b≠0:=Nat.mul_ne_zero h0 (by omega)
 have h1:2 ^ N.log2<=N:=(Nat.le_log2 h0).1 (Nat.le_refl _)
 have h2:N<2 ^ (N.log2+1):=(Nat.log2_lt h0).1 (Nat.lt_succ_self _)
 have g1:N.log2+b<=(N*2 ^ b).log2:=(Nat.le_log2 hne).2 (by rw[Nat.pow_add];exact Nat.mul_le_mul_right _ h1)
 have g2:(N*2 ^ b).log2<N.log2+b+1:=(Nat.log2_lt hne).2 (by
  rw[show N.log2+b+1=N.log2+1+b by omega,Nat.pow_add]
  exact Nat.mul_lt_mul_of_pos_right h2 hp)
 omega
theorem uO {N:Nat} (h0:N≠0) (h:N<2 ^ 53):2 ^ 52<=N*2 ^ (52-N.log2)/\N*2 ^ (52-N.log2)<2 ^ 53:=by
 have hl:=wz h0 h
 have h1:2 ^ N.log2<=N:=(Nat.le_log2 h0).1 (Nat.le_refl _)
 have h2:N<2 ^ (N.log2+1):=(Nat.log2_lt h0).1 (Nat.lt_succ_self _)
 constructor
 ·calc 2 ^ 52=2 ^ N.log2*2 ^ (52-N.log2):=by rw[<-Nat.pow_add];congr 1;omega
   _<=_:=Nat.mul_le_mul_right _ h1
 ·calc N*2 ^ (52-N.log2)<2 ^ (N.log2+1)*2 ^ (52-N.log2):=Nat.mul_lt_mul_of_pos_right h2 (Nat.two_pow_pos _)
   _=2 ^ 53:=by rw[<-Nat.pow_add];congr 1;omega
theorem Aq {N:Nat} (h0:N≠0) (h:N<2 ^ 53):2 ^ 52<=rk N/\rk N<1076*2 ^ 52:=by
 have hl:=wz h0 h
 obtain⟨k1,k2⟩:=uO h0 h
 unfold rk
 generalize N*2 ^ (52-N.log2)=k at *
 generalize N.log2=l at *
 constructor<;>omega
theorem Tz (s:Bool) (r:Nat):Ieee.double.word s r=(if s=true then 2 ^ 63 else 0)+r:=by
 cases s<;>simp[Ieee.Format.word,Ieee.Format.signWeight,Ieee.double]
theorem Jh (s:Bool) {M:Nat} (d:Nat) (hd:d<=(M*2 ^ d).log2+2):Ieee.Toward.even.cut s (M*2 ^ d) d=M:=by
 unfold Ieee.Toward.cut
 rw[Nat.min_eq_left hd,Nat.one_shiftLeft]
 have hp:0<2 ^ d:=Nat.two_pow_pos d
 simp only[Nat.mul_div_cancel _ hp,Nat.mul_mod_left,Nat.mul_zero]
 simp
theorem QG (s:Bool) {N:Nat} (h0:N≠0) (h:N<2 ^ 53) (b:Nat):Ieee.double.nearest s (N*2 ^ b) (-(b:Int))=(if s=true then 2 ^ 63 else 0)+rk N:=by
 have hl:=wz h0 h
 have hp:0<2 ^ b:=Nat.two_pow_pos b
 have hne:N*2 ^ b≠0:=Nat.mul_ne_zero h0 (by omega)
 obtain⟨k1,k2⟩:=uO h0 h
 have lp:Ieee.double.leastPlace = -1074:=by decide
 have lf:(Ieee.double.fractionBits:Int)=52:=rfl
 unfold Ieee.Format.nearest
 rw[if_neg hne,xJ h0]
 have hlast:max (-(b:Int)+((N.log2+b:Nat):Int)-(Ieee.double.fractionBits:Int)) Ieee.double.leastPlace=(N.log2:Int)-52:=by rw[lp,lf];omega
 rw[hlast,lp,Tz]
 have hk:Ieee.Toward.even.cut s ((N*2 ^ b) <<< (-(b:Int)-((N.log2:Int)-52)).toNat) (((N.log2:Int)-52) - -(b:Int)).toNat=N*2 ^ (52-N.log2):=by
  rcases Nat.le_total b (52-N.log2)with hc | hc
  ·rw[show(((N.log2:Int)-52) - -(b:Int)).toNat=0 by omega,show(-(b:Int)-((N.log2:Int)-52)).toNat=52-N.log2-b by omega]
   rw[Nat.shiftLeft_eq,Nat.mul_assoc,<-Nat.pow_add,show b+(52-N.log2-b)=52-N.log2 by omega]
   have:=Jh s (M:=N*2 ^ (52-N.log2)) 0 (by omega)
   rwa[Nat.pow_zero,Nat.mul_one]at this
  ·rw[show(-(b:Int)-((N.log2:Int)-52)).toNat=0 by omega,show(((N.log2:Int)-52) - -(b:Int)).toNat=b-(52-N.log2)by omega]
   rw[Nat.shiftLeft_zero]
   have e:N*2 ^ b=N*2 ^ (52-N.log2)*2 ^ (b-(52-N.log2)):=by rw[Nat.mul_assoc,<-Nat.pow_add];congr 2;omega
   rw[e]
   refine Jh s _ ?_
   rw[<-e,xJ h0]
   omega
 rw[hk]
 have hr:((N.log2:Int)-52 - -1074).toNat*Ieee.double.binade+N*2 ^ (52-N.log2)=rk N:=by
  rw[show((N.log2:Int)-52 - -1074).toNat=N.log2+1022 by omega]
  rfl
 rw[hr,Nat.min_eq_left]
 have:=(Aq h0 h).2
 have e:Ieee.double.infRung=2047*2 ^ 52:=by decide
 omega
theorem nS {n:Int} {z:Bool} (h:n.natAbs<2 ^ 53):Ieee.double.read (fv n z) = .number (gu n z) (n.natAbs*2 ^ pl n) (-(pl n:Int)):=by
 have sw:Ieee.double.signWeight=2 ^ 63:=by decide
 have bi:Ieee.double.binade=2 ^ 52:=by decide
 have ir:Ieee.double.infRung=2047*2 ^ 52:=by decide
 have lp:Ieee.double.leastPlace = -1074:=by decide
 unfold Ieee.Format.read
 rw[sw,bi,ir,lp]
 by_cases h0:n=0
 ·subst h0
  have e1:fv 0 z=if z=true then 2 ^ 63 else 0:=by simp[fv,gu]
  rw[e1]
  have e2:gu 0 z=z:=by simp[gu]
  rw[e2,Int.natAbs_zero,Nat.zero_mul]
  cases z<;>simp[pl]
 ·have ha:n.natAbs≠0:=by omega
  obtain⟨r1,r2⟩:=Aq ha h
  obtain⟨k1,k2⟩:=uO ha h
  have hl:=wz ha h
  have e1:fv n z=(if gu n z=true then 2 ^ 63 else 0)+rk n.natAbs:=by simp[fv,h0]
  have e2:fv n z / 2 ^ 63 % 2=(if gu n z=true then 1 else 0):=by
   rw[e1];split<;>omega
  have e3:fv n z % 2 ^ 63=rk n.natAbs:=by
   rw[e1];split<;>omega
  simp only[e2,e3]
  have s1:((if gu n z=true then 1 else 0:Nat)==1)=gu n z:=by cases gu n z<;>rfl
  rw[s1,if_neg (by omega),if_pos (by omega)]
  have p1:pl n=52-n.natAbs.log2:=by simp[pl,h0]
  have q1:rk n.natAbs / 2 ^ 52=n.natAbs.log2+1023:=by
   unfold rk
   generalize n.natAbs*2 ^ (52-n.natAbs.log2)=k at *
   generalize n.natAbs.log2=l at *
   omega
  have q2:2 ^ 52+rk n.natAbs % 2 ^ 52=n.natAbs*2 ^ (52-n.natAbs.log2):=by
   unfold rk
   generalize n.natAbs*2 ^ (52-n.natAbs.log2)=k at *
   generalize n.natAbs.log2=l at *
   omega
  rw[q1,q2,p1]
  have e:(-1074:Int)+((n.natAbs.log2+1023-1:Nat):Int) = -((52-n.natAbs.log2:Nat):Int):=by omega
  rw[e]
theorem vK (n:Int) (z:Bool) (h:n.natAbs<2 ^ 53) (b:Nat):Ieee.double.write (.number (gu n z) (n.natAbs*2 ^ b) (-(b:Int)))=fv n z:=by
 show Ieee.double.nearest (gu n z) (n.natAbs*2 ^ b) (-(b:Int))=fv n z
 by_cases h0:n=0
 ·subst h0
  unfold Ieee.Format.nearest
  rw[if_pos (by simp),Tz]
  simp[fv]
 ·rw[QG _ (by omega) h b]
  simp[fv,h0]
theorem oN (n:Int) (z:Bool) (b c:Nat):Ieee.signed (gu n z) (n.natAbs*2 ^ b) c=n*2 ^ (b+c):=by
 have key:((n.natAbs*2 ^ b) <<< c:Nat)=n.natAbs*2 ^ (b+c):=by rw[Nat.shiftLeft_eq,Nat.mul_assoc,<-Nat.pow_add]
 unfold Ieee.signed
 rw[key]
 by_cases h0:n=0
 ·subst h0;cases z<;>simp[gu]
 ·by_cases hn:n<0
  ·rw[if_pos (by simp[gu,h0,hn])]
   rw[Int.natCast_mul,Int.ofNat_natAbs_of_nonpos (by omega),Int.natCast_pow]
   simp[Int.neg_mul]
  ·rw[if_neg (by simp[gu,h0,hn])]
   rw[Int.natCast_mul,Int.natAbs_of_nonneg (by omega),Int.natCast_pow]
   simp
theorem TD (n m:Int) (y z:Bool) (a b:Nat):Ieee.Datum.sum (.number (gu n y) (n.natAbs*2 ^ a) (-(a:Int))) (.number (gu m z) (m.natAbs*2 ^ b) (-(b:Int))) =
  some (.number (gu (n+m) (gu n y&&gu m z)) ((n+m).natAbs*2 ^ (max a b)) (-((max a b:Nat):Int))):=by
 unfold Ieee.Datum.sum
 have hb:min (-(a:Int)) (-(b:Int)) = -((max a b:Nat):Int):=by omega
 simp only[hb]
 have ha:(-(a:Int) - -((max a b:Nat):Int)).toNat=max a b-a:=by omega
 have hb':(-(b:Int) - -((max a b:Nat):Int)).toNat=max a b-b:=by omega
 rw[ha,hb',oN,oN,show a+(max a b-a)=max a b by omega,show b+(max a b-b)=max a b by omega]
 have e:n*2 ^ (max a b)+m*2 ^ (max a b)=(n+m)*2 ^ (max a b):=by rw[Int.add_mul]
 rw[e]
 have hp:(0:Int)<2 ^ (max a b):=Int.pow_pos (by decide)
 have e1:((n+m)*2 ^ (max a b)).natAbs=(n+m).natAbs*2 ^ (max a b):=by
  rw[Int.natAbs_mul,Int.natAbs_pow];rfl
 rw[e1]
 have e2:(if(n+m)*2 ^ (max a b)=0 then(gu n y&&gu m z)else decide ((n+m)*2 ^ (max a b)<0))=gu (n+m) (gu n y&&gu m z):=by
  unfold gu
  by_cases h0:n+m=0
  ·rw[if_pos (by rw[h0,Int.zero_mul]),if_pos h0]
  ·rw[if_neg (Int.mul_ne_zero h0 (by omega)),if_neg h0]
   by_cases h1:n+m<0
   ·rw[decide_eq_true h1,decide_eq_true (Int.mul_neg_of_neg_of_pos h1 hp)]
   ·rw[decide_eq_false h1,decide_eq_false (by have:=Int.mul_nonneg (show 0<=n+m by omega) (Int.le_of_lt hp);omega)]
 rw[<-e2]
theorem cC5 {n m:Int} {y z:Bool} (hn:n.natAbs<2 ^ 53) (hm:m.natAbs<2 ^ 53) (hs:(n+m).natAbs<2 ^ 53):Ieee.double.add (fv n y) (fv m z)=some (fv (n+m) (gu n y&&gu m z)):=by
 unfold Ieee.Format.add
 rw[nS hn,nS hm,TD,Option.map_some,vK _ _ hs]
theorem TL (n:Int) (z:Bool):(!gu n z)=gu (-n) (!z):=by
 unfold gu
 by_cases h0:n=0
 ·subst h0;simp
 ·rw[if_neg h0,if_neg (by omega)]
  by_cases h:n<0
  ·rw[decide_eq_true h,decide_eq_false (by omega)];rfl
  ·rw[decide_eq_false h,decide_eq_true (by omega)];rfl
theorem cB9 {n m:Int} {y z:Bool} (hn:n.natAbs<2 ^ 53) (hm:m.natAbs<2 ^ 53) (hs:(n-m).natAbs<2 ^ 53):Ieee.double.sub (fv n y) (fv m z)=some (fv (n-m) (gu n y && !gu m z)):=by
 unfold Ieee.Format.sub
 rw[nS hn,nS hm]
 simp only[Ieee.Datum.opposite]
 rw[TL,show m.natAbs=(-m).natAbs by omega,TD,Option.map_some,<-Int.sub_eq_add_neg,vK _ _ hs]
theorem cC4 {n m:Int} {y z:Bool} (hn:n.natAbs<2 ^ 53) (hm:m.natAbs<2 ^ 53) (hs:(n*m).natAbs<2 ^ 53):Ieee.double.mul (fv n y) (fv m z)=some (fv (n*m) (gu n y ^^ gu m z)):=by
 unfold Ieee.Format.mul
 rw[nS hn,nS hm]
 simp only[Ieee.Datum.product,Option.map_some]
 have e1:n.natAbs*2 ^ pl n*(m.natAbs*2 ^ pl m)=(n*m).natAbs*2 ^ (pl n+pl m):=by
  rw[Int.natAbs_mul,Nat.pow_add];ac_rfl
 have e2 : -(pl n:Int) + -(pl m:Int) = -((pl n+pl m:Nat):Int):=by omega
 have e3:(gu n y ^^ gu m z)=gu (n*m) (gu n y ^^ gu m z):=by
  unfold gu
  by_cases h0:n=0
  ·subst h0;simp
  ·by_cases h1:m=0
   ·subst h1;simp
   ·rw[if_neg h0,if_neg h1,if_neg (Int.mul_ne_zero h0 h1)]
    by_cases a:n<0
    ·by_cases b:m<0
     ·have:=Int.mul_pos_of_neg_of_neg a b
      rw[decide_eq_true a,decide_eq_true b,decide_eq_false (by omega)];rfl
     ·have:=Int.mul_neg_of_neg_of_pos a (show 0<m by omega)
      rw[decide_eq_true a,decide_eq_false b,decide_eq_true this];rfl
    ·by_cases b:m<0
     ·have:=Int.mul_neg_of_pos_of_neg (show 0<n by omega) b
      rw[decide_eq_false a,decide_eq_true b,decide_eq_true this];rfl
     ·have:=Int.mul_pos (show 0<n by omega) (show 0<m by omega)
      rw[decide_eq_false a,decide_eq_false b,decide_eq_false (by omega)];rfl
 rw[e1,e2,e3,vK _ _ hs,<-e3]
theorem cC3 {n m:Int} {y z:Bool} (hn:n.natAbs<2 ^ 53) (hm:m.natAbs<2 ^ 53):Ieee.double.order (fv n y) (fv m z)=some (compare n m):=by
 unfold Ieee.Format.order
 rw[nS hn,nS hm]
 unfold Ieee.Datum.order
 generalize pl n=a
 generalize pl m=b
 have hb:min (-(a:Int)) (-(b:Int)) = -((max a b:Nat):Int):=by omega
 simp only[hb]
 have ha:(-(a:Int) - -((max a b:Nat):Int)).toNat=max a b-a:=by omega
 have hb':(-(b:Int) - -((max a b:Nat):Int)).toNat=max a b-b:=by omega
 rw[ha,hb',oN,oN,show a+(max a b-a)=max a b by omega,show b+(max a b-b)=max a b by omega]
 have hp:(0:Int)<2 ^ (max a b):=Int.pow_pos (by decide)
 congr 1
 have lt:n*2 ^ (max a b)<m*2 ^ (max a b)<->n<m:=⟨fun h=>Int.lt_of_mul_lt_mul_right h (Int.le_of_lt hp),fun h=>Int.mul_lt_mul_of_pos_right h hp⟩
 have eq:n*2 ^ (max a b)=m*2 ^ (max a b)<->n=m:=⟨fun h=>Int.eq_of_mul_eq_mul_right (by omega) h,fun h=>by rw[h]⟩
 simp only[compare,compareOfLessAndEq,lt,eq]
theorem fint {n:Int} {z:Bool} (hn:n.natAbs<2 ^ 53):(Ieee.double.read (fv n z)).toInt .zero=some n:=by
 rw[nS hn]
 unfold Ieee.Datum.toInt Ieee.Datum.integral
 simp only
 have e0:(-(pl n:Int)).toNat=0:=by omega
 have e1:(- -(pl n:Int)).toNat=pl n:=by omega
 rw[e0,e1,Nat.shiftLeft_zero]
 have hc:Ieee.Toward.zero.cut (gu n z) (n.natAbs*2 ^ pl n) (pl n)=n.natAbs:=by
  unfold Ieee.Toward.cut
  by_cases h0:n=0
  ·subst h0;simp
  ·have hl:pl n<=(n.natAbs*2 ^ pl n).log2+2:=by rw[xJ (by omega)];omega
   rw[Nat.min_eq_left hl,Nat.one_shiftLeft]
   have hp:0<2 ^ pl n:=Nat.two_pow_pos _
   simp only[Nat.mul_div_cancel _ hp]
   rfl
 rw[hc]
 have:=oN n z 0 0
 simp only[Nat.pow_zero,Nat.mul_one,Int.pow_zero,Int.mul_one,Nat.add_zero]at this
 rw[this]
theorem bZ5 (n:Int) (hn:n.natAbs<2 ^ 53):FloatKind.f64.nearest n=fv n false:=by
 have h:=vK n false hn 0
 have e:gu n false=decide (n<0):=by
  unfold gu;split
  ·rename_i h0;subst h0;rfl
  ·rfl
 rw[e,Nat.pow_zero,Nat.mul_one]at h
 exact h
theorem bi5 {n:Int} {z:Bool} (hn:n.natAbs<2 ^ 53):Op.negFloat .f64 (fv n z)=fv (-n) (!z):=by
 have w:∀(s:Bool) (r:Nat),r<2 ^ 63->Nat.xor ((if s=true then 2 ^ 63 else 0)+r) (2 ^ 63)=(if(!s)=true then 2 ^ 63 else 0)+r:=by
  intro s r hr
  have x:2 ^ 63 ^^^ r=2 ^ 63+r:=by
   have:=Nat.two_pow_add_eq_or_of_lt hr 1
   rw[Nat.mul_one]at this
   rw[this]
   refine Nat.eq_of_testBit_eq fun i => ?_
   rw[Nat.testBit_xor,Nat.testBit_or,Nat.testBit_two_pow]
   by_cases hi:63=i
   ·subst hi;rw[Nat.testBit_lt_two_pow hr];simp
   ·simp[hi]
  cases s
  ·simp only[Bool.false_eq_true,if_false,Nat.zero_add,Bool.not_false,if_true]
   rw[<-x];exact Nat.xor_comm _ _
  ·simp only[if_true,Bool.not_true,Bool.false_eq_true,if_false,Nat.zero_add]
   rw[<-x]
   show(2 ^ 63 ^^^ r) ^^^ 2 ^ 63=r
   rw[Nat.xor_comm,<-Nat.xor_assoc,Nat.xor_self,Nat.zero_xor]
 have hr:(if n=0 then 0 else rk n.natAbs)<2 ^ 63:=by
  split
  ·decide
  ·have:=(Aq (N:=n.natAbs) (by omega) hn).2
   omega
 have e:Op.negFloat .f64 (fv n z)=Nat.xor (fv n z) (2 ^ 63):=rfl
 rw[e]
 unfold fv
 rw[w _ _ hr,TL,show(-n).natAbs=n.natAbs by omega]
 congr 1
 by_cases h0:n=0
 ·subst h0;rfl
 ·rw[if_neg h0,if_neg (by omega)]
end Go.Proofs.Aw
namespace Go.Proofs.Aw
open Go
def rY (op:BinOp) (k:IntKind) (a:Int) (k':IntKind) (b:Int):Option Value :=
 match op with
 | .shl=>if 0<=b then some (.int k (k.wrap (a*2 ^ (min b.toNat k.bits))))else none
 | .shr=>if 0<=b then some (.int k (a.fdiv (2 ^ (min b.toNat k.bits))))else none
 | .add=>if k=k' then some (.int k (k.wrap (a+b)))else none
 | .sub=>if k=k' then some (.int k (k.wrap (a-b)))else none
 | .mul=>if k=k' then some (.int k (k.wrap (a*b)))else none
 | .quo=>if k=k'/\b≠0 then some (.int k (k.wrap (a.tdiv b)))else none
 | .rem=>if k=k'/\b≠0 then some (.int k (a.tmod b))else none
 | .and=>if k=k' then some (.int k (bits .and k a b))else none
 | .or=>if k=k' then some (.int k (bits .or k a b))else none
 | .xor=>if k=k' then some (.int k (bits .xor k a b))else none
 | .andNot=>if k=k' then some (.int k (bits .andNot k a b))else none
 | .lss=>if k=k' then some (.bool (decide (a<b)))else none
 | .leq=>if k=k' then some (.bool (decide (a<=b)))else none
 | .gtr=>if k=k' then some (.bool (decide (b<a)))else none
 | .geq=>if k=k' then some (.bool (decide (b<=a)))else none
 | .eql=>if k=k' then some (.bool (a==b))else none
 | .neq=>if k=k' then some (.bool (!(a==b)))else none
def Eg (op:BinOp) (a b:ByteArray):Option Value :=
 match op with
 | .eql=>some (.bool (a.toList==b.toList))
 | .neq=>some (.bool (!(a.toList==b.toList)))
 | .lss=>some (.bool (Op.bytesLess a.toList b.toList))
 | .leq=>some (.bool (Op.bytesLess a.toList b.toList||a.toList==b.toList))
 | .gtr=>some (.bool (!(Op.bytesLess a.toList b.toList||a.toList==b.toList)))
 | .geq=>some (.bool (!Op.bytesLess a.toList b.toList))
 | _=>none
theorem Qn {P:Program} {op:BinOp} {k k':IntKind} {a b:Int} {v:Value} (h:rY op k a k' b=some v) (ty:TypeId) (w:World):(binOp op ty (.int k a) (.int k' b)).run P w = .ok v w:=by
 cases op<;>simp only[rY]at h<;>split at h<;>first | cases h | skip
 case shl.isTrue hb=>simp[binOp,Op.shift,Int.not_lt.2 hb]
 case shr.isTrue hb=>simp[binOp,Op.shift,Int.not_lt.2 hb]
 case quo.isTrue hb=>simp[binOp,hb.1,Op.intDiv,hb.2]
 case rem.isTrue hb=>simp[binOp,hb.1,Op.intDiv,hb.2]
 all_goals (rename_i hk;subst hk)
 all_goals first
  | (simp[binOp,Op.intArith];done)
  | (simp[binOp,Op.intCmp];done)
  | (simp[binOp,Op.intCmp,bne];done)
  | (simp[binOp,intBits_and,intBits_or,intBits_xor,intBits_andNot];done)
theorem Qm {P:Program} {op:BinOp} {a b:ByteArray} {v:Value} (h:Eg op a b=some v) (ty:TypeId) (w:World):(binOp op ty (.string a) (.string b)).run P w = .ok v w:=by
 cases op<;>simp only[Eg,Option.some.injEq,reduceCtorEq]at h<;>subst h<;>simp[binOp,Op.stringOp]
def fJ (op:BinOp) (a b:Nat):Option Value :=
 match op with
 | .add=>(Ieee.double.add a b).map (.float .f64)
 | .sub=>(Ieee.double.sub a b).map (.float .f64)
 | .mul=>(Ieee.double.mul a b).map (.float .f64)
 | .eql=>some (.bool (Ieee.double.order a b==some .eq))
 | .neq=>some (.bool (Ieee.double.order a b != some .eq))
 | .lss=>some (.bool (Ieee.double.order a b==some .lt))
 | .leq=>some (.bool (Ieee.double.order a b==some .lt||Ieee.double.order a b==some .eq))
 | .gtr=>some (.bool (Ieee.double.order a b==some .gt))
 | .geq=>some (.bool (Ieee.double.order a b==some .gt||Ieee.double.order a b==some .eq))
 | _=>none
theorem Qo {P:Program} {op:BinOp} {a b:Nat} {v:Value} (h:fJ op a b=some v) (ty:TypeId) (w:World):(binOp op ty (.float .f64 a) (.float .f64 b)).run P w = .ok v w:=by
 cases op<;>simp only[fJ,reduceCtorEq]at h
 case add=>obtain⟨r,hr,rfl⟩:=Option.map_eq_some_iff.1 h;simp[binOp,Op.floatArith,FloatKind.format,hr]
 case sub=>obtain⟨r,hr,rfl⟩:=Option.map_eq_some_iff.1 h;simp[binOp,Op.floatArith,FloatKind.format,hr]
 case mul=>obtain⟨r,hr,rfl⟩:=Option.map_eq_some_iff.1 h;simp[binOp,Op.floatArith,FloatKind.format,hr]
 all_goals (cases h;simp[binOp,Op.floatCmp,FloatKind.format])
def Rz (ac bd ad bc:Option Nat):Option Value :=
 match ac,bd,ad,bc with
 | some ac,some bd,some ad,some bc=>match Ieee.double.sub ac bd,Ieee.double.add ad bc with
  | some x,some y=>some (.complex .f64 x y)
  | _,_=>none
 | _,_,_,_=>none
def sD (op:BinOp) (a b c d:Nat):Option Value :=
 match op with
 | .add=>match Ieee.double.add a c,Ieee.double.add b d with
  | some x,some y=>some (.complex .f64 x y)
  | _,_=>none
 | .sub=>match Ieee.double.sub a c,Ieee.double.sub b d with
  | some x,some y=>some (.complex .f64 x y)
  | _,_=>none
 | .mul=>Rz (Ieee.double.mul a c) (Ieee.double.mul b d) (Ieee.double.mul a d) (Ieee.double.mul b c)
 | .eql=>some (.bool ((Ieee.double.order a c==some .eq)&&(Ieee.double.order b d==some .eq)))
 | .neq=>some (.bool !((Ieee.double.order a c==some .eq)&&(Ieee.double.order b d==some .eq)))
 | _=>none
theorem Qp {P:Program} {op:BinOp} {a b r:Nat} (h:fJ op a b=some (.float .f64 r)) (w:World):(Op.Complex.arith op .f64 a b).run P w = .ok r w:=by
 cases op<;>simp only[fJ,reduceCtorEq,Option.some.injEq]at h
 case add=>obtain⟨r,hr,e⟩:=Option.map_eq_some_iff.1 h;cases e;simp[Op.Complex.arith,Op.floatArith,FloatKind.format,hr]
 case sub=>obtain⟨r,hr,e⟩:=Option.map_eq_some_iff.1 h;cases e;simp[Op.Complex.arith,Op.floatArith,FloatKind.format,hr]
 case mul=>obtain⟨r,hr,e⟩:=Option.map_eq_some_iff.1 h;cases e;simp[Op.Complex.arith,Op.floatArith,FloatKind.format,hr]
theorem Qq {P:Program} {op:BinOp} {a b c d:Nat} {v:Value} (h:sD op a b c d=some v) (ty:TypeId) (w:World):(binOp op ty (.complex .f64 a b) (.complex .f64 c d)).run P w = .ok v w:=by
 have ar:∀{op:BinOp} {x y r:Nat},fJ op x y=some (.float .f64 r)->(Op.Complex.arith op .f64 x y).run P w = .ok r w:=fun h=>Qp h w
 cases op<;>simp only[sD,reduceCtorEq]at h
 case add =>
  split at h
  ·rename_i x y h1 h2
   cases h
   have e1:=ar (op := .add) (x:=a) (y:=c) (r:=x) (by simp[fJ,h1])
   have e2:=ar (op := .add) (x:=b) (y:=d) (r:=y) (by simp[fJ,h2])
   simp[binOp,Op.complexOp,e1,e2]
  ·cases h
 case sub =>
  split at h
  ·rename_i x y h1 h2
   cases h
   have e1:=ar (op := .sub) (x:=a) (y:=c) (r:=x) (by simp[fJ,h1])
   have e2:=ar (op := .sub) (x:=b) (y:=d) (r:=y) (by simp[fJ,h2])
   simp[binOp,Op.complexOp,e1,e2]
  ·cases h
 case mul =>
  unfold Rz at h
  split at h
  ·rename_i ac bd ad bc h1 h2 h3 h4
   split at h
   ·rename_i x y h5 h6
    cases h
    have e1:=ar (op := .mul) (x:=a) (y:=c) (r:=ac) (by simp[fJ,h1])
    have e2:=ar (op := .mul) (x:=b) (y:=d) (r:=bd) (by simp[fJ,h2])
    have e3:=ar (op := .mul) (x:=a) (y:=d) (r:=ad) (by simp[fJ,h3])
    have e4:=ar (op := .mul) (x:=b) (y:=c) (r:=bc) (by simp[fJ,h4])
    have e5:=ar (op := .sub) (x:=ac) (y:=bd) (r:=x) (by simp[fJ,h5])
    have e6:=ar (op := .add) (x:=ad) (y:=bc) (r:=y) (by simp[fJ,h6])
    simp[binOp,Op.complexOp,Op.Complex.conv,Op.Complex.product,Op.Complex.mul,Op.Complex.sub,Op.Complex.add,e1,e2,e3,e4,e5,e6]
   ·cases h
  ·cases h
 all_goals (cases h;simp[binOp,Op.complexOp,Op.Complex.cmp,Op.floatCmp,FloatKind.format];rfl)
theorem fM {P:Program} (op:BinOp) (ty:TypeId) (x y:Operand) (u v:Value) (h1:∀c,u ≠ .agg c) (h2:u ≠ .nilIface) (w:World):(eqGuard op ty x y u v).run P w = .ok () w:=by
 cases u<;>first
  | exact absurd rfl (h1 _)
  | exact absurd rfl h2
  | (cases op<;>rfl)
def rW (P:Program) (ty:TypeId):Option (List Nat):=if P.eqGuardType P.depth ty=false/\nC P ty=some true then leaves P 8 ty else none
def boolT (P:Program) (ty:TypeId):Bool:=match P.underlying ty with | some .bool=>true | _=>false
def qC (P:Program) (op:BinOp) (ty:TypeId) (x y:AV):Option AV :=
 match x,y with
 | .sc (.int k a),.sc (.int k' b)=>(rY op k a k' b).map .sc
 | .sc (.string a),.sc (.string b)=>(Eg op a b).map .sc
 | .sc (.bool a),.sc (.bool b)=>match boolT P ty,op with
  | true,.eql=>some (.sc (.bool (a==b)))
  | true,.neq=>some (.sc (.bool (!(a==b))))
  | _,_=>none
 | .sc (.float .f64 a),.sc (.float .f64 b)=>(fJ op a b).map .sc
 | .sc (.complex .f64 a b),.sc (.complex .f64 c d)=>(sD op a b c d).map .sc
 | .agg xs,.agg ys=>match op with
  | .eql=>(rW P ty).bind fun l=>(aJ l xs ys).map fun b => .sc (.bool b)
  | .neq=>(rW P ty).bind fun l=>(aJ l xs ys).map fun b => .sc (.bool (!b))
  | _=>none
 | _,_=>none
theorem Hy {P:Program} {C:Ctx} {ty:TypeId} {xs ys:List AV} {us vs:Array Value} {l:List Nat} {b:Bool} (hl:rW P ty=some l) (he:aJ l xs ys=some b) (hx:ConcL C xs us.toList) (hy:ConcL C ys vs.toList) (x y:Operand) (op:BinOp) :
  (eqGuard op ty x y (.agg us) (.agg vs)).run P C.w = .ok () C.w/\(Op.equalIn 10000 ty (.agg us) (.agg vs)).run P C.w = .ok b C.w:=by
 unfold rW at hl
 split at hl
 ·rename_i hg
  refine⟨run_eqGuard_agg C.w op ty x y us vs hg.1,?_⟩
  exact bk8 8 10000 ty l (by omega) hl xs ys b true _ _ hg.2 he (by simp only[mkv,if_true,Conc];exact⟨us,rfl,hx⟩) (by simp only[mkv,if_true,Conc];exact⟨vs,rfl,hy⟩)
 ·cases hl
section
variable {P:Program} {n:Nat} {t:Tp} {h:Hp}
theorem aM7 {op:BinOp} {ty ty':TypeId} {x y:Operand} {v:AV} (hv:qC P op ty (ev t x) (ev t y)=some v):Yields P n (.binOp op ty x y ty') t h v [] :=
 Yields.pure fun C a o ho hh ht=>by
  have h1:=aH ht x
  have h2:=aH ht y
  revert h1 h2 hv
  generalize ev t x=X
  generalize ev t y=Y
  intro hv h1 h2
  have key:∀(u:Value),(eqGuard op ty x y (a.eval x) (a.eval y)).run P C.w = .ok () C.w->(binOp op ty (a.eval x) (a.eval y)).run P C.w = .ok u C.w->(execOp a.eval o).run P C.w = .ok (.value u) C.w:=by
   intro u e1 e2
   unfold execOp
   rw[ho]
   simp only[Sem.run_bind,e1,e2,Result.andThen_ok]
   rfl
  unfold qC at hv
  split at hv
  ·simp only[Conc]at h1 h2
   obtain⟨u,hu,rfl⟩:=Option.map_eq_some_iff.1 hv
   refine⟨u,key u ?_ ?_,by simp only[Conc]⟩
   ·rw[h1];exact fM _ _ _ _ _ _ (by simp) (by simp) _
   ·rw[h1,h2];exact Qn hu _ _
  ·simp only[Conc]at h1 h2
   obtain⟨u,hu,rfl⟩:=Option.map_eq_some_iff.1 hv
   refine⟨u,key u ?_ ?_,by simp only[Conc]⟩
   ·rw[h1];exact fM _ _ _ _ _ _ (by simp) (by simp) _
   ·rw[h1,h2];exact Qm hu _ _
  ·simp only[Conc]at h1 h2
   have hg:(eqGuard op ty x y (a.eval x) (a.eval y)).run P C.w = .ok () C.w:=by rw[h1];exact fM _ _ _ _ _ _ (by simp) (by simp) _
   split at hv
   ·rename_i hb
    cases hv
    have hu:P.underlying ty=some .bool:=by
     unfold boolT at hb
     split at hb
     ·assumption
     ·cases hb
    exact⟨_,key _ hg (by rw[h1,h2];exact run_eql_bool _ _ _ _ hu),by simp only[Conc]⟩
   ·rename_i hb
    cases hv
    have hu:P.underlying ty=some .bool:=by
     unfold boolT at hb
     split at hb
     ·assumption
     ·cases hb
    exact⟨_,key _ hg (by rw[h1,h2];exact run_neq_bool _ _ _ _ hu),by simp only[Conc]⟩
   ·cases hv
  ·simp only[Conc]at h1 h2
   obtain⟨u,hu,rfl⟩:=Option.map_eq_some_iff.1 hv
   refine⟨u,key u ?_ ?_,by simp only[Conc]⟩
   ·rw[h1];exact fM _ _ _ _ _ _ (by simp) (by simp) _
   ·rw[h1,h2];exact Qo hu _ _
  ·simp only[Conc]at h1 h2
   obtain⟨u,hu,rfl⟩:=Option.map_eq_some_iff.1 hv
   refine⟨u,key u ?_ ?_,by simp only[Conc]⟩
   ·rw[h1];exact fM _ _ _ _ _ _ (by simp) (by simp) _
   ·rw[h1,h2];exact Qq hu _ _
  ·simp only[Conc]at h1 h2
   obtain⟨us,e1,hx⟩:=h1
   obtain⟨vs,e2,hy⟩:=h2
   split at hv
   ·obtain⟨l,hl,hv⟩:=Option.bind_eq_some_iff.1 hv
    obtain⟨b,hb,rfl⟩:=Option.map_eq_some_iff.1 hv
    obtain⟨g1,g2⟩:=Hy hl hb hx hy x y .eql
    exact⟨.bool b,key _ (by rw[e1,e2];exact g1) (by rw[e1,e2,run_eql_struct,g2];rfl),by simp only[Conc]⟩
   ·obtain⟨l,hl,hv⟩:=Option.bind_eq_some_iff.1 hv
    obtain⟨b,hb,rfl⟩:=Option.map_eq_some_iff.1 hv
    obtain⟨g1,g2⟩:=Hy hl hb hx hy x y .neq
    exact⟨.bool (!b),key _ (by rw[e1,e2];exact g1) (by rw[e1,e2,run_neq_struct,g2];rfl),by simp only[Conc]⟩
   ·cases hv
  ·cases hv
def unR (op:UnOp) (x:AV):Option AV :=
 match op,x with
 | .not,.sc (.bool b)=>some (.sc (.bool (!b)))
 | .neg,.sc (.int k a)=>some (.sc (.int k (k.wrap (0-a))))
 | .neg,.sc (.float .f64 a)=>some (.sc (.float .f64 (Op.negFloat .f64 a)))
 | .neg,.sc (.complex .f64 a b)=>some (.sc (.complex .f64 (Op.negFloat .f64 a) (Op.negFloat .f64 b)))
 | _,_=>none
theorem bn9 {op:UnOp} {ty:TypeId} {x:Operand} {v:AV} (hv:unR op (ev t x)=some v):Yields P n (.unOp op ty x) t h v [] :=
 Yields.pure fun C a o ho hh ht=>by
  have h1:=aH ht x
  revert h1 hv
  generalize ev t x=X
  intro hv h1
  unfold unR at hv
  split at hv
  ·cases hv
   simp only[Conc]at h1
   refine⟨_,?_,by simp only[Conc];rfl⟩
   unfold execOp
   rw[ho]
   simp only[h1]
   rfl
  ·cases hv
   simp only[Conc]at h1
   refine⟨_,?_,by simp only[Conc];rfl⟩
   unfold execOp
   rw[ho]
   simp only[h1]
   rfl
  ·cases hv
   simp only[Conc]at h1
   refine⟨_,?_,by simp only[Conc];rfl⟩
   unfold execOp
   rw[ho]
   simp only[h1]
   rfl
  ·cases hv
   simp only[Conc]at h1
   refine⟨_,?_,by simp only[Conc];rfl⟩
   unfold execOp
   rw[ho]
   simp only[h1]
   rfl
  ·cases hv
def Gh (P:Program) (dst:TypeId) (x:AV):Option AV :=
 match P.underlying dst,x with
 | some (.int k),.sc (.int _ i)=>some (.sc (.int k (k.wrap i)))
 | some (.float .f64),.sc (.int _ i)=>some (.sc (.float .f64 (FloatKind.f64.nearest i)))
 | some (.int k),.sc (.float .f64 b)=>match(Ieee.double.read b).toInt .zero with
  | some i=>if k.min<=i/\i<=k.max then some (.sc (.int k i))else none
  | none=>none
 | _,_=>none
theorem Yo {src dst:TypeId} {x:Operand} {v:AV} (hs:(P.underlying src).isSome=true) (hv:Gh P dst (ev t x)=some v):Yields P n (.convert src dst x) t h v [] :=
 Yields.pure fun C a o ho hh ht=>by
  have h1:=aH ht x
  revert h1 hv
  generalize ev t x=X
  intro hv h1
  unfold Gh at hv
  split at hv
  ·rename_i k k' i hd
   cases hv
   simp only[Conc]at h1
   obtain⟨ds,hds⟩:=Option.isSome_iff_exists.1 hs
   refine⟨.int k (k.wrap i),?_,by simp only[Conc]⟩
   unfold execOp
   rw[ho]
   simp only[h1,convert,Sem.run_bind,run_underlying hds,run_underlying hd,Result.andThen_ok]
   cases ds<;>rfl
  ·rename_i k' i hd
   cases hv
   simp only[Conc]at h1
   obtain⟨ds,hds⟩:=Option.isSome_iff_exists.1 hs
   refine⟨.float .f64 (FloatKind.f64.nearest i),?_,by simp only[Conc]⟩
   unfold execOp
   rw[ho]
   simp only[h1,convert,Sem.run_bind,run_underlying hds,run_underlying hd,Result.andThen_ok]
   cases ds<;>rfl
  ·rename_i k b hd
   split at hv
   ·rename_i i hi
    split at hv
    ·rename_i hc
     cases hv
     simp only[Conc]at h1
     obtain⟨ds,hds⟩:=Option.isSome_iff_exists.1 hs
     have e:(Conv.floatToInt .f64 b k).run P C.w = .ok (.int k i) C.w:=by
      have hi':(FloatKind.f64.decode b).toInt .zero=some i:=hi
      unfold Conv.floatToInt
      simp only[hi',hc,and_self,if_true]
      rfl
     refine⟨.int k i,?_,by simp only[Conc]⟩
     unfold execOp
     rw[ho]
     have c:(convert src dst (.float .f64 b)).run P C.w = .ok (.int k i) C.w:=by
      simp only[convert,Sem.run_bind,run_underlying hds,run_underlying hd,Result.andThen_ok]
      cases ds<;>exact e
     simp only[h1,Sem.run_bind,c,Result.andThen_ok]
     rfl
    ·cases hv
   ·cases hv
  ·cases hv
theorem iI {b:Builtin} {c:Call} (hb:c.callee = .builtin b) (J:Operand->Value) (w:World) (o:Oper) (ho:o.op = .call c) :
  (execOp J o).run P w=(builtin b c.argTypes o.type (c.args.map fun | .const _=>true | _=>false) (c.args.map J)).run P w:=by
 obtain⟨cal,args,tys⟩:=c
 simp only at hb
 subst hb
 unfold execOp
 rw[ho]
 rfl
def Ry:Builtin->List AV->Option AV
 | .real,[.sc (.complex k a _)]=>some (.sc (.float k a))
 | .imag,[.sc (.complex k _ b)]=>some (.sc (.float k b))
 | .complex,[.sc (.float .f64 a),.sc (.float .f64 b)]=>some (.sc (.complex .f64 a b))
 | _,_=>none
end
end Go.Proofs.Aw
namespace Go.Proofs.Aw
open Go
def lJ (P:Program) (t:TypeId):Option (Nat×Nat):=match P.underlying t with | some (.array n e)=>if 0<P.cellsOf e then some (n,P.cellsOf e)else none | _=>none
def jU (P:Program) (t:TypeId):Option (TypeId×Nat):=match P.underlying t with | some (.slice e)=>if 0<P.cellsOf e then some (e,P.cellsOf e)else none | _=>none
def uz (P:Program) (t:TypeId):Option (List (Nat×Nat)):=match P.underlying t with | some (.struct fs)=>if fs.toList.all (fun f=>decide (0<P.cellsOf f.type))=true then some (fs.toList.map fun f=>(f.offset,P.cellsOf f.type))else none | _=>none
def CP (P:Program) (t:TypeId):Bool:=match P.underlying t with | some .string=>true | _=>false
theorem wO {P:Program} {t:TypeId} {n z:Nat} (h:lJ P t=some (n,z)):∃e,P.underlying t=some (.array n e)/\P.cellsOf e=z/\0<z:=by
 unfold lJ at h
 split at h
 ·rename_i m e hu
  split at h
  ·cases h;exact⟨e,hu,rfl,by assumption⟩
  ·cases h
 ·cases h
theorem iq {P:Program} {t e:TypeId} {z:Nat} (h:jU P t=some (e,z)):P.underlying t=some (.slice e)/\P.cellsOf e=z/\0<z:=by
 unfold jU at h
 split at h
 ·rename_i e' hu
  split at h
  ·cases h;exact⟨hu,rfl,by assumption⟩
  ·cases h
 ·cases h
theorem Ia {P:Program} {t:TypeId} {l:List (Nat×Nat)} (h:uz P t=some l):∃fs,P.underlying t=some (.struct fs)/\(∀f∈fs.toList,0<P.cellsOf f.type)/\l=fs.toList.map fun f=>(f.offset,P.cellsOf f.type):=by
 unfold uz at h
 split at h
 ·rename_i fs hu
  split at h
  ·rename_i ha
   cases h
   exact⟨fs,hu,fun f hf=>by simpa using List.all_eq_true.1 ha f hf,rfl⟩
  ·cases h
 ·cases h
def qX (place:Nat->Option (Nat×Nat)) (cells:List AV):List (Nat×AV)->Option (List AV)
 | []=>some cells
 | (i,v)::r=>match place i with
  | none=>none
  | some (off,size)=>if v.cells.length=size/\off+size<=cells.length/\v.cells.all AV.one=true then qX place (eH cells off v.cells) r else none
theorem foldl_set (off:Nat):∀(l:List Value) (k:Nat) (cs:Array Value),((l.zipIdx k).foldl (fun cs x=>cs.setIfInBounds (off+x.2) x.1) cs).size=cs.size /\
  ∀i,i<cs.size->((l.zipIdx k).foldl (fun cs x=>cs.setIfInBounds (off+x.2) x.1) cs)[i]? = if off+k<=i/\i<off+k+l.length then l[i-(off+k)]? else cs[i]?
 | [],k,cs=>by
  refine⟨by simp,fun i _ => ?_⟩
  rw[if_neg (by simp)]
  simp
 | v::l,k,cs=>by
  have ih:=foldl_set off l (k+1) (cs.setIfInBounds (off+k) v)
  simp only[List.zipIdx_cons,List.foldl_cons]
  refine⟨by rw[ih.1];simp,fun i hi => ?_⟩
  rw[ih.2 i (by simpa using hi)]
  by_cases h1:off+(k+1)<=i/\i<off+(k+1)+l.length
  ·rw[if_pos h1,if_pos (by simp;omega)]
   rw[show i-(off+k)=i-(off+(k+1))+1 from by omega,List.getElem?_cons_succ]
  ·rw[if_neg h1]
   by_cases h2:i=off+k
   ·subst h2
    rw[if_pos (by simp),Nat.sub_self,List.getElem?_cons_zero,Array.getElem?_setIfInBounds_self]
    simp[hi]
   ·rw[if_neg (by simp;omega),Array.getElem?_setIfInBounds_ne (Ne.symm h2)]
theorem MX {C:Ctx} {cs vs:List AV} {us ws rs:List Value} {off:Nat} (hc:ConcL C cs us) (hv:ConcL C vs ws) (hl:off+vs.length<=cs.length) (hrl:rs.length=us.length)
  (hr:∀i,i<us.length->rs[i]? = if off<=i/\i<off+ws.length then ws[i-off]? else us[i]?):ConcL C (eH cs off vs) rs:=by
 have l1:=hc.length
 have l2:=hv.length
 refine ConcL.mk (by simp[eH];omega) fun i c u h1 h2 => ?_
 have hi:i<us.length:=by rw[<-hrl];exact(List.getElem?_eq_some_iff.1 h2).1
 rw[hr i hi]at h2
 simp only[eH]at h1
 by_cases ha:i<off
 ·rw[List.getElem?_append_left (by simp;omega),List.getElem?_take,if_pos ha]at h1
  rw[if_neg (by omega)]at h2
  obtain⟨u',hu',hcu⟩:=hc.get i c h1
  rw[h2]at hu';cases hu';exact hcu
 ·rw[List.getElem?_append_right (by simp;omega)]at h1
  simp only[List.length_take,Nat.min_eq_left (show off<=cs.length by omega)]at h1
  by_cases hb:i<off+vs.length
  ·rw[List.getElem?_append_left (by omega)]at h1
   rw[if_pos (by omega)]at h2
   obtain⟨u',hu',hcu⟩:=hv.get _ c h1
   rw[h2]at hu';cases hu';exact hcu
  ·rw[List.getElem?_append_right (by omega),List.getElem?_drop,show off+vs.length+(i-off-vs.length)=i from by omega]at h1
   rw[if_neg (by omega)]at h2
   obtain⟨u',hu',hcu⟩:=hc.get i c h1
   rw[h2]at hu';cases hu';exact hcu
theorem Bj {C:Ctx} {place:Nat->Option (Nat×Nat)}:∀(ps:List (Nat×AV)) (qs:List (Nat×Value)) (cs cs':List AV) (us:Array Value),ps.map (·.1)=qs.map (·.1)->(∀(i:Nat) (p:Nat×AV) (q:Nat×Value),ps[i]? = some p->qs[i]? = some q->Conc C p.2 q.2) ->
  ConcL C cs us.toList->qX place cs ps=some cs'->∃us',Instr.fill place us qs=some us'/\ConcL C cs' us'.toList
 | [],[],cs,cs',us,_,_,hc,h=>by
  simp only[qX,Option.some.injEq]at h
  subst h
  exact⟨us,rfl,hc⟩
 | [],_::_,_,_,_,hm,_,_,_=>by simp at hm
 | _::_,[],_,_,_,hm,_,_,_=>by simp at hm
 | (i,v)::ps,(j,q)::qs,cs,cs',us,hm,hc,hL,h=>by
  simp only[List.map_cons,List.cons.injEq]at hm
  obtain⟨e,hm⟩:=hm
  subst e
  have hv:Conc C v q:=hc 0 _ _ rfl rfl
  simp only[qX]at h
  simp only[Instr.fill]
  cases hp:place i with
  | none=>simp[hp]at h
  | some os =>
   obtain⟨off,size⟩:=os
   simp only[hp]at h ⊢
   split at h
   ·rename_i hcond
    obtain⟨h1,h2,h3⟩:=hcond
    obtain⟨hvL,_⟩:=yh hv h3
    have hqs:q.cells.size=size:=by have:=hvL.length;simp at this;omega
    have hus:us.size=cs.length:=by have:=hL.length;simp at this;omega
    have hno:¬((decide (q.cells.size≠size)||decide (off+q.cells.size>us.size))=true):=by
     simp[hqs];omega
    rw[if_neg hno]
    have hf:=foldl_set off q.cells.toList 0 us
    simp only[Nat.add_zero]at hf
    have hz:q.cells.zipIdx=(q.cells.toList.zipIdx 0).toArray:=by apply Array.ext';simp
    refine Bj ps qs (eH cs off v.cells) cs' _ hm (fun k p q' hk hq=>hc (k+1) p q' (by simpa using hk) (by simpa using hq)) ?_ h
    refine MX hL hvL (by omega) ?_ ?_
    ·rw[hz,<-Array.foldl_toList]
     simpa using hf.1
    ·intro k hk
     rw[hz,<-Array.foldl_toList]
     have:=hf.2 k (by simpa using hk)
     simpa using this
   ·cases h
theorem ry {P:Program} {t:TypeId} {cs:List AV} (h:jk P t=some cs):∃i z,P.info? t=some i/\i.zero=some z/\cs=z.cells.toList.map AV.sc:=by
 unfold jk at h
 obtain⟨i,hi,h⟩:=Option.bind_eq_some_iff.1 h
 obtain⟨z,hz,rfl⟩:=Option.map_eq_some_iff.1 h
 exact⟨i,z,hi,hz,rfl⟩
theorem Nb {C:Ctx}:∀(us:List Value),ConcL C (us.map AV.sc) us
 | []=>by simp only[List.map_nil,ConcL]
 | u::us=>by simp only[List.map_cons,ConcL];exact⟨u,us,rfl,by simp only[Conc],Nb us⟩
def placeOf (P:Program) (t:TypeId):Nat->Option (Nat×Nat) :=
 match lJ P t,uz P t with
 | some (_,z),_=>fun i=>some (i*z,z)
 | none,some l=>fun i=>l[i]?
 | none,none=>fun _=>none
theorem BZ {P:Program}:∀(fs:List Field),(∀f∈fs,0<P.cellsOf f.type)->fs.mapM (fun f=>(P.info? f.type).map fun i=>(f.offset,i.size))=some (fs.map fun f=>(f.offset,P.cellsOf f.type))
 | [],_=>rfl
 | f::fs,h=>by
  obtain⟨i,hi,hs⟩:=qx (P:=P) (ty:=f.type) rfl (h f List.mem_cons_self)
  rw[List.mapM_cons,BZ fs fun g hg=>h g (List.mem_cons_of_mem _ hg)]
  simp[hi,hs]
section
variable {P:Program} {n:Nat} {t:Tp} {h:Hp}
theorem aM6 {ty:TypeId} {ps:Array (Nat×Operand)} {cs cs':List AV} (hz:jk P ty=some cs) (hf:qX (placeOf P ty) cs (ps.toList.map fun p=>(p.1,ev t p.2))=some cs') (hp:((lJ P ty).isSome||(uz P ty).isSome)=true):Yields P n (.build ty ps) t h (.agg cs') [] :=
 Yields.pure fun C a o ho hh ht=>by
  obtain⟨it,z,hit,hz0,rfl⟩:=ry hz
  obtain⟨us',hu',hL⟩:=Bj (C:=C) (ps.toList.map fun p=>(p.1,ev t p.2)) (ps.toList.map fun p=>(p.1,a.eval p.2)) _ cs' z.cells (by simp) (fun i p q h1 h2=>by
   rw[List.getElem?_map]at h1 h2
   cases hx:ps.toList[i]? with
   | none=>rw[hx]at h1;cases h1
   | some x=>rw[hx]at h1 h2;cases h1;cases h2;exact aH ht x.2) (Nb _) hf
  refine⟨.agg us',?_,by simp only[Conc];exact⟨us',rfl,hL⟩⟩
  have hb:P.built ty (ps.toList.map fun p=>(p.1,a.eval p.2))=some us':=by
   unfold Program.built
   rw[hit]
   cases ha:lJ P ty with
   | some nz =>
    obtain⟨m,zz⟩:=nz
    obtain⟨e,hu,he,h0⟩:=wO ha
    obtain⟨ie,hie,hs⟩:=qx he h0
    simp only[placeOf,ha]at hu'
    simp only[hu,hz0,hie,hs]
    exact hu'
   | none =>
    cases hr:uz P ty with
    | none=>simp[ha,hr]at hp
    | some l =>
     obtain⟨fs,hu,hpos,rfl⟩:=Ia hr
     simp only[placeOf,ha,hr]at hu'
     simp only[hu,hz0,BZ fs.toList hpos]
     have e:(fun i:Nat=>(fs.toList.map fun f=>(f.offset,P.cellsOf f.type)).toArray[i]?)=fun i:Nat=>(fs.toList.map fun f=>(f.offset,P.cellsOf f.type))[i]? := by
      funext i;simp
     rw[e];exact hu'
  unfold execOp
  rw[ho]
  have:=run_build C.w ty (ps.map fun p=>(p.1,a.eval p.2)) us' (by simpa using hb)
  simp only[Sem.run_bind,this,Result.andThen_ok]
  rfl
def zeros:Nat->List AV->List AV
 | 0,_=>[]
 | k+1,z=>z++zeros k z
def chunk (z:Nat):Nat->List AV->List (List AV)
 | 0,_=>[]
 | k+1,cs=>cs.take z::chunk z k (cs.drop z)
theorem nX (z:List AV):∀k,(zeros k z).length=k*z.length
 | 0=>by simp[zeros]
 | k+1=>by simp only[zeros,List.length_append,nX z k,Nat.succ_mul];omega
theorem Hm (z:List AV) (hz:0<z.length):∀k i,i<k*z.length->(zeros k z)[i]? = z[i % z.length]?
 | 0,i,h=>by simp at h
 | k+1,i,h=>by
  simp only[zeros]
  by_cases hi:i<z.length
  ·rw[List.getElem?_append_left hi,Nat.mod_eq_of_lt hi]
  ·rw[List.getElem?_append_right (by omega),Hm z hz k (i-z.length) (by rw[Nat.succ_mul]at h;omega)]
   congr 1
   rw[<-Nat.mod_eq_sub_mod (by omega)]
theorem gq (z:Nat):∀k cs,(chunk z k cs).length=k
 | 0,_=>rfl
 | k+1,cs=>by simp[chunk,gq z k]
theorem qZ (z:Nat):∀k cs j e,(chunk z k cs)[j]? = some e->j<k/\e=(cs.drop (j*z)).take z
 | 0,_,j,e,h=>by simp[chunk]at h
 | k+1,cs,0,e,h=>by simp[chunk]at h;simp[h]
 | k+1,cs,j+1,e,h=>by
  simp only[chunk,List.getElem?_cons_succ]at h
  obtain⟨h1,h2⟩:=qZ z k _ j e h
  refine⟨by omega,?_⟩
  rw[h2,List.drop_drop,Nat.succ_mul,Nat.add_comm z]
theorem SH {zc:List AV} {z:Value} {len:Nat} {C:Ctx} (h:zc=z.cells.toList.map AV.sc) (h0:0<zc.length):ConcL C (zeros len zc) ((Array.range (len*zc.length)).map (z.cells[· % z.cells.size]!)).toList:=by
 have hzl:z.cells.size=zc.length:=by rw[h];simp
 refine ConcL.mk (by simp[nX]) fun i c u h1 h2 => ?_
 have hi:i<len*zc.length:=by rw[<-nX];exact(List.getElem?_eq_some_iff.1 h1).1
 rw[Hm zc h0 len i hi]at h1
 simp[hi]at h2
 have hm:i % zc.length<z.cells.size:=by rw[hzl];exact Nat.mod_lt _ h0
 rw[h,List.getElem?_map]at h1
 have hg:z.cells.toList[i % zc.length]? = some (z.cells[i % zc.length]):=by simp[hm]
 rw[<-h,hg]at h1
 simp only[Option.map_some,Option.some.injEq]at h1
 rw[<-h1,<-h2]
 simp only[Conc]
 rw[hzl]
 simp[hm]
end
def AO:BinOp->Bool->Option AV
 | .eql,b=>some (.sc (.bool b))
 | .neq,b=>some (.sc (.bool (!b)))
 | _,_=>none
def ptT (P:Program) (t:TypeId):Bool:=match P.underlying t with | some (.pointer e)=>e==P.pointee t | _=>false
theorem a15 {P:Program} {t:TypeId} (h:ptT P t=true):P.underlying t=some (.pointer (P.pointee t)):=by
 unfold ptT at h
 split at h
 ·rename_i e he;rw[he,eq_of_beq h]
 ·cases h
def xG (P:Program) (h:Hp) (op:BinOp) (ty:TypeId) (x y:AV):Option AV :=
 match y with
 | .sc (.slice none 0 0)=>match jU P ty with
  | some _=>match x with
   | .sl m _ _ _ _=>if(hget h m).isSome=true then AO op false else none
   | .ro _ (_::_) _=>AO op false
   | .sc (.slice A _ _)=>AO op A.isNone
   | _=>none
  | none=>none
 | .sc (.pointer none)=>match ptT P ty with
  | true=>match x with
   | .ptr m _=>if(hget h m).isSome=true then AO op false else none
   | .sc (.pointer none)=>AO op true
   | _=>none
  | false=>none
 | _=>none
def kV (P:Program) (h:Hp) (op:BinOp) (ty:TypeId) (x y:AV):Option AV :=
 match qC P op ty x y with
 | some v=>some v
 | none=>xG P h op ty x y
theorem ao4 {P:Program} {h:Hp} {op:BinOp} {ty:TypeId} {x y v:AV} (hv:qC P op ty x y=some v):kV P h op ty x y=some v:=by
 unfold kV;rw[hv]
theorem aM4 {P:Program} {n:Nat} {t:Tp} {h:Hp} {op:BinOp} {ty ty':TypeId} {x y:Operand} {v:AV} (hv:xG P h op ty (ev t x) (ev t y)=some v):Yields P n (.binOp op ty x y ty') t h v [] :=
 Yields.pure fun C a o ho hh ht=>by
  have h1:=aH ht x
  have h2:=aH ht y
  revert h1 h2 hv
  generalize ev t x=X
  generalize ev t y=Y
  intro hv h1 h2
  unfold xG at hv
  split at hv
  ·simp only[Conc]at h2
   split at hv
   ·rename_i p hs
    obtain⟨e,z⟩:=p
    obtain⟨hu,_,_⟩:=iq hs
    have fin:∀(A:Option Addr) (l c:Nat) (b:Bool),a.eval x = .slice A l c->A.isNone=b->AO op b=some v->∃u,(execOp a.eval o).run P C.w = .ok (.value u) C.w/\Conc C v u:=by
     intro A l c b hA hb hn
     have e1:(eqGuard op ty x y (a.eval x) (a.eval y)).run P C.w = .ok () C.w:=by rw[hA];exact fM _ _ _ _ _ _ (by simp) (by simp) _
     unfold AO at hn
     split at hn
     ·cases hn
      refine⟨.bool b,?_,by simp only[Conc]⟩
      unfold execOp
      rw[ho]
      simp only[Sem.run_bind,e1,Result.andThen_ok]
      rw[hA,h2,Go.run_eql_slice_nil _ _ e _ _ _ hu,hb]
      rfl
     ·cases hn
      refine⟨.bool (!b),?_,by simp only[Conc]⟩
      unfold execOp
      rw[ho]
      simp only[Sem.run_bind,e1,Result.andThen_ok]
      rw[hA,h2,Go.run_neq_slice_nil _ _ e _ _ _ hu,hb]
      rfl
     ·cases hn
    split at hv
    ·rename_i m z' off len own
     split at hv
     ·rename_i hm
      simp only[Conc]at h1
      obtain⟨cap,o',hx,_⟩:=h1.2.2 ((hh.live m).2 hm)
      exact fin _ _ _ false hx rfl hv
     ·cases hv
    ·rename_i z' e0 es full
     simp only[Conc]at h1
     obtain⟨A,cap,hx,_,_,hne⟩:=h1
     obtain⟨a',rfl,_⟩:=hne (by simp)
     exact fin _ _ _ false hx rfl hv
    ·simp only[Conc]at h1
     exact fin _ _ _ _ h1 rfl hv
    ·cases hv
   ·cases hv
  ·simp only[Conc]at h2
   split at hv
   ·rename_i hs
    have hu:=a15 hs
    have fin:∀(A:Option Addr) (b:Bool),a.eval x = .pointer A->A.isNone=b->AO op b=some v->∃u,(execOp a.eval o).run P C.w = .ok (.value u) C.w/\Conc C v u:=by
     intro A b hA hb hn
     have e1:(eqGuard op ty x y (a.eval x) (a.eval y)).run P C.w = .ok () C.w:=by rw[hA];exact fM _ _ _ _ _ _ (by simp) (by simp) _
     unfold AO at hn
     split at hn
     ·cases hn
      refine⟨.bool b,?_,by simp only[Conc]⟩
      unfold execOp
      rw[ho]
      simp only[Sem.run_bind,e1,Result.andThen_ok]
      rw[hA,h2,Go.run_eql_pointer_nil _ _ _ hu,hb]
      rfl
     ·cases hn
      refine⟨.bool (!b),?_,by simp only[Conc]⟩
      unfold execOp
      rw[ho]
      simp only[Sem.run_bind,e1,Result.andThen_ok]
      rw[hA,h2,Go.run_neq_pointer_nil _ _ _ hu,hb]
      rfl
     ·cases hn
    split at hv
    ·rename_i m off
     split at hv
     ·rename_i hm
      simp only[Conc]at h1
      exact fin _ false (h1.2.2 ((hh.live m).2 hm)) rfl hv
     ·cases hv
    ·simp only[Conc]at h1
     exact fin _ true h1 rfl hv
    ·cases hv
   ·cases hv
  ·cases hv
theorem aq0 {P:Program} {n:Nat} {t:Tp} {h:Hp} {op:BinOp} {ty ty':TypeId} {x y:Operand} {v:AV} (hv:kV P h op ty (ev t x) (ev t y)=some v):Yields P n (.binOp op ty x y ty') t h v []:=by
 unfold kV at hv
 split at hv
 ·rename_i w hw;cases hv;exact aM7 hw
 ·exact aM4 hv
end Go.Proofs.Aw
namespace Go.Proofs.Aw
open Go
def qj (z:Nat):Nat->List (Nat×AV)->Bool
 | _,[]=>true
 | k,(i,v)::r=>i==k&&(v.cells.length==z&&(v.cells.all AV.one&&qj z (k+1) r))
def dB:List (Nat×AV)->List (List AV)
 | []=>[]
 | (_,v)::r=>v.cells::dB r
theorem lX:∀ps,(dB ps).length=ps.length
 | []=>rfl
 | (_,v)::r=>by simp[dB,lX r]
theorem Bq {z:Nat}:∀(k:Nat) (ps:List (Nat×AV)),qj z k ps=true->∀(j:Nat) (e:List AV),(dB ps)[j]? = some e->e.length=z/\e.all AV.one=true
 | _,[],_,j,e,h=>by simp[dB]at h
 | k,(i,v)::r,hd,j,e,h=>by
  simp only[qj,Bool.and_eq_true,beq_iff_eq]at hd
  cases j with
  | zero=>simp[dB]at h;subst h;exact⟨hd.2.1,hd.2.2.1⟩
  | succ j=>exact Bq (k+1) r hd.2.2.2 j e (by simpa [dB]using h)
theorem flat_length {α:Type} {z:Nat}:∀(es:List (List α)),(∀(j:Nat) (e:List α),es[j]? = some e->e.length=z)->es.flatten.length=es.length*z
 | [],_=>by simp
 | e::es,h=>by
  have h0:=h 0 e rfl
  have ih:=flat_length es fun j e' hj=>h (j+1) e' (by simpa using hj)
  rw[List.flatten_cons,List.length_append,ih,h0,List.length_cons,Nat.succ_mul];omega
theorem zI {α:Type} {z:Nat}:∀(es:List (List α)),(∀(j:Nat) (e:List α),es[j]? = some e->e.length=z)->∀(j:Nat) (e:List α),es[j]? = some e->∀k,k<z->es.flatten[j*z+k]? = e[k]?
 | [],_,j,e,h,_,_=>by simp at h
 | d::es,h,j,e,hj,k,hk=>by
  have h0:=h 0 d rfl
  cases j with
  | zero =>
   simp at hj;subst hj
   rw[List.flatten_cons,List.getElem?_append_left (by omega),Nat.zero_mul,Nat.zero_add]
  | succ j =>
   rw[List.flatten_cons,List.getElem?_append_right (by rw[Nat.succ_mul];omega),h0,show(j+1)*z+k-z=j*z+k from by rw[Nat.succ_mul];omega]
   exact zI es (fun j e' hj=>h (j+1) e' (by simpa using hj)) j e (by simpa using hj) k hk
theorem U7 {α:Type} {z:Nat} (hz:0<z) (es:List (List α)) (h:∀(j:Nat) (e:List α),es[j]? = some e->e.length=z) (i:Nat) (c:α) (hc:es.flatten[i]? = some c):∃e,es[i / z]? = some e/\e[i % z]? = some c:=by
 have hi:i<es.length*z:=by rw[<-flat_length es h];exact(List.getElem?_eq_some_iff.1 hc).1
 have hd:i / z<es.length:=Nat.div_lt_of_lt_mul (by rw[Nat.mul_comm];exact hi)
 have he:es[i / z]? = some es[i / z]:=List.getElem?_eq_getElem hd
 refine⟨_,he,?_⟩
 have:=zI es h _ _ he (i % z) (Nat.mod_lt _ hz)
 rw[<-this,Nat.mul_comm,Nat.div_add_mod]
 exact hc
theorem Ci {z:Nat}:∀(ps:List (Nat×AV)) (k:Nat) (cs:List AV),qj z k ps=true->cs.length=(k+ps.length)*z ->
  qX (fun i=>some (i*z,z)) cs ps=some (cs.take (k*z)++(dB ps).flatten)
 | [],k,cs,_,hl=>by
  simp only[qX,dB,List.flatten_nil,List.append_nil]
  rw[List.take_of_length_le (by rw[hl];simp)]
 | (i,v)::r,k,cs,hd,hl=>by
  simp only[qj,Bool.and_eq_true,beq_iff_eq]at hd
  obtain⟨rfl,h1,h2,h3⟩:=hd
  have hle:i*z+z<=cs.length:=by
   rw[hl,<-Nat.succ_mul];exact Nat.mul_le_mul_right _ (by simp)
  simp only[qX]
  rw[if_pos ⟨h1,hle,h2⟩]
  have hlen:(eH cs (i*z) v.cells).length=cs.length:=by simp[eH];omega
  rw[Ci r (i+1) _ h3 (by rw[hlen,hl,List.length_cons];congr 1;omega)]
  congr 1
  simp only[dB,List.flatten_cons,eH]
  have e:(i+1)*z=i*z+v.cells.length:=by rw[Nat.succ_mul,h1]
  rw[e,List.take_append,List.take_of_length_le (by simp;omega),List.append_assoc]
  congr 1
  rw[List.length_take,Nat.min_eq_left (by omega),Nat.add_sub_cancel_left,List.take_left']
  rfl
theorem ZP {C:Ctx} {n:Nat} {w:World} {arr:Array Value} {ty:TypeId} {cs:List AV} {es:List (List AV)} {z cap:Nat} {full:Bool} (hw:w.heap=C.w.heap.push (.cells arr ty))
  (hcs:∀(j:Nat) (c:AV),cs[j]? = some c->∃u,arr[j]? = some u/\Conc C c u) (hes:∀(j:Nat) (e:List AV),es[j]? = some e->e.length=z) (hfl:cs=es.flatten) (hcap:es.length<=cap) (hfull:full=true->cap=es.length) :
  Conc (C.allocI n w) (.ro z es full) (.slice (some ⟨C.w.heap.size,0,none⟩) es.length cap):=by
 simp only[Conc]
 refine⟨_,cap,rfl,hcap,hfull,fun _=>⟨_,rfl,by simp[Ctx.allocI,hw],by simp[Ctx.allocI],ConcE.mk fun j e hj=>⟨hes j e hj,ConcM.mk fun k c hk => ?_⟩⟩⟩
 have hkz:k<z:=by rw[<-hes j e hj];exact(List.getElem?_eq_some_iff.1 hk).1
 have h1:cs[j*z+k]? = some c:=by rw[hfl,zI es hes j e hj k hkz];exact hk
 obtain⟨u,hu,hc⟩:=hcs _ c h1
 refine⟨u,?_,hc.mono (C.le_allocI n hw)⟩
 rw[add_add,kM]
 simp[Ctx.allocI,World.cell?,hw]
 exact hu
section
variable {P:Program} {n:Nat} {t:Tp} {h:Hp}
theorem Nr {ty e:TypeId} {z len:Nat} {zc:List AV} (hs:jU P ty=some (e,z)) (hz:jk P e=some zc) (hzl:zc.length=z) (hsm:len*z<=2 ^ 24) {C:Ctx} {a:Act} (ht:TOk C t a) {ps:Array (Nat×Operand)}
  (hl:ps.size=len) (hd:qj z 0 (ps.toList.map fun p=>(p.1,ev t p.2))=true) :
  ∃arr:Array Value,(∀(j:Nat) (c:AV),(dB (ps.toList.map fun p=>(p.1,ev t p.2))).flatten[j]? = some c->∃u,arr[j]? = some u/\Conc C c u)/\arr.size=len*z /\
   (Instr.buildSlice ty len (ps.map fun p=>(p.1,a.eval p.2))).run P C.w = .ok (.slice (some ⟨C.w.heap.size,0,none⟩) len len) (C.w.alloc (.cells arr e)):=by
 obtain⟨hu,he,h0⟩:=iq hs
 obtain⟨ie,zv,hie,hz0,hzc⟩:=ry hz
 have hsz:ie.size=z:=by
  have:P.cellsOf e=ie.size:=by simp[Program.cellsOf,hie]
  omega
 by_cases hlen:len=0
 ·subst hlen
  have hps:ps = #[]:=by
   apply Array.eq_empty_of_size_eq_zero hl
  subst hps
  refine⟨#[],by simp[dB],by simp,?_⟩
  simp[Instr.buildSlice,run_underlying hu,sizeOf,typeInfo,hie,Instr.fill,newRow]
  congr 2
  apply Array.ext'
  simp
 ·have hzr:=SH (C:=C) (len:=len) hzc (by omega)
  rw[hzl]at hzr
  have hfd:=Ci (z:=z) (ps.toList.map fun p=>(p.1,ev t p.2)) 0 (zeros len zc) hd (by rw[nX,hzl];simp[hl])
  rw[Nat.zero_mul,List.take_zero,List.nil_append]at hfd
  obtain⟨us',hu',hL⟩:=Bj (C:=C) (ps.toList.map fun p=>(p.1,ev t p.2)) (ps.toList.map fun p=>(p.1,a.eval p.2)) _ _ _ (by simp) (fun i p q h1 h2=>by
   rw[List.getElem?_map]at h1 h2
   cases hx:ps.toList[i]? with
   | none=>rw[hx]at h1;cases h1
   | some x=>rw[hx]at h1 h2;cases h1;cases h2;exact aH ht x.2) hzr hfd
  refine⟨us',fun j c hj => ?_,?_,?_⟩
  ·obtain⟨u,hu2,hc⟩:=hL.get j c hj
   exact⟨u,by simpa using hu2,hc⟩
  ·have h1:=hL.length
   rw[flat_length (z:=z) _ (fun j e hj=>(Bq 0 _ hd j e hj).1),lX]at h1
   simp[hl]at h1
   omega
  ·have hpos:¬len*ie.size=0:=by
    rw[hsz]
    have:0<len*z:=Nat.mul_pos (by omega) h0
    omega
   refine run_buildSlice C.w ty e len _ us' ie zv hu hie hz0 (by rw[hsz];omega) hpos ?_
   rw[hsz]
   simpa using hu'
theorem Yl {ty e:TypeId} {z len:Nat} {zc:List AV} {ps:Array (Nat×Operand)} (hs:jU P ty=some (e,z)) (hz:jk P e=some zc) (hzl:zc.length=z) (hsm:len*z<=2 ^ 24) (hl:ps.size=len) (hd:qj z 0 (ps.toList.map fun p=>(p.1,ev t p.2))=true) :
  Yields P n (.buildSlice ty len ps) t h (.ro z (dB (ps.toList.map fun p=>(p.1,ev t p.2))) true) [] :=
 Yields.run fun C a o ho hh ht hn=>by
  obtain⟨arr,hcs,_,hr⟩:=Nr hs hz hzl hsm ht hl hd
  have hlen:(dB (ps.toList.map fun p=>(p.1,ev t p.2))).length=len:=by rw[lX];simp[hl]
  refine⟨.slice (some ⟨C.w.heap.size,0,none⟩) len len,C.allocI n (C.w.alloc (.cells arr e)),?_,Post.allocI hh (o := .cells arr e) rfl ?_ rfl rfl rfl⟩
  ·unfold execOp
   rw[ho]
   simp only[Sem.run_bind,hr,Result.andThen_ok]
   rfl
  ·have:=ZP (C:=C) (n:=n) (w:=C.w.alloc (.cells arr e)) (ty:=e) (full:=true) (cap:=len) rfl hcs (fun j e hj=>(Bq 0 _ hd j e hj).1) rfl (by omega) (fun _=>hlen.symm)
   rwa[hlen]at this
theorem Yk {ty e:TypeId} {z len:Nat} {zc:List AV} {ps:Array (Nat×Operand)} (hs:jU P ty=some (e,z)) (hz:jk P e=some zc) (hzl:zc.length=z) (hsm:len*z<=2 ^ 24) (hl:ps.size=len) (hd:qj z 0 (ps.toList.map fun p=>(p.1,ev t p.2))=true) :
  Yields P n (.buildSlice ty len ps) t h (.sl (n,0) z 0 len true) [((n,0),some (dB (ps.toList.map fun p=>(p.1,ev t p.2))).flatten)] :=
 Yields.run fun C a o ho hh ht hn=>by
  obtain⟨arr,hcs,hsz,hr⟩:=Nr hs hz hzl hsm ht hl hd
  refine⟨.slice (some ⟨C.w.heap.size,0,none⟩) len len,C.allocN n (C.w.alloc (.cells arr e)),?_,Post.allocN hh hn (arr:=arr) (ty:=e) rfl hcs ?_ rfl rfl rfl⟩
  ·unfold execOp
   rw[ho]
   simp only[Sem.run_bind,hr,Result.andThen_ok]
   rfl
  ·simp only[Conc,Ctx.allocN,if_true]
   exact⟨⟨_,_,_,rfl⟩,.inr trivial,fun _=>⟨len,0,rfl,Nat.le_refl _,.inl rfl,fun _=>⟨arr,e,heap_alloc_new C.w _,by omega⟩⟩⟩
def uN (P:Program) (h:Hp) (ty:TypeId) (x:AV):Option Int :=
 match x with
 | .ro _ es _=>if(jU P ty).isSome=true then some es.length else none
 | .sl m _ _ len _=>if(jU P ty).isSome=true/\(hget h m).isSome=true then some len else none
 | .sc (.slice _ m _)=>if(jU P ty).isSome=true then some m else none
 | .sc (.string s)=>if CP P ty=true then some s.size else none
 | .agg _=>(lJ P ty).map fun p=>(p.1:Int)
 | _=>none
theorem JY {P:Program} {ty:TypeId} {e:TypeId} {A:Option Addr} {l c:Nat} (hu:P.underlying ty=some (.slice e)) {tys:Array TypeId} {vs:Array Value} (h1:tys[0]? = some ty) (h2:vs[0]? = some (.slice A l c)) (r:TypeId) (w:World) :
  (Builtin.len_ tys r vs).run P w = .ok (goInt l) w:=by
 unfold Builtin.len_
 simp only[h1,h2,Sem.run_bind,run_underlying hu,Result.andThen_ok,Sem.run_pure]
theorem b54 {c:Call} {ty:TypeId} {x:Operand} {m:Int} (hb:c.callee = .builtin .len) (h1:c.argTypes[0]? = some ty) (hx:c.args[0]? = some x) (hl:uN P h ty (ev t x)=some m):Yields P n (.call c) t h (.sc (.int .i64 m)) [] :=
 Yields.pure fun C a o ho hh ht=>by
  refine⟨.int .i64 m,?_,by simp only[Conc]⟩
  rw[iI hb _ _ o ho]
  have h2:(c.args.map a.eval)[0]? = some (a.eval x):=by simp[hx]
  have hc:=aH ht x
  have key:(Builtin.len_ c.argTypes o.type (c.args.map a.eval)).run P C.w = .ok (goInt m) C.w:=by
   revert hc hl
   generalize ev t x=X
   intro hl hc
   unfold uN at hl
   split at hl
   ·split at hl
    ·rename_i hs
     cases hl
     obtain⟨⟨e,z⟩,hs⟩:=Option.isSome_iff_exists.1 hs
     simp only[Conc]at hc
     obtain⟨A,cap,hv,_⟩:=hc
     exact JY (iq hs).1 h1 (by rw[h2,hv]) _ _
    ·cases hl
   ·split at hl
    ·rename_i hs
     cases hl
     obtain⟨⟨e,z⟩,hs1⟩:=Option.isSome_iff_exists.1 hs.1
     simp only[Conc]at hc
     obtain⟨cap,of,hv,_⟩:=hc.2.2 ((hh.live _).2 hs.2)
     exact JY (iq hs1).1 h1 (by rw[h2,hv]) _ _
    ·cases hl
   ·split at hl
    ·rename_i hs
     cases hl
     obtain⟨⟨e,z⟩,hs⟩:=Option.isSome_iff_exists.1 hs
     simp only[Conc]at hc
     exact JY (iq hs).1 h1 (by rw[h2,hc]) _ _
    ·cases hl
   ·split at hl
    ·rename_i hs
     cases hl
     simp only[Conc]at hc
     unfold CP at hs
     split at hs
     ·rename_i hu
      unfold Builtin.len_
      simp only[h1,h2,hc,Sem.run_bind,run_underlying hu,Result.andThen_ok,Sem.run_pure]
     ·cases hs
    ·cases hl
   ·obtain⟨⟨p,z⟩,hp,rfl⟩:=Option.map_eq_some_iff.1 hl
    obtain⟨e,hu,_⟩:=wO hp
    unfold Builtin.len_
    simp only[h1,h2,Sem.run_bind,run_underlying hu,Result.andThen_ok,Sem.run_pure]
   ·cases hl
  simp only[builtin,Sem.run_bind,key,Result.andThen_ok]
  rfl
end
end Go.Proofs.Aw
namespace Go.Proofs.Aw
open Go
def G5:AV->List AV->Option AV
 | .sc (.int k a),[]=>some (.sc (.int k a))
 | .sc (.int k a),.sc (.int _ b)::r=>G5 (.sc (.int k (max a b))) r
 | _,_=>none
def GZ:AV->List AV->Option AV
 | .sc (.int k a),[]=>some (.sc (.int k a))
 | .sc (.int k a),.sc (.int _ b)::r=>GZ (.sc (.int k (min a b))) r
 | _,_=>none
theorem Nu {P:Program} {C:Ctx}:∀(xs:List AV) (us:List Value) (x v:AV) (u:Value),Conc C x u->ConcL C xs us->G5 x xs=some v->∃r,(us.foldlM Builtin.max2 u).run P C.w = .ok r C.w/\Conc C v r
 | [],us,x,v,u,hx,hl,h=>by
  simp only[ConcL]at hl
  subst hl
  unfold G5 at h
  split at h
  ·cases h;exact⟨u,rfl,hx⟩
  ·contradiction
  ·cases h
 | y::xs,us,x,v,u,hx,hl,h=>by
  simp only[ConcL]at hl
  obtain⟨w,vs,rfl,hy,hl⟩:=hl
  unfold G5 at h
  split at h
  ·contradiction
  ·rename_i k a k' b r h1
   cases h1
   simp only[Conc]at hx hy
   subst hx;subst hy
   obtain⟨r',h2,h3⟩:=Nu xs vs (.sc (.int k (max a b))) v (.int k (max a b)) (by simp only[Conc]) hl h
   refine⟨r',?_,h3⟩
   have e:(if b>a then b else a)=max a b:=by split<;>omega
   simp only[List.foldlM_cons,Sem.run_bind,Builtin.max2,Sem.run_pure,Result.andThen_ok,e]
   exact h2
  ·cases h
theorem Ns {P:Program} {C:Ctx}:∀(xs:List AV) (us:List Value) (x v:AV) (u:Value),Conc C x u->ConcL C xs us->GZ x xs=some v->∃r,(us.foldlM Builtin.min2 u).run P C.w = .ok r C.w/\Conc C v r
 | [],us,x,v,u,hx,hl,h=>by
  simp only[ConcL]at hl
  subst hl
  unfold GZ at h
  split at h
  ·cases h;exact⟨u,rfl,hx⟩
  ·contradiction
  ·cases h
 | y::xs,us,x,v,u,hx,hl,h=>by
  simp only[ConcL]at hl
  obtain⟨w,vs,rfl,hy,hl⟩:=hl
  unfold GZ at h
  split at h
  ·contradiction
  ·rename_i k a k' b r h1
   cases h1
   simp only[Conc]at hx hy
   subst hx;subst hy
   obtain⟨r',h2,h3⟩:=Ns xs vs (.sc (.int k (min a b))) v (.int k (min a b)) (by simp only[Conc]) hl h
   refine⟨r',?_,h3⟩
   have e:(if b<a then b else a)=min a b:=by split<;>omega
   simp only[List.foldlM_cons,Sem.run_bind,Builtin.min2,Sem.run_pure,Result.andThen_ok,e]
   exact h2
  ·cases h
def fA (h:Hp) (z:Nat):AV->Option (List (List AV))
 | .ro z' es _=>if z'=z then some es else none
 | .sl m z' off len _=>(hget h m).bind fun cs=>if z'=z/\off+len*z<=cs.length then some (chunk z len (cs.drop off))else none
 | .sc (.slice _ 0 _)=>some []
 | _=>none
structure SrcOk (P:Program) (C:Ctx) (z:Nat) (u:Value) (fs:List (List AV)):Prop where
 len:∀(j:Nat) (e:List AV),fs[j]? = some e->e.length=z
 news:∃(A:Option Addr) (c:Nat) (news:List Value),u = .slice A fs.length c/\fs.length<=c/\ConcL C fs.flatten news/\(∀w:World,w.heap=C.w.heap->(Builtin.firstCells z fs.length u).run P w = .ok news.toArray w)
theorem mr {P:Program} {C:Ctx} {h:Hp} (hh:HeapOk C h) {z:Nat} (h0:0<z) {v:AV} {u:Value} {fs:List (List AV)} (hc:Conc C v u) (he:fA h z v=some fs):SrcOk P C z u fs:=by
 have fromCells:∀(a:Addr) (c:Nat),(∀(j:Nat) (e:List AV),fs[j]? = some e->e.length=z)->fs.length<=c->(∀(j:Nat) (c:AV),fs.flatten[j]? = some c->∃u,C.w.cell? (a.add j)=some u/\Conc C c u)->u = .slice (some a) fs.length c->SrcOk P C z u fs:=by
  intro a c hl hcap hcell hu
  refine⟨hl,some a,c,(List.range (fs.length*z)).map fun j=>(C.w.cell? (a.add j)).getD undef,hu,hcap,?_,?_⟩
  ·refine ConcL.mk (by rw[flat_length fs hl];simp) fun i c u h1 h2 => ?_
   obtain⟨u',hu',hcu⟩:=hcell i c h1
   have hi:i<fs.length*z:=by rw[<-flat_length fs hl];exact(List.getElem?_eq_some_iff.1 h1).1
   rw[List.getElem?_map,List.getElem?_range hi,Option.map_some,hu',Option.getD_some]at h2
   cases h2;exact hcu
  ·intro w hw
   rw[hu]
   have hg:∀(j:Nat) (v:Value),((List.range (fs.length*z)).map fun j=>(C.w.cell? (a.add j)).getD undef)[j]? = some v->w.cell? (a.add j)=some v:=by
    intro j v hj
    have hi:j<fs.length*z:=by
     have:=(List.getElem?_eq_some_iff.1 hj).1
     simpa using this
    rw[List.getElem?_map,List.getElem?_range hi,Option.map_some]at hj
    have hfl:fs.flatten[j]? = some (fs.flatten[j]'(by rw[flat_length fs hl];exact hi)):=List.getElem?_eq_getElem _
    obtain⟨u',hu',_⟩:=hcell j _ hfl
    rw[hu',Option.getD_some]at hj
    cases hj
    rw[World.cell?,hw]
    exact hu'
   exact run_firstCells_some (P:=P) w z fs.length a fs.length c _ (by simp) hg
 unfold fA at he
 split at he
 ·split at he
  ·rename_i z' es full hz
   subst hz
   cases he
   simp only[Conc]at hc
   obtain⟨A,cap,hu,hle,_,hne⟩:=hc
   by_cases hnil:fs=[]
   ·subst hnil
    refine⟨fun j e hj=>by simp at hj,A,cap,[],hu,hle,by simp only[List.flatten_nil,ConcL],fun w hw => ?_⟩
    rw[hu]
    cases A with
    | none=>rfl
    | some a=>simp[Builtin.firstCells,loadCells,loadCellsFrom]
   ·obtain⟨a,rfl,hb,hm,hE⟩:=hne hnil
    have hl:∀(j:Nat) (e:List AV),fs[j]? = some e->e.length=z':=fun j e hj=>(hE.get j e hj).1
    refine fromCells a cap hl hle (fun j c hj => ?_) hu
    obtain⟨e,he,hce⟩:=U7 h0 fs hl j c hj
    obtain⟨_,hM⟩:=hE.get _ e he
    obtain⟨u',hu',hcu⟩:=hM.get _ c hce
    rw[add_add,Nat.zero_add,Nat.zero_add,Nat.mul_comm,Nat.div_add_mod]at hu'
    exact⟨u',hu',hcu⟩
  ·cases he
 ·obtain⟨cs,hg,he⟩:=Option.bind_eq_some_iff.1 he
  split at he
  ·rename_i m z' off len own _ hz
   obtain⟨rfl,hlen⟩:=hz
   cases he
   simp only[Conc]at hc
   obtain⟨cap,o,hu,hle,hof,_⟩:=hc.2.2 (hh.get hg)
   by_cases hl0:len=0
   ·subst hl0
    refine⟨fun j e hj=>by simp[chunk]at hj,some ⟨C.J m,o,none⟩,cap,[],by rw[hu];rfl,by simp[chunk],by simp only[chunk,List.flatten_nil,ConcL],fun w hw => ?_⟩
    rw[hu]
    simp[Builtin.firstCells,loadCells,loadCellsFrom,chunk]
   ·have hof':o=C.bs m+off:=by
     rcases hof with h3 | h3
     ·exact h3
     ·omega
    subst hof'
    have hcl:(chunk z' len (cs.drop off)).length=len:=gq _ _ _
    have hl:∀(j:Nat) (e:List AV),(chunk z' len (cs.drop off))[j]? = some e->e.length=z':=fun j e hj=>by
     obtain⟨h1,rfl⟩:=qZ _ _ _ _ _ hj
     have:(j+1)*z'<=len*z':=Nat.mul_le_mul_right _ h1
     rw[Nat.succ_mul]at this
     simp;omega
    refine fromCells ⟨C.J m,C.bs m+off,none⟩ cap hl (by rw[hcl];exact hle) (fun j c hj => ?_) (by rw[hcl];exact hu)
    obtain⟨e,he,hce⟩:=U7 h0 _ hl j c hj
    obtain⟨h1,rfl⟩:=qZ _ _ _ _ _ he
    rw[List.getElem?_take,if_pos (Nat.mod_lt _ h0),List.getElem?_drop,List.getElem?_drop]at hce
    have e1:off+(j / z'*z'+j % z')=off+j:=by rw[Nat.mul_comm,Nat.div_add_mod]
    rw[e1]at hce
    obtain⟨u',hu',hcu⟩:=vY (hh.obj m cs hg) _ c hce
    rw[kM]at hu'
    exact⟨u',by rw[kM,Nat.add_assoc];exact hu',hcu⟩
  ·cases he
 ·cases he
  simp only[Conc]at hc
  subst hc
  rename_i A c
  refine⟨fun j e hj=>by simp at hj,A,c,[],rfl,Nat.zero_le _,by simp only[List.flatten_nil,ConcL],fun w _ => ?_⟩
  cases A with
  | none=>rfl
  | some a=>simp[Builtin.firstCells,loadCells,loadCellsFrom]
 ·cases he
def dA (P:Program) (e:TypeId):Nat:=((P.info? e).map (·.bytes)).getD 0
theorem lV {P:Program} {w:World} {t xt ty e:TypeId} {i:TypeInfo} {zv:Value} (ht:P.underlying t=some (.slice e)) (hxt:P.underlying xt=some (.slice e)) (hi:P.info? e=some i) (hz:i.zero=some zv)
  (A B:Option Addr) (sLen sCap k c:Nat) (olds news:List Value)
  (ho:∀w':World,w'.heap=w.heap->(Builtin.firstCells i.size sLen (.slice A sLen sCap)).run P w' = .ok olds.toArray w')
  (hn:∀w':World,w'.heap=w.heap->(Builtin.firstCells i.size k (.slice B k c)).run P w' = .ok news.toArray w')
  (hg:sCap<sLen+k) (h47:(sLen+k)*i.bytes<=140737488355328) (h63:sLen+k<=9223372036854775807) :
  ∃cap zs,(Builtin.append_ #[t,xt] ty #[.slice A sLen sCap,.slice B k c]).run P w = .ok (.slice (some ⟨w.heap.size,0,none⟩) (sLen+k) cap) (w.drew.alloc (.cells (olds.toArray++news.toArray++zs) e))/\sLen+k<=cap/\zs.size=(cap-(sLen+k))*zv.cells.size:=by
 have hn':¬(sLen+k<=sCap):=by omega
 have h63':¬(9223372036854775807<((sLen:Int)+(k:Int))):=by omega
 have hfit:=growslice_fits (bytes:=i.bytes) hg h47
 have h48':¬(281474976710656<Builtin.nextslicecap (sLen+k) sCap*i.bytes):=by omega
 refine⟨grownCap w (sLen+k) sCap e,Builtin.zeroCells zv.cells (grownCap w (sLen+k) sCap e-(sLen+k)),?_,grownCap_ge _ _ _ _,by rw[size_zeroCells]⟩
 have hf:=hn w.drew rfl
 have hfo:=ho w.drew rfl
 simp[Builtin.append_,run_underlying ht,run_underlying hxt,sizeOf,typeInfo,zeroValue,hi,hz,Builtin.lenOf,hn',h63',h48',Question.forced,hf,hfo,newRow,grownCap]
 congr 2
 apply Array.ext'
 simp[List.append_assoc]
theorem tN {P:Program} {w:World} {t xt ty e:TypeId} {i:TypeInfo} (ht:P.underlying t=some (.slice e)) (hxt:P.underlying xt=some (.slice e)) (hi:P.info? e=some i)
  (A B:Option Addr) (sLen sCap c:Nat) (hs:sLen<=sCap) (hn:(Builtin.firstCells i.size 0 (.slice B 0 c)).run P w = .ok #[] w) :
  (Builtin.append_ #[t,xt] ty #[.slice A sLen sCap,.slice B 0 c]).run P w = .ok (.slice A sLen sCap) w:=by
 cases A<;>simp[Builtin.append_,run_underlying ht,run_underlying hxt,sizeOf,typeInfo,hi,Builtin.lenOf,hs,hn,storeCells]
end Go.Proofs.Aw
namespace Go.Proofs.Aw
open Go
def Ctx.move (C:Ctx) (n:Nat) (m:Nm) (b k0:Nat) (w:World):Ctx where
 J:=fun k=>if k=(n,0)then b else C.J k
 bs:=fun k=>if k=(n,0)then k0 else C.bs k
 live:=fun k=>k=(n,0)\/(C.live k/\k≠m)
 kn:=fun i=>C.kn i\/i.1=n
 mt:=fun b'=>(C.mt b'/\b'<C.w.heap.size)\/b'=b
 w:=w
theorem Post.move {C:Ctx} {n:Nat} {h:Hp} {r:AV} {u:Value} {m:Nm} {cs cs':List AV} {b k0:Nat} {arr':Array Value} {ty:TypeId} (hh:HeapOk C h) (hn:(∀k,¬C.kn (n,k))) (hg:hget h m=some cs) {w:World}
  (hb':w.heap[b]? = some (.cells arr' ty (0,0))) (hsz:C.w.heap.size<=w.heap.size) (hot:∀k,k<C.w.heap.size->k≠C.J m->w.heap[k]? = C.w.heap[k]?) (hbm:b=C.J m\/C.w.heap.size<=b)
  (hcs:∀(j:Nat) (c:AV),cs'[j]? = some c->∃u,arr'[k0+j]? = some u/\Conc C c u) (hr:Conc (C.move n m b k0 w) r u) (ho:w.os=C.w.os) (ht:w.tape=C.w.tape) (hu:w.output=C.w.output) :
  Post C n h r [(m,none),((n,0),some cs')] u (C.move n m b k0 w):=by
 have hl:=hh.get hg
 have hne:∀k,C.live k->k≠(n,0):=fun k hk e=>hn 0 (by have:=hh.kn k hk;rw[e]at this;exact this)
 have hmn:=hne m hl
 have hmt:=hh.mt m hl
 have hml:=hh.lt hl
 have hrho:∀k,C.live k->(C.move n m b k0 w).J k=C.J k:=fun k hk=>by simp[Ctx.move,hne k hk]
 have hbs:∀k,C.live k->(C.move n m b k0 w).bs k=C.bs k:=fun k hk=>by simp[Ctx.move,hne k hk]
 have hget':∀k,hget (hap [(m,none),((n,0),some cs')] h) k=if(n,0)=k then some cs' else if m=k then none else hget h k:=fun k=>by
  simp only[hap];rw[dF,mi]
 have le:C.le (C.move n m b k0 w):=by
  refine⟨hsz,fun k hk hmk=>hot k hk (fun e=>hmk (by rw[e];exact hmt)),fun k hk hmk => ?_,fun _ h => .inl h,fun k hk hlk => ?_,fun k hk hlk ds ty' hc => ?_⟩
  ·rcases hmk with h1 | h1
   ·exact h1.1
   ·rcases hbm with h2 | h2
    ·rw[h1,h2];exact hmt
    ·omega
  ·have hk':k≠(n,0):=fun e=>hn 0 (by rw[e]at hk;exact hk)
   rcases hlk with h1 | h1
   ·exact absurd h1 hk'
   ·exact⟨h1.1,by simp[Ctx.move,hk']⟩
  ·have hk':k≠(n,0):=fun e=>hn 0 (by rw[e]at hk;exact hk)
   rcases hlk with h1 | h1
   ·exact absurd h1 hk'
   ·exact⟨ds,ty',(hot _ (hh.lt h1.1) (fun e=>h1.2 (hh.inj _ _ h1.1 hl e))).trans hc,rfl⟩
 have hbt:b<w.heap.size:=by
  rcases Nat.lt_or_ge b w.heap.size with h2 | h2
  ·exact h2
  ·rw[Array.getElem?_eq_none h2]at hb';cases hb'
 have hbne:∀k,C.live k->k≠m->C.J k≠b:=fun k hk hkm e=>by
  rcases hbm with h2 | h2
  ·exact hkm (hh.inj _ _ hk hl (e.trans h2))
  ·have:=hh.lt hk;omega
 refine⟨le,fun _=>Iff.rfl,⟨fun k => ?_,fun k ds hk => ?_,fun k k' hk hk' he => ?_,fun k hk => ?_,fun k hk => ?_⟩,hr,fun k hk hno=>hot k hk (hno m (by simp) hl),fun k hk => ?_,ho,ht,hu,fun k hk => ?_,fun k hk => ?_⟩
 ·rw[hget']
  by_cases e:(n,0)=k
  ·simp[Ctx.move,<-e]
  ·rw[if_neg e]
   by_cases e2:m=k
   ·simp[Ctx.move,<-e2,hmn]
   ·rw[if_neg e2,<-hh.live k]
    simp[Ctx.move,Ne.symm e,Ne.symm e2]
 ·rw[hget']at hk
  by_cases e:(n,0)=k
  ·rw[if_pos e]at hk
   subst e
   cases hk
   refine⟨arr',ty,by simp[Ctx.move,hb'],fun j c hj => ?_⟩
   obtain⟨u',hu',hc⟩:=hcs j c hj
   exact⟨u',by simpa only[Ctx.move,if_true]using hu',hc.mono le⟩
  ·rw[if_neg e]at hk
   by_cases e2:m=k
   ·rw[if_pos e2]at hk;cases hk
   ·rw[if_neg e2]at hk
    have hlk:=hh.get hk
    obtain⟨arr1,ty1,ha,hc⟩:=hh.obj k ds hk
    refine⟨arr1,ty1,?_,fun j c hj => ?_⟩
    ·rw[hrho k hlk]
     exact(hot _ (hh.lt hlk) (fun he=>e2 (hh.inj _ _ hlk hl he).symm)).trans ha
    ·obtain⟨u',hu',hc'⟩:=hc j c hj
     exact⟨u',by rw[hbs k hlk];exact hu',hc'.mono le⟩
 ·rcases hk with rfl | ⟨hk,hkm⟩<;>rcases hk' with rfl | ⟨hk',hkm'⟩
  ·rfl
  ·rw[hrho k' hk']at he
   simp[Ctx.move]at he
   exact absurd he.symm (hbne k' hk' hkm')
  ·rw[hrho k hk]at he
   simp[Ctx.move]at he
   exact absurd he (hbne k hk hkm)
  ·rw[hrho k hk,hrho k' hk']at he
   exact hh.inj k k' hk hk' he
 ·rcases hk with rfl | ⟨hk,_⟩
  ·simp[Ctx.move]
  ·rw[hrho k hk];exact .inl ⟨hh.mt k hk,hh.lt hk⟩
 ·rcases hk with rfl | ⟨hk,_⟩
  ·exact .inr rfl
  ·exact .inl (hh.kn k hk)
 ·simp only[Ctx.move]
  constructor
  ·rintro(h1 | h1)
   ·exact h1.1
   ·rcases hbm with h2 | h2
    ·rw[h1,h2];exact hmt
    ·omega
  ·intro h1;exact .inl ⟨h1,hk⟩
 ·rcases hk with rfl | ⟨hk,_⟩
  ·rcases hbm with h2 | h2
   ·exact .inr (.inr ⟨m,by simp,hl,by simp[Ctx.move,h2]⟩)
   ·exact .inr (.inl (by simp[Ctx.move,h2]))
  ·exact .inl ⟨hk,hrho k hk⟩
 ·simp at hk
  rcases hk with rfl | rfl
  ·exact .inl hl
  ·exact .inr rfl
theorem kD (z:Nat):∀(k:Nat) (cs:List AV),cs.length=k*z->(chunk z k cs).flatten=cs
 | 0,cs,h=>by simp[chunk];exact List.length_eq_zero_iff.1 (by simpa using h)
 | k+1,cs,h=>by
  simp only[chunk,List.flatten_cons]
  rw[kD z k (cs.drop z) (by rw[List.length_drop,h,Nat.succ_mul];omega)]
  exact List.take_append_drop z cs
section
variable {P:Program} {n:Nat} {t:Tp} {h:Hp}
theorem Le {C:Ctx} {a:Act} (ht:TOk C t a) (c:Call):ConcL C (c.args.toList.map (ev t)) (c.args.map a.eval).toList:=by
 rw[Array.toList_map]
 exact ConcL.evs ht _
theorem b53 {c:Call} {x:AV} {xs:List AV} {v:AV} (hb:c.callee = .builtin .max) (hx:c.args.toList.map (ev t)=x::xs) (hm:G5 x xs=some v):Yields P n (.call c) t h v [] :=
 Yields.pure fun C a o ho hh ht=>by
  have hL:=Le ht c
  rw[hx]at hL
  simp only[ConcL]at hL
  obtain⟨u,us,he,hu,hus⟩:=hL
  obtain⟨r,hr,hv⟩:=Nu (P:=P) xs us x v u hu hus hm
  refine⟨r,?_,hv⟩
  rw[iI hb _ _ o ho]
  have:(Builtin.max_ c.argTypes o.type (c.args.map a.eval)).run P C.w = .ok r C.w:=by
   unfold Builtin.max_
   simp only[he,hr]
  simp only[builtin,Sem.run_bind,this,Result.andThen_ok]
  rfl
theorem b55 {c:Call} {b:Builtin} {xs:List AV} {v:AV} (hb:c.callee = .builtin b) (hx:c.args.toList.map (ev t)=xs) (hm:Ry b xs=some v):Yields P n (.call c) t h v [] :=
 Yields.pure fun C a o ho hh ht=>by
  have hL:=Le ht c
  rw[hx]at hL
  unfold Ry at hm
  split at hm
  ·cases hm
   simp only[ConcL,Conc]at hL
   obtain⟨_,_,he,rfl,rfl⟩:=hL
   refine⟨_,?_,by simp only[Conc];rfl⟩
   rw[iI hb _ _ o ho]
   have e:c.args.map a.eval = #[_]:=Array.ext' he
   rw[e]
   rfl
  ·cases hm
   simp only[ConcL,Conc]at hL
   obtain⟨_,_,he,rfl,rfl⟩:=hL
   refine⟨_,?_,by simp only[Conc];rfl⟩
   rw[iI hb _ _ o ho]
   have e:c.args.map a.eval = #[_]:=Array.ext' he
   rw[e]
   rfl
  ·cases hm
   simp only[ConcL,Conc]at hL
   obtain⟨_,_,he,rfl,_,_,rfl,rfl,rfl⟩:=hL
   refine⟨_,?_,by simp only[Conc];rfl⟩
   rw[iI hb _ _ o ho]
   have e:c.args.map a.eval = #[_,_]:=Array.ext' he
   rw[e]
   rfl
  ·cases hm
theorem b52 {c:Call} {x:AV} {xs:List AV} {v:AV} (hb:c.callee = .builtin .min) (hx:c.args.toList.map (ev t)=x::xs) (hm:GZ x xs=some v):Yields P n (.call c) t h v [] :=
 Yields.pure fun C a o ho hh ht=>by
  have hL:=Le ht c
  rw[hx]at hL
  simp only[ConcL]at hL
  obtain⟨u,us,he,hu,hus⟩:=hL
  obtain⟨r,hr,hv⟩:=Ns (P:=P) xs us x v u hu hus hm
  refine⟨r,?_,hv⟩
  rw[iI hb _ _ o ho]
  have:(Builtin.min_ c.argTypes o.type (c.args.map a.eval)).run P C.w = .ok r C.w:=by
   unfold Builtin.min_
   simp only[he,hr]
  simp only[builtin,Sem.run_bind,this,Result.andThen_ok]
  rfl
def jX (z:Nat):AV->Option (List (List AV))
 | .ro z' es true=>if z'=z then some es else none
 | .sc (.slice none 0 0)=>some []
 | _=>none
theorem iw {C:Ctx} {z:Nat} {es:List (List AV)} {full:Bool} {u:Value}:Conc C (.ro z es full) u<->∃A cap,u = .slice A es.length cap/\es.length<=cap/\(full=true->cap=es.length) /\
   (es≠[]->∃a,A=some a/\a.block<C.w.heap.size/\¬C.mt a.block/\ConcE C a z 0 es):=Iff.rfl
theorem Jn {C:Ctx} (hh:HeapOk C h) {z:Nat} (h0:0<z) {v:AV} {u:Value} {es:List (List AV)} (hc:Conc C v u) (he:jX z v=some es) :
  SrcOk P C z u es/\(∃A,u = .slice A es.length es.length)/\Conc C (.ro z es false) u:=by
 unfold jX at he
 split at he
 ·split at he
  ·rename_i z' es' hz
   cases he
   subst hz
   have hs:SrcOk P C z' u es:=mr hh h0 hc (by simp[fA])
   obtain⟨A,cap,hu,hle,hf,hne⟩:=iw.1 hc
   exact⟨hs,⟨A,by rw[hu,hf rfl]⟩,iw.2 ⟨A,cap,hu,hle,fun h=>(nomatch h),hne⟩⟩
  ·cases he
 ·cases he
  have hs:SrcOk P C z u []:=mr hh h0 hc (by simp[fA])
  simp only[Conc]at hc
  subst hc
  exact⟨hs,⟨none,rfl⟩,iw.2 ⟨none,0,rfl,Nat.le_refl _,fun h=>(nomatch h),fun h=>absurd rfl h⟩⟩
 ·cases he
structure AppT (P:Program) (ty xt e:TypeId) (z:Nat) (tot:Nat):Prop where
 hs:jU P ty=some (e,z)
 hx:jU P xt=some (e,z)
 hz:(jk P e).map List.length=some z
 hb:tot*dA P e<=140737488355328
 hm:tot<=9223372036854775807
theorem AppT.info {ty xt e:TypeId} {z tot:Nat} (hA:AppT P ty xt e z tot):∃i zv,P.underlying ty=some (.slice e)/\P.underlying xt=some (.slice e)/\P.info? e=some i/\i.zero=some zv/\zv.cells.size=z/\i.size=z/\0<z/\tot*i.bytes<=140737488355328:=by
 obtain⟨hu,he,h0⟩:=iq hA.hs
 obtain⟨hu',_,_⟩:=iq hA.hx
 obtain⟨zc,hzc,hzl⟩:=Option.map_eq_some_iff.1 hA.hz
 obtain⟨i,zv,hi,hz0,rfl⟩:=ry hzc
 refine⟨i,zv,hu,hu',hi,hz0,by simpa using hzl,?_,h0,?_⟩
 ·have:P.cellsOf e=i.size:=by simp[Program.cellsOf,hi]
  omega
 ·have hb:=hA.hb
  simp only[dA,hi,Option.map_some,Option.getD_some]at hb
  exact hb
theorem jJ {c:Call} {ty xt:TypeId} {s x:Operand} (hb:c.callee = .builtin .append) (hty:c.argTypes = #[ty,xt]) (ha:c.args = #[s,x]) {a:Act} {o:Oper} (ho:o.op = .call c) {w w':World} {r:Value}
  (h:(Builtin.append_ #[ty,xt] o.type #[a.eval s,a.eval x]).run P w = .ok r w'):(execOp a.eval o).run P w = .ok (.value r) w':=by
 rw[iI hb _ _ o ho,hty,ha]
 simp only[builtin,Sem.run_bind,List.map_toArray,List.map_cons,List.map_nil,h,Result.andThen_ok]
 rfl
theorem PM {c:Call} {ty xt e:TypeId} {s x:Operand} {z:Nat} {es fs:List (List AV)} (hb:c.callee = .builtin .append) (hty:c.argTypes = #[ty,xt]) (ha:c.args = #[s,x]) (he:jX z (ev t s)=some es) (hf:fA h z (ev t x)=some fs)
  (hA:AppT P ty xt e z (es.length+fs.length)):Yields P n (.call c) t h (.ro z (es++fs) false) [] :=
 Yields.run fun C a o ho hh ht hn=>by
  obtain⟨i,zv,hu,hu',hi,hz0,hzs,hsz,h0,hby⟩:=hA.info
  obtain⟨hs1,⟨A,hv⟩,hc1⟩:=Jn (P:=P) hh h0 (aH ht s) he
  have hs2:=mr (P:=P) hh h0 (aH ht x) hf
  obtain⟨B,c2,news,hv2,_,hn2,hr2⟩:=hs2.news
  by_cases hfs:fs=[]
  ·subst hfs
   refine⟨a.eval s,C.same n C.w,?_,?_⟩
   ·refine jJ hb hty ha ho ?_
    rw[hv,hv2]
    have hnil:news=[]:=by
     have:=hn2.length
     simpa using this.symm
    have:=hr2 C.w rfl
    rw[hv2,hnil,<-hsz]at this
    exact tN hu hu' hi A B _ _ c2 (Nat.le_refl _) this
   ·rw[List.append_nil]
    exact Post.pure hh hc1 rfl rfl rfl rfl
  ·obtain⟨A',c1,olds,hv1,_,hn1,hr1⟩:=hs1.news
   have hlen:0<fs.length:=List.length_pos_iff.2 hfs
   rw[hv]at hv1
   obtain⟨e1,-,e2⟩:=Value.slice.inj hv1
   subst e1 e2
   obtain⟨cap,zs,hrun,hcap,_⟩:=lV (P:=P) (w:=C.w) (ty:=o.type) hu hu' hi hz0 A B es.length es.length fs.length c2 olds news
    (fun w' hw=>by have:=hr1 w' hw;rw[hv]at this;rw[hsz];exact this) (fun w' hw=>by have:=hr2 w' hw;rw[hv2]at this;rw[hsz];exact this) (by omega) hby hA.hm
   refine⟨_,C.allocI n (C.w.drew.alloc (.cells (olds.toArray++news.toArray++zs) e)),jJ hb hty ha ho (by rw[hv,hv2];exact hrun),?_⟩
   refine Post.allocI hh (o := .cells (olds.toArray++news.toArray++zs) e) rfl ?_ rfl rfl rfl
   have hlens:∀(j:Nat) (e:List AV),(es++fs)[j]? = some e->e.length=z:=fun j e hj=>by
    rcases List.mem_append.1 (List.mem_of_getElem? hj)with h1 | h1
    ·obtain⟨k,hk⟩:=List.mem_iff_getElem?.1 h1;exact hs1.len k e hk
    ·obtain⟨k,hk⟩:=List.mem_iff_getElem?.1 h1;exact hs2.len k e hk
   have hL:=hn1.append hn2
   have:=ZP (C:=C) (n:=n) (w:=C.w.drew.alloc (.cells (olds.toArray++news.toArray++zs) e)) (ty:=e) (cs:=(es++fs).flatten) (es:=es++fs) (z:=z) (cap:=cap) (full:=false) rfl (fun j c hj=>by
    rw[List.flatten_append]at hj
    obtain⟨u,hu,hcu⟩:=hL.get j c hj
    refine⟨u,?_,hcu⟩
    rw[Array.getElem?_append_left]
    ·simpa using hu
    ·have:=(List.getElem?_eq_some_iff.1 hu).1
     simpa using this) hlens rfl (by simpa using hcap) (fun h=>by cases h)
   rw[List.length_append]at this
   exact this
theorem LX {c:Call} {ty xt e:TypeId} {s x:Operand} {z:Nat} {es fs:List (List AV)} (hb:c.callee = .builtin .append) (hty:c.argTypes = #[ty,xt]) (ha:c.args = #[s,x]) (he:jX z (ev t s)=some es) (hf:fA h z (ev t x)=some fs)
  (hA:AppT P ty xt e z (es.length+fs.length)) (hne:fs≠[]):Yields P n (.call c) t h (.sl (n,0) z 0 (es.length+fs.length) true) [((n,0),some (es.flatten++fs.flatten))] :=
 Yields.run fun C a o ho hh ht hn=>by
  obtain⟨i,zv,hu,hu',hi,hz0,hzs,hsz,h0,hby⟩:=hA.info
  obtain⟨hs1,⟨A,hv⟩,_⟩:=Jn (P:=P) hh h0 (aH ht s) he
  have hs2:=mr (P:=P) hh h0 (aH ht x) hf
  obtain⟨B,c2,news,hv2,_,hn2,hr2⟩:=hs2.news
  obtain⟨A',c1,olds,hv1,_,hn1,hr1⟩:=hs1.news
  have hlen:0<fs.length:=List.length_pos_iff.2 hne
  rw[hv]at hv1
  obtain⟨e1,-,e2⟩:=Value.slice.inj hv1
  subst e1 e2
  obtain⟨cap,zs,hrun,hcap,hzz⟩:=lV (P:=P) (w:=C.w) (ty:=o.type) hu hu' hi hz0 A B es.length es.length fs.length c2 olds news
   (fun w' hw=>by have:=hr1 w' hw;rw[hv]at this;rw[hsz];exact this) (fun w' hw=>by have:=hr2 w' hw;rw[hv2]at this;rw[hsz];exact this) (by omega) hby hA.hm
  refine⟨_,C.allocN n (C.w.drew.alloc (.cells (olds.toArray++news.toArray++zs) e)),jJ hb hty ha ho (by rw[hv,hv2];exact hrun),?_⟩
  have hL:=hn1.append hn2
  refine Post.allocN hh hn (arr:=olds.toArray++news.toArray++zs) (ty:=e) rfl (fun j c hj => ?_) ?_ rfl rfl rfl
  ·obtain⟨u,hu,hcu⟩:=hL.get j c hj
   refine⟨u,?_,hcu⟩
   rw[Array.getElem?_append_left]
   ·simpa using hu
   ·have:=(List.getElem?_eq_some_iff.1 hu).1
    simpa using this
  ·simp only[Conc,Ctx.allocN,if_true]
   refine⟨⟨_,_,_,rfl⟩,.inr trivial,fun _=>⟨cap,0,rfl,hcap,.inl rfl,fun _=>⟨_,e,heap_alloc_new C.w.drew _,?_⟩⟩⟩
   have l1:=hn1.length
   have l2:=hn2.length
   rw[flat_length es hs1.len]at l1
   rw[flat_length fs hs2.len]at l2
   have:(es.length+fs.length)*z+(cap-(es.length+fs.length))*z=cap*z:=by rw[<-Nat.add_mul];congr 1;omega
   rw[Nat.add_mul]at this
   simp[hzz,hzs]
   omega
theorem LW {c:Call} {ty xt e:TypeId} {s x:Operand} {z off len:Nat} {m:Nm} {cs:List AV} {fs:List (List AV)} (hb:c.callee = .builtin .append) (hty:c.argTypes = #[ty,xt]) (ha:c.args = #[s,x]) (hsv:ev t s = .sl m z off len true)
  (hg:hget h m=some cs) (hcl:cs.length=off+len*z) (hf:fA h z (ev t x)=some fs) (h1:fs.flatten.all AV.one=true) (hA:AppT P ty xt e z (len+fs.length)) :
  Yields P n (.call c) t h (.sl (n,0) z 0 (len+fs.length) true) [(m,none),((n,0),some (cs.drop off++fs.flatten))] :=
 Yields.run fun C a o ho hh ht hn=>by
  obtain⟨i,zv,hu,hu',hi,hz0,hzs,hsz,h0,hby⟩:=hA.info
  have hc1:=aH ht s
  rw[hsv]at hc1
  have hs1:SrcOk P C z (a.eval s) (chunk z len (cs.drop off)):=mr hh h0 hc1 (by simp[fA,hg,hcl])
  simp only[Conc]at hc1
  obtain⟨cap,of,hv,hle,hof,hown⟩:=hc1.2.2 (hh.get hg)
  obtain⟨arr,ty0,harr,hcap⟩:=hown trivial
  have hal:arr.toList.length=arr.size:=by simp
  have hs2:=mr (P:=P) hh h0 (aH ht x) hf
  obtain⟨B,c2,news,hv2,_,hn2,hr2⟩:=hs2.news
  have l2:=hn2.length
  rw[flat_length fs hs2.len]at l2
  obtain⟨arr0,ty1,ha0,hobj⟩:=hh.obj m cs hg
  rw[harr]at ha0
  cases ha0
  generalize hbo:C.bs m=bo at hof hcap hobj
  have hdl:(cs.drop off).length=len*z:=by rw[List.length_drop,hcl];omega
  have hobj':∀(j:Nat) (c:AV),(cs.drop off)[j]? = some c->∃u,arr[bo+off+j]? = some u/\Conc C c u:=fun j c hj=>by
   rw[List.getElem?_drop]at hj
   rw[Nat.add_assoc];exact hobj _ c hj
  have harrlen:bo+off+len*z<=arr.size:=by
   have:len*z<=cap*z:=Nat.mul_le_mul_right _ hle
   omega
  have hfz:∀w':World,w'.heap=C.w.heap->(Builtin.firstCells i.size fs.length (.slice B fs.length c2)).run P w' = .ok news.toArray w':=fun w' hw=>by
   have:=hr2 w' hw;rw[hv2]at this;rw[hsz];exact this
  have hLf:∀(arr':Array Value) (k0:Nat),(∀(j:Nat) (c:AV),(cs.drop off)[j]? = some c->∃u,arr'[k0+j]? = some u/\Conc C c u)->(∀(j:Nat) (u:Value),news[j]? = some u->arr'[k0+(len*z+j)]? = some u)->∀(j:Nat) (c:AV),(cs.drop off++fs.flatten)[j]? = some c->∃u,arr'[k0+j]? = some u/\Conc C c u:=by
   intro arr' k0 hA1 hA2 j c hj
   by_cases hjl:j<(cs.drop off).length
   ·rw[List.getElem?_append_left hjl]at hj
    exact hA1 j c hj
   ·rw[List.getElem?_append_right (by omega)]at hj
    obtain⟨u,hu,hcu⟩:=hn2.get _ c hj
    have:=hA2 _ u hu
    rw[hdl,show len*z+(j-len*z)=j from by omega]at this
    exact⟨u,this,hcu⟩
  have hml:=hh.lt (hh.get hg)
  by_cases hf0:fs=[]
  ·
   subst hf0
   have hnil:news=[]:=by simpa using l2.symm
   refine⟨a.eval s,C.move n m (C.J m) (bo+off) C.w,?_,Post.move hh hn hg harr (Nat.le_refl _) (fun _ _ _=>rfl) (.inl rfl) (hLf arr _ hobj' (fun j u hj=>by rw[hnil]at hj;simp at hj)) ?_ rfl rfl rfl⟩
   ·refine jJ hb hty ha ho ?_
    rw[hv,hv2]
    have:=hfz C.w rfl
    rw[hnil]at this
    exact tN hu hu' hi _ B _ _ c2 hle this
   ·simp only[Conc,Ctx.move,if_true]
    refine⟨⟨_,_,_,hv⟩,.inr trivial,fun _=>⟨cap,of,by rw[hv];rfl,by simpa using hle,hof,fun _=>⟨arr,ty0,harr,hcap⟩⟩⟩
  have hlen:0<fs.length:=List.length_pos_iff.2 hf0
  by_cases hroom:len+fs.length<=cap
  ·
   have hof0:of=bo+off:=by
    rcases hof with h2 | h2
    ·exact h2
    ·omega
   subst hof0
   have hone:∀v∈news,v.oneCell'=true:=fun v hv'=>by
    obtain⟨k,hk⟩:=List.mem_iff_getElem?.1 hv'
    have hkl:k<fs.flatten.length:=by rw[flat_length fs hs2.len,l2];exact(List.getElem?_eq_some_iff.1 hk).1
    obtain⟨u',hu',hcu⟩:=hn2.get k (fs.flatten[k]) (List.getElem?_eq_getElem hkl)
    rw[hk]at hu';cases hu'
    exact y7 hcu (List.all_eq_true.1 h1 _ (List.getElem_mem _))
   have htot:bo+off+len*z+news.length<=arr.size:=by
    have:(len+fs.length)*z<=cap*z:=Nat.mul_le_mul_right _ hroom
    rw[Nat.add_mul]at this
    omega
   have hst:=run_storeCells_at (P:=P) (C.J m) (bo+off+len*z) ty0 news 0 arr C.w harr (by simpa using htot) hone
   rw[Nat.add_zero]at hst
   refine⟨.slice (some ⟨C.J m,bo+off,none⟩) (len+fs.length) cap,C.move n m (C.J m) (bo+off) (C.w.setRow (C.J m) (arr.toList.take (bo+off+len*z)++news++arr.toList.drop (bo+off+len*z+news.length)).toArray),?_,
    Post.move (arr':=(arr.toList.take (bo+off+len*z)++news++arr.toList.drop (bo+off+len*z+news.length)).toArray) hh hn hg (setRow_heap C.w (C.J m) arr _ ty0 _ harr) (by simp) (fun k _ hk=>by simp[World.setRow,Array.getElem?_modify,Ne.symm hk]) (.inl rfl) (hLf _ _ (fun j c hj => ?_) (fun j u hj => ?_)) ?_ rfl rfl rfl⟩
   ·refine jJ hb hty ha ho ?_
    rw[hv,hv2]
    have hfc:=hfz C.w rfl
    simp only[hsz]at hfc
    simp[Builtin.append_,run_underlying hu,run_underlying hu',sizeOf,typeInfo,hi,hsz,Builtin.lenOf,hroom,hfc,kM,hst,Ctx.move]
   ·obtain⟨u,hu',hcu⟩:=hobj' j c hj
    refine⟨u,?_,hcu⟩
    have hjl:j<len*z:=by rw[<-hdl];exact(List.getElem?_eq_some_iff.1 hj).1
    simp only[List.getElem?_toArray]
    rw[List.append_assoc,List.getElem?_append_left (by simp;omega),List.getElem?_take,if_pos (by omega)]
    simpa using hu'
   ·simp only[List.getElem?_toArray]
    have hjl:=(List.getElem?_eq_some_iff.1 hj).1
    rw[List.append_assoc,List.getElem?_append_right (by simp;omega),List.length_take,hal,Nat.min_eq_left harrlen,show bo+off+(len*z+j)-(bo+off+len*z)=j from by omega,List.getElem?_append_left hjl]
    exact hj
   ·simp only[Conc,Ctx.move,if_true]
    refine⟨⟨_,_,_,rfl⟩,.inr trivial,fun _=>⟨cap,bo+off,rfl,hroom,.inl rfl,fun _=>⟨_,ty0,setRow_heap C.w (C.J m) arr _ ty0 _ harr,?_⟩⟩⟩
    simp
    omega
  ·
   obtain⟨A1,c1,olds,hv1,_,hn1,hr1⟩:=hs1.news
   rw[gq]at hv1 hr1
   rw[hv]at hv1
   obtain⟨e1,-,e2⟩:=Value.slice.inj hv1
   subst e1 e2
   have l1:=hn1.length
   rw[flat_length _ hs1.len,gq]at l1
   obtain⟨cap',zs,hrun,hcap',hzz⟩:=lV (P:=P) (w:=C.w) (ty:=o.type) hu hu' hi hz0 _ B len cap fs.length c2 olds news
    (fun w' hw=>by have:=hr1 w' hw;rw[hv]at this;rw[hsz];exact this) hfz (by omega) hby hA.hm
   rw[kD z len (cs.drop off) hdl]at hn1
   refine⟨_,C.move n m C.w.heap.size 0 (C.w.drew.alloc (.cells (olds.toArray++news.toArray++zs) e)),jJ hb hty ha ho (by rw[hv,hv2];exact hrun),
    Post.move (arr':=olds.toArray++news.toArray++zs) (ty:=e) hh hn hg (heap_alloc_new C.w.drew _) (by simp) (fun k hk _=>heap_alloc_old C.w.drew _ hk) (.inr (Nat.le_refl _)) (hLf _ _ (fun j c hj => ?_) (fun j u hj => ?_)) ?_ rfl rfl rfl⟩
   ·obtain⟨u,hu',hcu⟩:=hn1.get j c hj
    refine⟨u,?_,hcu⟩
    have hjl:=(List.getElem?_eq_some_iff.1 hu').1
    rw[Nat.zero_add,Array.getElem?_append_left (by simp;omega),Array.getElem?_append_left (by simpa using hjl)]
    simpa using hu'
   ·have hjl:=(List.getElem?_eq_some_iff.1 hj).1
    rw[Nat.zero_add,Array.getElem?_append_left (by simp;omega),Array.getElem?_append_right (by simp;omega)]
    simp[<-l1]
    exact hj
   ·simp only[Conc,Ctx.move,if_true]
    refine⟨⟨_,_,_,rfl⟩,.inr trivial,fun _=>⟨cap',0,rfl,hcap',.inl rfl,fun _=>⟨_,e,heap_alloc_new C.w.drew _,?_⟩⟩⟩
    have:(len+fs.length)*z+(cap'-(len+fs.length))*z=cap'*z:=by rw[<-Nat.add_mul];congr 1;omega
    rw[Nat.add_mul]at this
    simp[hzz,hzs]
    omega
end
def copyN (P:Program) (h:Hp) (ty:TypeId) (s x:AV):Option (AV×Dl) :=
 match jU P ty with
 | some (_,z)=>match fA h z x with
  | some fs=>match s with
   | .sl m z' off len _=>match hget h m with
    | some cs=>if z'=z/\fs.length<=len/\off+fs.length*z<=cs.length/\fs.flatten.all AV.one=true then some (.sc (.int .i64 fs.length),[(m,some (eH cs off fs.flatten))])else none
    | none=>none
   | _=>none
  | none=>none
 | none=>none
theorem bo2 {P:Program} {n:Nat} {t:Tp} {h:Hp} {c:Call} {ty xt:TypeId} {s x:Operand} {r:AV} {d:Dl} (hb:c.callee = .builtin .copy) (hty:c.argTypes = #[ty,xt]) (ha:c.args = #[s,x]) (he:copyN P h ty (ev t s) (ev t x)=some (r,d)):Yields P n (.call c) t h r d :=
 Yields.run fun C a o ho hh ht hn=>by
  unfold copyN at he
  split at he
  ·rename_i e z hs
   obtain⟨hu,hz,h0⟩:=iq hs
   subst hz
   split at he
   ·rename_i fs hf
    split at he
    ·rename_i m z' off len own hsv
     split at he
     ·rename_i cs hg
      split at he
      ·rename_i hc
       obtain⟨rfl,hle,hfit,h1⟩:=hc
       cases he
       have hc1:=aH ht s
       rw[hsv]at hc1
       simp only[Conc]at hc1
       obtain⟨cap,of,hv,hlc,hof,_⟩:=hc1.2.2 (hh.get hg)
       have hs2:=mr (P:=P) hh h0 (aH ht x) hf
       obtain⟨B,c2,news,hv2,_,hn2,hr2⟩:=hs2.news
       have l2:=hn2.length
       rw[flat_length fs hs2.len]at l2
       obtain⟨arr,ty0,harr,hobj⟩:=hh.obj m cs hg
       have hal:arr.toList.length=arr.size:=by simp
       have hmin:Nat.min fs.length len=fs.length:=Nat.min_eq_left hle
       have hfc:=hr2 C.w rfl
       rw[hv2]at hfc
       have hcall:∀w',(storeCells ⟨C.J m,of,none⟩ news).run P C.w = .ok () w'->(execOp a.eval o).run P C.w = .ok (.value (.int .i64 fs.length)) w':=by
        intro w' hst
        rw[iI hb _ _ o ho,hty,ha]
        have hcp:(Builtin.copy_ #[ty,xt] o.type #[a.eval s,a.eval x]).run P C.w = .ok (.int .i64 fs.length) w':=by
         rw[hv,hv2]
         simp[Builtin.copy_,run_underlying hu,Builtin.lenOf,hmin,jA h0,hfc,hst,goInt]
        simp only[builtin,Sem.run_bind,List.map_toArray,List.map_cons,List.map_nil,hcp,Result.andThen_ok]
        rfl
       by_cases hf0:fs=[]
       ·subst hf0
        have hnil:news=[]:=by simpa using l2.symm
        refine⟨_,C.same n C.w,hcall C.w (by rw[hnil];rfl),?_⟩
        refine Post.mod hh hg harr harr rfl rfl (fun _ _=>rfl) (fun j c hj => ?_) (by simp only[Conc]) rfl rfl rfl
        have e0:eH cs off ([]:List (List AV)).flatten=cs:=by simp[eH]
        rw[e0]at hj
        exact hobj j c hj
       ·have hlen:0<fs.length:=List.length_pos_iff.2 hf0
        have hof0:of=C.bs m+off:=by
         rcases hof with h2 | h2
         ·exact h2
         ·omega
        subst hof0
        generalize hbo:C.bs m=bo at hobj hcall
        have hone:∀v∈news,v.oneCell'=true:=fun v hv'=>by
         obtain⟨k,hk⟩:=List.mem_iff_getElem?.1 hv'
         have hkl:k<fs.flatten.length:=by rw[flat_length fs hs2.len,l2];exact(List.getElem?_eq_some_iff.1 hk).1
         obtain⟨u',hu',hcu⟩:=hn2.get k (fs.flatten[k]) (List.getElem?_eq_getElem hkl)
         rw[hk]at hu';cases hu'
         exact y7 hcu (List.all_eq_true.1 h1 _ (List.getElem_mem _))
        have hflen:fs.flatten.length=news.length:=by rw[flat_length fs hs2.len,l2]
        have hpos:0<fs.length*P.cellsOf e:=Nat.mul_pos hlen h0
        have hsz:bo+off+news.length<=arr.size:=by
         have hlast:cs[off+fs.length*P.cellsOf e-1]? = some (cs[off+fs.length*P.cellsOf e-1]'(by omega)):=List.getElem?_eq_getElem _
         obtain⟨u,hu,_⟩:=hobj _ _ hlast
         have:=(Array.getElem?_eq_some_iff.1 hu).1
         omega
        have hst:=run_storeCells_at (P:=P) (C.J m) (bo+off) ty0 news 0 arr C.w harr (by omega) hone
        rw[Nat.add_zero]at hst
        refine⟨_,C.same n (C.w.setRow (C.J m) (arr.toList.take (bo+off)++news++arr.toList.drop (bo+off+news.length)).toArray),hcall _ hst,?_⟩
        refine Post.mod (arr':=(arr.toList.take (bo+off)++news++arr.toList.drop (bo+off+news.length)).toArray) hh hg harr (setRow_heap C.w (C.J m) arr _ ty0 _ harr) ?_ (by simp) (fun k hk => ?_) (fun j c hj => ?_) (by simp only[Conc]) rfl rfl rfl
        ·simp;omega
        ·simp[World.setRow,Array.getElem?_modify,Ne.symm hk]
        ·rw[hbo]
         simp only[eH,hflen]at hj
         simp only[List.getElem?_toArray]
         by_cases hj1:j<off
         ·rw[List.getElem?_append_left (by simp;omega),List.getElem?_take,if_pos hj1]at hj
          obtain⟨u,hu,hcu⟩:=hobj j c hj
          refine⟨u,?_,hcu⟩
          rw[List.append_assoc,List.getElem?_append_left (by simp;omega),List.getElem?_take,if_pos (by omega)]
          simpa using hu
         ·rw[List.getElem?_append_right (by simp;omega)]at hj
          simp only[List.length_take,Nat.min_eq_left (show off<=cs.length by omega)]at hj
          rw[List.append_assoc,List.getElem?_append_right (by simp;omega)]
          simp only[List.length_take,Array.length_toList,Nat.min_eq_left (show bo+off<=arr.size by omega)]
          rw[show bo+j-(bo+off)=j-off from by omega]
          by_cases hj2:j-off<news.length
          ·rw[List.getElem?_append_left (by omega)]at hj ⊢
           exact hn2.get _ c hj
          ·rw[List.getElem?_append_right (by omega)]at hj ⊢
           rw[hflen,List.getElem?_drop]at hj
           rw[List.getElem?_drop]
           obtain⟨u,hu,hcu⟩:=hobj _ c hj
           exact⟨u,by rw[Nat.add_assoc,Nat.add_assoc,<-Nat.add_assoc off];simpa using hu,hcu⟩
      ·cases he
     ·cases he
    ·cases he
   ·cases he
  ·cases he
end Go.Proofs.Aw
namespace Go.Proofs.Aw
open Go
section
variable {P:Program} {n:Nat} {t:Tp} {h:Hp}
theorem PH {ty e:TypeId} {z:Nat} {zc:List AV} {l c:Operand} {k k':IntKind} {m:Nat} (hs:jU P ty=some (e,z)) (hz:jk P e=some zc) (hzl:zc.length=z) (hl:ev t l = .sc (.int k m)) (hc:ev t c = .sc (.int k' m))
  (hb:m*dA P e<=140737488355328) (hm:m<=9223372036854775807):Yields P n (.makeSlice ty l c) t h (.sl (n,0) z 0 m true) [((n,0),some (zeros m zc))] :=
 Yields.run fun C a o ho hh ht hn=>by
  obtain⟨hu,he,h0⟩:=iq hs
  obtain⟨ie,zv,hie,hz0,hzc⟩:=ry hz
  have hsz:ie.size=z:=by
   have:P.cellsOf e=ie.size:=by simp[Program.cellsOf,hie]
   omega
  have hbt:dA P e=ie.bytes:=by simp[dA,hie]
  have el:a.eval l = .int k m:=by have:=aH ht l;rw[hl]at this;simpa only[Conc]using this
  have ec:a.eval c = .int k' m:=by have:=aH ht c;rw[hc]at this;simpa only[Conc]using this
  have hb':(ie.bytes:Int)*(m:Int)<=281474976710656:=by
   rw[hbt]at hb
   have:((ie.bytes*m:Nat):Int)<=281474976710656:=by rw[Nat.mul_comm];omega
   rwa[Int.natCast_mul]at this
  have hr:=run_make (P:=P) C.w ty e ie zv hu hie hz0 k k' m m (by omega) (Int.le_refl _) hb' (by omega)
  have hzr:=SH (C:=C) (len:=m) hzc (by omega)
  have hL:ConcL C (zeros m zc) (madeCells zv.cells (m*ie.size)).toList:=by rw[hsz,<-hzl];exact hzr
  refine⟨.slice (some ⟨C.w.heap.size,0,none⟩) m m,C.allocN n (C.w.alloc (.cells (madeCells zv.cells (m*ie.size)) e)),?_,Post.allocN hh hn (arr:=madeCells zv.cells (m*ie.size)) (ty:=e) rfl (fun j c hj => ?_) ?_ rfl rfl rfl⟩
  ·unfold execOp
   rw[ho]
   simp only[Sem.run_bind,el,ec,hr,Result.andThen_ok,Int.toNat_natCast]
   rfl
  ·obtain⟨u,hu2,hc⟩:=hL.get j c hj
   exact⟨u,by simpa using hu2,hc⟩
  ·simp only[Conc,Ctx.allocN,if_true]
   exact⟨⟨_,_,_,rfl⟩,.inr trivial,fun _=>⟨m,0,rfl,Nat.le_refl _,.inl rfl,fun _=>⟨madeCells zv.cells (m*ie.size),e,heap_alloc_new C.w _,by rw[size_madeCells,hsz];omega⟩⟩⟩
end
end Go.Proofs.Aw
namespace Go.Proofs.Aw
open Go
def CY (P:Program) (n:Nat) (f:FuncId) (args:List AV) (h:Hp) (r:AV) (d:Dl):Prop :=
 ∀(C:Ctx) (vs:List Value),HeapOk C h->ConcL C args vs->(∀k,¬C.kn (n,k))->Calls P f vs.toArray C.w fun e w'=>∃u C',e = .returned u/\C'.w=w'/\Post C n h r d u C'
def aQ (P : Program) (f : FuncId) : Bool := match P.funcs[f]? with | some fn => fn.body.isSome && fn.name != "runtime.NumGoroutine" | none => false
theorem JZ {P:Program} {f:FuncId} (hb:aQ P f=true) (args:Array Value) (w:World):(callFunc f args).run P w = .ok (.enter f args) w:=by
 unfold aQ at hb
 cases hf:P.funcs[f]? with
 | none=>rw[hf]at hb;cases hb
 | some fn =>
  rw[hf]at hb
  simp only[Bool.and_eq_true,bne_iff_ne,ne_eq]at hb
  unfold callFunc
  have hn : (fn.name == "runtime.NumGoroutine") = false := by simpa using hb.2
  have hi:fn.body.isNone=false:=by
   cases h:fn.body with
   | none=>rw[h]at hb;simp at hb
   | some c=>rfl
  simp only[program,bind,Sem.bind,pure,Sem.run,hf,hn,hi,Bool.false_eq_true,if_false]
theorem bo3 {P:Program} {n:Nat} {t:Tp} {h:Hp} {c:Call} {x:Operand} {f:FuncId} {xs ys:List AV} {r:AV} {d:Dl} (hc:c.callee = .value x) (hx:ev t x = .fn (.func f) xs ys) (hb:aQ P f=true)
  (hcy:CY P n f (xs++(c.args.toList.map (ev t)++ys)) h r d):Yields P n (.call c) t h r d:=by
 intro C a o next Q ho hh ht hn hk
 have h1:=aH ht x
 rw[hx]at h1
 simp only[Conc]at h1
 obtain⟨us,vs,hv,hus,hvs⟩:=h1
 have hargs:=Le ht c
 have hL:=hus.append (hargs.append hvs)
 have hcalls:=hcy C _ hh hL hn
 have harr:(us.toList++((c.args.map a.eval).toList++vs.toList)).toArray=us++c.args.map a.eval++vs:=by
  apply Array.ext';simp
 rw[harr]at hcalls
 have hrun:(execOp a.eval o).run P C.w = .ok (.enter f (us++c.args.map a.eval++vs)) C.w:=by
  obtain⟨cal,args,tys⟩:=c
  simp only at hc
  subst hc
  unfold execOp
  rw[ho]
  simp only[resolve,Deferred.ofValue,hv,Sem.run_bind,Sem.run_pure,Result.andThen_ok,invoke,JZ hb]
 unfold Oper.wp
 rw[hrun,Oper.upon_enter]
 exact hcalls.mono fun e w' ⟨u,C',he,hw,hp⟩=>by
  subst he;subst hw
  exact hk u C' hp
def rdK (b:Option Bool) (z:Nat) (cs:List AV) (off:Nat) (K:AV->Prop):Prop :=
 match b with
 | some true=>0<z/\off+z<=cs.length/\K (.agg ((cs.drop off).take z))
 | some false=>match cs[off]? with
  | some v=>K v
  | none=>False
 | none=>False
theorem Az {b:Option Bool} {z:Nat} {cs:List AV} {off:Nat} {K:AV->Prop} (h:rdK b z cs off K):∃ag v,b=some ag/\Rd ag z cs off v/\K v:=by
 unfold rdK at h
 split at h
 ·exact⟨true,_,rfl,.inl ⟨rfl,h.1,h.2.1,rfl⟩,h.2.2⟩
 ·split at h
  ·rename_i v hv
   exact⟨false,v,rfl,.inr ⟨rfl,hv⟩,h⟩
  ·exact h.elim
 ·exact h.elim
def Ce (P:Program) (h:Hp) (ty:TypeId) (x:AV) (K:AV->Prop):Prop :=
 match x with
 | .ptr m off=>match hget h m with
  | some cs=>rdK (nC P ty) (P.cellsOf ty) cs off K
  | none=>False
 | .ip cs off=>rdK (nC P ty) (P.cellsOf ty) cs off K
 | _=>False
def Eh (P:Program) (h:Hp) (ty:TypeId) (x y:AV) (K:Dl->Prop):Prop :=
 match x with
 | .ptr m off=>match hget h m with
  | some cs=>0<P.cellsOf ty/\y.cells.length=P.cellsOf ty/\off+P.cellsOf ty<=cs.length/\y.cells.all AV.one=true/\K [(m,some (eH cs off y.cells))]
  | none=>False
 | _=>False
def ng (P:Program) (h:Hp) (ty:TypeId) (x i:AV) (K:AV->Prop):Prop :=
 match i with
 | .sc (.int _ j)=>match x with
  | .ptr m off=>match lJ P ty with
   | some (len,z)=>(hget h m).isSome=true/\0<=j/\j<len/\K (.ptr m (off+j.toNat*z))
   | none=>False
  | .ip cs off=>match lJ P ty with
   | some (len,z)=>0<=j/\j<len/\K (.ip cs (off+j.toNat*z))
   | none=>False
  | .sl m z off len _=>match jU P ty with
   | some (_,z')=>z'=z/\(hget h m).isSome=true/\0<=j/\j<len/\K (.ptr m (off+j.toNat*z))
   | none=>False
  | .ro z es _=>match jU P ty with
   | some (_,z')=>z'=z/\0<=j/\match es[j.toNat]? with
    | some el=>K (.ip el 0)
    | none=>False
   | none=>False
  | _=>False
 | _=>False
def pg (P:Program) (h:Hp) (ty:TypeId) (x:AV) (f:Nat) (K:AV->Prop):Prop :=
 match uz P ty with
 | some l=>match l[f]? with
  | some (o,_)=>match x with
   | .ptr m off=>(hget h m).isSome=true/\K (.ptr m (off+o))
   | .ip cs off=>K (.ip cs (off+o))
   | _=>False
  | none=>False
 | none=>False
def ZT (P:Program) (ty:TypeId):Option (List (Option Bool)):=match P.underlying ty with | some (.struct fs)=>some (fs.toList.map fun f=>nC P f.type) | _=>none
def arrA (P:Program) (ty:TypeId):Option Bool:=match P.underlying ty with | some (.array _ e)=>nC P e | _=>none
def FN (P:Program) (ty:TypeId) (x:AV) (f:Nat) (K:AV->Prop):Prop :=
 match uz P ty,ZT P ty,x with
 | some l,some bs,.agg cs=>match l[f]?,bs[f]? with
  | some (o,z),some b=>rdK b z cs o K
  | _,_=>False
 | _,_,_=>False
def Bc (P:Program) (ty:TypeId) (x i:AV) (K:AV->Prop):Prop :=
 match i with
 | .sc (.int _ j)=>match x with
  | .agg cs=>match lJ P ty with
   | some (len,z)=>0<=j/\j<len/\rdK (arrA P ty) z cs (j.toNat*z) K
   | none=>False
  | .sc (.string s)=>CP P ty=true/\0<=j/\match s[j.toNat]? with
   | some b=>K (.sc (.int .u8 b.toNat))
   | none=>False
  | _=>False
 | _=>False
def sU (d:Nat) (x:Option AV) (K:Nat->Prop):Prop :=
 match x with
 | none=>K d
 | some (.sc (.int _ i))=>0<=i/\K i.toNat
 | _=>False
theorem fV {d:Nat} {x:Option AV} {K:Nat->Prop} (h:sU d x K):∃l,Bnd d x l/\K l:=by
 unfold sU at h
 split at h
 ·exact⟨d,.inl ⟨rfl,rfl⟩,h⟩
 ·exact⟨_,.inr ⟨_,_,rfl,h.1,rfl⟩,h.2⟩
 ·exact h.elim
def oM (P:Program) (h:Hp) (ty:TypeId) (x:AV) (lo hi mx:Option AV) (K:AV->Prop):Prop :=
 match x with
 | .ro z es full=>match jU P ty with
  | some (_,z')=>z'=z/\(match mx with
   | none=>sU 0 lo fun l=>sU es.length hi fun hh=>l<=hh/\hh<=es.length/\K (.ro z ((es.take hh).drop l) (full&&hh==es.length))
   | some mx=>sU 0 lo fun l=>(match hi with
    | some hi=>sU 0 (some hi) fun hh=>sU 0 (some mx) fun m=>l<=hh/\hh<=m/\m<=es.length/\K (.ro z ((es.take hh).drop l) (m==hh))
    | none=>False))
  | none=>False
 | .sl m z off len own=>match jU P ty with
  | some (_,z')=>z'=z/\(hget h m).isSome=true/\(match mx with
   | none=>sU 0 lo fun l=>sU len hi fun hh=>l<=hh/\hh<=len/\K (.sl m z (off+l*z) (hh-l) own)
   | some mx=>sU 0 lo fun l=>(match hi with
    | some hi=>sU 0 (some hi) fun hh=>sU 0 (some mx) fun m'=>hh=l/\m'=l/\l<=len/\K (.ro z [] true)
    | none=>False))
  | none=>False
 | .ptr m off=>match lJ P ty with
  | some (len,z)=>(hget h m).isSome=true/\mx=none/\sU 0 lo fun l=>sU len hi fun hh=>l<=hh/\hh<=len/\K (.sl m z (off+l*z) (hh-l) false)
  | none=>False
 | .sc (.string s)=>CP P ty=true/\mx=none/\sU 0 lo fun l=>sU s.size hi fun hh=>l<=hh/\hh<=s.size/\K (.sc (.string (s.extract l hh)))
 | .sc (.slice none 0 0)=>match jU P ty with
  | some _=>mx=none/\sU 0 lo fun l=>sU 0 hi fun hh=>l=0/\hh=0/\K (.sc (.slice none 0 0))
  | none=>False
 | _=>False
def sZ (P:Program) (e:TypeId):Option Nat:=(jk P e).map List.length
def jG (P:Program) (n:Nat) (ty:TypeId) (l c:AV):Option (AV×Dl) :=
 match jU P ty,l,c with
 | some (e,z),.sc (.int _ a),.sc (.int _ b)=>match jk P e with
  | some zc=>if zc.length=z/\0<=a/\b=a/\a.toNat*dA P e<=140737488355328/\a<=9223372036854775807 then some (.sl (n,0) z 0 a.toNat true,[((n,0),some (zeros a.toNat zc))])else none
  | none=>none
 | _,_,_=>none
def ny (P:Program) (n:Nat) (mu:Bool) (ty:TypeId) (len:Nat) (ps:List (Nat×AV)) (K:AV->Dl->Prop):Prop :=
 match jU P ty with
 | some (e,z)=>sZ P e=some z/\len*z<=16777216/\ps.length=len/\qj z 0 ps=true /\
  (match mu with
  | false=>K (.ro z (dB ps) true) []
  | true=>K (.sl (n,0) z 0 len true) [((n,0),some (dB ps).flatten)])
 | none=>False
def zT (P:Program) (n:Nat) (h:Hp) (mu:Bool) (ty xt:TypeId) (s x:AV) (K:AV->Dl->Prop):Prop :=
 match jU P ty with
 | some (e,z)=>jU P xt=some (e,z)/\sZ P e=some z /\
  (match fA h z x with
  | some fs=>match s with
   | .sl m z' off len own=>z'=z/\own=true/\(match hget h m with
    | some cs=>cs.length=off+len*z/\fs.flatten.all AV.one=true/\(len+fs.length)*dA P e<=140737488355328/\len+fs.length<=9223372036854775807/\K (.sl (n,0) z 0 (len+fs.length) true) [(m,none),((n,0),some (cs.drop off++fs.flatten))]
    | none=>False)
   | s=>match jX z s with
    | some es=>(es.length+fs.length)*dA P e<=140737488355328/\es.length+fs.length<=9223372036854775807 /\
     (match mu with
     | false=>K (.ro z (es++fs) false) []
     | true=>fs≠[]/\K (.sl (n,0) z 0 (es.length+fs.length) true) [((n,0),some (es.flatten++fs.flatten))])
    | none=>False
  | none=>False)
 | none=>False
def an9 (P:Program) (n:Nat) (f:FuncId) (args:List AV) (h:Hp) (K:AV->Dl->Prop):Prop:=∃r d,aQ P f=true/\CY P n f args h r d/\K r d
def NP (c a b:AV) (K:AV->Prop):Prop :=
 match c with
 | .sc (.bool p)=>(p=true->K a)/\(p=false->K b)
 | _=>False
def ba9 (h:Hp) (x:AV) (K:AV->Prop):Prop :=
 match x with
 | .ptr m off=>(hget h m).isSome=true/\K (.ptr m off)
 | .ip cs off=>K (.ip cs off)
 | .fn (.func f) xs ys=>K (.fn (.func f) xs ys)
 | _=>False
def wW (x:Option AV) (K:AV->Prop):Prop:=match x with | some v=>K v | none=>False
def kF (P:Program) (n:Nat) (mu:Bool) (b:Builtin) (h:Hp) (tys:List TypeId) (args:List AV) (K:AV->Dl->Prop):Prop :=
 match b,tys,args with
 | .len,ty::_,x::_=>match uN P h ty x with
  | some m=>K (.sc (.int .i64 m)) []
  | none=>False
 | .max,_,x::xs=>wW (G5 x xs) fun v=>K v []
 | .min,_,x::xs=>wW (GZ x xs) fun v=>K v []
 | .append,[ty,xt],[s,x]=>zT P n h mu ty xt s x K
 | .copy,[ty,_],[s,x]=>(match copyN P h ty s x with
  | some (r,d)=>K r d
  | none=>False)
 | b,_,xs=>wW (Ry b xs) fun v=>K v []
def nK (P:Program) (n:Nat) (mu:Bool) (op:Op) (t:Tp) (h:Hp) (K:AV->Dl->Prop):Prop :=
 match op with
 | .move x=>K (ev t x) []
 | .assign x=>K (ev t x) []
 | .pick c a b=>NP (ev t c) (ev t a) (ev t b) fun v=>K v []
 | .alloc e=>match jk P e with
  | some cs=>K (.ptr (n,0) 0) [((n,0),some cs)]
  | none=>False
 | .box _ x=>(ev t x).cells.all AV.one=true/\K (.ptr (n,0) 0) [((n,0),some (ev t x).cells)]
 | .load ty x=>Ce P h ty (ev t x) fun v=>K v []
 | .store ty x y=>Eh P h ty (ev t x) (ev t y) fun d=>K (.sc undef) d
 | .nilCheck x=>ba9 h (ev t x) fun v=>K v []
 | .indexAddr ty x i=>ng P h ty (ev t x) (ev t i) fun v=>K v []
 | .fieldAddr ty x f=>pg P h ty (ev t x) f fun v=>K v []
 | .field ty x f=>FN P ty (ev t x) f fun v=>K v []
 | .index ty x i=>Bc P ty (ev t x) (ev t i) fun v=>K v []
 | .slice ty x lo hi mx=>oM P h ty (ev t x) (lo.map (ev t)) (hi.map (ev t)) (mx.map (ev t)) fun v=>K v []
 | .binOp op ty x y _=>wW (kV P h op ty (ev t x) (ev t y)) fun v=>K v []
 | .unOp op _ x=>wW (unR op (ev t x)) fun v=>K v []
 | .convert src dst x=>(P.underlying src).isSome=true/\wW (Gh P dst (ev t x)) fun v=>K v []
 | .extract x i=>match ev t x with
  | .tup vs=>wW vs[i]? fun v=>K v []
  | _=>False
 | .makeFunc f xs ys=>K (.fn f (xs.toList.map (ev t)) (ys.toList.map (ev t))) []
 | .build ty ps=>match jk P ty with
  | some cs=>match qX (placeOf P ty) cs (ps.toList.map fun p=>(p.1,ev t p.2))with
   | some cs'=>((lJ P ty).isSome||(uz P ty).isSome)=true/\K (.agg cs') []
   | none=>False
  | none=>False
 | .buildSlice ty len ps=>ny P n mu ty len (ps.toList.map fun p=>(p.1,ev t p.2)) K
 | .makeSlice ty l c=>match jG P n ty (ev t l) (ev t c)with
  | some r=>K r.1 r.2
  | none=>False
 | .call c=>match c.callee with
  | .builtin b=>kF P n mu b h c.argTypes.toList (c.args.toList.map (ev t)) K
  | .value x=>match ev t x with
   | .fn (.func f) xs ys=>an9 P n f (xs++(c.args.toList.map (ev t)++ys)) h K
   | _=>False
  | _=>False
 | _=>False
section
variable {P:Program} {n:Nat} {t:Tp} {h:Hp} {mu:Bool} {K:AV->Dl->Prop}
def ru (P:Program) (n:Nat) (op:Op) (t:Tp) (h:Hp) (K:AV->Dl->Prop):Prop:=∃r d,Yields P n op t h r d/\K r d
theorem yw {ty:TypeId} {len z:Nat} (ha:lJ P ty=some (len,z)):∃e,P.underlying ty=some (.array len e)/\P.cellsOf e=z/\0<P.cellsOf e:=by
 obtain⟨e,hu,he,h0⟩:=wO ha
 exact⟨e,hu,he,by omega⟩
theorem ED {ty:TypeId} {l:List (Nat×Nat)} {f o z:Nat} (hr:uz P ty=some l) (hf:l[f]? = some (o,z)):qY P ty f=some o/\∃fs fl,P.underlying ty=some (.struct fs)/\fs[f]? = some fl/\fl.offset=o/\P.cellsOf fl.type=z:=by
 obtain⟨fs,hu,hp,rfl⟩:=Ia hr
 rw[List.getElem?_map]at hf
 cases hg:fs.toList[f]? with
 | none=>rw[hg]at hf;cases hf
 | some fl =>
  rw[hg]at hf
  simp only[Option.map_some,Option.some.injEq,Prod.mk.injEq]at hf
  have hg':fs[f]? = some fl:=by simpa using hg
  have h0:=hp fl (List.mem_of_getElem? hg)
  refine⟨?_,fs,fl,hu,hg',hf.1,hf.2⟩
  unfold qY
  simp[hu,hg',h0,hf.1]
theorem bo4 {ty:TypeId} {x:Operand} (hk:Ce P h ty (ev t x) fun v=>K v []):ru P n (.load ty x) t h K:=by
 unfold Ce at hk
 split at hk
 ·rename_i m off hx
  split at hk
  ·rename_i cs hg
   obtain⟨ag,v,hb,hr,hv⟩:=Az hk
   exact⟨v,[],Sz hx hg hb hr,hv⟩
  ·exact hk.elim
 ·rename_i cs off hx
  obtain⟨ag,v,hb,hr,hv⟩:=Az hk
  exact⟨v,[],Ym hx hb hr,hv⟩
 ·exact hk.elim
theorem aM9 {ty:TypeId} {x y:Operand} (hk:Eh P h ty (ev t x) (ev t y) fun d=>K (.sc undef) d):ru P n (.store ty x y) t h K:=by
 unfold Eh at hk
 split at hk
 ·rename_i m off hx
  split at hk
  ·rename_i cs hg
   obtain⟨h0,hl,hlen,h1,hv⟩:=hk
   exact⟨_,_,aM3 hx hg h0 hl hlen h1,hv⟩
  ·exact hk.elim
 ·exact hk.elim
theorem PO {ty:TypeId} {x i:Operand} (hk:ng P h ty (ev t x) (ev t i) fun v=>K v []):ru P n (.indexAddr ty x i) t h K:=by
 unfold ng at hk
 split at hk
 ·rename_i k j hi
  split at hk
  ·rename_i m off hx
   split at hk
   ·rename_i len z ha
    obtain⟨e,hu,he,h0⟩:=yw ha
    have:=CZ (P:=P) (n:=n) hu h0 hx hi hk.1 hk.2.1 hk.2.2.1
    rw[he]at this
    exact⟨_,_,this,hk.2.2.2⟩
   ·exact hk.elim
  ·rename_i cs off hx
   split at hk
   ·rename_i len z ha
    obtain⟨e,hu,he,h0⟩:=yw ha
    have:=yx (P:=P) (n:=n) (h:=h) hu h0 hx hi hk.1 hk.2.1
    rw[he]at this
    exact⟨_,_,this,hk.2.2⟩
   ·exact hk.elim
  ·rename_i m z off len own hx
   split at hk
   ·rename_i e z' ha
    obtain⟨rfl,hm,h0,h1,hv⟩:=hk
    obtain⟨hu,he,hz⟩:=iq ha
    exact⟨_,_,Gx hu hz he hx hi hm h0 h1,hv⟩
   ·exact hk.elim
  ·rename_i z es full hx
   split at hk
   ·rename_i e z' ha
    obtain⟨rfl,h0,hk⟩:=hk
    obtain⟨hu,he,hz⟩:=iq ha
    split at hk
    ·rename_i el hel
     exact⟨_,_,Gy hu hz he hx hi h0 hel,hk⟩
    ·exact hk.elim
   ·exact hk.elim
  ·exact hk.elim
 ·exact hk.elim
theorem PP {ty:TypeId} {x:Operand} {f:Nat} (hk:pg P h ty (ev t x) f fun v=>K v []):ru P n (.fieldAddr ty x f) t h K:=by
 unfold pg at hk
 split at hk
 ·rename_i l hr
  split at hk
  ·rename_i o z hf
   have hfo:=(ED hr hf).1
   split at hk
   ·rename_i m off hx
    exact⟨_,_,PL hfo hx hk.1,hk.2⟩
   ·rename_i cs off hx
    exact⟨_,_,Gz hfo hx,hk⟩
   ·exact hk.elim
  ·exact hk.elim
 ·exact hk.elim
theorem aN2 {ty:TypeId} {x:Operand} {f:Nat} (hk:FN P ty (ev t x) f fun v=>K v []):ru P n (.field ty x f) t h K:=by
 unfold FN at hk
 split at hk
 ·rename_i l bs cs hr hb hx
  split at hk
  ·rename_i o z b hf hbf
   obtain⟨ag,v,rfl,hrd,hv⟩:=Az hk
   obtain⟨_,fs,fl,hu,hfl,ho,hz⟩:=ED hr hf
   have hag:nC P fl.type=some ag:=by
    unfold ZT at hb
    rw[hu]at hb
    simp only[Option.some.injEq]at hb
    rw[<-hb,List.getElem?_map]at hbf
    have:fs.toList[f]? = some fl:=by simpa using hfl
    rw[this]at hbf
    simpa using hbf
   exact⟨v,[],aM5 hu hfl hx hag (by rw[hz,ho];exact hrd),hv⟩
  ·exact hk.elim
 ·exact hk.elim
end
end Go.Proofs.Aw
namespace Go.Proofs.Aw
open Go
section
variable {P:Program} {n:Nat} {t:Tp} {h:Hp} {mu:Bool} {K:AV->Dl->Prop}
theorem Ht {ty:TypeId} (hs:CP P ty=true):P.underlying ty=some .string:=by
 unfold CP at hs
 split at hs
 ·assumption
 ·cases hs
theorem PI {ty:TypeId} {x i:Operand} {k:IntKind} {j:Int} {s:ByteArray} {b:UInt8} (hu:P.underlying ty=some .string) (hx:ev t x = .sc (.string s)) (hi:ev t i = .sc (.int k j)) (h0:0<=j) (hb:s[j.toNat]? = some b) :
  Yields P n (.index ty x i) t h (.sc (.int .u8 b.toNat)) [] :=
 Yields.pure fun C a op ho hh ht=>by
  have hp:=aH ht x
  have hq:=aH ht i
  rw[hx]at hp
  rw[hi]at hq
  simp only[Conc]at hp hq
  refine⟨.int .u8 b.toNat,?_,by simp only[Conc]⟩
  unfold execOp
  rw[ho]
  simp only[hp,hq,Instr.index,Sem.run_bind,mV,run_underlying hu,Result.andThen_ok,h0,if_true,hb,Sem.run_pure]
theorem aN1 {ty:TypeId} {x i:Operand} (hk:Bc P ty (ev t x) (ev t i) fun v=>K v []):ru P n (.index ty x i) t h K:=by
 unfold Bc at hk
 split at hk
 ·rename_i k j hi
  split at hk
  ·rename_i cs hx
   split at hk
   ·rename_i len z ha
    obtain⟨e,hu,he,h0⟩:=yw ha
    obtain⟨hj0,hj1,hr⟩:=hk
    obtain⟨ag,v,hb,hrd,hv⟩:=Az hr
    have hag:nC P e=some ag:=by
     unfold arrA at hb
     rw[hu]at hb
     exact hb
    exact⟨v,[],PK hu h0 hx hi hj0 hj1 hag (by rw[he];exact hrd),hv⟩
   ·exact hk.elim
  ·rename_i s hx
   obtain⟨hs,hj0,hk⟩:=hk
   split at hk
   ·rename_i b hb
    exact⟨_,_,PI (Ht hs) hx hi hj0 hb,hk⟩
   ·exact hk.elim
  ·exact hk.elim
 ·exact hk.elim
theorem aN0 {ty:TypeId} {x:Operand} {lo hi mx:Option Operand} (hk:oM P h ty (ev t x) (lo.map (ev t)) (hi.map (ev t)) (mx.map (ev t)) fun v=>K v []):ru P n (.slice ty x lo hi mx) t h K:=by
 unfold oM at hk
 split at hk
 ·rename_i z es full hx
  split at hk
  ·rename_i e z' hs
   obtain⟨hu,he,h0⟩:=iq hs
   obtain⟨rfl,hk⟩:=hk
   cases mx with
   | none =>
    simp only[Option.map_none]at hk
    obtain⟨l,hl,hk⟩:=fV hk
    obtain⟨hh,hhh,h1,h2,hk⟩:=fV hk
    exact⟨_,_,Sl hu he h0 hx hl hhh h1 h2,hk⟩
   | some m =>
    simp only[Option.map_some]at hk
    obtain⟨l,hl,hk⟩:=fV hk
    cases hi with
    | none=>exact hk.elim
    | some hi =>
     simp only[Option.map_some]at hk
     obtain⟨hh,hhh,hk⟩:=fV hk
     obtain⟨mm,hmm,h1,h2,h3,hk⟩:=fV hk
     exact⟨_,_,PD hu he h0 hx hl hhh hmm h1 h2 h3,hk⟩
  ·exact hk.elim
 ·rename_i m z off len own hx
  split at hk
  ·rename_i e z' hs
   obtain⟨hu,he,h0⟩:=iq hs
   obtain⟨rfl,hm,hk⟩:=hk
   cases mx with
   | some mx =>
    simp only[Option.map_some]at hk
    obtain⟨l,hl,hk⟩:=fV hk
    cases hi with
    | none=>exact hk.elim
    | some hi =>
     simp only[Option.map_some]at hk
     obtain⟨hh,hhh,hk⟩:=fV hk
     obtain⟨mm,hmm,h1,h2,h3,hk'⟩:=fV hk
     rw[h1]at hhh
     rw[h2]at hmm
     exact⟨_,_,Su hu he h0 hx hm hl hhh hmm h3,hk'⟩
   | none =>
    simp only[Option.map_none]at hk
    obtain⟨l,hl,hk⟩:=fV hk
    obtain⟨hh,hhh,h1,h2,hk⟩:=fV hk
    exact⟨_,_,Sj hu he h0 hx hm hl hhh h1 h2,hk⟩
  ·exact hk.elim
 ·rename_i m off hx
  split at hk
  ·rename_i len z ha
   obtain⟨e,hu,he,h0⟩:=wO ha
   obtain⟨hm,hmx,hk⟩:=hk
   cases mx with
   | some m=>cases hmx
   | none =>
    obtain⟨l,hl,hk⟩:=fV hk
    obtain⟨hh,hhh,h1,h2,hk⟩:=fV hk
    exact⟨_,_,PG hu he h0 hx hm hl hhh h1 h2,hk⟩
  ·exact hk.elim
 ·rename_i s hx
  obtain⟨hs,hmx,hk⟩:=hk
  cases mx with
  | some m=>cases hmx
  | none =>
   obtain⟨l,hl,hk⟩:=fV hk
   obtain⟨hh,hhh,h1,h2,hk⟩:=fV hk
   exact⟨_,_,Pz (Ht hs) hx hl hhh h1 h2,hk⟩
 ·rename_i hx
  split at hk
  ·rename_i _ ez hs
   obtain⟨hu,he,h0⟩:=iq hs
   obtain⟨hmx,hk⟩:=hk
   cases mx with
   | some m=>cases hmx
   | none =>
    obtain⟨l,hl,hk⟩:=fV hk
    obtain⟨hh,hhh,rfl,rfl,hk⟩:=fV hk
    exact⟨_,_,PE hu he h0 hx hl hhh,hk⟩
  ·exact hk.elim
 ·exact hk.elim
theorem LZ {ty:TypeId} {len:Nat} {ps:Array (Nat×Operand)} (hk:ny P n mu ty len (ps.toList.map fun p=>(p.1,ev t p.2)) K):ru P n (.buildSlice ty len ps) t h K:=by
 unfold ny at hk
 split at hk
 ·rename_i e z hs
  obtain⟨hz,hsm,hl,hd,hk⟩:=hk
  obtain⟨zc,hzc,hzl⟩:=Option.map_eq_some_iff.1 hz
  have hl':ps.size=len:=by simpa using hl
  cases mu with
  | false=>exact⟨_,_,Yl hs hzc hzl (by omega) hl' hd,hk⟩
  | true=>exact⟨_,_,Yk hs hzc hzl (by omega) hl' hd,hk⟩
 ·exact hk.elim
theorem PN {ty:TypeId} {l c:Operand} (hk:match jG P n ty (ev t l) (ev t c)with | some r=>K r.1 r.2 | none=>False):ru P n (.makeSlice ty l c) t h K:=by
 cases he:jG P n ty (ev t l) (ev t c)with
 | none=>rw[he]at hk;exact hk.elim
 | some r =>
  rw[he]at hk
  unfold jG at he
  split at he
  ·rename_i e z k a k' b hs hl hc
   split at he
   ·rename_i zc hz
    split at he
    ·rename_i hh
     obtain⟨h1,h2,h3,h4,h5⟩:=hh
     cases he
     obtain⟨m,rfl⟩:∃m:Nat,a=m:=⟨a.toNat,by omega⟩
     subst h3
     exact⟨_,_,PH hs hz h1 hl hc (by simpa using h4) (by omega),hk⟩
    ·cases he
   ·cases he
  ·cases he
theorem aq2 {c:Call} {ty xt:TypeId} {s x:Operand} (hb:c.callee = .builtin .append) (hty:c.argTypes = #[ty,xt]) (ha:c.args = #[s,x]) (hk:zT P n h mu ty xt (ev t s) (ev t x) K):ru P n (.call c) t h K:=by
 unfold zT at hk
 split at hk
 ·rename_i e z hs
  obtain⟨hx,hz,hk⟩:=hk
  split at hk
  ·rename_i fs hf
   split at hk
   ·rename_i m z' off len own hsv
    obtain⟨rfl,rfl,hk⟩:=hk
    split at hk
    ·rename_i cs hg
     obtain⟨hcl,h1,hbd,hmx,hk⟩:=hk
     exact⟨_,_,LW hb hty ha hsv hg hcl hf h1 ⟨hs,hx,hz,hbd,hmx⟩,hk⟩
    ·exact hk.elim
   ·split at hk
    ·rename_i es he
     obtain⟨hbd,hmx,hk⟩:=hk
     cases mu with
     | false=>exact⟨_,_,PM hb hty ha he hf ⟨hs,hx,hz,hbd,hmx⟩,hk⟩
     | true=>exact⟨_,_,LX hb hty ha he hf ⟨hs,hx,hz,hbd,hmx⟩ hk.1,hk.2⟩
    ·exact hk.elim
  ·exact hk.elim
 ·exact hk.elim
theorem yz {x:Option AV} {op:Op} (hy:∀v,x=some v->Yields P n op t h v []) (hk:wW x fun v=>K v []):ru P n op t h K:=by
 unfold wW at hk
 split at hk
 ·rename_i v
  exact⟨v,[],hy v rfl,hk⟩
 ·exact hk.elim
theorem UN {α:Type} {l:Array α} {a b:α} (h:l.toList=[a,b]):l = #[a,b]:=by apply Array.ext';rw[h]
theorem Yp {c:Call} {b:Builtin} (hb:c.callee = .builtin b) (hk:kF P n mu b h c.argTypes.toList (c.args.toList.map (ev t)) K):ru P n (.call c) t h K:=by
 unfold kF at hk
 split at hk
 ·rename_i ty tys X Xs h1 h2
  split at hk
  ·rename_i m hm
   cases ha:c.args.toList with
   | nil=>rw[ha]at h2;cases h2
   | cons x xs =>
    rw[ha]at h2
    simp only[List.map_cons,List.cons.injEq]at h2
    have e1:c.argTypes[0]? = some ty:=by rw[<-Array.getElem?_toList,h1];rfl
    have e2:c.args[0]? = some x:=by rw[<-Array.getElem?_toList,ha];rfl
    exact⟨_,_,b54 hb e1 e2 (by rw[h2.1];exact hm),hk⟩
  ·exact hk.elim
 ·rename_i X Xs h2
  exact yz (fun v hv=>b53 hb h2 hv) hk
 ·rename_i X Xs h2
  exact yz (fun v hv=>b52 hb h2 hv) hk
 ·rename_i ty xt S X h1 h2
  match ha:c.args.toList with
  | []=>rw[ha]at h2;cases h2
  | [s]=>rw[ha]at h2;cases h2
  | [s,x] =>
   rw[ha]at h2
   simp only[List.map_cons,List.map_nil,List.cons.injEq,and_true]at h2
   obtain⟨rfl,rfl⟩:=h2
   exact aq2 hb (UN h1) (UN ha) hk
  | _::_::_::_=>rw[ha]at h2;cases h2
 ·rename_i ty xt S X h1 h2
  match ha:c.args.toList with
  | []=>rw[ha]at h2;cases h2
  | [s]=>rw[ha]at h2;cases h2
  | [s,x] =>
   rw[ha]at h2
   simp only[List.map_cons,List.map_nil,List.cons.injEq,and_true]at h2
   obtain⟨rfl,rfl⟩:=h2
   split at hk
   ·rename_i r d he
    exact⟨r,d,bo2 hb (UN h1) (UN ha) he,hk⟩
   ·exact hk.elim
  | _::_::_::_=>rw[ha]at h2;cases h2
 ·exact yz (fun v hv=>b55 hb rfl hv) hk
theorem um:∀{op:Op},nK P n mu op t h K->ru P n op t h K:=by
 intro op hk
 cases op<;>simp only[nK]at hk
 case move x=>exact⟨_,_,bo1 x,hk⟩
 case assign x=>exact⟨_,_,aq1 x,hk⟩
 case pick c a b =>
  unfold NP at hk
  split at hk
  ·rename_i p hc
   refine⟨_,_,bo0 hc,?_⟩
   cases p with
   | true=>exact hk.1 rfl
   | false=>exact hk.2 rfl
  ·exact hk.elim
 case alloc e =>
  split at hk
  ·rename_i cs hz
   exact⟨_,_,aM8 hz,hk⟩
  ·exact hk.elim
 case box e x=>exact⟨_,_,b56 hk.1,hk.2⟩
 case load ty x=>exact bo4 hk
 case store ty x y=>exact aM9 hk
 case nilCheck x =>
  unfold ba9 at hk
  split at hk
  ·rename_i m off hx
   exact⟨_,_,Gw hx hk.1,hk.2⟩
  ·rename_i cs off hx
   exact⟨_,_,Hf hx,hk⟩
  ·rename_i f xs ys hx
   exact⟨_,_,Hg hx,hk⟩
  ·exact hk.elim
 case indexAddr ty x i=>exact PO hk
 case fieldAddr ty x f=>exact PP hk
 case field ty x f=>exact aN2 hk
 case index ty x i=>exact aN1 hk
 case slice ty x lo hi mx=>exact aN0 hk
 case binOp op ty x y ty'=>exact yz (fun v hv=>aq0 hv) hk
 case unOp op ty x=>exact yz (fun v hv=>bn9 hv) hk
 case convert src dst x=>exact yz (fun v hv=>Yo hk.1 hv) hk.2
 case extract x i =>
  split at hk
  ·rename_i vs hx
   exact yz (fun v hv=>Yn hx hv) hk
  ·exact hk.elim
 case makeFunc f xs ys=>exact⟨_,_,Sv,hk⟩
 case build ty ps =>
  split at hk
  ·rename_i cs hz
   split at hk
   ·rename_i cs' hf
    exact⟨_,_,aM6 hz hf hk.1,hk.2⟩
   ·exact hk.elim
  ·exact hk.elim
 case buildSlice ty len ps=>exact LZ hk
 case makeSlice ty l c=>exact PN hk
 case call c =>
  split at hk
  ·rename_i b hb
   exact Yp hb hk
  ·rename_i x hx
   split at hk
   ·rename_i f xs ys hf
    obtain⟨r,d,hb,hcy,hk⟩:=hk
    exact⟨r,d,bo3 hx hf hb hcy,hk⟩
   ·exact hk.elim
  ·exact hk.elim
end
end Go.Proofs.Aw
namespace Go.Proofs.Aw
open Go
structure St where
 t:Tp
 h:Hp
 nx:Nat
structure Env where
 N:Nat
 w0:World
 wr:Nat->Prop
 mt0:Nat->Prop
 c0:Ctx
structure FrameOk (E:Env) (C:Ctx):Prop where
 os:C.w.os=E.w0.os
 tape:C.w.tape=E.w0.tape
 output:C.w.output=E.w0.output
 size:E.w0.heap.size<=C.w.heap.size
 same:∀b,b<E.w0.heap.size->¬E.wr b->C.w.heap[b]? = E.w0.heap[b]?
 mt:∀b,b<E.w0.heap.size->(C.mt b<->E.mt0 b)
 wr:∀n,C.live n->C.J n<E.w0.heap.size->E.wr (C.J n)
 le:E.c0.le C
theorem FrameOk.step {E:Env} {C C':Ctx} {n:Nat} {h:Hp} {r:AV} {d:Dl} {u:Value} (hf:FrameOk E C) (hp:Post C n h r d u C'):FrameOk E C' where
 os:=hp.os.trans hf.os
 tape:=hp.tape.trans hf.tape
 output:=hp.output.trans hf.output
 size:=Nat.le_trans hf.size hp.le.size
 same b hb hw:=(hp.same b (Nat.lt_of_lt_of_le hb hf.size) (fun m _ hl e=>hw (by rw[e];exact hf.wr m hl (by rw[<-e];exact hb)))).trans (hf.same b hb hw)
 mt b hb:=(hp.mt b (Nat.lt_of_lt_of_le hb hf.size)).trans (hf.mt b hb)
 wr m hl hb:=by
  rcases hp.orig m hl with⟨h1,h2⟩ | h1 | ⟨m0,_,h1,h2⟩
  ·rw[h2]at hb ⊢;exact hf.wr m h1 hb
  ·have:=hf.size;omega
  ·rw[h2]at hb ⊢;exact hf.wr m0 h1 hb
 le:=hf.le.trans hp.le
structure RelC (E:Env) (σ:St) (a:Act) (C:Ctx):Prop where
 heap:HeapOk C σ.h
 t:TOk C σ.t a
 size:a.tmps.size=E.N
 defers:a.defers=[]
 kn:∀m,C.kn m->m.1<σ.nx
 frame:FrameOk E C
def Rel (E:Env) (σ:St) (a:Act) (w:World):Prop:=∃C,C.w=w/\RelC E σ a C
theorem TOk.put {C:Ctx} {t:Tp} {a:Act} {d:Option Tmp} {v:AV} {u:Value} (ht:TOk C t a) (hv:Conc C v u) (hd:∀i,d=some i->i<a.tmps.size):TOk C (qm d v t) (a.put d u):=by
 intro i
 cases d with
 | none=>exact ht i
 | some j =>
  simp only[qm,dX,Act.put]
  by_cases hij:j=i
  ·subst hij
   rw[if_pos rfl]
   have hj:=hd j rfl
   have:(a.tmps.setIfInBounds j u).getD j undef=u:=by simp[Array.getD,hj]
   rw[this];exact hv
  ·rw[if_neg hij]
   have:(a.tmps.setIfInBounds j u).getD i undef=a.tmps.getD i undef:=by
    simp[Array.getD_eq_getD_getElem?,Array.getElem?_setIfInBounds_ne hij]
   rw[this];exact ht i
theorem qP (a:Act) (d:Option Tmp) (u:Value):(a.put d u).tmps.size=a.tmps.size:=by cases d<;>simp[Act.put]
theorem put_defers (a:Act) (d:Option Tmp) (u:Value):(a.put d u).defers=a.defers:=by cases d<;>rfl
theorem RelC.step {E:Env} {σ:St} {a:Act} {C C':Ctx} {r:AV} {d:Dl} {u:Value} {dst:Option Tmp} (h:RelC E σ a C) (hp:Post C σ.nx σ.h r d u C') (hd:∀i,dst=some i->i<E.N) :
  RelC E ⟨qm dst r σ.t,hap d σ.h,σ.nx+1⟩ (a.put dst u) C' where
 heap:=hp.heap
 t:=TOk.put (h.t.mono hp.le) hp.val (fun i hi=>by rw[h.size];exact hd i hi)
 size:=by rw[qP];exact h.size
 defers:=by rw[put_defers];exact h.defers
 kn m hm:=by
  rcases(hp.kn m).1 hm with h1 | h1
  ·exact Nat.lt_succ_of_lt (h.kn m h1)
  ·simp only;omega
 frame:=h.frame.step hp
theorem RelC.skip {E:Env} {σ:St} {a:Act} {C:Ctx} {dst:Option Tmp} (h:RelC E σ a C) (hd:∀i,dst=some i->i<E.N):RelC E ⟨qm dst (.sc undef) σ.t,σ.h,σ.nx⟩ (a.put dst undef) C where
 heap:=h.heap
 t:=TOk.put h.t (by simp only[Conc]) (fun i hi=>by rw[h.size];exact hd i hi)
 size:=by rw[qP];exact h.size
 defers:=by rw[put_defers];exact h.defers
 kn m hm:=h.kn m hm
 frame:=h.frame
def yv (ops:List Oper) (t:Tp) (j:Nat):AV :=
 match(ops[j]?).bind (·.dst)with
 | some d=>dX t d
 | none => .top
def gdK (v:AV) (want:Bool) (A B:Prop):Prop :=
 match v with
 | .sc (.bool b)=>(b=want->A)/\(b = !want->B)
 | .sc (.tuple _)=>B
 | _=>False
def vz (P:Program) (ms:List Nat) (ops:List Oper):List Oper->(St->Prop)->St->Prop
 | [],K,σ=>K σ
 | o::l,K,σ =>
  match o.guard with
  | none=>nK P σ.nx (o.dst.any ms.contains) o.op σ.t σ.h fun r d=>vz P ms ops l K ⟨qm o.dst r σ.t,hap d σ.h,σ.nx+1⟩
  | some (j,want)=>gdK (yv ops σ.t j) want
    (nK P σ.nx (o.dst.any ms.contains) o.op σ.t σ.h fun r d=>vz P ms ops l K ⟨qm o.dst r σ.t,hap d σ.h,σ.nx+1⟩)
    (vz P ms ops l K ⟨qm o.dst (.sc undef) σ.t,σ.h,σ.nx⟩)
def fits (N:Nat) (ops:List Oper):Bool:=ops.all fun o=>match o.dst with | some d=>Nat.blt d N | none=>true
theorem IY {N:Nat} {o:Oper} {l:List Oper} (h:fits N (o::l)=true):(∀i,o.dst=some i->i<N)/\fits N l=true:=by
 simp only[fits,List.all_cons,Bool.and_eq_true]at h
 refine⟨fun i hi => ?_,h.2⟩
 have:=h.1
 rw[hi]at this
 simpa [Nat.blt_eq]using this
theorem rC {C:Ctx} {t:Tp} {a:Act} (ht:TOk C t a) (ops:List Oper) (j:Nat):(∀b,yv ops t j = .sc (.bool b)->yielded ops.toArray a.tmps j=some b)/\(∀x,yv ops t j = .sc (.tuple x)->yielded ops.toArray a.tmps j=none):=by
 unfold yv yielded
 have e:ops.toArray[j]? = ops[j]? := by simp
 rw[e]
 cases hd:(ops[j]?).bind (·.dst)with
 | none=>exact⟨fun b h=>(nomatch h),fun b h=>(nomatch h)⟩
 | some d =>
  have hc:=ht d
  simp only[Option.bind_some]
  refine⟨fun b h => ?_,fun x h => ?_⟩
  ·rw[h]at hc
   simp only[Conc]at hc
   cases hg:a.tmps[d]? with
   | none=>simp[Array.getD_eq_getD_getElem?,hg,undef]at hc
   | some v =>
    have:v = .bool b:=by simpa [Array.getD_eq_getD_getElem?,hg]using hc
    rw[this]
  ·rw[h]at hc
   simp only[Conc]at hc
   cases hg:a.tmps[d]? with
   | none=>rfl
   | some v =>
    have:v = .tuple x:=by simpa [Array.getD_eq_getD_getElem?,hg]using hc
    rw[this]
theorem vw {P:Program} {ms:List Nat} {E:Env} {ops:List Oper} {Q:Exit->Act->World->Prop} {K:St->Prop} (hK:∀σ a w,K σ->Rel E σ a w->Q .normal a w) :
  ∀(l:List Oper) (σ:St) (a:Act) (w:World),fits E.N l=true->vz P ms ops l K σ->Rel E σ a w->wpList P ops.toArray Q l a w
 | [],σ,a,w,_,h,hr=>hK σ a w h hr
 | o::l,σ,a,w,hfit,h,hr=>by
  obtain⟨hd,hfit'⟩:=IY hfit
  obtain⟨C,rfl,hC⟩:=hr
  have stepped:∀(hk:nK P σ.nx (o.dst.any ms.contains) o.op σ.t σ.h fun r d=>vz P ms ops l K ⟨qm o.dst r σ.t,hap d σ.h,σ.nx+1⟩),Region.wanted o (yielded ops.toArray a.tmps)=true->wpList P ops.toArray Q (o::l) a C.w:=by
   intro hk hw
   obtain⟨r,d,hy,hn⟩:=um hk
   unfold wpList
   rw[if_pos hw]
   refine .inl (hy C a o _ _ rfl hC.heap hC.t (fun k hkn=>absurd (hC.kn _ hkn) (by simp)) fun u C' hp => ?_)
   exact vw hK l _ _ _ hfit' hn ⟨C',rfl,hC.step hp hd⟩
  have skipped:vz P ms ops l K ⟨qm o.dst (.sc undef) σ.t,σ.h,σ.nx⟩->Region.wanted o (yielded ops.toArray a.tmps)=false->wpList P ops.toArray Q (o::l) a C.w:=by
   intro hk hw
   unfold wpList
   rw[if_neg (by rw[hw];simp)]
   exact vw hK l _ _ _ hfit' hk ⟨C,rfl,hC.skip hd⟩
  unfold vz at h
  cases hg:o.guard with
  | none =>
   rw[hg]at h
   exact stepped h (by simp[Region.wanted,hg])
  | some jw =>
   obtain⟨j,want⟩:=jw
   rw[hg]at h
   obtain⟨y1,y2⟩:=rC hC.t ops j
   simp only at h
   unfold gdK at h
   split at h
   ·rename_i b hb
    have hy:=y1 b hb
    by_cases hbw:b=want
    ·exact stepped (h.1 hbw) (by simp[Region.wanted,hg,hy,hbw])
    ·exact skipped (h.2 (by cases b<;>cases want<;>simp_all)) (by simp[Region.wanted,hg,hy,hbw])
   ·rename_i x hx
    have hy:=y2 x hx
    exact skipped h (by simp[Region.wanted,hg,hy])
   ·exact h.elim
def AW (P:Program) (E:Env) (c:Code) (Q:Exit->St->Prop) (σ:St):Prop :=
 ∀a w,Rel E σ a w->c.wp P (fun e a' w'=>∃σ',Rel E σ' a' w'/\Q e σ') a w
def L9 (next:St->Prop) (Q:Exit->St->Prop):Exit->St->Prop
 | .normal,σ=>next σ
 | e,σ=>Q e σ
def Mc (id:Nat) (Q:Exit->St->Prop):Exit->St->Prop
 | .exit j,σ=>if j=id then Q .normal σ else Q (.exit j) σ
 | e,σ=>Q e σ
def wZ (E:Env) (σ σ':St):Prop:=∀a w,Rel E σ a w->Rel E σ' a w
section
variable {P:Program} {E:Env} {Q:Exit->St->Prop} {σ:St}
theorem sW {c:Code} {σ':St} (hi:wZ E σ σ') (h:AW P E c Q σ'):AW P E c Q σ:=fun a w hr=>h a w (hi a w hr)
theorem bY {c:Code} {Q':Exit->St->Prop} (hq:∀e σ,Q e σ->Q' e σ) (h:AW P E c Q σ):AW P E c Q' σ:=fun a w hr=>Code.wp_mono (fun _ _ _ ⟨σ',h1,h2⟩=>⟨σ',h1,hq _ _ h2⟩) (h a w hr)
theorem qF {x y:Code} (h:∀K:St->Prop,(∀σ,AW P E y Q σ->K σ)->AW P E x (L9 K Q) σ):AW P E (.seq x y) Q σ:=fun a w hr =>
 wp_seq (Code.wp_mono (fun e a' w' ⟨σ',h1,h2⟩=>by
  cases e with
  | normal=>exact h2 a' w' h1
  | _=>exact⟨σ',h1,h2⟩) (h _ (fun _ hh=>hh) a w hr))
theorem Md (h:Q .normal σ):AW P E .skip Q σ:=fun _ _ hr=>wp_skip ⟨σ,hr,h⟩
theorem aq9 {l:Nat} (h:Q .normal σ):AW P E (.label l) Q σ:=fun _ _ hr=>wp_label ⟨σ,hr,h⟩
theorem Me (h:Q .ret σ):AW P E .ret Q σ:=fun _ _ hr=>wp_ret ⟨σ,hr,h⟩
theorem aN7 {id:Nat} (h:Q (.exit id) σ):AW P E (.exit id) Q σ:=fun _ _ hr=>wp_exit ⟨σ,hr,h⟩
theorem ar4 {id:Nat} {c:Code} (h:AW P E c (Mc id Q) σ):AW P E (.block id c) Q σ:=fun a w hr =>
 wp_block (Code.wp_mono (fun e a' w' ⟨σ',h1,h2⟩=>by
  cases e with
  | exit j =>
   simp only[Mc]at h2
   simp only[Exit.inBlock]
   split
   ·rename_i hj;rw[if_pos hj]at h2;exact⟨σ',h1,h2⟩
   ·rename_i hj;rw[if_neg hj]at h2;exact⟨σ',h1,h2⟩
  | _=>exact⟨σ',h1,h2⟩) (h a w hr))
theorem D6 {c:Operand} {x y:Code} {b:Bool} (hc:ev σ.t c = .sc (.bool b)) (h1:b=true->AW P E x Q σ) (h2:b=false->AW P E y Q σ):AW P E (.cond c x y) Q σ:=fun a w hr=>by
 obtain⟨C,rfl,hC⟩:=hr
 have he:=aH hC.t c
 rw[hc]at he
 simp only[Conc]at he
 refine wp_cond he ?_
 cases b with
 | true=>exact h1 rfl a _ ⟨C,rfl,hC⟩
 | false=>exact h2 rfl a _ ⟨C,rfl,hC⟩
theorem ar1 {c:Operand} {x y:Code} (hc:ev σ.t c = .sc (.bool true)) (h:AW P E x Q σ):AW P E (.cond c x y) Q σ:=D6 hc (fun _=>h) (fun e=>nomatch e)
theorem ar2 {c:Operand} {x y:Code} (hc:ev σ.t c = .sc (.bool false)) (h:AW P E y Q σ):AW P E (.cond c x y) Q σ:=D6 hc (fun e=>nomatch e) (fun _=>h)
theorem Yr {id:Nat} {ops:List Oper} (ms:List Nat) (hf:fits E.N ops=true) (h:vz P ms ops ops (Q .normal) σ):AW P E (.region id ops.toArray false) Q σ:=fun a w hr =>
 wp_region_lit (vw (fun σ' _ _ hk hr'=>⟨σ',hr',hk⟩) ops σ a w hf h hr)
def SE (P:Program) (E:Env) (c:Code) (Q:Exit->St->Prop):Nat->St->Prop
 | 0,_=>False
 | n+1,σ=>AW P E c (L9 (SE P E c Q n) Q) σ
theorem ar5 {c:Code} {n:Nat} (h:AW P E c (L9 (SE P E c Q n) Q) σ):SE P E c Q (n+1) σ:=h
theorem Jt {c:Code}:∀(n:Nat) (σ:St) (a:Act) (w:World),SE P E c Q n σ->Rel E σ a w->Code.rounds P c (fun e a' w'=>∃σ',Rel E σ' a' w'/\Q e σ') n a w
 | 0,_,_,_,h,_=>h.elim
 | n+1,σ,a,w,h,hr=>by
  rw[rounds_succ]
  refine Code.wp_mono (fun e a' w' ⟨σ',h1,h2⟩ => ?_) (h a w hr)
  cases e with
  | normal=>exact Jt n σ' a' w' h2 h1
  | _=>exact⟨σ',h1,h2⟩
theorem wU {c:Code} (n:Nat) (h:SE P E c Q n σ):AW P E (.loop c) Q σ:=fun a w hr=>wp_loop_rounds n (Jt n σ a w h hr)
theorem VF {c:Code} (I:Nat->St->Prop) (k:Nat) (h0:∃σ',wZ E σ σ'/\I k σ') (round:∀k σ,I k σ->AW P E c (L9 (fun σ'=>∃k' σ'',k'<k/\wZ E σ' σ''/\I k' σ'') Q) σ):AW P E (.loop c) Q σ:=by
 have key:∀(n k:Nat),k<=n->∀σ,I k σ->SE P E c Q (n+1) σ:=by
  intro n
  induction n with
  | zero =>
   intro k hk σ hI
   refine bY (fun e σ' hq => ?_) (round k σ hI)
   cases e with
   | normal=>obtain⟨k',_,hlt,_⟩:=hq;omega
   | _=>exact hq
  | succ n ih =>
   intro k hk σ hI
   refine bY (fun e σ' hq => ?_) (round k σ hI)
   cases e with
   | normal =>
    obtain⟨k',σ'',hlt,hi,hI'⟩:=hq
    exact sW hi (ih k' (by omega) σ'' hI')
   | _=>exact hq
 obtain⟨σ',hi,hI⟩:=h0
 exact sW hi (wU (k+1) (key k k (Nat.le_refl _) σ' hI))
end
end Go.Proofs.Aw
namespace Go.Proofs.Aw
open Go
mutual
def nms (p:Nm->Bool):AV->Bool
 | .top=>true
 | .sc _=>true
 | .agg cs=>nmsL p cs
 | .tup vs=>nmsL p vs
 | .ptr n _=>p n
 | .sl n _ _ _ _=>p n
 | .ip cs _=>nmsL p cs
 | .ro _ es _=>nmsE p es
 | .fn _ xs ys=>nmsL p xs&&nmsL p ys
 | .ifc _ v=>nms p v
def nmsL (p:Nm->Bool):List AV->Bool
 | []=>true
 | v::vs=>nms p v&&nmsL p vs
def nmsE (p:Nm->Bool):List (List AV)->Bool
 | []=>true
 | e::es=>nmsL p e&&nmsE p es
end
mutual
def ren (f:Nm->Nm):AV->AV
 | .top => .top
 | .sc v => .sc v
 | .agg cs => .agg (renL f cs)
 | .tup vs => .tup (renL f vs)
 | .ptr n off => .ptr (f n) off
 | .sl n z off len own => .sl (f n) z off len own
 | .ip cs off => .ip (renL f cs) off
 | .ro z es full => .ro z (renE f es) full
 | .fn g xs ys => .fn g (renL f xs) (renL f ys)
 | .ifc t v => .ifc t (ren f v)
def renL (f:Nm->Nm):List AV->List AV
 | []=>[]
 | v::vs=>ren f v::renL f vs
def renE (f:Nm->Nm):List (List AV)->List (List AV)
 | []=>[]
 | e::es=>renL f e::renE f es
end
theorem BP (f:Nm->Nm):∀cs,(renL f cs).length=cs.length
 | []=>rfl
 | v::vs=>by simp[renL,BP f vs]
theorem uy (f:Nm->Nm):∀es,(renE f es).length=es.length
 | []=>rfl
 | v::vs=>by simp[renE,uy f vs]
theorem qO (f:Nm->Nm):∀(cs:List AV) (i:Nat) (c:AV),cs[i]? = some c->(renL f cs)[i]? = some (ren f c)
 | [],i,c,h=>by simp at h
 | v::vs,0,c,h=>by simp at h;simp[renL,h]
 | v::vs,i+1,c,h=>by simpa [renL]using qO f vs i c (by simpa using h)
theorem jZ {p:Nm->Bool}:∀{cs:List AV} {i:Nat} {c:AV},nmsL p cs=true->cs[i]? = some c->nms p c=true
 | [],i,c,_,h=>by simp at h
 | v::vs,0,c,hp,h=>by simp only[nmsL,Bool.and_eq_true]at hp;simp at h;rw[<-h];exact hp.1
 | v::vs,i+1,c,hp,h=>by simp only[nmsL,Bool.and_eq_true]at hp;exact jZ hp.2 (by simpa using h)
structure Ctx.sub (C C':Ctx) (f:Nm->Nm) (p:Nm->Bool):Prop where
 w:C'.w=C.w
 mt:∀b,b<C.w.heap.size->C'.mt b->C.mt b
 kn:∀m,p m=true->C.kn (f m)->C'.kn m
 live:∀m,p m=true->C.kn (f m)->C'.live m->C.live (f m)/\C'.J m=C.J (f m)/\C'.bs m=C.bs (f m)
mutual
theorem Conc.ren {C C':Ctx} {f:Nm->Nm} {p:Nm->Bool} (h:C.sub C' f p):∀(v:AV) (u:Value),nms p v=true->Conc C (Aw.ren f v) u->Conc C' v u
 | .top,_,_,_=>trivial
 | .sc _,_,_,hu=>hu
 | .agg cs,_,hp,⟨us,e,hc⟩=>⟨us,e,ConcL.ren h cs _ hp hc⟩
 | .tup cs,_,hp,⟨us,e,hc⟩=>⟨us,e,ConcL.ren h cs _ hp hc⟩
 | .ptr n off,_,hp,⟨hv,hk,hu⟩=>⟨hv,h.kn n hp hk,fun hl=>by
   obtain⟨l,e,e'⟩:=h.live n hp hk hl
   rw[e,e'];exact hu l⟩
 | .sl n z off len own,_,hp,⟨hv,hk,hu⟩=>⟨hv,h.kn n hp hk,fun hl=>by
   obtain⟨l,e,e'⟩:=h.live n hp hk hl
   obtain⟨cap,o,h1,h2,h3,h4⟩:=hu l
   refine⟨cap,o,by rw[e];exact h1,h2,by rw[e'];exact h3,fun ho => ?_⟩
   rw[e,e',h.w]
   exact h4 ho⟩
 | .ip cs off,_,hp,⟨a,h1,h2,h3,h4⟩=>⟨a,h1,by rw[h.w];exact h2,fun hm=>h3 (h.mt _ h2 hm),ConcM.ren h a 0 cs hp h4⟩
 | .ro z es full,u,hp,hc=>by
   obtain⟨A,cap,h1,h2,h3,h4⟩:=iw.1 hc
   rw[uy]at h1 h2 h3
   refine iw.2 ⟨A,cap,h1,h2,h3,fun hne => ?_⟩
   obtain⟨a,h5,h6,h7,h8⟩:=h4 (by
    intro e;apply hne
    have:=uy f es
    rw[e]at this
    exact List.length_eq_zero_iff.1 this.symm)
   exact⟨a,h5,by rw[h.w];exact h6,fun hm=>h7 (h.mt _ h6 hm),ConcE.ren h a z 0 es hp h8⟩
 | .fn g xs ys,_,hp,⟨us,vs,e,hx,hy⟩=>by
   simp only[nms,Bool.and_eq_true]at hp
   exact⟨us,vs,e,ConcL.ren h xs _ hp.1 hx,ConcL.ren h ys _ hp.2 hy⟩
 | .ifc t v,_,hp,⟨x,e,hx⟩=>⟨x,e,Conc.ren h v _ hp hx⟩
theorem ConcL.ren {C C':Ctx} {f:Nm->Nm} {p:Nm->Bool} (h:C.sub C' f p):∀(cs:List AV) (us:List Value),nmsL p cs=true->ConcL C (renL f cs) us->ConcL C' cs us
 | [],_,_,hu=>hu
 | c::cs,_,hp,⟨u,vs,e,hc,hl⟩=>by
   simp only[nmsL,Bool.and_eq_true]at hp
   exact⟨u,vs,e,Conc.ren h c u hp.1 hc,ConcL.ren h cs vs hp.2 hl⟩
theorem ConcM.ren {C C':Ctx} {f:Nm->Nm} {p:Nm->Bool} (h:C.sub C' f p) (a:Addr):∀(i:Nat) (cs:List AV),nmsL p cs=true->ConcM C a i (renL f cs)->ConcM C' a i cs
 | _,[],_,_=>trivial
 | i,c::cs,hp,⟨⟨u,hu,hc⟩,hl⟩=>by
   simp only[nmsL,Bool.and_eq_true]at hp
   exact⟨⟨u,by rw[h.w];exact hu,Conc.ren h c u hp.1 hc⟩,ConcM.ren h a (i+1) cs hp.2 hl⟩
theorem ConcE.ren {C C':Ctx} {f:Nm->Nm} {p:Nm->Bool} (h:C.sub C' f p) (a:Addr) (z:Nat):∀(i:Nat) (es:List (List AV)),nmsE p es=true->ConcE C a z i (renE f es)->ConcE C' a z i es
 | _,[],_,_=>trivial
 | i,e::es,hp,⟨hz,hc,hl⟩=>by
   simp only[nmsE,Bool.and_eq_true]at hp
   exact⟨by rw[<-BP f e];exact hz,ConcM.ren h a _ e hp.1 hc,ConcE.ren h a z (i+1) es hp.2 hl⟩
end
mutual
theorem Ar:∀(v:AV),ren id v=v
 | .top=>rfl
 | .sc _=>rfl
 | .agg cs=>by simp only[ren,mJ cs]
 | .tup cs=>by simp only[ren,mJ cs]
 | .ptr _ _=>rfl
 | .sl _ _ _ _ _=>rfl
 | .ip cs _=>by simp only[ren,mJ cs]
 | .ro _ es _=>by simp only[ren,Uc es]
 | .fn _ xs ys=>by simp only[ren,mJ xs,mJ ys]
 | .ifc _ v=>by simp only[ren,Ar v]
theorem mJ:∀(cs:List AV),renL id cs=cs
 | []=>rfl
 | c::cs=>by simp only[renL,Ar c,mJ cs]
theorem Uc:∀(es:List (List AV)),renE id es=es
 | []=>rfl
 | e::es=>by simp only[renE,mJ e,Uc es]
end
mutual
theorem EO {p q:Nm->Bool} (h:∀m,p m=true->q m=true):∀(v:AV),nms p v=true->nms q v=true
 | .top,_=>rfl
 | .sc _,_=>rfl
 | .agg cs,hp=>kQ h cs hp
 | .tup cs,hp=>kQ h cs hp
 | .ptr n _,hp=>h n hp
 | .sl n _ _ _ _,hp=>h n hp
 | .ip cs _,hp=>kQ h cs hp
 | .ro _ es _,hp=>Iw h es hp
 | .fn _ xs ys,hp=>by
   simp only[nms,Bool.and_eq_true]at hp ⊢
   exact⟨kQ h xs hp.1,kQ h ys hp.2⟩
 | .ifc _ v,hp=>EO h v hp
theorem kQ {p q:Nm->Bool} (h:∀m,p m=true->q m=true):∀(cs:List AV),nmsL p cs=true->nmsL q cs=true
 | [],_=>rfl
 | c::cs,hp=>by
   simp only[nmsL,Bool.and_eq_true]at hp ⊢
   exact⟨EO h c hp.1,kQ h cs hp.2⟩
theorem Iw {p q:Nm->Bool} (h:∀m,p m=true->q m=true):∀(es:List (List AV)),nmsE p es=true->nmsE q es=true
 | [],_=>rfl
 | e::es,hp=>by
   simp only[nmsE,Bool.and_eq_true]at hp ⊢
   exact⟨kQ h e hp.1,Iw h es hp.2⟩
end
def slots:Nat->List AV->Tp
 | _,[]=>[]
 | i,v::vs=>(i,v)::slots (i+1) vs
def xC (P:Program) (σ:St):List ResultVar->(List AV->Prop)->Prop
 | [],K=>K []
 | .tmp i::rs,K=>xC P σ rs fun vs=>K (dX σ.t i::vs)
 | .cell p ty::rs,K=>Ce P σ.h ty (dX σ.t p) fun v=>xC P σ rs fun vs=>K (v::vs)
def oneOf:List AV->AV
 | [v]=>v
 | vs => .tup vs
def aN3 (P:Program) (rs:List ResultVar) (r:AV) (e:Exit) (σ:St):Prop:=(e = .ret\/e = .normal)/\xC P σ rs fun vs=>oneOf vs=r
theorem GV {P:Program} {C:Ctx} {h:Hp} (hh:HeapOk C h) {ty:TypeId} {x:AV} {u:Value} {K:AV->Prop} (hc:Conc C x u) (hk:Ce P h ty x K):∃a v r,u = .pointer (some a)/\(loadVar ty a).run P C.w = .ok r C.w/\Conc C v r/\K v:=by
 unfold Ce at hk
 split at hk
 ·rename_i m off
  split at hk
  ·rename_i cs hg
   obtain⟨ag,v,hb,hr,hv⟩:=Az hk
   simp only[Conc]at hc
   have h2:=hc.2.2 (hh.get hg)
   obtain⟨r,hrun,hcr⟩:=lh (P:=P) (a:=⟨C.J m,C.bs m,none⟩) hb (vY (hh.obj m cs hg)) hr
   rw[kM]at hrun
   exact⟨_,v,r,h2,hrun,hcr,hv⟩
  ·exact hk.elim
 ·rename_i cs off
  obtain⟨ag,v,hb,hr,hv⟩:=Az hk
  simp only[Conc]at hc
  obtain⟨ad,h2,_,_,hM⟩:=hc
  obtain⟨r,hrun,hcr⟩:=lh (P:=P) (a:=ad) hb (fun j c hj=>by simpa using hM.get j c hj) hr
  exact⟨_,v,r,h2,hrun,hcr,hv⟩
 ·exact hk.elim
def V4 (tmps:Array Value):ResultVar->Sem Value
 | .tmp t=>pure (tmps.getD t undef)
 | .cell a t=>do loadVar t (<-asAddr (tmps.getD a undef))
theorem Qr (P:Program) (a:Addr) (w:World):(asAddr (.pointer (some a))).run P w = .ok a w:=rfl
theorem Eu {P:Program} {C:Ctx} {σ:St} {tmps:Array Value} (hh:HeapOk C σ.h) (ht:∀i,Conc C (dX σ.t i) (tmps.getD i undef)):∀(rs:List ResultVar) (K:List AV->Prop),xC P σ rs K ->
  ∃vs us,(rs.mapM (V4 tmps)).run P C.w = .ok us C.w/\ConcL C vs us/\K vs
 | [],K,h=>⟨[],[],rfl,by simp only[ConcL],h⟩
 | .tmp i::rs,K,h=>by
  simp only[xC]at h
  obtain⟨vs,us,h1,h2,h3⟩:=Eu hh ht rs _ h
  refine⟨dX σ.t i::vs,tmps.getD i undef::us,?_,by simp only[ConcL];exact⟨_,_,rfl,ht i,h2⟩,h3⟩
  simp only[List.mapM_cons,Sem.run_bind,V4,Sem.run_pure,Result.andThen_ok,h1]
 | .cell p ty::rs,K,h=>by
  simp only[xC]at h
  obtain⟨a,v,r,hu,hrun,hcr,hk⟩:=GV hh (ht p) h
  obtain⟨vs,us,h1,h2,h3⟩:=Eu hh ht rs _ hk
  refine⟨v::vs,r::us,?_,by simp only[ConcL];exact⟨_,_,rfl,hcr,h2⟩,h3⟩
  have e:(V4 tmps (.cell p ty)).run P C.w = .ok r C.w:=by
   simp only[V4,Sem.run_bind,hu,Qr,Result.andThen_ok,hrun]
  simp only[List.mapM_cons,Sem.run_bind,e,Result.andThen_ok,h1,Sem.run_pure]
theorem Qx (fn:Func) (tmps:Array Value):results fn tmps=(do
  let vs <-fn.results.mapM (V4 tmps)
  pure (if h:vs.size=1 then vs[0]else .tuple vs)):=by
 unfold results
 congr 1
theorem BL {P:Program} {C:Ctx} {σ:St} {a:Act} {fn:Func} (hh:HeapOk C σ.h) (ht:TOk C σ.t a) {K:List AV->Prop} (hk:xC P σ fn.results.toList K):∃vs u,(results fn a.tmps).run P C.w = .ok u C.w/\Conc C (oneOf vs) u/\K vs:=by
 obtain⟨vs,us,h1,h2,h3⟩:=Eu hh ht fn.results.toList K hk
 refine⟨vs,if h:us.toArray.size=1 then us.toArray[0]else .tuple us.toArray,?_,?_,h3⟩
 ·rw[Qx,Array.mapM_eq_mapM_toList]
  have e:(List.toArray <$> fn.results.toList.mapM (V4 a.tmps):Sem (Array Value)).run P C.w = .ok us.toArray C.w:=by
   rw[map_eq_pure_bind]
   simp only[Sem.run_bind,h1,Sem.run_pure,Result.andThen_ok]
  simp only[Sem.run_bind,e,Sem.run_pure,Result.andThen_ok]
 ·have hl:=h2.length
  match vs,us,hl,h2 with
  | [],[],_,_=>simp only[oneOf,List.size_toArray,List.length_nil,Nat.zero_ne_one,dite_false,Conc];exact⟨_,rfl,by simp only[ConcL]⟩
  | [v],[u],_,h2 =>
   simp only[ConcL]at h2
   obtain⟨u',vs',e,hc,_⟩:=h2
   simp only[List.cons.injEq]at e
   simp only[oneOf,List.size_toArray,List.length_singleton,dite_true]
   rw[e.1];exact hc
  | v::v'::vs,u::u'::us,_,h2 =>
   have:¬(u::u'::us).toArray.size=1:=by simp
   simp only[oneOf,this,dite_false,Conc]
   exact⟨_,rfl,h2⟩
end Go.Proofs.Aw
