/- Parts of the logic that the proof runs in, one behind the other. -/
import Derived.Test.YtpdfmnhgocpkcaaGreatXwM3
namespace Go.Proofs.Xw
open Go Go.Proofs.Aw Go.ChangeShapes Go.WideShapes
def L6 (P:Program) (W:World):Nat->TypeId->List Value->Prop
 | 0,_,_=>False
 | n+1,t,cs=>match P.underlying t with
  | some .string=>∀s,cs=[.string s]->s.size<=reachBytes
  | some (.struct fs)=>∀f∈fs.toList,L6 P W n f.type ((cs.drop f.offset).take (P.cellsOf f.type))
  | some (.slice e)=>∀a len cap,cs=[.slice (some a) len cap]->len*P.bytesOf e<=reachBytes/\∀r,r<len->∀ds:List Value,ds.length=P.cellsOf e->(∀k,k<P.cellsOf e->W.cell? ((a.add (r*P.cellsOf e)).add k)=ds[k]?)->L6 P W n e ds
  | _=>True
section
variable {H:Type} {enc:TypeId×Value->H} {P:Program}
theorem tu:∀{ts:List TypeId} {ds:List (DataW H)},(DataW.weightsEach P ts ds).all (· <= reachBytes)=true->∀(j:Nat) t d,ts[j]? = some t->ds[j]? = some d->(d.weights P t).all (· <= reachBytes)=true
 | [],_,_,j,t,d,h,_=>by simp at h
 | _::_,[],_,j,t,d,_,h=>by simp at h
 | t0::ts,d0::ds,h,j,t,d,h1,h2=>by
  simp only[DataW.weightsEach,List.all_append,Bool.and_eq_true]at h
  cases j with
  | zero =>
   simp only[List.getElem?_cons_zero,Option.some.injEq]at h1 h2
   subst h1 h2;exact h.1
  | succ j=>exact tu h.2 j t d (by simpa using h1) (by simpa using h2)
theorem weightsAll_mem {e:TypeId}:∀{ds:List (DataW H)},(DataW.weightsAll P e ds).all (· <= reachBytes)=true->∀d∈ds,(d.weights P e).all (· <= reachBytes)=true
 | [],_,d,h=>by simp at h
 | d0::ds,h,d,hd=>by
  simp only[DataW.weightsAll,List.all_append,Bool.and_eq_true]at h
  rcases List.mem_cons.1 hd with rfl | hd
  ·exact h.1
  ·exact weightsAll_mem h.2 d hd
theorem mapM_at {α β:Type} {f:α->Option β}:∀{l:List α} {r:List β},l.mapM f=some r->∀(j:Nat) (a:α),l[j]? = some a->∃b,r[j]? = some b/\f a=some b
 | [],r,_,j,a,h=>by simp at h
 | x::l,r,h,j,a,hj=>by
  simp only[List.mapM_cons,bind,Option.bind_eq_some_iff,pure,Option.some.injEq]at h
  obtain⟨y,hy,ys,hys,rfl⟩:=h
  cases j with
  | zero =>
   simp only[List.getElem?_cons_zero,Option.some.injEq]at hj
   subst hj
   exact⟨y,rfl,hy⟩
  | succ j=>exact mapM_at hys j a (by simpa using hj)
theorem Et {W:World}:∀(n:Nat) (t:TypeId) (cs:List Value) (x:DataW H×List MemPlace),DataW.trod enc P W 0 (fun _=>true) true n t cs=some x->(x.1.weights P t).all (· <= reachBytes)=true->L6 P W n t cs
 | 0,t,cs,x,h,_=>by simp[DataW.trod]at h
 | n+1,t,cs,x,h,hw=>by
  simp only[DataW.trod_step]at h
  unfold L6
  split
  ·rename_i hu
   intro s hs
   subst hs
   unfold DataW.trodStep at h
   rw[hu]at h
   simp only at h
   split at h
   ·cases h
    simp only[DataW.weights,List.all_cons,List.all_nil,Bool.and_true,decide_eq_true_eq,Array.length_toList]at hw
    exact hw
   ·cases h
  ·rename_i fs hu
   intro f hf
   unfold DataW.trodStep at h
   rw[hu]at h
   simp only at h
   split at h
   ·obtain⟨xs,hxs,rfl⟩:=Option.map_eq_some_iff.1 h
    simp only[DataW.weights,hu]at hw
    obtain⟨j,hj⟩:=List.getElem?_of_mem hf
    obtain⟨y,hy,hfy⟩:=mapM_at hxs j f hj
    have hwy:=tu hw j f.type y.1 (by rw[List.getElem?_map,hj];rfl) (by rw[List.getElem?_map,hy];rfl)
    exact Et n f.type _ y hfy hwy
   ·cases h
  ·rename_i e hu
   intro a len cap hcs
   subst hcs
   unfold DataW.trodStep at h
   rw[hu]at h
   simp only at h
   split at h
   ·obtain⟨elems,he,h⟩:=Option.bind_eq_some_iff.1 h
    obtain⟨rest,_,rfl⟩:=Option.map_eq_some_iff.1 h
    simp only[DataW.weights,hu,List.all_cons,List.all_append,Bool.and_eq_true,decide_eq_true_eq]at hw
    have hlen:elems.length=len:=by
     have:=mapM_len he
     simpa using this
    refine⟨Nat.le_trans (Nat.mul_le_mul_right _ (by rw[List.length_map,hlen];exact Nat.le_add_right _ _)) hw.1,fun r hr ds hdl hds => ?_⟩
    obtain⟨y,hy,hfy⟩:=mapM_at he r r (by rw[List.getElem?_range hr])
    obtain⟨ds',h1,h2⟩:=Option.bind_eq_some_iff.1 hfy
    obtain⟨_,l1,l2⟩:=World.cells?_some h1
    have:ds=ds':=List.ext_getElem? fun k=>by
     by_cases hk:k<P.cellsOf e
     ·rw[<-hds k hk,l2 k hk]
     ·rw[List.getElem?_eq_none (by omega),List.getElem?_eq_none (by omega)]
    subst this
    exact Et n e ds y h2 (weightsAll_mem hw.2.1 y.1 (List.mem_map.2 ⟨y,List.mem_of_getElem? hy,rfl⟩))
   ·cases h
  ·trivial
def fld (P:Program) (t:TypeId) (i:Nat):Option (TypeId×Nat×Nat):=match P.underlying t with
 | some (.struct fs)=>(fs.toList[i]?).map fun f=>(f.type,f.offset,P.cellsOf f.type)
 | _=>none
theorem jo {W:World} {n:Nat} {t t':TypeId} {i o z:Nat} {cs:List Value} (h:L6 P W n t cs) (hf:fld P t i=some (t',o,z)):∃m,L6 P W m t' ((cs.drop o).take z):=by
 unfold fld at hf
 split at hf
 ·rename_i fs hu
  obtain⟨f,hj,he⟩:=Option.map_eq_some_iff.1 hf
  cases he
  cases n with
  | zero=>exact h.elim
  | succ n =>
   unfold L6 at h
   rw[hu]at h
   exact⟨n,h f (List.mem_of_getElem? hj)⟩
 ·cases hf
theorem TR {W:World} {n:Nat} {t:TypeId} {cs:List Value} (h:L6 P W n t cs) (hu:P.underlying t=some .string):∀s,cs=[.string s]->s.size<=reachBytes:=by
 cases n with
 | zero=>exact h.elim
 | succ n =>
  unfold L6 at h
  rw[hu]at h
  exact h
theorem Ql {W:World} {n:Nat} {t e:TypeId} {cs:List Value} (h:L6 P W n t cs) (hu:P.underlying t=some (.slice e)):∃m,∀a len cap,cs=[.slice (some a) len cap]->len*P.bytesOf e<=reachBytes/\∀r,r<len->∀ds:List Value,ds.length=P.cellsOf e->(∀k,k<P.cellsOf e->W.cell? ((a.add (r*P.cellsOf e)).add k)=ds[k]?)->L6 P W m e ds:=by
 cases n with
 | zero=>exact h.elim
 | succ n =>
  unfold L6 at h
  rw[hu]at h
  exact⟨n,h⟩
def SBs (P:Program) (W:World) (ts:List TypeId) (vs:List Value):Prop:=∀(j:Nat) (t:TypeId) (v:Value),ts[j]? = some t->vs[j]? = some v->∃n,L6 P W n t v.cells.toList
theorem TS {W:World} {gs:List (DataW H)} {us:List TypeId}:∀{ts:List TypeId} {vs:List Value} {ds:List (DataW H)} {p:List MemPlace},DataW.TrodAll enc P W 0 (fun _=>true) true ts vs ds p->(DataW.weightsEach P (ts++us) (ds++gs)).all (· <= reachBytes)=true->SBs P W ts vs
 | [],vs,ds,p,h,hw=>fun j t v h1 _=>by simp at h1
 | t0::ts,vs,ds,p,h,hw=>fun j t v h1 h2=>by
  obtain⟨v0,vs',d,ds',p1,p2,rfl,rfl,rfl,g1,g2⟩:=trodAll_cons h
  simp only[List.cons_append,DataW.weightsEach,List.all_append,Bool.and_eq_true]at hw
  cases j with
  | zero =>
   simp only[List.getElem?_cons_zero,Option.some.injEq]at h1 h2
   subst h1 h2
   obtain⟨n,hn⟩:=g1
   exact⟨n,Et n _ _ _ hn hw.1⟩
  | succ j=>exact TS g2 hw.2 j t v (by simpa using h1) (by simpa using h2)
end
end Go.Proofs.Xw
namespace Go.Proofs.Xw
open Go Go.Proofs.Aw Go.ChangeShapes Go.WideShapes
def qU (nz:Nat->Nat) (j:Nat):Nat->List Nk->Bool
 | _,[]=>true
 | k,.f _::ks=>qU nz j (k+1) ks
 | k,.r z S kk::ks=>Nat.blt k 64&&(Nat.beq S (64*(j+1)+k)&&(Nat.beq (nz S) z&&(Nat.ble kk.length 1000&&qU nz j (k+1) ks)))
theorem rU {nz:Nat->Nat} {j:Nat}:∀{ks:List Nk} {k0:Nat},qU nz j k0 ks=true->∀(k:Nat) (z S:Nat) (kk:List Kd),ks[k]? = some (.r z S kk)->k0+k<64/\S=64*(j+1)+(k0+k)/\nz S=z/\kk.length<=1000
 | [],_,_,k,z,S,kk,hk=>by simp at hk
 | .f _::ks,k0,h,k,z,S,kk,hk=>by
  cases k with
  | zero=>simp at hk
  | succ k =>
   have:=rU (k0:=k0+1) (by simpa [qU]using h) k z S kk (by simpa using hk)
   rw[show k0+1+k=k0+(k+1)from by omega]at this
   exact this
 | .r z' S' kk'::ks,k0,h,k,z,S,kk,hk=>by
  simp only[qU,Bool.and_eq_true]at h
  obtain⟨h0,h1,h2,h3,h4⟩:=h
  cases k with
  | zero =>
   simp only[List.getElem?_cons_zero,Option.some.injEq,Nk.r.injEq]at hk
   obtain⟨rfl,rfl,rfl⟩:=hk
   exact⟨by simpa [Nat.blt_eq]using h0,Nat.eq_of_beq_eq_true h1,Nat.eq_of_beq_eq_true h2,Nat.le_of_ble_eq_true h3⟩
  | succ k =>
   have:=rU (k0:=k0+1) h4 k z S kk (by simpa using hk)
   rw[show k0+1+k=k0+(k+1)from by omega]at this
   exact this
def lw (nz:Nat->Nat):Nat->List Sh2->Bool
 | _,[]=>true
 | j,.sn ks::r=>Nat.blt j 64&&(Nat.ble ks.length 1000&&(qU nz j 0 ks&&lw nz (j+1) r))
 | j,.sl ks::r=>Nat.blt j 64&&(Nat.ble ks.length 1000&&lw nz (j+1) r)
 | j,.flat _ _::r=>lw nz (j+1) r
theorem Gq {W:World} {cells vs:List Value} {zs:List Nat} {nz:Nat->Nat}:∀(ks:List Kd) (p:Nat),X.denL (gQ W cells vs zs nz) (canon p ks)=X.denL (mkR W cells vs zs) (canon p ks)
 | [],_=>rfl
 | .i _::ks,p=>by simp only[canon,X.denL,Gq ks (p+1)];rfl
 | .b::ks,p=>by simp only[canon,X.denL,Gq ks (p+1)];rfl
 | .s::ks,p=>by simp only[canon,X.denL,Gq ks (p+1)];rfl
theorem sF {C:Ctx} {W:World} (hW:C.w=W) (hm:∀b,¬C.mt b) {cells vsA:List Value} {zs:List Nat} {nz:Nat->Nat}:∀(shs:List Sh2) (vs:List Value) (pre preV:List Value),(∀(i:Nat) (sh:Sh2) (v:Value),shs[i]? = some sh->vs[i]? = some v->CJ W sh v)->shs.length=vs.length ->
  cells=pre++lW shs vs->vsA=preV++vs->(∀(i:Nat) (sh:Sh2),shs[i]? = some sh->zs[preV.length+i]? = some (JP sh))->lw nz preV.length shs=true->ConcL C (X.denL (gQ W cells vsA zs nz) (oQ pre.length preV.length shs)) vs
 | [],vs,pre,preV,_,hl,_,_,_,_=>by
  have:vs=[]:=List.length_eq_zero_iff.1 hl.symm
  subst this
  simp only[oQ,X.denL,ConcL]
 | sh::shs,[],_,_,_,hl,_,_,_,_=>by simp at hl
 | sh::shs,v::vs,pre,preV,hf,hl,hcells,hvs,hz,hlet=>by
  have h0:=hf 0 sh v rfl rfl
  have hf':∀(i:Nat) (sh':Sh2) (v':Value),shs[i]? = some sh'->vs[i]? = some v'->CJ W sh' v':=fun i sh' v' h1 h2=>hf (i+1) sh' v' (by simpa using h1) (by simpa using h2)
  have hl':shs.length=vs.length:=by simpa using hl
  have hz':∀(i:Nat) (sh':Sh2),shs[i]? = some sh'->zs[(preV++[v]).length+i]? = some (JP sh'):=fun i sh' h1=>by
   have:=hz (i+1) sh' (by simpa using h1)
   rw[<-this];congr 1;simp;omega
  have hvs':vsA=(preV++[v])++vs:=by rw[hvs];simp
  have e2:(preV++[v]).length=preV.length+1:=by simp
  cases sh with
  | flat ks agg =>
   have hlet':lw nz (preV.length+1) shs=true:=by simpa [lw]using hlet
   have rest:∀n,v.cells.toList.length=n->ConcL C (X.denL (gQ W cells vsA zs nz) (oQ (pre.length+n) (preV.length+1) shs)) vs:=fun n hn=>by
    have:=sF (cells:=cells) (vsA:=vsA) (zs:=zs) (nz:=nz) hW hm shs vs (pre++v.cells.toList) (preV++[v]) hf' hl' (by rw[hcells];simp[lW]) hvs' hz' (by rw[e2];exact hlet')
    rw[e2,List.length_append,hn]at this
    exact this
   have here:∀i,i<v.cells.toList.length->cells[pre.length+i]? = v.cells.toList[i]? := fun i hi=>by
    rw[hcells,List.getElem?_append_right (by omega)]
    simp only[lW]
    rw[List.getElem?_append_left (by omega)]
    congr 1;omega
   cases agg with
   | true =>
    obtain⟨cs,rfl,hk⟩:=h0
    have hlen:=hk.length
    simp only[oQ,X.denL,X.den,ConcL]
    refine⟨_,_,rfl,?_,rest ks.length (by simpa [Value.cells]using hlen)⟩
    simp only[Conc]
    rw[Gq]
    exact⟨cs,rfl,xZ ks pre.length cs.toList hk fun i hi=>here i (by simpa [Value.cells]using (by omega:i<cs.toList.length))⟩
   | false =>
    obtain⟨k,rfl,hk⟩:=h0
    have hv1:v.cells.toList=[v]:=by cases k with
     | i kk=>obtain⟨n,rfl,_⟩:=hk;rfl
     | b=>obtain⟨n,rfl⟩:=hk;rfl
     | s=>obtain⟨n,rfl,_⟩:=hk;rfl
    have hc:=xZ (C:=C) (W:=W) (cells:=cells) (vs:=vsA) (zs:=zs) [k] pre.length [v] ⟨v,[],rfl,hk,rfl⟩ fun i hi=>by rw[here i (by rw[hv1];simpa using hi),hv1]
    rw[<-Gq (nz:=nz)]at hc
    simp only[oQ,X.denL,ConcL]
    refine⟨_,_,rfl,?_,rest 1 (by rw[hv1];rfl)⟩
    cases k with
    | i kk=>simp only[canon,X.denL,ConcL]at hc ⊢;obtain⟨u,us,e,hcu,_⟩:=hc;simp only[List.cons.injEq]at e;rw[e.1];exact hcu
    | b=>simp only[canon,X.denL,ConcL]at hc ⊢;obtain⟨u,us,e,hcu,_⟩:=hc;simp only[List.cons.injEq]at e;rw[e.1];exact hcu
    | s=>simp only[canon,X.denL,ConcL]at hc ⊢;obtain⟨u,us,e,hcu,_⟩:=hc;simp only[List.cons.injEq]at e;rw[e.1];exact hcu
  | sl ks =>
   simp only[lw,Bool.and_eq_true]at hlet
   obtain⟨b1,b2,hlet'⟩:=hlet
   have b1:preV.length<64:=by simpa using b1
   obtain⟨hpos,A,len,cap,rfl,hle,hrows⟩:=h0
   have hvj:vsA[preV.length]? = some (.slice A len cap):=by rw[hvs,List.getElem?_append_right (Nat.le_refl _)];simp
   have hzj:zs[preV.length]? = some ks.length:=by have:=hz 0 (.sl ks) rfl;simpa [JP]using this
   have rest:=sF (cells:=cells) (vsA:=vsA) (zs:=zs) (nz:=nz) hW hm shs vs pre (preV++[Value.slice A len cap]) hf' hl' (by rw[hcells];simp[lW]) hvs' hz' (by rw[e2];exact hlet')
   rw[e2]at rest
   simp only[oQ,X.denL,X.den,ConcL]
   refine⟨_,_,rfl,?_,rest⟩
   have hlen:((gQ W cells vsA zs nz).len preV.length)=len:=by simp only[gQ,hvj,CU]
   have hrl:(aC (gQ W cells vsA zs nz) (.len preV.length) (.var preV.length ks)).length=len:=by simp[aC,IE.den,hlen]
   refine iw.2 ⟨A,cap,by rw[hrl],by rw[hrl];exact hle,fun h=>(nomatch h),fun hne => ?_⟩
   have hl0:0<len:=by
    rcases Nat.eq_zero_or_pos len with h | h
    ·exfalso;apply hne;apply List.length_eq_zero_iff.1;rw[hrl,h]
    ·exact h
   obtain⟨a,rfl,hb,hr⟩:=hrows hl0
   refine⟨a,rfl,by rw[hW];exact hb,hm _,ConcE.mk fun j e hj => ?_⟩
   have hjl:j<len:=by rw[<-hrl];exact(List.getElem?_eq_some_iff.1 hj).1
   rw[gB (by simp only[IE.den,hlen];omega)]at hj
   simp only[Option.some.injEq,RL.row,Int.toNat_natCast]at hj
   subst hj
   obtain⟨cs,hk,hc⟩:=hr j hjl
   have hrc:∀k,rowCell W vsA zs preV.length k j=W.cell? ((a.add (j*ks.length)).add k):=fun k=>by simp only[rowCell,hvj,hzj]
   refine⟨kE _ _ _ _ _,ConcM.mk fun k c hkc => ?_⟩
   obtain⟨u,hu,hcu⟩:=sG (C:=C) (J:=gQ W cells vsA zs nz) (l:=preV.length) (j:=j) (B:=1000) (f:=fun k=>rowCell W vsA zs preV.length k j) (ZL b1) (ZM b1) (ZK b1) ks 0 cs (by have:=Nat.le_of_ble_eq_true b2;omega) hk (fun k hk'=>by rw[Nat.zero_add,hrc];exact hc k hk') k c hkc
   simp only[Nat.zero_add,hrc]at hu
   exact⟨u,by rw[hW,Nat.zero_add,Nat.zero_add];exact hu,hcu⟩
  | sn ks =>
   simp only[lw,Bool.and_eq_true]at hlet
   obtain⟨b1,b2,b3,hlet'⟩:=hlet
   have b1:preV.length<64:=by simpa using b1
   obtain⟨hpos,A,len,cap,rfl,hle,hrows⟩:=h0
   have hvj:vsA[preV.length]? = some (.slice A len cap):=by rw[hvs,List.getElem?_append_right (Nat.le_refl _)];simp
   have hzj:zs[preV.length]? = some ks.length:=by have:=hz 0 (.sn ks) rfl;simpa [JP]using this
   have rest:=sF (cells:=cells) (vsA:=vsA) (zs:=zs) (nz:=nz) hW hm shs vs pre (preV++[Value.slice A len cap]) hf' hl' (by rw[hcells];simp[lW]) hvs' hz' (by rw[e2];exact hlet')
   rw[e2]at rest
   simp only[oQ,X.denL,X.den,ConcL]
   refine⟨_,_,rfl,?_,rest⟩
   have hlen:((gQ W cells vsA zs nz).len preV.length)=len:=by simp only[gQ,hvj,CU]
   have hrl:(jB (gQ W cells vsA zs nz) (.len preV.length) preV.length ks).length=len:=by simp[jB,IE.den,hlen]
   refine iw.2 ⟨A,cap,by rw[hrl],by rw[hrl];exact hle,fun h=>(nomatch h),fun hne => ?_⟩
   have hl0:0<len:=by
    rcases Nat.eq_zero_or_pos len with h | h
    ·exfalso;apply hne;apply List.length_eq_zero_iff.1;rw[hrl,h]
    ·exact h
   obtain⟨a,rfl,hb,hr⟩:=hrows hl0
   refine⟨a,rfl,by rw[hW];exact hb,hm _,ConcE.mk fun j e hj => ?_⟩
   have hjl:j<len:=by rw[<-hrl];exact(List.getElem?_eq_some_iff.1 hj).1
   rw[H6 (by simp only[IE.den,hlen];omega)]at hj
   simp only[Option.some.injEq]at hj
   subst hj
   obtain⟨ds,hk,hc⟩:=hr j hjl
   have hrc:∀k,rowCell W vsA zs preV.length k j=W.cell? ((a.add (j*ks.length)).add k):=fun k=>by simp only[rowCell,hvj,hzj]
   refine⟨yu _ _ _ _ _,ConcM.mk fun k c hkc => ?_⟩
   obtain⟨u,hu,hcu⟩:=uX (C:=C) (cells:=cells) hW hm b1 ks 0 ds (by have:=Nat.le_of_ble_eq_true b2;omega) hk (fun k hk'=>by rw[Nat.zero_add,hrc];exact hc k hk') (rU b3) k c hkc
   simp only[Nat.zero_add,hrc]at hu
   exact⟨u,by rw[hW,Nat.zero_add,Nat.zero_add];exact hu,hcu⟩
def aX7 (P:Program) (j:Nat) (t:TypeId):Option Sh2:=match shT P t with
 | some (.flat ks a)=>some (.flat ks a)
 | some (.sl ks)=>some (.sl ks)
 | none=>match P.underlying t with
  | some (.slice e)=>(match Vk P (64*(j+1)) 4 0 e with
   | some ks=>if 0<ks.length/\ks.length=P.cellsOf e then some (.sn ks)else none
   | none=>none)
  | _=>none
def ay3 (P:Program):Nat->List TypeId->List Sh2->Prop
 | _,[],[]=>True
 | j,t::ts,s::ss=>aX7 P j t=some s/\ay3 P (j+1) ts ss
 | _,_,_=>False
section
variable {H:Type} {enc:TypeId×Value->H} {P:Program}
theorem G8 {j:Nat} {t:TypeId} {sh:Sh2} (hs:aX7 P j t=some sh) {W:World} {base:Nat} {v:Value} (hval:Value.okWide P W .any base t v) {d:DataW H} {p:List MemPlace} (h:DataW.Trod enc P W 0 (fun _=>true) true t v d p) :
  CJ W sh v/\∀(W':World) (sp:Nat->Bool),(∀b,b<W.heap.size->W'.heap[b]? = W.heap[b]?)->(∀q∈p,sp q.block=true)->DataW.Trod enc P W' 0 sp true t v d p:=by
 unfold aX7 at hs
 split at hs
 ·rename_i ks a h1
  cases hs
  exact zJ h1 hval h
 ·rename_i ks h1
  cases hs
  exact zJ h1 hval h
 ·split at hs
  ·rename_i e hu
   split at hs
   ·rename_i ks hk
    split at hs
    ·rename_i hc
     cases hs
     obtain⟨A,len,cap,rfl⟩:=okWide_slice hu hval
     obtain⟨n,hf⟩:=h
     obtain⟨g1,g2⟩:=FB (enc:=enc) hu (by omega) (IV 4 0 e ks hk) W n _ _ hf
     refine⟨⟨hc.1,A,len,cap,rfl,?_⟩,fun W' sp h1 h2=>⟨n,g2 W' sp h1 h2⟩⟩
     obtain⟨A',len',cap',he,hle,_,hr⟩:=g1
     have he:[Value.slice A len cap]=[Value.slice A' len' cap']:=he
     simp only[List.cons.injEq,Value.slice.injEq,and_true]at he
     obtain⟨rfl,rfl,rfl⟩:=he
     refine⟨hle,fun hl => ?_⟩
     obtain⟨a,hA,hb,hr⟩:=hr hl
     refine⟨a,hA,hb,fun r hr' => ?_⟩
     obtain⟨ds,h1,h2⟩:=hr r hr'
     obtain⟨_,_,h4⟩:=World.cells?_some h1
     exact⟨ds,h2,fun k hk'=>by rw[hc.2];exact h4 k (by omega)⟩
    ·cases hs
   ·cases hs
  ·cases hs
theorem IZ {W:World} {base:Nat}:∀{j:Nat} {ts:List TypeId} {shs:List Sh2} {vs:List Value} {ds:List (DataW H)} {p:List MemPlace},ay3 P j ts shs->(∀(j:Nat) t v,ts[j]? = some t->vs[j]? = some v->Value.okWide P W .any base t v) ->
  DataW.TrodAll enc P W 0 (fun _=>true) true ts vs ds p->shs.length=vs.length/\(∀(i:Nat) (sh:Sh2) (v:Value),shs[i]? = some sh->vs[i]? = some v->CJ W sh v) /\
  ∀(W':World) (sp:Nat->Bool),(∀b,b<W.heap.size->W'.heap[b]? = W.heap[b]?)->(∀q∈p,sp q.block=true)->DataW.TrodAll enc P W' 0 sp true ts vs ds p
 | j,[],[],vs,ds,p,_,_,h=>by
  obtain⟨rfl,rfl,rfl⟩:=trodAll_nil h
  exact⟨rfl,fun i sh v h1 _=>by simp at h1,fun _ _ _ _=>rfl⟩
 | j,[],_::_,vs,ds,p,hm,_,h=>hm.elim
 | j,t::ts,[],vs,ds,p,hm,_,h=>hm.elim
 | j,t::ts,sh::shs,vs,ds,p,hm,hval,h=>by
  obtain⟨v,vs',d,ds',p1,p2,rfl,rfl,rfl,h1,h2⟩:=trodAll_cons h
  obtain⟨a1,a2⟩:=G8 hm.1 (hval 0 t v rfl rfl) h1
  obtain⟨b1,b2,b3⟩:=IZ hm.2 (fun j t' v' e1 e2=>hval (j+1) t' v' (by simpa using e1) (by simpa using e2)) h2
  refine⟨by simp[b1],fun i sh' v' e1 e2 => ?_,fun W' sp hW hq => ?_⟩
  ·cases i with
   | zero=>simp at e1 e2;subst e1 e2;exact a1
   | succ i=>exact b2 i sh' v' (by simpa using e1) (by simpa using e2)
  ·exact⟨p1,p2,a2 W' sp hW (fun q hq'=>hq q (List.mem_append_left _ hq')),b3 W' sp hW (fun q hq'=>hq q (List.mem_append_right _ hq')),rfl⟩
theorem QP {f:FuncId} {fn:Func} {s:ChangeSpec} {shs:List Sh2} {nz:Nat->Nat} {r:TypeId} (hts:ay3 P 0 fn.params.toList shs) (hlet:lw nz 0 shs=true) (hrt:fn.resultTypes = #[r]) (hrb:P.underlying r=some .bool) (hvars:s.vars=[])
  (hcy:∀(W:World) (vs:List Value),shs.length=vs.length->(∀(i:Nat) (sh:Sh2) (v:Value),shs[i]? = some sh->vs[i]? = some v->CJ W sh v)->Short P fn.params.toList vs->SBs P W fn.params.toList vs->CY P 0 f (X.denL (gQ W (lW shs vs) vs (shs.map JP) nz) (oQ 0 0 shs)) [] (.sc (.bool true)) [])
  {W:World} {base:Nat} {args:Array Value} {ds gs:List (DataW H)} {before:List MemPlace} {apart:Bool} {us:List TypeId} (hval:∀(j:Nat) t v,fn.params[j]? = some t->args[j]? = some v->Value.okWide P W .any base t v)
  (hW:DataW.Whole enc P fn.params.toList s.vars apart W args.toList ds gs before) (hwt:(DataW.weightsEach P (fn.params.toList++us) (ds++gs)).all (· <= reachBytes)=true)
  (hspec:∀ds:List (DataW H),ds.length=fn.params.size->s.fn H (ds++[])={ results:=[.lit (.bool true)],args:=ds }) :
  Calls P f args W fun e W'=>∃v,e = .returned v/\s.post enc P fn apart true false false W args v W':=by
 obtain⟨p,q,hA,hV,rfl,hfz,hnd⟩:=id hW
 rw[hvars]at hV
 obtain⟨rfl,rfl⟩:gs=[]/\q=[]:=by
  cases gs with
  | nil=>exact⟨rfl,hV⟩
  | cons g gs=>exact hV.elim
 obtain⟨hlen,hfit,hcarry⟩:=IZ hts (fun j t v h1 h2=>hval j t v (by simpa using h1) (by simpa using h2)) hA
 let C:Ctx:={ J:=fun _=>0,bs:=fun _=>0,live:=fun _=>False,kn:=fun _=>False,mt:=fun _=>False,w:=W }
 have hH:HeapOk C []:=⟨fun n=>by simp[C,hget],fun n cs h=>by simp[hget]at h,fun n m h=>h.elim,fun n h=>h.elim,fun n h=>h.elim⟩
 have hC:=sF (C:=C) (W:=W) rfl (fun b h=>h) (cells:=lW shs args.toList) (vsA:=args.toList) (zs:=shs.map JP) (nz:=nz) shs args.toList [] [] hfit hlen rfl rfl (fun i sh h=>by simp[h]) hlet
 have hspec:=hspec ds (by rw[ML hA];simp)
 have:=hcy W args.toList hlen hfit (Ot hA hwt) (TS hA hwt) C args.toList hH hC (fun k h=>h)
 have e:args.toList.toArray=args:=by simp
 rw[e]at this
 refine this.mono fun e W' ⟨u,C',he,hw,hp⟩ => ?_
 have hu:u = .bool true:=by have:=hp.val;simpa only[Conc]using this
 subst hu
 subst hw
 have hsame:∀b,b<W.heap.size->C'.w.heap[b]? = W.heap[b]? := fun b hb=>hp.same b hb (fun m hm=>by simp at hm)
 refine⟨_,he,ds,[],p++[],[],p,[],hW,?_,?_,?_,?_,fun h=>by cases h⟩
 ·rw[hspec,hrt]
  exact trodAll_mk1 (Go.RowKit.shut_bool hrb true)
 ·rw[hspec]
  exact hcarry C'.w _ hsame (fun q hq=>by simpa using hW.lt q (by simpa using hq))
 ·rw[hspec,hvars];exact rfl
 ·refine⟨hp.os,hp.output,fun i hi => ?_⟩
  rw[hsame i hi]
  split
  ·rename_i h1 h2
   rw[h1]at h2
   cases h2
   exact⟨rfl,rfl,rfl,fun _ _=>rfl⟩
  ·rename_i h1 h2
   rw[h1]at h2
   cases h2
   exact .inr ⟨rfl,rfl⟩
  ·rfl
end
end Go.Proofs.Xw
