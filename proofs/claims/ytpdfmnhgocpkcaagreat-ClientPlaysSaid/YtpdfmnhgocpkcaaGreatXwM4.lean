/- Parts of the logic that the proof runs in, one behind the other. -/
import Derived.Test.YtpdfmnhgocpkcaaGreatXwM3
namespace Go.Proofs.Xw
open Go Go.Proofs.Aw Go.ChangeShapes Go.WideShapes
def hg (P:Program) (ak:World):Nat->TypeId->List Value->Prop
 | 0,_,_=>False
 | n+1,t,cs=>match P.underlying t with
  | some .string=>∀s,cs=[.string s]->s.size<=reachBytes
  | some (.struct fs)=>∀f∈fs.toList,hg P ak n f.type ((cs.drop f.offset).take (P.cellsOf f.type))
  | some (.slice e)=>∀a len cap,cs=[.slice (some a) len cap]->len*P.bytesOf e<=reachBytes/\∀r,r<len->∀ds:List Value,ds.length=P.cellsOf e->(∀k,k<P.cellsOf e->ak.cell? ((a.add (r*P.cellsOf e)).add k)=ds[k]?)->hg P ak n e ds
  | _=>True
section
variable {aR:Type} {enc:TypeId×Value->aR} {P:Program}
theorem aau:∀{ts:List TypeId} {ds:List (DataW aR)},(DataW.weightsEach P ts ds).all (· <= reachBytes)=true->∀(j:Nat) t d,ts[j]? = some t->ds[j]? = some d->(d.weights P t).all (· <= reachBytes)=true
 | [],_,_,j,t,d,h,_=>by simp at h
 | _::_,[],_,j,t,d,_,h=>by simp at h
 | t0::ts,d0::ds,h,j,t,d,A,E=>by
  simp only[DataW.weightsEach,List.all_append,Bool.and_eq_true]at h
  cases j with
  | zero =>
   simp only[List.getElem?_cons_zero,Option.some.injEq]at A E
   subst A E;exact h.1
  | succ j=>exact aau h.2 j t d (by simpa using A) (by simpa using E)
theorem aat {e:TypeId}:∀{ds:List (DataW aR)},(DataW.weightsAll P e ds).all (· <= reachBytes)=true->∀d∈ds,(d.weights P e).all (· <= reachBytes)=true
 | [],_,d,h=>by simp at h
 | d0::ds,h,d,hd=>by
  simp only[DataW.weightsAll,List.all_append,Bool.and_eq_true]at h
  rcases List.mem_cons.1 hd with rfl | hd
  ·exact h.1
  ·exact aat h.2 d hd
theorem NR {ao β:Type} {f:ao->Option β}:∀{l:List ao} {r:List β},l.mapM f=some r->∀(j:Nat) (a:ao),l[j]? = some a->∃b,r[j]? = some b/\f a=some b
 | [],r,_,j,a,h=>by simp at h
 | x::l,r,h,j,a,O=>by
  simp only[List.mapM_cons,bind,Option.bind_eq_some_iff,pure,Option.some.injEq]at h
  obtain⟨y,hy,ys,jp,rfl⟩:=h
  cases j with
  | zero =>
   simp only[List.getElem?_cons_zero,Option.some.injEq]at O
   subst O
   exact⟨y,rfl,hy⟩
  | succ j=>exact NR jp j a (by simpa using O)
theorem PX {ak:World}:∀(n:Nat) (t:TypeId) (cs:List Value) (x:DataW aR×List MemPlace),DataW.trod enc P ak 0 (fun _=>true) true n t cs=some x->(x.1.weights P t).all (· <= reachBytes)=true->hg P ak n t cs
 | 0,t,cs,x,h,_=>by simp[DataW.trod]at h
 | n+1,t,cs,x,h,hw=>by
  simp only[DataW.trod_step]at h
  unfold hg
  split
  ·rename_i hu
   intro s hs
   subst hs
   unfold DataW.trodStep at h
   rw[hu]at h
   simp only at h
   split at h
   ·cases h
    simp only[DataW.weights,List.all_cons,List.all_nil,Bool.and_true,decide_eq_true_eq,Array.length_toList]at hw
    exact hw
   ·cases h
  ·rename_i fs hu
   intro f hf
   unfold DataW.trodStep at h
   rw[hu]at h
   simp only at h
   split at h
   ·obtain⟨xs,ve,rfl⟩:=Option.map_eq_some_iff.1 h
    simp only[DataW.weights,hu]at hw
    obtain⟨j,O⟩:=List.getElem?_of_mem hf
    obtain⟨y,hy,L_⟩:=NR ve j f O
    have hwy:=aau hw j f.type y.1 (by rw[List.getElem?_map,O];rfl) (by rw[List.getElem?_map,hy];rfl)
    exact PX n f.type _ y L_ hwy
   ·cases h
  ·rename_i e hu
   intro a len cap aI
   subst aI
   unfold DataW.trodStep at h
   rw[hu]at h
   simp only at h
   split at h
   ·obtain⟨elems,G,h⟩:=Option.bind_eq_some_iff.1 h
    obtain⟨rest,_,rfl⟩:=Option.map_eq_some_iff.1 h
    simp only[DataW.weights,hu,List.all_cons,List.all_append,Bool.and_eq_true,decide_eq_true_eq]at hw
    have hlen:elems.length=len:=by
     have:=Gp G
     simpa using this
    refine⟨Nat.le_trans (Nat.mul_le_mul_right _ (by rw[List.length_map,hlen];exact Nat.le_add_right _ _)) hw.1,fun r hr ds Fq i5 => ?_⟩
    obtain⟨y,hy,L_⟩:=NR G r r (by rw[List.getElem?_range hr])
    obtain⟨sb,A,E⟩:=Option.bind_eq_some_iff.1 L_
    obtain⟨_,l1,l2⟩:=World.cells?_some A
    have:ds=sb:=List.ext_getElem? fun k=>by
     by_cases u:k<P.cellsOf e
     ·rw[<-i5 k u,l2 k u]
     ·rw[List.getElem?_eq_none (by omega),List.getElem?_eq_none (by omega)]
    subst this
    exact PX n e ds y E (aat hw.2.1 y.1 (List.mem_map.2 ⟨y,List.mem_of_getElem? hy,rfl⟩))
   ·cases h
  ·trivial
def T8 (P:Program) (t:TypeId) (i:Nat):Option (TypeId×Nat×Nat):=match P.underlying t with
 | some (.struct fs)=>(fs.toList[i]?).map fun f=>(f.type,f.offset,P.cellsOf f.type)
 | _=>none
theorem lF {ak:World} {n:Nat} {t t':TypeId} {i o z:Nat} {cs:List Value} (h:hg P ak n t cs) (hf:T8 P t i=some (t',o,z)):∃m,hg P ak m t' ((cs.drop o).take z):=by
 unfold T8 at hf
 split at hf
 ·rename_i fs hu
  obtain⟨f,O,G⟩:=Option.map_eq_some_iff.1 hf
  cases G
  cases n with
  | zero=>exact h.elim
  | succ n =>
   unfold hg at h
   rw[hu]at h
   exact⟨n,h f (List.mem_of_getElem? O)⟩
 ·cases hf
theorem Y1 {ak:World} {n:Nat} {t:TypeId} {cs:List Value} (h:hg P ak n t cs) (hu:P.underlying t=some .string):∀s,cs=[.string s]->s.size<=reachBytes:=by
 cases n with
 | zero=>exact h.elim
 | succ n =>
  unfold hg at h
  rw[hu]at h
  exact h
theorem PW {ak:World} {n:Nat} {t e:TypeId} {cs:List Value} (h:hg P ak n t cs) (hu:P.underlying t=some (.slice e)):∃m,∀a len cap,cs=[.slice (some a) len cap]->len*P.bytesOf e<=reachBytes/\∀r,r<len->∀ds:List Value,ds.length=P.cellsOf e->(∀k,k<P.cellsOf e->ak.cell? ((a.add (r*P.cellsOf e)).add k)=ds[k]?)->hg P ak m e ds:=by
 cases n with
 | zero=>exact h.elim
 | succ n =>
  unfold hg at h
  rw[hu]at h
  exact⟨n,h⟩
def DX (P:Program) (ak:World) (ts:List TypeId) (vs:List Value):Prop:=∀(j:Nat) (t:TypeId) (v:Value),ts[j]? = some t->vs[j]? = some v->∃n,hg P ak n t v.cells.toList
theorem Y0 {ak:World} {gs:List (DataW aR)} {us:List TypeId}:∀{ts:List TypeId} {vs:List Value} {ds:List (DataW aR)} {p:List MemPlace},DataW.TrodAll enc P ak 0 (fun _=>true) true ts vs ds p->(DataW.weightsEach P (ts++us) (ds++gs)).all (· <= reachBytes)=true->DX P ak ts vs
 | [],vs,ds,p,h,hw=>fun j t v A _=>by simp at A
 | t0::ts,vs,ds,p,h,hw=>fun j t v A E=>by
  obtain⟨PP,ch,d,sb,p1,p2,rfl,rfl,rfl,g1,g2⟩:=trodAll_cons h
  simp only[List.cons_append,DataW.weightsEach,List.all_append,Bool.and_eq_true]at hw
  cases j with
  | zero =>
   simp only[List.getElem?_cons_zero,Option.some.injEq]at A E
   subst A E
   obtain⟨n,hn⟩:=g1
   exact⟨n,PX n _ _ _ hn hw.1⟩
  | succ j=>exact Y0 g2 hw.2 j t v (by simpa using A) (by simpa using E)
end
end Go.Proofs.Xw
namespace Go.Proofs.Xw
open Go Go.Proofs.Aw Go.ChangeShapes Go.WideShapes
def yq (nz:Nat->Nat) (j:Nat):Nat->List Nk->Bool
 | _,[]=>true
 | k,.f _::ks=>yq nz j (k+1) ks
 | k,.r z S kk::ks=>Nat.blt k 64&&(Nat.beq S (64*(j+1)+k)&&(Nat.beq (nz S) z&&(Nat.ble kk.length 1000&&yq nz j (k+1) ks)))
theorem Nw {nz:Nat->Nat} {j:Nat}:∀{ks:List Nk} {k0:Nat},yq nz j k0 ks=true->∀(k:Nat) (z S:Nat) (kk:List Kd),ks[k]? = some (.r z S kk)->k0+k<64/\S=64*(j+1)+(k0+k)/\nz S=z/\kk.length<=1000
 | [],_,_,k,z,S,kk,u=>by simp at u
 | .f _::ks,k0,h,k,z,S,kk,u=>by
  cases k with
  | zero=>simp at u
  | succ k =>
   have:=Nw (k0:=k0+1) (by simpa [yq]using h) k z S kk (by simpa using u)
   rw[show k0+1+k=k0+(k+1)from by omega]at this
   exact this
 | .r z' S' VP::ks,k0,h,k,z,S,kk,u=>by
  simp only[yq,Bool.and_eq_true]at h
  obtain⟨h0,A,E,h3,h4⟩:=h
  cases k with
  | zero =>
   simp only[List.getElem?_cons_zero,Option.some.injEq,Nk.r.injEq]at u
   obtain⟨rfl,rfl,rfl⟩:=u
   exact⟨by simpa [Nat.blt_eq]using h0,Nat.eq_of_beq_eq_true A,Nat.eq_of_beq_eq_true E,Nat.le_of_ble_eq_true h3⟩
  | succ k =>
   have:=Nw (k0:=k0+1) h4 k z S kk (by simpa using u)
   rw[show k0+1+k=k0+(k+1)from by omega]at this
   exact this
def qW (nz:Nat->Nat):Nat->List gK->Bool
 | _,[]=>true
 | j,.sn ks::r=>Nat.blt j 64&&(Nat.ble ks.length 1000&&(yq nz j 0 ks&&qW nz (j+1) r))
 | j,.sl ks::r=>Nat.blt j 64&&(Nat.ble ks.length 1000&&qW nz (j+1) r)
 | j,.flat _ _::r=>qW nz (j+1) r
theorem z9 {ak:World} {cells vs:List Value} {zs:List Nat} {nz:Nat->Nat}:∀(ks:List Kd) (p:Nat),X.af (cy ak cells vs zs nz) (canon p ks)=X.af (Cc ak cells vs zs) (canon p ks)
 | [],_=>rfl
 | .i _::ks,p=>by simp only[canon,X.af,z9 ks (p+1)];rfl
 | .b::ks,p=>by simp only[canon,X.af,z9 ks (p+1)];rfl
 | .s::ks,p=>by simp only[canon,X.af,z9 ks (p+1)];rfl
theorem Ey {C:Ctx} {ak:World} (hW:C.w=ak) (hm:∀b,¬C.mt b) {cells gl:List Value} {zs:List Nat} {nz:Nat->Nat}:∀(dQ:List gK) (vs:List Value) (pre preV:List Value),(∀(i:Nat) (sh:gK) (v:Value),dQ[i]? = some sh->vs[i]? = some v->rQ ak sh v)->dQ.length=vs.length ->
  cells=pre++mC dQ vs->gl=preV++vs->(∀(i:Nat) (sh:gK),dQ[i]? = some sh->zs[preV.length+i]? = some (rC sh))->qW nz preV.length dQ=true->aC C (X.af (cy ak cells gl zs nz) (kG pre.length preV.length dQ)) vs
 | [],vs,pre,preV,_,M,_,_,_,_=>by
  have:vs=[]:=List.length_eq_zero_iff.1 M.symm
  subst this
  simp only[kG,X.af,aC]
 | sh::dQ,[],_,_,_,M,_,_,_,_=>by simp at M
 | sh::dQ,v::vs,pre,preV,hf,M,ii,iW,hz,u4=>by
  have h0:=hf 0 sh v rfl rfl
  have fG:∀(i:Nat) (ol:gK) (v':Value),dQ[i]? = some ol->vs[i]? = some v'->rQ ak ol v':=fun i ol v' A E=>hf (i+1) ol v' (by simpa using A) (by simpa using E)
  have bX:dQ.length=vs.length:=by simpa using M
  have jv:∀(i:Nat) (ol:gK),dQ[i]? = some ol->zs[(preV++[v]).length+i]? = some (rC ol):=fun i ol A=>by
   have:=hz (i+1) ol (by simpa using A)
   rw[<-this];congr 1;simp;omega
  have MF:gl=(preV++[v])++vs:=by rw[iW];simp
  have e2:(preV++[v]).length=preV.length+1:=by simp
  cases sh with
  | flat ks agg =>
   have Bu:qW nz (preV.length+1) dQ=true:=by simpa [qW]using u4
   have rest:∀n,v.cells.toList.length=n->aC C (X.af (cy ak cells gl zs nz) (kG (pre.length+n) (preV.length+1) dQ)) vs:=fun n hn=>by
    have:=Ey (cells:=cells) (gl:=gl) (zs:=zs) (nz:=nz) hW hm dQ vs (pre++v.cells.toList) (preV++[v]) fG bX (by rw[ii];simp[mC]) MF jv (by rw[e2];exact Bu)
    rw[e2,List.length_append,hn]at this
    exact this
   have here:∀i,i<v.cells.toList.length->cells[pre.length+i]? = v.cells.toList[i]? := fun i hi=>by
    rw[ii,List.getElem?_append_right (by omega)]
    simp only[mC]
    rw[List.getElem?_append_left (by omega)]
    congr 1;omega
   cases agg with
   | true =>
    obtain⟨cs,rfl,u⟩:=h0
    have hlen:=u.length
    simp only[kG,X.af,X.I,aC]
    refine⟨_,_,rfl,?_,rest ks.length (by simpa [Value.cells]using hlen)⟩
    simp only[aj]
    rw[z9]
    exact⟨cs,rfl,Kh ks pre.length cs.toList u fun i hi=>here i (by simpa [Value.cells]using (by omega:i<cs.toList.length))⟩
   | false =>
    obtain⟨k,rfl,u⟩:=h0
    have mh:v.cells.toList=[v]:=by cases k with
     | i kk=>obtain⟨n,rfl,_⟩:=u;rfl
     | b=>obtain⟨n,rfl⟩:=u;rfl
     | s=>obtain⟨n,rfl,_⟩:=u;rfl
    have H:=Kh (C:=C) (ak:=ak) (cells:=cells) (vs:=gl) (zs:=zs) [k] pre.length [v] ⟨v,[],rfl,u,rfl⟩ fun i hi=>by rw[here i (by rw[mh];simpa using hi),mh]
    rw[<-z9 (nz:=nz)]at H
    simp only[kG,X.af,aC]
    refine⟨_,_,rfl,?_,rest 1 (by rw[mh];rfl)⟩
    cases k with
    | i kk=>simp only[canon,X.af,aC]at H ⊢;obtain⟨Y,us,e,a9,_⟩:=H;simp only[List.cons.injEq]at e;rw[e.1];exact a9
    | b=>simp only[canon,X.af,aC]at H ⊢;obtain⟨Y,us,e,a9,_⟩:=H;simp only[List.cons.injEq]at e;rw[e.1];exact a9
    | s=>simp only[canon,X.af,aC]at H ⊢;obtain⟨Y,us,e,a9,_⟩:=H;simp only[List.cons.injEq]at e;rw[e.1];exact a9
  | sl ks =>
   simp only[qW,Bool.and_eq_true]at u4
   obtain⟨b1,b2,Bu⟩:=u4
   have b1:preV.length<64:=by simpa using b1
   obtain⟨kf,ab,len,cap,rfl,aZ,qI⟩:=h0
   have BI:gl[preV.length]? = some (.slice ab len cap):=by rw[iW,List.getElem?_append_right (Nat.le_refl _)];simp
   have MO:zs[preV.length]? = some ks.length:=by have:=hz 0 (.sl ks) rfl;simpa [rC]using this
   have rest:=Ey (cells:=cells) (gl:=gl) (zs:=zs) (nz:=nz) hW hm dQ vs pre (preV++[Value.slice ab len cap]) fG bX (by rw[ii];simp[mC]) MF jv (by rw[e2];exact Bu)
   rw[e2]at rest
   simp only[kG,X.af,X.I,aC]
   refine⟨_,_,rfl,?_,rest⟩
   have hlen:((cy ak cells gl zs nz).len preV.length)=len:=by simp only[cy,BI,nb]
   have gg:(aV (cy ak cells gl zs nz) (.len preV.length) (.var preV.length ks)).length=len:=by simp[aV,U.I,hlen]
   refine hv.2 ⟨ab,cap,by rw[gg],by rw[gg];exact aZ,fun h=>(nomatch h),fun ay => ?_⟩
   have eO:0<len:=by
    rcases Nat.eq_zero_or_pos len with h | h
    ·exfalso;apply ay;apply List.length_eq_zero_iff.1;rw[gg,h]
    ·exact h
   obtain⟨a,rfl,hb,hr⟩:=qI eO
   refine⟨a,rfl,by rw[hW];exact hb,hm _,dc.mk fun j e O => ?_⟩
   have m5:j<len:=by rw[<-gg];exact(List.getElem?_eq_some_iff.1 O).1
   rw[mD (by simp only[U.I,hlen];omega)]at O
   simp only[Option.some.injEq,RL.row,Int.toNat_natCast]at O
   subst O
   obtain⟨cs,u,H⟩:=hr j m5
   have BD:∀k,eI ak gl zs preV.length k j=ak.cell? ((a.add (j*ks.length)).add k):=fun k=>by simp only[eI,BI,MO]
   refine⟨Ac _ _ _ _ _,cT.mk fun k c sD => ?_⟩
   obtain⟨Y,hu,a9⟩:=Ex (C:=C) (ρ:=cy ak cells gl zs nz) (l:=preV.length) (j:=j) (ad:=1000) (f:=fun k=>eI ak gl zs preV.length k j) (Yf b1) (Ye b1) (Yg b1) ks 0 cs (by have:=Nat.le_of_ble_eq_true b2;omega) u (fun k aM=>by rw[Nat.zero_add,BD];exact H k aM) k c sD
   simp only[Nat.zero_add,BD]at hu
   exact⟨Y,by rw[hW,Nat.zero_add,Nat.zero_add];exact hu,a9⟩
  | sn ks =>
   simp only[qW,Bool.and_eq_true]at u4
   obtain⟨b1,b2,dt,Bu⟩:=u4
   have b1:preV.length<64:=by simpa using b1
   obtain⟨kf,ab,len,cap,rfl,aZ,qI⟩:=h0
   have BI:gl[preV.length]? = some (.slice ab len cap):=by rw[iW,List.getElem?_append_right (Nat.le_refl _)];simp
   have MO:zs[preV.length]? = some ks.length:=by have:=hz 0 (.sn ks) rfl;simpa [rC]using this
   have rest:=Ey (cells:=cells) (gl:=gl) (zs:=zs) (nz:=nz) hW hm dQ vs pre (preV++[Value.slice ab len cap]) fG bX (by rw[ii];simp[mC]) MF jv (by rw[e2];exact Bu)
   rw[e2]at rest
   simp only[kG,X.af,X.I,aC]
   refine⟨_,_,rfl,?_,rest⟩
   have hlen:((cy ak cells gl zs nz).len preV.length)=len:=by simp only[cy,BI,nb]
   have gg:(fS (cy ak cells gl zs nz) (.len preV.length) preV.length ks).length=len:=by simp[fS,U.I,hlen]
   refine hv.2 ⟨ab,cap,by rw[gg],by rw[gg];exact aZ,fun h=>(nomatch h),fun ay => ?_⟩
   have eO:0<len:=by
    rcases Nat.eq_zero_or_pos len with h | h
    ·exfalso;apply ay;apply List.length_eq_zero_iff.1;rw[gg,h]
    ·exact h
   obtain⟨a,rfl,hb,hr⟩:=qI eO
   refine⟨a,rfl,by rw[hW];exact hb,hm _,dc.mk fun j e O => ?_⟩
   have m5:j<len:=by rw[<-gg];exact(List.getElem?_eq_some_iff.1 O).1
   rw[Yj (by simp only[U.I,hlen];omega)]at O
   simp only[Option.some.injEq]at O
   subst O
   obtain⟨ds,u,H⟩:=hr j m5
   have BD:∀k,eI ak gl zs preV.length k j=ak.cell? ((a.add (j*ks.length)).add k):=fun k=>by simp only[eI,BI,MO]
   refine⟨JW _ _ _ _ _,cT.mk fun k c sD => ?_⟩
   obtain⟨Y,hu,a9⟩:=Ki (C:=C) (cells:=cells) hW hm b1 ks 0 ds (by have:=Nat.le_of_ble_eq_true b2;omega) u (fun k aM=>by rw[Nat.zero_add,BD];exact H k aM) (Nw dt) k c sD
   simp only[Nat.zero_add,BD]at hu
   exact⟨Y,by rw[hW,Nat.zero_add,Nat.zero_add];exact hu,a9⟩
def P6 (P:Program) (j:Nat) (t:TypeId):Option gK:=match Ic P t with
 | some (.flat ks a)=>some (.flat ks a)
 | some (.sl ks)=>some (.sl ks)
 | none=>match P.underlying t with
  | some (.slice e)=>(match EC P (64*(j+1)) 4 0 e with
   | some ks=>if 0<ks.length/\ks.length=P.cellsOf e then some (.sn ks)else none
   | none=>none)
  | _=>none
def Ib (P:Program):Nat->List TypeId->List gK->Prop
 | _,[],[]=>True
 | j,t::ts,s::ss=>P6 P j t=some s/\Ib P (j+1) ts ss
 | _,_,_=>False
section
variable {aR:Type} {enc:TypeId×Value->aR} {P:Program}
theorem ae3 {j:Nat} {t:TypeId} {sh:gK} (hs:P6 P j t=some sh) {ak:World} {base:Nat} {v:Value} (iV:Value.okWide P ak .any base t v) {d:DataW aR} {p:List MemPlace} (h:DataW.Trod enc P ak 0 (fun _=>true) true t v d p) :
  rQ ak sh v/\∀(W':World) (sp:Nat->Bool),(∀b,b<ak.heap.size->W'.heap[b]? = ak.heap[b]?)->(∀q∈p,sp q.block=true)->DataW.Trod enc P W' 0 sp true t v d p:=by
 unfold P6 at hs
 split at hs
 ·rename_i ks a A
  cases hs
  exact T1 A iV h
 ·rename_i ks A
  cases hs
  exact T1 A iV h
 ·split at hs
  ·rename_i e hu
   split at hs
   ·rename_i ks u
    split at hs
    ·rename_i H
     cases hs
     obtain⟨ab,len,cap,rfl⟩:=okWide_slice hu iV
     obtain⟨n,hf⟩:=h
     obtain⟨g1,g2⟩:=Uv (enc:=enc) hu (by omega) (Ut 4 0 e ks u) ak n _ _ hf
     refine⟨⟨H.1,ab,len,cap,rfl,?_⟩,fun W' sp A E=>⟨n,g2 W' sp A E⟩⟩
     obtain⟨A',len',cap',G,aZ,_,hr⟩:=g1
     have G:[Value.slice ab len cap]=[Value.slice A' len' cap']:=G
     simp only[List.cons.injEq,Value.slice.injEq,and_true]at G
     obtain⟨rfl,rfl,rfl⟩:=G
     refine⟨aZ,fun M => ?_⟩
     obtain⟨a,hA,hb,hr⟩:=hr M
     refine⟨a,hA,hb,fun r mf => ?_⟩
     obtain⟨ds,A,E⟩:=hr r mf
     obtain⟨_,_,h4⟩:=World.cells?_some A
     exact⟨ds,E,fun k aM=>by rw[H.2];exact h4 k (by omega)⟩
    ·cases hs
   ·cases hs
  ·cases hs
theorem TZ {ak:World} {base:Nat}:∀{j:Nat} {ts:List TypeId} {dQ:List gK} {vs:List Value} {ds:List (DataW aR)} {p:List MemPlace},Ib P j ts dQ->(∀(j:Nat) t v,ts[j]? = some t->vs[j]? = some v->Value.okWide P ak .any base t v) ->
  DataW.TrodAll enc P ak 0 (fun _=>true) true ts vs ds p->dQ.length=vs.length/\(∀(i:Nat) (sh:gK) (v:Value),dQ[i]? = some sh->vs[i]? = some v->rQ ak sh v) /\
  ∀(W':World) (sp:Nat->Bool),(∀b,b<ak.heap.size->W'.heap[b]? = ak.heap[b]?)->(∀q∈p,sp q.block=true)->DataW.TrodAll enc P W' 0 sp true ts vs ds p
 | j,[],[],vs,ds,p,_,_,h=>by
  obtain⟨rfl,rfl,rfl⟩:=trodAll_nil h
  exact⟨rfl,fun i sh v A _=>by simp at A,fun _ _ _ _=>rfl⟩
 | j,[],_::_,vs,ds,p,hm,_,h=>hm.elim
 | j,t::ts,[],vs,ds,p,hm,_,h=>hm.elim
 | j,t::ts,sh::dQ,vs,ds,p,hm,iV,h=>by
  obtain⟨v,ch,d,sb,p1,p2,rfl,rfl,rfl,A,E⟩:=trodAll_cons h
  obtain⟨bm,bl⟩:=ae3 hm.1 (iV 0 t v rfl rfl) A
  obtain⟨b1,b2,dt⟩:=TZ hm.2 (fun j t' v' e1 e2=>iV (j+1) t' v' (by simpa using e1) (by simpa using e2)) E
  refine⟨by simp[b1],fun i ol v' e1 e2 => ?_,fun W' sp hW hq => ?_⟩
  ·cases i with
   | zero=>simp at e1 e2;subst e1 e2;exact bm
   | succ i=>exact b2 i ol v' (by simpa using e1) (by simpa using e2)
  ·exact⟨p1,p2,bl W' sp hW (fun q hJ=>hq q (List.mem_append_left _ hJ)),dt W' sp hW (fun q hJ=>hq q (List.mem_append_right _ hJ)),rfl⟩
theorem ahF {f:FuncId} {fn:Func} {s:ChangeSpec} {dQ:List gK} {nz:Nat->Nat} {r:TypeId} (hts:Ib P 0 fn.params.toList dQ) (u4:qW nz 0 dQ=true) (hrt:fn.resultTypes = #[r]) (hrb:P.underlying r=some .bool) (Vl:s.vars=[])
  (qz:∀(ak:World) (vs:List Value),dQ.length=vs.length->(∀(i:Nat) (sh:gK) (v:Value),dQ[i]? = some sh->vs[i]? = some v->rQ ak sh v)->Jm P fn.params.toList vs->DX P ak fn.params.toList vs->CY P 0 f (X.af (cy ak (mC dQ vs) vs (dQ.map rC) nz) (kG 0 0 dQ)) [] (.sc (.bool true)) [])
  {ak:World} {base:Nat} {args:Array Value} {ds gs:List (DataW aR)} {before:List MemPlace} {apart:Bool} {us:List TypeId} (iV:∀(j:Nat) t v,fn.params[j]? = some t->args[j]? = some v->Value.okWide P ak .any base t v)
  (hW:DataW.Whole enc P fn.params.toList s.vars apart ak args.toList ds gs before) (FK:(DataW.weightsEach P (fn.params.toList++us) (ds++gs)).all (· <= reachBytes)=true)
  (BG:∀ds:List (DataW aR),ds.length=fn.params.size->s.fn aR (ds++[])={ results:=[.lit (.bool true)],args:=ds }) :
  Calls P f args ak fun e W'=>∃v,e = .returned v/\s.post enc P fn apart true false false ak args v W':=by
 obtain⟨p,q,hA,LS,rfl,Fr,hnd⟩:=id hW
 rw[Vl]at LS
 obtain⟨rfl,rfl⟩:gs=[]/\q=[]:=by
  cases gs with
  | nil=>exact⟨rfl,LS⟩
  | cons g gs=>exact LS.elim
 obtain⟨hlen,d7,afN⟩:=TZ hts (fun j t v A E=>iV j t v (by simpa using A) (by simpa using E)) hA
 let C:Ctx:={ ρ:=fun _=>0,bs:=fun _=>0,live:=fun _=>False,kn:=fun _=>False,mt:=fun _=>False,w:=ak }
 have hH:cY C []:=⟨fun n=>by simp[C,ae],fun n cs h=>by simp[ae]at h,fun n m h=>h.elim,fun n h=>h.elim,fun n h=>h.elim⟩
 have hC:=Ey (C:=C) (ak:=ak) rfl (fun b h=>h) (cells:=mC dQ args.toList) (gl:=args.toList) (zs:=dQ.map rC) (nz:=nz) dQ args.toList [] [] d7 hlen rfl rfl (fun i sh h=>by simp[h]) u4
 have BG:=BG ds (by rw[ZL hA];simp)
 have:=qz ak args.toList hlen d7 (VW hA FK) (Y0 hA FK) C args.toList hH hC (fun k h=>h)
 have e:args.toList.toArray=args:=by simp
 rw[e]at this
 refine this.mono fun e W' ⟨Y,C',G,hw,hp⟩ => ?_
 have hu:Y = .bool true:=by have:=hp.val;simpa only[aj]using this
 subst hu
 subst hw
 have fb:∀b,b<ak.heap.size->C'.w.heap[b]? = ak.heap[b]? := fun b hb=>hp.same b hb (fun m hm=>by simp at hm)
 refine⟨_,G,ds,[],p++[],[],p,[],hW,?_,?_,?_,?_,fun h=>by cases h⟩
 ·rw[BG,hrt]
  exact trodAll_mk1 (Go.RowKit.shut_bool hrb true)
 ·rw[BG]
  exact afN C'.w _ fb (fun q hq=>by simpa using hW.lt q (by simpa using hq))
 ·rw[BG,Vl];exact rfl
 ·refine⟨hp.os,hp.output,fun i hi => ?_⟩
  rw[fb i hi]
  split
  ·rename_i A E
   rw[A]at E
   cases E
   exact⟨rfl,rfl,rfl,fun _ _=>rfl⟩
  ·rename_i A E
   rw[A]at E
   cases E
   exact .inr ⟨rfl,rfl⟩
  ·rfl
end
end Go.Proofs.Xw
