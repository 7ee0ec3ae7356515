/- Parts of the logic that the proof runs in, one behind the other. -/
import Derived.Test.YtpdfmnhgocpkcaaGreatXwK3
namespace Go.Proofs.Xw
open Go Go.Proofs.Aw Go.ChangeShapes Go.WideShapes
inductive gS where
 | flat (ks:List Kd) (agg:Bool)
 | sl (ks:List Kd)
 | sn (ks:List Nk)
 | ah (ks:List Nk)
def bX:Nat:=9223372036854775808
def pS (aj:World) (vs:List Value) (zs:List Nat) (nz:Nat->Nat) (l k p:Nat):Option Value :=
 match d' aj vs zs (l / 64-1) (l % 64) (p / bX)with
 | some (.slice (some a) _ _)=>aj.cell? ((a.add (p % bX*nz l)).add k)
 | _=>none
def Hq (r:Nat):Option Value->Int
 | some (.int _ n)=>n
 | some (.slice _ _ _)=>((r*bX:Nat):Int)
 | _=>0
def b_ (aj:World) (cells vs:List Value) (zs:List Nat) (nz:Nat->Nat):aa where
 i p:=ym cells[p]?
 b p:=sy cells[p]?
 s p:=r8 cells[p]?
 len j:=mB vs[j]?
 ci l k r:=if l<64 then(if k<1000 then Hq r (d' aj vs zs l k r)else((mB (d' aj vs zs l (k-1000) r):Nat):Int))else ym (pS aj vs zs nz l k r)
 cb l k r:=if l<64 then sy (d' aj vs zs l k r)else sy (pS aj vs zs nz l k r)
 cs l k r:=if l<64 then r8 (d' aj vs zs l k r)else r8 (pS aj vs zs nz l k r)
 ct:=kN
def jg:Nat->Nat->List gS->List X
 | _,_,[]=>[]
 | p,j,.flat ks true::r => .agg (canon p ks)::jg (p+ks.length) (j+1) r
 | p,j,.flat ks false::r=>(canon p ks).headD .top::jg (p+ks.length) (j+1) r
 | p,j,.sl ks::r => .rl ks.length (.len j) (.var j ks) false::jg p (j+1) r
 | p,j,.sn ks::r => .rn ks.length (.len j) j ks false::jg p (j+1) r
 | p,j,.ah ks::r => .agg (iu j (.lit 0) 0 ks)::jg p (j+1) r
def jW:List gS->List Value->List Value
 | .flat _ _::r,v::vs=>v.cells.toList++jW r vs
 | .sl _::r,_::vs=>jW r vs
 | .sn _::r,_::vs=>jW r vs
 | .ah _::r,_::vs=>jW r vs
 | _,_=>[]
def oZ:gS->Nat
 | .flat _ _=>0
 | .sl ks=>ks.length
 | .sn ks=>ks.length
 | .ah ks=>ks.length
def qt (aj:World):gS->Value->Prop
 | .flat ks a,v=>Fits aj (.flat ks a) v
 | .sl ks,v=>Fits aj (.sl ks) v
 | .sn ks,v=>0<ks.length/\∃ab len cap,v = .slice ab len cap/\len<=cap/\(0<len->∃a,ab=some a/\a.block<aj.heap.size/\∀r,r<len->∃ds,NK aj ks ds/\∀k,k<ks.length->aj.cell? ((a.add (r*ks.length)).add k)=ds[k]?)
 | .ah ks,v=>∃cs,v = .agg cs/\NK aj ks cs.toList
theorem EV {C:Ctx} {ρ:aa} {l j ad:Nat} {f:Nat->Option Value} (hi:∀k K n,k<ad->f k=some (.int K n)->ρ.ci l k j=n) (hb:∀k n,k<ad->f k=some (.bool n)->ρ.cb l k j=n) (hs:∀k n,k<ad->f k=some (.string n)->ρ.cs l k j=n) :
  ∀(ks:List Kd) (k0:Nat) (cs:List Value),k0+ks.length<=ad->KS ks cs->(∀k,k<ks.length->f (k0+k)=cs[k]?)->∀(k:Nat) (c:AV),(bR ρ l k0 ks j)[k]? = some c->∃Y,f (k0+k)=some Y/\ak C c Y
 | [],_,_,_,_,_,k,c,h=>by simp[bR]at h
 | kd::ks,k0,cs,hB,⟨v,r,e,R,hr⟩,H,k,c,h=>by
  subst e
  simp only[List.length_cons]at hB
  have h0:f k0=some v:=by have:=H 0 (by simp);simpa using this
  have ih:=EV (C:=C) hi hb hs ks (k0+1) r (by omega) hr (fun k u=>by
   have:=H (k+1) (by simp;omega)
   rw[show k0+1+k=k0+(k+1)from by omega,this];rfl)
  have next:∀k c,(bR ρ l (k0+1) ks j)[k]? = some c->∃Y,f (k0+(k+1))=some Y/\ak C c Y:=fun k c h=>by
   obtain⟨Y,hu,a'⟩:=ih k c h
   exact⟨Y,by rw[<-hu];congr 1;omega,a'⟩
  cases kd with
  | i kk =>
   obtain⟨n,rfl,_⟩:=R
   simp only[bR]at h
   cases k with
   | zero=>simp at h;subst h;exact⟨_,h0,by simp only[ak,hi k0 kk n (by omega) h0]⟩
   | succ k=>exact next k c (by simpa using h)
  | b =>
   obtain⟨n,rfl⟩:=R
   simp only[bR]at h
   cases k with
   | zero=>simp at h;subst h;exact⟨_,h0,by simp only[ak,hb k0 n (by omega) h0]⟩
   | succ k=>exact next k c (by simpa using h)
  | s =>
   obtain⟨n,rfl,_⟩:=R
   simp only[bR]at h
   cases k with
   | zero=>simp at h;subst h;exact⟨_,h0,by simp only[ak,hs k0 n (by omega) h0]⟩
   | succ k=>exact next k c (by simpa using h)
section
variable {C:Ctx} {aj:World} {cells vs:List Value} {zs:List Nat} {nz:Nat->Nat}
theorem Yx {l j:Nat} (O:l<64) (k:Nat) (K:IntKind) (n:Int) (u:k<1000) (h:d' aj vs zs l k j=some (.int K n)):(b_ aj cells vs zs nz).ci l k j=n:=by
 simp only[b_,if_pos O,if_pos u,h,Hq]
theorem Yw {l j:Nat} (O:l<64) (k:Nat) (n:Bool) (_:k<1000) (h:d' aj vs zs l k j=some (.bool n)):(b_ aj cells vs zs nz).cb l k j=n:=by
 simp only[b_,if_pos O,h,sy]
theorem Yy {l j:Nat} (O:l<64) (k:Nat) (n:ByteArray) (_:k<1000) (h:d' aj vs zs l k j=some (.string n)):(b_ aj cells vs zs nz).cs l k j=n:=by
 simp only[b_,if_pos O,h,r8]
theorem ai7 {l k0 j e len cap:Nat} {a:Addr} (O:l<64) (u:k0<64) (F:e<bX) (hr:d' aj vs zs l k0 j=some (.slice (some a) len cap)) (k:Nat):pS aj vs zs nz (64*(l+1)+k0) k (e+j*bX)=aj.cell? ((a.add (e*nz (64*(l+1)+k0))).add k):=by
 have m9:0<bX:=by decide
 have e1:(64*(l+1)+k0) / 64-1=l:=by omega
 have e2:(64*(l+1)+k0) % 64=k0:=by omega
 have e3:(e+j*bX) / bX=j:=by rw[Nat.add_mul_div_right _ _ m9,Nat.div_eq_of_lt F,Nat.zero_add]
 have e4:(e+j*bX) % bX=e:=by rw[Nat.add_mul_mod_self_right,Nat.mod_eq_of_lt F]
 simp only[pS,e1,e2,e3,e4,hr]
theorem aeb (hW:C.w=aj) (hm:∀b,¬C.mt b) {l k0 j z:Nat} {kk:List Kd} {v:Value} (O:l<64) (u:k0<64) (FU:kk.length<=1000) (hz:nz (64*(l+1)+k0)=z) (R:d' aj vs zs l k0 j=some v) (hf:Fits aj (.sl kk) v) (hb:mB (some v)<=maxLen) (F:z=kk.length) :
  ak C (.ro z (j0 (b_ aj cells vs zs nz) (64*(l+1)+k0) kk ((b_ aj cells vs zs nz).ci l k0 j) ((b_ aj cells vs zs nz).ci l (k0+1000) j)) false) v:=by
 obtain⟨kB,ab,len,cap,rfl,a0,re⟩:=hf
 have c1:(b_ aj cells vs zs nz).ci l k0 j=((j*bX:Nat):Int):=by simp only[b_,if_pos O,if_pos (show k0<1000 by omega),R,Hq]
 have c2:(b_ aj cells vs zs nz).ci l (k0+1000) j=(len:Int):=by simp only[b_,if_pos O,if_neg (show ¬k0+1000<1000 by omega),Nat.add_sub_cancel,R,mB]
 have gk:(j0 (b_ aj cells vs zs nz) (64*(l+1)+k0) kk ((b_ aj cells vs zs nz).ci l k0 j) ((b_ aj cells vs zs nz).ci l (k0+1000) j)).length=len:=by simp[j0,c2]
 refine iU.2 ⟨ab,cap,by rw[gk],by rw[gk];exact a0,fun h=>(nomatch h),fun ay => ?_⟩
 have eW:0<len:=by
  rcases Nat.eq_zero_or_pos len with h | h
  ·exfalso;apply ay;apply List.length_eq_zero_iff.1;rw[gk,h]
  ·exact h
 obtain⟨a,rfl,gc,hr⟩:=re eW
 refine⟨a,rfl,by rw[hW];exact gc,hm _,dR.mk fun e row gH => ?_⟩
 have sT:e<len:=by rw[<-gk];exact(List.getElem?_eq_some_iff.1 gH).1
 have vg:e<bX:=by
  have:len<=maxLen:=hb
  have e1:maxLen=9223372036854775807:=rfl
  have e2:bX=9223372036854775808:=rfl
  omega
 have agF:row=bR (b_ aj cells vs zs nz) (64*(l+1)+k0) 0 kk (e+j*bX):=by
  unfold j0 at gH
  rw[List.getElem?_map,List.getElem?_range (by rw[c2];exact sT)]at gH
  simp only[Option.map_some,Option.some.injEq]at gH
  rw[<-gH,c1]
  congr 1
 subst agF
 obtain⟨ds,jE,H⟩:=hr e sT
 have WF:=ai7 (nz:=nz) O u vg R
 have Or:¬64*(l+1)+k0<64:=by omega
 refine⟨by rw[Aq,F],dC.mk fun k c pB => ?_⟩
 obtain⟨Y,hu,a'⟩:=EV (C:=C) (ρ:=b_ aj cells vs zs nz) (l:=64*(l+1)+k0) (j:=e+j*bX) (ad:=1000) (f:=fun k=>pS aj vs zs nz (64*(l+1)+k0) k (e+j*bX))
  (fun k K n _ h=>by simp only[b_,if_neg Or,h,ym]) (fun k n _ h=>by simp only[b_,if_neg Or,h,sy]) (fun k n _ h=>by simp only[b_,if_neg Or,h,r8])
  kk 0 ds (by omega) jE (fun k aJ=>by rw[Nat.zero_add,WF,hz,F];exact H k aJ) k c pB
 rw[Nat.zero_add,WF,hz]at hu
 exact⟨Y,by rw[hW,Nat.zero_add,Nat.zero_add];exact hu,a'⟩
theorem EW (hW:C.w=aj) (hm:∀b,¬C.mt b) {l j:Nat} (O:l<64):∀(ks:List Nk) (k0:Nat) (ds:List Value),k0+ks.length<=1000->NK aj ks ds->(∀k,k<ks.length->d' aj vs zs l (k0+k) j=ds[k]?)->(∀(k:Nat) (z S:Nat) (kk:List Kd),ks[k]? = some (.r z S kk)->k0+k<64/\S=64*(l+1)+(k0+k)/\nz S=z/\kk.length<=1000) ->
  ∀(k:Nat) (c:AV),(dx (b_ aj cells vs zs nz) l k0 ks j)[k]? = some c->∃Y,d' aj vs zs l (k0+k) j=some Y/\ak C c Y
 | [],_,_,_,_,_,_,k,c,h=>by simp[dx]at h
 | .f kd::ks,k0,ds,hB,⟨v,r,e,R,hr⟩,H,hn,k,c,h=>by
  subst e
  simp only[List.length_cons]at hB
  have h0:d' aj vs zs l k0 j=some v:=by have:=H 0 (by simp);simpa using this
  cases k with
  | zero =>
   have e7:(bR (b_ aj cells vs zs nz) l k0 [kd] j)[0]? = some c:=by
    rw[<-h];cases kd<;>rfl
   exact EV (C:=C) (ad:=1000) (f:=fun k=>d' aj vs zs l k j) (Yx O) (Yw O) (Yy O) [kd] k0 [v] (by simp;omega) ⟨v,[],rfl,R,rfl⟩ (fun k u=>by
    obtain rfl:k=0:=by simpa using u
    exact h0) 0 c e7
  | succ k =>
   obtain⟨Y,hu,a'⟩:=EW hW hm O ks (k0+1) r (by omega) hr (fun k u=>by
    have:=H (k+1) (by simp;omega)
    rw[show k0+1+k=k0+(k+1)from by omega,this];rfl) (fun k z S kk u=>by
    have:=hn (k+1) z S kk (by simpa using u)
    rw[show k0+1+k=k0+(k+1)from by omega];exact this) k c (by simpa [dx]using h)
   exact⟨Y,by rw[<-hu];congr 1;omega,a'⟩
 | .r z S kk::ks,k0,ds,hB,⟨v,r,e,⟨hf,hb,hz⟩,hr⟩,H,hn,k,c,h=>by
  subst e
  simp only[List.length_cons]at hB
  have h0:d' aj vs zs l k0 j=some v:=by have:=H 0 (by simp);simpa using this
  cases k with
  | zero =>
   obtain⟨n0,n1,n2,aig⟩:=hn 0 z S kk rfl
   rw[Nat.add_zero]at n0
   simp only[dx,List.getElem?_cons_zero,Option.some.injEq]at h
   subst h
   rw[Nat.add_zero]at n1
   subst n1
   exact⟨v,h0,aeb hW hm O n0 aig n2 h0 hf hb hz⟩
  | succ k =>
   obtain⟨Y,hu,a'⟩:=EW hW hm O ks (k0+1) r (by omega) hr (fun k u=>by
    have:=H (k+1) (by simp;omega)
    rw[show k0+1+k=k0+(k+1)from by omega,this];rfl) (fun k z S kk u=>by
    have:=hn (k+1) z S kk (by simpa using u)
    rw[show k0+1+k=k0+(k+1)from by omega];exact this) k c (by simpa [dx]using h)
   exact⟨Y,by rw[<-hu];congr 1;omega,a'⟩
end
end Go.Proofs.Xw
namespace Go.Proofs.Xw
open Go Go.Proofs.Aw Go.ChangeShapes Go.WideShapes
def gr (P:Program) (aj:World):Nat->TypeId->List Value->Prop
 | 0,_,_=>False
 | n+1,t,cs=>match P.underlying t with
  | some .string=>∀s,cs=[.string s]->s.size<=reachBytes
  | some (.struct fs)=>∀f∈fs.toList,gr P aj n f.type ((cs.drop f.offset).take (P.cellsOf f.type))
  | some (.slice e)=>∀a len cap,cs=[.slice (some a) len cap]->len*P.bytesOf e<=reachBytes/\∀r,r<len->∀ds:List Value,ds.length=P.cellsOf e->(∀k,k<P.cellsOf e->aj.cell? ((a.add (r*P.cellsOf e)).add k)=ds[k]?)->gr P aj n e ds
  | _=>True
section
variable {aR:Type} {enc:TypeId×Value->aR} {P:Program}
theorem aaK:∀{ts:List TypeId} {ds:List (DataW aR)},(DataW.weightsEach P ts ds).all (· <= reachBytes)=true->∀(j:Nat) t d,ts[j]? = some t->ds[j]? = some d->(d.weights P t).all (· <= reachBytes)=true
 | [],_,_,j,t,d,h,_=>by simp at h
 | _::_,[],_,j,t,d,_,h=>by simp at h
 | t0::ts,d0::ds,h,j,t,d,A,E=>by
  simp only[DataW.weightsEach,List.all_append,Bool.and_eq_true]at h
  cases j with
  | zero =>
   simp only[List.getElem?_cons_zero,Option.some.injEq]at A E
   subst A E;exact h.1
  | succ j=>exact aaK h.2 j t d (by simpa using A) (by simpa using E)
theorem aaJ {e:TypeId}:∀{ds:List (DataW aR)},(DataW.weightsAll P e ds).all (· <= reachBytes)=true->∀d∈ds,(d.weights P e).all (· <= reachBytes)=true
 | [],_,d,h=>by simp at h
 | d0::ds,h,d,hd=>by
  simp only[DataW.weightsAll,List.all_append,Bool.and_eq_true]at h
  rcases List.mem_cons.1 hd with rfl | hd
  ·exact h.1
  ·exact aaJ h.2 d hd
theorem N1 {am β:Type} {f:am->Option β}:∀{l:List am} {r:List β},l.mapM f=some r->∀(j:Nat) (a:am),l[j]? = some a->∃b,r[j]? = some b/\f a=some b
 | [],r,_,j,a,h=>by simp at h
 | x::l,r,h,j,a,M=>by
  simp only[List.mapM_cons,bind,Option.bind_eq_some_iff,pure,Option.some.injEq]at h
  obtain⟨y,hy,ys,jH,rfl⟩:=h
  cases j with
  | zero =>
   simp only[List.getElem?_cons_zero,Option.some.injEq]at M
   subst M
   exact⟨y,rfl,hy⟩
  | succ j=>exact N1 jH j a (by simpa using M)
theorem P8 {aj:World}:∀(n:Nat) (t:TypeId) (cs:List Value) (x:DataW aR×List MemPlace),DataW.trod enc P aj 0 (fun _=>true) true n t cs=some x->(x.1.weights P t).all (· <= reachBytes)=true->gr P aj n t cs
 | 0,t,cs,x,h,_=>by simp[DataW.trod]at h
 | n+1,t,cs,x,h,hw=>by
  simp only[DataW.trod_step]at h
  unfold gr
  split
  ·rename_i hu
   intro s hs
   subst hs
   unfold DataW.trodStep at h
   rw[hu]at h
   simp only at h
   split at h
   ·cases h
    simp only[DataW.weights,List.all_cons,List.all_nil,Bool.and_true,decide_eq_true_eq,Array.length_toList]at hw
    exact hw
   ·cases h
  ·rename_i fs hu
   intro f hf
   unfold DataW.trodStep at h
   rw[hu]at h
   simp only at h
   split at h
   ·obtain⟨xs,vz,rfl⟩:=Option.map_eq_some_iff.1 h
    simp only[DataW.weights,hu]at hw
    obtain⟨j,M⟩:=List.getElem?_of_mem hf
    obtain⟨y,hy,Mn⟩:=N1 vz j f M
    have hwy:=aaK hw j f.type y.1 (by rw[List.getElem?_map,M];rfl) (by rw[List.getElem?_map,hy];rfl)
    exact P8 n f.type _ y Mn hwy
   ·cases h
  ·rename_i e hu
   intro a len cap aI
   subst aI
   unfold DataW.trodStep at h
   rw[hu]at h
   simp only at h
   split at h
   ·obtain⟨elems,F,h⟩:=Option.bind_eq_some_iff.1 h
    obtain⟨rest,_,rfl⟩:=Option.map_eq_some_iff.1 h
    simp only[DataW.weights,hu,List.all_cons,List.all_append,Bool.and_eq_true,decide_eq_true_eq]at hw
    have hlen:elems.length=len:=by
     have:=GO F
     simpa using this
    refine⟨Nat.le_trans (Nat.mul_le_mul_right _ (by rw[List.length_map,hlen];exact Nat.le_add_right _ _)) hw.1,fun r hr ds FL jE => ?_⟩
    obtain⟨y,hy,Mn⟩:=N1 F r r (by rw[List.getElem?_range hr])
    obtain⟨sG,A,E⟩:=Option.bind_eq_some_iff.1 Mn
    obtain⟨_,l1,l2⟩:=World.cells?_some A
    have:ds=sG:=List.ext_getElem? fun k=>by
     by_cases u:k<P.cellsOf e
     ·rw[<-jE k u,l2 k u]
     ·rw[List.getElem?_eq_none (by omega),List.getElem?_eq_none (by omega)]
    subst this
    exact P8 n e ds y E (aaJ hw.2.1 y.1 (List.mem_map.2 ⟨y,List.mem_of_getElem? hy,rfl⟩))
   ·cases h
  ·trivial
def Ug (P:Program) (t:TypeId) (i:Nat):Option (TypeId×Nat×Nat):=match P.underlying t with
 | some (.struct fs)=>(fs.toList[i]?).map fun f=>(f.type,f.offset,P.cellsOf f.type)
 | _=>none
theorem j1 {aj:World} {n:Nat} {t t':TypeId} {i o z:Nat} {cs:List Value} (h:gr P aj n t cs) (hf:Ug P t i=some (t',o,z)):∃m,gr P aj m t' ((cs.drop o).take z):=by
 unfold Ug at hf
 split at hf
 ·rename_i fs hu
  obtain⟨f,M,F⟩:=Option.map_eq_some_iff.1 hf
  cases F
  cases n with
  | zero=>exact h.elim
  | succ n =>
   unfold gr at h
   rw[hu]at h
   exact⟨n,h f (List.mem_of_getElem? M)⟩
 ·cases hf
theorem Iu {aj:World} {n:Nat} {t:TypeId} {cs:List Value} (h:gr P aj n t cs) (hu:P.underlying t=some .string):∀s,cs=[.string s]->s.size<=reachBytes:=by
 cases n with
 | zero=>exact h.elim
 | succ n =>
  unfold gr at h
  rw[hu]at h
  exact h
theorem It {aj:World} {n:Nat} {t e:TypeId} {cs:List Value} (h:gr P aj n t cs) (hu:P.underlying t=some (.slice e)):∃m,∀a len cap,cs=[.slice (some a) len cap]->len*P.bytesOf e<=reachBytes/\∀r,r<len->∀ds:List Value,ds.length=P.cellsOf e->(∀k,k<P.cellsOf e->aj.cell? ((a.add (r*P.cellsOf e)).add k)=ds[k]?)->gr P aj m e ds:=by
 cases n with
 | zero=>exact h.elim
 | succ n =>
  unfold gr at h
  rw[hu]at h
  exact⟨n,h⟩
def Ei (P:Program) (aj:World) (ts:List TypeId) (vs:List Value):Prop:=∀(j:Nat) (t:TypeId) (v:Value),ts[j]? = some t->vs[j]? = some v->∃n,gr P aj n t v.cells.toList
theorem Zi {aj:World} {gs:List (DataW aR)} {us:List TypeId}:∀{ts:List TypeId} {vs:List Value} {ds:List (DataW aR)} {p:List MemPlace},DataW.TrodAll enc P aj 0 (fun _=>true) true ts vs ds p->(DataW.weightsEach P (ts++us) (ds++gs)).all (· <= reachBytes)=true->Ei P aj ts vs
 | [],vs,ds,p,h,hw=>fun j t v A _=>by simp at A
 | t0::ts,vs,ds,p,h,hw=>fun j t v A E=>by
  obtain⟨Do,cn,d,sG,p1,p2,rfl,rfl,rfl,g1,g2⟩:=trodAll_cons h
  simp only[List.cons_append,DataW.weightsEach,List.all_append,Bool.and_eq_true]at hw
  cases j with
  | zero =>
   simp only[List.getElem?_cons_zero,Option.some.injEq]at A E
   subst A E
   obtain⟨n,hn⟩:=g1
   exact⟨n,P8 n _ _ _ hn hw.1⟩
  | succ j=>exact Zi g2 hw.2 j t v (by simpa using A) (by simpa using E)
end
end Go.Proofs.Xw
namespace Go.Proofs.Xw
open Go Go.Proofs.Aw Go.ChangeShapes Go.WideShapes
def vS (nz:Nat->Nat) (j:Nat):Nat->List Nk->Bool
 | _,[]=>true
 | k,.f _::ks=>vS nz j (k+1) ks
 | k,.r z S kk::ks=>Nat.blt k 64&&(Nat.beq S (64*(j+1)+k)&&(Nat.beq (nz S) z&&(Nat.ble kk.length 1000&&vS nz j (k+1) ks)))
theorem Gy {nz:Nat->Nat} {j:Nat}:∀{ks:List Nk} {k0:Nat},vS nz j k0 ks=true->∀(k:Nat) (z S:Nat) (kk:List Kd),ks[k]? = some (.r z S kk)->k0+k<64/\S=64*(j+1)+(k0+k)/\nz S=z/\kk.length<=1000
 | [],_,_,k,z,S,kk,u=>by simp at u
 | .f _::ks,k0,h,k,z,S,kk,u=>by
  cases k with
  | zero=>simp at u
  | succ k =>
   have:=Gy (k0:=k0+1) (by simpa [vS]using h) k z S kk (by simpa using u)
   rw[show k0+1+k=k0+(k+1)from by omega]at this
   exact this
 | .r z' S' V3::ks,k0,h,k,z,S,kk,u=>by
  simp only[vS,Bool.and_eq_true]at h
  obtain⟨h0,A,E,h3,h4⟩:=h
  cases k with
  | zero =>
   simp only[List.getElem?_cons_zero,Option.some.injEq,Nk.r.injEq]at u
   obtain⟨rfl,rfl,rfl⟩:=u
   exact⟨by simpa [Nat.blt_eq]using h0,Nat.eq_of_beq_eq_true A,Nat.eq_of_beq_eq_true E,Nat.le_of_ble_eq_true h3⟩
  | succ k =>
   have:=Gy (k0:=k0+1) h4 k z S kk (by simpa using u)
   rw[show k0+1+k=k0+(k+1)from by omega]at this
   exact this
def oz (nz:Nat->Nat):Nat->List gS->Bool
 | _,[]=>true
 | j,.sn ks::r=>Nat.blt j 64&&(Nat.ble ks.length 1000&&(vS nz j 0 ks&&oz nz (j+1) r))
 | j,.sl ks::r=>Nat.blt j 64&&(Nat.ble ks.length 1000&&oz nz (j+1) r)
 | j,.ah ks::r=>Nat.blt j 64&&(Nat.ble ks.length 1000&&(vS nz j 0 ks&&oz nz (j+1) r))
 | j,.flat _ _::r=>oz nz (j+1) r
theorem Am {aj:World} {cells vs:List Value} {zs:List Nat} {nz:Nat->Nat}:∀(ks:List Kd) (p:Nat),X.af (b_ aj cells vs zs nz) (canon p ks)=X.af (Cs aj cells vs zs) (canon p ks)
 | [],_=>rfl
 | .i _::ks,p=>by simp only[canon,X.af,Am ks (p+1)];rfl
 | .b::ks,p=>by simp only[canon,X.af,Am ks (p+1)];rfl
 | .s::ks,p=>by simp only[canon,X.af,Am ks (p+1)];rfl
theorem AD {C:Ctx} {aj:World} (hW:C.w=aj) (hm:∀b,¬C.mt b) {cells eZ:List Value} {zs:List Nat} {nz:Nat->Nat}:∀(dQ:List gS) (vs:List Value) (pre preV:List Value),(∀(i:Nat) (sh:gS) (v:Value),dQ[i]? = some sh->vs[i]? = some v->qt aj sh v)->dQ.length=vs.length ->
  cells=pre++jW dQ vs->eZ=preV++vs->(∀(i:Nat) (sh:gS),dQ[i]? = some sh->zs[preV.length+i]? = some (oZ sh))->oz nz preV.length dQ=true->aD C (X.af (b_ aj cells eZ zs nz) (jg pre.length preV.length dQ)) vs
 | [],vs,pre,preV,_,O,_,_,_,_=>by
  have:vs=[]:=List.length_eq_zero_iff.1 O.symm
  subst this
  simp only[jg,X.af,aD]
 | sh::dQ,[],_,_,_,O,_,_,_,_=>by simp at O
 | sh::dQ,v::vs,pre,preV,hf,O,hY,iB,hz,q8=>by
  have h0:=hf 0 sh v rfl rfl
  have fw:∀(i:Nat) (oY:gS) (v':Value),dQ[i]? = some oY->vs[i]? = some v'->qt aj oY v':=fun i oY v' A E=>hf (i+1) oY v' (by simpa using A) (by simpa using E)
  have bY:dQ.length=vs.length:=by simpa using O
  have ja:∀(i:Nat) (oY:gS),dQ[i]? = some oY->zs[(preV++[v]).length+i]? = some (oZ oY):=fun i oY A=>by
   have:=hz (i+1) oY (by simpa using A)
   rw[<-this];congr 1;simp;omega
  have F5:eZ=(preV++[v])++vs:=by rw[iB];simp
  have e2:(preV++[v]).length=preV.length+1:=by simp
  cases sh with
  | flat ks agg =>
   have vn:oz nz (preV.length+1) dQ=true:=by simpa [oz]using q8
   have rest:∀n,v.cells.toList.length=n->aD C (X.af (b_ aj cells eZ zs nz) (jg (pre.length+n) (preV.length+1) dQ)) vs:=fun n hn=>by
    have:=AD (cells:=cells) (eZ:=eZ) (zs:=zs) (nz:=nz) hW hm dQ vs (pre++v.cells.toList) (preV++[v]) fw bY (by rw[hY];simp[jW]) F5 ja (by rw[e2];exact vn)
    rw[e2,List.length_append,hn]at this
    exact this
   have here:∀i,i<v.cells.toList.length->cells[pre.length+i]? = v.cells.toList[i]? := fun i hi=>by
    rw[hY,List.getElem?_append_right (by omega)]
    simp only[jW]
    rw[List.getElem?_append_left (by omega)]
    congr 1;omega
   cases agg with
   | true =>
    obtain⟨cs,rfl,u⟩:=h0
    have hlen:=u.length
    simp only[jg,X.af,X.I,aD]
    refine⟨_,_,rfl,?_,rest ks.length (by simpa [Value.cells]using hlen)⟩
    simp only[ak]
    rw[Am]
    exact⟨cs,rfl,KA ks pre.length cs.toList u fun i hi=>here i (by simpa [Value.cells]using (by omega:i<cs.toList.length))⟩
   | false =>
    obtain⟨k,rfl,u⟩:=h0
    have mr:v.cells.toList=[v]:=by cases k with
     | i kk=>obtain⟨n,rfl,_⟩:=u;rfl
     | b=>obtain⟨n,rfl⟩:=u;rfl
     | s=>obtain⟨n,rfl,_⟩:=u;rfl
    have H:=KA (C:=C) (aj:=aj) (cells:=cells) (vs:=eZ) (zs:=zs) [k] pre.length [v] ⟨v,[],rfl,u,rfl⟩ fun i hi=>by rw[here i (by rw[mr];simpa using hi),mr]
    rw[<-Am (nz:=nz)]at H
    simp only[jg,X.af,aD]
    refine⟨_,_,rfl,?_,rest 1 (by rw[mr];rfl)⟩
    cases k with
    | i kk=>simp only[canon,X.af,aD]at H ⊢;obtain⟨Y,us,e,a',_⟩:=H;simp only[List.cons.injEq]at e;rw[e.1];exact a'
    | b=>simp only[canon,X.af,aD]at H ⊢;obtain⟨Y,us,e,a',_⟩:=H;simp only[List.cons.injEq]at e;rw[e.1];exact a'
    | s=>simp only[canon,X.af,aD]at H ⊢;obtain⟨Y,us,e,a',_⟩:=H;simp only[List.cons.injEq]at e;rw[e.1];exact a'
  | sl ks =>
   simp only[oz,Bool.and_eq_true]at q8
   obtain⟨b1,b2,vn⟩:=q8
   have b1:preV.length<64:=by simpa using b1
   obtain⟨kB,ab,len,cap,rfl,a0,re⟩:=h0
   have vy:eZ[preV.length]? = some (.slice ab len cap):=by rw[iB,List.getElem?_append_right (Nat.le_refl _)];simp
   have BY:zs[preV.length]? = some ks.length:=by have:=hz 0 (.sl ks) rfl;simpa [oZ]using this
   have rest:=AD (cells:=cells) (eZ:=eZ) (zs:=zs) (nz:=nz) hW hm dQ vs pre (preV++[Value.slice ab len cap]) fw bY (by rw[hY];simp[jW]) F5 ja (by rw[e2];exact vn)
   rw[e2]at rest
   simp only[jg,X.af,X.I,aD]
   refine⟨_,_,rfl,?_,rest⟩
   have hlen:((b_ aj cells eZ zs nz).len preV.length)=len:=by simp only[b_,vy,mB]
   have gk:(aX (b_ aj cells eZ zs nz) (.len preV.length) (.var preV.length ks)).length=len:=by simp[aX,U.I,hlen]
   refine iU.2 ⟨ab,cap,by rw[gk],by rw[gk];exact a0,fun h=>(nomatch h),fun ay => ?_⟩
   have eW:0<len:=by
    rcases Nat.eq_zero_or_pos len with h | h
    ·exfalso;apply ay;apply List.length_eq_zero_iff.1;rw[gk,h]
    ·exact h
   obtain⟨a,rfl,hb,hr⟩:=re eW
   refine⟨a,rfl,by rw[hW];exact hb,hm _,dR.mk fun j e M => ?_⟩
   have nb:j<len:=by rw[<-gk];exact(List.getElem?_eq_some_iff.1 M).1
   rw[mJ (by simp only[U.I,hlen];omega)]at M
   simp only[Option.some.injEq,RL.row,Int.toNat_natCast]at M
   subst M
   obtain⟨cs,u,H⟩:=hr j nb
   have ta:∀k,d' aj eZ zs preV.length k j=aj.cell? ((a.add (j*ks.length)).add k):=fun k=>by simp only[d',vy,BY]
   refine⟨Aq _ _ _ _ _,dC.mk fun k c pB => ?_⟩
   obtain⟨Y,hu,a'⟩:=EV (C:=C) (ρ:=b_ aj cells eZ zs nz) (l:=preV.length) (j:=j) (ad:=1000) (f:=fun k=>d' aj eZ zs preV.length k j) (Yx b1) (Yw b1) (Yy b1) ks 0 cs (by have:=Nat.le_of_ble_eq_true b2;omega) u (fun k aJ=>by rw[Nat.zero_add,ta];exact H k aJ) k c pB
   simp only[Nat.zero_add,ta]at hu
   exact⟨Y,by rw[hW,Nat.zero_add,Nat.zero_add];exact hu,a'⟩
  | sn ks =>
   simp only[oz,Bool.and_eq_true]at q8
   obtain⟨b1,b2,de,vn⟩:=q8
   have b1:preV.length<64:=by simpa using b1
   obtain⟨kB,ab,len,cap,rfl,a0,re⟩:=h0
   have vy:eZ[preV.length]? = some (.slice ab len cap):=by rw[iB,List.getElem?_append_right (Nat.le_refl _)];simp
   have BY:zs[preV.length]? = some ks.length:=by have:=hz 0 (.sn ks) rfl;simpa [oZ]using this
   have rest:=AD (cells:=cells) (eZ:=eZ) (zs:=zs) (nz:=nz) hW hm dQ vs pre (preV++[Value.slice ab len cap]) fw bY (by rw[hY];simp[jW]) F5 ja (by rw[e2];exact vn)
   rw[e2]at rest
   simp only[jg,X.af,X.I,aD]
   refine⟨_,_,rfl,?_,rest⟩
   have hlen:((b_ aj cells eZ zs nz).len preV.length)=len:=by simp only[b_,vy,mB]
   have gk:(fW (b_ aj cells eZ zs nz) (.len preV.length) preV.length ks).length=len:=by simp[fW,U.I,hlen]
   refine iU.2 ⟨ab,cap,by rw[gk],by rw[gk];exact a0,fun h=>(nomatch h),fun ay => ?_⟩
   have eW:0<len:=by
    rcases Nat.eq_zero_or_pos len with h | h
    ·exfalso;apply ay;apply List.length_eq_zero_iff.1;rw[gk,h]
    ·exact h
   obtain⟨a,rfl,hb,hr⟩:=re eW
   refine⟨a,rfl,by rw[hW];exact hb,hm _,dR.mk fun j e M => ?_⟩
   have nb:j<len:=by rw[<-gk];exact(List.getElem?_eq_some_iff.1 M).1
   rw[YC (by simp only[U.I,hlen];omega)]at M
   simp only[Option.some.injEq]at M
   subst M
   obtain⟨ds,u,H⟩:=hr j nb
   have ta:∀k,d' aj eZ zs preV.length k j=aj.cell? ((a.add (j*ks.length)).add k):=fun k=>by simp only[d',vy,BY]
   refine⟨EM _ _ _ _ _,dC.mk fun k c pB => ?_⟩
   obtain⟨Y,hu,a'⟩:=EW (C:=C) (cells:=cells) hW hm b1 ks 0 ds (by have:=Nat.le_of_ble_eq_true b2;omega) u (fun k aJ=>by rw[Nat.zero_add,ta];exact H k aJ) (Gy de) k c pB
   simp only[Nat.zero_add,ta]at hu
   exact⟨Y,by rw[hW,Nat.zero_add,Nat.zero_add];exact hu,a'⟩
  | ah ks =>
   simp only[oz,Bool.and_eq_true]at q8
   obtain⟨b1,b2,de,vn⟩:=q8
   have b1:preV.length<64:=by simpa using b1
   obtain⟨cs,rfl,u⟩:=h0
   have vy:eZ[preV.length]? = some (.agg cs):=by rw[iB,List.getElem?_append_right (Nat.le_refl _)];simp
   have BY:zs[preV.length]? = some ks.length:=by have:=hz 0 (.ah ks) rfl;simpa [oZ]using this
   have rest:=AD (cells:=cells) (eZ:=eZ) (zs:=zs) (nz:=nz) hW hm dQ vs pre (preV++[Value.agg cs]) fw bY (by rw[hY];simp[jW]) F5 ja (by rw[e2];exact vn)
   rw[e2]at rest
   simp only[jg,X.af,X.I,aD]
   refine⟨_,_,rfl,?_,rest⟩
   simp only[ak]
   rw[qD,show((U.lit 0).I (b_ aj cells eZ zs nz)).toNat=0 from rfl]
   have ta:∀k,d' aj eZ zs preV.length k 0=cs.toList[k]? := fun k=>by simp only[d',vy,BY,Array.getElem?_toList]
   refine⟨cs,rfl,aD.mk (by rw[EM,u.length]) fun k c Y pB x8 => ?_⟩
   obtain⟨u',hu,a'⟩:=EW (C:=C) (cells:=cells) hW hm b1 ks 0 cs.toList (by have:=Nat.le_of_ble_eq_true b2;omega) u (fun k _=>by rw[Nat.zero_add,ta]) (Gy de) k c pB
   rw[Nat.zero_add,ta,x8]at hu
   cases hu
   exact a'
def Qe (P:Program) (j:Nat) (t:TypeId):Option gS:=match IA P t with
 | some (.flat ks a)=>some (.flat ks a)
 | some (.sl ks)=>some (.sl ks)
 | none=>match P.underlying t with
  | some (.slice e)=>(match AH P (64*(j+1)) 4 0 e with
   | some ks=>if 0<ks.length/\ks.length=P.cellsOf e then some (.sn ks)else none
   | none=>none)
  | some (.struct _)=>(AH P (64*(j+1)) 4 0 t).map .ah
  | _=>none
def Iz (P:Program):Nat->List TypeId->List gS->Prop
 | _,[],[]=>True
 | j,t::ts,s::ss=>Qe P j t=some s/\Iz P (j+1) ts ss
 | _,_,_=>False
section
variable {aR:Type} {enc:TypeId×Value->aR} {P:Program}
theorem afk {j:Nat} {t:TypeId} {sh:gS} (hs:Qe P j t=some sh) {aj:World} {base:Nat} {v:Value} (h8:Value.okWide P aj .any base t v) {d:DataW aR} {p:List MemPlace} (h:DataW.Trod enc P aj 0 (fun _=>true) true t v d p) :
  qt aj sh v/\∀(W':World) (sp:Nat->Bool),(∀b,b<aj.heap.size->W'.heap[b]? = aj.heap[b]?)->(∀q∈p,sp q.block=true)->DataW.Trod enc P W' 0 sp true t v d p:=by
 unfold Qe at hs
 split at hs
 ·rename_i ks a A
  cases hs
  exact T' A h8 h
 ·rename_i ks A
  cases hs
  exact T' A h8 h
 ·split at hs
  ·rename_i e hu
   split at hs
   ·rename_i ks u
    split at hs
    ·rename_i H
     cases hs
     obtain⟨ab,len,cap,rfl⟩:=okWide_slice hu h8
     obtain⟨n,hf⟩:=h
     obtain⟨g1,g2⟩:=UE (enc:=enc) hu (by omega) (L0 4 0 e ks u) aj n _ _ hf
     refine⟨⟨H.1,ab,len,cap,rfl,?_⟩,fun W' sp A E=>⟨n,g2 W' sp A E⟩⟩
     obtain⟨A',len',cap',F,a0,_,hr⟩:=g1
     have F:[Value.slice ab len cap]=[Value.slice A' len' cap']:=F
     simp only[List.cons.injEq,Value.slice.injEq,and_true]at F
     obtain⟨rfl,rfl,rfl⟩:=F
     refine⟨a0,fun O => ?_⟩
     obtain⟨a,hA,hb,hr⟩:=hr O
     refine⟨a,hA,hb,fun r mo => ?_⟩
     obtain⟨ds,A,E⟩:=hr r mo
     obtain⟨_,_,h4⟩:=World.cells?_some A
     exact⟨ds,E,fun k aJ=>by rw[H.2];exact h4 k (by omega)⟩
    ·cases hs
   ·cases hs
  ·rename_i fs hu
   obtain⟨ks,u,rfl⟩:=Option.map_eq_some_iff.1 hs
   obtain⟨n,hf⟩:=h
   obtain⟨g1,g2⟩:=L0 (enc:=enc) 4 0 t ks u aj n _ _ hf
   have R:∃cs,v = .agg cs:=by
    simp only[Value.okWide,hu]at h8
    obtain⟨cs,A,_⟩:=h8
    exact⟨cs,A⟩
   obtain⟨cs,rfl⟩:=R
   exact⟨⟨cs,rfl,g1⟩,fun W' sp A E=>⟨n,g2 W' sp A E⟩⟩
  ·cases hs
theorem T9 {aj:World} {base:Nat}:∀{j:Nat} {ts:List TypeId} {dQ:List gS} {vs:List Value} {ds:List (DataW aR)} {p:List MemPlace},Iz P j ts dQ->(∀(j:Nat) t v,ts[j]? = some t->vs[j]? = some v->Value.okWide P aj .any base t v) ->
  DataW.TrodAll enc P aj 0 (fun _=>true) true ts vs ds p->dQ.length=vs.length/\(∀(i:Nat) (sh:gS) (v:Value),dQ[i]? = some sh->vs[i]? = some v->qt aj sh v) /\
  ∀(W':World) (sp:Nat->Bool),(∀b,b<aj.heap.size->W'.heap[b]? = aj.heap[b]?)->(∀q∈p,sp q.block=true)->DataW.TrodAll enc P W' 0 sp true ts vs ds p
 | j,[],[],vs,ds,p,_,_,h=>by
  obtain⟨rfl,rfl,rfl⟩:=trodAll_nil h
  exact⟨rfl,fun i sh v A _=>by simp at A,fun _ _ _ _=>rfl⟩
 | j,[],_::_,vs,ds,p,hm,_,h=>hm.elim
 | j,t::ts,[],vs,ds,p,hm,_,h=>hm.elim
 | j,t::ts,sh::dQ,vs,ds,p,hm,h8,h=>by
  obtain⟨v,cn,d,sG,p1,p2,rfl,rfl,rfl,A,E⟩:=trodAll_cons h
  obtain⟨bp,bj⟩:=afk hm.1 (h8 0 t v rfl rfl) A
  obtain⟨b1,b2,de⟩:=T9 hm.2 (fun j t' v' e1 e2=>h8 (j+1) t' v' (by simpa using e1) (by simpa using e2)) E
  refine⟨by simp[b1],fun i oY v' e1 e2 => ?_,fun W' sp hW hq => ?_⟩
  ·cases i with
   | zero=>simp at e1 e2;subst e1 e2;exact bp
   | succ i=>exact b2 i oY v' (by simpa using e1) (by simpa using e2)
  ·exact⟨p1,p2,bj W' sp hW (fun q h2=>hq q (List.mem_append_left _ h2)),de W' sp hW (fun q h2=>hq q (List.mem_append_right _ h2)),rfl⟩
theorem ahW {f:FuncId} {fn:Func} {s:ChangeSpec} {dQ:List gS} {nz:Nat->Nat} {r:TypeId} (hts:Iz P 0 fn.params.toList dQ) (q8:oz nz 0 dQ=true) (hrt:fn.resultTypes = #[r]) (hrb:P.underlying r=some .bool) (Vw:s.vars=[])
  (qX:∀(aj:World) (vs:List Value),dQ.length=vs.length->(∀(i:Nat) (sh:gS) (v:Value),dQ[i]? = some sh->vs[i]? = some v->qt aj sh v)->JI P fn.params.toList vs->Ei P aj fn.params.toList vs->CY P 0 f (X.af (b_ aj (jW dQ vs) vs (dQ.map oZ) nz) (jg 0 0 dQ)) [] (.sc (.bool true)) [])
  {aj:World} {base:Nat} {args:Array Value} {ds gs:List (DataW aR)} {before:List MemPlace} {apart:Bool} {us:List TypeId} (h8:∀(j:Nat) t v,fn.params[j]? = some t->args[j]? = some v->Value.okWide P aj .any base t v)
  (hW:DataW.Whole enc P fn.params.toList s.vars apart aj args.toList ds gs before) (F6:(DataW.weightsEach P (fn.params.toList++us) (ds++gs)).all (· <= reachBytes)=true)
  (BS:∀ds:List (DataW aR),ds.length=fn.params.size->s.fn aR (ds++[])={ results:=[.lit (.bool true)],args:=ds }) :
  Calls P f args aj fun e W'=>∃v,e = .returned v/\s.post enc P fn apart true false false aj args v W':=by
 obtain⟨p,q,hA,L8,rfl,FQ,hnd⟩:=id hW
 rw[Vw]at L8
 obtain⟨rfl,rfl⟩:gs=[]/\q=[]:=by
  cases gs with
  | nil=>exact⟨rfl,L8⟩
  | cons g gs=>exact L8.elim
 obtain⟨hlen,d8,af5⟩:=T9 hts (fun j t v A E=>h8 j t v (by simpa using A) (by simpa using E)) hA
 let C:Ctx:={ ρ:=fun _=>0,bs:=fun _=>0,live:=fun _=>False,kn:=fun _=>False,mt:=fun _=>False,w:=aj }
 have hH:c6 C []:=⟨fun n=>by simp[C,ae],fun n cs h=>by simp[ae]at h,fun n m h=>h.elim,fun n h=>h.elim,fun n h=>h.elim⟩
 have hC:=AD (C:=C) (aj:=aj) rfl (fun b h=>h) (cells:=jW dQ args.toList) (eZ:=args.toList) (zs:=dQ.map oZ) (nz:=nz) dQ args.toList [] [] d8 hlen rfl rfl (fun i sh h=>by simp[h]) q8
 have BS:=BS ds (by rw[Z4 hA];simp)
 have:=qX aj args.toList hlen d8 (V' hA F6) (Zi hA F6) C args.toList hH hC (fun k h=>h)
 have e:args.toList.toArray=args:=by simp
 rw[e]at this
 refine this.mono fun e W' ⟨Y,C',F,hw,hp⟩ => ?_
 have hu:Y = .bool true:=by have:=hp.val;simpa only[ak]using this
 subst hu
 subst hw
 have fm:∀b,b<aj.heap.size->C'.w.heap[b]? = aj.heap[b]? := fun b hb=>hp.same b hb (fun m hm=>by simp at hm)
 refine⟨_,F,ds,[],p++[],[],p,[],hW,?_,?_,?_,?_,fun h=>by cases h⟩
 ·rw[BS,hrt]
  exact trodAll_mk1 (Go.RowKit.shut_bool hrb true)
 ·rw[BS]
  exact af5 C'.w _ fm (fun q hq=>by simpa using hW.lt q (by simpa using hq))
 ·rw[BS,Vw];exact rfl
 ·refine⟨hp.os,hp.output,fun i hi => ?_⟩
  rw[fm i hi]
  split
  ·rename_i A E
   rw[A]at E
   cases E
   exact⟨rfl,rfl,rfl,fun _ _=>rfl⟩
  ·rename_i A E
   rw[A]at E
   cases E
   exact .inr ⟨rfl,rfl⟩
  ·rfl
end
end Go.Proofs.Xw
