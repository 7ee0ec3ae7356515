/- Parts of the logic that the proof runs in, one behind the other. -/
import Derived.Test.YtpdfmnhgocpkcaaGreatXwM1
import Derived.Test.YtpdfmnhgocpkcaaGreatAwM2
namespace Go.Proofs.Xw
open Go Go.Proofs.Aw
abbrev bI:=Nat->FuncId->List X->bg->Facts->T (X×dR)
def dJ (P:Program) (J:Rho) (call:bI):Prop:=∀n f args h Φ r d,Facts.ok J Φ->(call n f args h Φ).sel J=some (r,d)->aQ P f=true/\CY P n f (X.denL J args) (aV J h) (r.den J) (bZ J d)
def doX (ti:Nat->Option TI) (call:bI) (n:Nat) (mu:Bool) (g:Nat->X) (h:bg) (Φ:Facts) (op:Op):T (X×dR) :=
 (Zj ti n mu (fun i=>strip Φ (g i)) h Φ op).bind Φ fun Φ a=>match a with
  | .ok r d => .ret (r,d)
  | .call f args=>call n f args h Φ
theorem mD {P:Program} {J:Rho} {ti:Nat->Option TI} (hti:TIs.ok P ti) {call:bI} (hcall:dJ P J call) {n:Nat} {mu:Bool} {g:Nat->X} {t:Tp} (hg:∀i,(g i).den J=dX t i) {h:bg} {Φ:Facts} (hk:Facts.ok J Φ) {op:Op} {r:X} {d:dR}
  (hs:(doX ti call n mu g h Φ op).sel J=some (r,d)):Aw.Yields P n op t (aV J h) (r.den J) (bZ J d):=by
 obtain⟨Φ',a,hk',h1,h2⟩:=T.sel_bind _ hk hs
 have hsh:=MQ hti (g:=fun i=>strip Φ (g i)) (fun i=>(Ah hk (g i)).trans (hg i)) hk h1
 cases a with
 | ok r' d'=>cases h2;exact hsh
 | call f args =>
  obtain⟨hb,hcy⟩:=hcall _ _ _ _ _ _ _ hk' h2
  obtain⟨r',d',hy,h3,h4⟩:=um (Ei (K:=fun a b=>a=r.den J/\b=bZ J d) hsh ⟨_,_,hb,hcy,rfl,rfl⟩)
  subst h3 h4;exact hy
structure XS where
 t:ig
 h:bg
 nx:Nat
noncomputable def XS.den (J:Rho) (σ:XS):St:=⟨og J σ.t,aV J σ.h,σ.nx⟩
def yvX (ops:List Oper) (g:Nat->X) (j:Nat):X :=
 match(ops[j]?).bind (·.dst)with
 | some d=>g d
 | none => .top
theorem JC {J:Rho} {ops:List Oper} {g:Nat->X} {t:Tp} (hg:∀i,(g i).den J=dX t i) (j:Nat):(yvX ops g j).den J=yv ops t j:=by
 unfold yvX yv
 split
 ·rename_i d h;rw[h];exact hg d
 ·rename_i h;rw[h];rfl
def quiet:T (X×dR)->Option (BE×X)
 | .ret (r,[])=>some (.lit true,r)
 | .need p (.ret (r,[]))=>some (p,r)
 | _=>none
theorem yZ {J:Rho} {t:T (X×dR)} {p:BE} {r:X} (h:quiet t=some (p,r)) (hp:p.den J=true):t.sel J=some (r,[]):=by
 unfold quiet at h
 split at h
 ·cases h;rfl
 ·cases h;simp only[T.sel,hp,if_true]
 ·cases h
def YP (want':Bool):X->Option BE
 | .sc (.b c)=>some (if want'=true then c else mkNot c)
 | .gd d (.sc (.b c))=>some (mkAnd d (if want'=true then c else mkNot c))
 | .k (.tuple _)=>some (.lit false)
 | _=>none
theorem VH {J:Rho} {want':Bool} {v:X} {e:BE} (h:YP want' v=some e):(e.den J=true->v.den J = .sc (.bool want'))/\(e.den J=false->(∃b,v.den J = .sc (.bool b)/\b≠want')\/∃x,v.den J = .sc (.tuple x)):=by
 have ew:∀c:BE,(if want'=true then c else mkNot c).den J=(c.den J==want'):=fun c=>by
  cases want' with
  | true=>rw[if_pos rfl];cases BE.den J c<;>rfl
  | false=>rw[if_neg (by simp),bz];cases BE.den J c<;>rfl
 unfold YP at h
 split at h
 ·rename_i c
  cases h
  rw[ew]
  refine⟨fun hh => ?_,fun hh => .inl ⟨c.den J,rfl,by simpa using hh⟩⟩
  simp only[beq_iff_eq]at hh
  simp only[X.den,Sc.den,hh]
 ·rename_i d c
  cases h
  rw[df,ew]
  simp only[X.den,Sc.den]
  cases hd:d.den J with
  | true =>
   refine⟨fun hh => ?_,fun hh => .inl ⟨c.den J,rfl,by simpa using hh⟩⟩
   simp only[Bool.true_and,beq_iff_eq]at hh
   simp only[if_true,hh]
  | false=>exact⟨fun hh=>by simp at hh,fun _ => .inr ⟨#[],rfl⟩⟩
 ·rename_i x
  cases h
  exact⟨fun hh=>by simp[BE.den]at hh,fun _ => .inr ⟨x,rfl⟩⟩
 ·cases h
def Be {α:Type} (Φ:Facts) (v:X) (want':Bool) (run:Facts->T (X×dR)) (go:Facts->X->dR->T α) (skip:Facts->T α) (both:Facts->X->T α):T α :=
 match YP want' v with
 | some e=>match red Φ e with
  | .lit true=>(run Φ).bind Φ fun Φ p=>go Φ p.1 p.2
  | .lit false=>skip Φ
  | d=>match quiet (run (assume d true Φ))with
   | some (p,r)=>want Φ (AU (mkNot d) p) fun Φ=>both Φ (.gd d r)
   | none => .br d ((run (assume d true Φ)).bind (assume d true Φ) fun Φ p=>go Φ p.1 p.2) (skip (assume d false Φ))
 | none => .fail ["guard"]
theorem Eo {α:Type} {J:Rho} {Φ:Facts} {v:X} {want':Bool} {run:Facts->T (X×dR)} {go:Facts->X->dR->T α} {skip:Facts->T α} {both:Facts->X->T α} {a:α} (hk:Facts.ok J Φ) (h:(Be Φ v want' run go skip both).sel J=some a) :
  (v.den J = .sc (.bool want')/\∃Φ0 Φ' r d,Facts.ok J Φ0/\Facts.ok J Φ'/\(run Φ0).sel J=some (r,d)/\(go Φ' r d).sel J=some a) \/
  (((∃b,v.den J = .sc (.bool b)/\b≠want')\/∃x,v.den J = .sc (.tuple x))/\∃Φ',Facts.ok J Φ'/\(skip Φ').sel J=some a) \/
  (∃Φ' y,Facts.ok J Φ'/\(both Φ' y).sel J=some a/\((v.den J = .sc (.bool want')/\∃Φ0 r,Facts.ok J Φ0/\(run Φ0).sel J=some (r,[])/\y.den J=r.den J)\/(((∃b,v.den J = .sc (.bool b)/\b≠want')\/∃x,v.den J = .sc (.tuple x))/\y.den J = .sc undef))):=by
 unfold Be at h
 split at h
 ·rename_i e hw
  obtain⟨yes,no⟩:=VH (J:=J) hw
  have hr:=bu hk e
  rw[<-hr]at yes no
  split at h
  ·rename_i hd
   rw[hd]at yes
   obtain⟨Φ',p,hk',h1,h2⟩:=T.sel_bind _ hk h
   exact .inl ⟨yes rfl,Φ,Φ',p.1,p.2,hk,hk',h1,h2⟩
  ·rename_i hd
   rw[hd]at no
   exact .inr (.inl ⟨no rfl,Φ,hk,h⟩)
  ·rename_i d hd1 hd2
   split at h
   ·rename_i p r hq
    obtain⟨Φ',hk',h1,h2⟩:=aS hk h
    rw[jD,bz]at h1
    refine .inr (.inr ⟨Φ',_,hk',h2,?_⟩)
    by_cases hdt:(red Φ e).den J=true
    ·rw[hdt]at h1
     refine .inl ⟨yes hdt,_,r,dC _ true Φ hdt hk,yZ hq (by simpa using h1),?_⟩
     simp only[X.den,hdt,if_true]
    ·have hdf:(red Φ e).den J=false:=Bool.eq_false_iff.2 hdt
     refine .inr ⟨no hdf,?_⟩
     simp only[X.den,hdf];rfl
   ·simp only[T.sel]at h
    by_cases hdt:(red Φ e).den J=true
    ·rw[if_pos hdt]at h
     have hk1:=dC _ true Φ hdt hk
     obtain⟨Φ',p,hk',h1,h2⟩:=T.sel_bind _ hk1 h
     exact .inl ⟨yes hdt,_,Φ',p.1,p.2,hk1,hk',h1,h2⟩
    ·rw[if_neg hdt]at h
     have hdf:(red Φ e).den J=false:=Bool.eq_false_iff.2 hdt
     exact .inr (.inl ⟨no hdf,_,dC _ false Φ hdf hk,h⟩)
 ·cases h
def Yz (ti:Nat->Option TI) (call:bI) (ms:List Nat) (ops:List Oper):List Oper->Facts->XS->T XS
 | [],_,σ => .ret σ
 | o::l,Φ,σ =>
  let run:Facts->T (X×dR):=fun Φ=>lab o.pos (doX ti call σ.nx (o.dst.any ms.contains) (bJ σ.t) σ.h Φ o.op)
  let go:Facts->X->dR->T XS:=fun Φ r d=>Yz ti call ms ops l Φ ⟨tH o.dst r σ.t,tZ d σ.h,σ.nx+1⟩
  match o.guard with
  | none=>(run Φ).bind Φ fun Φ p=>go Φ p.1 p.2
  | some (j,want)=>Be Φ (yvX ops (bJ σ.t) j) want run go (fun Φ=>Yz ti call ms ops l Φ ⟨tH o.dst (.k undef) σ.t,σ.h,σ.nx⟩) (fun Φ y=>Yz ti call ms ops l Φ ⟨tH o.dst y σ.t,σ.h,σ.nx+1⟩)
theorem Rel.nx {E:Aw.Env} {t:Tp} {h:Hp} {n n':Nat} {a:Act} {w:World} (hn:n<=n') (hr:Rel E ⟨t,h,n⟩ a w):Rel E ⟨t,h,n'⟩ a w:=by
 obtain⟨C,rfl,hC⟩:=hr
 exact⟨C,rfl,hC.heap,hC.t,hC.size,hC.defers,fun m hm=>Nat.lt_of_lt_of_le (hC.kn m hm) hn,hC.frame⟩
theorem Bg {P:Program} {J:Rho} {E:Env} {ti:Nat->Option TI} (hti:TIs.ok P ti) {call:bI} (hcall:dJ P J call) {ms:List Nat} {ops:List Oper} {Q:Exit->Act->World->Prop} {σ':XS} (hQ:∀a w,Rel E (σ'.den J) a w->Q .normal a w) :
  ∀(l:List Oper) (Φ:Facts) (σ:XS) (a:Act) (w:World),Facts.ok J Φ->fits E.N l=true->(Yz ti call ms ops l Φ σ).sel J=some σ'->Rel E (σ.den J) a w->wpList P ops.toArray Q l a w
 | [],Φ,σ,a,w,_,_,h,hr=>by
  cases h;exact hQ a w hr
 | o::l,Φ,σ,a,w,hk,hfit,h,hr=>by
  obtain⟨hd,hfit'⟩:=IY hfit
  obtain⟨C,rfl,hC⟩:=hr
  have hg:∀i,(bJ σ.t i).den J=dX (og J σ.t) i:=fun i=>(dW J i σ.t).symm
  have stepped:∀Φ0 Φ r d,Facts.ok J Φ0->Facts.ok J Φ->(lab o.pos (doX ti call σ.nx (o.dst.any ms.contains) (bJ σ.t) σ.h Φ0 o.op)).sel J=some (r,d)->∀y:X,y.den J=r.den J ->
    (Yz ti call ms ops l Φ ⟨tH o.dst y σ.t,tZ d σ.h,σ.nx+1⟩).sel J=some σ'->Region.wanted o (yielded ops.toArray a.tmps)=true->wpList P ops.toArray Q (o::l) a C.w:=by
   intro Φ0 Φ r d hk0 hk h1 y hyr h2 hw
   rw[JR]at h1
   have hy:=mD hti hcall hg hk0 h1
   unfold wpList
   rw[if_pos hw]
   refine .inl (hy C a o _ _ rfl hC.heap hC.t (fun k hkn=>absurd (hC.kn _ hkn) (by simp[XS.den])) fun u C' hp => ?_)
   refine Bg hti hcall hQ l Φ _ _ _ hk hfit' h2 ⟨C',rfl,?_⟩
   have:=hC.step hp hd
   simp only[XS.den,zQ,kC,hyr]at this ⊢
   exact this
  have skipped:∀Φ (y:X) n,σ.nx<=n->Facts.ok J Φ->y.den J = .sc undef->(Yz ti call ms ops l Φ ⟨tH o.dst y σ.t,σ.h,n⟩).sel J=some σ'->Region.wanted o (yielded ops.toArray a.tmps)=false->wpList P ops.toArray Q (o::l) a C.w:=by
   intro Φ y n hn hk hy hs hw
   unfold wpList
   rw[if_neg (by rw[hw];simp)]
   refine Bg hti hcall hQ l Φ _ _ _ hk hfit' hs ?_
   have:=hC.skip (dst:=o.dst) hd
   simp only[XS.den,zQ,hy]at this ⊢
   exact Rel.nx hn ⟨C,rfl,this⟩
  unfold Yz at h
  cases hgd:o.guard with
  | none =>
   rw[hgd]at h
   obtain⟨Φ',p,hk',h1,h2⟩:=T.sel_bind _ hk h
   exact stepped Φ Φ' p.1 p.2 hk hk' h1 p.1 rfl h2 (by simp[Region.wanted,hgd])
  | some jw =>
   obtain⟨j,want⟩:=jw
   rw[hgd]at h
   obtain⟨y1,y2⟩:=rC hC.t ops j
   have hyv:=JC (J:=J) (ops:=ops) hg j
   have wyes:(yvX ops (bJ σ.t) j).den J = .sc (.bool want)->Region.wanted o (yielded ops.toArray a.tmps)=true:=fun hh=>by
    rw[hyv]at hh;simp[Region.wanted,hgd,y1 _ hh]
   have wno:((∃b,(yvX ops (bJ σ.t) j).den J = .sc (.bool b)/\b≠want)\/∃x,(yvX ops (bJ σ.t) j).den J = .sc (.tuple x))->Region.wanted o (yielded ops.toArray a.tmps)=false:=fun hh=>by
    rw[hyv]at hh
    rcases hh with⟨b,h1,hb⟩ | ⟨x,h1⟩
    ·simp[Region.wanted,hgd,y1 _ h1,hb]
    ·simp[Region.wanted,hgd,y2 _ h1]
   rcases Eo hk h with⟨hv,Φ0,Φ',r,d,hk0,hk',h1,h2⟩ | ⟨hv,Φ',hk',h2⟩ | ⟨Φ',y,hk',h2,hq⟩
   ·exact stepped Φ0 Φ' r d hk0 hk' h1 r rfl h2 (wyes hv)
   ·exact skipped Φ' (.k undef) σ.nx (Nat.le_refl _) hk' rfl h2 (wno hv)
   ·rcases hq with⟨hv,Φ0,r,hk0,h1,hyr⟩ | ⟨hv,hyu⟩
    ·exact stepped Φ0 Φ' r [] hk0 hk' h1 y hyr h2 (wyes hv)
    ·exact skipped Φ' y (σ.nx+1) (Nat.le_succ _) hk' hyu h2 (wno hv)
structure XEn where
 dst:Option Tmp
 r:X
 d:dR
 ms:Nat
noncomputable def XEn.den (J:Rho) (e:XEn):En:=⟨e.dst,e.r.den J,bZ J e.d,e.ms⟩
noncomputable def bn (J:Rho) (es:List XEn):List En:=es.map (XEn.den J)
def I8 (d:Option Tmp) (x:Nat):Bool:=match d with | some d=>Nat.beq d x | none=>false
theorem Bl {d:Option Tmp} {x:Nat}:I8 d x=true<->d=some x:=by
 cases d with
 | none=>simp[I8]
 | some d=>simp[I8]
def tC (A:Nat->Bool) (base:Nat->X):List XEn->Nat->X
 | [],x=>base x
 | e::es,x=>if I8 e.dst x=true then(if A es.length=true then e.r else .top)else tC A base es x
def RX (ops:List Oper) (t0:ig) (x:Nat):X:=if ops.any (fun o=>I8 o.dst x)=true then .top else bJ t0 x
theorem RV (J:Rho) (ops:List Oper) (t0:ig) (x:Nat):(RX ops t0 x).den J=dX (mO ops (og J t0)) x:=by
 rw[lU]
 unfold RX
 have e:(ops.any fun o=>I8 o.dst x)=(ops.any fun o=>o.dst==some x):=by
  congr 1;funext o;rw[Bool.eq_iff_iff,Bl];simp
 rw[e]
 split
 ·rfl
 ·exact(dW J x t0).symm
theorem lT {J:Rho} {A:Nat->Bool} {base:Nat->X} {t:Tp} (hb:∀x,(base x).den J=dX t x):∀(es:List XEn) (x:Nat),(tC A base es x).den J=dX (bP A (bn J es) t) x
 | [],x=>hb x
 | e::es,x=>by
  have ih:=lT (A:=A) hb es x
  have hl:(bn J es).length=es.length:=by simp[bn]
  simp only[bn,List.map_cons,bP,qJ,tC]at ih hl ⊢
  by_cases hd:e.dst=some x
  ·rw[if_pos (Bl.2 hd),if_pos (show(XEn.den J e).dst=some x from hd),hl]
   split<;>rfl
  ·rw[if_neg (fun h=>hd (Bl.1 h)),if_neg (show ¬(XEn.den J e).dst=some x from hd)]
   exact ih
def nI (A:Nat->Bool):List XEn->bg->bg
 | [],h=>h
 | e::es,h=>match e.d with
  | []=>nI A es h
  | d=>if A es.length=true then tZ d (nI A es h)else nI A es h
theorem mg {J:Rho} {A:Nat->Bool} {h:bg}:∀es:List XEn,aV J (nI A es h)=aj A (bn J es) (aV J h)
 | []=>rfl
 | e::es=>by
  have ih:=mg (J:=J) (A:=A) (h:=h) es
  have hl:(bn J es).length=es.length:=by simp[bn]
  simp only[bn,List.map_cons,aj,nI]at ih hl ⊢
  rw[hl]
  split
  ·rename_i hd
   have:(XEn.den J e).d=[]:=by simp only[XEn.den,hd,bZ,List.map_nil]
   rw[this]
   simp only[hap,ite_self]
   exact ih
  ·split
   ·rw[kC,ih];rfl
   ·exact ih
def Lj:List XEn->Nat->Nat
 | [],_=>0
 | e::es,j=>if Nat.beq j es.length=true then e.ms else Lj es j
def dZ (es:List XEn):List Edge->Nat
 | []=>0
 | e::l=>if Region.binds .any e=true then(2 ^ e.on ||| Lj es e.on) ||| dZ es l else dZ es l
theorem FV (J:Rho) (j:Nat):∀es:List XEn,FW (bn J es) j=Lj es j
 | []=>rfl
 | e::es=>by
  have ih:=FV J j es
  have hl:(bn J es).length=es.length:=by simp[bn]
  unfold FW at ih ⊢
  simp only[bn,List.map_cons,iC,Lj]at ih hl ⊢
  rw[hl]
  by_cases hj:j=es.length
  ·rw[if_pos hj,if_pos (by simpa using hj)];rfl
  ·rw[if_neg hj,if_neg (by simpa using hj)];exact ih
theorem ww (J:Rho) (es:List XEn):∀l:List Edge,zl (bn J es) l=dZ es l
 | []=>rfl
 | e::l=>by simp only[zl,dZ,FV,ww J es l]
def xR (n:Nat):dR->Bool
 | []=>true
 | (m,some _)::d=>Nat.beq m.1 n&&xR n d
 | (_,none)::_=>false
theorem xQ (J:Rho) (n:Nat):∀d:dR,eF n (bZ J d)=xR n d
 | []=>rfl
 | (m,some _)::d=>by
  have ih:=xQ J n d
  simp only[bZ,List.map_cons,Option.map_some,eF,xR,ac9]at ih ⊢
  rw[ih]
 | (_,none)::_=>rfl
def UQ (ti:Nat->Option TI) (call:bI) (ms:List Nat) (ops:List Oper) (nx:Nat) (base:Nat->X) (h0:bg) (Φ:Facts) (all:List XEn) (mk:Nat):List XEn->Bool
 | []=>true
 | ek::es=>(Nat.testBit mk es.length||(match ops[es.length]?,ek.d with
   | some o,[]=>(match o.guard with | none=>true | some _=>false)&&(match quiet (doX ti call (nx+es.length) (o.dst.any ms.contains) (tC ((ek.ms ||| mk) ||| 2 ^ (all.length-1)).testBit base all) (nI ((ek.ms ||| mk) ||| 2 ^ (all.length-1)).testBit all h0) Φ o.op)with
    | some (.lit true,r)=>X.beq r ek.r
    | _=>false)
   | _,_=>false))&&UQ ti call ms ops nx base h0 Φ all mk es
def aa8 (n:Nat):dR->Bool
 | [(m,none),(q,some _)] => !Nat.beq m.1 n&&Nat.beq q.1 n
 | d=>d.all fun q=>q.2.isSome && !Nat.beq q.1.1 n
def KJ (ti:Nat->Option TI) (call:bI) (ms:List Nat) (ops:List Oper) (nx:Nat) (base:Nat->X) (h0:bg) (Φ:Facts) (e:XEn) (es:List XEn):Bool :=
 aa8 (nx+es.length) e.d&&UQ ti call ms ops nx base h0 Φ (e::es) e.ms es
theorem Ou {P:Program} {J:Rho} {ti:Nat->Option TI} (hti:TIs.ok P ti) {call:bI} (hcall:dJ P J call) {ms:List Nat} {ops:List Oper} {nx:Nat} {base:Nat->X} {t0:Tp} (hb:∀x,(base x).den J=dX t0 x) {h0:bg} {Φ:Facts} (hk:Facts.ok J Φ) {all:List XEn} {mk:Nat} :
  ∀(es:List XEn),UQ ti call ms ops nx base h0 Φ all mk es=true->∀k ek o,k<es.length->mk.testBit k=false->iC (bn J es) k=some ek->ops[k]? = some o ->
   ek.d=[]/\wR P ops (nx+k) o (bP ((ek.ms ||| mk) ||| 2 ^ (all.length-1)).testBit (bn J all) t0) (aj ((ek.ms ||| mk) ||| 2 ^ (all.length-1)).testBit (bn J all) (aV J h0)) ek.r []
 | [],_,k,_,_,hlt,_,_,_=>by simp at hlt
 | e::es,h,k,ek,o,hlt,hm,he,ho=>by
  unfold UQ at h
  rw[Bool.and_eq_true]at h
  obtain⟨h1,h2⟩:=h
  have hlen:(bn J es).length=es.length:=by simp[bn]
  by_cases hj:k=es.length
  ·subst hj
   simp only[bn,List.map_cons,iC]at he
   rw[if_pos (by simp)]at he
   cases he
   rw[hm,Bool.false_or]at h1
   split at h1
   case h_2=>cases h1
   rename_i o' ho' hd
   rw[ho]at ho';cases ho'
   rw[Bool.and_eq_true]at h1
   obtain⟨h3,h4⟩:=h1
   split at h3
   case h_2=>cases h3
   rename_i hg
   split at h4
   case h_2=>cases h4
   rename_i r hq
   refine⟨by simp only[XEn.den,hd,bZ,List.map_nil],.inl ⟨hg,?_⟩⟩
   have hy:=mD hti hcall (fun x=>lT hb all x) hk (yZ (J:=J) hq rfl)
   rw[mg,X.beq_eq _ _ h4]at hy
   exact hy
  ·have hlt':k<es.length:=by simp at hlt;omega
   simp only[bn,List.map_cons,iC]at he
   rw[if_neg (by simpa using hj)]at he
   exact Ou hti hcall hb hk es h2 k ek o hlt' hm he ho
theorem XD {P:Program} {J:Rho} {ti:Nat->Option TI} (hti:TIs.ok P ti) {call:bI} (hcall:dJ P J call) {ms:List Nat} {ops:List Oper} {nx:Nat} {base:Nat->X} {t0:Tp} (hb:∀x,(base x).den J=dX t0 x) {h0:bg} {Φ:Facts} (hk:Facts.ok J Φ) {e:XEn} {es:List XEn}
  (h:KJ ti call ms ops nx base h0 Φ e es=true):Later P ops nx t0 (aV J h0) (bn J es) (XEn.den J e):=by
 unfold KJ at h
 rw[Bool.and_eq_true]at h
 refine⟨?_,fun k ek o hlt hm he ho => ?_⟩
 ·have h1:=h.1
  have hl:(bn J es).length=es.length:=by simp[bn]
  unfold aa8 at h1
  split at h1
  ·rename_i m q cs hd
   simp only[Bool.and_eq_true,Bool.not_eq_true']at h1
   refine .inr ⟨m,q,_,by simp only[XEn.den,hd,bZ,List.map_cons,List.map_nil];rfl,fun h => ?_,by rw[hl];exact Nat.eq_of_beq_eq_true h1.2⟩
   rw[hl]at h
   rw[h]at h1
   simp at h1
  ·refine .inl fun p hp => ?_
   simp only[XEn.den,bZ]at hp
   obtain⟨q,hq,rfl⟩:=List.mem_map.1 hp
   have:=List.all_eq_true.1 h1 q hq
   simp only[Bool.and_eq_true,Bool.not_eq_true']at this
   refine⟨by rw[Option.isSome_map];exact this.1,fun h => ?_⟩
   rw[hl]at h
   have h2:=this.2
   simp only at h
   rw[h]at h2
   simp at h2
 ·have:=Ou hti hcall hb hk es h.2 k ek o (by simpa [bn]using hlt) hm he ho
  simpa [bn,show(XEn.den J e).ms=e.ms from rfl]using this
def gd (Φ:Facts) (x:X) (want:Bool):Bool:=match x with
 | .sc (.b e)=>(match red Φ e with
  | .lit b=>b==want
  | _=>false)
 | _=>false
theorem bZ0 {J:Rho} {Φ:Facts} (hk:Facts.ok J Φ) {x:X} {want:Bool} (h:gd Φ x want=true):x.den J = .sc (.bool want):=by
 unfold gd at h
 split at h
 ·rename_i e
  have hr:=bu hk e
  split at h
  ·rename_i b he
   rw[he]at hr
   simp only[X.den,Sc.den,<-hr,BE.den,beq_iff_eq]at h ⊢
   rw[h]
  ·cases h
 ·cases h
def gdO (Φ:Facts) (ops:List Oper) (o:Oper) (g:Nat->X):Bool:=match o.guard with
 | none=>true
 | some (j,want)=>gd Φ (yvX ops g j) want
def Lets (ops:List Oper) (o:Oper) (t:Tp):Prop:=o.guard=none\/∃j want,o.guard=some (j,want)/\yv ops t j = .sc (.bool want)
theorem aj3 {J:Rho} {Φ:Facts} (hk:Facts.ok J Φ) {ops:List Oper} {o:Oper} {g:Nat->X} {t:Tp} (hg:∀i,(g i).den J=dX t i) (h:gdO Φ ops o g=true):Lets ops o t:=by
 unfold gdO at h
 split at h
 ·rename_i hn;exact .inl hn
 ·rename_i j want hn
  refine .inr ⟨j,want,hn,?_⟩
  rw[<-JC hg j]
  exact bZ0 hk h
theorem Lets.yields {P:Program} {ops:List Oper} {n:Nat} {o:Oper} {t:Tp} {h:Hp} {r:AV} {d:Dl} (hl:Lets ops o t) (hy:Aw.Yields P n o.op t h r d):wR P ops n o t h r d:=by
 rcases hl with hl | ⟨j,want,h1,h2⟩
 ·exact .inl ⟨hl,hy⟩
 ·exact .inr (.inl ⟨j,want,want,h1,h2,rfl,hy⟩)
def Lm (ti:Nat->Option TI) (call:bI) (ms:List Nat) (ops:List Oper) (o:Oper) (n:Nat) (base:Nat->X) (h0:bg) (Φ:Facts) (all:List XEn) (bm mk:Nat) (r:X):List XEn->Bool
 | []=>true
 | ek::es=>(!(Nat.testBit bm es.length)||(Nat.testBit mk es.length||(gdO Φ ops o (tC ((mk ||| ek.ms) ||| 2 ^ es.length).testBit base all)&&(match quiet (doX ti call n (o.dst.any ms.contains) (tC ((mk ||| ek.ms) ||| 2 ^ es.length).testBit base all) (nI ((mk ||| ek.ms) ||| 2 ^ es.length).testBit all h0) Φ o.op)with
   | some (.lit true,r')=>X.beq r' r
   | _=>false))))&&Lm ti call ms ops o n base h0 Φ all bm mk r es
theorem I7 {P:Program} {J:Rho} {ti:Nat->Option TI} (hti:TIs.ok P ti) {call:bI} (hcall:dJ P J call) {ms:List Nat} {ops:List Oper} {o:Oper} {n:Nat} {base:Nat->X} {t0:Tp} (hb:∀x,(base x).den J=dX t0 x) {h0:bg} {Φ:Facts} (hk:Facts.ok J Φ) {all:List XEn} {bm mk:Nat} {r:X} :
  ∀(es:List XEn),Lm ti call ms ops o n base h0 Φ all bm mk r es=true->∀j ej,iC (bn J es) j=some ej->bm.testBit j=true->mk.testBit j=false ->
   wR P ops n o (bP ((mk ||| ej.ms) ||| 2 ^ j).testBit (bn J all) t0) (aj ((mk ||| ej.ms) ||| 2 ^ j).testBit (bn J all) (aV J h0)) (r.den J) []
 | [],_,_,_,he,_,_=>by simp[bn,iC]at he
 | e::es,h,j,ej,he,h1,h2=>by
  unfold Lm at h
  rw[Bool.and_eq_true]at h
  obtain⟨g1,g2⟩:=h
  simp only[bn,List.map_cons,iC]at he
  split at he
  ·rename_i hj
   rw[show(List.map (XEn.den J) es).length=es.length from by simp]at hj
   subst hj
   cases he
   rw[h1,h2,Bool.not_true,Bool.false_or,Bool.false_or,Bool.and_eq_true]at g1
   obtain⟨g5,g4⟩:=g1
   refine(aj3 hk (fun x=>lT hb all x) g5).yields ?_
   split at g4
   case h_2=>cases g4
   rename_i r' hq
   have hy:=mD hti hcall (fun x=>lT hb all x) hk (yZ (J:=J) hq rfl)
   rw[mg,X.beq_eq _ _ g4]at hy
   exact hy
  ·exact I7 hti hcall hb hk es g2 j ej he h1 h2
def Vj (ti:Nat->Option TI) (call:bI) (ms:List Nat) (ops:List Oper) (nx:Nat) (base:Nat->X) (h0:bg):List Oper->Facts->List XEn->Nat->T (List XEn)
 | [],_,es,_ => .ret es
 | o::l,Φ,es,bm =>
  let mk:=dZ es o.after.toList
  if(Nat.blt mk (2 ^ es.length)&&Nat.beq (bm &&& mk) bm)=true then
   let g:=tC mk.testBit base es
   let run:Facts->T (X×dR):=fun Φ=>lab o.pos (doX ti call (nx+es.length) (o.dst.any ms.contains) g (nI mk.testBit es h0) Φ o.op)
   let go:Facts->X->dR->T (List XEn):=fun Φ r d =>
    if xR (nx+es.length) d=true then Vj ti call ms ops nx base h0 l Φ (⟨o.dst,r,d,mk⟩::es) bm
    else if Nat.beq (mk+1) (2 ^ es.length)=true then Vj ti call ms ops nx base h0 l Φ (⟨o.dst,r,d,mk⟩::es) (bm ||| 2 ^ es.length)
    else if KJ ti call ms ops nx base h0 Φ ⟨o.dst, r, d, mk⟩ es = true then Vj ti call ms ops nx base h0 l Φ (⟨o.dst, r, d, mk⟩ :: es) (bm ||| 2 ^ es.length) else .fail ["write", o.pos]
   match o.guard with
   | none=>(run Φ).bind Φ fun Φ p=>go Φ p.1 p.2
   | some (j,want)=>Be Φ (yvX ops g j) want run go (fun Φ=>Vj ti call ms ops nx base h0 l Φ (⟨o.dst,.k undef,[],mk⟩::es) bm) (fun Φ y=>Vj ti call ms ops nx base h0 l Φ (⟨o.dst,y,[],mk⟩::es) bm)
  else if Nat.blt mk (2 ^ es.length)=true then
   if gdO Φ ops o (tC mk.testBit base es)=true then
    match quiet (doX ti call (nx+es.length) (o.dst.any ms.contains) (tC mk.testBit base es) (nI mk.testBit es h0) Φ o.op)with
    | some (.lit true, r) => if Lm ti call ms ops o (nx + es.length) base h0 Φ es bm mk r es = true then Vj ti call ms ops nx base h0 l Φ (⟨o.dst, r, [], mk⟩ :: es) bm else .fail ["order", o.pos]
    | _ => .fail ["order", o.pos]
   else .fail ["order", o.pos]
  else .fail ["order", o.pos]
theorem xY {P:Program} {J:Rho} {ti:Nat->Option TI} (hti:TIs.ok P ti) {call:bI} (hcall:dJ P J call) {ms:List Nat} {ops:List Oper} {nx:Nat} {base:Nat->X} {t0:Tp} (hb:∀x,(base x).den J=dX t0 x) {h0:bg} :
  ∀(l:List Oper) (Φ:Facts) (es:List XEn) (bm:Nat) (es':List XEn),Facts.ok J Φ->(∀j,l[j]? = ops[es.length+j]?)->Walked P ops nx t0 (aV J h0) (bn J es) ->
  (∀j e,iC (bn J es) j=some e->eF (nx+j) e.d=false->bm.testBit j=true)->(Vj ti call ms ops nx base h0 l Φ es bm).sel J=some es'->Walked P ops nx t0 (aV J h0) (bn J es')/\es'.length=es.length+l.length
 | [],Φ,es,bm,es',_,_,hw,_,h=>by cases h;exact⟨hw,by simp⟩
 | o::l,Φ,es,bm,es',hk,hl,hw,hbm,h=>by
  have hlen:(bn J es).length=es.length:=by simp[bn]
  have ho:ops[es.length]? = some o:=by have:=hl 0;simpa using this.symm
  have hl':∀j,l[j]? = ops[es.length+1+j]? := fun j=>by
   have:=hl (j+1)
   rw[List.getElem?_cons_succ]at this
   rw[this];congr 1;omega
  unfold Vj at h
  simp only at h
  split at h
  case isFalse =>
   split at h
   case isFalse=>cases h
   rename_i hc
   have hlt:dZ es o.after.toList<2 ^ es.length:=by simpa [Nat.blt_eq]using hc
   split at h
   case isFalse=>cases h
   rename_i hg
   split at h
   case h_2=>cases h
   rename_i r hq
   split at h
   case isFalse=>cases h
   rename_i hearly
   have hlets:=aj3 (J:=J) hk (fun x=>lT hb es x) hg
   have hy:=mD hti hcall (fun x=>lT hb es x) hk (yZ (J:=J) hq rfl)
   rw[mg]at hy
   have hs:Shown P ops nx t0 (aV J h0) (bn J es) (XEn.den J ⟨o.dst,r,[],dZ es o.after.toList⟩) o:=by
    refine⟨rfl,(ww J es _).symm,by rw[hlen];exact hlt,?_,.inl rfl,fun j e' he hf => ?_⟩
    ·rcases hlets with hg | ⟨j,want,hg,hv⟩
     ·exact .inl ⟨hg,by rw[hlen];exact hy⟩
     ·exact .inr (.inl ⟨j,want,want,hg,hv,rfl,by rw[hlen];exact hy⟩)
    ·cases hj:(dZ es o.after.toList).testBit j with
     | true=>exact .inl hj
     | false =>
      exact .inr ⟨rfl,by rw[hlen];exact I7 hti hcall hb hk es hearly j e' he (hbm j e' he hf) hj⟩
   have hw':Walked P ops nx t0 (aV J h0) (bn J (⟨o.dst,r,[],dZ es o.after.toList⟩::es)):=⟨hw,o,by rw[show(List.map (XEn.den J) es).length=es.length from by simp];exact ho,hs⟩
   obtain⟨h1,h2⟩:=xY hti hcall hb l Φ _ bm es' hk hl' hw' (fun j e he hf'=>by
    simp only[bn,List.map_cons,iC]at he
    split at he
    ·cases he;cases hf'
    ·exact hbm j e he hf') h
   exact⟨h1,by rw[h2];simp;omega⟩
  rename_i hc
  simp only[Bool.and_eq_true]at hc
  have hlt:dZ es o.after.toList<2 ^ es.length:=by simpa [Nat.blt_eq]using hc.1
  have hbq:=Nat.eq_of_beq_eq_true hc.2
  have wait:∀j e',iC (bn J es) j=some e'->eF (nx+j) e'.d=false->(dZ es o.after.toList).testBit j=true:=fun j e' he hf=>by
   have h1:=hbm j e' he hf
   rw[<-hbq,Nat.testBit_and,Bool.and_eq_true]at h1
   exact h1.2
  have hgv:∀x,(tC (dZ es o.after.toList).testBit base es x).den J=dX (bP (dZ es o.after.toList).testBit (bn J es) t0) x:=fun x=>lT hb es x
  have goOn:∀(r:X) (d:dR) (bm':Nat) (Φ:Facts),Facts.ok J Φ->Shown P ops nx t0 (aV J h0) (bn J es) (XEn.den J ⟨o.dst,r,d,dZ es o.after.toList⟩) o ->
    (∀j e,iC (bn J (⟨o.dst,r,d,dZ es o.after.toList⟩::es)) j=some e->eF (nx+j) e.d=false->bm'.testBit j=true) ->
    (Vj ti call ms ops nx base h0 l Φ (⟨o.dst,r,d,dZ es o.after.toList⟩::es) bm').sel J=some es'->Walked P ops nx t0 (aV J h0) (bn J es')/\es'.length=es.length+(o::l).length:=by
   intro r d bm' Φ hk hs hbm' hd
   have hw':Walked P ops nx t0 (aV J h0) (bn J (⟨o.dst,r,d,dZ es o.after.toList⟩::es)):=⟨hw,o,by rw[show(List.map (XEn.den J) es).length=es.length from by simp];exact ho,hs⟩
   obtain⟨h1,h2⟩:=xY hti hcall hb l Φ _ bm' es' hk hl' hw' hbm' hd
   exact⟨h1,by rw[h2];simp;omega⟩
  have fresh':∀(r:X) (d:dR),xR (nx+es.length) d=true->∀j e,iC (bn J (⟨o.dst,r,d,dZ es o.after.toList⟩::es)) j=some e->eF (nx+j) e.d=false->bm.testBit j=true:=by
   intro r d hf j e he hf'
   simp only[bn,List.map_cons,iC]at he
   split at he
   ·rename_i hj
    cases he
    rw[show(List.map (XEn.den J) es).length=es.length from by simp]at hj
    subst hj
    simp only[XEn.den]at hf'
    rw[xQ,hf]at hf';cases hf'
   ·exact hbm j e he hf'
  have skipped:∀Φ (y:X),Facts.ok J Φ->y.den J = .sc undef->∀(j:Nat) (want:Bool),o.guard=some (j,want)->((∃b,yv ops (bP (dZ es o.after.toList).testBit (bn J es) t0) j = .sc (.bool b)/\b≠want)\/∃x,yv ops (bP (dZ es o.after.toList).testBit (bn J es) t0) j = .sc (.tuple x)) ->
    (Vj ti call ms ops nx base h0 l Φ (⟨o.dst,y,[],dZ es o.after.toList⟩::es) bm).sel J=some es'->Walked P ops nx t0 (aV J h0) (bn J es')/\es'.length=es.length+(o::l).length:=by
   intro Φ y hk hy j want hg hno hd
   refine goOn y [] bm Φ hk ⟨rfl,(ww J es _).symm,by rw[hlen];exact hlt,.inr (.inr ⟨j,want,hg,hno,hy,rfl⟩),.inl rfl,fun j e' h1 h2 => .inl (wait j e' h1 h2)⟩ (fresh' _ _ rfl) hd
  have shown:∀Φ0 (r y:X) (d:dR),Facts.ok J Φ0->(o.guard=none\/∃j want,o.guard=some (j,want)/\yv ops (bP (dZ es o.after.toList).testBit (bn J es) t0) j = .sc (.bool want)) ->
    (lab o.pos (doX ti call (nx+es.length) (o.dst.any ms.contains) (tC (dZ es o.after.toList).testBit base es) (nI (dZ es o.after.toList).testBit es h0) Φ0 o.op)).sel J=some (r,d)->y.den J=r.den J ->
    (xR (nx+es.length) d=true\/dZ es o.after.toList+1=2 ^ es.length\/Later P ops nx t0 (aV J h0) (bn J es) (XEn.den J ⟨o.dst,y,d,dZ es o.after.toList⟩))->Shown P ops nx t0 (aV J h0) (bn J es) (XEn.den J ⟨o.dst,y,d,dZ es o.after.toList⟩) o:=by
   intro Φ0 r y d hk0 hgd h1 hyr hf
   rw[JR]at h1
   have hy:=mD hti hcall hgv hk0 h1
   rw[mg,<-hyr]at hy
   have hy':(o.guard=none/\Aw.Yields P (nx+(bn J es).length) o.op (bP (dZ es o.after.toList).testBit (bn J es) t0) (aj (dZ es o.after.toList).testBit (bn J es) (aV J h0)) (y.den J) (bZ J d)) \/
     (∃j want b,o.guard=some (j,want)/\yv ops (bP (dZ es o.after.toList).testBit (bn J es) t0) j = .sc (.bool b)/\b=want/\Aw.Yields P (nx+(bn J es).length) o.op (bP (dZ es o.after.toList).testBit (bn J es) t0) (aj (dZ es o.after.toList).testBit (bn J es) (aV J h0)) (y.den J) (bZ J d)):=by
    rw[hlen]
    rcases hgd with hg | ⟨j,want,hg,hv⟩
    ·exact .inl ⟨hg,hy⟩
    ·exact .inr ⟨j,want,want,hg,hv,rfl,hy⟩
   exact⟨rfl,(ww J es _).symm,by rw[hlen];exact hlt,by
     rcases hy' with h3 | h3
     ·exact .inl h3
     ·exact .inr (.inl h3),by rw[hlen];simpa only[XEn.den,xQ]using hf,fun j e' h1 h2 => .inl (wait j e' h1 h2)⟩
  have ran:∀Φ0 Φ (r:X) (d:dR),Facts.ok J Φ0->Facts.ok J Φ->(o.guard=none\/∃j want,o.guard=some (j,want)/\yv ops (bP (dZ es o.after.toList).testBit (bn J es) t0) j = .sc (.bool want)) ->
    (lab o.pos (doX ti call (nx+es.length) (o.dst.any ms.contains) (tC (dZ es o.after.toList).testBit base es) (nI (dZ es o.after.toList).testBit es h0) Φ0 o.op)).sel J=some (r,d) ->
    (if xR (nx+es.length) d=true then Vj ti call ms ops nx base h0 l Φ (⟨o.dst,r,d,dZ es o.after.toList⟩::es) bm
     else if Nat.beq (dZ es o.after.toList+1) (2 ^ es.length)=true then Vj ti call ms ops nx base h0 l Φ (⟨o.dst,r,d,dZ es o.after.toList⟩::es) (bm ||| 2 ^ es.length)
     else if KJ ti call ms ops nx base h0 Φ ⟨o.dst, r, d, dZ es o.after.toList⟩ es = true then Vj ti call ms ops nx base h0 l Φ (⟨o.dst, r, d, dZ es o.after.toList⟩ :: es) (bm ||| 2 ^ es.length) else .fail ["write", o.pos]).sel J = some es' ->
    Walked P ops nx t0 (aV J h0) (bn J es')/\es'.length=es.length+(o::l).length:=by
   intro Φ0 Φ r d hk0 hk hgd h1 h2
   split at h2
   ·rename_i hf
    exact goOn r d bm Φ hk (shown Φ0 r r d hk0 hgd h1 rfl (.inl hf)) (fresh' r d hf) h2
   ·have more:∀j e,iC (bn J (⟨o.dst,r,d,dZ es o.after.toList⟩::es)) j=some e->eF (nx+j) e.d=false->(bm ||| 2 ^ es.length).testBit j=true:=fun j e he hf'=>by
     rw[Nat.testBit_or]
     simp only[bn,List.map_cons,iC]at he
     split at he
     ·rename_i hj
      rw[show(List.map (XEn.den J) es).length=es.length from by simp]at hj
      subst hj;rw[Nat.testBit_two_pow_self,Bool.or_true]
     ·rw[hbm j e he hf'];rfl
    split at h2
    ·rename_i hf hm
     have hm:=Nat.eq_of_beq_eq_true hm
     exact goOn r d (bm ||| 2 ^ es.length) Φ hk (shown Φ0 r r d hk0 hgd h1 rfl (.inr (.inl hm))) more h2
    ·split at h2
     ·rename_i hf _ hm
      exact goOn r d (bm ||| 2 ^ es.length) Φ hk (shown Φ0 r r d hk0 hgd h1 rfl (.inr (.inr (XD hti hcall hb hk hm)))) more h2
     ·cases h2
  cases hg:o.guard with
  | none =>
   rw[hg]at h
   obtain⟨Φ',p,hk',h1,h2⟩:=T.sel_bind _ hk h
   exact ran Φ Φ' p.1 p.2 hk hk' (.inl hg) h1 h2
  | some jw =>
   obtain⟨j,want⟩:=jw
   rw[hg]at h
   have hyv:=JC (J:=J) (ops:=ops) hgv j
   rcases Eo hk h with⟨hv,Φ0,Φ',r,d,hk0,hk',h1,h2⟩ | ⟨hv,Φ',hk',h2⟩ | ⟨Φ',y,hk',h2,hq⟩
   ·rw[hyv]at hv
    exact ran Φ0 Φ' r d hk0 hk' (.inr ⟨j,want,hg,hv⟩) h1 h2
   ·rw[hyv]at hv
    exact skipped Φ' (.k undef) hk' rfl j want hg hv h2
   ·rcases hq with⟨hv,Φ0,r,hk0,h1,hyr⟩ | ⟨hv,hyu⟩
    ·rw[hyv]at hv
     exact goOn y [] bm Φ' hk' (shown Φ0 r y [] hk0 (.inr ⟨j,want,hg,hv⟩) h1 hyr (.inl rfl)) (fresh' y [] rfl) h2
    ·rw[hyv]at hv
     exact skipped Φ' y hk' hyu j want hg hv h2
def XV:List XEn->ig->ig
 | [],t=>t
 | e::es,t=>tH e.dst e.r (XV es t)
def Ja (ti:Nat->Option TI) (call:bI) (ms:List Nat) (ops:List Oper) (Φ:Facts) (σ:XS):T XS :=
 (Vj ti call ms ops σ.nx (RX ops σ.t) σ.h ops Φ [] 0).map fun es=>⟨XV es σ.t,nI (fun _=>true) es σ.h,σ.nx+ops.length⟩
def vN:List Oper->Option (List Oper×Oper)
 | []=>none
 | [o]=>some ([],o)
 | p::q::l=>match vN (q::l)with
  | some (i,o)=>some (p::i,o)
  | none=>none
theorem yQ:∀{l i:List Oper} {o:Oper},vN l=some (i,o)->l=i++[o]
 | [],_,_,h=>by cases h
 | [p],_,_,h=>by cases h;rfl
 | p::q::l,i,o,h=>by
  simp only[vN]at h
  split at h
  ·rename_i i' o' h1
   cases h
   rw[yQ h1];rfl
  ·cases h
def DU:Nat->List Oper->Bool
 | _,[]=>true
 | n,p::l=>p.after.toList.all (fun ed => !Region.binds .any ed||Nat.blt ed.on n)&&DU (n+1) l
theorem F7:∀{l:List Oper} {n:Nat},DU n l=true->∀i p,l[i]? = some p->∀ed∈p.after,Region.binds .any ed=true->ed.on<n+i
 | [],_,_,i,p,hp=>by simp at hp
 | q::l,n,h,i,p,hp=>by
  simp only[DU,Bool.and_eq_true]at h
  intro ed hed hb
  cases i with
  | zero =>
   simp at hp;subst hp
   have:=List.all_eq_true.1 h.1 ed (by simpa using hed)
   simpa [hb,Nat.blt_eq]using this
  | succ i =>
   have:=F7 h.2 i p (by simpa using hp) ed hed hb
   omega
def ai8 (n:Nat) (l:List Oper):Bool:=l.all fun p=>match p.guard with
 | some (j,_)=>Nat.blt j n
 | none=>true
def wI:Nat->List Edge->Bool
 | 0,_=>true
 | n+1,l=>l.any (fun ed=>Region.binds .any ed&&Nat.beq ed.on n)&&wI n l
theorem zS {l:List Edge}:∀{n:Nat},wI n l=true->∀j,j<n->∃ed∈l,Region.binds .any ed=true/\ed.on=j
 | 0,_,j,hj=>by omega
 | n+1,h,j,hj=>by
  simp only[wI,Bool.and_eq_true]at h
  by_cases hjn:j=n
  ·subst hjn
   obtain⟨ed,h1,h2⟩:=List.any_eq_true.1 h.1
   simp only[Bool.and_eq_true]at h2
   exact⟨ed,h1,h2.1,Nat.eq_of_beq_eq_true h2.2⟩
  ·exact zS h.2 j (by omega)
def waits (l:List Oper) (o:Oper):Bool :=
 (match o.guard with | none=>true | some _=>false)&&(o.after.toList.all (fun ed => !Region.binds .any ed||Nat.blt ed.on l.length)&&(wI l.length o.after.toList&&(ai8 l.length l&&(DU 0 l&&once l))))
theorem YR {l:List Oper} {o:Oper} (h:waits l o=true):LastOp l o/\once l=true:=by
 simp only[waits,Bool.and_eq_true]at h
 obtain⟨h1,h2,h3,h4,h5,h6⟩:=h
 refine⟨⟨fun j hj => ?_,fun ed hed hb => ?_,?_,fun p hp j want hg => ?_,fun i p hp ed hed hb => ?_⟩,h6⟩
 ·obtain⟨ed,g1,g2⟩:=zS h3 j hj
  exact⟨ed,by simpa using g1,g2⟩
 ·have:=List.all_eq_true.1 h2 ed (by simpa using hed)
  simpa [hb,Nat.blt_eq]using this
 ·cases hg:o.guard with
  | none=>rfl
  | some _=>rw[hg]at h1;cases h1
 ·have:=List.all_eq_true.1 h4 p hp
  rw[hg]at this
  simpa [Nat.blt_eq]using this
 ·have:=F7 h5 i p hp ed hed hb
  omega
def ag3 (ti:Nat->Option TI) (call:bI) (ms:List Nat) (o:Oper) (Φ:Facts) (σ:XS):T XS :=
 (lab o.pos (doX ti call σ.nx (o.dst.any ms.contains) (bJ σ.t) σ.h Φ o.op)).bind Φ fun _ p => .ret ⟨tH o.dst p.1 σ.t,tZ p.2 σ.h,σ.nx+1⟩
def Jb (ti:Nat->Option TI) (call:bI) (ms:List Nat) (ops:List Oper) (Φ:Facts) (σ:XS):T XS :=
 match vN ops with
 | some (i,o)=>if waits i o=true then(Ja ti call ms i Φ σ).bind Φ fun Φ s=>ag3 ti call ms o Φ s else Ja ti call ms ops Φ σ
 | none=>Ja ti call ms ops Φ σ
end Go.Proofs.Xw
namespace Go.Proofs.Xw
open Go Go.Proofs.Aw
def LeC (a b:List AV):Prop:=a.length=b.length/\∀(j:Nat) (x:AV),a[j]? = some x->∃y,b[j]? = some y/\LeA x y
theorem LeA.trans {a b c:AV} (h:LeA a b) (k:LeA b c):LeA a c:=fun C u hu=>h C u (k C u hu)
theorem LeC.refl (a:List AV):LeC a a:=⟨rfl,fun _ x hx=>⟨x,hx,LeA.refl x⟩⟩
theorem LeC.trans {a b c:List AV} (h:LeC a b) (k:LeC b c):LeC a c:=⟨h.1.trans k.1,fun j x hx=>by
 obtain⟨y,hy,h1⟩:=h.2 j x hx
 obtain⟨z,hz,h2⟩:=k.2 j y hy
 exact⟨z,hz,h1.trans h2⟩⟩
structure LeS (σ' σ:St):Prop where
 t:∀i,LeA (dX σ'.t i) (dX σ.t i)
 h:∀m cs',hget σ'.h m=some cs'->∃cs,hget σ.h m=some cs/\LeC cs' cs
 nx:σ.nx<=σ'.nx
theorem LeS.refl (σ:St):LeS σ σ:=⟨fun _=>LeA.refl _,fun _ cs h=>⟨cs,h,LeC.refl cs⟩,Nat.le_refl _⟩
theorem LeS.trans {a b c:St} (h:LeS a b) (k:LeS b c):LeS a c:=⟨fun i=>(h.t i).trans (k.t i),fun m cs hcs=>by
 obtain⟨ds,hd,h1⟩:=h.h m cs hcs
 obtain⟨es,he,h2⟩:=k.h m ds hd
 exact⟨es,he,h1.trans h2⟩,Nat.le_trans k.nx h.nx⟩
theorem BG {E:Env} {σ σ':St} (hl:LeS σ' σ):wZ E σ σ':=by
 rintro a w ⟨C,rfl,hC⟩
 have hlive:∀m,(hget σ'.h m).isSome=true->C.live m:=fun m hm=>by
  obtain⟨cs,hcs⟩:=Option.isSome_iff_exists.1 hm
  obtain⟨ds,hd,_⟩:=hl.h m cs hcs
  exact hC.heap.get hd
 let C':Ctx:={ C with live:=fun m=>(hget σ'.h m).isSome=true }
 have le:C.le C':=⟨Nat.le_refl _,fun _ _ _=>rfl,fun _ _ h=>h,fun _ h=>h,fun m _ hm=>⟨hlive m hm,rfl,rfl⟩,fun _ _ _ cs ty h=>⟨cs,ty,h,rfl⟩⟩
 refine⟨C',rfl,⟨⟨fun _=>Iff.rfl,fun m cs hg => ?_,fun m m' hm hm' he=>hC.heap.inj m m' (hlive m hm) (hlive m' hm') he,fun m hm=>hC.heap.mt _ (hlive m hm),fun m hm=>hC.heap.kn m (hlive m hm)⟩,fun i => ?_,hC.size,hC.defers,fun m hm=>Nat.lt_of_lt_of_le (hC.kn m hm) hl.nx,⟨hC.frame.os,hC.frame.tape,hC.frame.output,hC.frame.size,hC.frame.same,hC.frame.mt,fun m hm hb=>hC.frame.wr _ (hlive m hm) hb,hC.frame.le.trans le⟩⟩⟩
 ·obtain⟨ds,hd,_,hle⟩:=hl.h m cs hg
  obtain⟨arr,ty,ha,hc⟩:=hC.heap.obj m ds hd
  refine⟨arr,ty,ha,fun j c hj => ?_⟩
  obtain⟨y,hy,hyl⟩:=hle j c hj
  obtain⟨u,hu,hcu⟩:=hc j y hy
  exact⟨u,hu,Conc.mono le _ _ (hyl C u hcu)⟩
 ·exact Conc.mono le _ _ (hl.t i C _ (hC.t i))
def ER (c:BE) (x y:X):X:=match X.mix c x y with
 | some z=>z
 | none => .top
theorem IB (J:Rho) (c:BE) (x y:X):LeA ((ER c x y).den J) (if c.den J=true then x.den J else y.den J):=by
 unfold ER
 split
 ·rename_i z hz;exact LeA.of_eq (X.mix_den _ _ _ hz)
 ·exact LeA.top _
def Oh (c:BE) (t1 t2:ig):List Nat->List Nat->ig->ig
 | [],_,b=>b
 | k::ks,seen,b=>if seen.any (Nat.beq k)=true then Oh c t1 t2 ks seen b else(k,ER c (bJ t1 k) (bJ t2 k))::Oh c t1 t2 ks (k::seen) b
theorem Vu {k:Nat} {l:List Nat}:l.any (Nat.beq k)=true<->k∈l:=by
 rw[List.any_eq_true]
 constructor
 ·rintro⟨x,hx,h⟩;rw[Nat.eq_of_beq_eq_true h];exact hx
 ·intro h;exact⟨k,h,Nat.beq_refl k⟩
theorem Ag (c:BE) (t1 t2 b:ig) (i:Nat):∀(ks seen:List Nat),bJ (Oh c t1 t2 ks seen b) i=if i∈ks/\i∉seen then ER c (bJ t1 i) (bJ t2 i)else bJ b i
 | [],seen=>by simp[Oh]
 | k::ks,seen=>by
  simp only[Oh,Vu]
  by_cases hk:k∈seen
  ·rw[if_pos hk,Ag c t1 t2 b i ks seen]
   by_cases hi:i=k
   ·subst hi;simp[hk]
   ·simp[hi]
  ·rw[if_neg hk]
   simp only[bJ]
   by_cases hi:k=i
   ·subst hi;simp[hk]
   ·rw[if_neg (by simpa using hi),Ag c t1 t2 b i ks (k::seen)]
    simp[Ne.symm hi]
def keysT (n:Nat) (t:ig):List Nat:=(t.take n).map (·.1)
def bc6 (c:BE) (b t1 t2:ig):ig:=Oh c t1 t2 (keysT (t1.length-b.length) t1++keysT (t2.length-b.length) t2) [] b
def Ext (b t:ig):Prop:=∃u,t=u++b
theorem Ext.refl (b:ig):Ext b b:=⟨[],rfl⟩
theorem Ext.trans {a b c:ig} (h:Ext a b) (k:Ext b c):Ext a c:=by
 obtain⟨u,rfl⟩:=h
 obtain⟨v,rfl⟩:=k
 exact⟨v++u,by simp⟩
theorem Ef {b u:ig} {i:Nat} (h:i∉keysT ((u++b).length-b.length) (u++b)):bJ (u++b) i=bJ b i:=by
 have e:keysT ((u++b).length-b.length) (u++b)=u.map (·.1):=by
  unfold keysT
  rw[List.length_append,Nat.add_sub_cancel,List.take_left]
 rw[e]at h
 clear e
 induction u with
 | nil=>rfl
 | cons p u ih =>
  obtain⟨j,v⟩:=p
  simp only[List.map_cons,List.mem_cons,not_or]at h
  simp only[List.cons_append,bJ]
  rw[if_neg (by simpa using Ne.symm h.1),ih h.2]
theorem aF2 {J:Rho} {c:BE} {b t1 t2:ig} (h1:Ext b t1) (h2:Ext b t2) (i:Nat):LeA ((bJ (bc6 c b t1 t2) i).den J) (if c.den J=true then(bJ t1 i).den J else(bJ t2 i).den J):=by
 unfold bc6
 rw[Ag]
 split
 ·exact IB J c _ _
 ·rename_i hn
  simp only[List.mem_append,List.not_mem_nil,not_false_eq_true,and_true,not_or]at hn
  obtain⟨u1,rfl⟩:=h1
  obtain⟨u2,rfl⟩:=h2
  rw[Ef hn.1,Ef hn.2]
  split<;>exact LeA.refl _
theorem ES (c:BE) (t1 t2 b:ig):∀ks seen,Ext b (Oh c t1 t2 ks seen b)
 | [],_=>Ext.refl b
 | k::ks,seen=>by
  simp only[Oh]
  split
  ·exact ES c t1 t2 b ks seen
  ·obtain⟨u,hu⟩:=ES c t1 t2 b ks (k::seen)
   exact⟨_::u,by rw[hu];rfl⟩
def Xt (c:BE):List X->List X->List X
 | a::az,b::bs=>ER c a b::Xt c az bs
 | _,_=>[]
theorem UG {J:Rho} {c:BE}:∀{a b:List X},a.length=b.length->LeC (X.denL J (Xt c a b)) (if c.den J=true then X.denL J a else X.denL J b)
 | [],[],_=>by simp only[Xt,X.denL,ite_self];exact LeC.refl _
 | a::az,b::bs,h=>by
  obtain⟨h1,h2⟩:=UG (J:=J) (c:=c) (a:=az) (b:=bs) (by simpa using h)
  have hm:=IB J c a b
  simp only[Xt,X.denL]
  by_cases hc:c.den J=true
  ·rw[if_pos hc]at h1 h2 hm ⊢
   refine⟨by simp[h1],fun j x hx => ?_⟩
   cases j with
   | zero=>simp at hx ⊢;subst hx;exact hm
   | succ j=>simpa using h2 j x (by simpa using hx)
  ·rw[if_neg hc]at h1 h2 hm ⊢
   refine⟨by simp[h1],fun j x hx => ?_⟩
   cases j with
   | zero=>simp at hx ⊢;subst hx;exact hm
   | succ j=>simpa using h2 j x (by simpa using hx)
 | [],_::_,h=>by simp at h
 | _::_,[],h=>by simp at h
def bc7 (c:BE) (a b:List X):Option (List X):=if(!aZ a&&(!aZ b&&(Nat.beq a.length b.length && !aZ (Xt c a b))))=true then some (Xt c a b)else none
def aF6 (c:BE) (a b:List X):Option (List X) :=
 match a,b with
 | [.rows z n l],[.rows z' n' l']=>if Nat.beq z z'=true then some [.rows z (lu c n n') (Xo c l l')]else none
 | [.tk z n t es],b=>if X.beqL [.tk z n t es] b=true then some b else none
 | a,b=>bc7 c a b
theorem aF4 {J:Rho} {c:BE} {a b r:List X} (h:bc7 c a b=some r):LeC (aF J r) (if c.den J=true then aF J a else aF J b):=by
 unfold bc7 at h
 split at h
 ·rename_i hc
  simp only[Bool.and_eq_true,Bool.not_eq_true']at hc
  obtain⟨h1,h2,h3,h4⟩:=hc
  cases h
  rw[bC h1,bC h2,bC h4]
  exact UG (Nat.eq_of_beq_eq_true h3)
 ·cases h
theorem aF5 {J:Rho} {c:BE} {a b r:List X} (h:aF6 c a b=some r):LeC (aF J r) (if c.den J=true then aF J a else aF J b):=by
 unfold aF6 at h
 split at h
 ·split at h
  ·rename_i z n l z' n' l' hz
   have hz:=Nat.eq_of_beq_eq_true hz
   subst hz
   cases h
   simp only[aF]
   have:aC J (lu c n n') (Xo c l l')=if c.den J=true then aC J n l else aC J n' l':=by
    unfold aC
    rw[jF]
    simp only[Oe]
    split<;>rfl
   rw[this]
   split<;>exact LeC.refl _
  ·cases h
 ·split at h
  ·rename_i hb
   cases h
   rw[X.beqL_eq _ _ hb]
   split<;>exact LeC.refl _
  ·cases h
 ·exact aF4 h
def Xr (c:BE) (h1 h2:bg):List Nm->bg
 | []=>[]
 | m::ms=>match aT h1 m,aT h2 m with
  | some a,some b=>match aF6 c a b with
   | some r=>(m,r)::Xr c h1 h2 ms
   | none=>Xr c h1 h2 ms
  | _,_=>Xr c h1 h2 ms
theorem zk {c:BE} {h1 h2:bg} {m:Nm} {cs:List X}:∀{ms:List Nm},aT (Xr c h1 h2 ms) m=some cs->∃a b,aT h1 m=some a/\aT h2 m=some b/\aF6 c a b=some cs
 | [],h=>by cases h
 | k::ms,h=>by
  simp only[Xr]at h
  split at h
  ·rename_i a b ha hb
   split at h
   ·rename_i r hl
    simp only[aT]at h
    split at h
    ·rename_i hk
     cases h
     have:=bT hk
     subst this
     exact⟨a,b,ha,hb,hl⟩
    ·exact zk h
   ·exact zk h
  ·exact zk h
def QK (c:BE) (b:ig) (s1 s2:XS):XS:=⟨bc6 c b s1.t s2.t,Xr c s1.h s2.h (s1.h.map (·.1)),Nat.max s1.nx s2.nx⟩
theorem aF3 {J:Rho} {c:BE} {b:ig} {s1 s2:XS} (h1:Ext b s1.t) (h2:Ext b s2.t):LeS ((QK c b s1 s2).den J) (if c.den J=true then s1.den J else s2.den J):=by
 refine⟨fun i => ?_,fun m cs hcs => ?_,?_⟩
 ·have:=aF2 (J:=J) (c:=c) h1 h2 i
  by_cases hc:c.den J=true
  ·rw[if_pos hc]at this ⊢;simp only[XS.den,QK,dW];exact this
  ·rw[if_neg hc]at this ⊢;simp only[XS.den,QK,dW];exact this
 ·simp only[XS.den,QK,aG]at hcs
  obtain⟨ds,hd,rfl⟩:=Option.map_eq_some_iff.1 hcs
  obtain⟨a,b',ha,hb,hl⟩:=zk hd
  have:=aF5 (J:=J) (c:=c) hl
  by_cases hc:c.den J=true
  ·rw[if_pos hc]at this ⊢
   exact⟨_,by simp only[XS.den,aG,ha,Option.map_some],this⟩
  ·rw[if_neg hc]at this ⊢
   exact⟨_,by simp only[XS.den,aG,hb,Option.map_some],this⟩
 ·simp only[QK,XS.den]
  split
  ·exact Nat.le_max_left _ _
  ·exact Nat.le_max_right _ _
def sqK (t:ig):List Nat->List Nat->ig->ig
 | [],_,b=>b
 | k::ks,seen,b=>if seen.any (Nat.beq k)=true then sqK t ks seen b else(k,bJ t k)::sqK t ks (k::seen) b
theorem ul (t b:ig) (i:Nat):∀(ks seen:List Nat),bJ (sqK t ks seen b) i=if i∈ks/\i∉seen then bJ t i else bJ b i
 | [],seen=>by simp[sqK]
 | k::ks,seen=>by
  simp only[sqK,Vu]
  by_cases hk:k∈seen
  ·rw[if_pos hk,ul t b i ks seen]
   by_cases hi:i=k
   ·subst hi;simp[hk]
   ·simp[hi]
  ·rw[if_neg hk]
   simp only[bJ]
   by_cases hi:k=i
   ·subst hi;simp[hk]
   ·rw[if_neg (by simpa using hi),ul t b i ks (k::seen)]
    simp[Ne.symm hi]
theorem pR (t b:ig):∀ks seen,Ext b (sqK t ks seen b)
 | [],_=>Ext.refl b
 | k::ks,seen=>by
  simp only[sqK]
  split
  ·exact pR t b ks seen
  ·obtain⟨u,hu⟩:=pR t b ks (k::seen)
   exact⟨_::u,by rw[hu];rfl⟩
def squeeze (b:ig) (s:XS):XS:=⟨sqK s.t (keysT (s.t.length-b.length) s.t) [] b,s.h,s.nx⟩
theorem Qi {J:Rho} {b:ig} {s:XS} (h:Ext b s.t):LeS ((squeeze b s).den J) (s.den J):=by
 refine⟨fun i => ?_,fun m cs hcs=>⟨cs,hcs,LeC.refl cs⟩,Nat.le_refl _⟩
 simp only[XS.den,squeeze,dW,ul]
 split
 ·exact LeA.refl _
 ·rename_i hn
  simp only[List.not_mem_nil,not_false_eq_true,and_true]at hn
  obtain⟨u,hu⟩:=h
  rw[hu]at hn ⊢
  rw[Ef hn]
  exact LeA.refl _
inductive XE where
 | normal
 | exit (id:Nat)
 | ret
def XE.to:XE->Exit
 | .normal => .normal
 | .exit id => .exit id
 | .ret => .ret
def XE.beq:XE->XE->Bool
 | .normal,.normal=>true
 | .exit a,.exit b=>Nat.beq a b
 | .ret,.ret=>true
 | _,_=>false
theorem XE.beq_eq {a b:XE} (h:a.beq b=true):a=b:=by
 cases a<;>cases b<;>simp[XE.beq]at h ⊢;exact h
def T.All {α:Type} (p:α->Prop):T α->Prop
 | .ret a=>p a
 | .br _ x y=>x.All p/\y.All p
 | .need _ x=>x.All p
 | .fail _=>True
theorem T.All_true {α:Type}:∀t:T α,t.All fun _=>True
 | .ret _=>trivial
 | .br _ x y=>⟨T.All_true x,T.All_true y⟩
 | .need _ x=>T.All_true x
 | .fail _=>trivial
theorem T.All_mono {α:Type} {p q:α->Prop} (h:∀a,p a->q a):∀{t:T α},t.All p->t.All q
 | .ret a,ht=>h a ht
 | .br _ _ _,ht=>⟨T.All_mono h ht.1,T.All_mono h ht.2⟩
 | .need _ x,ht=>T.All_mono (t:=x) h ht
 | .fail _,_=>trivial
theorem T.All_bind {α β:Type} {p:α->Prop} {q:β->Prop} {f:Facts->α->T β} (hf:∀Φ a,p a->(f Φ a).All q):∀{t:T α} {Φ:Facts},t.All p->(t.bind Φ f).All q
 | .ret a,Φ,h=>hf Φ a h
 | .br _ _ _,_,h=>⟨T.All_bind hf h.1,T.All_bind hf h.2⟩
 | .need _ x,_,h=>T.All_bind (t:=x) hf h
 | .fail _,_,_=>trivial
theorem T.All_map {α β:Type} {p:α->Prop} {q:β->Prop} {f:α->β} (hf:∀a,p a->q (f a)):∀{t:T α},t.All p->(t.map f).All q
 | .ret a,h=>hf a h
 | .br _ _ _,h=>⟨T.All_map hf h.1,T.All_map hf h.2⟩
 | .need _ x,h=>T.All_map (t:=x) hf h
 | .fail _,_=>trivial
theorem PR {α:Type} {p:α->Prop} {Φ:Facts} {c:BE} {x y:Facts->T α} (hx:∀Φ,(x Φ).All p) (hy:∀Φ,(y Φ).All p):(part Φ c x y).All p:=by
 unfold part
 split
 ·exact hx _
 ·exact hy _
 ·exact⟨hx _,hy _⟩
theorem aq7 {α:Type} {p:α->Prop} {Φ:Facts} {c:BE} {x:Facts->T α} (hx:∀Φ,(x Φ).All p):(want Φ c x).All p:=by
 unfold want
 split
 ·exact hx _
 ·trivial
 ·exact hx _
theorem SC {α:Type} {p:α->Prop} {Φ:Facts} {v:X} {want':Bool} {run:Facts->T (X×dR)} {go:Facts->X->dR->T α} {skip:Facts->T α} {both:Facts->X->T α} (hg:∀Φ r d,(go Φ r d).All p) (hs:∀Φ,(skip Φ).All p) (hb:∀Φ y,(both Φ y).All p) :
  (Be Φ v want' run go skip both).All p:=by
 have hrun:∀(Φ Φ':Facts),((run Φ).bind Φ' fun Φ p=>go Φ p.1 p.2).All p:=fun Φ Φ'=>T.All_bind (p:=fun _=>True) (fun Φ q _=>hg Φ q.1 q.2) (T.All_true _)
 unfold Be
 split
 ·split
  ·exact hrun _ _
  ·exact hs _
  ·split
   ·exact aq7 fun Φ=>hb Φ _
   ·exact⟨hrun _ _,hs _⟩
 ·trivial
structure Ent where
 c:BE
 e:XE
 s:XS
def aR5:X->Bool
 | .sl _ _ _ _ _=>true
 | .slv _ _ _ _ _=>true
 | _=>false
def an8:List X->List X->Bool
 | x::xs,y::ys=>((aR5 x||aR5 y) && !X.beq x y)||an8 xs ys
 | _,_=>false
def apart (a b:XS):Bool:=a.h.any fun p=>match aT b.h p.1 with
 | some ds=>an8 p.2 ds
 | none=>false
def Fg (b:ig) (c:BE) (e:XE) (s:XS):List Ent->List Ent
 | []=>[⟨c,e,s⟩]
 | x::r=>if(x.e.beq e && !apart x.s s)=true then⟨AU x.c c,e,QK x.c b x.s s⟩::r else x::Fg b c e s r
def grp (b:ig):List Ent->List Ent->List Ent
 | [],acc=>acc
 | x::l,acc=>grp b l (Fg b x.c x.e x.s acc)
def Ent.and (c:BE) (x:Ent):Ent:=⟨mkAnd c x.c,x.e,x.s⟩
def iU:BE->List Ent->List Ent
 | _,[]=>[]
 | acc,[x]=>[⟨mkNot acc,x.e,x.s⟩]
 | acc,x::r=>x::iU (AU acc x.c) r
def flat (b:ig):T (XE×XS)->BE×List Ent
 | .ret (e,s)=>(.lit true,[⟨.lit true,e,s⟩])
 | .br c x y=>match flat b x,flat b y with
  | (p,l),(q,m)=>(jg c p q,iU (.lit false) (grp b (m.map (Ent.and (mkNot c))) (l.map (Ent.and c))))
 | .need c x=>match flat b x with
  | (p,l)=>(mkAnd c p,l)
 | .fail _=>(.lit false,[])
def Ent.right (J:Rho) (t:Option (XE×XS)) (x:Ent):Prop:=x.c.den J=true->∃s,t=some (x.e,s)/\LeS (x.s.den J) (s.den J)
structure EntsOk (J:Rho) (b:ig) (t:Option (XE×XS)) (l:List Ent):Prop where
 right:∀x∈l,x.right J t
 ext:∀x∈l,Ext b x.s.t
theorem Og (c:BE) (b:ig) (s1 s2:XS):Ext b (QK c b s1 s2).t:=ES _ _ _ _ _ _
theorem UV {J:Rho} {b:ig} {t:Option (XE×XS)} {n:Ent} (hn:n.right J t) (he:Ext b n.s.t):∀{l:List Ent},EntsOk J b t l ->
  EntsOk J b t (Fg b n.c n.e n.s l)/\((n.c.den J=true\/∃x∈l,x.c.den J=true)->∃x∈Fg b n.c n.e n.s l,x.c.den J=true)
 | [],_=>by
  refine⟨⟨fun x hx => ?_,fun x hx => ?_⟩,fun h => ?_⟩
  ·simp only[Fg,List.mem_singleton]at hx;subst hx;exact hn
  ·simp only[Fg,List.mem_singleton]at hx;subst hx;exact he
  ·rcases h with h | ⟨x,hx,_⟩
   ·exact⟨_,by simp only[Fg,List.mem_singleton],h⟩
   ·cases hx
 | y::r,ho=>by
  have hy:=ho.right y List.mem_cons_self
  have hye:=ho.ext y List.mem_cons_self
  have ho':EntsOk J b t r:=⟨fun x hx=>ho.right x (List.mem_cons_of_mem _ hx),fun x hx=>ho.ext x (List.mem_cons_of_mem _ hx)⟩
  simp only[Fg]
  split
  ·rename_i hb
   rw[Bool.and_eq_true]at hb
   have hb:=XE.beq_eq hb.1
   have hle:=aF3 (J:=J) (c:=y.c) hye he
   refine⟨⟨fun x hx => ?_,fun x hx => ?_⟩,fun h => ?_⟩
   ·rcases List.mem_cons.1 hx with rfl | hx
    ·intro hc
     simp only[jD,Bool.or_eq_true]at hc
     by_cases hyc:y.c.den J=true
     ·obtain⟨s,h1,h2⟩:=hy hyc
      rw[if_pos hyc]at hle
      exact⟨s,by rw[h1,hb],hle.trans h2⟩
     ·obtain⟨s,h1,h2⟩:=hn (hc.resolve_left hyc)
      rw[if_neg hyc]at hle
      exact⟨s,h1,hle.trans h2⟩
    ·exact ho'.right x hx
   ·rcases List.mem_cons.1 hx with rfl | hx
    ·exact Og _ _ _ _
    ·exact ho'.ext x hx
   ·rcases h with h | ⟨x,hx,h⟩
    ·exact⟨_,List.mem_cons_self,by simp only[jD,h,Bool.or_true]⟩
    ·rcases List.mem_cons.1 hx with rfl | hx
     ·exact⟨_,List.mem_cons_self,by simp only[jD,h,Bool.true_or]⟩
     ·exact⟨x,List.mem_cons_of_mem _ hx,h⟩
  ·obtain⟨ih1,ih2⟩:=UV hn he ho'
   refine⟨⟨fun x hx => ?_,fun x hx => ?_⟩,fun h => ?_⟩
   ·rcases List.mem_cons.1 hx with rfl | hx
    ·exact hy
    ·exact ih1.right x hx
   ·rcases List.mem_cons.1 hx with rfl | hx
    ·exact hye
    ·exact ih1.ext x hx
   ·rcases h with h | ⟨x,hx,h⟩
    ·obtain⟨z,hz,hzc⟩:=ih2 (.inl h)
     exact⟨z,List.mem_cons_of_mem _ hz,hzc⟩
    ·rcases List.mem_cons.1 hx with rfl | hx
     ·exact⟨_,List.mem_cons_self,h⟩
     ·obtain⟨z,hz,hzc⟩:=ih2 (.inr ⟨x,hx,h⟩)
      exact⟨z,List.mem_cons_of_mem _ hz,hzc⟩
theorem aj0 {J:Rho} {b:ig} {t:Option (XE×XS)}:∀{m l:List Ent},EntsOk J b t m->EntsOk J b t l->EntsOk J b t (grp b m l)/\(((∃x∈m,x.c.den J=true)\/∃x∈l,x.c.den J=true)->∃x∈grp b m l,x.c.den J=true)
 | [],l,_,hl=>⟨hl,fun h=>by
   rcases h with⟨x,hx,_⟩ | h
   ·cases hx
   ·exact h⟩
 | y::m,l,hm,hl=>by
  have hm':EntsOk J b t m:=⟨fun x hx=>hm.right x (List.mem_cons_of_mem _ hx),fun x hx=>hm.ext x (List.mem_cons_of_mem _ hx)⟩
  obtain⟨h1,h2⟩:=UV (hm.right y List.mem_cons_self) (hm.ext y List.mem_cons_self) hl
  obtain⟨h3,h4⟩:=aj0 hm' h1
  refine⟨h3,fun h=>h4 ?_⟩
  rcases h with⟨x,hx,hc⟩ | h
  ·rcases List.mem_cons.1 hx with rfl | hx
   ·exact .inr (h2 (.inl hc))
   ·exact .inl ⟨x,hx,hc⟩
  ·exact .inr (h2 (.inr h))
theorem FM {J:Rho} {b:ig} {t:Option (XE×XS)}:∀{l:List Ent} {acc:BE},EntsOk J b t l->(acc.den J=true\/∃x∈l,x.c.den J=true)->EntsOk J b t (iU acc l)/\(acc.den J=true\/∃x∈iU acc l,x.c.den J=true)
 | [],acc,ho,hx=>⟨ho,hx⟩
 | [x],acc,ho,hx=>by
  have hr:=ho.right x List.mem_cons_self
  refine⟨⟨fun y hy => ?_,fun y hy => ?_⟩,?_⟩
  ·simp only[iU,List.mem_singleton]at hy
   subst hy
   intro hc
   simp only[bz,Bool.not_eq_true']at hc
   refine hr ?_
   rcases hx with h | ⟨z,hz,h⟩
   ·rw[hc]at h;cases h
   ·simp only[List.mem_singleton]at hz;subst hz;exact h
  ·simp only[iU,List.mem_singleton]at hy
   subst hy
   exact ho.ext x List.mem_cons_self
  ·by_cases ha:acc.den J=true
   ·exact .inl ha
   ·exact .inr ⟨⟨mkNot acc,x.e,x.s⟩,by simp only[iU,List.mem_singleton],by simp only[bz];simpa using ha⟩
 | x::y::r,acc,ho,hx=>by
  have ho':EntsOk J b t (y::r):=⟨fun z hz=>ho.right z (List.mem_cons_of_mem _ hz),fun z hz=>ho.ext z (List.mem_cons_of_mem _ hz)⟩
  obtain⟨h1,h2⟩:=FM (acc:=AU acc x.c) ho' (by
   rw[jD]
   rcases hx with h | ⟨z,hz,h⟩
   ·exact .inl (by rw[h];rfl)
   ·rcases List.mem_cons.1 hz with rfl | hz
    ·exact .inl (by rw[h];simp)
    ·exact .inr ⟨z,hz,h⟩)
  refine⟨⟨fun z hz => ?_,fun z hz => ?_⟩,?_⟩
  ·simp only[iU]at hz
   rcases List.mem_cons.1 hz with rfl | hz
   ·exact ho.right _ List.mem_cons_self
   ·exact h1.right z hz
  ·simp only[iU]at hz
   rcases List.mem_cons.1 hz with rfl | hz
   ·exact ho.ext _ List.mem_cons_self
   ·exact h1.ext z hz
  ·rw[jD,Bool.or_eq_true]at h2
   rcases h2 with(h2 | h2) | ⟨z,hz,h2⟩
   ·exact .inl h2
   ·exact .inr ⟨x,by simp only[iU];exact List.mem_cons_self,h2⟩
   ·exact .inr ⟨z,by simp only[iU];exact List.mem_cons_of_mem _ hz,h2⟩
theorem flat_ok {J:Rho} {b:ig}:∀{t:T (XE×XS)},t.All (fun p=>Ext b p.2.t)->(flat b t).1.den J=true->EntsOk J b (t.sel J) (flat b t).2/\∃x∈(flat b t).2,x.c.den J=true
 | .ret (e,s),ha,_=>by
  refine⟨⟨fun x hx => ?_,fun x hx => ?_⟩,?_⟩
  ·simp only[flat,List.mem_singleton]at hx;subst hx;exact fun _=>⟨s,rfl,LeS.refl _⟩
  ·simp only[flat,List.mem_singleton]at hx;subst hx;exact ha
  ·exact⟨⟨.lit true,e,s⟩,by simp only[flat,List.mem_singleton],by simp only[BE.den]⟩
 | .br c x y,ha,hok=>by
  simp only[flat]at hok ⊢
  rw[dU]at hok
  have hx:=fun h=>flat_ok (J:=J) (b:=b) (t:=x) ha.1 h
  have hy:=fun h=>flat_ok (J:=J) (b:=b) (t:=y) ha.2 h
  have key:EntsOk J b ((T.br c x y).sel J) ((flat b x).2.map (Ent.and c))/\EntsOk J b ((T.br c x y).sel J) ((flat b y).2.map (Ent.and (mkNot c)))/\((∃z∈(flat b y).2.map (Ent.and (mkNot c)),z.c.den J=true)\/∃z∈(flat b x).2.map (Ent.and c),z.c.den J=true):=by
   have extOf:∀{t:T (XE×XS)},t.All (fun p=>Ext b p.2.t)->∀z∈(flat b t).2,Ext b z.s.t:=fun {t} ht z hz=>flat_ext ht z hz
   by_cases hc:c.den J=true
   ·rw[if_pos hc]at hok
    obtain⟨h1,z,hz,hzc⟩:=hx hok
    have hsel:(T.br c x y).sel J=x.sel J:=by simp only[T.sel,hc,if_true]
    rw[hsel]
    refine⟨⟨fun v hv => ?_,fun v hv => ?_⟩,⟨fun v hv => ?_,fun v hv => ?_⟩,.inr ⟨Ent.and c z,List.mem_map.2 ⟨z,hz,rfl⟩,by simp only[Ent.and,df,hc,hzc,Bool.and_self]⟩⟩
    ·obtain⟨w,hw,rfl⟩:=List.mem_map.1 hv
     intro hh
     simp only[Ent.and,df,Bool.and_eq_true]at hh
     exact h1.right w hw hh.2
    ·obtain⟨w,hw,rfl⟩:=List.mem_map.1 hv
     exact h1.ext w hw
    ·obtain⟨w,hw,rfl⟩:=List.mem_map.1 hv
     intro hh
     simp only[Ent.and,df,bz,hc,Bool.not_true,Bool.false_and]at hh
     cases hh
    ·obtain⟨w,hw,rfl⟩:=List.mem_map.1 hv
     exact extOf ha.2 w hw
   ·rw[if_neg hc]at hok
    obtain⟨h1,z,hz,hzc⟩:=hy hok
    have hsel:(T.br c x y).sel J=y.sel J:=by simp only[T.sel,hc];rfl
    have hcf:c.den J=false:=by simpa using hc
    rw[hsel]
    refine⟨⟨fun v hv => ?_,fun v hv => ?_⟩,⟨fun v hv => ?_,fun v hv => ?_⟩,.inl ⟨Ent.and (mkNot c) z,List.mem_map.2 ⟨z,hz,rfl⟩,by simp only[Ent.and,df,bz,hcf,hzc,Bool.not_false,Bool.and_self]⟩⟩
    ·obtain⟨w,hw,rfl⟩:=List.mem_map.1 hv
     intro hh
     simp only[Ent.and,df,hcf,Bool.false_and]at hh
     cases hh
    ·obtain⟨w,hw,rfl⟩:=List.mem_map.1 hv
     exact extOf ha.1 w hw
    ·obtain⟨w,hw,rfl⟩:=List.mem_map.1 hv
     intro hh
     simp only[Ent.and,df,Bool.and_eq_true]at hh
     exact h1.right w hw hh.2
    ·obtain⟨w,hw,rfl⟩:=List.mem_map.1 hv
     exact h1.ext w hw
  obtain⟨k1,k2,k3⟩:=key
  obtain⟨g1,g2⟩:=aj0 k2 k1
  obtain⟨f1,f2⟩:=FM (acc := .lit false) g1 (.inr (g2 k3))
  refine⟨f1,?_⟩
  rcases f2 with f2 | f2
  ·simp[BE.den]at f2
  ·exact f2
 | .need c x,ha,hok=>by
  simp only[flat,df,Bool.and_eq_true]at hok ⊢
  obtain⟨h1,h2⟩:=flat_ok (J:=J) (b:=b) (t:=x) ha hok.2
  have hsel:(T.need c x).sel J=x.sel J:=by simp only[T.sel,hok.1,if_true]
  rw[hsel]
  exact⟨h1,h2⟩
 | .fail _,_,hok=>by simp[flat,BE.den]at hok
where
 flat_ext:∀{t:T (XE×XS)},t.All (fun p=>Ext b p.2.t)->∀z∈(flat b t).2,Ext b z.s.t:=by
  intro t
  induction t with
  | ret a=>intro ha z hz;obtain⟨e,s⟩:=a;simp only[flat,List.mem_singleton]at hz;subst hz;exact ha
  | fail _=>intro _ z hz;simp[flat]at hz
  | need c x ih=>intro ha z hz;simp only[flat]at hz;exact ih ha z hz
  | br c x y ih1 ih2 =>
   intro ha z hz
   simp only[flat]at hz
   have i1:=ih1 ha.1
   have i2:=ih2 ha.2
   have fx:∀(l:List Ent) (acc:BE),(∀z∈l,Ext b z.s.t)->∀z∈iU acc l,Ext b z.s.t:=by
    intro l
    induction l with
    | nil=>intro acc h z hz;simp[iU]at hz
    | cons x r ih =>
     intro acc h z hz
     cases r with
     | nil=>simp only[iU,List.mem_singleton]at hz;subst hz;exact h x List.mem_cons_self
     | cons y r =>
      simp only[iU]at hz
      rcases List.mem_cons.1 hz with rfl | hz
      ·exact h _ List.mem_cons_self
      ·exact ih _ (fun z hz=>h z (List.mem_cons_of_mem _ hz)) z hz
   have ins:∀(l:List Ent) (n:Ent),(∀z∈l,Ext b z.s.t)->Ext b n.s.t->∀z∈Fg b n.c n.e n.s l,Ext b z.s.t:=by
    intro l n
    induction l with
    | nil=>intro _ hn z hz;simp only[Fg,List.mem_singleton]at hz;subst hz;exact hn
    | cons x r ih =>
     intro h hn z hz
     simp only[Fg]at hz
     split at hz
     ·rcases List.mem_cons.1 hz with rfl | hz
      ·exact Og _ _ _ _
      ·exact h z (List.mem_cons_of_mem _ hz)
     ·rcases List.mem_cons.1 hz with rfl | hz
      ·exact h _ List.mem_cons_self
      ·exact ih (fun z hz=>h z (List.mem_cons_of_mem _ hz)) hn z hz
   have gr:∀(m l:List Ent),(∀z∈m,Ext b z.s.t)->(∀z∈l,Ext b z.s.t)->∀z∈grp b m l,Ext b z.s.t:=by
    intro m
    induction m with
    | nil=>intro l _ hl;exact hl
    | cons x m ih=>intro l hm hl;exact ih _ (fun z hz=>hm z (List.mem_cons_of_mem _ hz)) (ins l x hl (hm x List.mem_cons_self))
   refine fx _ _ (gr _ _ (fun z hz => ?_) (fun z hz => ?_)) z hz
   ·obtain⟨w,hw,rfl⟩:=List.mem_map.1 hz;exact i2 w hw
   ·obtain⟨w,hw,rfl⟩:=List.mem_map.1 hz;exact i1 w hw
def bt:List Ent->T (XE×XS)
 | []=>(.fail [])
 | [x] => .ret (x.e,x.s)
 | x::r=>match x.c with
  | .lit true => .ret (x.e,x.s)
  | .lit false=>bt r
  | c => .br c (.ret (x.e,x.s)) (bt r)
theorem Vq {J:Rho} {b:ig} {t:Option (XE×XS)} {e:XE} {s':XS}:∀{l:List Ent},EntsOk J b t l->(∃x∈l,x.c.den J=true)->(bt l).sel J=some (e,s')->∃s,t=some (e,s)/\LeS (s'.den J) (s.den J)
 | [],_,hx,_=>by obtain⟨x,hx,_⟩:=hx;cases hx
 | [x],ho,hx,h=>by
  obtain⟨y,hy,hc⟩:=hx
  simp only[List.mem_singleton]at hy
  subst hy
  cases h
  exact ho.right _ List.mem_cons_self hc
 | x::y::r,ho,hx,h=>by
  have ho':EntsOk J b t (y::r):=⟨fun z hz=>ho.right z (List.mem_cons_of_mem _ hz),fun z hz=>ho.ext z (List.mem_cons_of_mem _ hz)⟩
  have hr:=ho.right x List.mem_cons_self
  have next:¬x.c.den J=true->∃z∈y::r,z.c.den J=true:=fun hn=>by
   obtain⟨z,hz,hc⟩:=hx
   rcases List.mem_cons.1 hz with rfl | hz
   ·exact absurd hc hn
   ·exact⟨z,hz,hc⟩
  simp only[bt]at h
  split at h
  ·rename_i hc
   cases h
   exact hr (by rw[hc];rfl)
  ·rename_i hc
   exact Vq ho' (next (by rw[hc];simp[BE.den])) h
  ·simp only[T.sel]at h
   split at h
   ·rename_i hc;cases h;exact hr hc
   ·rename_i hc;exact Vq ho' (next hc) h
theorem RU {b:ig}:∀{l:List Ent},(∀z∈l,Ext b z.s.t)->(bt l).All fun p=>Ext b p.2.t
 | [],_=>trivial
 | [x],h=>h x List.mem_cons_self
 | x::y::r,h=>by
  have ih:=RU (l:=y::r) fun z hz=>h z (List.mem_cons_of_mem _ hz)
  simp only[bt]
  split
  ·exact h x List.mem_cons_self
  ·exact ih
  ·exact⟨h x List.mem_cons_self,ih⟩
def uQ (b:ig) (t:T (XE×XS)):T (XE×XS) :=
 match t with
 | .ret p => .ret p
 | .fail w => .fail w
 | t=>match flat b t with
  | (.lit true,l)=>bt l
  | (.lit false,_) => .fail t.why
  | (c,l) => .need c (bt l)
theorem oZ {J:Rho} {b:ig} {t:T (XE×XS)} (ha:t.All fun p=>Ext b p.2.t) {e:XE} {s':XS} (h:(uQ b t).sel J=some (e,s')):∃s,t.sel J=some (e,s)/\LeS (s'.den J) (s.den J):=by
 unfold uQ at h
 split at h
 ·cases h;exact⟨s',rfl,LeS.refl _⟩
 ·cases h
 ·have hf:=flat_ok (J:=J) (b:=b) ha
  split at h
  ·rename_i l hl
   rw[hl]at hf
   obtain⟨h1,h2⟩:=hf rfl
   exact Vq h1 h2 h
  ·cases h
  ·rename_i c l _ _ hl
   rw[hl]at hf
   simp only[T.sel]at h
   split at h
   ·rename_i hc
    obtain⟨h1,h2⟩:=hf hc
    exact Vq h1 h2 h
   ·cases h
theorem oI {b:ig} {t:T (XE×XS)} (ha:t.All fun p=>Ext b p.2.t):(uQ b t).All fun p=>Ext b p.2.t:=by
 unfold uQ
 split
 ·exact ha
 ·trivial
 ·have hx:=flat_ok.flat_ext ha
  split
  ·rename_i l hl;rw[hl]at hx;exact RU hx
  ·trivial
  ·rename_i c l _ _ hl;rw[hl]at hx;exact RU hx
end Go.Proofs.Xw
namespace Go.Proofs.Xw
open Go Go.Proofs.Aw
theorem lq {p:Nm->Bool} {J:Rho} {n:IE} {l:RL}:nmsE p (aC J n l)=true:=by
 have sc:∀r:List Sc,nmsL p (mQ J r)=true:=fun r=>by
  induction r with
  | nil=>rfl
  | cons s r ih=>simp only[mQ,List.map_cons,nmsL,nms,Bool.true_and]at ih ⊢;exact ih
 have cv:∀(l:Nat) (ks:List Kd) (k j:Nat),nmsL p (aW J l k ks j)=true:=fun l ks=>by
  induction ks with
  | nil=>intro k j;rfl
  | cons kd ks ih=>intro k j;cases kd<;>simp only[aW,nmsL,nms,Bool.true_and]<;>exact ih _ _
 have row:∀(l:RL) (j:Int),nmsL p (l.row J j)=true:=fun l=>by
  induction l with
  | var l ks=>intro j;exact cv _ _ _ _
  | one r=>intro j;exact sc r
  | app n a b ih1 ih2=>intro j;simp only[RL.row];split<;>first | exact ih1 _ | exact ih2 _
  | drop n a ih=>intro j;exact ih _
  | upd i r a ih=>intro j;simp only[RL.row];split<;>first | exact sc _ | exact ih _
  | ite c a b ih1 ih2=>intro j;simp only[RL.row];split<;>first | exact ih1 _ | exact ih2 _
 unfold aC
 generalize List.range (n.den J).toNat=L
 induction L with
 | nil=>rfl
 | cons j L ih=>simp only[List.map_cons,nmsE,row,Bool.true_and];exact ih
theorem vZ {p:Nm->Bool} {J:Rho} {n:IE} {l:Nat} {ks:List Nk}:nmsE p (jB J n l ks)=true:=by
 have cv:∀(l:Nat) (ks:List Kd) (k j:Nat),nmsL p (aW J l k ks j)=true:=fun l ks=>by
  induction ks with
  | nil=>intro k j;rfl
  | cons kd ks ih=>intro k j;cases kd<;>simp only[aW,nmsL,nms,Bool.true_and]<;>exact ih _ _
 have all:∀(f:Nat->List AV),(∀j,nmsL p (f j)=true)->∀L:List Nat,nmsE p (L.map f)=true:=fun f hf L=>by
  induction L with
  | nil=>rfl
  | cons j L ih=>simp only[List.map_cons,nmsE,hf,Bool.true_and];exact ih
 have cn:∀(ks:List Nk) (k j:Nat),nmsL p (dQ J l k ks j)=true:=fun ks=>by
  induction ks with
  | nil=>intro k j;rfl
  | cons kd ks ih =>
   intro k j
   cases kd with
   | f kd=>cases kd<;>simp only[dQ,ve,nmsL,nms,Bool.true_and]<;>exact ih _ _
   | r z S kk =>
    simp only[dQ,nmsL,nms,Bool.and_eq_true]
    exact⟨all _ (fun e=>cv S kk 0 _) _,ih _ _⟩
 exact all _ (fun j=>cn ks 0 j) _
theorem Kw {p:Nm->Bool} {v:AV} (h:Aw.nms (fun _=>false) v=true):Aw.nms p v=true:=EO (p:=fun _=>false) (fun _ h=>by cases h) v h
theorem uF {p:Nm->Bool}:∀{a b:List (List AV)},nmsE p a=true->nmsE p b=true->nmsE p (a++b)=true
 | [],_,_,hb=>hb
 | x::a,b,ha,hb=>by
  simp only[nmsE,Bool.and_eq_true]at ha
  simp only[List.cons_append,nmsE,ha.1,Bool.true_and]
  exact uF ha.2 hb
theorem jL {p:Nm->Bool} {J:Rho} {z:Nat} {m:IE} {t:Nat}:nmsE p (bD J z m t)=true:=by
 have row:∀(j:Nat) (L:List Nat),Aw.nmsL p (L.map fun k=>(J.ct t k j).1)=true:=fun j L=>by
  induction L with
  | nil=>rfl
  | cons k L ih=>simp only[List.map_cons,Aw.nmsL,Kw (J.ct t k j).2.1,Bool.true_and];exact ih
 have all:∀L:List Nat,nmsE p (L.map fun(j:Nat)=>(List.range z).map fun k=>(J.ct t k j).1)=true:=fun L=>by
  induction L with
  | nil=>rfl
  | cons j L ih=>simp only[List.map_cons,nmsE,row,Bool.true_and];exact ih
 exact all _
theorem NH (f:Nm->Nm):∀a b:List AV,Aw.renL f (a++b)=Aw.renL f a++Aw.renL f b
 | [],_=>rfl
 | x::a,b=>by simp only[List.cons_append,Aw.renL,NH f a b]
theorem yV (f:Nm->Nm):∀a b:List (List AV),Aw.renE f (a++b)=Aw.renE f a++Aw.renE f b
 | [],_=>rfl
 | x::a,b=>by simp only[List.cons_append,Aw.renE,yV f a b]
mutual
def X.nms (p:Nm->Bool):X->Bool
 | .top | .k _ | .sc _ | .rl _ _ _ _ | .rows _ _ _ | .rn _ _ _ _ _ | .cel _ _ _=>true
 | .tk _ _ _ es | .tq _ _ _ es _=>X.nmsE p es
 | .slv n _ _ _ _=>p n
 | .ptrv n _ _ _=>p n
 | .agg cs | .tup cs | .ip cs _ _=>X.nmsL p cs
 | .ptr n _ _=>p n
 | .sl n _ _ _ _=>p n
 | .ro _ es _=>X.nmsE p es
 | .fn _ xs ys=>X.nmsL p xs&&X.nmsL p ys
 | .gd _ x=>x.nms p
def X.nmsL (p:Nm->Bool):List X->Bool
 | []=>true
 | x::xs=>x.nms p&&X.nmsL p xs
def X.nmsE (p:Nm->Bool):List (List X)->Bool
 | []=>true
 | e::es=>X.nmsL p e&&X.nmsE p es
end
mutual
theorem X.nms_den {p:Nm->Bool} (J:Rho):∀x:X,x.nms p=true->Aw.nms p (x.den J)=true
 | .top,_=>rfl
 | .k _,_=>rfl
 | .sc _,_=>rfl
 | .rl _ _ _ _,_=>lq
 | .rn _ _ _ _ _,_=>vZ
 | .tk _ _ _ _,_=>rfl
 | .tq _ _ _ es _,h=>uF jL (X.nmsE_den J es h)
 | .cel t o j,_=>Kw (J.ct t o _).2.1
 | .rows _ _ _,_=>rfl
 | .slv _ _ _ _ _,h=>h
 | .ptrv _ _ _ _,h=>h
 | .agg cs,h=>X.nmsL_den J cs h
 | .tup cs,h=>X.nmsL_den J cs h
 | .ip cs _ _,h=>X.nmsL_den J cs h
 | .ro _ es _,h=>X.nmsE_den J es h
 | .fn _ xs ys,h=>by
  simp only[X.nms,Bool.and_eq_true]at h
  simp only[X.den,Aw.nms,X.nmsL_den J xs h.1,X.nmsL_den J ys h.2,Bool.and_self]
 | .ptr _ _ _,h=>h
 | .sl _ _ _ _ _,h=>h
 | .gd c x,h=>by
  simp only[X.den]
  split
  ·exact X.nms_den J x h
  ·rfl
theorem X.nmsL_den {p:Nm->Bool} (J:Rho):∀l:List X,X.nmsL p l=true->Aw.nmsL p (X.denL J l)=true
 | [],_=>rfl
 | x::xs,h=>by
  simp only[X.nmsL,Bool.and_eq_true]at h
  simp only[X.denL,Aw.nmsL,X.nms_den J x h.1,X.nmsL_den J xs h.2,Bool.and_self]
theorem X.nmsE_den {p:Nm->Bool} (J:Rho):∀l:List (List X),X.nmsE p l=true->Aw.nmsE p (X.denE J l)=true
 | [],_=>rfl
 | x::xs,h=>by
  simp only[X.nmsE,Bool.and_eq_true]at h
  simp only[X.denE,Aw.nmsE,X.nmsL_den J x h.1,X.nmsE_den J xs h.2,Bool.and_self]
end
mutual
def X.ren (f:Nm->Nm):X->X
 | .agg cs => .agg (X.renL f cs)
 | .tup cs => .tup (X.renL f cs)
 | .ip cs az d => .ip (X.renL f cs) az d
 | .ptr n az d => .ptr (f n) az d
 | .sl n z off len own => .sl (f n) z off len own
 | .ro z es full => .ro z (X.renE f es) full
 | .fn g xs ys => .fn g (X.renL f xs) (X.renL f ys)
 | .gd c x => .gd c (x.ren f)
 | .top => .top
 | .k v => .k v
 | .sc s => .sc s
 | .rl z n l full => .rl z n l full
 | .rn z n l ks full => .rn z n l ks full
 | .tk z m t es => .tk z m t (X.renE f es)
 | .tq z m t es full => .tq z m t (X.renE f es) full
 | .cel t o j => .cel t o j
 | .rows z n l => .rows z n l
 | .slv n z o l w => .slv (f n) z o l w
 | .ptrv n z j o => .ptrv (f n) z j o
def X.renL (f:Nm->Nm):List X->List X
 | []=>[]
 | x::xs=>x.ren f::X.renL f xs
def X.renE (f:Nm->Nm):List (List X)->List (List X)
 | []=>[]
 | e::es=>X.renL f e::X.renE f es
end
mutual
theorem X.ren_den {f:Nm->Nm} (J:Rho):∀x:X,(x.ren f).den J=Aw.ren f (x.den J)
 | .top=>rfl
 | .k _=>rfl
 | .sc _=>rfl
 | .rl _ _ _ _=>by simp only[X.ren,X.den,Aw.ren];rw[jK f _ lq]
 | .rn _ _ _ _ _=>by simp only[X.ren,X.den,Aw.ren];rw[jK f _ vZ]
 | .tk _ _ _ _=>rfl
 | .tq _ _ _ es _=>by simp only[X.ren,X.den,Aw.ren,yV,X.renE_den J es];rw[jK f _ jL]
 | .cel t o j=>(qN f _ (J.ct t o _).2.1).symm
 | .rows _ _ _=>rfl
 | .slv _ _ _ _ _=>rfl
 | .ptrv _ _ _ _=>rfl
 | .agg cs=>by simp only[X.ren,X.den,Aw.ren,X.renL_den J cs]
 | .tup cs=>by simp only[X.ren,X.den,Aw.ren,X.renL_den J cs]
 | .ip cs _ _=>by simp only[X.ren,X.den,Aw.ren,X.renL_den J cs]
 | .ro _ es _=>by simp only[X.ren,X.den,Aw.ren,X.renE_den J es]
 | .fn _ xs ys=>by simp only[X.ren,X.den,Aw.ren,X.renL_den J xs,X.renL_den J ys]
 | .ptr _ _ _=>rfl
 | .sl _ _ _ _ _=>rfl
 | .gd c x=>by
  simp only[X.ren,X.den]
  split
  ·exact X.ren_den J x
  ·rfl
theorem X.renL_den {f:Nm->Nm} (J:Rho):∀l:List X,X.denL J (X.renL f l)=Aw.renL f (X.denL J l)
 | []=>rfl
 | x::xs=>by simp only[X.renL,X.denL,Aw.renL,X.ren_den J x,X.renL_den J xs]
theorem X.renE_den {f:Nm->Nm} (J:Rho):∀l:List (List X),X.denE J (X.renE f l)=Aw.renE f (X.denE J l)
 | []=>rfl
 | x::xs=>by simp only[X.renE,X.denE,Aw.renE,X.renL_den J x,X.renE_den J xs]
end
mutual
def X.names:X->List Nm
 | .top | .k _ | .sc _ | .rl _ _ _ _ | .rows _ _ _ | .rn _ _ _ _ _ | .cel _ _ _=>[]
 | .tk _ _ _ es | .tq _ _ _ es _=>X.namesE es
 | .slv n _ _ _ _=>[n]
 | .ptrv n _ _ _=>[n]
 | .agg cs | .tup cs | .ip cs _ _=>X.namesL cs
 | .ptr n _ _=>[n]
 | .sl n _ _ _ _=>[n]
 | .ro _ es _=>X.namesE es
 | .fn _ xs ys=>X.namesL xs++X.namesL ys
 | .gd _ x=>x.names
def X.namesL:List X->List Nm
 | []=>[]
 | x::xs=>x.names++X.namesL xs
def X.namesE:List (List X)->List Nm
 | []=>[]
 | e::es=>X.namesL e++X.namesE es
end
theorem jM {p:Nm->Bool}:∀{es:List (List AV)},nmsE p es=true->Aw.nmsL p es.flatten=true
 | [],_=>rfl
 | e::es,h=>by
  simp only[nmsE,Bool.and_eq_true]at h
  have app:∀(a b:List AV),Aw.nmsL p a=true->Aw.nmsL p b=true->Aw.nmsL p (a++b)=true:=fun a b ha hb=>by
   induction a with
   | nil=>exact hb
   | cons x a ih =>
    simp only[Aw.nmsL,Bool.and_eq_true]at ha
    simp only[List.cons_append,Aw.nmsL,Bool.and_eq_true]
    exact⟨ha.1,ih ha.2⟩
  rw[List.flatten_cons]
  exact app _ _ h.1 (jM h.2)
theorem X.nmsO_den {p:Nm->Bool} (J:Rho) (cs:List X) (h:X.nmsL p cs=true):Aw.nmsL p (aF J cs)=true:=by
 unfold aF
 split
 ·exact jM lq
 ·simp only[X.nmsL,X.nms,Bool.and_true]at h
  exact jM (uF jL (X.nmsE_den J _ h))
 ·exact X.nmsL_den J cs h
theorem X.renO_den {f:Nm->Nm} (J:Rho) (cs:List X):aF J (X.renL f cs)=Aw.renL f (aF J cs):=by
 by_cases h:aZ cs=true
 ·unfold aZ at h
  split at h
  ·rename_i z n l
   have e:X.renL f [.rows z n l]=[.rows z n l]:=rfl
   rw[e,gG f _ (by simp only[aF];exact jM lq)]
  ·rename_i z m t es
   have e:X.renL f [.tk z m t es]=[.tk z m t (X.renE f es)]:=rfl
   have fl:∀l:List (List AV),Aw.renL f l.flatten=(Aw.renE f l).flatten:=fun l=>by
    induction l with
    | nil=>rfl
    | cons a l ih=>simp only[List.flatten_cons,NH,Aw.renE,ih]
   rw[e]
   simp only[aF]
   rw[fl,yV,X.renE_den,jK f _ jL]
  ·cases h
 ·have h1:aZ cs=false:=by simpa using h
  have h2:aZ (X.renL f cs)=false:=by
   match cs,h1 with
   | [],_=>rfl
   | [x],h1=>cases x<;>first | rfl | (simp[aZ]at h1)
   | x::y::r,_ =>
    simp only[X.renL]
    unfold aZ
    split
    ·rename_i heq;simp at heq
    ·rename_i heq;simp at heq
    ·rfl
  rw[bC h1,bC h2,X.renL_den]
end Go.Proofs.Xw
namespace Go.Proofs.Xw
open Go Go.Proofs.Aw
structure Agree (n:Nat) (J J':Rho):Prop where
 i:∀k,k<n->J.i k=J'.i k
 b:∀k,k<n->J.b k=J'.b k
 s:∀k,k<n->J.s k=J'.s k
 len:∀k,k<n->J.len k=J'.len k
 ci:∀k,k<n->J.ci k=J'.ci k
 cb:∀k,k<n->J.cb k=J'.cb k
 cs:∀k,k<n->J.cs k=J'.cs k
 ct:∀k,k<n->J.ct k=J'.ct k
theorem Agree.refl (n:Nat) (J:Rho):Agree n J J:=⟨fun _ _=>rfl,fun _ _=>rfl,fun _ _=>rfl,fun _ _=>rfl,fun _ _=>rfl,fun _ _=>rfl,fun _ _=>rfl,fun _ _=>rfl⟩
theorem Agree.symm {n:Nat} {J J':Rho} (h:Agree n J J'):Agree n J' J :=
 ⟨fun k hk=>(h.i k hk).symm,fun k hk=>(h.b k hk).symm,fun k hk=>(h.s k hk).symm,fun k hk=>(h.len k hk).symm,fun k hk=>(h.ci k hk).symm,fun k hk=>(h.cb k hk).symm,fun k hk=>(h.cs k hk).symm,fun k hk=>(h.ct k hk).symm⟩
theorem Agree.trans {n:Nat} {a b c:Rho} (h:Agree n a b) (k:Agree n b c):Agree n a c :=
 ⟨fun j hj=>(h.i j hj).trans (k.i j hj),fun j hj=>(h.b j hj).trans (k.b j hj),fun j hj=>(h.s j hj).trans (k.s j hj),fun j hj=>(h.len j hj).trans (k.len j hj),fun j hj=>(h.ci j hj).trans (k.ci j hj),fun j hj=>(h.cb j hj).trans (k.cb j hj),fun j hj=>(h.cs j hj).trans (k.cs j hj),fun j hj=>(h.ct j hj).trans (k.ct j hj)⟩
theorem Agree.le {m n:Nat} {J J':Rho} (h:Agree n J J') (hm:m<=n):Agree m J J' :=
 ⟨fun k hk=>h.i k (by omega),fun k hk=>h.b k (by omega),fun k hk=>h.s k (by omega),fun k hk=>h.len k (by omega),fun k hk=>h.ci k (by omega),fun k hk=>h.cb k (by omega),fun k hk=>h.cs k (by omega),fun k hk=>h.ct k (by omega)⟩
mutual
def IE.bel (n:Nat):IE->Bool
 | .lit _=>true
 | .var i=>Nat.blt i n
 | .cl l _ j=>Nat.blt l n&&j.bel n
 | .len l=>Nat.blt l n
 | .slen t=>t.bel n
 | .byt t j=>t.bel n&&j.bel n
 | .op _ _ a b=>a.bel n&&b.bel n
 | .ite c a b=>c.bel n&&(a.bel n&&b.bel n)
 | .uf _ _ a=>a.bel n
def AL.bel (n:Nat):AL->Bool
 | .nil=>true
 | .i e r=>e.bel n&&r.bel n
 | .b e r=>e.bel n&&r.bel n
 | .s e r=>e.bel n&&r.bel n
def BE.bel (n:Nat):BE->Bool
 | .lit _=>true
 | .var i=>Nat.blt i n
 | .cl l _ j=>Nat.blt l n&&j.bel n
 | .lt a b=>a.bel n&&b.bel n
 | .eq a b=>a.bel n&&b.bel n
 | .seq a b=>a.bel n&&b.bel n
 | .slt a b=>a.bel n&&b.bel n
 | .not a=>a.bel n
 | .and a b=>a.bel n&&b.bel n
 | .or a b=>a.bel n&&b.bel n
 | .ite c a b=>c.bel n&&(a.bel n&&b.bel n)
def TE.bel (n:Nat):TE->Bool
 | .lit _=>true
 | .var i=>Nat.blt i n
 | .cl l _ j=>Nat.blt l n&&j.bel n
 | .sub t a b=>t.bel n&&(a.bel n&&b.bel n)
 | .ite c a b=>c.bel n&&(a.bel n&&b.bel n)
end
mutual
theorem IE.bel_den {n:Nat} {J J':Rho} (h:Agree n J J'):∀e:IE,e.bel n=true->e.den J=e.den J'
 | .lit _,_=>rfl
 | .var i,hb=>h.i i (by simpa [IE.bel]using hb)
 | .cl l k j,hb=>by
  simp only[IE.bel,Bool.and_eq_true]at hb
  simp only[IE.den,IE.bel_den h j hb.2,h.ci l (by simpa using hb.1)]
 | .len l,hb=>by simp only[IE.den,h.len l (by simpa [IE.bel]using hb)]
 | .slen t,hb=>by simp only[IE.den,TE.bel_den h t hb]
 | .byt t j,hb=>by
  simp only[IE.bel,Bool.and_eq_true]at hb
  simp only[IE.den,TE.bel_den h t hb.1,IE.bel_den h j hb.2]
 | .op o k a b,hb=>by
  simp only[IE.bel,Bool.and_eq_true]at hb
  simp only[IE.den,IE.bel_den h a hb.1,IE.bel_den h b hb.2]
 | .ite c a b,hb=>by
  simp only[IE.bel,Bool.and_eq_true]at hb
  simp only[IE.den,BE.bel_den h c hb.1,IE.bel_den h a hb.2.1,IE.bel_den h b hb.2.2]
 | .uf _ _ a,hb=>by simp only[IE.den,AL.bel_den h a hb]
theorem AL.bel_den {n:Nat} {J J':Rho} (h:Agree n J J'):∀e:AL,e.bel n=true->e.den J=e.den J'
 | .nil,_=>rfl
 | .i e r,hb=>by
  simp only[AL.bel,Bool.and_eq_true]at hb
  simp only[AL.den,IE.bel_den h e hb.1,AL.bel_den h r hb.2]
 | .b e r,hb=>by
  simp only[AL.bel,Bool.and_eq_true]at hb
  simp only[AL.den,BE.bel_den h e hb.1,AL.bel_den h r hb.2]
 | .s e r,hb=>by
  simp only[AL.bel,Bool.and_eq_true]at hb
  simp only[AL.den,TE.bel_den h e hb.1,AL.bel_den h r hb.2]
theorem BE.bel_den {n:Nat} {J J':Rho} (h:Agree n J J'):∀e:BE,e.bel n=true->e.den J=e.den J'
 | .lit _,_=>rfl
 | .var i,hb=>h.b i (by simpa [BE.bel]using hb)
 | .cl l k j,hb=>by
  simp only[BE.bel,Bool.and_eq_true]at hb
  simp only[BE.den,IE.bel_den h j hb.2,h.cb l (by simpa using hb.1)]
 | .lt a b,hb=>by
  simp only[BE.bel,Bool.and_eq_true]at hb
  simp only[BE.den,IE.bel_den h a hb.1,IE.bel_den h b hb.2]
 | .eq a b,hb=>by
  simp only[BE.bel,Bool.and_eq_true]at hb
  simp only[BE.den,IE.bel_den h a hb.1,IE.bel_den h b hb.2]
 | .seq a b,hb=>by
  simp only[BE.bel,Bool.and_eq_true]at hb
  simp only[BE.den,TE.bel_den h a hb.1,TE.bel_den h b hb.2]
 | .slt a b,hb=>by
  simp only[BE.bel,Bool.and_eq_true]at hb
  simp only[BE.den,TE.bel_den h a hb.1,TE.bel_den h b hb.2]
 | .not a,hb=>by simp only[BE.den,BE.bel_den h a hb]
 | .and a b,hb=>by
  simp only[BE.bel,Bool.and_eq_true]at hb
  simp only[BE.den,BE.bel_den h a hb.1,BE.bel_den h b hb.2]
 | .or a b,hb=>by
  simp only[BE.bel,Bool.and_eq_true]at hb
  simp only[BE.den,BE.bel_den h a hb.1,BE.bel_den h b hb.2]
 | .ite c a b,hb=>by
  simp only[BE.bel,Bool.and_eq_true]at hb
  simp only[BE.den,BE.bel_den h c hb.1,BE.bel_den h a hb.2.1,BE.bel_den h b hb.2.2]
theorem TE.bel_den {n:Nat} {J J':Rho} (h:Agree n J J'):∀e:TE,e.bel n=true->e.den J=e.den J'
 | .lit _,_=>rfl
 | .var i,hb=>h.s i (by simpa [TE.bel]using hb)
 | .cl l k j,hb=>by
  simp only[TE.bel,Bool.and_eq_true]at hb
  simp only[TE.den,IE.bel_den h j hb.2,h.cs l (by simpa using hb.1)]
 | .sub t a b,hb=>by
  simp only[TE.bel,Bool.and_eq_true]at hb
  simp only[TE.den,TE.bel_den h t hb.1,IE.bel_den h a hb.2.1,IE.bel_den h b hb.2.2]
 | .ite c a b,hb=>by
  simp only[TE.bel,Bool.and_eq_true]at hb
  simp only[TE.den,BE.bel_den h c hb.1,TE.bel_den h a hb.2.1,TE.bel_den h b hb.2.2]
end
def Sc.bel (n:Nat):Sc->Bool
 | .i _ e=>e.bel n
 | .b e=>e.bel n
 | .s e=>e.bel n
 | .f a z=>a.bel n&&z.bel n
 | .c a z m y=>a.bel n&&(z.bel n&&(m.bel n&&y.bel n))
theorem Sc.bel_den {n:Nat} {J J':Rho} (h:Agree n J J') (s:Sc) (hb:s.bel n=true):s.den J=s.den J':=by
 cases s with
 | i k e=>simp only[Sc.den,IE.bel_den h e hb]
 | b e=>simp only[Sc.den,BE.bel_den h e hb]
 | s e=>simp only[Sc.den,TE.bel_den h e hb]
 | f a z =>
  simp only[Sc.bel,Bool.and_eq_true]at hb
  simp only[Sc.den,IE.bel_den h a hb.1,BE.bel_den h z hb.2]
 | c a z m y =>
  simp only[Sc.bel,Bool.and_eq_true]at hb
  simp only[Sc.den,IE.bel_den h a hb.1,BE.bel_den h z hb.2.1,IE.bel_den h m hb.2.2.1,BE.bel_den h y hb.2.2.2]
theorem JV {n:Nat} {J J':Rho} (h:Agree n J J'):∀(r:List Sc),r.all (Sc.bel n)=true->mQ J r=mQ J' r
 | [],_=>rfl
 | s::r,hb=>by
  simp only[List.all_cons,Bool.and_eq_true]at hb
  have ih:=JV h r hb.2
  simp only[mQ]at ih
  simp only[mQ,List.map_cons,Sc.bel_den h s hb.1,ih]
theorem lH {n:Nat} {J J':Rho} (h:Agree n J J') {l:Nat} (hl:l<n) (j:Nat):∀(ks:List Kd) (k:Nat),aW J l k ks j=aW J' l k ks j
 | [],_=>rfl
 | .i K::ks,k=>by simp only[aW,h.ci l hl,lH h hl j ks (k+1)]
 | .b::ks,k=>by simp only[aW,h.cb l hl,lH h hl j ks (k+1)]
 | .s::ks,k=>by simp only[aW,h.cs l hl,lH h hl j ks (k+1)]
def RL.bel (n:Nat):RL->Bool
 | .var l _=>Nat.blt l n
 | .one r=>r.all (Sc.bel n)
 | .app m a b=>m.bel n&&(a.bel n&&b.bel n)
 | .drop m a=>m.bel n&&a.bel n
 | .upd i r a=>i.bel n&&(r.all (Sc.bel n)&&a.bel n)
 | .ite c a b=>c.bel n&&(a.bel n&&b.bel n)
theorem RL.bel_row {n:Nat} {J J':Rho} (h:Agree n J J'):∀(l:RL) (j:Int),l.bel n=true->l.row J j=l.row J' j
 | .var l ks,j,hb=>lH h (by simpa [RL.bel]using hb) _ ks 0
 | .one r,j,hb=>JV h r hb
 | .app m a b,j,hb=>by
  simp only[RL.bel,Bool.and_eq_true]at hb
  simp only[RL.row,IE.bel_den h m hb.1,RL.bel_row h a _ hb.2.1,RL.bel_row h b _ hb.2.2]
 | .drop m a,j,hb=>by
  simp only[RL.bel,Bool.and_eq_true]at hb
  simp only[RL.row,IE.bel_den h m hb.1,RL.bel_row h a _ hb.2]
 | .upd i r a,j,hb=>by
  simp only[RL.bel,Bool.and_eq_true]at hb
  simp only[RL.row,IE.bel_den h i hb.1,JV h r hb.2.1,RL.bel_row h a _ hb.2.2]
 | .ite c a b,j,hb=>by
  simp only[RL.bel,Bool.and_eq_true]at hb
  simp only[RL.row,BE.bel_den h c hb.1,RL.bel_row h a _ hb.2.1,RL.bel_row h b _ hb.2.2]
theorem H8 {n:Nat} {J J':Rho} (h:Agree n J J') {m:IE} {l:RL} (hm:m.bel n=true) (hl:l.bel n=true):aC J m l=aC J' m l:=by
 unfold aC
 rw[IE.bel_den h m hm]
 congr 1
 funext j
 exact RL.bel_row h l j hl
def EP (n:Nat):List Nk->Bool
 | []=>true
 | .f _::ks=>EP n ks
 | .r _ S _::ks=>Nat.blt S n&&EP n ks
theorem oh {n:Nat} {J J':Rho} (h:Agree n J J') {l:Nat} (hl:l<n) (j:Nat):∀(ks:List Nk) (k:Nat),EP n ks=true->dQ J l k ks j=dQ J' l k ks j
 | [],_,_=>rfl
 | .f kd::ks,k,hb=>by
  simp only[dQ,oh h hl j ks (k+1) hb]
  congr 1
  cases kd
  ·simp only[ve,h.ci l hl]
  ·simp only[ve,h.cb l hl]
  ·simp only[ve,h.cs l hl]
 | .r z S kk::ks,k,hb=>by
  simp only[EP,Bool.and_eq_true]at hb
  simp only[dQ,oh h hl j ks (k+1) hb.2,uu,h.ci l hl]
  congr 2
  congr 1
  funext e
  exact lH h (by simpa using hb.1) _ kk 0
theorem VU {n:Nat} {J J':Rho} (h:Agree n J J') {m:IE} {l:Nat} {ks:List Nk} (hm:m.bel n=true) (hl:Nat.blt l n=true) (hk:EP n ks=true):jB J m l ks=jB J' m l ks:=by
 unfold jB
 rw[IE.bel_den h m hm]
 congr 1
 funext j
 exact oh h (by simpa using hl) j ks 0 hk
theorem H5 {n:Nat} {J J':Rho} (h:Agree n J J') {z:Nat} {m:IE} {t:Nat} (hm:m.bel n=true) (ht:Nat.blt t n=true):bD J z m t=bD J' z m t:=by
 unfold bD
 rw[IE.bel_den h m hm,h.ct t (by simpa using ht)]
def Gv (n:Nat):List (BE×Nat)->Bool
 | []=>true
 | (c,_)::r=>c.bel n&&Gv n r
theorem pG {n:Nat} {J J':Rho} (h:Agree n J J') (d:Nat):∀az,Gv n az=true->choose J az d=choose J' az d
 | [],_=>rfl
 | (c,o)::r,hb=>by
  simp only[Gv,Bool.and_eq_true]at hb
  simp only[choose,BE.bel_den h c hb.1,pG h d r hb.2]
mutual
def X.bel (n:Nat):X->Bool
 | .top | .k _=>true
 | .sc s=>s.bel n
 | .agg cs | .tup cs=>X.belL n cs
 | .ptr _ az _=>Gv n az
 | .sl _ _ _ _ _=>true
 | .ip cs az _=>X.belL n cs&&Gv n az
 | .ro _ es _=>X.belE n es
 | .rl _ m l _=>m.bel n&&l.bel n
 | .rn _ m l ks _=>m.bel n&&(Nat.blt l n&&EP n ks)
 | .tk _ m t es | .tq _ m t es _=>m.bel n&&(Nat.blt t n&&X.belE n es)
 | .cel t _ j=>Nat.blt t n&&j.bel n
 | .fn _ xs ys=>X.belL n xs&&X.belL n ys
 | .gd c x=>c.bel n&&x.bel n
 | .rows _ m l=>m.bel n&&l.bel n
 | .slv _ _ o l _=>o.bel n&&l.bel n
 | .ptrv _ _ j _=>j.bel n
def X.belL (n:Nat):List X->Bool
 | []=>true
 | x::xs=>x.bel n&&X.belL n xs
def X.belE (n:Nat):List (List X)->Bool
 | []=>true
 | e::es=>X.belL n e&&X.belE n es
end
mutual
theorem X.bel_den {n:Nat} {J J':Rho} (h:Agree n J J'):∀x:X,x.bel n=true->x.den J=x.den J'
 | .top,_=>rfl
 | .k _,_=>rfl
 | .sc s,hb=>by simp only[X.den,Sc.bel_den h s hb]
 | .agg cs,hb=>by simp only[X.den,X.belL_den h cs hb]
 | .tup cs,hb=>by simp only[X.den,X.belL_den h cs hb]
 | .ptr _ az d,hb=>by simp only[X.den,pG h d az hb]
 | .sl _ _ _ _ _,_=>rfl
 | .ip cs az d,hb=>by
  simp only[X.bel,Bool.and_eq_true]at hb
  simp only[X.den,X.belL_den h cs hb.1,pG h d az hb.2]
 | .ro _ es _,hb=>by simp only[X.den,X.belE_den h es hb]
 | .rl _ m l _,hb=>by
  simp only[X.bel,Bool.and_eq_true]at hb
  simp only[X.den,H8 h hb.1 hb.2]
 | .rn _ m l ks _,hb=>by
  simp only[X.bel,Bool.and_eq_true]at hb
  simp only[X.den,VU h hb.1 hb.2.1 hb.2.2]
 | .tk _ _ _ _,_=>rfl
 | .tq _ m t es _,hb=>by
  simp only[X.bel,Bool.and_eq_true]at hb
  simp only[X.den,H5 h hb.1 hb.2.1,X.belE_den h es hb.2.2]
 | .cel t o j,hb=>by
  simp only[X.bel,Bool.and_eq_true]at hb
  simp only[X.den,IE.bel_den h j hb.2,h.ct t (by simpa using hb.1)]
 | .fn _ xs ys,hb=>by
  simp only[X.bel,Bool.and_eq_true]at hb
  simp only[X.den,X.belL_den h xs hb.1,X.belL_den h ys hb.2]
 | .gd c x,hb=>by
  simp only[X.bel,Bool.and_eq_true]at hb
  simp only[X.den,BE.bel_den h c hb.1,X.bel_den h x hb.2]
 | .rows _ _ _,_=>rfl
 | .slv _ _ o l _,hb=>by
  simp only[X.bel,Bool.and_eq_true]at hb
  simp only[X.den,IE.bel_den h o hb.1,IE.bel_den h l hb.2]
 | .ptrv _ _ j _,hb=>by
  simp only[X.den,IE.bel_den h j hb]
theorem X.belL_den {n:Nat} {J J':Rho} (h:Agree n J J'):∀l:List X,X.belL n l=true->X.denL J l=X.denL J' l
 | [],_=>rfl
 | x::xs,hb=>by
  simp only[X.belL,Bool.and_eq_true]at hb
  simp only[X.denL,X.bel_den h x hb.1,X.belL_den h xs hb.2]
theorem X.belE_den {n:Nat} {J J':Rho} (h:Agree n J J'):∀l:List (List X),X.belE n l=true->X.denE J l=X.denE J' l
 | [],_=>rfl
 | x::xs,hb=>by
  simp only[X.belE,Bool.and_eq_true]at hb
  simp only[X.denE,X.belL_den h x hb.1,X.belE_den h xs hb.2]
end
theorem O0 {n:Nat} {J J':Rho} (h:Agree n J J') (cs:List X) (hb:X.belL n cs=true):aF J cs=aF J' cs:=by
 unfold aF
 split
 ·simp only[X.belL,X.bel,Bool.and_eq_true]at hb
  simp only[H8 h hb.1.1 hb.1.2]
 ·simp only[X.belL,X.bel,Bool.and_eq_true]at hb
  simp only[H5 h hb.1.1 hb.1.2.1,X.belE_den h _ hb.1.2.2]
 ·exact X.belL_den h cs hb
def XS.bel (n:Nat) (s:XS):Bool:=s.t.all (fun p=>p.2.bel n)&&s.h.all fun p=>X.belL n p.2
theorem XS.bel_den {n:Nat} {J J':Rho} (h:Agree n J J') (s:XS) (hb:s.bel n=true):s.den J=s.den J':=by
 simp only[XS.bel,Bool.and_eq_true,List.all_eq_true]at hb
 simp only[XS.den,og,aV]
 congr 1
 ·exact List.map_congr_left fun p hp=>by rw[X.bel_den h p.2 (hb.1 p hp)]
 ·exact List.map_congr_left fun p hp=>by rw[O0 h p.2 (hb.2 p hp)]
structure Bind where
 i:List (Nat×IE)
 b:List (Nat×BE)
 s:List (Nat×TE)
 r:List (Nat×IE×RL)
def aB {α:Type} (k:Nat):List (Nat×α)->Option α
 | []=>none
 | (j,v)::r=>if Nat.beq j k=true then some v else aB k r
def ai:Option AV->Int
 | some (.sc (.int _ v))=>v
 | _=>0
def fU:Option AV->Bool
 | some (.sc (.bool v))=>v
 | _=>false
def cellS:Option AV->ByteArray
 | some (.sc (.string v))=>v
 | _=>⟨#[]⟩
noncomputable def Bind.ap (β:Bind) (J:Rho):Rho where
 i k:=match aB k β.i with | some e=>e.den J | none=>J.i k
 b k:=match aB k β.b with | some e=>e.den J | none=>J.b k
 s k:=match aB k β.s with | some e=>e.den J | none=>J.s k
 len k:=match aB k β.r with | some (n,_)=>(n.den J).toNat | none=>J.len k
 ci l k j:=match aB l β.r with | some (_,r)=>ai (r.row J j)[k]? | none=>J.ci l k j
 cb l k j:=match aB l β.r with | some (_,r)=>fU (r.row J j)[k]? | none=>J.cb l k j
 cs l k j:=match aB l β.r with | some (_,r)=>cellS (r.row J j)[k]? | none=>J.cs l k j
 ct:=J.ct
def kK {α:Type} (n:Nat):List (Nat×α)->Bool
 | []=>true
 | (j,_)::r=>Nat.ble n j&&kK n r
theorem jR {α:Type} {n k:Nat}:∀{l:List (Nat×α)},kK n l=true->k<n->aB k l=none
 | [],_,_=>rfl
 | (j,v)::r,h,hk=>by
  simp only[kK,Bool.and_eq_true,Nat.ble_eq]at h
  simp only[aB]
  rw[if_neg (by simp;omega)]
  exact jR h.2 hk
def Bind.ge (n:Nat) (β:Bind):Bool:=kK n β.i&&(kK n β.b&&(kK n β.s&&kK n β.r))
theorem Bind.agree {n:Nat} {β:Bind} (h:β.ge n=true) (J:Rho):Agree n J (β.ap J):=by
 simp only[Bind.ge,Bool.and_eq_true]at h
 obtain⟨h1,h2,h3,h4⟩:=h
 refine⟨fun k hk => ?_,fun k hk => ?_,fun k hk => ?_,fun k hk => ?_,fun k hk => ?_,fun k hk => ?_,fun k hk => ?_,fun _ _=>rfl⟩
 ·simp only[Bind.ap,jR h1 hk]
 ·simp only[Bind.ap,jR h2 hk]
 ·simp only[Bind.ap,jR h3 hk]
 ·simp only[Bind.ap,jR h4 hk]
 ·funext a b;simp only[Bind.ap,jR h4 hk]
 ·funext a b;simp only[Bind.ap,jR h4 hk]
 ·funext a b;simp only[Bind.ap,jR h4 hk]
def IE.nn:IE->Bool
 | .lit n=>decide (0<=n)
 | .len _ | .slen _ | .byt _ _=>true
 | .op .padd _ a b=>a.nn&&b.nn
 | .ite _ a b=>a.nn&&b.nn
 | _=>false
theorem IE.nn_den (J:Rho):∀e:IE,e.nn=true->0<=e.den J
 | .lit n,h=>by simpa [IE.nn,IE.den]using h
 | .len l,_=>by simp only[IE.den];omega
 | .slen t,_=>by simp only[IE.den];omega
 | .byt t j,_=>by simp only[IE.den];omega
 | .op .padd k a b,h=>by
  simp only[IE.nn,Bool.and_eq_true]at h
  have h1:=IE.nn_den J a h.1
  have h2:=IE.nn_den J b h.2
  simp only[IE.den,IOp.den];omega
 | .ite c a b,h=>by
  simp only[IE.nn,Bool.and_eq_true]at h
  simp only[IE.den]
  split
  ·exact IE.nn_den J a h.1
  ·exact IE.nn_den J b h.2
def aY0:Kd->Sc->Bool
 | .i k,.i k' _=>A7 k k'
 | .b,.b _=>true
 | .s,.s _=>true
 | _,_=>false
def yS:List Kd->List Sc->Bool
 | [],[]=>true
 | k::ks,s::ss=>aY0 k s&&yS ks ss
 | _,_=>false
def RL.kd (ks:List Kd):RL->Bool
 | .var _ ks'=>wX IL ks ks'
 | .one r=>yS ks r
 | .app _ a b=>a.kd ks&&b.kd ks
 | .drop _ a=>a.kd ks
 | .upd _ r a=>yS ks r&&a.kd ks
 | .ite _ a b=>a.kd ks&&b.kd ks
def ql:List Kd->List AV->Prop
 | [],l=>l=[]
 | .i k::ks,l=>∃v r,l = .sc (.int k v)::r/\ql ks r
 | .b::ks,l=>∃v r,l = .sc (.bool v)::r/\ql ks r
 | .s::ks,l=>∃v r,l = .sc (.string v)::r/\ql ks r
theorem uo {J:Rho}:∀{ks:List Kd} {r:List Sc},yS ks r=true->ql ks (mQ J r)
 | [],[],_=>rfl
 | [],_::_,h=>by cases h
 | _::_,[],h=>by simp[yS]at h
 | k::ks,s::r,h=>by
  simp only[yS,Bool.and_eq_true]at h
  have ih:=uo (J:=J) h.2
  have h1:=h.1
  cases k<;>cases s<;>simp only[aY0,Bool.false_eq_true]at h1
  ·rw[lC h1];exact⟨_,_,rfl,ih⟩
  ·exact⟨_,_,rfl,ih⟩
  ·exact⟨_,_,rfl,ih⟩
theorem wK (J:Rho) (l j:Nat):∀(ks:List Kd) (k:Nat),ql ks (aW J l k ks j)
 | [],_=>rfl
 | .i _::ks,k=>⟨_,_,rfl,wK J l j ks (k+1)⟩
 | .b::ks,k=>⟨_,_,rfl,wK J l j ks (k+1)⟩
 | .s::ks,k=>⟨_,_,rfl,wK J l j ks (k+1)⟩
theorem RL.kd_av {J:Rho} {ks:List Kd}:∀{l:RL} {j:Int},l.kd ks=true->ql ks (l.row J j)
 | .var l ks',j,h=>by
  have:=jQ (fun _ _=>zu) h
  subst this
  exact wK J l _ _ 0
 | .one r,j,h=>uo h
 | .app n a b,j,h=>by
  simp only[RL.kd,Bool.and_eq_true]at h
  simp only[RL.row]
  split
  ·exact RL.kd_av h.1
  ·exact RL.kd_av h.2
 | .drop n a,j,h=>by simp only[RL.row];exact RL.kd_av (l:=a) h
 | .upd i r a,j,h=>by
  simp only[RL.kd,Bool.and_eq_true]at h
  simp only[RL.row]
  split
  ·exact uo h.1
  ·exact RL.kd_av h.2
 | .ite c a b,j,h=>by
  simp only[RL.kd,Bool.and_eq_true]at h
  simp only[RL.row]
  split
  ·exact RL.kd_av h.1
  ·exact RL.kd_av h.2
theorem sK {J J':Rho} {l j:Nat} {row:List AV} (hi:∀k,J'.ci l k j=ai row[k]?) (hb:∀k,J'.cb l k j=fU row[k]?) (hs:∀k,J'.cs l k j=cellS row[k]?) :
  ∀(ks:List Kd) (k:Nat) (tl:List AV),(∀i,tl[i]? = row[k+i]?)->ql ks tl->aW J' l k ks j=tl
 | [],k,tl,_,h=>by simp only[ql]at h;subst h;rfl
 | .i K::ks,k,tl,ht,h=>by
  obtain⟨v,r,rfl,h⟩:=h
  have h0:=ht 0
  simp only[List.getElem?_cons_zero,Nat.add_zero]at h0
  simp only[aW,hi,<-h0,ai,sK (J:=J) hi hb hs ks (k+1) r (fun i=>by have:=ht (i+1);rw[List.getElem?_cons_succ]at this;rw[this];congr 1;omega) h]
 | .b::ks,k,tl,ht,h=>by
  obtain⟨v,r,rfl,h⟩:=h
  have h0:=ht 0
  simp only[List.getElem?_cons_zero,Nat.add_zero]at h0
  simp only[aW,hb,<-h0,fU,sK (J:=J) hi hb hs ks (k+1) r (fun i=>by have:=ht (i+1);rw[List.getElem?_cons_succ]at this;rw[this];congr 1;omega) h]
 | .s::ks,k,tl,ht,h=>by
  obtain⟨v,r,rfl,h⟩:=h
  have h0:=ht 0
  simp only[List.getElem?_cons_zero,Nat.add_zero]at h0
  simp only[aW,hs,<-h0,cellS,sK (J:=J) hi hb hs ks (k+1) r (fun i=>by have:=ht (i+1);rw[List.getElem?_cons_succ]at this;rw[this];congr 1;omega) h]
theorem Bind.rows {β:Bind} {J:Rho} {l:Nat} {n:IE} {r:RL} {ks:List Kd} (h:aB l β.r=some (n,r)) (hk:r.kd ks=true) (j:Nat):aW (β.ap J) l 0 ks j=r.row J j :=
 sK (J:=J) (row:=r.row J j) (fun k=>by simp only[Bind.ap,h]) (fun k=>by simp only[Bind.ap,h]) (fun k=>by simp only[Bind.ap,h]) ks 0 _ (fun i=>by rw[Nat.zero_add]) (RL.kd_av hk)
end Go.Proofs.Xw
namespace Go.Proofs.Xw
open Go Go.Proofs.Aw
def aj2 (r:RL) (j:IE) (k:Nat):Option Sc:=if j.nn=true then(match r.get j with
 | some row=>row[k]?
 | none=>none)else none
theorem FC {J:Rho} {r:RL} {j:IE} {k:Nat} {s:Sc} (h:aj2 r j k=some s):(r.row J ((j.den J).toNat:Nat))[k]? = some (.sc (s.den J)):=by
 unfold aj2 at h
 split at h
 ·rename_i hn
  have hn:=IE.nn_den J j hn
  split at h
  ·rename_i row hr
   rw[Int.toNat_of_nonneg hn,<-RL.get_den hr]
   unfold mQ
   rw[List.getElem?_map,h];rfl
  ·cases h
 ·cases h
theorem Gl {β:Bind} {J:Rho} {l:Nat} (he:aB l β.r=none) (j:Nat):∀(ks:List Kd) (k:Nat),aW (β.ap J) l k ks j=aW J l k ks j
 | [],_=>rfl
 | kd::ks,k=>by
  have e1:∀k,(β.ap J).ci l k j=J.ci l k j/\(β.ap J).cb l k j=J.cb l k j/\(β.ap J).cs l k j=J.cs l k j:=fun k=>by simp only[Bind.ap,he,and_self]
  cases kd<;>simp only[aW,Gl he j ks (k+1),(e1 k).1,(e1 k).2.1,(e1 k).2.2]
def o2 {α β γ:Type} (f:α->β->γ):Option α->Option β->Option γ
 | some a,some b=>some (f a b)
 | _,_=>none
theorem iP {α β γ:Type} {f:α->β->γ} {x:Option α} {y:Option β} {c:γ} (h:o2 f x y=some c):∃a b,x=some a/\y=some b/\c=f a b:=by
 unfold o2 at h
 split at h
 ·cases h;exact⟨_,_,rfl,rfl,rfl⟩
 ·cases h
mutual
def mX (β:Bind):IE->Option IE
 | .lit n=>some (.lit n)
 | .var k=>match aB k β.i with
  | some e=>some e
  | none=>some (.var k)
 | .len l=>match aB l β.r with
  | some (m,_)=>if m.nn=true then some m else none
  | none=>some (.len l)
 | .cl l k j=>match mX β j with
  | some j=>(match aB l β.r with
   | some (_,r)=>(match aj2 r j k with
    | some (.i _ e)=>some e
    | _=>none)
   | none=>some (.cl l k j))
  | none=>none
 | .slen t=>match wV β t with
  | some t=>some (.slen t)
  | none=>none
 | .byt t j=>o2 IE.byt (wV β t) (mX β j)
 | .op o k a b=>o2 (IE.op o k) (mX β a) (mX β b)
 | .ite c a b=>match nT β c with
  | some c=>o2 (IE.ite c) (mX β a) (mX β b)
  | none=>none
 | .uf k j a=>match J7 β a with
  | some a=>some (.uf k j a)
  | none=>none
def J7 (β:Bind):AL->Option AL
 | .nil=>some .nil
 | .i e r=>o2 AL.i (mX β e) (J7 β r)
 | .b e r=>o2 AL.b (nT β e) (J7 β r)
 | .s e r=>o2 AL.s (wV β e) (J7 β r)
def nT (β:Bind):BE->Option BE
 | .lit b=>some (.lit b)
 | .var k=>match aB k β.b with
  | some e=>some e
  | none=>some (.var k)
 | .cl l k j=>match mX β j with
  | some j=>(match aB l β.r with
   | some (_,r)=>(match aj2 r j k with
    | some (.b e)=>some e
    | _=>none)
   | none=>some (.cl l k j))
  | none=>none
 | .lt a b=>o2 BE.lt (mX β a) (mX β b)
 | .eq a b=>o2 BE.eq (mX β a) (mX β b)
 | .seq a b=>o2 BE.seq (wV β a) (wV β b)
 | .slt a b=>o2 BE.slt (wV β a) (wV β b)
 | .not a=>match nT β a with
  | some a=>some (.not a)
  | none=>none
 | .and a b=>o2 BE.and (nT β a) (nT β b)
 | .or a b=>o2 BE.or (nT β a) (nT β b)
 | .ite c a b=>match nT β c with
  | some c=>o2 (BE.ite c) (nT β a) (nT β b)
  | none=>none
def wV (β:Bind):TE->Option TE
 | .lit s=>some (.lit s)
 | .var k=>match aB k β.s with
  | some e=>some e
  | none=>some (.var k)
 | .cl l k j=>match mX β j with
  | some j=>(match aB l β.r with
   | some (_,r)=>(match aj2 r j k with
    | some (.s e)=>some e
    | _=>none)
   | none=>some (.cl l k j))
  | none=>none
 | .sub t a b=>match wV β t with
  | some t=>o2 (TE.sub t) (mX β a) (mX β b)
  | none=>none
 | .ite c a b=>match nT β c with
  | some c=>o2 (TE.ite c) (wV β a) (wV β b)
  | none=>none
end
mutual
theorem eP {β:Bind} {J:Rho}:∀{e e':IE},mX β e=some e'->e'.den J=e.den (β.ap J)
 | .lit n,e',h=>by simp only[mX,Option.some.injEq]at h;subst h;rfl
 | .var k,e',h=>by
  simp only[mX]at h
  split at h
  ·rename_i he
   cases h;simp only[IE.den,Bind.ap,he]
  ·rename_i he
   cases h;simp only[IE.den,Bind.ap,he]
 | .len l,e',h=>by
  simp only[mX]at h
  split at h
  ·rename_i he
   split at h
   ·rename_i hn
    cases h
    have:=IE.nn_den J _ hn
    simp only[IE.den,Bind.ap,he]
    omega
   ·cases h
  ·rename_i he
   cases h;simp only[IE.den,Bind.ap,he]
 | .cl l k j,e',h=>by
  simp only[mX]at h
  split at h
  ·rename_i hj
   split at h
   ·rename_i he
    split at h
    ·rename_i hg
     cases h
     have:=FC (J:=J) hg
     rw[eP hj]at this
     simp only[IE.den,Bind.ap,he]
     simp only[Bind.ap]at this
     rw[this];rfl
    ·cases h
   ·rename_i he
    cases h
    simp only[IE.den,eP hj]
    simp only[Bind.ap,he]
  ·cases h
 | .slen t,e',h=>by
  simp only[mX]at h
  split at h
  ·rename_i ht
   cases h;simp only[IE.den,jY ht]
  ·cases h
 | .byt t j,e',h=>by
  simp only[mX]at h
  obtain⟨a,b,h1,h2,rfl⟩:=iP h
  simp only[IE.den,jY h1,eP h2]
 | .op o k x y,e',h=>by
  simp only[mX]at h
  obtain⟨a,b,h1,h2,rfl⟩:=iP h
  simp only[IE.den,eP h1,eP h2]
 | .ite c x y,e',h=>by
  simp only[mX]at h
  split at h
  ·rename_i hc
   obtain⟨a,b,h1,h2,rfl⟩:=iP h
   simp only[IE.den,iZ hc,eP h1,eP h2]
  ·cases h
 | .uf k j a,e',h=>by
  simp only[mX]at h
  split at h
  ·rename_i ha
   cases h;simp only[IE.den,y5 ha]
  ·cases h
theorem y5 {β:Bind} {J:Rho}:∀{e e':AL},J7 β e=some e'->e'.den J=e.den (β.ap J)
 | .nil,e',h=>by simp only[J7,Option.some.injEq]at h;subst h;rfl
 | .i x r,e',h=>by
  simp only[J7]at h
  obtain⟨a,b,h1,h2,rfl⟩:=iP h
  simp only[AL.den,eP h1,y5 h2]
 | .b x r,e',h=>by
  simp only[J7]at h
  obtain⟨a,b,h1,h2,rfl⟩:=iP h
  simp only[AL.den,iZ h1,y5 h2]
 | .s x r,e',h=>by
  simp only[J7]at h
  obtain⟨a,b,h1,h2,rfl⟩:=iP h
  simp only[AL.den,jY h1,y5 h2]
theorem iZ {β:Bind} {J:Rho}:∀{e e':BE},nT β e=some e'->e'.den J=e.den (β.ap J)
 | .lit b,e',h=>by simp only[nT,Option.some.injEq]at h;subst h;rfl
 | .var k,e',h=>by
  simp only[nT]at h
  split at h
  ·rename_i he
   cases h;simp only[BE.den,Bind.ap,he]
  ·rename_i he
   cases h;simp only[BE.den,Bind.ap,he]
 | .cl l k j,e',h=>by
  simp only[nT]at h
  split at h
  ·rename_i hj
   split at h
   ·rename_i he
    split at h
    ·rename_i hg
     cases h
     have:=FC (J:=J) hg
     rw[eP hj]at this
     simp only[BE.den,Bind.ap,he]
     simp only[Bind.ap]at this
     rw[this];rfl
    ·cases h
   ·rename_i he
    cases h
    simp only[BE.den,eP hj]
    simp only[Bind.ap,he]
  ·cases h
 | .lt x y,e',h=>by
  simp only[nT]at h
  obtain⟨a,b,h1,h2,rfl⟩:=iP h
  simp only[BE.den,eP h1,eP h2]
 | .eq x y,e',h=>by
  simp only[nT]at h
  obtain⟨a,b,h1,h2,rfl⟩:=iP h
  simp only[BE.den,eP h1,eP h2]
 | .seq x y,e',h=>by
  simp only[nT]at h
  obtain⟨a,b,h1,h2,rfl⟩:=iP h
  simp only[BE.den,jY h1,jY h2]
 | .slt x y,e',h=>by
  simp only[nT]at h
  obtain⟨a,b,h1,h2,rfl⟩:=iP h
  simp only[BE.den,jY h1,jY h2]
 | .not x,e',h=>by
  simp only[nT]at h
  split at h
  ·rename_i hx
   cases h;simp only[BE.den,iZ hx]
  ·cases h
 | .and x y,e',h=>by
  simp only[nT]at h
  obtain⟨a,b,h1,h2,rfl⟩:=iP h
  simp only[BE.den,iZ h1,iZ h2]
 | .or x y,e',h=>by
  simp only[nT]at h
  obtain⟨a,b,h1,h2,rfl⟩:=iP h
  simp only[BE.den,iZ h1,iZ h2]
 | .ite c x y,e',h=>by
  simp only[nT]at h
  split at h
  ·rename_i hc
   obtain⟨a,b,h1,h2,rfl⟩:=iP h
   simp only[BE.den,iZ hc,iZ h1,iZ h2]
  ·cases h
theorem jY {β:Bind} {J:Rho}:∀{e e':TE},wV β e=some e'->e'.den J=e.den (β.ap J)
 | .lit s,e',h=>by simp only[wV,Option.some.injEq]at h;subst h;rfl
 | .var k,e',h=>by
  simp only[wV]at h
  split at h
  ·rename_i he
   cases h;simp only[TE.den,Bind.ap,he]
  ·rename_i he
   cases h;simp only[TE.den,Bind.ap,he]
 | .cl l k j,e',h=>by
  simp only[wV]at h
  split at h
  ·rename_i hj
   split at h
   ·rename_i he
    split at h
    ·rename_i hg
     cases h
     have:=FC (J:=J) hg
     rw[eP hj]at this
     simp only[TE.den,Bind.ap,he]
     simp only[Bind.ap]at this
     rw[this];rfl
    ·cases h
   ·rename_i he
    cases h
    simp only[TE.den,eP hj]
    simp only[Bind.ap,he]
  ·cases h
 | .sub t x y,e',h=>by
  simp only[wV]at h
  split at h
  ·rename_i ht
   obtain⟨a,b,h1,h2,rfl⟩:=iP h
   simp only[TE.den,jY ht,eP h1,eP h2]
  ·cases h
 | .ite c x y,e',h=>by
  simp only[wV]at h
  split at h
  ·rename_i hc
   obtain⟨a,b,h1,h2,rfl⟩:=iP h
   simp only[TE.den,iZ hc,jY h1,jY h2]
  ·cases h
end
def okI (n:Nat) (β:Bind) (p e:IE):Bool :=
 match p with
 | .uf k j a=>match mX β (.uf k j a)with
  | some e'=>e'.beq e
  | none=>false
 | .var v=>if Nat.ble n v=true then(match aB v β.i with | some e'=>e'.beq e | none=>e.beq (.var v))else e.beq (.var v)
 | .len l=>if Nat.ble n l=true then(match aB l β.r with | some (m,_)=>m.beq e&&m.nn | none=>e.beq (.len l))else e.beq (.len l)
 | p=>p.bel n&&p.beq e
def okB (n:Nat) (β:Bind) (p e:BE):Bool :=
 match p with
 | .var v=>if Nat.ble n v=true then(match aB v β.b with | some e'=>e'.beq e | none=>e.beq (.var v))else e.beq (.var v)
 | p=>p.bel n&&p.beq e
def okT (n:Nat) (β:Bind) (p e:TE):Bool :=
 match p with
 | .var v=>if Nat.ble n v=true then(match aB v β.s with | some e'=>e'.beq e | none=>e.beq (.var v))else e.beq (.var v)
 | p=>p.bel n&&p.beq e
section
variable {n:Nat} {β:Bind} (hg:β.ge n=true) {J:Rho}
include hg
theorem iM {p e:IE} (h:okI n β p e=true):p.den (β.ap J)=e.den J:=by
 unfold okI at h
 split at h
 ·split at h
  ·rename_i e' he
   rw[<-IE.beq_eq _ _ h,eP he]
  ·cases h
 ·rename_i v
  split at h
  ·split at h
   ·rename_i e' he
    rw[<-IE.beq_eq _ _ h]
    simp only[IE.den,Bind.ap,he]
   ·rename_i he
    rw[IE.beq_eq _ _ h]
    simp only[IE.den,Bind.ap,he]
  ·rename_i hv
   rw[IE.beq_eq _ _ h]
   exact((Bind.agree hg J).i v (by simpa using hv)).symm
 ·rename_i l
  split at h
  ·split at h
   ·rename_i m r he
    simp only[Bool.and_eq_true]at h
    rw[<-IE.beq_eq _ _ h.1]
    have:=IE.nn_den J m h.2
    simp only[IE.den,Bind.ap,he]
    omega
   ·rename_i he
    rw[IE.beq_eq _ _ h]
    simp only[IE.den,Bind.ap,he]
  ·rename_i hv
   rw[IE.beq_eq _ _ h]
   simp only[IE.den,(Bind.agree hg J).len l (by simpa using hv)]
 ·simp only[Bool.and_eq_true]at h
  rw[<-IE.beq_eq _ _ h.2]
  exact(IE.bel_den (Bind.agree hg J) _ h.1).symm
theorem y8 {p e:BE} (h:okB n β p e=true):p.den (β.ap J)=e.den J:=by
 unfold okB at h
 split at h
 ·rename_i v
  split at h
  ·split at h
   ·rename_i e' he
    rw[<-BE.beq_eq _ _ h]
    simp only[BE.den,Bind.ap,he]
   ·rename_i he
    rw[BE.beq_eq _ _ h]
    simp only[BE.den,Bind.ap,he]
  ·rename_i hv
   rw[BE.beq_eq _ _ h]
   exact((Bind.agree hg J).b v (by simpa using hv)).symm
 ·simp only[Bool.and_eq_true]at h
  rw[<-BE.beq_eq _ _ h.2]
  exact(BE.bel_den (Bind.agree hg J) _ h.1).symm
theorem aC6 {p e:TE} (h:okT n β p e=true):p.den (β.ap J)=e.den J:=by
 unfold okT at h
 split at h
 ·rename_i v
  split at h
  ·split at h
   ·rename_i e' he
    rw[<-TE.beq_eq _ _ h]
    simp only[TE.den,Bind.ap,he]
   ·rename_i he
    rw[TE.beq_eq _ _ h]
    simp only[TE.den,Bind.ap,he]
  ·rename_i hv
   rw[TE.beq_eq _ _ h]
   exact((Bind.agree hg J).s v (by simpa using hv)).symm
 ·simp only[Bool.and_eq_true]at h
  rw[<-TE.beq_eq _ _ h.2]
  exact(TE.bel_den (Bind.agree hg J) _ h.1).symm
end
def okC (n:Nat) (β:Bind):Sc->Sc->Bool
 | .i k p,.i k' e=>A7 k k'&&okI n β p e
 | .b p,.b e=>okB n β p e
 | .s p,.s e=>okT n β p e
 | .f p z,.f e y=>okI n β p e&&okB n β z y
 | .c p z q w,.c e y d v=>okI n β p e&&(okB n β z y&&(okI n β q d&&okB n β w v))
 | _,_=>false
theorem aC9 {n:Nat} {β:Bind} (hg:β.ge n=true) {J:Rho} {p e:Sc} (h:okC n β p e=true):p.den (β.ap J)=e.den J:=by
 unfold okC at h
 split at h
 ·simp only[Bool.and_eq_true]at h
  simp only[Sc.den,lC h.1,iM hg h.2]
 ·simp only[Sc.den,y8 hg h]
 ·simp only[Sc.den,aC6 hg h]
 ·simp only[Bool.and_eq_true]at h
  simp only[Sc.den,iM hg h.1,y8 hg h.2]
 ·simp only[Bool.and_eq_true]at h
  simp only[Sc.den,iM hg h.1,y8 hg h.2.1,iM hg h.2.2.1,y8 hg h.2.2.2]
 ·cases h
def Wn (n:Nat) (β:Bind) (p e:RL):Bool :=
 match p with
 | .var l ks=>if Nat.ble n l=true then(match aB l β.r with | some (_,r)=>r.beq e&&r.kd ks | none=>e.beq (.var l ks))else e.beq (.var l ks)
 | p=>p.bel n&&p.beq e
theorem ab1 {n:Nat} {β:Bind} (hg:β.ge n=true) {J:Rho} {p e:RL} (h:Wn n β p e=true) (j:Nat):p.row (β.ap J) j=e.row J j:=by
 unfold Wn at h
 split at h
 ·rename_i l ks
  split at h
  ·split at h
   ·rename_i m r he
    simp only[Bool.and_eq_true]at h
    rw[<-RL.beq_eq h.1]
    simp only[RL.row,Int.toNat_natCast]
    exact Bind.rows he h.2 j
   ·rename_i he
    rw[RL.beq_eq h]
    simp only[RL.row]
    exact Gl he _ ks 0
  ·rename_i hv
   rw[RL.beq_eq h]
   exact(RL.bel_row (Bind.agree hg J) (.var l ks) j (by simp only[RL.bel];simpa using hv)).symm
 ·simp only[Bool.and_eq_true]at h
  rw[<-RL.beq_eq h.2]
  exact(RL.bel_row (Bind.agree hg J) _ j h.1).symm
theorem QA {n:Nat} {β:Bind} (hg:β.ge n=true) {J:Rho} {m m':IE} {p e:RL} (hm:okI n β m m'=true) (h:Wn n β p e=true):aC (β.ap J) m p=aC J m' e:=by
 unfold aC
 rw[iM hg hm]
 congr 1
 funext j
 exact ab1 hg h j
def Ul (n:Nat) (β:Bind) (m:IE) (p:RL) (es:List (List X)):Bool :=
 okI n β m (.lit es.length)&&match es with
  | []=>true
  | es=>match Ed es with
   | some e=>Wn n β p e
   | none=>false
theorem Iq {n:Nat} {β:Bind} (hg:β.ge n=true) {J:Rho} {m:IE} {p:RL} {es:List (List X)} (h:Ul n β m p es=true):aC (β.ap J) m p=X.denE J es:=by
 unfold Ul at h
 simp only[Bool.and_eq_true]at h
 obtain⟨h1,h2⟩:=h
 split at h2
 ·have:=iM hg (J:=J) h1
  simp only[IE.den,List.length_nil]at this
  simp[aC,this,X.denE]
 ·split at h2
  ·rename_i e he
   rw[QA hg h1 h2,yN he]
  ·cases h2
mutual
def EK (n:Nat) (β:Bind) (φ:Nm->Nm):X->X->Bool
 | .sc p,.sc e=>okC n β p e
 | .agg cs,.agg ds=>CS n β φ cs ds
 | .tup cs,.tup ds=>CS n β φ cs ds
 | .sl a z o l w,.sl a' z' o' l' w'=>eG (φ a) a'&&(Nat.beq z z'&&(Nat.beq o o'&&(Nat.beq l l'&&w==w')))
 | .slv a z o l w,.slv a' z' o' l' w'=>eG (φ a) a'&&(Nat.beq z z'&&(okI n β o o'&&(okI n β l l'&&w==w')))
 | .slv a z o l w,.sl a' z' o' l' w'=>eG (φ a) a'&&(Nat.beq z z'&&(okI n β o (.lit 0)&&(Nat.beq o' 0&&(okI n β l (.lit l')&&w==w'))))
 | .ptr a az d,.ptr a' az' d'=>eG (φ a) a'&&(Nat.beq d d'&&(Gv n az&&wX Jp az az'))
 | .ptrv a z j o,.ptrv a' z' j' o'=>eG (φ a) a'&&(Nat.beq z z'&&(okI n β j j'&&Nat.beq o o'))
 | .rl z m l f,.rl z' m' l' f'=>Nat.beq z z'&&(f==f'&&(okI n β m m'&&Wn n β l l'))
 | .rl z m l f,.ro z' es f'=>Nat.beq z z'&&(f==f'&&Ul n β m l es)
 | .rn z m l ks f,.rn z' m' l' ks' f'=>Nat.beq z z'&&(f==f'&&(okI n β m m'&&(Nat.beq l l'&&(wX Uy ks ks'&&(Nat.blt l n&&EP n ks)))))
 | .ro z es f,.ro z' es' f'=>Nat.beq z z'&&(f==f'&&Qz n β φ es es')
 | .ip cs az d,.ip cs' az' d'=>CS n β φ cs cs'&&(Nat.beq d d'&&(Gv n az&&wX Jp az az'))
 | .fn f xs ys,.fn f' xs' ys'=>U6 f f'&&(CS n β φ xs xs'&&CS n β φ ys ys')
 | .gd c x,.gd c' x'=>okB n β c c'&&EK n β φ x x'
 | .k v,.k v'=>VI v v'
 | .tq z m t es f,.tq z' m' t' es' f'=>Nat.beq z z'&&(f==f'&&(okI n β m m'&&(Nat.beq t t'&&Qz n β φ es es')))
 | .cel t k j,.cel t' k' j'=>Nat.beq t t'&&(Nat.beq k k'&&okI n β j j')
 | .top,.top=>true
 | _,_=>false
def CS (n:Nat) (β:Bind) (φ:Nm->Nm):List X->List X->Bool
 | [],[]=>true
 | a::az,b::bs=>EK n β φ a b&&CS n β φ az bs
 | _,_=>false
def Qz (n:Nat) (β:Bind) (φ:Nm->Nm):List (List X)->List (List X)->Bool
 | [],[]=>true
 | a::az,b::bs=>CS n β φ a b&&Qz n β φ az bs
 | _,_=>false
end
theorem NE {n:Nat} {β:Bind} (hg:β.ge n=true) {J:Rho} {z t:Nat} {m m':IE} (h:okI n β m m'=true):bD (β.ap J) z m t=bD J z m' t:=by
 unfold bD
 rw[iM hg h]
 rfl
theorem H9 (φ:Nm->Nm) (J:Rho) (n:IE) (l:RL):Aw.renE φ (aC J n l)=aC J n l:=jK φ _ lq
mutual
theorem DD {n:Nat} {β:Bind} (hg:β.ge n=true) {φ:Nm->Nm} {J:Rho}:∀(p e:X),EK n β φ p e=true->e.den J=Aw.ren φ (p.den (β.ap J))
 | .sc p,e,h=>by
  cases e<;>simp only[EK,Bool.false_eq_true]at h
  simp only[X.den,Aw.ren,aC9 hg h]
 | .agg cs,e,h=>by
  cases e<;>simp only[EK,Bool.false_eq_true]at h
  simp only[X.den,Aw.ren,mY hg _ _ h]
 | .tup cs,e,h=>by
  cases e<;>simp only[EK,Bool.false_eq_true]at h
  simp only[X.den,Aw.ren,mY hg _ _ h]
 | .sl a z o l w,e,h=>by
  cases e<;>simp only[EK,Bool.false_eq_true]at h
  simp only[Bool.and_eq_true,beq_iff_eq]at h
  obtain⟨h1,h2,h3,h4,h5⟩:=h
  simp only[X.den,Aw.ren,bT h1,Nat.eq_of_beq_eq_true h2,Nat.eq_of_beq_eq_true h3,Nat.eq_of_beq_eq_true h4,h5]
 | .slv a z o l w,e,h=>by
  cases e<;>simp only[EK,Bool.false_eq_true]at h
  ·simp only[Bool.and_eq_true,beq_iff_eq]at h
   obtain⟨h1,h2,h3,h4,h5,h6⟩:=h
   have h3:=iM hg (J:=J) h3
   have h5:=iM hg (J:=J) h5
   simp only[IE.den]at h5 h3
   simp only[X.den,Aw.ren,bT h1,Nat.eq_of_beq_eq_true h2,Nat.eq_of_beq_eq_true h4,h5,h6,h3,Int.toNat_zero,Nat.zero_mul,Int.toNat_natCast]
  ·simp only[Bool.and_eq_true,beq_iff_eq]at h
   obtain⟨h1,h2,h3,h4,h5⟩:=h
   simp only[X.den,Aw.ren,bT h1,Nat.eq_of_beq_eq_true h2,iM hg h3,iM hg h4,h5]
 | .ptr a az d,e,h=>by
  cases e<;>simp only[EK,Bool.false_eq_true]at h
  simp only[Bool.and_eq_true]at h
  obtain⟨h1,h2,h3,h4⟩:=h
  simp only[X.den,Aw.ren,bT h1,Nat.eq_of_beq_eq_true h2,jQ vk h4]
  rw[<-jQ vk h4,pG (Bind.agree hg J) _ az h3]
 | .ptrv a z j o,e,h=>by
  cases e<;>simp only[EK,Bool.false_eq_true]at h
  simp only[Bool.and_eq_true]at h
  obtain⟨h1,h2,h3,h4⟩:=h
  simp only[X.den,Aw.ren,bT h1,Nat.eq_of_beq_eq_true h2,iM hg h3,Nat.eq_of_beq_eq_true h4]
 | .rl z m l f,e,h=>by
  cases e<;>simp only[EK,Bool.false_eq_true]at h
  ·simp only[Bool.and_eq_true,beq_iff_eq]at h
   obtain⟨h1,h2,h3⟩:=h
   simp only[X.den,Aw.ren,H9,Nat.eq_of_beq_eq_true h1,h2]
   rw[Iq hg h3]
  ·simp only[Bool.and_eq_true,beq_iff_eq]at h
   obtain⟨h1,h2,h3,h4⟩:=h
   simp only[X.den,Aw.ren,H9,QA hg h3 h4,Nat.eq_of_beq_eq_true h1,h2]
 | .ro z es f,e,h=>by
  cases e<;>simp only[EK,Bool.false_eq_true]at h
  simp only[Bool.and_eq_true,beq_iff_eq]at h
  obtain⟨h1,h2,h3⟩:=h
  simp only[X.den,Aw.ren,Nat.eq_of_beq_eq_true h1,h2,EJ hg _ _ h3]
 | .ip cs az d,e,h=>by
  cases e<;>simp only[EK,Bool.false_eq_true]at h
  simp only[Bool.and_eq_true]at h
  obtain⟨h1,h2,h3,h4⟩:=h
  simp only[X.den,Aw.ren,mY hg _ _ h1,Nat.eq_of_beq_eq_true h2]
  rw[<-jQ vk h4,pG (Bind.agree hg J) _ az h3]
 | .fn f xs ys,e,h=>by
  cases e<;>simp only[EK,Bool.false_eq_true]at h
  simp only[Bool.and_eq_true]at h
  obtain⟨h1,h2,h3⟩:=h
  simp only[X.den,Aw.ren,OO h1,mY hg _ _ h2,mY hg _ _ h3]
 | .gd c x,e,h=>by
  cases e<;>simp only[EK,Bool.false_eq_true]at h
  simp only[Bool.and_eq_true]at h
  obtain⟨h1,h2⟩:=h
  simp only[X.den,y8 hg h1,DD hg _ _ h2]
  split<;>rfl
 | .k v,e,h=>by
  cases e<;>simp only[EK,Bool.false_eq_true]at h
  simp only[X.den,Aw.ren,JD h]
 | .top,e,h=>by
  cases e<;>simp only[EK,Bool.false_eq_true]at h
  rfl
 | .rows _ _ _,e,h=>by cases e<;>simp only[EK,Bool.false_eq_true]at h
 | .rn z m l ks f,e,h=>by
  cases e<;>simp only[EK,Bool.false_eq_true]at h
  simp only[Bool.and_eq_true,beq_iff_eq]at h
  obtain⟨h1,h2,h3,h4,h5,h6,h7⟩:=h
  have e1:=Nat.eq_of_beq_eq_true h1
  have e4:=Nat.eq_of_beq_eq_true h4
  have e5:=jQ (fun _ _=>N8) h5
  subst e1 h2 e4 e5
  have hr:∀m',okI n β m m'=true->jB (β.ap J) m l ks=jB J m' l ks:=fun m' hm=>by
   unfold jB
   rw[iM hg hm]
   congr 1
   funext j
   exact(oh (Bind.agree hg J) (by simpa using h6) j ks 0 h7).symm
  simp only[X.den,Aw.ren,hr _ h3]
  rw[jK φ _ vZ]
 | .tk _ _ _ _,e,h=>by cases e<;>simp only[EK,Bool.false_eq_true]at h
 | .tq z m t es f,e,h=>by
  cases e<;>simp only[EK,Bool.false_eq_true]at h
  simp only[Bool.and_eq_true,beq_iff_eq]at h
  obtain⟨h1,h2,h3,h4,h5⟩:=h
  have e1:=Nat.eq_of_beq_eq_true h1
  have e4:=Nat.eq_of_beq_eq_true h4
  subst e1 h2 e4
  simp only[X.den,Aw.ren,yV,EJ hg _ _ h5]
  rw[jK φ _ jL,NE hg h3]
 | .cel t k j,e,h=>by
  cases e<;>simp only[EK,Bool.false_eq_true]at h
  simp only[Bool.and_eq_true]at h
  obtain⟨h1,h2,h3⟩:=h
  have e1:=Nat.eq_of_beq_eq_true h1
  have e2:=Nat.eq_of_beq_eq_true h2
  subst e1 e2
  simp only[X.den,iM hg h3]
  exact(qN φ _ (J.ct _ _ _).2.1).symm
theorem mY {n:Nat} {β:Bind} (hg:β.ge n=true) {φ:Nm->Nm} {J:Rho}:∀(p e:List X),CS n β φ p e=true->X.denL J e=Aw.renL φ (X.denL (β.ap J) p)
 | [],[],_=>rfl
 | [],_::_,h=>by simp[CS]at h
 | _::_,[],h=>by simp[CS]at h
 | a::az,b::bs,h=>by
  simp only[CS,Bool.and_eq_true]at h
  simp only[X.denL,Aw.renL,DD hg a b h.1,mY hg az bs h.2]
theorem EJ {n:Nat} {β:Bind} (hg:β.ge n=true) {φ:Nm->Nm} {J:Rho}:∀(p e:List (List X)),Qz n β φ p e=true->X.denE J e=Aw.renE φ (X.denE (β.ap J) p)
 | [],[],_=>rfl
 | [],_::_,h=>by simp[Qz]at h
 | _::_,[],h=>by simp[Qz]at h
 | a::az,b::bs,h=>by
  simp only[Qz,Bool.and_eq_true]at h
  simp only[X.denE,Aw.renE,mY hg a b h.1,EJ hg az bs h.2]
end
def okO (n:Nat) (β:Bind) (φ:Nm->Nm) (p e:List X):Bool :=
 match p with
 | [.rows z m l]=>l.wd z&&match e with
  | [.rows z' m' l']=>Nat.beq z z'&&(okI n β m m'&&Wn n β l l')
  | e => !aZ e&&(Nat.blt 0 z&&(Nat.beq e.length (e.length / z*z)&&Ul n β m l (pF z (e.length / z) e)))
 | [.tk z m t []]=>(match e with
  | [.tk z' m' t' []]=>Nat.beq z z'&&(Nat.beq t t'&&okI n β m m')
  | _=>false)
 | p => !aZ e&&(!aZ p&&CS n β φ p e)
theorem QD {p:Nm->Bool} {J:Rho} {n:IE} {l:RL}:Aw.nmsL p (aC J n l).flatten=true:=jM lq
theorem Um {n:Nat} {β:Bind} (hg:β.ge n=true) {φ:Nm->Nm} {J:Rho} {p e:List X} (h:okO n β φ p e=true):aF J e=Aw.renL φ (aF (β.ap J) p):=by
 unfold okO at h
 split at h
 ·rename_i z m l
  simp only[Bool.and_eq_true]at h
  obtain⟨hw,h⟩:=h
  have e1:Aw.renL φ (aF (β.ap J) [.rows z m l])=(aC (β.ap J) m l).flatten:=gG φ _ QD
  rw[e1]
  split at h
  ·simp only[Bool.and_eq_true]at h
   simp only[aF,QA hg h.2.1 h.2.2]
  ·simp only[Bool.and_eq_true,Bool.not_eq_true']at h
   obtain⟨h1,h2,h3,h4⟩:=h
   rw[bC h1,Iq hg h4,mF,kD _ _ _ (by rw[X.denL_len];exact Nat.eq_of_beq_eq_true h3)]
 ·rename_i z m t
  split at h
  ·simp only[Bool.and_eq_true]at h
   obtain⟨h1,h2,h3⟩:=h
   have e1:=Nat.eq_of_beq_eq_true h1
   have e2:=Nat.eq_of_beq_eq_true h2
   subst e1 e2
   simp only[aF,X.denE,List.append_nil]
   rw[gG φ _ (jM jL),NE hg h3]
  ·cases h
 ·simp only[Bool.and_eq_true,Bool.not_eq_true']at h
  rw[bC h.1,bC h.2.1]
  exact mY hg _ _ h.2.2
def iJ:List (Nm×Nm)->Nm->Nm
 | [],m=>m
 | (a,b)::r,m=>if eG a m=true then b else iJ r m
def Uk (n:Nat) (β:Bind) (φ:Nm->Nm) (nx:Nat) (p e:X):Bool:=match p with
 | .top=>true
 | p=>X.nms (fun m=>Nat.blt m.1 nx) p&&EK n β φ p e
def QV (φ:Nm->Nm):List Nm->Bool
 | []=>true
 | m::r=>r.all (fun k=>eG m k || !eG (φ m) (φ k))&&QV φ r
def ae5 (k0:Nat):List (Nm×Nm)->Bool
 | []=>true
 | (a,b)::r=>(Nat.ble k0 a.1||eG a b)&&ae5 k0 r
structure Pat where
 n:Nat
 S:XS
def okS (k0 n:Nat) (β:Bind) (nm:List (Nm×Nm)) (S σ:XS):Bool :=
  β.ge n&&(Nat.ble k0 S.nx&&(ae5 k0 nm&&(QV (iJ nm) (S.h.map (·.1)) &&
  (S.t.all (fun p=>Uk n β (iJ nm) S.nx (bJ S.t p.1) (bJ σ.t p.1)) &&
   S.h.all (fun p=>match aT S.h p.1 with
    | some cs=>X.nmsL (fun m=>Nat.blt m.1 S.nx) cs&&(Nat.blt p.1.1 S.nx&&(match aT σ.h (iJ nm p.1)with
      | some es=>okO n β (iJ nm) cs es
      | none=>false))
    | none=>true)))))
theorem AC {k0:Nat}:∀{nm:List (Nm×Nm)} {m:Nm},ae5 k0 nm=true->m.1<k0->iJ nm m=m
 | [],_,_,_=>rfl
 | (a,b)::r,m,h,hm=>by
  simp only[ae5,Bool.and_eq_true,Bool.or_eq_true,Nat.ble_eq]at h
  simp only[iJ]
  split
  ·rename_i ha
   have:=bT ha
   subst this
   rcases h.1 with h1 | h1
   ·omega
   ·exact(bT h1).symm
  ·exact AC h.2 hm
theorem DN {φ:Nm->Nm}:∀{l:List Nm},QV φ l=true->∀m∈l,∀m'∈l,φ m=φ m'->m=m'
 | [],_,m,hm,_,_,_=>by cases hm
 | a::r,h,m,hm,m',hm',he=>by
  simp only[QV,Bool.and_eq_true,List.all_eq_true,Bool.or_eq_true,Bool.not_eq_true']at h
  rcases List.mem_cons.1 hm with rfl | hm1
  ·rcases List.mem_cons.1 hm' with rfl | hm2
   ·rfl
   ·rcases h.1 m' hm2 with h1 | h1
    ·exact bT h1
    ·rw[he]at h1;simp[eG]at h1
  ·rcases List.mem_cons.1 hm' with rfl | hm2
   ·rcases h.1 m hm1 with h1 | h1
    ·exact(bT h1).symm
    ·rw[he]at h1;simp[eG]at h1
   ·exact DN h.2 m hm1 m' hm2 he
theorem qK:∀(t:ig) (i:Nat),bJ t i = .top\/∃v,(i,v)∈t
 | [],i => .inl rfl
 | (j,v)::l,i=>by
  simp only[bJ]
  split
  ·rename_i h;have h:=Nat.eq_of_beq_eq_true h;subst h;exact .inr ⟨v,List.mem_cons_self⟩
  ·rcases qK l i with h | ⟨w,h⟩
   ·exact .inl h
   ·exact .inr ⟨w,List.mem_cons_of_mem _ h⟩
theorem kU:∀(h:bg) (m:Nm) (cs:List X),aT h m=some cs->(m,cs)∈h
 | [],_,_,h=>by cases h
 | (k,v)::l,m,cs,h=>by
  simp only[aT]at h
  split at h
  ·rename_i e;have:=bT e;subst this;cases h;exact List.mem_cons_self
  ·exact List.mem_cons_of_mem _ (kU l m cs h)
theorem jq {E:Aw.Env} {k0 n:Nat} (hb:∀m,E.c0.kn m->m.1<k0) {β:Bind} {nm:List (Nm×Nm)} {S σ:XS} (h:okS k0 n β nm S σ=true) (J:Rho):wZ E (σ.den J) (S.den (β.ap J)):=by
 simp only[okS,Bool.and_eq_true,Nat.ble_eq]at h
 obtain⟨hg,hk,hlow,hinj,ht,hh⟩:=h
 have key:∀m cs,hget (aV (β.ap J) S.h) m=some cs->∃ds es,aT S.h m=some ds/\cs=aF (β.ap J) ds/\X.nmsL (fun m=>Nat.blt m.1 S.nx) ds=true/\m.1<S.nx/\aT σ.h (iJ nm m)=some es/\okO n β (iJ nm) ds es=true:=fun m cs hcs=>by
  rw[aG]at hcs
  obtain⟨ds,hd,rfl⟩:=Option.map_eq_some_iff.1 hcs
  have:=List.all_eq_true.1 hh _ (kU _ _ _ hd)
  simp only[hd,Bool.and_eq_true,Nat.blt_eq]at this
  obtain⟨h1,h2,h3⟩:=this
  split at h3
  ·rename_i es he
   exact⟨ds,es,hd,rfl,h1,h2,he,h3⟩
  ·cases h3
 refine L8 (σ':=S.den (β.ap J)) (iJ nm) hb (fun m hm=>AC hlow hm) hk (fun i => ?_) (fun m cs hcs => ?_) (fun m m' hm hm' he => ?_)
 ·simp only[XS.den,dW]
  rcases qK S.t i with h | ⟨v,hv⟩
  ·rw[h];exact .inl rfl
  ·have:=List.all_eq_true.1 ht _ hv
   simp only[Uk]at this
   split at this
   ·rename_i hp;rw[hp];exact .inl rfl
   ·simp only[Bool.and_eq_true]at this
    exact .inr ⟨X.nms_den _ _ this.1,DD hg _ _ this.2⟩
 ·obtain⟨ds,es,h1,rfl,h3,h4,h5,h6⟩:=key m cs hcs
  refine⟨X.nmsO_den _ _ h3,h4,?_⟩
  simp only[XS.den]
  rw[aG,h5,Option.map_some,Um hg h6]
 ·obtain⟨cs,hcs⟩:=Option.isSome_iff_exists.1 hm
  obtain⟨cs',hcs'⟩:=Option.isSome_iff_exists.1 hm'
  obtain⟨ds,_,h1,_⟩:=key m cs hcs
  obtain⟨ds',_,h1',_⟩:=key m' cs' hcs'
  exact DN hinj m (List.mem_map.2 ⟨_,kU _ _ _ h1,rfl⟩) m' (List.mem_map.2 ⟨_,kU _ _ _ h1',rfl⟩) he
def bW:Code->Option Nat
 | .region id _ _=>some id
 | .seq a b=>match bW a with
  | some k=>some k
  | none=>bW b
 | .cond _ a b=>match bW a with
  | some k=>some k
  | none=>bW b
 | .block _ c=>bW c
 | .loop c=>bW c
 | _=>none
structure LoopX where
 key:Nat
 k0:Nat
 n:Nat
 S:XS
 init:Bind
 nm:List (Nm×Nm)
 out:T (XE×XS)
def LoopOk (P:Program) (J:Rho) (N:Nat) (c:Code) (L:LoopX):Prop :=
 ∀E:Aw.Env,E.N=N->(∀m,E.c0.kn m->m.1<L.k0)->AW P E (.loop c) (fun e σ=>∃e' s,L.out.sel J=some (e',s)/\e=e'.to/\wZ E σ (s.den J)) (L.S.den (L.init.ap J))
def LoopX.hv (L:LoopX):Bool:=Nat.beq L.n 0
def hvL (key I O:Nat):LoopX:=⟨key,I,0,⟨[],[],O⟩,⟨[],[],[],[]⟩,[],.fail []⟩
def nN (k:Option Nat):List LoopX->List LoopX
 | []=>[]
 | L::r=>match k with
  | some k=>if(Nat.beq L.key k && !L.hv)=true then L::nN (some k) r else nN (some k) r
  | none=>[]
def aQ9 (k:Option Nat):List LoopX->Option (Nat×Nat)
 | []=>none
 | L::r=>match k with
  | some k=>if(Nat.beq L.key k&&L.hv)=true then some (L.k0,L.S.nx)else aQ9 (some k) r
  | none=>none
def be8 (b t:ig):Bool:=b.all fun p=>t.any fun q=>Nat.beq q.1 p.1
def Au (b : ig) (p : XE × XS) : T (XE × XS) := if be8 b p.2.t = true then .ret (p.1, ⟨sqK p.2.t (p.2.t.map (·.1)) [] b, p.2.h, p.2.nx⟩) else .fail ["keys"]
theorem Ib {J:Rho} {b:ig} {p:XE×XS} {e:XE} {s:XS} (h:(Au b p).sel J=some (e,s)):e=p.1/\LeS (s.den J) (p.2.den J)/\Ext b s.t:=by
 unfold Au at h
 split at h
 ·rename_i hk
  cases h
  refine⟨rfl,⟨fun i => ?_,fun m cs hcs=>⟨cs,hcs,LeC.refl cs⟩,Nat.le_refl _⟩,pR _ _ _ _⟩
  simp only[XS.den,dW,ul]
  split
  ·exact LeA.refl _
  ·rename_i hn
   simp only[List.not_mem_nil,not_false_eq_true,and_true]at hn
   have h1:bJ b i = .top:=by
    rcases qK b i with h | ⟨v,hv⟩
    ·exact h
    ·have:=List.all_eq_true.1 hk _ hv
     obtain⟨q,hq,he⟩:=List.any_eq_true.1 this
     have he:=Nat.eq_of_beq_eq_true he
     exact absurd (List.mem_map.2 ⟨q,hq,he⟩) hn
   rw[h1];exact LeA.top _
 ·cases h
def EU (k0:Nat) (L:LoopX) (Φ:Facts) (σ:XS):T (XE×XS) :=
 if (Nat.beq L.k0 k0 && okS k0 L.n L.init L.nm L.S σ) = true then L.out.bind Φ fun _ p => Au σ.t p else .fail ["loop", Nat.repr k0, Nat.repr σ.nx]
def AX (k0:Nat) (Φ:Facts) (σ:XS):List LoopX->T (XE×XS)
 | [] => .fail ["loops"]
 | [L]=>EU k0 L Φ σ
 | L::r=>if(Nat.beq L.k0 k0&&okS k0 L.n L.init L.nm L.S σ)=true then EU k0 L Φ σ else AX k0 Φ σ r
theorem ae6 {P:Program} {E:Aw.Env} {J:Rho} {k0:Nat} {L:LoopX} {c:Code} (hb:∀m,E.c0.kn m->m.1<k0) (hL:LoopOk P J E.N c L) {Φ:Facts} (hk:Facts.ok J Φ) {σ σ':XS} {e:XE} (h:(EU k0 L Φ σ).sel J=some (e,σ')) :
  AW P E (.loop c) (fun e' s=>e'=e.to/\wZ E s (σ'.den J)) (σ.den J):=by
 unfold EU at h
 split at h
 ·rename_i hc
  simp only[Bool.and_eq_true]at hc
  have hk0:=Nat.eq_of_beq_eq_true hc.1
  subst hk0
  obtain⟨_,p,_,h1,h2⟩:=T.sel_bind _ hk h
  obtain⟨rfl,hle,_⟩:=Ib h2
  refine sW (jq hb hc.2 J) (bY (fun e' s hq => ?_) (hL E rfl hb))
  obtain⟨e1,s1,g1,g2,g3⟩:=hq
  rw[h1]at g1
  cases g1
  exact⟨g2,fun a w hr=>BG hle a w (g3 a w hr)⟩
 ·cases h
theorem IG {k0:Nat} {L:LoopX} {Φ:Facts} {σ:XS}:(EU k0 L Φ σ).All fun p=>Ext σ.t p.2.t:=by
 unfold EU
 split
 ·refine T.All_bind (p:=fun _=>True) (fun Φ p _ => ?_) (T.All_true _)
  unfold Au
  split
  ·exact pR _ _ _ _
  ·trivial
 ·trivial
theorem ET {J:Rho} {k0:Nat} {Φ:Facts} {σ σ':XS} {e:XE}:∀{Ls:List LoopX},(AX k0 Φ σ Ls).sel J=some (e,σ')->∃L∈Ls,(EU k0 L Φ σ).sel J=some (e,σ')
 | [],h=>by cases h
 | [L],h=>⟨L,List.mem_singleton.2 rfl,h⟩
 | L::M::r,h=>by
  simp only[AX]at h
  split at h
  ·exact⟨L,List.mem_cons_self,h⟩
  ·obtain⟨K,hK,h2⟩:=ET (Ls:=M::r) h
   exact⟨K,List.mem_cons_of_mem _ hK,h2⟩
theorem xH {k0:Nat} {Φ:Facts} {σ:XS}:∀{Ls:List LoopX},(AX k0 Φ σ Ls).All fun p=>Ext σ.t p.2.t
 | []=>trivial
 | [L]=>IG
 | L::M::r=>by
  simp only[AX]
  split
  ·exact IG
  ·exact xH (Ls:=M::r)
end Go.Proofs.Xw
namespace Go.Proofs.Xw
open Go Go.Proofs.Aw
def IM (b:ig) (body:Facts->XS->T (XE×XS)):Nat->Facts->XS->T (XE×XS)
 | 0,_,_=>(.fail [])
 | n+1,Φ,σ=>uQ b ((body Φ σ).bind Φ fun Φ p=>match p.1 with
  | .normal=>IM b body n Φ (squeeze b p.2)
  | e => .ret (e,p.2))
def leave (id:Nat) (p:XE×XS):XE×XS :=
 match p.1 with
 | .exit j=>if Nat.beq j id=true then(.normal,p.2)else p
 | _=>p
def xO:Nat:=90000
theorem aP (x:Int) (h0 : -9223372036854775808<=x) (h1:x<9223372036854775808):IntKind.i64.wrap x=x:=IntWalk.i64_in x ⟨by omega,by omega⟩
def ac3 : bI := fun _ _ _ _ _ => .fail ["call"]
theorem Xk (P:Program) (J:Rho):dJ P J ac3:=fun _ _ _ _ _ _ _ _ h=>by cases h
def hvS (I:Nat) (m:Nm) (z:Nat) (n:IE) (σ:XS):XS:=⟨(I,.sc (.i .i64 (.var xO)))::σ.t,IP σ.h m [.rows z n (.var xO [.s])],σ.nx⟩
def hvI:IE := .op .add .i64 (.var xO) (.lit 1)
def hvF (n:IE) (Φ:Facts):Facts:=(.lt (.var xO) (.lit 0),false)::(.lt n (.var xO),false)::(.lt (.lit 4611686018427387904) (.var xO),false)::Φ.filter fun p=>p.1.bel xO
def Hw (Φ:Facts) (e:BE) (b:Bool):Bool:=match red Φ e with
 | .lit v=>v==b
 | _=>false
def hvR (m:Nm) (s:XS):RL:=match aT s.h m with
 | some [.rows _ _ l]=>l
 | _ => .one []
def KW (m:Nm) (n e:IE) (s:XS):Bind:=⟨[(xO,e)],[],[],[(xO,n,hvR m s)]⟩
def Zw (k0 I:Nat) (e:IE) (m:Nm) (n:IE) (S s:XS):Bool :=
 Nat.ble k0 S.nx&&(n.bel xO&&(X.beq (bJ S.t I) (.sc (.i .i64 (.var xO)))&&(X.beq (bJ s.t I) (.sc (.i .i64 e)) &&
 (S.t.all (fun p=>Nat.beq p.1 I||(match bJ S.t p.1 with
  | .top=>true
  | x=>X.nms (fun k=>Nat.blt k.1 S.nx) x&&(x.bel xO&&X.beq x (bJ s.t p.1)))) &&
 (S.h.all (fun p=>eG p.1 m||(match aT S.h p.1 with
  | some cs=>X.nmsL (fun k=>Nat.blt k.1 S.nx) cs&&(Nat.blt p.1.1 S.nx&&(X.belL xO cs&&(match aT s.h p.1 with | some ds=>X.beqL cs ds | none=>false)))
  | none=>true)) &&
 (Nat.blt m.1 S.nx&&(match aT S.h m,aT s.h m with
  | some [.rows z n1 (.var v [.s])],some [.rows z' n2 l]=>Nat.beq v xO&&(Nat.beq z 1&&(Nat.beq z' 1&&(n1.beq n&&(n2.beq n&&l.kd [.s]))))
  | _,_=>false)))))))
theorem KU (m:Nm) (n e:IE) (s:XS):(KW m n e s).ge xO=true:=by simp[Bind.ge,kK,KW]
theorem Nh {E:Aw.Env} {k0:Nat} (hb:∀m,E.c0.kn m->m.1<k0) {I:Nat} {e:IE} {m:Nm} {n:IE} {S s:XS} (h:Zw k0 I e m n S s=true) (J:Rho):wZ E (s.den J) (S.den ((KW m n e s).ap J)):=by
 simp only[Zw,Bool.and_eq_true,Nat.ble_eq]at h
 obtain⟨h0,hn,h1,h2,h3,h4,h5,h6⟩:=h
 have ag:Agree xO J ((KW m n e s).ap J):=Bind.agree (KU _ _ _ _) J
 have e1:=X.beq_eq _ _ h1
 have e2:=X.beq_eq _ _ h2
 have obj:∀k cs,hget (S.den ((KW m n e s).ap J)).h k=some cs->Aw.nmsL (fun k=>Nat.blt k.1 S.nx) cs=true/\k.1<S.nx/\hget (s.den J).h k=some cs:=fun k cs hcs=>by
  simp only[XS.den,aG]at hcs ⊢
  obtain⟨ds,hd,rfl⟩:=Option.map_eq_some_iff.1 hcs
  by_cases hm:k=m
  ·subst hm
   rw[hd]at h6
   split at h6
   ·rename_i z n1 v z' n2 l g1 g2
    cases g1
    simp only[Bool.and_eq_true]at h6
    obtain⟨k1,k2,k3,k4,k5,k6⟩:=h6
    have k1:=Nat.eq_of_beq_eq_true k1
    have k2:=Nat.eq_of_beq_eq_true k2
    have k3:=Nat.eq_of_beq_eq_true k3
    have k4:=IE.beq_eq _ _ k4
    have k5:=IE.beq_eq _ _ k5
    subst k1 k2 k3 k4 k5
    refine⟨jM lq,by simpa using h5,?_⟩
    have hl:aB xO (KW k n2 e s).r=some (n2,l):=by
     simp only[KW,aB,Nat.beq_refl,if_true,hvR,g2]
    rw[g2,Option.map_some]
    simp only[aF]
    refine congrArg some (congrArg List.flatten ?_)
    unfold aC
    rw[<-IE.bel_den ag n2 hn]
    refine List.map_congr_left fun j _ => ?_
    have:=Bind.rows (β:=KW k n2 e s) (J:=J) hl k6 j
    simp only[RL.row,Int.toNat_natCast]
    exact this.symm
   ·cases h6
  ·have:=List.all_eq_true.1 h4 _ (kU _ _ _ hd)
   simp only[hd,Bool.or_eq_true,Bool.and_eq_true,Nat.blt_eq]at this
   rcases this with h7 | ⟨g1,g2,g3,g4⟩
   ·exact absurd (bT h7) hm
   ·refine⟨X.nmsO_den _ _ g1,g2,?_⟩
    split at g4
    ·rename_i ds' hd'
     rw[hd',<-X.beqL_eq _ _ g4,Option.map_some,O0 ag _ g3]
    ·cases g4
 refine L8 (σ':=S.den ((KW m n e s).ap J)) id hb (fun _ _=>rfl) h0 (fun i => ?_) (fun k cs hcs => ?_) (fun _ _ _ _ he=>he)
 ·simp only[XS.den,dW]
  rcases qK S.t i with h | ⟨v,hv⟩
  ·rw[h];exact .inl rfl
  ·by_cases hi:i=I
   ·subst hi
    rw[e1,e2]
    exact .inr ⟨rfl,rfl⟩
   ·have:=List.all_eq_true.1 h3 _ hv
    simp only[Bool.or_eq_true]at this
    rcases this with h7 | h7
    ·exact absurd (Nat.eq_of_beq_eq_true h7) hi
    ·split at h7
     ·rename_i hp;rw[hp];exact .inl rfl
     ·simp only[Bool.and_eq_true]at h7
      obtain⟨g1,g2,g3⟩:=h7
      refine .inr ⟨X.nms_den _ _ g1,?_⟩
      rw[<-X.beq_eq _ _ g3,Ar,X.bel_den ag _ g2]
 ·obtain⟨g1,g2,g3⟩:=obj k cs hcs
  exact⟨g1,g2,by rw[mJ];exact g3⟩
def hvB (k0 I:Nat) (m:Nm) (n:IE) (S:XS):Facts->T (XE×XS)->Bool
 | Φ,.ret (.normal,s)=>Zw k0 I hvI m n S s&&(Hw Φ (.lt hvI (.lit 0)) false&&Hw Φ (.lt n hvI) false)
 | _,.ret (_,_)=>true
 | Φ,.br c x y=>hvB k0 I m n S (assume c true Φ) x&&hvB k0 I m n S (assume c false Φ) y
 | _,_=>false
def hvE:T (XE×XS)->List (XE×XS)
 | .ret (.normal,_)=>[]
 | .ret p=>[p]
 | .br _ x y=>hvE x++hvE y
 | _=>[]
def hvT:ig->ig
 | []=>[]
 | (k,v)::r=>(k,if v.bel xO=true then v else .top)::hvT r
def hvH (m:Nm):bg->bg
 | []=>[]
 | (k,cs)::r=>if(eG k m || !X.belL xO cs)=true then hvH m r else(k,cs)::hvH m r
def hvO (m:Nm) (s:XS):XS:=⟨hvT s.t,hvH m s.h,s.nx⟩
def EI:bg->Bool
 | []=>true
 | (k,_)::r => !(aT r k).isSome&&EI r
def Fv (k0 I O:Nat) (run:Facts->XS->T (XE×XS)) (Φ:Facts) (σ:XS):T (XE×XS) :=
 match bJ σ.t O with
 | .slv m _ _ _ _=>match aT σ.h m with
  | some [.rows z n _] =>
   let S:=hvS I m z n σ
   let t:=run (hvF n Φ) S
   if(Hw Φ (.lt n (.lit 0)) false&&(n.bel xO&&(Hw Φ (.lt (.lit 4611686018427387904) n) false&&(Zw k0 I (.lit 0) m n S σ&&hvB k0 I m n S (hvF n Φ) t))))=true then
    match hvE t with
    | [p] => if EI p.2.h = true then Au σ.t (p.1, hvO m p.2) else .fail ["havoc"]
    | _ => .fail ["havoc"]
   else .fail ["havoc"]
  | _ => .fail ["havoc"]
 | _ => .fail ["havoc"]
def dG (ti:Nat->Option TI) (call:bI) (ms:List Nat) (k0:Nat) (lps:List LoopX) (fuel:Nat):Code->Facts->XS->T (XE×XS)
 | .skip,_,σ => .ret (.normal,σ)
 | .label _,_,σ => .ret (.normal,σ)
 | .region _ ops draw,Φ,σ=>uQ σ.t ((if draw=true then Jb ti call ms ops.toList Φ σ else Yz ti call ms ops.toList ops.toList Φ σ).map fun s=>(.normal,s))
 | .seq a b,Φ,σ=>(dG ti call ms k0 lps fuel a Φ σ).bind Φ fun Φ p=>match p.1 with
  | .normal=>dG ti call ms k0 lps fuel b Φ p.2
  | e => .ret (e,p.2)
 | .cond c x y,Φ,σ=>match nO (bJ σ.t) c with
  | .sc (.b e)=>uQ σ.t (part Φ e (fun Φ=>dG ti call ms k0 lps fuel x Φ σ) (fun Φ=>dG ti call ms k0 lps fuel y Φ σ))
  | _ => .fail ["cond"]
 | .block id c,Φ,σ=>uQ σ.t ((dG ti call ms k0 lps fuel c Φ σ).map (leave id))
 | .loop c,Φ,σ=>match aQ9 (bW c) lps with
  | some v=>uQ σ.t (Fv k0 v.1 v.2 (fun Φ S=>dG ti ac3 ms k0 [] fuel c Φ S) Φ σ)
  | none=>match nN (bW c) lps with
   | L::Ls=>uQ σ.t (AX k0 Φ σ (L::Ls))
   | []=>IM σ.t (fun Φ σ=>dG ti call ms k0 lps fuel c Φ σ) fuel Φ σ
 | .exit id,_,σ => .ret (.exit id,σ)
 | .ret,_,σ => .ret (.ret,σ)
 | _,_,_=>(.fail [])
def fD (N:Nat):Code->Bool
 | .region _ ops draw=>fits N ops.toList&&(!draw||once ops.toList)
 | .seq a b=>fD N a&&fD N b
 | .cond _ a b=>fD N a&&fD N b
 | .block _ c=>fD N c
 | .loop c=>fD N c
 | _=>true
def dw:Code->List Code
 | .seq a b=>dw a++dw b
 | .cond _ a b=>dw a++dw b
 | .block _ c=>dw c
 | .loop c=>c::dw c
 | _=>[]
def LpsOk (P:Program) (J:Rho) (N:Nat) (lps:List LoopX) (c:Code):Prop:=∀c'∈dw c,∀L∈nN (bW c') lps,LoopOk P J N c' L
theorem LpsOk.nil (P:Program) (J:Rho) (N:Nat) (c:Code):LpsOk P J N [] c:=fun _ _ L h=>by simp[nN]at h
theorem Fq {k0 I O:Nat} {run:Facts->XS->T (XE×XS)} {Φ:Facts} {σ:XS}:(Fv k0 I O run Φ σ).All fun p=>Ext σ.t p.2.t:=by
 unfold Fv
 split
 ·split
  ·simp only
   split
   ·split
    ·split
     ·unfold Au
      split
      ·exact pR _ _ _ _
      ·trivial
     ·trivial
    ·trivial
   ·trivial
  ·trivial
 ·trivial
theorem U2 {ti:Nat->Option TI} {call:bI} {ms:List Nat} {ops:List Oper}:∀(l:List Oper) (Φ:Facts) (σ:XS),(Yz ti call ms ops l Φ σ).All fun s=>Ext σ.t s.t
 | [],_,σ=>Ext.refl _
 | o::l,Φ,σ=>by
  have put:∀(v:X) (h:bg) (n:Nat),Ext σ.t (XS.mk (tH o.dst v σ.t) h n).t:=fun v h n=>by
   cases o.dst with
   | none=>exact Ext.refl _
   | some d=>exact⟨[(d,v)],rfl⟩
  have step:∀(v:X) (h:bg) (n:Nat) Φ,(Yz ti call ms ops l Φ ⟨tH o.dst v σ.t,h,n⟩).All fun s=>Ext σ.t s.t:=fun v h n Φ=>T.All_mono (fun s hs=>Ext.trans (put v h n) hs) (U2 l Φ _)
  unfold Yz
  cases o.guard with
  | none=>exact T.All_bind (p:=fun _=>True) (fun Φ p _=>step p.1 _ _ Φ) (T.All_true _)
  | some jw=>exact SC (fun Φ r d=>step r _ _ Φ) (fun Φ=>step _ _ _ Φ) (fun Φ y=>step y _ _ Φ)
theorem OU:∀(es:List XEn) (t:ig),Ext t (XV es t)
 | [],t=>Ext.refl t
 | e::es,t=>by
  obtain⟨u,hu⟩:=OU es t
  unfold XV
  cases e.dst with
  | none=>exact⟨u,hu⟩
  | some d=>exact⟨(d,e.r)::u,by simp only[tH,hu];rfl⟩
theorem Bo {ti:Nat->Option TI} {call:bI} {ms:List Nat} {ops:List Oper} {Φ:Facts} {σ:XS}:(Ja ti call ms ops Φ σ).All fun s=>Ext σ.t s.t :=
 T.All_map (p:=fun _=>True) (q:=fun s:XS=>Ext σ.t s.t) (fun es _=>OU es σ.t) (T.All_true _)
theorem X0 {ti:Nat->Option TI} {call:bI} {ms:List Nat} {ops:List Oper} {Φ:Facts} {σ:XS}:(Jb ti call ms ops Φ σ).All fun s=>Ext σ.t s.t:=by
 unfold Jb
 split
 ·split
  ·rename_i i o _ _
   refine T.All_bind (p:=fun s:XS=>Ext σ.t s.t) (fun Φ s hs => ?_) Bo
   unfold ag3
   refine T.All_bind (p:=fun _=>True) (fun Φ p _ => ?_) (T.All_true _)
   refine Ext.trans hs ?_
   show Ext s.t (tH o.dst p.1 s.t)
   cases o.dst with
   | none=>exact Ext.refl _
   | some d=>exact⟨[(d,p.1)],rfl⟩
  ·exact Bo
 ·exact Bo
theorem NJ {ti:Nat->Option TI} {call:bI} {ms:List Nat} {ops:List Oper} {draw:Bool} {Φ:Facts} {σ:XS}:((if draw=true then Jb ti call ms ops Φ σ else Yz ti call ms ops ops Φ σ).map fun s=>(XE.normal,s)).All fun p=>Ext σ.t p.2.t:=by
 refine T.All_map (p:=fun s:XS=>Ext σ.t s.t) (q:=fun p:XE×XS=>Ext σ.t p.2.t) (fun s hs=>hs) ?_
 split
 ·exact X0
 ·exact U2 _ _ _
theorem A8 {b:ig} {body:Facts->XS->T (XE×XS)} (hb:∀Φ σ,(body Φ σ).All fun p=>Ext σ.t p.2.t):∀(n:Nat) (Φ:Facts) (σ:XS),Ext b σ.t->(IM b body n Φ σ).All fun p=>Ext b p.2.t
 | 0,_,_,_=>trivial
 | n+1,Φ,σ,h=>by
  unfold IM
  refine oI (T.All_bind (p:=fun p=>Ext σ.t p.2.t) (fun Φ p hp => ?_) (hb Φ σ))
  split
  ·exact A8 hb n Φ (squeeze b p.2) (pR _ _ _ _)
  ·exact Ext.trans h hp
theorem gJ {ti:Nat->Option TI} {call:bI} {ms:List Nat} {k0:Nat} {lps:List LoopX} {fuel:Nat}:∀(c:Code) (Φ:Facts) (σ:XS),(dG ti call ms k0 lps fuel c Φ σ).All fun p=>Ext σ.t p.2.t
 | .skip,_,σ=>Ext.refl _
 | .label _,_,σ=>Ext.refl _
 | .region _ ops draw,Φ,σ=>by
  unfold dG
  exact oI NJ
 | .seq a b,Φ,σ=>by
  unfold dG
  refine T.All_bind (p:=fun p=>Ext σ.t p.2.t) (fun Φ p hp => ?_) (gJ a Φ σ)
  split
  ·exact T.All_mono (fun q hq=>Ext.trans hp hq) (gJ b Φ p.2)
  ·exact hp
 | .cond c x y,Φ,σ=>by
  unfold dG
  split
  ·exact oI (PR (fun Φ=>gJ x Φ σ) (fun Φ=>gJ y Φ σ))
  ·trivial
 | .block id c,Φ,σ=>by
  unfold dG
  refine oI (T.All_map (p:=fun p=>Ext σ.t p.2.t) (fun p hp => ?_) (gJ c Φ σ))
  unfold leave
  split
  ·split
   ·exact hp
   ·exact hp
  ·exact hp
 | .loop c,Φ,σ=>by
  unfold dG
  split
  ·exact oI Fq
  split
  ·exact oI xH
  ·exact A8 (fun Φ σ=>gJ c Φ σ) fuel Φ σ (Ext.refl _)
 | .exit id,_,σ=>Ext.refl _
 | .ret,_,σ=>Ext.refl _
 | .rangeFunc _ _ _ _,_,_=>trivial
 | .scope _,_,_=>trivial
 | .goto _,_,_=>trivial
 | .refuse _,_,_=>trivial
def Goes (P:Program) (E:Aw.Env) (J:Rho) (c:Code) (σ:XS) (e:XE) (σ':XS):Prop:=AW P E c (fun e' s=>e'=e.to/\wZ E s (σ'.den J)) (σ.den J)
theorem zB (E:Aw.Env) (s:St):wZ E s s:=fun _ _ h=>h
theorem jr {E:Aw.Env} {a b c:St} (h:wZ E a b) (k:LeS c b):wZ E a c:=fun x w hr=>BG k x w (h x w hr)
theorem o6 {E:Aw.Env} {a b c:St} (h:wZ E a b) (k:wZ E b c):wZ E a c:=fun x w hr=>k x w (h x w hr)
theorem F8 {P:Program} {J:Rho} {ti:Nat->Option TI} (hti:TIs.ok P ti) {call:bI} (hcall:dJ P J call) {ms:List Nat} {ops:List Oper} {Φ:Facts} {σ σ':XS} (hk:Facts.ok J Φ)
  (h:(Ja ti call ms ops Φ σ).sel J=some σ'):∃es,Walked P ops σ.nx (mO ops (og J σ.t)) (aV J σ.h) es/\es.length=ops.length/\(∀i,LeA (dX (og J σ'.t) i) (dX (bP (fun _=>true) es (mO ops (og J σ.t))) i)) /\
   aV J σ'.h=aj (fun _=>true) es (aV J σ.h)/\σ'.nx=σ.nx+ops.length:=by
 obtain⟨es,h1,rfl⟩:=T.sel_map _ h
 obtain⟨hw,hl⟩:=xY hti hcall (t0:=mO ops (og J σ.t)) (RV J ops σ.t) ops Φ [] 0 es hk (fun j=>by simp) trivial (fun j e he=>by simp[bn,iC]at he) h1
 simp only[List.length_nil,Nat.zero_add]at hl
 have hl':(bn J es).length=ops.length:=by simp[bn,hl]
 refine⟨bn J es,hw,hl',fun i => ?_,?_,rfl⟩
 ·
  have hfin:∀(l:List XEn) (i:Nat),dX (og J (XV l σ.t)) i=dX (bP (fun _=>true) (bn J l) (og J σ.t)) i:=by
   intro l
   induction l with
   | nil=>intro i;rfl
   | cons e l ih =>
    intro i
    simp only[XV,zQ,bn,List.map_cons,bP,if_true,qJ]at ih ⊢
    rw[ih];rfl
  rw[hfin]
  rcases jf (fun _=>true) (og J σ.t) i (bn J es)with⟨j,e,h2,h3,h4⟩ | ⟨h2,h3⟩
  ·rcases jf (fun _=>true) (mO ops (og J σ.t)) i (bn J es)with⟨j',e',h2',h3',h4'⟩ | ⟨h2',_⟩
   ·have hv:∀(l:List En) (t t':Tp),(∃j e,iC l j=some e/\e.dst=some i)->dX (bP (fun _=>true) l t) i=dX (bP (fun _=>true) l t') i:=by
     intro l
     induction l with
     | nil=>rintro t t' ⟨j,e,h,_⟩;simp[iC]at h
     | cons x l ih =>
      rintro t t' ⟨j,e,h,hd⟩
      simp only[bP,if_true,qJ]
      split
      ·rfl
      ·rename_i hne
       refine ih t t' ⟨j,e,?_,hd⟩
       simp only[iC]at h
       split at h
       ·cases h;exact absurd hd hne
       ·exact h
    rw[hv _ _ (mO ops (og J σ.t)) ⟨j,e,h2,h3⟩]
    exact LeA.refl _
   ·exact absurd h3 (h2' j e h2)
  ·rcases jf (fun _=>true) (mO ops (og J σ.t)) i (bn J es)with⟨j',e',h2',h3',_⟩ | ⟨_,h3'⟩
   ·exact absurd h3' (h2 j' e' h2')
   ·rw[h3,h3',lU]
    split
    ·rename_i ha
     obtain⟨o,ho1,ho2⟩:=List.any_eq_true.1 ha
     obtain⟨j,hj⟩:=List.mem_iff_getElem?.1 ho1
     have hjl:=(List.getElem?_eq_some_iff.1 hj).1
     obtain⟨e,he⟩:=zM (es:=bn J es) (j:=j) (by omega)
     obtain⟨es',o',_,_,g3,hs,_,_⟩:=hw.get he
     rw[hj]at g3;cases g3
     exact absurd (by rw[hs.dst];simpa using ho2) (h2 j e he)
    ·exact LeA.refl _
 ·rw[mg]
theorem F9 {P:Program} {E:Aw.Env} {J:Rho} {ti:Nat->Option TI} (hm:P.follows .mixedOrders=true) (hti:TIs.ok P ti) {call:bI} (hcall:dJ P J call) {ms:List Nat} {ops:List Oper} {Φ:Facts} {σ σ':XS} (hk:Facts.ok J Φ) (hf:fits E.N ops=true) (ho:once ops=true) {id:Nat}
  (h:(Ja ti call ms ops Φ σ).sel J=some σ'):Goes P E J (.region id ops.toArray true) σ .normal σ':=by
 obtain⟨es,hw,hl,h1,h2,h3⟩:=F8 hti hcall hk h
 refine ar0 (E:=E) (σ:=σ.den J) hm hf ho es hw hl ⟨rfl,BG ⟨h1,fun m cs hcs=>⟨cs,?_,LeC.refl cs⟩,by simp only[XS.den,h3];exact Nat.le_refl _⟩⟩
 simp only[XS.den]at hcs ⊢
 rw[<-h2];exact hcs
theorem Rt {P:Program} {E:Aw.Env} {J:Rho} {ti:Nat->Option TI} (hm:P.follows .mixedOrders=true) (hti:TIs.ok P ti) {call:bI} (hcall:dJ P J call) {ms:List Nat} {ops:List Oper} {Φ:Facts} {σ σ':XS} (hk:Facts.ok J Φ) (hf:fits E.N ops=true) (ho:once ops=true) {id:Nat}
  (h:(Jb ti call ms ops Φ σ).sel J=some σ'):Goes P E J (.region id ops.toArray true) σ .normal σ':=by
 unfold Jb at h
 split at h
 ·rename_i i o hs
  split at h
  ·rename_i hw
   obtain⟨H,hoi⟩:=YR hw
   have e:=yQ hs
   subst e
   have hfi:fits E.N i=true/\(∀d,o.dst=some d->d<E.N):=by
    simp only[fits,List.all_append,List.all_cons,List.all_nil,Bool.and_true,Bool.and_eq_true]at hf
    refine⟨hf.1,fun d hd => ?_⟩
    have:=hf.2
    rw[hd]at this
    simpa [Nat.blt_eq]using this
   obtain⟨Φ1,s1,hk1,h1,h2⟩:=T.sel_bind _ hk h
   obtain⟨es,g1,g2,g3,g4,g5⟩:=F8 hti hcall hk h1
   unfold ag3 at h2
   obtain⟨_,p,_,h3,h4⟩:=T.sel_bind _ hk1 h2
   obtain⟨r,d⟩:=p
   cases h4
   rw[JR]at h3
   have hy:=mD (t:=og J s1.t) hti hcall (fun i=>(dW J i s1.t).symm) hk1 h3
   have hy':Aw.Yields P (σ.nx+i.length) o.op (bP (fun _=>true) es (mO i (og J σ.t))) (aj (fun _=>true) es (aV J σ.h)) (r.den J) (bZ J d):=by
    rw[<-g5,<-g4]
    intro C a o' next Q ho' hh ht hn hk'
    exact hy C a o' next Q ho' hh (fun j=>g3 j _ _ (ht j)) hn hk'
   refine aq8 (σ:=σ.den J) hm H hfi.2 hfi.1 hoi es g1 g2 hy' ⟨rfl,BG ⟨fun j => ?_,fun m cs hcs=>⟨cs,?_,LeC.refl cs⟩,by simp only[XS.den,g5];exact Nat.le_refl _⟩⟩
   ·simp only[XS.den,zQ,qJ]
    split
    ·exact LeA.refl _
    ·exact g3 j
   ·simp only[XS.den]at hcs ⊢
    rw[kC,g4]at hcs
    exact hcs
  ·exact F9 hm hti hcall hk hf ho h
 ·exact F9 hm hti hcall hk hf ho h
theorem yR {J:Rho} {Φ:Facts} (hk:Facts.ok J Φ) {e:BE} {b:Bool} (h:Hw Φ e b=true):e.den J=b:=by
 unfold Hw at h
 split at h
 ·rename_i v hv
  rw[<-bu hk,hv]
  exact eq_of_beq h
 ·cases h
theorem KT {J:Rho} {k0 I:Nat} {m:Nm} {n:IE} {S:XS}:∀(t:T (XE×XS)) (Φ:Facts),hvB k0 I m n S Φ t=true->Facts.ok J Φ->∃e s,t.sel J=some (e,s) /\
  ((e = .normal/\Zw k0 I hvI m n S s=true/\(BE.lt hvI (.lit 0)).den J=false/\(BE.lt n hvI).den J=false)\/(e ≠ .normal/\(e,s)∈hvE t))
 | .ret (.normal,s),Φ,h,hk=>by
  simp only[hvB,Bool.and_eq_true]at h
  exact⟨_,s,rfl,.inl ⟨rfl,h.1,yR hk h.2.1,yR hk h.2.2⟩⟩
 | .ret (.exit j,s),Φ,_,_=>⟨_,s,rfl,.inr ⟨(fun h=>by cases h),List.mem_cons_self⟩⟩
 | .ret (.ret,s),Φ,_,_=>⟨_,s,rfl,.inr ⟨(fun h=>by cases h),List.mem_cons_self⟩⟩
 | .br c x y,Φ,h,hk=>by
  simp only[hvB,Bool.and_eq_true]at h
  cases hc:c.den J with
  | true =>
   obtain⟨e,s,h1,h2⟩:=KT x _ h.1 (dC c true Φ hc hk)
   refine⟨e,s,by simp only[T.sel,hc,if_true];exact h1,?_⟩
   rcases h2 with h2 | ⟨h2,h3⟩
   ·exact .inl h2
   ·exact .inr ⟨h2,List.mem_append_left _ h3⟩
  | false =>
   obtain⟨e,s,h1,h2⟩:=KT y _ h.2 (dC c false Φ hc hk)
   refine⟨e,s,by simp only[T.sel,hc,Bool.false_eq_true,if_false];exact h1,?_⟩
   rcases h2 with h2 | ⟨h2,h3⟩
   ·exact .inl h2
   ·exact .inr ⟨h2,List.mem_append_right _ h3⟩
 | .need _ _,_,h,_=>by simp[hvB]at h
 | .fail _,_,h,_=>by simp[hvB]at h
theorem ai2 (J:Rho) (i:Nat):∀t:ig,LeA ((bJ (hvT t) i).den J) ((bJ t i).den J)
 | []=>LeA.refl _
 | (k,v)::r=>by
  simp only[hvT,bJ]
  split
  ·split
   ·exact LeA.refl _
   ·exact LeA.top _
  ·exact ai2 J i r
theorem UX:∀t:ig,(hvT t).all (fun p=>p.2.bel xO)=true
 | []=>rfl
 | (k,v)::r=>by
  simp only[hvT,List.all_cons,UX r,Bool.and_true]
  split
  ·assumption
  ·rfl
theorem KR (m:Nm):∀h:bg,(hvH m h).all (fun p=>X.belL xO p.2)=true
 | []=>rfl
 | (k,cs)::r=>by
  simp only[hvH]
  split
  ·exact KR m r
  ·rename_i hc
   simp only[Bool.or_eq_true,Bool.not_eq_true',not_or,Bool.not_eq_false]at hc
   simp only[List.all_cons,hc.2,KR m r,Bool.and_self]
theorem KQ (m:Nm) {k:Nm} {cs:List X}:∀{h:bg},EI h=true->aT (hvH m h) k=some cs->aT h k=some cs
 | [],_,hq=>by cases hq
 | (j,ds)::r,ho,hq=>by
  simp only[EI,Bool.and_eq_true,Bool.not_eq_true']at ho
  simp only[hvH]at hq
  simp only[aT]
  split at hq
  ·have:=KQ m ho.2 hq
   split
   ·rename_i e
    rw[bT e,this]at ho
    simp at ho
   ·exact this
  ·simp only[aT]at hq
   split at hq
   ·rename_i e;rw[if_pos e];exact hq
   ·rename_i e;rw[if_neg e];exact KQ m ho.2 hq
theorem bg8 (J:Rho) {m:Nm} {s:XS} (ho:EI s.h=true):LeS ((hvO m s).den J) (s.den J):=by
 refine⟨fun i => ?_,fun k cs hcs => ?_,Nat.le_refl _⟩
 ·simp only[XS.den,hvO,dW]
  exact ai2 J i s.t
 ·simp only[XS.den,hvO,aG]at hcs ⊢
  obtain⟨ds,h1,rfl⟩:=Option.map_eq_some_iff.1 hcs
  exact⟨_,by rw[KQ m ho h1];rfl,LeC.refl _⟩
theorem XQ {P:Program} {E:Aw.Env} {J:Rho} {k0 I O:Nat} {run:Facts->XS->T (XE×XS)} {c:Code} (hb:∀m,E.c0.kn m->m.1<k0) (hrun:∀(J':Rho) (Φ:Facts) (S:XS) (e:XE) (s:XS),Facts.ok J' Φ->(run Φ S).sel J'=some (e,s)->Goes P E J' c S e s)
  {Φ:Facts} (hk:Facts.ok J Φ) {σ σ':XS} {e:XE} (h:(Fv k0 I O run Φ σ).sel J=some (e,σ')):AW P E (.loop c) (fun e' s=>e'=e.to/\wZ E s (σ'.den J)) (σ.den J):=by
 unfold Fv at h
 split at h
 ·rename_i m _ _ _ _ _
  split at h
  ·rename_i z n _ _
   simp only at h
   generalize hS:hvS I m z n σ=S at h
   split at h
   ·rename_i hc
    simp only[Bool.and_eq_true]at hc
    obtain⟨c1,c2,c3,c4,c5⟩:=hc
    split at h
    ·rename_i p hp
     have ho:EI p.2.h=true:=by
      cases ho:EI p.2.h with
      | true=>rfl
      | false=>rw[if_neg (by rw[ho];decide)]at h;cases h
     rw[if_pos ho]at h
     obtain⟨rfl,hle,_⟩:=Ib h
     have c3:=yR hk c3
     have n0:0<=n.den J:=by
      have:=of_decide_eq_false (yR hk c1)
      simp only[IE.den]at this
      omega
     have n1:n.den J<=4611686018427387904:=by
      have:=of_decide_eq_false c3
      simp only[IE.den]at this
      omega
     ·refine VF (fun k s=>∃J':Rho,Agree xO J J'/\0<=J'.i xO/\J'.i xO<=n.den J/\k=(n.den J-J'.i xO).toNat/\s=S.den J') _
       ⟨_,Nh hb c4 J,_,Bind.agree (KU _ _ _ _) J,?_,?_,rfl,rfl⟩ fun k s hI => ?_
      ·exact Int.le_refl 0
      ·exact n0
      ·obtain⟨J',ag,i0,i1,rfl,rfl⟩:=hI
       have en:n.den J'=n.den J:=(IE.bel_den ag n c2).symm
       have hk':Facts.ok J' (hvF n Φ):=by
        refine Facts.ok_cons ?_ (Facts.ok_cons ?_ (Facts.ok_cons ?_ fun q hq => ?_))
        ·exact decide_eq_false (by simp only[IE.den];omega)
        ·exact decide_eq_false (by simp only[IE.den];rw[en];omega)
        ·exact decide_eq_false (by simp only[IE.den];omega)
        ·obtain⟨q1,q2⟩:=List.mem_filter.1 hq
         rw[<-BE.bel_den ag _ q2]
         exact hk q q1
       obtain⟨e1,s1,g1,g2⟩:=KT _ _ c5 hk'
       refine bY (fun e' s' hq => ?_) (hrun J' _ S e1 s1 hk' g1)
       obtain⟨rfl,hi⟩:=hq
       rcases g2 with⟨rfl,g3,g4,g5⟩ | ⟨g3,g4⟩
       ·have g4:=of_decide_eq_false g4
        have g5:=of_decide_eq_false g5
        simp only[hvI,IE.den,IOp.den]at g4 g5
        have w:IntKind.i64.wrap (J'.i xO+1)=J'.i xO+1:=aP _ (by omega) (by omega)
        rw[w]at g4 g5
        rw[en]at g5
        refine⟨_,_,?_,o6 hi (Nh hb g3 J'),_,ag.trans (Bind.agree (KU _ _ _ _) J'),?_,?_,rfl,rfl⟩
        ·show(n.den J-IntKind.i64.wrap (J'.i xO+1)).toNat<_
         rw[w];omega
        ·show 0<=IntKind.i64.wrap (J'.i xO+1)
         rw[w];omega
        ·show IntKind.i64.wrap (J'.i xO+1)<=_
         rw[w];omega
       ·have hmem:(e1,s1)=p:=by
         rw[hp]at g4
         exact List.mem_singleton.1 g4
        subst hmem
        have hl:LeS (σ'.den J) (s1.den J'):=by
         refine hle.trans ?_
         rw[XS.bel_den ag (hvO m s1) (by simp only[XS.bel,hvO,UX,KR,Bool.and_self])]
         exact bg8 J' ho
        have fin:wZ E s' (σ'.den J):=jr hi hl
        cases e1 with
        | normal=>exact absurd rfl g3
        | exit j=>exact⟨rfl,fin⟩
        | ret=>exact⟨rfl,fin⟩
    ·cases h
   ·cases h
  ·cases h
 ·cases h
theorem dV {P:Program} {E:Aw.Env} {J:Rho} {ti:Nat->Option TI} (hm:P.follows .mixedOrders=true) (hti:TIs.ok P ti) {call:bI} (hcall:dJ P J call) {ms:List Nat} {k0:Nat} (hb:∀m,E.c0.kn m->m.1<k0) {lps:List LoopX} {fuel:Nat} :
  ∀(c:Code) (Φ:Facts) (σ:XS) (e:XE) (σ':XS),Facts.ok J Φ->fD E.N c=true->LpsOk P J E.N lps c->(dG ti call ms k0 lps fuel c Φ σ).sel J=some (e,σ')->Goes P E J c σ e σ'
 | .skip,Φ,σ,e,σ',hk,_,_,h=>by cases h;exact Md ⟨rfl,zB _ _⟩
 | .label _,Φ,σ,e,σ',hk,_,_,h=>by cases h;exact aq9 ⟨rfl,zB _ _⟩
 | .region id ops draw,Φ,σ,e,σ',hk,hf,_,h=>by
  unfold dG at h
  simp only[fD,Bool.and_eq_true,Bool.or_eq_true,Bool.not_eq_true']at hf
  obtain⟨s,h1,hle⟩:=oZ NJ h
  obtain⟨s1,h2,h3⟩:=T.sel_map _ h1
  cases h3
  cases draw with
  | true =>
   rw[if_pos rfl]at h2
   have:=Rt (E:=E) hm hti hcall (id:=id) hk hf.1 (hf.2.resolve_left (by simp)) h2
   rw[show ops.toList.toArray=ops from by simp]at this
   exact bY (fun e' s' hq=>⟨hq.1,jr hq.2 hle⟩) this
  | false =>
   rw[if_neg (by simp)]at h2
   intro a w hr
   refine wp_region_lit ?_
   have:=Bg (E:=E) (P:=P) (Q:=fun e a' w'=>∃σ'',Rel E σ'' a' w'/\e=XE.normal.to/\wZ E σ'' (σ'.den J)) hti hcall (fun a' w' hr'=>⟨_,hr',rfl,BG hle⟩) ops.toList Φ σ a w hk hf.1 h2 hr
   simpa using this
 | .seq x y,Φ,σ,e,σ',hk,hf,hl,h=>by
  unfold dG at h
  simp only[fD,Bool.and_eq_true]at hf
  obtain⟨Φ',p,hk',h1,h2⟩:=T.sel_bind _ hk h
  obtain⟨e1,σ1⟩:=p
  have g1:=dV hm hti hcall hb x Φ σ e1 σ1 hk hf.1 (fun c' hc'=>hl c' (List.mem_append_left _ hc')) h1
  refine qF fun K hK=>bY (fun e' s hq => ?_) g1
  obtain⟨rfl,hle⟩:=hq
  cases e1 with
  | normal =>
   simp only at h2
   exact hK s (sW hle (dV hm hti hcall hb y Φ' σ1 e σ' hk' hf.2 (fun c' hc'=>hl c' (List.mem_append_right _ hc')) h2))
  | exit id=>cases h2;exact⟨rfl,hle⟩
  | ret=>cases h2;exact⟨rfl,hle⟩
 | .cond c x y,Φ,σ,e,σ',hk,hf,hl,h=>by
  unfold dG at h
  simp only[fD,Bool.and_eq_true]at hf
  have hev:=dL (J:=J) (g:=bJ σ.t) (t:=og J σ.t) (fun i=>(dW J i σ.t).symm) c
  split at h
  ·rename_i b hbe
   rw[hbe]at hev
   obtain⟨s,h1,hle⟩:=oZ (PR (fun Φ=>gJ x Φ σ) (fun Φ=>gJ y Φ σ)) h
   obtain⟨Φ',hk',⟨hc,h2⟩ | ⟨hc,h2⟩⟩:=MZ hk h1
   ·refine ar1 (σ:=σ.den J) (by rw[show ev (σ.den J).t c=_ from hev.symm];simp only[X.den,Sc.den,hc]) ?_
    exact bY (fun e' s' hq=>⟨hq.1,jr hq.2 hle⟩) (dV hm hti hcall hb x Φ' σ e s hk' hf.1 (fun c' hc'=>hl c' (List.mem_append_left _ hc')) h2)
   ·refine ar2 (σ:=σ.den J) (by rw[show ev (σ.den J).t c=_ from hev.symm];simp only[X.den,Sc.den,hc]) ?_
    exact bY (fun e' s' hq=>⟨hq.1,jr hq.2 hle⟩) (dV hm hti hcall hb y Φ' σ e s hk' hf.2 (fun c' hc'=>hl c' (List.mem_append_right _ hc')) h2)
  ·cases h
 | .block id c,Φ,σ,e,σ',hk,hf,hl,h=>by
  unfold dG at h
  simp only[fD]at hf
  obtain⟨s,h1,hle⟩:=oZ (T.All_map (p:=fun p=>Ext σ.t p.2.t) (fun p hp=>by
   unfold leave
   split
   ·split
    ·exact hp
    ·exact hp
   ·exact hp) (gJ c Φ σ)) h
  obtain⟨p,h2,h3⟩:=T.sel_map _ h1
  obtain⟨e1,σ1⟩:=p
  have g1:=dV hm hti hcall hb c Φ σ e1 σ1 hk hf hl h2
  refine ar4 (bY (fun e' s' hq => ?_) g1)
  obtain⟨rfl,hle'⟩:=hq
  cases e1 with
  | normal=>cases h3;exact⟨rfl,jr hle' hle⟩
  | ret=>cases h3;exact⟨rfl,jr hle' hle⟩
  | exit j =>
   simp only[leave]at h3
   simp only[XE.to,Mc]
   by_cases hj:j=id
   ·subst hj
    simp at h3
    rw[if_pos rfl]
    obtain⟨rfl,rfl⟩:=h3
    exact⟨rfl,jr hle' hle⟩
   ·rw[if_neg hj]
    rw[if_neg (by simpa using hj)]at h3
    cases h3
    exact⟨rfl,jr hle' hle⟩
 | .loop c,Φ,σ,e,σ',hk,hf,hl,h=>by
  unfold dG at h
  simp only[fD]at hf
  split at h
  ·obtain⟨s,h1,hle⟩:=oZ Fq h
   exact bY (fun e' s' hq=>⟨hq.1,jr hq.2 hle⟩) (XQ hb (fun J' Φ S e s hk' hs=>dV (J:=J') hm hti (Xk P J') hb c Φ S e s hk' hf (LpsOk.nil _ _ _ _) hs) hk h1)
  split at h
  ·rename_i L Ls hL
   obtain⟨s,h1,hle⟩:=oZ xH h
   obtain⟨K,hK,h1⟩:=ET h1
   exact bY (fun e' s' hq=>⟨hq.1,jr hq.2 hle⟩) (ae6 hb (hl c List.mem_cons_self K (by rw[hL];exact hK)) hk h1)
  have key:∀(n:Nat) (Φ:Facts) (s:XS) (σ':XS),Facts.ok J Φ->Ext σ.t s.t->(IM σ.t (fun Φ σ=>dG ti call ms k0 lps fuel c Φ σ) n Φ s).sel J=some (e,σ')->SE P E c (fun e' s=>e'=e.to/\wZ E s (σ'.den J)) n (s.den J):=by
   intro n
   induction n with
   | zero=>intro Φ s σ' _ _ h;cases h
   | succ n ih =>
    intro Φ s σ' hk hx h
    unfold IM at h
    obtain⟨s1,h1,hle⟩:=oZ (T.All_bind (p:=fun p=>Ext s.t p.2.t) (fun Φ p hp=>by
     split
     ·exact A8 (fun Φ σ=>gJ c Φ σ) n Φ (squeeze σ.t p.2) (pR _ _ _ _)
     ·exact Ext.trans hx hp) (gJ c Φ s)) h
    obtain⟨Φ',p,hk',h2,h3⟩:=T.sel_bind _ hk h1
    obtain⟨e1,σ1⟩:=p
    have g1:=dV hm hti hcall hb c Φ s e1 σ1 hk hf (fun c' hc'=>hl c' (List.mem_cons_of_mem _ hc')) h2
    have hx1:Ext s.t σ1.t:=by
     have:=gJ (ti:=ti) (call:=call) (ms:=ms) (k0:=k0) (lps:=lps) (fuel:=fuel) c Φ s
     exact T.All_sel (p:=fun p:XE×XS=>Ext s.t p.2.t) this h2
    refine ar5 (bY (fun e' s' hq => ?_) g1)
    obtain⟨rfl,hle'⟩:=hq
    cases e1 with
    | normal =>
     simp only at h3
     have:=ih Φ' (squeeze σ.t σ1) s1 hk' (pR _ _ _ _) h3
     refine AWR_le (jr hle' (Qi (Ext.trans hx hx1))) (AWR_post (fun e' s' hq=>⟨hq.1,jr hq.2 hle⟩) n _ this)
    | exit j=>cases h3;exact⟨rfl,jr hle' hle⟩
    | ret=>cases h3;exact⟨rfl,jr hle' hle⟩
  exact wU fuel (key fuel Φ σ σ' hk (Ext.refl _) h)
 | .exit id,Φ,σ,e,σ',hk,_,_,h=>by cases h;exact aN7 ⟨rfl,zB _ _⟩
 | .ret,Φ,σ,e,σ',hk,_,_,h=>by cases h;exact Me ⟨rfl,zB _ _⟩
 | .rangeFunc _ _ _ _,_,_,_,_,_,_,_,h=>by cases h
 | .scope _,_,_,_,_,_,_,_,h=>by cases h
 | .goto _,_,_,_,_,_,_,_,h=>by cases h
 | .refuse _,_,_,_,_,_,_,_,h=>by cases h
where
 T.All_sel {α:Type} {J:Rho} {p:α->Prop}:∀{t:T α} {a:α},t.All p->t.sel J=some a->p a
  | .ret a,_,h,hs=>by cases hs;exact h
  | .br c x y,a,h,hs=>by
   simp only[T.sel]at hs
   split at hs
   ·exact T.All_sel h.1 hs
   ·exact T.All_sel h.2 hs
  | .need c x,a,h,hs=>by
   simp only[T.sel]at hs
   split at hs
   ·exact T.All_sel (t:=x) h hs
   ·cases hs
  | .fail _,_,_,hs=>by cases hs
 AWR_post {P:Program} {E:Aw.Env} {c:Code} {Q Q':Exit->St->Prop} (hq:∀e s,Q e s->Q' e s):∀(n:Nat) (s:St),SE P E c Q n s->SE P E c Q' n s
  | 0,_,h=>h
  | n+1,s,h=>bY (fun e s' hh=>by
    cases e with
    | normal=>exact AWR_post hq n s' hh
    | _=>exact hq _ _ hh) h
 AWR_le {P:Program} {E:Aw.Env} {c:Code} {Q:Exit->St->Prop} {n:Nat} {s σ:St} (h:wZ E s σ) (hk:SE P E c Q n σ):SE P E c Q n s:=by
  cases n with
  | zero=>exact hk
  | succ n=>exact sW h hk
end Go.Proofs.Xw
namespace Go.Proofs.Xw
open Go Go.Proofs.Aw
structure FnI where
 body:Code
 results:List ResultVar
 ntmps:Nat
 ms:List Nat
def zV (P:Program) (f:FuncId) (i:FnI):Prop:=∃fn,P.funcs[f]? = some fn/\fn.body=some i.body/\fn.results.toList=i.results/\fn.ntmps=i.ntmps/\fD i.ntmps i.body=true/\aQ P f=true
def Ez (ti:Nat->Option TI) (σ:XS):List ResultVar->Option (List X)
 | []=>some []
 | .tmp i::rs=>(Ez ti σ rs).map (bJ σ.t i :: ·)
 | .cell p ty::rs=>match ti ty with
  | some i=>match UK i σ.h (bJ σ.t p),Ez ti σ rs with
   | some v,some vs=>some (v::vs)
   | _,_=>none
  | none=>none
theorem yU {P:Program} {J:Rho} {ti:Nat->Option TI} (hti:TIs.ok P ti) {σ:XS}:∀{rs:List ResultVar} {vs:List X} {K:List AV->Prop},Ez ti σ rs=some vs->K (X.denL J vs)->xC P (σ.den J) rs K
 | [],vs,K,h,hk=>by simp only[Ez,Option.some.injEq]at h;subst h;exact hk
 | .tmp i::rs,vs,K,h,hk=>by
  simp only[Ez]at h
  obtain⟨ws,hw,rfl⟩:=Option.map_eq_some_iff.1 h
  simp only[xC]
  refine yU hti hw ?_
  simp only[XS.den,dW]
  exact hk
 | .cell p ty::rs,vs,K,h,hk=>by
  simp only[Ez]at h
  split at h
  ·rename_i i hi
   have hi:=hti _ _ hi
   subst hi
   split at h
   ·rename_i v ws h1 h2
    cases h
    simp only[xC]
    have:=IK (P:=P) (J:=J) (ty:=ty) h1
    simp only[XS.den,dW]
    exact UM this (yU hti h2 hk)
   ·cases h
  ·cases h
def Wi:List X->X
 | [v]=>v
 | vs => .tup vs
theorem NR (J:Rho) (vs:List X):(Wi vs).den J=oneOf (X.denL J vs):=by
 match vs with
 | []=>rfl
 | [v]=>rfl
 | v::w::vs=>rfl
def rD:Nat->List X->ig
 | _,[]=>[]
 | i,v::vs=>(i,v)::rD (i+1) vs
theorem xA (J:Rho):∀(i:Nat) (vs:List X),og J (rD i vs)=slots i (X.denL J vs)
 | _,[]=>rfl
 | i,v::vs=>by
  have:=xA J (i+1) vs
  simp only[og]at this
  simp only[rD,og,List.map_cons,slots,X.denL,this]
def lD:T X->Option (BE×Option X)
 | .ret a=>some (.lit true,some a)
 | .br c x y=>match lD x,lD y with
  | some (p,some a),some (q,some b)=>match X.mix c a b with
   | some z=>some (jg c p q,some z)
   | none=>none
  | some (p,some a),some (q,none)=>some (jg c p q,some a)
  | some (p,none),some (q,b)=>some (jg c p q,b)
  | _,_=>none
 | .need c x=>match lD x with
  | some (p,a)=>some (mkAnd c p,a)
  | none=>none
 | .fail _=>some (.lit false,none)
theorem gp {J:Rho}:∀{t:T X} {ok:BE} {o:Option X},lD t=some (ok,o)->ok.den J=true->∃a,t.sel J=some a/\(∀z,o=some z->z.den J=a.den J)/\(o=none->False)
 | .ret a,ok,o,h,_=>by
  simp only[lD,Option.some.injEq,Prod.mk.injEq]at h
  obtain⟨rfl,rfl⟩:=h
  exact⟨a,rfl,fun z hz=>by cases hz;rfl,fun hn=>by cases hn⟩
 | .br c x y,ok,o,h,hok=>by
  simp only[lD]at h
  simp only[T.sel]
  split at h
  ·rename_i p a q b h1 h2
   split at h
   ·rename_i z hz
    cases h
    rw[dU]at hok
    have hd:=X.mix_den (J:=J) _ _ _ hz
    split at hok
    ·rename_i hc
     obtain⟨w,g1,g2,_⟩:=gp h1 hok
     rw[if_pos hc]at hd ⊢
     exact⟨w,g1,fun z' hz'=>by cases hz';rw[hd];exact g2 a rfl,fun hn=>by cases hn⟩
    ·rename_i hc
     obtain⟨w,g1,g2,_⟩:=gp h2 hok
     rw[if_neg hc]at hd ⊢
     exact⟨w,g1,fun z' hz'=>by cases hz';rw[hd];exact g2 b rfl,fun hn=>by cases hn⟩
   ·cases h
  ·rename_i p a q h1 h2
   cases h
   rw[dU]at hok
   split at hok
   ·rename_i hc
    rw[if_pos hc]
    exact gp h1 hok
   ·obtain⟨w,_,_,g3⟩:=gp h2 hok
    exact(g3 rfl).elim
  ·rename_i p q b h1 h2
   cases h
   rw[dU]at hok
   split at hok
   ·obtain⟨w,_,_,g3⟩:=gp h1 hok
    exact(g3 rfl).elim
   ·rename_i hc
    rw[if_neg hc]
    exact gp h2 hok
  ·cases h
 | .need c x,ok,o,h,hok=>by
  simp only[lD]at h
  split at h
  ·rename_i p a h1
   cases h
   rw[df,Bool.and_eq_true]at hok
   simp only[T.sel,hok.1,if_true]
   exact gp h1 hok.2
  ·cases h
 | .fail _,ok,o,h,hok=>by
  simp only[lD,Option.some.injEq,Prod.mk.injEq]at h
  rw[<-h.1]at hok
  simp[BE.den]at hok
def QM (t:T X):T X :=
 match t with
 | .ret a => .ret a
 | t=>match lD t with
  | some (.lit true,some a) => .ret a
  | some (c,some a) => .need c (.ret a)
  | some (_,none) => .fail t.why
  | none=>t
theorem QL {J:Rho} {t:T X} {z:X} (h:(QM t).sel J=some z):∃a,t.sel J=some a/\z.den J=a.den J:=by
 unfold QM at h
 split at h
 ·cases h;exact⟨z,rfl,rfl⟩
 ·split at h
  ·rename_i a hc
   cases h
   obtain⟨w,g1,g2,_⟩:=gp (J:=J) hc rfl
   exact⟨w,g1,g2 _ rfl⟩
  ·rename_i c a _ hc
   simp only[T.sel]at h
   split at h
   ·rename_i hok
    cases h
    obtain⟨w,g1,g2,_⟩:=gp (J:=J) hc hok
    exact⟨w,g1,g2 _ rfl⟩
   ·cases h
  ·cases h
  ·exact⟨z,h,rfl⟩
mutual
def X.nn:X->Bool
 | .top | .k _ | .sc _ | .rl _ _ _ _ | .rows _ _ _ | .rn _ _ _ _ _ | .cel _ _ _=>true
 | .tk _ _ _ es | .tq _ _ _ es _=>X.nnE es
 | .slv _ _ _ _ _ | .ptrv _ _ _ _=>false
 | .agg cs | .tup cs | .ip cs _ _=>X.nnL cs
 | .ptr _ _ _ | .sl _ _ _ _ _=>false
 | .ro _ es _=>X.nnE es
 | .fn _ xs ys=>X.nnL xs&&X.nnL ys
 | .gd _ x=>x.nn
def X.nnL:List X->Bool
 | []=>true
 | x::xs=>x.nn&&X.nnL xs
def X.nnE:List (List X)->Bool
 | []=>true
 | e::es=>X.nnL e&&X.nnE es
end
mutual
theorem X.nn_den {p:Nm->Bool} (J:Rho):∀x:X,x.nn=true->Aw.nms p (x.den J)=true
 | .top,_=>rfl
 | .k _,_=>rfl
 | .sc _,_=>rfl
 | .rl _ _ _ _,_=>lq
 | .rn _ _ _ _ _,_=>vZ
 | .tk _ _ _ _,_=>rfl
 | .tq _ _ _ es _,h=>uF jL (X.nnE_den J es h)
 | .cel t o j,_=>Kw (J.ct t o _).2.1
 | .rows _ _ _,_=>rfl
 | .agg cs,h=>X.nnL_den J cs h
 | .tup cs,h=>X.nnL_den J cs h
 | .ip cs _ _,h=>X.nnL_den J cs h
 | .ro _ es _,h=>X.nnE_den J es h
 | .fn _ xs ys,h=>by
  simp only[X.nn,Bool.and_eq_true]at h
  simp only[X.den,Aw.nms,X.nnL_den J xs h.1,X.nnL_den J ys h.2,Bool.and_self]
 | .ptr _ _ _,h=>by cases h
 | .sl _ _ _ _ _,h=>by cases h
 | .gd c x,h=>by
  simp only[X.den]
  split
  ·exact X.nn_den J x h
  ·rfl
theorem X.nnL_den {p:Nm->Bool} (J:Rho):∀l:List X,X.nnL l=true->Aw.nmsL p (X.denL J l)=true
 | [],_=>rfl
 | x::xs,h=>by
  simp only[X.nnL,Bool.and_eq_true]at h
  simp only[X.denL,Aw.nmsL,X.nn_den J x h.1,X.nnL_den J xs h.2,Bool.and_self]
theorem X.nnE_den {p:Nm->Bool} (J:Rho):∀l:List (List X),X.nnE l=true->Aw.nmsE p (X.denE J l)=true
 | [],_=>rfl
 | x::xs,h=>by
  simp only[X.nnE,Bool.and_eq_true]at h
  simp only[X.denE,Aw.nmsE,X.nnL_den J x h.1,X.nnE_den J xs h.2,Bool.and_self]
end
structure GK where
 f:Nat
 args:List X
 inn:bg
 r:X
 d:dR
def iG (P:Program) (J:Rho) (k:GK):Prop:=aQ P k.f=true/\CY P 1 k.f (X.denL J k.args) (aV J k.inn) (k.r.den J) (bZ J k.d)
def SB (P:Program) (k:Nat×Nat):Prop:=aQ P k.1=true/\∀(full:Bool) (n:Nat) (h:Hp),CY P n k.1 [.ro k.2 [] full] h (.ro k.2 [] false) []
def nP (ss:List ByteArray):List (List AV):=ss.map fun s=>[.sc (.string s)]
def Hl (P:Program) (f:Nat):Prop:=aQ P f=true/\∀(ss:List ByteArray) (f1 f2:Bool) (n:Nat) (h:Hp),ss.length<=4611686018427387904->CY P n f [.ro 1 (nP ss) f1,.ro 1 (nP ss) f2] h (.sc (.bool true)) []
structure Cfg where
 ti:Nat->Option TI
 ft:Nat->Option FnI
 fuel:Nat
 ks:List (Nat×List X×X)
 lp:Nat->List LoopX
 kh:List GK
 cl:List (Nat×Nat)
 ew:List Nat
structure CfgOk (P:Program) (J:Rho) (c:Cfg):Prop where
 mixed:P.follows .mixedOrders=true
 ti:TIs.ok P c.ti
 ft:∀f i,c.ft f=some i->zV P f i
 ks:∀p∈c.ks,aQ P p.1=true/\∀n h,CY P n p.1 (X.denL J p.2.1) h (p.2.2.den J) []
 lp:∀f i,c.ft f=some i->LpsOk P J i.ntmps (c.lp f) i.body
 kh:∀k∈c.kh,iG P J k
 cl:∀k∈c.cl,SB P k
 ew:∀f∈c.ew,Hl P f
def Oo (f:Nat) (args:List X):List (Nat×List X×X)->Option X
 | []=>none
 | (g,az,r)::l=>if(Nat.beq g f&&X.beqL az args)=true then some r else Oo f args l
theorem IJ {f:Nat} {args:List X} {r:X}:∀{l:List (Nat×List X×X)},Oo f args l=some r->(f,args,r)∈l
 | [],h=>by cases h
 | (g,az,s)::l,h=>by
  simp only[Oo]at h
  split at h
  ·rename_i hc
   simp only[Bool.and_eq_true]at hc
   cases h
   rw[<-Nat.eq_of_beq_eq_true hc.1,<-X.beqL_eq _ _ hc.2]
   exact List.mem_cons_self
  ·exact List.mem_cons_of_mem _ (IJ h)
def aY2 (c:Cfg) (call:bI) (f:Nat) (i:FnI) (args:List X) (Φ:Facts):T X :=
 if Nat.ble args.length i.ntmps=true then
  (dG c.ti call i.ms 0 (c.lp f) c.fuel i.body Φ ⟨rD 0 args,[],0⟩).bind Φ fun _ p=>match p.1 with
   | .exit _ => .fail ["exit"]
   | _=>lL ((Ez c.ti p.2 i.results).map Wi)
 else(.fail [])
theorem VO {P:Program} {J:Rho} {c:Cfg} (hc:CfgOk P J c) {call:bI} (hcall:dJ P J call) {f:FuncId} {i:FnI} (hi:zV P f i) (hlp:LpsOk P J i.ntmps (c.lp f) i.body) {args:List X} {Φ:Facts} (hk:Facts.ok J Φ) {r:X} (h:(aY2 c call f i args Φ).sel J=some r) :
  args.length<=i.ntmps/\∀E:Aw.Env,E.N=i.ntmps->AW P E i.body (aN3 P i.results (r.den J)) ⟨slots 0 (X.denL J args),[],0⟩:=by
 unfold aY2 at h
 split at h
 ·rename_i hl
  refine⟨by simpa using hl,fun E hE => ?_⟩
  obtain⟨fn,_,_,_,_,hf,_⟩:=hi
  obtain⟨Φ',p,hk',h1,h2⟩:=T.sel_bind _ hk h
  obtain⟨e,σ'⟩:=p
  refine VG fun hb => ?_
  have g:=dV (E:=E) hc.mixed hc.ti hcall (k0:=0) hb i.body Φ _ e σ' hk (by rw[hE];exact hf) (by rw[hE];exact hlp) h1
  have hst:(XS.mk (rD 0 args) [] 0).den J=⟨slots 0 (X.denL J args),[],0⟩:=by simp only[XS.den,xA];rfl
  have g':AW P E i.body (fun e' s=>e'=e.to/\s=σ'.den J) ⟨slots 0 (X.denL J args),[],0⟩:=by
   rw[<-hst]
   intro a w hr
   exact Code.wp_mono (fun e' a' w' ⟨s,q1,q2,q3⟩=>⟨σ'.den J,q3 a' w' q1,q2,rfl⟩) (g a w hr)
  have fin:∀{o:Option X},(lL ((Ez c.ti σ' i.results).map Wi):T X).sel J=o->o=some r->xC P (σ'.den J) i.results fun vs=>oneOf vs=r.den J:=by
   intro o h3 h4
   obtain⟨vs,hv,rfl⟩:=Option.map_eq_some_iff.1 (di (h3.trans h4))
   exact yU hc.ti hv (NR J vs).symm
  refine bY (fun e' s hq => ?_) g'
  obtain⟨rfl,rfl⟩:=hq
  cases e with
  | exit id=>cases h2
  | normal=>exact⟨.inr rfl,fin h2 rfl⟩
  | ret=>exact⟨.inl rfl,fin h2 rfl⟩
 ·cases h
def BQ (c:Cfg) (call:bI) (f:Nat) (args:List X) (Φ:Facts):T (X×dR) :=
 match c.ft f with
 | some i => (QM (aY2 c call f i args Φ)).bind Φ fun _ r => if r.nn = true then .ret (r, []) else .fail ["names"]
 | none => .fail ["table"]
theorem uA {P:Program} {J:Rho} {c:Cfg} (hc:CfgOk P J c) {call:bI} (hcall:dJ P J call) {n:Nat} {f:FuncId} {args:List X} (ha:X.nnL args=true) {h:Hp} {Φ:Facts} (hk:Facts.ok J Φ) {r:X} {d:dR} (hs:(BQ c call f args Φ).sel J=some (r,d)) :
  aQ P f=true/\CY P n f (X.denL J args) h (r.den J) (bZ J d):=by
 unfold BQ at hs
 split at hs
 ·rename_i i hi
  have hlp:=hc.lp f i hi
  have hi:=hc.ft f i hi
  obtain⟨_,z,_,h1,h2⟩:=T.sel_bind _ hk hs
  obtain⟨a,h3,h4⟩:=QL h1
  split at h2
  ·rename_i hn
   cases h2
   obtain⟨hlen,hb⟩:=VO hc hcall hi hlp hk h3
   obtain⟨fn,g1,g2,g3,g4,_,g6⟩:=hi
   refine⟨g6,?_⟩
   rw[<-h4,<-g3,<-g4]at hb
   exact aN6 g1 g2 (by rw[X.denL_len,g4];exact hlen) (X.nnL_den J args ha) (X.nn_den J _ hn) hb n h
  ·cases h2
 ·cases hs
def aS8 (c:Cfg):Nat->bI
 | 0=>fun _ _ _ _ _=>(.fail [])
 | d+1=>fun _ f args _ Φ=>match Oo f args c.ks with
  | some r => .ret (r,[])
  | none=>if X.nnL args=true then BQ c (aS8 c d) f args Φ else(.fail [])
inductive BT (α:Type) where
 | leaf
 | node (l:BT α) (k:Nat) (v:α) (r:BT α)
def fO {α:Type} (k:Nat):BT α->Option α
 | .leaf=>none
 | .node l j v r=>if Nat.beq j k=true then some v else if Nat.ble k j=true then fO k l else fO k r
def BT.mem {α:Type} (p:Nat×α):BT α->Prop
 | .leaf=>False
 | .node l j v r=>p=(j,v)\/l.mem p\/r.mem p
theorem fG {α:Type} {k:Nat} {v:α}:∀{t:BT α},fO k t=some v->t.mem (k,v)
 | .leaf,h=>by cases h
 | .node l j u r,h=>by
  simp only[fO]at h
  split at h
  ·rename_i hj;cases h;rw[Nat.eq_of_beq_eq_true hj];exact .inl rfl
  ·split at h
   ·exact .inr (.inl (fG h))
   ·exact .inr (.inr (fG h))
def Jm {α:Type} (l:List (Nat×α)):Nat->BT α
 | 0 => .leaf
 | d+1=>match l.drop (l.length / 2)with
  | [] => .leaf
  | (k,v)::r => .node (Jm (l.take (l.length / 2)) d) k v (Jm r d)
theorem gK {α:Type} {p:Nat×α}:∀(l:List (Nat×α)) (d:Nat),(Jm l d).mem p->p∈l
 | l,0,h=>by cases h
 | l,d+1,h=>by
  simp only[Jm]at h
  split at h
  ·cases h
  ·rename_i k v r he
   have hm:∀q∈(k,v)::r,q∈l:=fun q hq=>List.mem_of_mem_drop (by rw[he];exact hq)
   rcases h with h | h | h
   ·exact hm p (by rw[h];exact List.mem_cons_self)
   ·exact List.mem_of_mem_take (gK _ d h)
   ·exact hm p (List.mem_cons_of_mem _ (gK r d h))
def ask (c:Cfg) (d:Nat) (f:Nat) (args:List X):T X:=(aS8 c d 0 f args [] []).map (·.1)
end Go.Proofs.Xw
namespace Go.Proofs.Xw
open Go Go.Proofs.Aw
def QE (m:Nm):List Nm->Bool
 | []=>false
 | k::l=>eG k m||QE m l
def nD (h:bg):Nat->List Nm->List Nm->List Nm
 | 0,_,acc=>acc
 | _+1,[],acc=>acc
 | k+1,m::l,acc=>if QE m acc=true then nD h k l acc else match aT h m with
  | some cs=>nD h k (X.namesL cs++l) (acc++[m])
  | none=>nD h k l acc
def jh (W:List Nm):bg->bg
 | []=>[]
 | (m,v)::l=>if QE m W=true then(m,v)::jh W l else jh W l
theorem xP (W:List Nm) (m:Nm):∀h:bg,aT (jh W h) m=if QE m W=true then aT h m else none
 | []=>by simp[jh,aT]
 | (k,v)::l=>by
  have ih:=xP W m l
  simp only[jh]
  by_cases hk:eG k m=true
  ·have:=bT hk
   subst this
   by_cases hw:QE k W=true
   ·simp only[hw,if_true,aT,hk]
   ·simp only[hw]at ih ⊢
    simpa using ih
  ·by_cases hw:QE k W=true
   ·simp only[hw,if_true,aT,hk]
    simpa using ih
   ·simp only[hw,aT,hk]
    simpa using ih
theorem gI:∀(h:bg) (m:Nm) (cs:List X),aT h m=some cs->(m,cs)∈h
 | [],_,_,h=>by cases h
 | (k,v)::l,m,cs,h=>by
  simp only[aT]at h
  split at h
  ·rename_i e;have:=bT e;subst this;cases h;exact List.mem_cons_self
  ·exact List.mem_cons_of_mem _ (gI l m cs h)
def aR6 (m:Nm):List Nm->Nat->Option Nat
 | [],_=>none
 | k::l,i=>if eG k m=true then some i else aR6 m l (i+1)
def ac7 (n:Nat) (ψ:Nm->Nm) (h1:bg):Nat->List Nm->dR
 | _,[]=>[]
 | k,m::l=>match aT h1 m with
  | some cs=>((n,k),some (X.renL ψ cs))::ac7 n ψ h1 (k+1) l
  | none=>ac7 n ψ h1 (k+1) l
def Xl (n:Nat) (hs:bg) (m:Nm):Bool:=Nat.beq m.1 n||(aT hs m).isSome
def okH (n:Nat) (φ:Nat->Nm) (hs h h1:bg) (r r':X) (d:dR):Bool :=
 let p:=Xl n hs
 let h':=tZ d h
 d.all (fun q=>p q.1)&&(hs.all (fun q=>d.any fun e=>eG e.1 q.1)&&(r'.nms p&&(X.beq (r'.ren (Ky n φ)) r &&
  (h'.all (fun q => !p q.1||(X.nmsL p q.2&&match aT h1 (Ky n φ q.1)with | some cs=>X.beqL (X.renL (Ky n φ) q.2) cs | none=>false)) &&
  h'.all (fun q => !Nat.beq q.1.1 n||(Nat.blt n (φ q.1.2).1&&h'.all fun e => !Nat.beq e.1.1 n||(!eG (φ q.1.2) (φ e.1.2)||Nat.beq q.1.2 e.1.2)))))))
def ai7 (n:Nat) (W:List Nm) (hs h:bg) (h1:bg) (r:X):T (X×dR) :=
 let L:=(nD h1 200 (r.names++W) []).filter fun m => !QE m W
 let ψ:Nm->Nm:=fun m=>match aR6 m L 0 with | some k=>(n,k) | none=>m
 let φ:Nat->Nm:=fun k=>(L[k]?).getD (n+1,0)
 let d:dR:=(W.map fun m=>(m,(aT h1 m).map (X.renL ψ)))++ac7 n ψ h1 0 L
 if okH n φ hs h h1 r (r.ren ψ) d = true then .ret (r.ren ψ, d) else .fail ["hand"]
def IQ (c:Cfg) (call:bI) (n:Nat) (f:Nat) (args:List X) (h:bg) (Φ:Facts):T (X×dR) :=
 match c.ft f with
 | some i =>
  let W:=nD h 200 (X.namesL args) []
  let hs:=jh W h
  if(Nat.ble args.length i.ntmps&&(X.nmsL (fun k=>Nat.blt k.1 n) args&&hs.all fun q=>Nat.blt q.1.1 n&&X.nmsL (fun k=>Nat.blt k.1 n) q.2))=true then
   (uQ (rD 0 args) (dG c.ti call i.ms (n+1) (c.lp f) c.fuel i.body Φ ⟨rD 0 args,hs,n+1⟩)).bind Φ fun _ p=>match p.1 with
    | .exit _ => .fail ["exit"]
    | _=>match Ez c.ti p.2 i.results with
     | some vs=>ai7 n W hs h p.2.h (Wi vs)
     | none => .fail ["res"]
  else .fail ["heap"]
 | none => .fail ["table"]
theorem zf (J:Rho) (n:Nat) (hs:bg):Xl n hs=zX n (aV J hs):=by
 funext m
 simp only[Xl,zX,aG,Option.isSome_map]
 have:Nat.beq m.1 n=(m.1==n):=by rw[Bool.eq_iff_iff];simp
 rw[this]
theorem ba2 {P:Program} {J:Rho} {f:FuncId} {fn:Func} {c:Code} {args:List X} {r r':X} {n:Nat} {W:List Nm} {h h1:bg} {d:dR} {φ:Nat->Nm} (hf:P.funcs[f]? = some fn) (hb:fn.body=some c) (hN:args.length<=fn.ntmps)
  (hlt:((jh W h).all fun q=>Nat.blt q.1.1 n&&X.nmsL (fun k=>Nat.blt k.1 n) q.2)=true) (hA:X.nmsL (fun k=>Nat.blt k.1 n) args=true) (hok:okH n φ (jh W h) h h1 r r' d=true)
  (hrun:∀E:Aw.Env,E.N=fn.ntmps->AW P E c (fun e σ=>(e = .ret\/e = .normal)/\(xC P σ fn.results.toList fun vs=>oneOf vs=r.den J)/\σ.h=aV J h1) ⟨slots 0 (X.denL J args),aV J (jh W h),n+1⟩) :
  CY P n f (X.denL J args) (aV J h) (r'.den J) (bZ J d):=by
 simp only[okH,Bool.and_eq_true,List.all_eq_true,Bool.or_eq_true,Bool.not_eq_true',List.any_eq_true]at hok
 obtain⟨q1,q2,q3,q4,q5,q6⟩:=hok
 have q4:=X.beq_eq _ _ q4
 have hget':∀m,hget (hap (bZ J d) (aV J h)) m=(aT (tZ d h) m).map (aF J):=fun m=>by rw[<-kC,aG]
 have present:∀k,(hget (hap (bZ J d) (aV J h)) (n,k)).isSome=true->∃cs,((n,k),cs)∈tZ d h:=fun k hk=>by
  rw[hget',Option.isSome_map]at hk
  obtain⟨cs,hcs⟩:=Option.isSome_iff_exists.1 hk
  exact⟨cs,gI _ _ _ hcs⟩
 refine VD (hs:=aV J (jh W h)) φ hf hb (by rw[X.denL_len];exact hN) (fun m cs hg => ?_) (fun m cs hg => ?_) (X.nmsL_den J args hA) (fun m hm => ?_) (fun m hm => ?_) ?_ (fun m cs hg hp => ?_) (fun k hk => ?_) (fun j k hj hk he => ?_) (fun E hE => ?_)
 ·rw[aG,xP]at hg
  rw[aG]
  split at hg
  ·exact hg
  ·cases hg
 ·rw[aG]at hg
  obtain⟨cs',h2,rfl⟩:=Option.map_eq_some_iff.1 hg
  have:=List.all_eq_true.1 hlt _ (gI _ _ _ h2)
  simp only[Bool.and_eq_true,Nat.blt_eq]at this
  exact⟨this.1,X.nmsO_den J _ this.2⟩
 ·simp only[bZ,List.map_map,List.mem_map]at hm
  obtain⟨q,hq,rfl⟩:=hm
  have:=q1 q hq
  simp only[Xl,Bool.or_eq_true]at this
  rcases this with h2 | h2
  ·exact .inl (Nat.eq_of_beq_eq_true h2)
  ·right;rw[aG,Option.isSome_map];exact h2
 ·rw[aG,Option.isSome_map]at hm
  obtain⟨cs,hcs⟩:=Option.isSome_iff_exists.1 hm
  obtain⟨e,he,h2⟩:=q2 _ (gI _ _ _ hcs)
  simp only[bZ,List.map_map,List.mem_map]
  exact⟨e,he,bT h2⟩
 ·rw[<-zf];exact X.nms_den J _ q3
 ·rw[hget']at hg
  obtain⟨cs',h2,rfl⟩:=Option.map_eq_some_iff.1 hg
  rw[<-zf]at hp ⊢
  rcases q5 _ (gI _ _ _ h2)with h3 | h3
  ·rw[hp]at h3;cases h3
  ·exact X.nmsO_den J _ h3.1
 ·obtain⟨cs,hcs⟩:=present k hk
  rcases q6 _ hcs with h3 | h3
  ·simp at h3
  ·simpa using h3.1
 ·obtain⟨cs,hcs⟩:=present j hj
  obtain⟨cs',hcs'⟩:=present k hk
  rcases q6 _ hcs with h3 | h3
  ·simp at h3
  ·rcases h3.2 _ hcs' with h4 | h4
   ·simp at h4
   ·rcases h4 with h4 | h4
    ·simp only at h4
     rw[he]at h4
     simp[eG]at h4
    ·exact Nat.eq_of_beq_eq_true h4
 ·refine bY (fun e σ hq=>⟨hq.1,?_,fun m cs hg hp => ?_⟩) (hrun E hE)
  ·rw[<-X.ren_den,q4];exact hq.2.1
  ·rw[hget']at hg
   obtain⟨cs',h2,rfl⟩:=Option.map_eq_some_iff.1 hg
   rw[<-zf]at hp
   rcases q5 _ (gI _ _ _ h2)with h3 | h3
   ·rw[hp]at h3;cases h3
   ·have h4:=h3.2
    simp only at h4
    split at h4
    ·rename_i cs'' h5
     have h6:=X.beqL_eq _ _ h4
     rw[hq.2.2,aG,h5,Option.map_some,<-h6,X.renO_den]
    ·cases h4
theorem zC {P:Program} {J:Rho} {c:Cfg} (hc:CfgOk P J c) {call:bI} (hcall:dJ P J call) {n:Nat} {f:FuncId} {args:List X} {h:bg} {Φ:Facts} (hk:Facts.ok J Φ) {r:X} {d:dR} (hs:(IQ c call n f args h Φ).sel J=some (r,d)) :
  aQ P f=true/\CY P n f (X.denL J args) (aV J h) (r.den J) (bZ J d):=by
 unfold IQ at hs
 split at hs
 ·rename_i i hi
  have hlp:=hc.lp f i hi
  have hi:=hc.ft f i hi
  simp only at hs
  split at hs
  ·rename_i hc0
   simp only[Bool.and_eq_true]at hc0
   obtain⟨hl,hA,hlt⟩:=hc0
   obtain⟨fn,g1,g2,g3,g4,g5,g6⟩:=hi
   refine⟨g6,?_⟩
   obtain⟨Φ',p,hk',h1,h2⟩:=T.sel_bind _ hk hs
   obtain⟨e,σ'⟩:=p
   obtain⟨s1,h3,hle⟩:=oZ (gJ i.body Φ ⟨rD 0 args,jh (nD h 200 (X.namesL args) []) h,n+1⟩) h1
   have hst:(XS.mk (rD 0 args) (jh (nD h 200 (X.namesL args) []) h) (n+1)).den J=⟨slots 0 (X.denL J args),aV J (jh (nD h 200 (X.namesL args) []) h),n+1⟩:=by simp only[XS.den,xA]
   have key:∀vs,Ez c.ti σ' i.results=some vs->(e = .ret\/e = .normal)->∀E:Aw.Env,E.N=fn.ntmps->AW P E i.body (fun e σ=>(e = .ret\/e = .normal)/\(xC P σ fn.results.toList fun vs'=>oneOf vs'=(Wi vs).den J)/\σ.h=aV J σ'.h) ⟨slots 0 (X.denL J args),aV J (jh (nD h 200 (X.namesL args) []) h),n+1⟩:=fun vs hvs he E hE=>by
    refine VG fun hb => ?_
    have g:=dV (E:=E) hc.mixed hc.ti hcall (k0:=n+1) hb i.body Φ _ e s1 hk (by rw[hE,g4];exact g5) (by rw[hE,g4];exact hlp) h3
    unfold Goes at g
    rw[hst]at g
    have g':AW P E i.body (fun e' s=>e'=e.to/\s=σ'.den J) ⟨slots 0 (X.denL J args),aV J (jh (nD h 200 (X.namesL args) []) h),n+1⟩:=by
     intro a w hr
     exact Code.wp_mono (fun e' a' w' ⟨s,q1,q2,q3⟩=>⟨σ'.den J,(jr q3 hle) a' w' q1,q2,rfl⟩) (g a w hr)
    refine bY (fun e' s hq => ?_) g'
    obtain⟨rfl,rfl⟩:=hq
    refine⟨by rcases he with rfl | rfl<;>simp[XE.to],?_,rfl⟩
    rw[g3]
    exact yU hc.ti hvs (NR J vs).symm
   have fin:∀vs,Ez c.ti σ' i.results=some vs->(e = .ret\/e = .normal)->(ai7 n (nD h 200 (X.namesL args) []) (jh (nD h 200 (X.namesL args) []) h) h σ'.h (Wi vs)).sel J=some (r,d)->CY P n f (X.denL J args) (aV J h) (r.den J) (bZ J d):=fun vs hvs he hh=>by
    unfold ai7 at hh
    simp only at hh
    split at hh
    ·rename_i hok
     cases hh
     exact ba2 g1 g2 (by rw[g4];simpa using hl) hlt hA hok (key vs hvs he)
    ·cases hh
   cases e with
   | exit id=>cases h2
   | normal =>
    simp only at h2
    split at h2
    ·rename_i vs hvs;exact fin vs hvs (.inr rfl) h2
    ·cases h2
   | ret =>
    simp only at h2
    split at h2
    ·rename_i vs hvs;exact fin vs hvs (.inl rfl) h2
    ·cases h2
  ·cases hs
 ·cases hs
mutual
def nmX:X->X->List (Nm×Nm)->List (Nm×Nm)
 | .ptr a _ _,.ptr b _ _,l=>(a,b)::l
 | .sl a _ _ _ _,.sl b _ _ _ _,l=>(a,b)::l
 | .slv a _ _ _ _,.sl b _ _ _ _,l=>(a,b)::l
 | .slv a _ _ _ _,.slv b _ _ _ _,l=>(a,b)::l
 | .ptrv a _ _ _,.ptrv b _ _ _,l=>(a,b)::l
 | .agg xs,.agg ys,l=>nmL xs ys l
 | .fn _ xs us,.fn _ ys vs,l=>nmL xs ys (nmL us vs l)
 | _,_,l=>l
def nmL:List X->List X->List (Nm×Nm)->List (Nm×Nm)
 | x::xs,y::ys,l=>nmX x y (nmL xs ys l)
 | _,_,l=>l
end
def nmG (h:bg):bg->List (Nm×Nm)->List (Nm×Nm)
 | [],acc=>acc
 | (m,cs)::r,acc=>nmG h r (match aT h (iJ acc m)with
  | some ds=>nmL cs ds acc
  | none=>acc)
def okG (n:Nat) (φ χ:Nm->Nm) (k:GK) (args:List X) (hs h:bg) (r:X) (d:dR):Bool :=
 let p:=Xl n hs
 X.nmsL (fun m=>Nat.blt m.1 1) k.args&&(X.beqL (X.renL φ k.args) args&&(k.inn.all (fun q=>Nat.blt q.1.1 1&&(X.nmsL (fun m=>Nat.blt m.1 1) q.2&&(match aT hs (φ q.1)with | some ds=>X.beqL (X.renL φ q.2) ds | none=>false))) &&
 (hs.all (fun q=>(aT k.inn (χ q.1)).isSome&&eG (φ (χ q.1)) q.1)&&(QV φ (k.inn.map (·.1))&&(d.all (fun q=>p q.1)&&(hs.all (fun q=>d.any fun e=>eG e.1 q.1)&&(r.nms p&&(X.beq (r.ren χ) k.r &&
 (tZ d h).all (fun q => !p q.1||(X.nmsL p q.2&&match aT (tZ k.d k.inn) (χ q.1)with | some cs=>X.beqL (X.renL χ q.2) cs | none=>false))))))))))
def aU8 (n:Nat) (args:List X) (h:bg) (k:GK):Option (X×dR) :=
 let nm:=nmG h k.inn (nmL k.args args [])
 let φ:=iJ nm
 let inv:=nm.map fun q=>(q.2,q.1)
 let ψ:Nm->Nm:=fun m=>if Nat.beq m.1 1=true then(n,m.2)else φ m
 let χ:Nm->Nm:=fun m=>if Nat.beq m.1 n=true then(1,m.2)else iJ inv m
 let hs:=jh (k.inn.map fun q=>φ q.1) h
 let r:=k.r.ren ψ
 let d:dR:=k.d.map fun q=>(ψ q.1,q.2.map (X.renL ψ))
 if okG n φ χ k args hs h r d=true then some (r,d)else none
theorem cA5 {φ:Nm->Nm} {g:bg} (h:QV φ (g.map (·.1))=true):∀m m',(aT g m).isSome=true->(aT g m').isSome=true->φ m=φ m'->m=m':=fun m m' hm hm' he=>by
 obtain⟨cs,hcs⟩:=Option.isSome_iff_exists.1 hm
 obtain⟨cs',hcs'⟩:=Option.isSome_iff_exists.1 hm'
 exact DN h m (List.mem_map.2 ⟨_,gI _ _ _ hcs,rfl⟩) m' (List.mem_map.2 ⟨_,gI _ _ _ hcs',rfl⟩) he
theorem au7 {P:Program} {J:Rho} {n:Nat} {args:List X} {h:bg} {k:GK} {r:X} {d:dR} (hk:iG P J k) (hq:aU8 n args h k=some (r,d)):CY P n k.f (X.denL J args) (aV J h) (r.den J) (bZ J d):=by
 unfold aU8 at hq
 simp only at hq
 split at hq
 ·rename_i hok
  simp only[Option.some.injEq,Prod.mk.injEq]at hq
  obtain⟨hr,hd⟩:=hq
  rw[hr,hd]at hok
  generalize hφ:iJ (nmG h k.inn (nmL k.args args []))=φ at hok
  generalize hs0:jh (k.inn.map fun q=>φ q.1) h=hs at hok
  generalize hχ:(fun m:Nm=>if Nat.beq m.1 n=true then(1,m.2)else iJ ((nmG h k.inn (nmL k.args args [])).map fun q=>(q.2,q.1)) m)=χ at hok
  have χn:∀j,χ (n,j)=(1,j):=fun j=>by rw[<-hχ];simp
  simp only[okG,Bool.and_eq_true,List.all_eq_true,Bool.or_eq_true,Bool.not_eq_true',List.any_eq_true,Nat.blt_eq]at hok
  obtain⟨q1,q2,q3,q4,q5,q6,q7,q8,q9,q10⟩:=hok
  have hget':∀m,hget (hap (bZ J d) (aV J h)) m=(aT (tZ d h) m).map (aF J):=fun m=>by rw[<-kC,aG]
  have hget0:∀m,hget (hap (bZ J k.d) (aV J k.inn)) m=(aT (tZ k.d k.inn) m).map (aF J):=fun m=>by rw[<-kC,aG]
  refine aq5 (hs:=aV J hs) φ χ hk.2 (X.nmsL_den J _ (by simpa using q1)) (by rw[<-X.renL_den,X.beqL_eq _ _ q2]) (fun m cs hg => ?_) (fun m hm => ?_) (fun m m' hm hm' he => ?_) (fun m cs hg => ?_) (fun m hm => ?_) (fun m hm => ?_) ?_ ?_ (fun m cs hg hp => ?_) (fun j _=>by rw[χn];exact Nat.le_refl _) (fun i j _ _ he => ?_)
  ·rw[aG]at hg
   obtain⟨cs',h2,rfl⟩:=Option.map_eq_some_iff.1 hg
   obtain⟨g1,g2,g3⟩:=q3 _ (gI _ _ _ h2)
   refine⟨g1,X.nmsO_den J _ g2,?_⟩
   split at g3
   ·rename_i ds hds
    rw[aG,hds,Option.map_some,<-X.beqL_eq _ _ g3,X.renO_den]
   ·cases g3
  ·rw[aG,Option.isSome_map]at hm ⊢
   obtain⟨cs,hcs⟩:=Option.isSome_iff_exists.1 hm
   obtain⟨g1,g2⟩:=q4 _ (gI _ _ _ hcs)
   exact⟨g1,bT g2⟩
  ·rw[aG,Option.isSome_map]at hm hm'
   exact cA5 q5 m m' hm hm' he
  ·rw[<-hs0,aG,xP]at hg
   rw[aG]
   split at hg
   ·exact hg
   ·cases hg
  ·simp only[bZ,List.map_map,List.mem_map]at hm
   obtain⟨q,hq,rfl⟩:=hm
   have:=q6 q hq
   simp only[Xl,Bool.or_eq_true]at this
   rcases this with h2 | h2
   ·exact .inl (Nat.eq_of_beq_eq_true h2)
   ·right;rw[aG,Option.isSome_map];exact h2
  ·rw[aG,Option.isSome_map]at hm
   obtain⟨cs,hcs⟩:=Option.isSome_iff_exists.1 hm
   obtain⟨e,he,h2⟩:=q7 _ (gI _ _ _ hcs)
   simp only[bZ,List.map_map,List.mem_map]
   exact⟨e,he,bT h2⟩
  ·rw[<-zf];exact X.nms_den J _ q8
  ·rw[<-X.ren_den,X.beq_eq _ _ q9]
  ·rw[hget']at hg
   obtain⟨cs',h2,rfl⟩:=Option.map_eq_some_iff.1 hg
   rw[<-zf]at hp ⊢
   rcases q10 _ (gI _ _ _ h2)with h3 | h3
   ·rw[hp]at h3;cases h3
   ·refine⟨X.nmsO_den J _ h3.1,?_⟩
    have h4:=h3.2
    split at h4
    ·rename_i cs'' h5
     rw[hget0,h5,Option.map_some,<-X.beqL_eq _ _ h4,X.renO_den]
    ·cases h4
  ·rw[χn,χn]at he
   exact(Prod.mk.inj he).2
 ·cases hq
def EY (n f:Nat) (args:List X) (h:bg):List GK->Option (X×dR)
 | []=>none
 | k::l=>if Nat.beq k.f f=true then(match aU8 n args h k with
  | some q=>some q
  | none=>EY n f args h l)else EY n f args h l
theorem uK {P:Program} {J:Rho} {n f:Nat} {args:List X} {h:bg} {r:X} {d:dR}:∀{l:List GK},(∀k∈l,iG P J k)->EY n f args h l=some (r,d)->aQ P f=true/\CY P n f (X.denL J args) (aV J h) (r.den J) (bZ J d)
 | [],_,hq=>by cases hq
 | k::l,hk,hq=>by
  have hk':∀k∈l,iG P J k:=fun t ht=>hk t (List.mem_cons_of_mem _ ht)
  simp only[EY]at hq
  split at hq
  ·rename_i hf
   have hf:=Nat.eq_of_beq_eq_true hf
   split at hq
   ·rename_i q hu
    cases hq
    rw[<-hf]
    exact⟨(hk k List.mem_cons_self).1,au7 (hk k List.mem_cons_self) hu⟩
   ·exact uK hk' hq
  ·exact uK hk' hq
end Go.Proofs.Xw
