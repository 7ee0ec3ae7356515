/- Parts of the proof, one behind the other. -/
import Derived.Test.YtpdfmnhgocpkcaaGreatTM4
import Derived.Test.YtpdfmnhgocpkcaaGreatTM3
namespace Go.Proofs.YtpdfmnhgocpkcaaGreat
open Go Go.Proofs.Aw Go.Proofs.Xw
set_option maxRecDepth 100000
def Cy (f:Nat) (vs:List AV) (r:AV):Prop:=b_ Tryz.prog f=true/\∀n h,CY Tryz.prog n f vs h r []
theorem pd:∀f∈[27,28,29,33,34,35,36,77,81,92,94,97,104,105,107,108,109,110,113,114,24,135],b_ Tryz.prog f=true:=by
 intro f hf
 simp only[List.mem_cons,List.not_mem_nil,or_false]at hf
 rcases hf with rfl | rfl | rfl | rfl | rfl | rfl | rfl | rfl | rfl | rfl | rfl | rfl | rfl | rfl | rfl | rfl | rfl | rfl | rfl | rfl | rfl | rfl<;>kernel_rfl
theorem mr {ρ:aa} {a b:U} (h:a.I ρ<b.I ρ):(BE.lt a b).I ρ=true:=decide_eq_true h
theorem b' {ρ:aa} {a b:U} (h:¬a.I ρ<b.I ρ):(BE.lt a b).I ρ=false:=decide_eq_false h
theorem yw {ρ:aa} {a b:U} (h:(BE.not (.lt a b)).I ρ=true):¬a.I ρ<b.I ρ:=fun k=>by
 have:(!(decide (a.I ρ<b.I ρ)))=true:=h
 simp[k]at this
def cfM (n:Int) (j:Bool):List X:=[.agg ([xi 0,xn n]++vi 2 8++[xl j]++vi 11 2)]
theorem Sl (ρ:aa):X.af ρ [.agg (iF 0)]=X.af ρ (cfM (ρ.i 1) (ρ.b 10)):=rfl
def JG:J:=[(.lt (.var 0) (.lit 1),true)]
def JH:J:=[(.lt (.lit 1099511627776) (.var 0),true)]
def JI:J:=[(.lt (.var 1) (.lit 1),true)]
def JJ:J:=[(.lt (.lit 4) (.var 1),true)]
def w2 (b:Bool):X := .sc (.b (.lit b))
theorem tm (f:Nat) (B:J) (b:Bool) (h:iw (aN (cU []) f [.agg (iF 0)] B) (.ret (w2 b))=true) {ρ:aa} (u:J.ok ρ B):Cy f (X.af ρ [.agg (iF 0)]) (.sc (.bool b)):=by
 unfold iw at h
 split at h
 ·rename_i x y e1 e2
  cases e2
  have:=X.beq_eq _ _ h
  subst this
  exact ef (jW ρ) (List.forall_mem_nil _) u (by rw[e1];rfl)
 ·cases h
theorem aq5 (ρ:aa):∃b:Bool,Cy 97 (X.af ρ [.agg (iF 0)]) (.sc (.bool b))/\Cy 105 (X.af ρ [.agg (iF 0)]) (.sc (.bool b))/\(b=true->1<=ρ.i 1/\ρ.i 1<=4/\∀k:Nat,(k:Int)<ρ.i 1->0<=ρ.i (2+2*k)/\ρ.i (2+2*k)<=3):=by
 have one:∀{c:BE},c.I ρ=true->J.ok ρ [(c,true)]:=fun h=>J.av h (J.bq ρ)
 by_cases h0:ρ.i 0<1
 ·have u:J.ok ρ JG:=one (mr h0)
  exact⟨false,tm 97 JG false (by kernel_rfl) u,tm 105 JG false (by kernel_rfl) u,fun h=>by cases h⟩
 by_cases A:1099511627776<ρ.i 0
 ·have u:J.ok ρ JH:=one (mr A)
  exact⟨false,tm 97 JH false (by kernel_rfl) u,tm 105 JH false (by kernel_rfl) u,fun h=>by cases h⟩
 by_cases E:ρ.i 1<1
 ·have u:J.ok ρ JI:=one (mr E)
  exact⟨false,tm 97 JI false (by kernel_rfl) u,tm 105 JI false (by kernel_rfl) u,fun h=>by cases h⟩
 by_cases h3:4<ρ.i 1
 ·have u:J.ok ρ JJ:=one (mr h3)
  exact⟨false,tm 97 JJ false (by kernel_rfl) u,tm 105 JJ false (by kernel_rfl) u,fun h=>by cases h⟩
 have u:J.ok ρ gr:=J.av (b' h0) (J.av (b' A) (J.bq ρ))
 have go:∀(n:Nat) (j:Bool) (e e':BE),ρ.i 1=n->ρ.b 10=j->1<=n->n<=4->aN (cU []) 97 (fj n j) gr = .ret (.sc (.b e))->aN (cU []) 105 (fj n j) gr = .ret (.sc (.b e'))->e.I ρ=e'.I ρ->(e'.I ρ=true->∀c∈qe n,c.I ρ=true) ->
   ∃b:Bool,Cy 97 (X.af ρ [.agg (iF 0)]) (.sc (.bool b))/\Cy 105 (X.af ρ [.agg (iF 0)]) (.sc (.bool b))/\(b=true->1<=ρ.i 1/\ρ.i 1<=4/\∀k:Nat,(k:Int)<ρ.i 1->0<=ρ.i (2+2*k)/\ρ.i (2+2*k)<=3):=fun n j e e' hn O g1 g2 q1 q2 q3 q4=>by
  have bm:=ef (jW ρ) (List.forall_mem_nil _) u (show(aN (cU []) 97 (fj n j) gr).aq ρ=some _ by rw[q1];rfl)
  have bl:=ef (jW ρ) (List.forall_mem_nil _) u (show(aN (cU []) 105 (fj n j) gr).aq ρ=some _ by rw[q2];rfl)
  have ed:X.af ρ [.agg (iF 0)]=X.af ρ (fj n j):=by rw[Sl,hn,O];rfl
  refine⟨e'.I ρ,?_,?_,fun h=>⟨by omega,by omega,fun k u => ?_⟩⟩
  ·rw[ed,<-q3];exact bm
  ·rw[ed];exact bl
  ·have h:=q4 h
   have u:k∈List.range n:=List.mem_range.2 (by omega)
   have m1:=h _ (List.mem_flatMap.2 ⟨k,u,List.mem_cons_self⟩)
   have m2:=h _ (List.mem_flatMap.2 ⟨k,u,List.mem_cons_of_mem _ List.mem_cons_self⟩)
   have m1:¬ρ.i (2+2*k)<0:=yw m1
   have m2:¬3<ρ.i (2+2*k):=yw m2
   omega
 have hn:ρ.i 1=1\/ρ.i 1=2\/ρ.i 1=3\/ρ.i 1=4:=by omega
 cases O:ρ.b 10<;>rcases hn with hn | hn | hn | hn
 ·exact go 1 false _ _ hn O (by omega) (by omega) apC api (atE ρ) (acW ρ)
 ·exact go 2 false _ _ hn O (by omega) (by omega) apE apk (atG ρ) (acY ρ)
 ·exact go 3 false _ _ hn O (by omega) (by omega) apG apm (atI ρ) (ac0 ρ)
 ·exact go 4 false _ _ hn O (by omega) (by omega) apI apo (atK ρ) (ac2 ρ)
 ·exact go 1 true _ _ hn O (by omega) (by omega) apD apj (atF ρ) (acX ρ)
 ·exact go 2 true _ _ hn O (by omega) (by omega) apF apl (atH ρ) (acZ ρ)
 ·exact go 3 true _ _ hn O (by omega) (by omega) apH apn (atJ ρ) (ac1 ρ)
 ·exact go 4 true _ _ hn O (by omega) (by omega) apJ apq (atL ρ) (ac3 ρ)
theorem IJ (ρ:aa):∃g,jQ 1 ((h9 0).I ρ) g:=by
 obtain⟨b,A,E,h3⟩:=aq5 ρ
 refine⟨fun _=>if b=true then 1 else 0,⟨fun f hf n h => ?_,fun j => ?_,fun Z => ?_⟩⟩
 ·have e:II 1 (fun _=>if b=true then 1 else 0) = .sc (.bool b):=by cases b<;>rfl
  rw[e]
  simp only[eJ,List.mem_cons,List.not_mem_nil,or_false]at hf
  rcases hf with rfl | rfl
  ·exact A.2 n h
  ·exact E.2 n h
 ·simp only[jg];split<;>omega
 ·have hb:b=true:=by cases b<;>simp_all
  obtain⟨g1,g2,g3⟩:=h3 hb
  have q:∀k:Nat,k<4->vI ((h9 0).I ρ) (2+2*k)=ρ.i (2+2*k):=fun k u=>by
   rcases(show k=0\/k=1\/k=2\/k=3 by omega)with rfl | rfl | rfl | rfl<;>rfl
  refine⟨g1,g2,fun k u => ?_⟩
  have u:(k:Int)<ρ.i 1:=u
  rw[q k (by omega)]
  exact g3 k u
theorem H6 (f:Nat) (hf:f∈eJ 1):c4 Tryz.prog (CQ f):=⟨pd f (by simp only[eJ,List.mem_cons,List.not_mem_nil,or_false]at hf;rcases hf with rfl | rfl<;>decide),fun ρ n h _=>by
 obtain⟨g,Z⟩:=IJ ρ
 exact(iz Z).qo f hf n h⟩
end Go.Proofs.YtpdfmnhgocpkcaaGreat
namespace Go.Proofs.YtpdfmnhgocpkcaaGreat
open Go Go.Proofs.Aw Go.Proofs.Xw
set_option maxRecDepth 100000
structure kN (cs:List AV) (D:List (List AV)) (ρ:aa):Prop where
 ah:az 10 (iH cs D) ρ
 i0:0<=ρ.i 10
 i1:ρ.i 10<=D.length
structure fW (D:List (List AV)):Prop where
 h0:D≠[]
 l:D.length<=1000000
 r:∀e∈D,mG e
theorem kN.rows {cs:List AV} {D:List (List AV)} (hs:fW D) {ρ:aa} (h:kN cs D ρ):bC ρ 20 (.len 0) 0=D:=by
 rw[<-aew (cs:=cs) hs.r]
 have M:ρ.len 0=(iH cs D).len 0:=(h.ah.len 0 (by decide)).symm
 have H:ρ.ct 0=(iH cs D).ct 0:=(h.ah.ct 0 (by decide)).symm
 unfold bC
 simp only[U.I,M,H]
theorem kN.len {cs:List AV} {D:List (List AV)} {ρ:aa} (h:kN cs D ρ):ρ.len 0=D.length:=(h.ah.len 0 (by decide)).symm
theorem WO:∀(e:List AV),(∀(i:Nat) (v:AV),e[i]? = some v->b8 (fun _=>false) v=true)->a4 (fun _=>false) e=true
 | [],_=>rfl
 | v::e,h=>by simp only[a4,h 0 v rfl,WO e fun i x hx=>h (i+1) x (by simpa using hx),Bool.and_self]
theorem mG.nm {e:List AV} (h:mG e):a4 (fun _=>false) e=true:=WO e fun i v R=>by
 obtain⟨v',A,E,_⟩:=h.get (k:=i) (by
  have:=(List.getElem?_eq_some_iff.1 R).1
  rw[h.l]at this;exact this)
 rw[R]at A;cases A;exact E
theorem fW.nm {D:List (List AV)} (hs:fW D):cq (fun _=>false) D=true:=by
 have:∀D:List (List AV),(∀e∈D,mG e)->cq (fun _=>false) D=true:=fun D=>by
  induction D with
  | nil=>intro _;rfl
  | cons e D ih=>intro h;simp only[cq,(h e List.mem_cons_self).nm,ih fun x hx=>h x (List.mem_cons_of_mem _ hx),Bool.and_self]
 exact this D hs.r
theorem fW.GM {D:List (List AV)} (hs:fW D):a4 (fun _=>false) D.flatten=true:=q' hs.nm
theorem Ld {cs:List AV} {D:List (List AV)} (hs:fW D) {ρ:aa} (h:kN cs D ρ):∀k∈K3,c' Tryz.prog ρ k:=List.forall_mem_cons.2 ⟨⟨by kernel_rfl,by
 have hr:=h.rows hs
 have M:=h.len
 have e1:X.af ρ [.slv (0,0) 20 (.lit 0) (.len 0) true]=[.sl (0,0) 20 0 D.length true]:=by
  show [AV.sl (0,0) 20 0 ((ρ.len 0:Int)).toNat true]=_
  rw[M];rfl
 have e2:(X.slv (1,0) 20 (.lit 0) (.len 0) true).I ρ = .sl (1,0) 20 0 D.length true:=by
  show AV.sl (1,0) 20 0 ((ρ.len 0:Int)).toNat true=_
  rw[M];rfl
 have e3:bk ρ [((0,0),some [.tk 20 (.len 0) 0 []]),((1,0),some [.tk 20 (.len 0) 0 []])]=[((0,0),some D.flatten),((1,0),some D.flatten)]:=by
  show [((0,0),some (bC ρ 20 (.len 0) 0++[]).flatten),((1,0),some (bC ρ 20 (.len 0) 0++[]).flatten)]=_
  rw[hr,List.append_nil]
 have e4:aO ρ [((0,0),[.tk 20 (.len 0) 0 []])]=gf D:=by
  show [((0,0),(bC ρ 20 (.len 0) 0++[]).flatten)]=_
  rw[hr,List.append_nil];rfl
 show CY Tryz.prog 1 47 (X.af ρ [.slv (0,0) 20 (.lit 0) (.len 0) true]) (aO ρ [((0,0),[.tk 20 (.len 0) 0 []])]) ((X.slv (1,0) 20 (.lit 0) (.len 0) true).I ρ) (bk ρ [((0,0),some [.tk 20 (.len 0) 0 []]),((1,0),some [.tk 20 (.len 0) 0 []])])
 rw[e1,e2,e3,e4]
 have:=hs.l
 exact adC (fn:=Tryz.f47) (ty:=59) (e:=69) Tryz.func47 rfl rfl rfl (by kernel_rfl) (by kernel_rfl) hs.h0 (fun j r O=>(hs.r r (List.mem_of_getElem? O)).l) hs.GM (by rw[show de Tryz.prog 69=192 by kernel_rfl];omega) (by omega)⟩,List.forall_mem_nil _⟩
theorem aeI {cs:List AV} {D:List (List AV)} (hs:fW D) {ρ:aa} (h:kN cs D ρ) (aQ:ρ.i 10<D.length):∀p∈AJ,b_ Tryz.prog p.1=true/\∀n h,CY Tryz.prog n p.1 (X.af ρ p.2.1) h (p.2.2.I ρ) []:=by
 have h0:=h.i0
 have O:(ρ.i 10).toNat<D.length:=by omega
 have hr:=hs.r _ (List.getElem_mem O)
 have H:ρ.ct 0=(iH cs D).ct 0:=(h.ah.ct 0 (by decide)).symm
 have cJ:∀k v,D[(ρ.i 10).toNat][k]? = some v->(X.cJ 0 k (.var 10)).I ρ=v:=fun k v R=>by
  show(ρ.ct 0 k (ρ.i 10).toNat).1=v
  rw[H]
  exact K9 hs.r (List.getElem?_eq_getElem O) R
 refine List.forall_mem_cons.2 ⟨⟨by kernel_rfl,fun n hp => ?_⟩,List.forall_mem_cons.2 ⟨⟨by kernel_rfl,fun n hp => ?_⟩,List.forall_mem_nil _⟩⟩
 ·obtain⟨v,A,ss,E,h3,h4⟩:=hr.t 3 (.r 1 [.s]) rfl
  have e:=cJ 3 v A
  show CY Tryz.prog n 48 [(X.cJ 0 3 (.var 10)).I ρ] hp ((X.cJ 0 3 (.var 10)).I ρ) []
  rw[e,E]
  exact adA h4 h3 n hp
 ·obtain⟨v,A,ss,E,h3,h4⟩:=hr.t 10 (.r 22 fc) rfl
  have e:=cJ 10 v A
  show CY Tryz.prog n 49 [(X.cJ 0 10 (.var 10)).I ρ] hp ((X.cJ 0 10 (.var 10)).I ρ) []
  rw[e,E]
  exact adB h4 h3 n hp
theorem xw {cs:List AV} {D:List (List AV)} (hs:fW D) {ρ:aa} (h:kN cs D ρ):J.ok ρ uO:=by
 have q1:=h.len;have q2:=h.i0;have q3:=h.i1;have q4:=hs.l
 have q5:1<=D.length:=List.length_pos_iff.2 hs.h0
 exact J.av (b' (show ¬ρ.i 10<0 by omega)) (J.av (b' (show ¬(ρ.len 0:Int)<ρ.i 10 by omega)) (J.av (b' (show ¬(1000000:Int)<ρ.len 0 by omega)) (J.av (b' (show ¬(ρ.len 0:Int)<1 by omega)) (J.bq ρ))))
theorem aeE (o:Bool) {cs:List AV} {D:List (List AV)} (hs:fW D):∃am,az 10 (iH cs D) am/\kN cs D am/\bW Tryz.prog am Tryz.f16.ntmps so (AE o):=by
 have he:az 10 (iH cs D) (AG.ap (iH cs D)):=Bind.bt (by kernel_rfl) _
 refine ou (P:=Tryz.prog) (N:=Tryz.f16.ntmps) (body:=so) (k0:=2) (n:=10) (S0:=(ET o)) (ρ:=iH cs D) (aez o) (fun _=>(xr o)) (AE o) ⟨rfl,rfl,rfl⟩ (fun _ F=>kN cs D F) (kN cs D) (fun F=>D.length-(F.i 10).toNat) (fun i F hR => ?_)
  ⟨0,AG.ap (iH cs D),he,⟨he,Int.le_refl _,show(0:Int)<=D.length by omega⟩,fun ac _ bI=>jF bI (aeD o) _⟩
 have q1:=hR.len;have q2:=hR.i0;have q3:=hR.i1;have q4:=hs.l
 by_cases aQ:F.i 10<D.length
 ·right
  have H:bZ Tryz.prog F (uN AJ).c:=r5 (aeI hs hR aQ) (fun _ _ _=>a1.nil _ _ _ _) (Ld hs hR) (List.forall_mem_nil _) (List.forall_mem_nil _)
  have e1:uL.I F=F.i 10+1:=(show uL.I F=IntKind.i64.wrap (F.i 10+1)from rfl).trans (cc _ (by omega) (by omega))
  have u:J.ok F xx:=J.av (mr (show F.i 10<(F.len 0:Int)by omega)) (J.av (b' (by rw[e1];show ¬_<(0:Int);omega)) (J.av (b' (by rw[e1];show ¬(F.len 0:Int)<_;omega)) (xw hs hR)))
  have Z:=(aeC o)
  unfold TH at Z
  split at Z
  ·rename_i s bD
   have eP:=Qe (P:=Tryz.prog) (ρ:=F) (N:=Tryz.f16.ntmps) (body:=so) (k0:=2) (S:=(xr o)) (lO:=(xr o)) mixed cR (eU (c:=uN AJ) H (List.forall_mem_nil _) 12) (a1.nil _ _ _ _) TM u rfl (s:=s) (by
    show((K' o) AJ xx).aq F=_
    rw[bD];rfl) Z
   have ah:az 10 F (xu.ap F):=Bind.bt (by kernel_rfl) _
   have Tb:(xu.ap F).i 10=F.i 10+1:=e1
   exact⟨0,_,eP,⟨hR.ah.trans ah,by omega,by omega⟩,by omega,ah⟩
  ·cases Z
 ·left
  refine⟨hR,?_⟩
  have H:bZ Tryz.prog F (uN []).c:=r5 (List.forall_mem_nil _) (fun _ _ _=>a1.nil _ _ _ _) (Ld hs hR) (List.forall_mem_nil _) (List.forall_mem_nil _)
  have u:J.ok F xv:=J.av (b' (show ¬F.i 10<(F.len 0:Int)by omega)) (xw hs hR)
  rcases gD mixed cR (eU (c:=uN []) H (List.forall_mem_nil _) 12) (a1.nil _ _ _ _) TM u (aeB o)with h | ⟨j,C,_,A,_⟩
  ·exact h
  ·simp at A
noncomputable def K4 (o:Bool) (g:Nat):List bf:=if Nat.beq g 16=true then [(AE o)]else []
noncomputable def EV (o:Bool):cj:=⟨r4 [] (K4 o) K3 [] [],[],[]⟩
def Lc:X := .slv (1,0) 20 (.lit 0) (.len 0) true
def aev (o:Bool):aL:=[((0,0),some (uM o)),((0,1),some [.tk 20 (.len 0) 0 []]),((1,0),some [.tk 20 (.len 0) 0 []])]
def qp:aL->aL->Bool
 | [],[]=>true
 | (m,some x)::a,(m',some y)::b=>cN m m'&&(X.fh x y&&qp a b)
 | _,_=>false
theorem S6:∀{a b:aL},qp a b=true->a=b
 | [],[],_=>rfl
 | (m,some x)::a,(m',some y)::b,h=>by
  simp only[qp,Bool.and_eq_true]at h
  rw[eu h.1,X.gO _ _ h.2.1,S6 h.2.2]
 | [],_::_,h=>by simp[qp]at h
 | (_,some _)::_,[],h=>by simp[qp]at h
 | (_,none)::_,[],h=>by simp[qp]at h
 | (_,none)::_,_::_,h=>by simp[qp]at h
 | (_,some _)::_,(_,none)::_,h=>by simp[qp]at h
def Vx (o:Bool):T (X×aL)->Bool
 | .ret (r,d)=>X.beq r Lc&&qp d (aev o)
 | _=>false
theorem aeG (o:Bool):(Vx o) (fC (EV o) 16 [.ptr (0,0) [] 0] (KZ o) uO)=true:=by cases o<;>kernel_rfl
theorem aeF (o:Bool) {ρ:aa} (h:bW Tryz.prog ρ Tryz.f16.ntmps so (AE o)):∀g i,eB g gb=some i->a1 Tryz.prog ρ i.ntmps ((K4 o) g) i.body:=fun g i hi=>by
 unfold K4
 split
 ·rename_i hf
  have hf:=Nat.eq_of_beq_eq_true hf
  subst hf
  have gc:jk Tryz.prog 16 i:=mT (16,i) (jV _ _ (jU hi))
  refine ov gc Tryz.func16 ?_
  exact kv (c:=Tryz.f16.body.getD .skip) [0] (by cases o<;>kernel_rfl) (List.forall_mem_cons.2 ⟨ku (L:=(AE o)) (c:=so) (by cases o<;>kernel_rfl) h,List.forall_mem_nil _⟩)
 ·exact a1.nil _ _ _ _
theorem aeA (o:Bool) {cs:List AV} (L1:cs.length=42) (eW:∀(k:Nat) (c:AV),cs[k]? = some c->if uR o k=true then c = .top else b8 (fun _=>false) c=true/\c.one=true) {D:List (List AV)} (hs:fW D):CY Tryz.prog 1 16 [.ptr (0,0) 0] [((0,0),cs++[.sl (0,1) 20 0 D.length true]),((0,1),D.flatten)] (.ro 20 D false) [((0,0),some (cs++[.sl (0,1) 20 0 D.length true])),((0,1),some D.flatten)]:=by
 obtain⟨am,cf,hI,hL⟩:=aeE o (cs:=cs) hs
 have H:bZ Tryz.prog am (EV o).c:=r5 (List.forall_mem_nil _) ((aeF o) hL) (Ld hs hI) (List.forall_mem_nil _) (List.forall_mem_nil _)
 have hr:=(aeG o)
 unfold Vx at hr
 split at hr
 ·rename_i r d bD
  simp only[Bool.and_eq_true]at hr
  have A:=X.beq_eq _ _ hr.1
  have E:=S6 hr.2
  subst A E
  have g:=(uq (c:=(EV o)) H (List.forall_mem_nil _) (xw hs hI) (show(fC (EV o) 16 [.ptr (0,0) [] 0] (KZ o) uO).aq am=some _ by rw[bD];rfl)).2
  have qI:=hI.rows hs
  have hlen:=hI.len
  have ecs:X.af am (Lb o)=cs:=by
   apply List.ext_getElem?
   intro k
   rw[X.r9]
   unfold Lb
   by_cases u:k<42
   ·rw[List.getElem?_map,List.getElem?_range u,Option.map_some,Option.map_some,List.getElem?_eq_getElem (by omega)]
    have hm:=eW k cs[k] (List.getElem?_eq_getElem (by omega))
    congr 1
    split at hm
    ·rename_i h
     rw[if_pos h,hm];rfl
    ·rename_i h
     rw[if_neg h]
     show(am.ct 5 k 0).1=_
     rw[<-cf.ct 5 (by decide)]
     show((if(5:Nat)=0 then rL (((D[0]?).bind (·[k]?)).getD (.sc (.bool false)))else rL ((cs[k]?).getD (.sc (.bool false)))).1)=_
     rw[if_neg (by decide),List.getElem?_eq_getElem (by omega),Option.getD_some,Ix hm.1 hm.2]
   ·rw[List.getElem?_eq_none (by rw[List.length_map,List.length_range];omega),List.getElem?_eq_none (by omega)];rfl
  have n3:X.af am (uM o)=cs++[.sl (0,1) 20 0 D.length true]:=by
   unfold uM
   rw[X.gq,ecs]
   show cs++[AV.sl (0,1) 20 0 ((am.len 0:Int)).toNat true]=_
   rw[hlen];rfl
  have KH:aA am [.tk 20 (.len 0) 0 []]=D.flatten:=by
   show(bC am 20 (.len 0) 0++[]).flatten=_
   rw[qI,List.append_nil]
  have eCo:aA am (uM o)=cs++[.sl (0,1) 20 0 D.length true]:=by rw[cP (by cases o<;>kernel_rfl)];exact n3
  have ad8:Lc.I am = .sl (1,0) 20 0 D.length true:=by
   show AV.sl (1,0) 20 0 ((am.len 0:Int)).toNat true=_
   rw[hlen];rfl
  have g:CY Tryz.prog 1 16 [.ptr (0,0) 0] [((0,0),aA am (uM o)),((0,1),aA am [.tk 20 (.len 0) 0 []])] (Lc.I am) [((0,0),some (aA am (uM o))),((0,1),some (aA am [.tk 20 (.len 0) 0 []])),((1,0),some (aA am [.tk 20 (.len 0) 0 []]))]:=g
  rw[eCo,KH,ad8]at g
  have hw:∀(j:Nat) (r:List AV),D[j]? = some r->r.length=20:=fun j r O=>(hs.r r (List.mem_of_getElem? O)).l
  have q:=abj (r' := .ro 20 D false) (fun m hm ay => ?_) ?_ g
  ·exact q
  ·simp only[List.map_cons,List.map_nil,List.mem_cons,List.not_mem_nil,or_false]at hm
   rcases hm with rfl | rfl | rfl
   ·simp[aD,dI]
   ·simp[aD,dI]
   ·exact absurd rfl ay
  ·refine .inl (.inl (.inr ⟨(1,0),20,0,D.length,true,D,rfl,by decide,?_,hs.nm,rfl⟩))
   have e:aD (([((0,0),some (cs++[AV.sl (0,1) 20 0 D.length true])),((0,1),some D.flatten),((1,0),some D.flatten)]:Dl).filter fun q=>q.1.1==1) []=[((1,0),D.flatten)]:=rfl
   rw[e]
   simp only[er,ae,if_true,Option.bind_some]
   rw[if_pos ⟨trivial,by rw[gS _ hw];omega⟩,List.drop_zero,Ah _ _ hw (Nat.le_refl _),List.take_of_length_le (Nat.le_refl _)]
 ·cases hr
end Go.Proofs.YtpdfmnhgocpkcaaGreat
namespace Go.Proofs.Xw
open Go Go.Proofs.Aw
def lJ (c:AV) (Y:Value):AV:=match c with
 | .top => .top
 | _ => .sc Y
theorem asW {C:Ctx} (c:AV) (Y:Value):aj C (lJ c Y) Y:=by
 unfold lJ
 split
 ·simp only[aj]
 ·show Y=Y;rfl
theorem asV {C C':Ctx} (M:C.le C') {c:AV} {Y u':Value} (h:aj C c Y) (k:aj C' (lJ c Y) u'):aj C' c u':=by
 unfold lJ at k
 split at k
 ·simp only[aj]
 ·have k:u'=Y:=k
  rw[k];exact aj.mono M _ _ h
theorem abk {P:Program} {n:Nat} {f:FuncId} {args:List AV} {h:Hp} {r:AV} {d:Dl} {m:Nm} {cs t t':List AV} (hm:ae h m=some (cs++t)) (hd:ae (aD d h) m=some (cs++t'))
  (aR:∀us:List Value,us.length=cs.length->(∀(j:Nat) (c:AV) (Y:Value),cs[j]? = some c->us[j]? = some Y->c.one=true->Y.oneCell'=true)->∃(A:Hp) (d1:Dl),(∀q,q≠m->ae A q=ae h q)/\ae A m=some (List.zipWith lJ cs us++t)/\d1.map (·.1)=d.map (·.1)/\(∀q,q≠m->ae (aD d1 A) q=ae (aD d h) q)/\ae (aD d1 A) m=some (List.zipWith lJ cs us++t')/\CY P n f args A r d1):CY P n f args h r d:=by
 intro C vs W hL hn
 obtain⟨arr,ty,ha,ho⟩:=W.obj m _ hm
 have key:∀j (O:j<cs.length),∃Y,arr[C.bs m+j]? = some Y/\aj C cs[j] Y:=fun j O=>ho j cs[j] (by rw[List.getElem?_append_left O,List.getElem?_eq_getElem O])
 let us:List Value:=(List.range cs.length).map fun j=>(arr[C.bs m+j]?).getD undef
 have fH:us.length=cs.length:=by simp[us]
 have hu:∀j (O:j<cs.length),us[j]? = some ((arr[C.bs m+j]?).getD undef):=fun j O=>by
  show((List.range cs.length).map _)[j]? = _
  rw[List.getElem?_map,List.getElem?_range O];rfl
 have hz:(List.zipWith lJ cs us).length=cs.length:=by rw[List.length_zipWith,fH,Nat.min_self]
 have Vp:∀j (O:j<cs.length),(List.zipWith lJ cs us)[j]? = some (lJ cs[j] ((arr[C.bs m+j]?).getD undef)):=fun j O=>by
  rw[List.getElem?_zipWith,List.getElem?_eq_getElem O,hu j O]
 obtain⟨A,d1,e1,e2,e3,e4,iG,H⟩:=aR us fH fun j c Y L3 Vg A=>by
  have O:j<cs.length:=(List.getElem?_eq_some_iff.1 L3).1
  obtain⟨v,k1,k2⟩:=key j O
  rw[hu j O,k1]at Vg
  rw[List.getElem?_eq_getElem O]at L3
  cases Vg;cases L3
  exact Ct k2 A
 have some1:∀q,(ae A q).isSome=(ae h q).isSome:=fun q=>by
  by_cases hq:q=m
  ·subst hq;rw[e2,hm];rfl
  ·rw[e1 q hq]
 have hh1:cY C A:=by
  refine⟨fun q=>by rw[W.live,some1],fun q c Z => ?_,W.inj,W.mt,W.kn⟩
  by_cases hq:q=m
  ·subst hq
   rw[e2]at Z;cases Z
   refine⟨arr,ty,ha,fun j c O => ?_⟩
   by_cases aQ:j<cs.length
   ·rw[List.getElem?_append_left (by rw[hz];exact aQ),Vp j aQ]at O
    cases O
    obtain⟨Y,A,_⟩:=key j aQ
    refine⟨Y,A,?_⟩
    rw[A];exact asW _ _
   ·refine ho j c ?_
    rw[List.getElem?_append_right (by rw[hz];omega),hz]at O
    rw[List.getElem?_append_right (by omega)]
    exact O
  ·rw[e1 q hq]at Z;exact W.obj q c Z
 refine(H C vs hh1 hL hn).mono ?_
 rintro e w' ⟨Y,C',G,hw,hp⟩
 refine⟨Y,C',G,hw,hp.le,hp.kn,⟨fun q => ?_,fun q c Z => ?_,hp.heap.inj,hp.heap.mt,hp.heap.kn⟩,hp.val,fun b hb hq=>hp.same b hb fun q hJ=>hq q (by rw[<-e3];exact hJ),hp.mt,hp.os,hp.tape,hp.output,fun q hq => ?_,fun q hq=>hp.names q (by rw[e3];exact hq)⟩
 ·rw[hp.heap.live q]
  by_cases hq:q=m
  ·subst hq;rw[iG,hd];rfl
  ·rw[e4 q hq]
 ·by_cases hq:q=m
  ·subst hq
   rw[hd]at Z;cases Z
   obtain⟨arr',ty',dz,dT⟩:=hp.heap.obj q _ iG
   refine⟨arr',ty',dz,fun j c O => ?_⟩
   by_cases aQ:j<cs.length
   ·rw[List.getElem?_append_left aQ,List.getElem?_eq_getElem aQ]at O
    cases O
    obtain⟨u',g1,g2⟩:=dT j _ (by rw[List.getElem?_append_left (by rw[hz];exact aQ),Vp j aQ])
    obtain⟨v,k1,k2⟩:=key j aQ
    refine⟨u',g1,?_⟩
    rw[k1]at g2
    exact asV hp.le k2 g2
   ·refine dT j c ?_
    rw[List.getElem?_append_right (by omega)]at O
    rw[List.getElem?_append_right (by rw[hz];omega),hz];exact O
  ·rw[<-e4 q hq]at Z;exact hp.heap.obj q c Z
 ·rcases hp.lA q hq with h | h | ⟨m0,A,E,h3⟩
  ·exact .inl h
  ·exact .inr (.inl h)
  ·exact .inr (.inr ⟨m0,by rw[<-e3];exact A,E,h3⟩)
theorem Oy {p:Nm->Bool}:∀(a b:List AV),a4 p (a++b)=(a4 p a&&a4 p b)
 | [],b=>by simp only[List.nil_append,a4,Bool.true_and]
 | x::a,b=>by simp only[List.cons_append,a4,Oy a b,Bool.and_assoc]
theorem WQ {p:Nm->Bool}:∀{l:List AV},(∀c∈l,c = .top\/∃Y:Value,c = .sc Y)->a4 p l=true
 | [],_=>rfl
 | c::l,h=>by
  have M:=WQ (p:=p) fun x hx=>h x (List.mem_cons_of_mem _ hx)
  rcases h c List.mem_cons_self with rfl | ⟨Y,rfl⟩<;>simp only[a4,b8,M,Bool.and_self]
theorem X2 (f:Nm->Nm):∀{l:List AV},(∀c∈l,c = .top\/∃Y:Value,c = .sc Y)->bu f l=l
 | [],_=>rfl
 | c::l,h=>by
  have M:=X2 f fun x hx=>h x (List.mem_cons_of_mem _ hx)
  rcases h c List.mem_cons_self with rfl | ⟨Y,rfl⟩<;>simp only[bu,aW,M]
theorem abl {P:Program} {n:Nat} {f:FuncId} {args:List AV} {h h':Hp} {r:AV} {d:Dl} (hs:∀m,(ae h m).isSome=(ae h' m).isSome) (aZ:∀m cs bn,ae h m=some cs->ae h' m=some bn->bo bn cs) (afP:∀m,m∉d.map (·.1)->ae h m=ae h' m) (H:CY P n f args h' r d):CY P n f args h r d:=by
 intro C vs W hL hn
 have af4:cY C h':=by
  refine⟨fun m=>by rw[W.live,hs],fun m bn Z => ?_,W.inj,W.mt,W.kn⟩
  obtain⟨cs,aI⟩:∃cs,ae h m=some cs:=Option.isSome_iff_exists.1 (by rw[hs,Z];rfl)
  obtain⟨arr,ty,ha,ho⟩:=W.obj m cs aI
  refine⟨arr,ty,ha,fun j c O => ?_⟩
  obtain⟨y,hy,M⟩:=(aZ m cs bn aI Z).2 j c O
  obtain⟨Y,hu,a9⟩:=ho j y hy
  exact⟨Y,hu,M C Y a9⟩
 refine(H C vs af4 hL hn).mono ?_
 rintro e w' ⟨Y,C',G,hw,hp⟩
 have To:∀m,ae (aD d h) m=ae (aD d h') m:=fun m=>by
  rcases m4 m d h with⟨_,A⟩ | ⟨A,E⟩
  ·exact A h'
  ·rw[E,gw d h' m A,afP m A]
 exact⟨Y,C',G,hw,hp.le,hp.kn,⟨fun m=>by rw[To];exact hp.heap.live m,fun m cs Z=>by rw[To]at Z;exact hp.heap.obj m cs Z,hp.heap.inj,hp.heap.mt,hp.heap.kn⟩,hp.val,hp.same,hp.mt,hp.os,hp.tape,hp.output,hp.lA,hp.names⟩
end Go.Proofs.Xw
namespace Go.Proofs.YtpdfmnhgocpkcaaGreat
open Go Go.Proofs.Aw Go.Proofs.Xw
set_option maxRecDepth 100000
theorem aey {h:Hp} {m m':Nm} {ds:List AV} {aF:List (List AV)} (hs:fW aF) (o:Bool) (M:ds.length=42) (ho:∀(k:Nat) (c:AV),ds[k]? = some c->if uR o k=true then c = .top else ∃Y:Value,c = .sc Y/\Y.oneCell'=true) (ay:m≠m') {sl:List AV} (Mw:sl=[.sl m' 20 0 aF.length true]) (A:ae h m=some (ds++sl)) (E:ae h m'=some aF.flatten) (n:Nat) :
  CY Tryz.prog n 16 [.ptr m 0] h (.ro 20 aF false) [(m,some (ds++sl)),(m',some aF.flatten)]:=by
 subst Mw
 intro C vs W hL hn
 have nm:∀q,(ae h q).isSome=true->q.1≠n:=fun q hq e=>hn q.2 (by rw[<-e];exact W.kn q ((W.live q).2 hq))
 have n1:=nm m (by rw[A];rfl)
 have n2:=nm m' (by rw[E];rfl)
 have ts:∀c∈ds,c = .top\/∃Y:Value,c = .sc Y:=fun c H=>by
  obtain⟨k,u⟩:=List.getElem?_of_mem H
  have:=ho k c u
  split at this
  ·exact .inl this
  ·obtain⟨Y,e,_⟩:=this;exact .inr ⟨Y,e⟩
 have WD:∀p,a4 p ds=true:=fun p=>WQ ts
 have XT:∀f,bu f ds=ds:=fun f=>X2 f ts
 have q:=aeA o (cs:=ds) M (fun k c u=>by
  have:=ho k c u
  split at this
  ·rename_i h;rw[if_pos h];exact this
  ·rename_i h
   rw[if_neg h]
   obtain⟨Y,e,A⟩:=this
   subst e
   exact⟨rfl,A⟩) hs
 let aE:Nm->Nm:=fun k=>if k=(0,0)then m else if k=(0,1)then m' else k
 let cw:Nm->Nm:=fun k=>if k=m then(0,0)else if k=m' then(0,1)else(1,k.2)
 let hs:Hp:=[(m,ds++[.sl m' 20 0 aF.length true]),(m',aF.flatten)]
 have AC:aE (0,0)=m:=if_pos rfl
 have f1:aE (0,1)=m':=by show(if((0,1):Nm)=(0,0)then m else _)=m';rw[if_neg (by decide),if_pos rfl]
 have c0:cw m=(0,0):=if_pos rfl
 have c1:cw m'=(0,1):=by show(if m'=m then _ else _)=_;rw[if_neg (fun e=>ay e.symm),if_pos rfl]
 have Ak:∀k,cw (n,k)=(1,k):=fun k=>by
  show(if(n,k)=m then _ else _)=_
  rw[if_neg (fun e=>n1 (by rw[<-e])),if_neg (fun e=>n2 (by rw[<-e]))]
 have gs:∀k cs,ae hs k=some cs->(k=m/\cs=ds++[.sl m' 20 0 aF.length true])\/(k=m'/\cs=aF.flatten):=fun k cs Z=>by
  simp only[hs,ae]at Z
  split at Z
  ·rename_i e;cases Z;exact .inl ⟨e.symm,rfl⟩
  ·split at Z
   ·rename_i e;cases Z;exact .inr ⟨e.symm,rfl⟩
   ·cases Z
 have k9:∀k cs,ae [((0,0),ds++[AV.sl (0,1) 20 0 aF.length true]),((0,1),aF.flatten)] k=some cs->(k=(0,0)/\cs=ds++[.sl (0,1) 20 0 aF.length true])\/(k=(0,1)/\cs=aF.flatten):=fun k cs Z=>by
  simp only[ae]at Z
  split at Z
  ·rename_i e;cases Z;exact .inl ⟨e.symm,rfl⟩
  ·split at Z
   ·rename_i e;cases Z;exact .inr ⟨e.symm,rfl⟩
   ·cases Z
 have hm:ae hs m=some (ds++[.sl m' 20 0 aF.length true]):=by simp only[hs,ae,if_true]
 have a0:ae hs m'=some aF.flatten:=by simp only[hs,ae];rw[if_neg ay];simp only[if_true]
 have GT:∀f:Nm->Nm,bu f aF.flatten=aF.flatten:=fun f=>lB f _ ‹fW aF›.GM
 refine RA (hs:=hs) aE cw q rfl (by show _=[AV.ptr (aE (0,0)) 0];rw[AC]) (fun k cs Z => ?_) (fun k u => ?_) (fun k k' u aM G => ?_) (fun k cs Z => ?_) (fun k u => ?_) (fun k u => ?_) ?_ ?_ (fun k cs Z hp => ?_) (fun j _=>by rw[Ak];exact Nat.le_refl _) (fun i j _ _ G => ?_) C vs W hL hn
 ·rcases k9 k cs Z with⟨rfl,rfl⟩ | ⟨rfl,rfl⟩
  ·refine⟨by decide,by rw[Oy,WD];rfl,?_⟩
   rw[AC,hm,HF,XT]
   show _=some (ds++[AV.sl (aE (0,1)) 20 0 aF.length true])
   rw[f1]
  ·exact⟨by decide,pD (p:=fun _=>false) (fun _ h=>by cases h) _ ‹fW aF›.GM,by rw[f1,a0,GT]⟩
 ·obtain⟨cs,aI⟩:=Option.isSome_iff_exists.1 u
  rcases gs k cs aI with⟨rfl,_⟩ | ⟨rfl,_⟩
  ·rw[c0];exact⟨rfl,AC⟩
  ·rw[c1];exact⟨rfl,f1⟩
 ·obtain⟨cs,aI⟩:=Option.isSome_iff_exists.1 u
  obtain⟨bn,qy⟩:=Option.isSome_iff_exists.1 aM
  rcases k9 k cs aI with⟨rfl,_⟩ | ⟨rfl,_⟩<;>rcases k9 k' bn qy with⟨rfl,_⟩ | ⟨rfl,_⟩
  ·rfl
  ·rw[AC,f1]at G;exact absurd G ay
  ·rw[AC,f1]at G;exact absurd G.symm ay
  ·rfl
 ·rcases gs k cs Z with⟨rfl,rfl⟩ | ⟨rfl,rfl⟩
  ·exact A
  ·exact E
 ·right
  simp only[List.map_cons,List.map_nil,List.mem_cons,List.not_mem_nil,or_false]at u
  rcases u with rfl | rfl
  ·rw[hm];rfl
  ·rw[a0];rfl
 ·obtain⟨cs,aI⟩:=Option.isSome_iff_exists.1 u
  rcases gs k cs aI with⟨rfl,_⟩ | ⟨rfl,_⟩<;>simp
 ·show cq _ aF=true
  exact Ox (p:=fun _=>false) (fun _ h=>by cases h) _ ‹fW aF›.nm
 ·show AV.ro 20 aF false = .ro 20 (dD cw aF) false
  rw[pN cw aF ‹fW aF›.nm]
 ·have Fy:k=m\/k=m':=by
   simp only[d',Bool.or_eq_true,beq_iff_eq]at hp
   rcases hp with hp | hp
   ·exfalso
    have u:(ae h k).isSome=true:=by
     rcases m4 k [(m,some (ds++[AV.sl m' 20 0 aF.length true])),(m',some aF.flatten)] h with⟨g,_⟩ | ⟨_,g⟩
     ·simp only[List.map_cons,List.map_nil,List.mem_cons,List.not_mem_nil,or_false]at g
      rcases g with rfl | rfl
      ·exact absurd hp n1
      ·exact absurd hp n2
     ·rw[<-g,Z];rfl
    exact nm k u hp
   ·obtain⟨cs,aI⟩:=Option.isSome_iff_exists.1 hp
    rcases gs k cs aI with⟨e,_⟩ | ⟨e,_⟩
    ·exact .inl e
    ·exact .inr e
  have aoL:d' n hs m'=true:=by simp only[d',a0,Option.isSome_some,Bool.or_true]
  rcases Fy with rfl | rfl
  ·have e:ae (aD [(k,some (ds++[AV.sl m' 20 0 aF.length true])),(m',some aF.flatten)] h) k=some (ds++[AV.sl m' 20 0 aF.length true]):=by
    simp only[aD,dI];rw[if_neg (fun e=>ay e.symm)];simp only[if_true]
   rw[e]at Z;cases Z
   refine⟨by rw[Oy,WD];simp only[a4,b8,aoL,Bool.and_self],?_⟩
   rw[c0,HF,XT]
   show _=some (ds++[AV.sl (cw m') 20 0 aF.length true])
   rw[c1];rfl
  ·have e:ae (aD [(m,some (ds++[AV.sl k 20 0 aF.length true])),(k,some aF.flatten)] h) k=some aF.flatten:=by
    simp only[aD,dI,if_true]
   rw[e]at Z;cases Z
   exact⟨pD (p:=fun _=>false) (fun _ h=>by cases h) _ ‹fW aF›.GM,by rw[c1,GT];rfl⟩
 ·rw[Ak,Ak]at G
  exact congrArg Prod.snd G
theorem TL {h:Hp} {m m':Nm} {cs fl:List AV} {aF:List (List AV)} (hs:fW aF) (o:Bool) (M:cs.length=42) (ho:∀(k:Nat) (c:AV),cs[k]? = some c->if uR o k=true then c = .top else c.one=true) (ay:m≠m') (A:ae h m=some (cs++[.sl m' 20 0 aF.length true])) (E:ae h m'=some fl) (aZ:bo aF.flatten fl) (n:Nat) :
  CY Tryz.prog n 16 [.ptr m 0] h (.ro 20 aF false) [(m,some (cs++[.sl m' 20 0 aF.length true])),(m',some aF.flatten)]:=by
 have gd:∀(x:List AV) (h:Hp),ae (aD [(m,some x),(m',some aF.flatten)] h) m=some x:=fun x h=>by
  simp only[aD,dI];rw[if_neg (fun e=>ay e.symm)];simp only[if_true]
 have aum:∀(x:List AV) (h:Hp),ae (aD [(m,some x),(m',some aF.flatten)] h) m'=some aF.flatten:=fun x h=>by
  simp only[aD,dI,if_true]
 refine abk (m:=m) (cs:=cs) (t:=[.sl m' 20 0 aF.length true]) (t':=[.sl m' 20 0 aF.length true]) A (gd _ h) fun us hu gA => ?_
 let ds:=List.zipWith lJ cs us
 have hz:ds.length=42:=by show(List.zipWith lJ cs us).length=42;rw[List.length_zipWith,hu,Nat.min_self,M]
 have i5:∀(k:Nat) (c:AV),ds[k]? = some c->if uR o k=true then c = .top else ∃Y:Value,c = .sc Y/\Y.oneCell'=true:=fun k c u=>by
  have aut:k<42:=by
   have:=(List.getElem?_eq_some_iff.1 u).1
   omega
  have H:cs[k]? = some cs[k]:=List.getElem?_eq_getElem (by omega)
  have R:us[k]? = some us[k]:=List.getElem?_eq_getElem (by omega)
  have u:(List.zipWith lJ cs us)[k]? = some c:=u
  rw[List.getElem?_zipWith,H,R]at u
  have u:lJ cs[k] us[k]=c:=Option.some.inj u
  have q:=ho k _ H
  split at q
  ·rename_i h
   rw[if_pos h,<-u,q];rfl
  ·rename_i h
   rw[if_neg h]
   refine⟨us[k],?_,gA k _ _ H R q⟩
   rw[<-u]
   unfold lJ
   split
   ·rename_i e;rw[e]at q;cases q
   ·rfl
 let pa:Hp:=gU (gU h m' aF.flatten) m (ds++[.sl m' 20 0 aF.length true])
 have hm:ae (gU h m (ds++[.sl m' 20 0 aF.length true])) m=some (ds++[.sl m' 20 0 aF.length true]):=by simp only[dI,if_true]
 refine⟨gU h m (ds++[.sl m' 20 0 aF.length true]),[(m,some (ds++[.sl m' 20 0 aF.length true])),(m',some aF.flatten)],fun q hq=>by rw[dI,if_neg (fun e=>hq e.symm)],hm,rfl,fun q hq => ?_,gd _ _,?_⟩
 ·simp only[aD,dI]
  split
  ·rfl
  ·rw[if_neg (fun e=>hq e.symm),if_neg (fun e=>hq e.symm),if_neg (fun e=>hq e.symm)]
 ·have dB:ae pa m=some (ds++[.sl m' 20 0 aF.length true]):=by show ae (gU _ m _) m=_;simp only[dI,if_true]
  have fo:ae pa m'=some aF.flatten:=by show ae (gU (gU h m' _) m _) m'=_;rw[dI,if_neg ay,dI];simp only[if_true]
  have dT:ae (gU h m (ds++[.sl m' 20 0 aF.length true])) m'=some fl:=by rw[dI,if_neg ay];exact E
  have Mo:∀q,q≠m->q≠m'->ae (gU h m (ds++[.sl m' 20 0 aF.length true])) q=ae pa q:=fun q hq hJ=>by
   show _=ae (gU (gU h m' _) m _) q
   rw[dI,if_neg (fun e=>hq e.symm),dI,if_neg (fun e=>hq e.symm),dI,if_neg (fun e=>hJ e.symm)]
  refine abl (h':=pa) (fun q => ?_) (fun q a b ha hb => ?_) (fun q hq => ?_) (aey hs o hz i5 ay rfl dB fo n)
  ·by_cases e:q=m
   ·subst e;rw[hm,dB]
   ·by_cases e':q=m'
    ·subst e';rw[dT,fo];rfl
    ·rw[Mo q e e']
  ·by_cases e:q=m
   ·subst e;rw[hm]at ha;rw[dB]at hb;cases ha;cases hb;exact bo.refl _
   ·by_cases e':q=m'
    ·subst e';rw[dT]at ha;rw[fo]at hb;cases ha;cases hb;exact aZ
    ·rw[Mo q e e',hb]at ha;cases ha;exact bo.refl _
  ·simp only[List.map_cons,List.map_nil,List.mem_cons,List.not_mem_nil,or_false,not_or]at hq
   exact Mo q hq.1 hq.2
end Go.Proofs.YtpdfmnhgocpkcaaGreat
namespace Go.Proofs.Xw
open Go Go.Proofs.Aw
theorem FT {l:List X} (h:2<=l.length):b6 l=false:=by
 unfold b6
 split
 ·simp at h
 ·simp at h
 ·rfl
theorem bo.flat:∀{a b:List (List AV)},a.length=b.length->(∀(j:Nat) (x y:List AV),a[j]? = some x->b[j]? = some y->bo x y)->bo a.flatten b.flatten
 | [],[],_,_=>bo.refl _
 | [],_::_,h,_=>by cases h
 | _::_,[],h,_=>by cases h
 | x::a,y::b,h,k=>by
  simp only[List.flatten_cons]
  exact bo.app (k 0 x y rfl rfl) (bo.flat (by simpa using h) fun j x y hx hy=>k (j+1) x y (by simpa using hx) (by simpa using hy))
end Go.Proofs.Xw
namespace Go.Proofs.YtpdfmnhgocpkcaaGreat
open Go Go.Proofs.Aw Go.Proofs.Xw
set_option maxRecDepth 100000
def AF (D:List (List X)):U:=mkAdd (.len 460) (.lit D.length)
def eD (B:J) (D:List (List X)):List (List X):=D.map (ir B jb)
def VE:X->Bool
 | .top=>true
 | _=>false
def sq (o:Bool) (cs:List X):Bool:=Nat.beq cs.length 42&&(List.range 42).all fun k=>match cs[k]? with
 | some x=>if uR o k=true then VE x else x.one
 | none=>false
theorem TJ {ρ:aa} {o:Bool} {cs:List X} (h:sq o cs=true):(X.af ρ cs).length=42/\∀(k:Nat) (c:AV),(X.af ρ cs)[k]? = some c->if uR o k=true then c = .top else c.one=true:=by
 simp only[sq,Bool.and_eq_true,List.all_eq_true]at h
 have M:=Nat.eq_of_beq_eq_true h.1
 refine⟨by rw[X.f_];exact M,fun k c u => ?_⟩
 rw[X.r9]at u
 obtain⟨x,hx,rfl⟩:=Option.map_eq_some_iff.1 u
 have u:k<42:=by
  have:=(List.getElem?_eq_some_iff.1 hx).1
  omega
 have q:=h.2 k (List.mem_range.2 u)
 rw[hx]at q
 simp only at q
 split at q
 ·rename_i ht
  rw[if_pos ht]
  unfold VE at q
  split at q
  ·rfl
  ·cases q
 ·rename_i ht
  rw[if_neg ht];exact X.one_den ρ x q
def TF (B:J) (cs:List X) (D:List (List X)):Bool:=(sq false cs||sq true cs)&&((Nat.blt 0 D.length||nu B (.lt (.len 460) (.lit 1),false))&&(Nat.ble D.length 1000&&(nu B (.lt (.lit 1000) (.len 460),false)&&(eD B D).all fun e=>Nat.beq e.length 20&&oY B eY e)))
def La (B:J) (args:List X) (h:au):Option (X×aL):=match args with
 | [.ptr m [] 0]=>match bh h m with
  | some c=>match c.drop 42 with
   | [.slv m' z off n own]=>match bh h m' with
    | some [.tk z' n' t D]=>if(!(cN m m')&&(Nat.beq z 20&&(off.beq (.lit 0)&&(n.beq (AF D)&&(own&&(Nat.beq z' 20&&(n'.beq (.len 460)&&(Nat.beq t 460&&TF B (c.take 42) D))))))))=true then
      some (.tq 20 (.len 460) 460 (eD B D) false,[(m,some c),(m',some [.tk 20 (.len 460) 460 (eD B D)])])else none
    | _=>none
   | [.sl m' z off n own]=>match bh h m' with
    | some o=>if(!(cN m m')&&(Nat.beq z 20&&(Nat.beq off 0&&(Nat.beq n 1&&(own&&((sq false (c.take 42)||sq true (c.take 42))&&(Nat.beq o.length 20&&(Nat.beq (ir B jb o).length 20&&oY B eY (ir B jb o)))))))))=true then
      some (.ro 20 [ir B jb o] false,[(m,some c),(m',some (ir B jb o))])else none
    | none=>none
   | _=>none
  | none=>none
 | _=>none
theorem K8 (B:J) (D:List (List X)):(eD B D).length=D.length:=by simp[eD]
theorem TK {ρ:aa} {B:J} (u:J.ok ρ B) {r:List X} (hq:(Nat.beq r.length 20&&oY B eY r)=true):mG (X.af ρ r):=by
 rw[Bool.and_eq_true]at hq
 refine⟨by rw[X.f_];exact Nat.eq_of_beq_eq_true hq.1,fun k t sE => ?_⟩
 obtain⟨x,hx,ht⟩:=QJ hq.2 sE
 exact⟨x.I ρ,by rw[X.r9,hx];rfl,ZV u ht⟩
theorem K_ {ρ:aa} {B:J} (u:J.ok ρ B) (hT:dX 460 eY ρ) {D:List (List X)} (h:((eD B D).all fun e=>Nat.beq e.length 20&&oY B eY e)=true):∀e∈bC ρ 20 (.len 460) 460++X.aX ρ (eD B D),mG e:=by
 intro e G
 rcases List.mem_append.1 G with G | G
 ·unfold bC at G
  obtain⟨j,O,rfl⟩:=List.mem_map.1 G
  have O:j<ρ.len 460:=by
   have:=List.mem_range.1 O
   have e:((U.len 460).I ρ).toNat=ρ.len 460:=Int.toNat_natCast _
   omega
  refine⟨by simp,fun k t sE => ?_⟩
  have af6:k<20:=by
   have:=(List.getElem?_eq_some_iff.1 sE).1
   rw[Nj]at this;exact this
  refine⟨_,?_,hT j k t O sE⟩
  rw[List.getElem?_map,List.getElem?_range af6];rfl
 ·rw[X.eg]at G
  obtain⟨r,hr,rfl⟩:=List.mem_map.1 G
  exact TK u (List.all_eq_true.1 h r hr)
theorem aex {ρ:aa} {B:J} (u:J.ok ρ B) (hT:dX 460 eY ρ) {args:List X} {h:au} {r:X} {d:aL} (hq:La B args h=some (r,d)) (n:Nat):CY Tryz.prog n 16 (X.af ρ args) (aO ρ h) (r.I ρ) (bk ρ d):=by
 unfold La at hq
 split at hq
 ·rename_i m
  split at hq
  ·rename_i c H
   split at hq
   ·rename_i m' z off auv own L4
    split at hq
    ·rename_i z' n' t D dA
     split at hq
     ·rename_i Bg
      cases hq
      simp only[TF,Bool.and_eq_true,Bool.not_eq_true']at Bg
      obtain⟨c1,c2,c3,dy,t7,t8,c7,In,IR,h3,h4,h5,h6⟩:=Bg
      have c2:=Nat.eq_of_beq_eq_true c2;have c3:=U.beq_eq _ _ c3;have dy:=U.beq_eq _ _ dy;have t8:=Nat.eq_of_beq_eq_true t8;have c7:=U.beq_eq _ _ c7;have In:=Nat.eq_of_beq_eq_true In
      subst c2 c3 dy t7 t8 c7 In
      have ay:m≠m':=fun e=>by rw[e]at c1;simp[cN]at c1
      have h3:0<ρ.len 460+D.length:=by
       rcases Bool.or_eq_true_iff.1 h3 with h | h
       ·have:0<D.length:=by simpa [Nat.blt_eq]using h
        omega
       ·have:¬(ρ.len 460:Int)<1:=of_decide_eq_false (rz u h)
        omega
      have h4:=Nat.le_of_ble_eq_true h4
      have h5:¬(1000:Int)<(ρ.len 460:Int):=of_decide_eq_false (rz u h5)
      let aF:List (List AV):=bC ρ 20 (.len 460) 460++X.aX ρ (eD B D)
      have LP:(bC ρ 20 (.len 460) 460).length=ρ.len 460:=by rw[we];exact Int.toNat_natCast _
      have hE:(X.aX ρ (eD B D)).length=D.length:=by rw[X.eg,List.length_map,K8]
      have hR:aF.length=ρ.len 460+D.length:=by show(bC ρ 20 (.len 460) 460++X.aX ρ (eD B D)).length=_;rw[List.length_append,LP,hE]
      have hs:fW aF:=⟨fun e=>by have:=congrArg List.length e;rw[hR]at this;simp only[List.length_nil]at this;omega,by omega,K_ u hT h6⟩
      have ho:∃o,sq o (c.take 42)=true:=by
       rcases Bool.or_eq_true_iff.1 IR with h | h
       ·exact⟨_,h⟩
       ·exact⟨_,h⟩
      obtain⟨o,ho⟩:=ho
      obtain⟨M,ho⟩:=TJ (ρ:=ρ) ho
      have qs:c=c.take 42++[.slv m' 20 (.lit 0) (AF D) true]:=by rw[<-L4,List.take_append_drop]
      have hn:((AF D).I ρ).toNat=aF.length:=by
       unfold AF
       rw[fe,hR]
       show(((ρ.len 460:Int)+(D.length:Int))).toNat=_
       omega
      have n3:aA ρ c=X.af ρ (c.take 42)++[.sl m' 20 0 aF.length true]:=by
       have l2:2<=c.length:=by
        have:=congrArg List.length qs
        rw[X.f_]at M
        rw[List.length_append,M]at this
        omega
       rw[cP (FT l2)]
       conv=>lhs;rw[qs]
       rw[X.gq]
       show X.af ρ (c.take 42)++[AV.sl m' 20 0 ((AF D).I ρ).toNat true]=_
       rw[hn]
      have g1:ae (aO ρ h) m=some (X.af ρ (c.take 42)++[.sl m' 20 0 aF.length true]):=by rw[cG,H,Option.map_some,n3]
      have g2:ae (aO ρ h) m'=some (bC ρ 20 (.len 460) 460++X.aX ρ D).flatten:=by rw[cG,dA];rfl
      have aZ:bo aF.flatten (bC ρ 20 (.len 460) 460++X.aX ρ D).flatten:=by
       show bo (bC ρ 20 (.len 460) 460++X.aX ρ (eD B D)).flatten _
       rw[List.flatten_append,List.flatten_append]
       refine bo.app (bo.refl _) (bo.flat (by rw[hE,X.eg,List.length_map]) fun j x y hx hy => ?_)
       rw[X.w_]at hx hy
       unfold eD at hx
       rw[List.getElem?_map]at hx
       obtain⟨r,hr,rfl⟩:=Option.map_eq_some_iff.1 hy
       rw[hr]at hx
       cases hx
       exact yJ u jb r
      have q:=TL hs o M ho ay g1 g2 aZ n
      show CY Tryz.prog n 16 [.ptr m 0] (aO ρ h) (.ro 20 aF false) [(m,some (aA ρ c)),(m',some aF.flatten)]
      rw[n3]
      exact q
     ·cases hq
    ·cases hq
   ·rename_i m' z off n own L4
    split at hq
    ·rename_i o dA
     split at hq
     ·rename_i Bg
      cases hq
      simp only[Bool.and_eq_true,Bool.not_eq_true']at Bg
      obtain⟨c1,c2,c3,dy,t7,IR,h4,h5⟩:=Bg
      have c2:=Nat.eq_of_beq_eq_true c2;have c3:=Nat.eq_of_beq_eq_true c3;have dy:=Nat.eq_of_beq_eq_true dy;have h4:=Nat.eq_of_beq_eq_true h4
      have h6:=Nat.eq_of_beq_eq_true h5.1
      subst c2 c3 dy t7
      have ay:m≠m':=fun e=>by rw[e]at c1;simp[cN]at c1
      have hs:fW [X.af ρ (ir B jb o)]:=⟨by simp,by simp,fun e G=>by
       rw[List.mem_singleton]at G
       subst G
       exact TK u (by rw[Bool.and_eq_true];exact h5)⟩
      have ho:∃o,sq o (c.take 42)=true:=by
       rcases Bool.or_eq_true_iff.1 IR with h | h
       ·exact⟨_,h⟩
       ·exact⟨_,h⟩
      obtain⟨b,ho⟩:=ho
      obtain⟨M,ho⟩:=TJ (ρ:=ρ) ho
      have qs:c=c.take 42++[.sl m' 20 0 1 true]:=by rw[<-L4,List.take_append_drop]
      have n3:aA ρ c=X.af ρ (c.take 42)++[.sl m' 20 0 1 true]:=by
       have l2:2<=c.length:=by
        have:=congrArg List.length qs
        rw[X.f_]at M
        rw[List.length_append,M]at this
        omega
       rw[cP (FT l2)]
       conv=>lhs;rw[qs]
       rw[X.gq]
       rfl
      have KH:aA ρ (ir B jb o)=X.af ρ (ir B jb o):=cP (FT (by omega))
      have g1:ae (aO ρ h) m=some (X.af ρ (c.take 42)++[.sl m' 20 0 1 true]):=by rw[cG,H,Option.map_some,n3]
      have g2:ae (aO ρ h) m'=some (X.af ρ o):=by rw[cG,dA,Option.map_some,cP (FT (by omega))]
      have q:=TL hs b M ho ay g1 g2 (by
       show bo (X.af ρ (ir B jb o)++[]) _
       rw[List.append_nil]
       exact yJ u jb o) n
      show CY Tryz.prog n 16 [.ptr m 0] (aO ρ h) (.ro 20 [X.af ρ (ir B jb o)] false) [(m,some (aA ρ c)),(m',some (aA ρ (ir B jb o)))]
      rw[n3,KH]
      have e:[X.af ρ (ir B jb o)].flatten=X.af ρ (ir B jb o):=by simp
      rw[e]at q
      exact q
     ·cases hq
    ·cases hq
   ·cases hq
  ·cases hq
 ·cases hq
end Go.Proofs.YtpdfmnhgocpkcaaGreat
