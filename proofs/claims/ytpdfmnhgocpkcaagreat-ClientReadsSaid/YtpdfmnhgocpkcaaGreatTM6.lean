/- Parts of the proof, one behind the other. -/
import Derived.Test.YtpdfmnhgocpkcaaGreatTM5
import Derived.Test.YtpdfmnhgocpkcaaGreatTM4
import Derived.Test.YtpdfmnhgocpkcaaGreatTM3
namespace Go.Proofs.YtpdfmnhgocpkcaaGreat
open Go Go.Proofs.Aw Go.Proofs.Xw
set_option maxRecDepth 100000
def Cy (f:Nat) (vs:List AV) (r:AV):Prop:=aQ Tryz.prog f=true/\∀n h,CY Tryz.prog n f vs h r []
theorem qy:∀f∈[27,28,29,33,34,35,36,77,81,92,94,97,104,105,107,108,109,110,113,114,24,135],aQ Tryz.prog f=true:=by
 intro f hf
 simp only[List.mem_cons,List.not_mem_nil,or_false]at hf
 rcases hf with rfl | rfl | rfl | rfl | rfl | rfl | rfl | rfl | rfl | rfl | rfl | rfl | rfl | rfl | rfl | rfl | rfl | rfl | rfl | rfl | rfl | rfl<;>kernel_rfl
theorem UI {J:Rho} {a b:IE} (h:a.den J<b.den J):(BE.lt a b).den J=true:=decide_eq_true h
theorem nH {J:Rho} {a b:IE} (h:¬a.den J<b.den J):(BE.lt a b).den J=false:=decide_eq_false h
theorem ltN {J:Rho} {a b:IE} (h:(BE.not (.lt a b)).den J=true):¬a.den J<b.den J:=fun k=>by
 have:(!(decide (a.den J<b.den J)))=true:=h
 simp[k]at this
def cfM (n:Int) (j:Bool):List X:=[.agg ([xi 0,xn n]++vi 2 8++[xl j]++vi 11 2)]
theorem Vo (J:Rho):X.denL J [.agg (Pe 0)]=X.denL J (cfM (J.i 1) (J.b 10)):=rfl
def bdF:Facts:=[(.lt (.var 0) (.lit 1),true)]
def bdG:Facts:=[(.lt (.lit 1099511627776) (.var 0),true)]
def bdH:Facts:=[(.lt (.var 1) (.lit 1),true)]
def bdI:Facts:=[(.lt (.lit 4) (.var 1),true)]
def bl (b:Bool):X := .sc (.b (.lit b))
theorem rB (f:Nat) (Φ:Facts) (b:Bool) (h:tY (aU (cU []) f [.agg (Pe 0)] Φ) (.ret (bl b))=true) {J:Rho} (hk:Facts.ok J Φ):Cy f (X.denL J [.agg (Pe 0)]) (.sc (.bool b)):=by
 unfold tY at h
 split at h
 ·rename_i x y e1 e2
  cases e2
  have:=X.beq_eq _ _ h
  subst this
  exact dM (pJ J) (List.forall_mem_nil _) hk (by rw[e1];rfl)
 ·cases h
theorem bz4 (J:Rho):∃b:Bool,Cy 97 (X.denL J [.agg (Pe 0)]) (.sc (.bool b))/\Cy 105 (X.denL J [.agg (Pe 0)]) (.sc (.bool b))/\(b=true->1<=J.i 1/\J.i 1<=4/\∀k:Nat,(k:Int)<J.i 1->0<=J.i (2+2*k)/\J.i (2+2*k)<=3):=by
 have one:∀{c:BE},c.den J=true->Facts.ok J [(c,true)]:=fun h=>Facts.ok_cons h (Facts.ok_nil J)
 by_cases h0:J.i 0<1
 ·have hk:Facts.ok J bdF:=one (UI h0)
  exact⟨false,rB 97 bdF false (by kernel_rfl) hk,rB 105 bdF false (by kernel_rfl) hk,fun h=>by cases h⟩
 by_cases h1:1099511627776<J.i 0
 ·have hk:Facts.ok J bdG:=one (UI h1)
  exact⟨false,rB 97 bdG false (by kernel_rfl) hk,rB 105 bdG false (by kernel_rfl) hk,fun h=>by cases h⟩
 by_cases h2:J.i 1<1
 ·have hk:Facts.ok J bdH:=one (UI h2)
  exact⟨false,rB 97 bdH false (by kernel_rfl) hk,rB 105 bdH false (by kernel_rfl) hk,fun h=>by cases h⟩
 by_cases h3:4<J.i 1
 ·have hk:Facts.ok J bdI:=one (UI h3)
  exact⟨false,rB 97 bdI false (by kernel_rfl) hk,rB 105 bdI false (by kernel_rfl) hk,fun h=>by cases h⟩
 have hk:Facts.ok J G9:=Facts.ok_cons (nH h0) (Facts.ok_cons (nH h1) (Facts.ok_nil J))
 have go:∀(n:Nat) (j:Bool) (e e':BE),J.i 1=n->J.b 10=j->1<=n->n<=4->aU (cU []) 97 (DV n j) G9 = .ret (.sc (.b e))->aU (cU []) 105 (DV n j) G9 = .ret (.sc (.b e'))->e.den J=e'.den J->(e'.den J=true->∀c∈bdN n,c.den J=true) ->
   ∃b:Bool,Cy 97 (X.denL J [.agg (Pe 0)]) (.sc (.bool b))/\Cy 105 (X.denL J [.agg (Pe 0)]) (.sc (.bool b))/\(b=true->1<=J.i 1/\J.i 1<=4/\∀k:Nat,(k:Int)<J.i 1->0<=J.i (2+2*k)/\J.i (2+2*k)<=3):=fun n j e e' hn hj g1 g2 q1 q2 q3 q4=>by
  have a1:=dM (pJ J) (List.forall_mem_nil _) hk (show(aU (cU []) 97 (DV n j) G9).sel J=some _ by rw[q1];rfl)
  have a2:=dM (pJ J) (List.forall_mem_nil _) hk (show(aU (cU []) 105 (DV n j) G9).sel J=some _ by rw[q2];rfl)
  have ed:X.denL J [.agg (Pe 0)]=X.denL J (DV n j):=by rw[Vo,hn,hj];rfl
  refine⟨e'.den J,?_,?_,fun h=>⟨by omega,by omega,fun k hk => ?_⟩⟩
  ·rw[ed,<-q3];exact a1
  ·rw[ed];exact a2
  ·have h:=q4 h
   have hk:k∈List.range n:=List.mem_range.2 (by omega)
   have m1:=h _ (List.mem_flatMap.2 ⟨k,hk,List.mem_cons_self⟩)
   have m2:=h _ (List.mem_flatMap.2 ⟨k,hk,List.mem_cons_of_mem _ List.mem_cons_self⟩)
   have m1:¬J.i (2+2*k)<0:=ltN m1
   have m2:¬3<J.i (2+2*k):=ltN m2
   omega
 have hn:J.i 1=1\/J.i 1=2\/J.i 1=3\/J.i 1=4:=by omega
 cases hj:J.b 10<;>rcases hn with hn | hn | hn | hn
 ·exact go 1 false _ _ hn hj (by omega) (by omega) a08 aB1 (ce7 J) (cF4 J)
 ·exact go 2 false _ _ hn hj (by omega) (by omega) a06 aA9 (ce5 J) (cF2 J)
 ·exact go 3 false _ _ hn hj (by omega) (by omega) a04 aA7 (ce3 J) (cF0 J)
 ·exact go 4 false _ _ hn hj (by omega) (by omega) a02 aA5 (ce1 J) (cE8 J)
 ·exact go 1 true _ _ hn hj (by omega) (by omega) a07 aB0 (ce6 J) (cF3 J)
 ·exact go 2 true _ _ hn hj (by omega) (by omega) a05 aA8 (ce4 J) (cF1 J)
 ·exact go 3 true _ _ hn hj (by omega) (by omega) a03 aA6 (ce2 J) (cE9 J)
 ·exact go 4 true _ _ hn hj (by omega) (by omega) a01 aA4 (ce0 J) (cE7 J)
theorem Y0 (J:Rho):∃g,Ufs 1 ((Jq 0).den J) g:=by
 obtain⟨b,h1,h2,h3⟩:=bz4 J
 refine⟨fun _=>if b=true then 1 else 0,⟨fun f hf n h => ?_,fun j => ?_,fun hg => ?_⟩⟩
 ·have e:ufR 1 (fun _=>if b=true then 1 else 0) = .sc (.bool b):=by cases b<;>rfl
  rw[e]
  simp only[zW,List.mem_cons,List.not_mem_nil,or_false]at hf
  rcases hf with rfl | rfl
  ·exact h1.2 n h
  ·exact h2.2 n h
 ·simp only[MK];split<;>omega
 ·have hb:b=true:=by cases b<;>simp_all
  obtain⟨g1,g2,g3⟩:=h3 hb
  have q:∀k:Nat,k<4->vI ((Jq 0).den J) (2+2*k)=J.i (2+2*k):=fun k hk=>by
   rcases(show k=0\/k=1\/k=2\/k=3 by omega)with rfl | rfl | rfl | rfl<;>rfl
  refine⟨g1,g2,fun k hk => ?_⟩
  have hk:(k:Int)<J.i 1:=hk
  rw[q k (by omega)]
  exact g3 k hk
theorem JW (f:Nat) (hf:f∈zW 1):iF Tryz.prog (sRt f):=⟨qy f (by simp only[zW,List.mem_cons,List.not_mem_nil,or_false]at hf;rcases hf with rfl | rfl<;>decide),fun J n h _=>by
 obtain⟨g,hg⟩:=Y0 J
 exact(lQ hg).cy f hf n h⟩
end Go.Proofs.YtpdfmnhgocpkcaaGreat
namespace Go.Proofs.YtpdfmnhgocpkcaaGreat
open Go Go.Proofs.Aw Go.Proofs.Xw
set_option maxRecDepth 100000
structure EvI (cs:List AV) (es:List (List AV)) (J:Rho):Prop where
 ag:Agree 10 (uT cs es) J
 i0:0<=J.i 10
 i1:J.i 10<=es.length
structure EvS (es:List (List AV)):Prop where
 h0:es≠[]
 l:es.length<=1000000
 r:∀e∈es,EvR e
theorem EvI.rows {cs:List AV} {es:List (List AV)} (hs:EvS es) {J:Rho} (h:EvI cs es J):bD J 20 (.len 0) 0=es:=by
 rw[<-Rh (cs:=cs) hs.r]
 have hl:J.len 0=(uT cs es).len 0:=(h.ag.len 0 (by decide)).symm
 have hc:J.ct 0=(uT cs es).ct 0:=(h.ag.ct 0 (by decide)).symm
 unfold bD
 simp only[IE.den,hl,hc]
theorem EvI.len {cs:List AV} {es:List (List AV)} {J:Rho} (h:EvI cs es J):J.len 0=es.length:=(h.ag.len 0 (by decide)).symm
theorem Uu:∀(e:List AV),(∀(i:Nat) (v:AV),e[i]? = some v->nms (fun _=>false) v=true)->nmsL (fun _=>false) e=true
 | [],_=>rfl
 | v::e,h=>by simp only[nmsL,h 0 v rfl,Uu e fun i x hx=>h (i+1) x (by simpa using hx),Bool.and_self]
theorem EvR.nm {e:List AV} (h:EvR e):nmsL (fun _=>false) e=true:=Uu e fun i v hv=>by
 obtain⟨v',h1,h2,_⟩:=h.get (k:=i) (by
  have:=(List.getElem?_eq_some_iff.1 hv).1
  rw[h.l]at this;exact this)
 rw[hv]at h1;cases h1;exact h2
theorem EvS.nm {es:List (List AV)} (hs:EvS es):nmsE (fun _=>false) es=true:=by
 have:∀es:List (List AV),(∀e∈es,EvR e)->nmsE (fun _=>false) es=true:=fun es=>by
  induction es with
  | nil=>intro _;rfl
  | cons e es ih=>intro h;simp only[nmsE,(h e List.mem_cons_self).nm,ih fun x hx=>h x (List.mem_cons_of_mem _ hx),Bool.and_self]
 exact this es hs.r
theorem EvS.nmf {es:List (List AV)} (hs:EvS es):nmsL (fun _=>false) es.flatten=true:=jM hs.nm
theorem Rf {cs:List AV} {es:List (List AV)} (hs:EvS es) {J:Rho} (h:EvI cs es J):∀k∈evK,iG Tryz.prog J k:=List.forall_mem_cons.2 ⟨⟨by kernel_rfl,by
 have hr:=h.rows hs
 have hl:=h.len
 have e1:X.denL J [.slv (0,0) 20 (.lit 0) (.len 0) true]=[.sl (0,0) 20 0 es.length true]:=by
  show [AV.sl (0,0) 20 0 ((J.len 0:Int)).toNat true]=_
  rw[hl];rfl
 have e2:(X.slv (1,0) 20 (.lit 0) (.len 0) true).den J = .sl (1,0) 20 0 es.length true:=by
  show AV.sl (1,0) 20 0 ((J.len 0:Int)).toNat true=_
  rw[hl];rfl
 have e3:bZ J [((0,0),some [.tk 20 (.len 0) 0 []]),((1,0),some [.tk 20 (.len 0) 0 []])]=[((0,0),some es.flatten),((1,0),some es.flatten)]:=by
  show [((0,0),some (bD J 20 (.len 0) 0++[]).flatten),((1,0),some (bD J 20 (.len 0) 0++[]).flatten)]=_
  rw[hr,List.append_nil]
 have e4:aV J [((0,0),[.tk 20 (.len 0) 0 []])]=GL es:=by
  show [((0,0),(bD J 20 (.len 0) 0++[]).flatten)]=_
  rw[hr,List.append_nil];rfl
 show CY Tryz.prog 1 47 (X.denL J [.slv (0,0) 20 (.lit 0) (.len 0) true]) (aV J [((0,0),[.tk 20 (.len 0) 0 []])]) ((X.slv (1,0) 20 (.lit 0) (.len 0) true).den J) (bZ J [((0,0),some [.tk 20 (.len 0) 0 []]),((1,0),some [.tk 20 (.len 0) 0 []])])
 rw[e1,e2,e3,e4]
 have:=hs.l
 exact aK4 (fn:=Tryz.f47) (ty:=59) (e:=69) Tryz.func47 rfl rfl rfl (by kernel_rfl) (by kernel_rfl) hs.h0 (fun j r hj=>(hs.r r (List.mem_of_getElem? hj)).l) hs.nmf (by rw[show dA Tryz.prog 69=192 by kernel_rfl];omega) (by omega)⟩,List.forall_mem_nil _⟩
theorem bj2 {cs:List AV} {es:List (List AV)} (hs:EvS es) {J:Rho} (h:EvI cs es J) (hlt:J.i 10<es.length):∀p∈evS,aQ Tryz.prog p.1=true/\∀n h,CY Tryz.prog n p.1 (X.denL J p.2.1) h (p.2.2.den J) []:=by
 have h0:=h.i0
 have hj:(J.i 10).toNat<es.length:=by omega
 have hr:=hs.r _ (List.getElem_mem hj)
 have hc:J.ct 0=(uT cs es).ct 0:=(h.ag.ct 0 (by decide)).symm
 have cel:∀k v,es[(J.i 10).toNat][k]? = some v->(X.cel 0 k (.var 10)).den J=v:=fun k v hv=>by
  show(J.ct 0 k (J.i 10).toNat).1=v
  rw[hc]
  exact OY hs.r (List.getElem?_eq_getElem hj) hv
 refine List.forall_mem_cons.2 ⟨⟨by kernel_rfl,fun n hp => ?_⟩,List.forall_mem_cons.2 ⟨⟨by kernel_rfl,fun n hp => ?_⟩,List.forall_mem_nil _⟩⟩
 ·obtain⟨v,h1,ss,h2,h3,h4⟩:=hr.t 3 (.r 1 [.s]) rfl
  have e:=cel 3 v h1
  show CY Tryz.prog n 48 [(X.cel 0 3 (.var 10)).den J] hp ((X.cel 0 3 (.var 10)).den J) []
  rw[e,h2]
  exact b30 h4 h3 n hp
 ·obtain⟨v,h1,ss,h2,h3,h4⟩:=hr.t 10 (.r 22 DK) rfl
  have e:=cel 10 v h1
  show CY Tryz.prog n 49 [(X.cel 0 10 (.var 10)).den J] hp ((X.cel 0 10 (.var 10)).den J) []
  rw[e,h2]
  exact b29 h4 h3 n hp
theorem Rl {cs:List AV} {es:List (List AV)} (hs:EvS es) {J:Rho} (h:EvI cs es J):Facts.ok J evF:=by
 have q1:=h.len;have q2:=h.i0;have q3:=h.i1;have q4:=hs.l
 have q5:1<=es.length:=List.length_pos_iff.2 hs.h0
 exact Facts.ok_cons (nH (show ¬J.i 10<0 by omega)) (Facts.ok_cons (nH (show ¬(J.len 0:Int)<J.i 10 by omega)) (Facts.ok_cons (nH (show ¬(1000000:Int)<J.len 0 by omega)) (Facts.ok_cons (nH (show ¬(J.len 0:Int)<1 by omega)) (Facts.ok_nil J))))
theorem aJ1 {cs:List AV} {es:List (List AV)} (hs:EvS es):∃Jf,Agree 10 (uT cs es) Jf/\EvI cs es Jf/\LoopOk Tryz.prog Jf Tryz.f16.ntmps evD ak3:=by
 have ag0:Agree 10 (uT cs es) (evN0.ap (uT cs es)):=Bind.agree (by kernel_rfl) _
 refine iR (P:=Tryz.prog) (N:=Tryz.f16.ntmps) (body:=evD) (k0:=2) (n:=10) (S0:=evA0) (J:=uT cs es) bj6 (fun _=>evA) ak3 ⟨rfl,rfl,rfl⟩ (fun _ J'=>EvI cs es J') (EvI cs es) (fun J'=>es.length-(J'.i 10).toNat) (fun i J' hR => ?_)
  ⟨0,evN0.ap (uT cs es),ag0,⟨ag0,Int.le_refl _,show(0:Int)<=es.length by omega⟩,fun E _ hkn=>jq hkn bZ9 _⟩
 have q1:=hR.len;have q2:=hR.i0;have q3:=hR.i1;have q4:=hs.l
 by_cases hlt:J'.i 10<es.length
 ·right
  have hc:CfgOk Tryz.prog J' (Rn evS).c:=sJ (bj2 hs hR hlt) (fun _ _ _=>LpsOk.nil _ _ _ _) (Rf hs hR) (List.forall_mem_nil _) (List.forall_mem_nil _)
  have e1:ev1.den J'=J'.i 10+1:=(show ev1.den J'=IntKind.i64.wrap (J'.i 10+1)from rfl).trans (aP _ (by omega) (by omega))
  have hk:Facts.ok J' evG:=Facts.ok_cons (UI (show J'.i 10<(J'.len 0:Int)by omega)) (Facts.ok_cons (nH (by rw[e1];show ¬_<(0:Int);omega)) (Facts.ok_cons (nH (by rw[e1];show ¬(J'.len 0:Int)<_;omega)) (Rl hs hR)))
  have hg:=b03
  unfold b06 at hg
  split at hg
  ·rename_i s hrun
   have hst:=Zk (P:=Tryz.prog) (J:=J') (N:=Tryz.f16.ntmps) (body:=evD) (k0:=2) (S:=evA) (U:=evA) mixed dm (dP (c:=Rn evS) hc (List.forall_mem_nil _) 12) (LpsOk.nil _ _ _ _) U9 hk rfl (s:=s) (by
    show(ak1 evS evG).sel J'=_
    rw[hrun];rfl) hg
   have ag:Agree 10 J' (evB.ap J'):=Bind.agree (by kernel_rfl) _
   have e10:(evB.ap J').i 10=J'.i 10+1:=e1
   exact⟨0,_,hst,⟨hR.ag.trans ag,by omega,by omega⟩,by omega,ag⟩
  ·cases hg
 ·left
  refine⟨hR,?_⟩
  have hc:CfgOk Tryz.prog J' (Rn []).c:=sJ (List.forall_mem_nil _) (fun _ _ _=>LpsOk.nil _ _ _ _) (Rf hs hR) (List.forall_mem_nil _) (List.forall_mem_nil _)
  have hk:Facts.ok J' evE:=Facts.ok_cons (nH (show ¬J'.i 10<(J'.len 0:Int)by omega)) (Rl hs hR)
  rcases iL mixed dm (dP (c:=Rn []) hc (List.forall_mem_nil _) 12) (LpsOk.nil _ _ _ _) U9 hk bj5 with h | ⟨j,C,_,h1,_⟩
  ·exact h
  ·simp at h1
noncomputable def bj9 (g:Nat):List LoopX:=if Nat.beq g 16=true then [ak3]else []
noncomputable def evCg:Cfg2:=⟨RH [] bj9 evK [] [],[],[]⟩
def evY:X := .slv (1,0) 20 (.lit 0) (.len 0) true
def cD6:dR:=[((0,0),some evC),((0,1),some [.tk 20 (.len 0) 0 []]),((1,0),some [.tk 20 (.len 0) 0 []])]
def zO:dR->dR->Bool
 | [],[]=>true
 | (m,some x)::a,(m',some y)::b=>eG m m'&&(X.beqL x y&&zO a b)
 | _,_=>false
theorem OZ:∀{a b:dR},zO a b=true->a=b
 | [],[],_=>rfl
 | (m,some x)::a,(m',some y)::b,h=>by
  simp only[zO,Bool.and_eq_true]at h
  rw[bT h.1,X.beqL_eq _ _ h.2.1,OZ h.2.2]
 | [],_::_,h=>by simp[zO]at h
 | (_,some _)::_,[],h=>by simp[zO]at h
 | (_,none)::_,[],h=>by simp[zO]at h
 | (_,none)::_,_::_,h=>by simp[zO]at h
 | (_,some _)::_,(_,none)::_,h=>by simp[zO]at h
def bW9:T (X×dR)->Bool
 | .ret (r,d)=>X.beq r evY&&zO d cD6
 | _=>false
theorem bj3:bW9 (pK evCg 16 [.ptr (0,0) [] 0] bk0 evF)=true:=by kernel_rfl
theorem bj4 {J:Rho} (h:LoopOk Tryz.prog J Tryz.f16.ntmps evD ak3):∀g i,fO g su=some i->LpsOk Tryz.prog J i.ntmps (bj9 g) i.body:=fun g i hi=>by
 unfold bj9
 split
 ·rename_i hf
  have hf:=Nat.eq_of_beq_eq_true hf
  subst hf
  have hfo:zV Tryz.prog 16 i:=qA (16,i) (gK _ _ (fG hi))
  refine nV hfo Tryz.func16 ?_
  exact jP (c:=Tryz.f16.body.getD .skip) [0] (by kernel_rfl) (List.forall_mem_cons.2 ⟨iD (L:=ak3) (c:=evD) (by kernel_rfl) h,List.forall_mem_nil _⟩)
 ·exact LpsOk.nil _ _ _ _
theorem b04 {cs:List AV} (hc0:cs.length=42) (hc1:∀c∈cs,nms (fun _=>false) c=true/\c.one=true) {es:List (List AV)} (hs:EvS es):CY Tryz.prog 1 16 [.ptr (0,0) 0] [((0,0),cs++[.sl (0,1) 20 0 es.length true]),((0,1),es.flatten)] (.ro 20 es false) [((0,0),some (cs++[.sl (0,1) 20 0 es.length true])),((0,1),some es.flatten)]:=by
 obtain⟨Jf,hag,hI,hL⟩:=aJ1 (cs:=cs) hs
 have hc:CfgOk Tryz.prog Jf evCg.c:=sJ (List.forall_mem_nil _) (bj4 hL) (Rf hs hI) (List.forall_mem_nil _) (List.forall_mem_nil _)
 have hr:=bj3
 unfold bW9 at hr
 split at hr
 ·rename_i r d hrun
  simp only[Bool.and_eq_true]at hr
  have h1:=X.beq_eq _ _ hr.1
  have h2:=OZ hr.2
  subst h1 h2
  have g:=(sV (c:=evCg) hc (List.forall_mem_nil _) (Rl hs hI) (show(pK evCg 16 [.ptr (0,0) [] 0] bk0 evF).sel Jf=some _ by rw[hrun];rfl)).2
  have hrows:=hI.rows hs
  have hlen:=hI.len
  have ecs:X.denL Jf (Yb 42 5 (.lit 0))=cs:=by
   rw[Gn]
   apply List.ext_getElem?
   intro k
   by_cases hk:k<42
   ·rw[List.getElem?_map,List.getElem?_range hk,Option.map_some,<-hag.ct 5 (by decide),List.getElem?_eq_getElem (by omega)]
    have hm:=hc1 cs[k] (List.getElem_mem (by omega))
    show some ((if(5:Nat)=0 then JG (((es[0]?).bind (·[k]?)).getD (.sc (.bool false)))else JG ((cs[k]?).getD (.sc (.bool false)))).1)=_
    rw[if_neg (by decide),List.getElem?_eq_getElem (by omega),Option.getD_some,Dx hm.1 hm.2]
   ·rw[List.getElem?_eq_none (by rw[List.length_map,List.length_range];omega),List.getElem?_eq_none (by omega)]
  have eC:X.denL Jf evC=cs++[.sl (0,1) 20 0 es.length true]:=by
   unfold evC
   rw[X.denL_append,ecs]
   show cs++[AV.sl (0,1) 20 0 ((Jf.len 0:Int)).toNat true]=_
   rw[hlen];rfl
  have eO:aF Jf [.tk 20 (.len 0) 0 []]=es.flatten:=by
   show(bD Jf 20 (.len 0) 0++[]).flatten=_
   rw[hrows,List.append_nil]
  have eCo:aF Jf evC=cs++[.sl (0,1) 20 0 es.length true]:=by rw[bC (by kernel_rfl)];exact eC
  have eY:evY.den Jf = .sl (1,0) 20 0 es.length true:=by
   show AV.sl (1,0) 20 0 ((Jf.len 0:Int)).toNat true=_
   rw[hlen];rfl
  have g:CY Tryz.prog 1 16 [.ptr (0,0) 0] [((0,0),aF Jf evC),((0,1),aF Jf [.tk 20 (.len 0) 0 []])] (evY.den Jf) [((0,0),some (aF Jf evC)),((0,1),some (aF Jf [.tk 20 (.len 0) 0 []])),((1,0),some (aF Jf [.tk 20 (.len 0) 0 []]))]:=g
  rw[eCo,eO,eY]at g
  have hw:∀(j:Nat) (r:List AV),es[j]? = some r->r.length=20:=fun j r hj=>(hs.r r (List.mem_of_getElem? hj)).l
  have q:=bo6 (r' := .ro 20 es false) (fun m hm hne => ?_) ?_ g
  ·exact q
  ·simp only[List.map_cons,List.map_nil,List.mem_cons,List.not_mem_nil,or_false]at hm
   rcases hm with rfl | rfl | rfl
   ·simp[hap,dF]
   ·simp[hap,dF]
   ·exact absurd rfl hne
  ·refine .inl (.inl (.inr ⟨(1,0),20,0,es.length,true,es,rfl,by decide,?_,hs.nm,rfl⟩))
   have e:hap (([((0,0),some (cs++[AV.sl (0,1) 20 0 es.length true])),((0,1),some es.flatten),((1,0),some es.flatten)]:Dl).filter fun q=>q.1.1==1) []=[((1,0),es.flatten)]:=rfl
   rw[e]
   simp only[fA,hget,if_true,Option.bind_some]
   rw[if_pos ⟨trivial,by rw[flat_length _ hw];omega⟩,List.drop_zero,uY _ _ hw (Nat.le_refl _),List.take_of_length_le (Nat.le_refl _)]
 ·cases hr
end Go.Proofs.YtpdfmnhgocpkcaaGreat
namespace Go.Proofs.Xw
open Go Go.Proofs.Aw
theorem b60 {P:Program} {n:Nat} {f:FuncId} {args:List AV} {h h':Hp} {r:AV} {d:Dl} (hs:∀m,(hget h m).isSome=(hget h' m).isSome) (hle:∀m cs cs',hget h m=some cs->hget h' m=some cs'->LeC cs' cs) (hcov:∀m,(hget h m).isSome=true->m∈d.map (·.1)) (hc:CY P n f args h' r d):CY P n f args h r d:=by
 intro C vs hh hL hn
 have hh':HeapOk C h':=by
  refine⟨fun m=>by rw[hh.live,hs],fun m cs' hg => ?_,hh.inj,hh.mt,hh.kn⟩
  obtain⟨cs,hcs⟩:∃cs,hget h m=some cs:=Option.isSome_iff_exists.1 (by rw[hs,hg];rfl)
  obtain⟨arr,ty,ha,ho⟩:=hh.obj m cs hcs
  refine⟨arr,ty,ha,fun j c hj => ?_⟩
  obtain⟨y,hy,hl⟩:=(hle m cs cs' hcs hg).2 j c hj
  obtain⟨u,hu,hcu⟩:=ho j y hy
  exact⟨u,hu,hl C u hcu⟩
 refine(hc C vs hh' hL hn).mono ?_
 rintro e w' ⟨u,C',he,hw,hp⟩
 have eg:∀m,hget (hap d h) m=hget (hap d h') m:=fun m=>by
  rcases jI m d h with⟨_,h1⟩ | ⟨h1,h2⟩
  ·exact h1 h'
  ·rw[h2,aO d h' m h1]
   cases hg:hget h m with
   | some cs=>exact absurd (hcov m (by rw[hg];rfl)) h1
   | none =>
    have:=hs m
    rw[hg]at this
    cases hg':hget h' m with
    | none=>rfl
    | some _=>rw[hg']at this;cases this
 exact⟨u,C',he,hw,hp.le,hp.kn,⟨fun m=>by rw[eg];exact hp.heap.live m,fun m cs hg=>by rw[eg]at hg;exact hp.heap.obj m cs hg,hp.heap.inj,hp.heap.mt,hp.heap.kn⟩,hp.val,hp.same,hp.mt,hp.os,hp.tape,hp.output,hp.orig,hp.names⟩
theorem OA {l:List X} (h:2<=l.length):aZ l=false:=by
 unfold aZ
 split
 ·simp at h
 ·simp at h
 ·rfl
theorem LeC.flat:∀{a b:List (List AV)},a.length=b.length->(∀(j:Nat) (x y:List AV),a[j]? = some x->b[j]? = some y->LeC x y)->LeC a.flatten b.flatten
 | [],[],_,_=>LeC.refl _
 | [],_::_,h,_=>by cases h
 | _::_,[],h,_=>by cases h
 | x::a,y::b,h,k=>by
  simp only[List.flatten_cons]
  exact LeC.app (k 0 x y rfl rfl) (LeC.flat (by simpa using h) fun j x y hx hy=>k (j+1) x y (by simpa using hx) (by simpa using hy))
end Go.Proofs.Xw
namespace Go.Proofs.YtpdfmnhgocpkcaaGreat
open Go Go.Proofs.Aw Go.Proofs.Xw
set_option maxRecDepth 100000
def YA (es:List (List X)):IE:=fC (.len 460) (.lit es.length)
def Va (Φ:Facts) (es:List (List X)):List (List X):=es.map (Xh Φ nzE)
def b08 (Φ:Facts) (cs:List X) (es:List (List X)):GK:=⟨16,[.ptr (0,0) [] 0],[((0,0),cs++[.slv (0,1) 20 (.lit 0) (YA es) true]),((0,1),[.tk 20 (.len 460) 460 es])],.tq 20 (.len 460) 460 (Va Φ es) false,
 [((0,0),some (cs++[.slv (0,1) 20 (.lit 0) (YA es) true])),((0,1),some [.tk 20 (.len 460) 460 (Va Φ es)])]⟩
def Vd (Φ:Facts) (cs:List X) (es:List (List X)):Bool:=Nat.beq cs.length 42&&(cs.all (fun x=>x.nn&&x.one)&&(Nat.blt 0 es.length&&(Nat.ble es.length 1000&&(sees Φ (.lt (.lit 1000) (.len 460),false)&&(Va Φ es).all fun e=>Nat.beq e.length 20&&tyR Φ ktE e))))
theorem aJ2 (Φ:Facts) (es:List (List X)):(Va Φ es).length=es.length:=by simp[Va]
theorem bj7 {J:Rho} {Φ:Facts} (hk:Facts.ok J Φ) (hT:BD 460 ktE J) {es:List (List X)} (h:((Va Φ es).all fun e=>Nat.beq e.length 20&&tyR Φ ktE e)=true):∀e∈bD J 20 (.len 460) 460++X.denE J (Va Φ es),EvR e:=by
 intro e he
 rcases List.mem_append.1 he with he | he
 ·unfold bD at he
  obtain⟨j,hj,rfl⟩:=List.mem_map.1 he
  have hj:j<J.len 460:=by
   have:=List.mem_range.1 hj
   have e:((IE.len 460).den J).toNat=J.len 460:=Int.toNat_natCast _
   omega
  refine⟨by simp,fun k t hkt => ?_⟩
  have hk20:k<20:=by
   have:=(List.getElem?_eq_some_iff.1 hkt).1
   rw[ag6]at this;exact this
  refine⟨_,?_,hT j k t hj hkt⟩
  rw[List.getElem?_map,List.getElem?_range hk20];rfl
 ·rw[X.denE_eq]at he
  obtain⟨r,hr,rfl⟩:=List.mem_map.1 he
  have hq:=List.all_eq_true.1 h r hr
  rw[Bool.and_eq_true]at hq
  refine⟨by rw[X.denL_len];exact Nat.eq_of_beq_eq_true hq.1,fun k t hkt => ?_⟩
  obtain⟨x,hx,ht⟩:=JE hq.2 hkt
  exact⟨x.den J,by rw[X.denL_get,hx];rfl,Y1 hk ht⟩
theorem aJ3 {J:Rho} {Φ:Facts} (hk:Facts.ok J Φ) (hT:BD 460 ktE J) {cs:List X} {es:List (List X)} (h:Vd Φ cs es=true):iG Tryz.prog J (b08 Φ cs es):=by
 simp only[Vd,Bool.and_eq_true]at h
 obtain⟨h1,h2,h3,h4,h5,h6⟩:=h
 have h1:=Nat.eq_of_beq_eq_true h1
 have h3:0<es.length:=by simpa [Nat.blt_eq]using h3
 have h4:=Nat.le_of_ble_eq_true h4
 have h5:¬(1000:Int)<(J.len 460:Int):=of_decide_eq_false (rF hk h5)
 let R:List (List AV):=bD J 20 (.len 460) 460++X.denE J (Va Φ es)
 have hT0:(bD J 20 (.len 460) 460).length=J.len 460:=by rw[kP];exact Int.toNat_natCast _
 have hE:(X.denE J (Va Φ es)).length=es.length:=by rw[X.denE_eq,List.length_map,aJ2]
 have hR:R.length=J.len 460+es.length:=by show(bD J 20 (.len 460) 460++X.denE J (Va Φ es)).length=_;rw[List.length_append,hT0,hE]
 have hs:EvS R:=⟨fun e=>by rw[e]at hR;simp at hR;omega,by omega,bj7 hk hT h6⟩
 have hcs:(X.denL J cs).length=42:=by rw[X.denL_len];exact h1
 have hc1:∀c∈X.denL J cs,nms (fun _=>false) c=true/\c.one=true:=fun c hc=>by
  rw[X.denL_eq]at hc
  obtain⟨x,hx,rfl⟩:=List.mem_map.1 hc
  have:=List.all_eq_true.1 h2 x hx
  rw[Bool.and_eq_true]at this
  exact⟨X.nn_den J x this.1,X.one_den J x this.2⟩
 have hn:((YA es).den J).toNat=R.length:=by
  unfold YA
  rw[bK,hR]
  show(((J.len 460:Int)+(es.length:Int))).toNat=_
  omega
 refine⟨by kernel_rfl,?_⟩
 have q:=b04 hcs hc1 hs
 have eS:(X.slv (0,1) 20 (.lit 0) (YA es) true).den J = .sl (0,1) 20 0 R.length true:=by
  show AV.sl (0,1) 20 0 ((YA es).den J).toNat true=_
  rw[hn]
 have eC:aF J (cs++[.slv (0,1) 20 (.lit 0) (YA es) true])=X.denL J cs++[.sl (0,1) 20 0 R.length true]:=by
  rw[bC (OA (by rw[List.length_append,h1];show 2<=42+1;decide)),X.denL_append]
  show X.denL J cs++[(X.slv (0,1) 20 (.lit 0) (YA es) true).den J]=_
  rw[eS]
 refine b60 (h':=[((0,0),X.denL J cs++[.sl (0,1) 20 0 R.length true]),((0,1),R.flatten)]) (fun m => ?_) (fun m a b ha hb => ?_) (fun m hm => ?_) ?_
 ·show(hget [((0,0),aF J (cs++[.slv (0,1) 20 (.lit 0) (YA es) true])),((0,1),aF J [.tk 20 (.len 460) 460 es])] m).isSome=_
  simp only[hget]
  split
  ·rfl
  ·split<;>rfl
 ·have ha:hget [((0,0),aF J (cs++[.slv (0,1) 20 (.lit 0) (YA es) true])),((0,1),aF J [.tk 20 (.len 460) 460 es])] m=some a:=ha
  rw[eC]at ha
  simp only[hget]at ha hb
  split at ha
  ·rename_i e
   rw[if_pos e]at hb
   cases ha;cases hb
   exact LeC.refl _
  ·rename_i e
   rw[if_neg e]at hb
   split at ha
   ·rename_i e2
    rw[if_pos e2]at hb
    cases ha;cases hb
    show LeC R.flatten (bD J 20 (.len 460) 460++X.denE J es).flatten
    show LeC (bD J 20 (.len 460) 460++X.denE J (Va Φ es)).flatten _
    rw[List.flatten_append,List.flatten_append]
    refine LeC.app (LeC.refl _) (LeC.flat (by rw[hE,X.denE_eq,List.length_map]) fun j x y hx hy => ?_)
    rw[X.denE_get]at hx hy
    unfold Va at hx
    rw[List.getElem?_map]at hx
    obtain⟨r,hr,rfl⟩:=Option.map_eq_some_iff.1 hy
    rw[hr]at hx
    cases hx
    exact DF hk nzE r
   ·cases ha
 ·have hm:(hget [((0,0),aF J (cs++[.slv (0,1) 20 (.lit 0) (YA es) true])),((0,1),aF J [.tk 20 (.len 460) 460 es])] m).isSome=true:=hm
  simp only[hget]at hm
  show m∈[((0,0):Nm),(0,1)]
  split at hm
  ·rename_i e;rw[<-e];simp
  ·split at hm
   ·rename_i e;rw[<-e];simp
   ·cases hm
 ·show CY Tryz.prog 1 16 [.ptr (0,0) 0] _ ((X.tq 20 (.len 460) 460 (Va Φ es) false).den J) [((0,0),some (aF J (cs++[.slv (0,1) 20 (.lit 0) (YA es) true]))),((0,1),some (aF J [.tk 20 (.len 460) 460 (Va Φ es)]))]
  rw[eC]
  exact q
end Go.Proofs.YtpdfmnhgocpkcaaGreat
namespace Go.Proofs.YtpdfmnhgocpkcaaGreat
open Go Go.Proofs.Aw Go.Proofs.Xw
set_option maxRecDepth 100000
def bk3 (args:List X) (h:bg):Option (List X×List (List X)):=match args with
 | [.ptr m _ _]=>match aT h m with
  | some c=>match c.drop 42 with
   | [.slv m' _ _ _ _]=>match aT h m' with
    | some [.tk _ _ t es]=>if Nat.beq t 460=true then some (c.take 42,es)else none
    | _=>none
   | _=>none
  | none=>none
 | _=>none
def Rq (call:bI):bI:=fun n f args h Φ=>if Nat.beq f 16=true then(match bk3 args h with
  | some (cs,es)=>if Vd Φ cs es=true then(match EY n f args h [b08 Φ cs es]with
   | some p => .ret p
   | none => .fail ["ev16"]) else .fail ["Vd"]
  | none=>call n f args h Φ)else call n f args h Φ
theorem XY {J:Rho} (hT:BD 460 ktE J) {call:bI} (hc:dJ Tryz.prog J call):dJ Tryz.prog J (Rq call):=fun n f args h Φ r d hk hq=>by
 unfold Rq at hq
 split at hq
 ·split at hq
  ·split at hq
   ·rename_i hch
    split at hq
    ·rename_i hl
     cases hq
     exact uK (List.forall_mem_cons.2 ⟨aJ3 hk hT hch,List.forall_mem_nil _⟩) hl
    ·cases hq
   ·cases hq
  ·exact hc n f args h Φ r d hk hq
 ·exact hc n f args h Φ r d hk hq
def Yg (c : Cfg2) (f : Nat) (args : List X) (Φ : Facts) : T X := if X.nnL args = true then (BQ c.c (Rq (iK c 12)) f args Φ).map (·.1) else .fail ["args"]
theorem aL2 {J:Rho} {c:Cfg2} (hc:CfgOk Tryz.prog J c.c) (hs:∀s∈c.sm,iF Tryz.prog s) (hT:BD 460 ktE J) {f:Nat} {args:List X} {Φ:Facts} {r:X} (hk:Facts.ok J Φ) (h:(Yg c f args Φ).sel J=some r):aQ Tryz.prog f=true/\∀n h,CY Tryz.prog n f (X.denL J args) h (r.den J) []:=by
 unfold Yg at h
 split at h
 ·rename_i ha
  obtain⟨p,h1,rfl⟩:=T.sel_map _ h
  obtain⟨r,d⟩:=p
  have hcall:=XY hT (dP hc hs 12)
  have hd:d=[]:=by
   unfold BQ at h1
   split at h1
   ·obtain⟨_,z,_,_,h4⟩:=T.sel_bind _ hk h1
    split at h4
    ·cases h4;rfl
    ·cases h4
   ·cases h1
  subst hd
  exact⟨(uA (n:=0) (h:=[]) hc hcall ha hk h1).1,fun n hp=>(uA hc hcall ha hk h1).2⟩
 ·cases h
def allT:Facts->T X->Bool
 | Φ,.ret (.sc (.b e))=>sees Φ (e,true)
 | _,_=>false
end Go.Proofs.YtpdfmnhgocpkcaaGreat
namespace Go.Proofs.YtpdfmnhgocpkcaaGreat
open Go Go.Proofs.Aw Go.Proofs.Xw
set_option maxRecDepth 100000
def alZ:AL:=CG 5 10 (.b (.var 0) (.i (.var 15) (.i (.var 16) .nil)))
def alW:AL:=CG 17 6 (.s (.var 1) (.s (.var 2) (.b (.var 1) (CG 23 11 .nil))))
def gZ (k:Nat):IE := .var (5+k)
def rgZ:IE := .uf 0 0 (.s (.var 0) (.i (.var 1) .nil))
def aQ7 (n:Nat):IE :=
 let h:AL := .i (.var 401) (.i (.var 4) .nil)
 let p:Nat->AL:=fun k => .i (.var 401) (.i rgZ (.i (gZ (2+2*k)) .nil))
 .uf 8 0 (.i (.uf 5 0 h) (.i (.uf 5 1 h) ((List.range n).foldr (fun k r => .i (.uf 4 0 (p k)) (.i (.uf 4 1 (p k)) r)) .nil)))
def bX1 (n:Nat):BE×Facts:=(.lit true,[(Fz (aQ7 n) (n-1:Int),false)])
def Vt:List X:=[.agg ly,xi 4,scX,xs 0,.agg (cfZ 5 0),enY 17 1 1,xb 2]
def ksT (b:Bool):List (Nat×List X×X):=[(10,[],xl true),(11,[scX],xl b)]
noncomputable def lpT (i:Nat):Nat->List LoopX:=fun f=>if Nat.beq f 5=true then [lZ i]else []
noncomputable def cfT (b:Bool) (lp:Nat->List LoopX):Cfg2:=⟨RH (ksT b) lp [] cls [41],JM,49::hfC⟩
noncomputable def vM (i:Nat) (Φ:Facts):Bool:=allT Φ (Yg (cfT false (lpT i)) 5 Vt Φ)
def a18 (i:Nat):Facts:=match csL[i]? with
 | some C=>C.Ψ
 | none=>[]
def wY (i:Nat):Facts:=(if Nat.beq i 0=true then []else [(.lt (.lit 300) (.len 460),false)])++(laF++a18 i)
def kOk:Facts:=[(iH (.slen (.var 0)) 1,false),(Fz (.slen (.var 0)) 16,false),(.lt (.var 402) (.lit 1099511627776),true)]
def rzF (i:Nat):Facts:=(.eq (.uf 1 0 alZ) (.lit 1),true)::((hyC alZ gZ).2++(kOk++wY i))
def nfZ:Nat->Facts
 | 1=>[(iH (gZ 1) 2,true)]
 | 2=>[(iH (gZ 1) 2,false),(iH (gZ 1) 3,true)]
 | 3=>[(iH (gZ 1) 2,false),(iH (gZ 1) 3,false),(iH (gZ 1) 4,true)]
 | _=>[(iH (gZ 1) 2,false),(iH (gZ 1) 3,false),(iH (gZ 1) 4,false)]
def Yx (i n:Nat):Facts:=nfZ n++((hyN alZ gZ n).2++((bX1 n).2++rzF i))
def pM:DT := .br (.var 2) (.br (.eq (.uf 2 0 alW) (.lit 1)) .leaf .leaf) .leaf
def bD2:Facts:=[(Fz (.slen (.var 0)) 100,false),(.lt (.lit 100) (.op .add .i64 (.slen (.var 1)) (.slen (.var 2))),false),(iH (.var 0) 1,false),(Fz (.var 0) 3,false),(iH (.var 1) 1,false),(Fz (.var 1) 3,false),(iH (.var 2) 1,false),(Fz (.var 2) 4,false),(iH (.var 3) 1,false),(Fz (.var 3) 4,false),(iH (.var 4) 0,false),(.lt (.var 4) (.var 3),true)]
noncomputable def aB6 (b:Bool) (Φ:Facts):Bool:=allT Φ (Yg (cfT b (fun _=>[])) 5 Vt Φ)
noncomputable def Uh:Facts->Facts->Bool
 | [],_=>true
 | (c,v)::r,Φ=>aB6 false ((c,!v)::Φ)&&Uh r ((c,v)::Φ)
end Go.Proofs.YtpdfmnhgocpkcaaGreat
