/- Parts of the proof, one behind the other. -/
import Derived.Test.YtpdfmnhgocpkcaaGreatTM15
namespace Go.Proofs.YtpdfmnhgocpkcaaGreat
open Go Go.Proofs.Aw Go.Proofs.Xw
set_option maxRecDepth 100000
theorem Zc {a:Int} (h:0<=a):a.tdiv 60=a / 60:=Int.tdiv_eq_ediv_of_nonneg h
theorem ad4 {J:Rho} (hs:∀k,(J.cs 2 k (J.i 700).toNat).size<=140737488355327) (h0:0<=J.i 702) (h1:J.i 702<=250):J.i 702<=mu0.den J/\mu0.den J<=20000000000000:=by
 have s3:=hs 3;have s4:=hs 53;have s5:=hs 54;have s6:=hs 38;have s7:=hs 39
 have e:mu0.den J=IntKind.i64.wrap (J.i 702+IntKind.i64.wrap ((IntKind.i64.wrap (IntKind.i64.wrap (IntKind.i64.wrap (IntKind.i64.wrap (((J.cs 2 3 (J.i 700).toNat).size:Int)+((J.cs 2 53 (J.i 700).toNat).size:Int))+((J.cs 2 54 (J.i 700).toNat).size:Int))+((J.cs 2 38 (J.i 700).toNat).size:Int))+((J.cs 2 39 (J.i 700).toNat).size:Int))).tdiv 60)):=rfl
 rw[e]
 generalize (J.cs 2 3 (J.i 700).toNat).size=a at *
 generalize (J.cs 2 53 (J.i 700).toNat).size=b at *
 generalize (J.cs 2 54 (J.i 700).toNat).size=c at *
 generalize (J.cs 2 38 (J.i 700).toNat).size=d at *
 generalize (J.cs 2 39 (J.i 700).toNat).size=f at *
 rw[aP ((a:Int)+b) (by omega) (by omega),aP ((a:Int)+b+c) (by omega) (by omega),aP ((a:Int)+b+c+d) (by omega) (by omega),aP ((a:Int)+b+c+d+f) (by omega) (by omega),Zc (by omega)]
 rw[aP (((a:Int)+b+c+d+f) / 60) (by omega) (by omega),aP _ (by omega) (by omega)]
 omega
theorem bc9 {J:Rho} (hs:∀j,(J.cs 194 0 j).size<=140737488355327) (h0:0<=J.i 703) (h1:J.i 703<=250):J.i 703+1<=miP.den J/\miP.den J<=20000000000000:=by
 have s3:=hs (J.i 704+J.ci 2 2 (J.i 700).toNat).toNat
 have e:miP.den J=IntKind.i64.wrap (J.i 703+IntKind.i64.wrap (1+IntKind.i64.wrap (((J.cs 194 0 (J.i 704+J.ci 2 2 (J.i 700).toNat).toNat).size:Int).tdiv 60))):=rfl
 rw[e]
 generalize (J.cs 194 0 (J.i 704+J.ci 2 2 (J.i 700).toNat).toNat).size=a at *
 rw[Zc (by omega),aP ((a:Int) / 60) (by omega) (by omega),aP (1+(a:Int) / 60) (by omega) (by omega),aP _ (by omega) (by omega)]
 omega
theorem Str.agree {J J':Rho} {n:Nat} (ag:Agree n J J') (hn:195<=n) (h:Str J):Str J' :=
 ⟨by rw[<-ag.len 2 (by omega)];exact h.l,fun j=>by rw[<-ag.ci 2 (by omega)];exact h.k j,fun k j=>by rw[<-ag.cs 2 (by omega)];exact h.s k j,fun j=>by rw[<-ag.cs 194 (by omega)];exact h.n j⟩
def Ux (J:Rho):Int:=J.ci 2 1002 (J.i 700).toNat
structure MiI (J0 J:Rho):Prop where
 ag:Agree 703 J0 J
 k0:0<=J.i 704
 k1:J.i 704<=Ux J0
 n0:J0.i 702+J.i 704<=J.i 703
 n1:J.i 703<=100000000000000
theorem UC {J0 J:Rho} (h:Agree 703 J0 J):muK.den J=Ux J0:=by
 show J.ci 2 1002 (J.i 700).toNat=_
 rw[<-h.ci 2 (by decide),<-h.i 700 (by decide)];rfl
theorem bd0 {J0 J:Rho} (hS:Str J0) (h0:0<=J0.i 702) (h:MiI J0 J):Facts.ok J miF:=by
 have q1:=h.k0;have q2:=h.k1;have q3:=h.n0;have q4:=h.n1
 obtain⟨q5,q6⟩:=hS.k (J0.i 700).toNat
 have e:=UC h.ag
 have q5:0<=Ux J0:=q5
 have q6:Ux J0<=140737488355327:=q6
 exact Facts.ok_cons (nH (show ¬J.i 704<0 by omega)) (Facts.ok_cons (nH (by rw[e];show ¬Ux J0<J.i 704;omega)) (Facts.ok_cons (nH (by rw[e];show ¬(140737488355327:Int)<Ux J0;omega)) (Facts.ok_cons (nH (by rw[e];show ¬Ux J0<0;omega)) (Facts.ok_cons (nH (show ¬J.i 703<0 by omega)) (Facts.ok_cons (nH (show ¬(100000000000000:Int)<J.i 703 by omega)) (Facts.ok_nil J))))))
theorem Un {P:Program} {J:Rho} {N:Nat} {body:Code} {ti:Nat->Option Go.Proofs.Xw.TI} {call:bI} {ms:List Nat} {lps:List LoopX} {fuel n:Nat} {S U:XS} {Φ:Facts} {ks:List Nat} {β:Bind} (hm:P.follows .mixedOrders=true) (hti:TIs.ok P ti) (hcall:dJ P J call) (hlps:LpsOk P J N lps body) (hfit:fD N body=true) (hk:Facts.ok J Φ)
  (h:aC8 n β U ((dG ti call ms 0 lps fuel body Φ S).map (yC ks))=true):StepF P N body 0 S U J (β.apT [] J):=by
 generalize hr:(dG ti call ms 0 lps fuel body Φ S).map (yC ks)=t at h
 unfold aC8 at h
 split at h
 ·rename_i s
  exact Zl hm hti hcall hlps hfit hk rfl (s:=s) (by rw[hr];rfl) h
 ·cases h
theorem aF7 {J0:Rho} (hS:Str J0) (h0:0<=J0.i 702) (h2:J0.i 702<=250):∃Jf,Agree 703 J0 Jf/\(MiI J0 Jf/\(250<Jf.i 703\/Ux J0<=Jf.i 704))/\LoopOk Tryz.prog Jf Tryz.f11.ntmps miD miL:=by
 have ag0:Agree 703 J0 (miN0.apT [] J0):=Bind.agreeT (by kernel_rfl) (by kernel_rfl) _
 have hcall:∀J',dJ Tryz.prog J' (iK muCf 12):=fun J'=>dP (c:=muCf) (lG (List.forall_mem_nil _)) (List.forall_mem_nil _) 12
 obtain⟨q5,q6⟩:=hS.k (J0.i 700).toNat
 have q5:0<=Ux J0:=q5
 have q6:Ux J0<=140737488355327:=q6
 refine iR (P:=Tryz.prog) (N:=Tryz.f11.ntmps) (body:=miD) (k0:=0) (n:=703) (S0:=miS0) (J:=J0) bc8 (fun _=>miS) miL ⟨rfl,rfl,rfl⟩ (fun _ J'=>MiI J0 J') (fun J'=>MiI J0 J'/\(250<J'.i 703\/Ux J0<=J'.i 704)) (fun J'=>(Ux J0-J'.i 704).toNat) (fun i J' hR => ?_)
  ⟨0,miN0.apT [] J0,ag0,⟨ag0,Int.le_refl _,q5,?_,?_⟩,fun E _ hkn=>uC hkn bU2 _⟩
 ·have q1:=hR.k0;have q2:=hR.k1;have q3:=hR.n0;have q4:=hR.n1
  have hF:=bd0 hS h0 hR
  have e:=UC hR.ag
  by_cases hn:250<J'.i 703
  ·left
   refine⟨⟨hR,.inl hn⟩,?_⟩
   rcases iL mixed dm (hcall J') (LpsOk.nil _ _ _ _) KF (Facts.ok_cons (UI (a := .lit 250) (b := .var 703) hn) hF) bU5 with h | ⟨j,C,_,h1,_⟩
   ·exact h
   ·simp at h1
  ·by_cases hk:J'.i 704<Ux J0
   ·right
    have hs:=hS.agree hR.ag (by decide)
    obtain⟨b1,b2⟩:=bc9 hs.n (by omega) (by omega)
    have hst:=Un (β:=miB) (n:=703) (U:=miS) mixed dm (hcall J') (LpsOk.nil _ _ _ _) KF (Facts.ok_cons (nH (a := .lit 250) (b := .var 703) hn) (Facts.ok_cons (UI (by rw[e];exact hk)) hF)) bU3
    have ag:Agree 703 J' (miB.apT [] J'):=Bind.agreeT (by kernel_rfl) (by kernel_rfl) _
    have e3:(miB.apT [] J').i 703=miP.den J':=rfl
    have e4:(miB.apT [] J').i 704=J'.i 704+1:=(show(miB.apT [] J').i 704=IntKind.i64.wrap (J'.i 704+1)from rfl).trans (aP _ (by omega) (by omega))
    exact⟨0,_,hst,⟨hR.ag.trans ag,by omega,by omega,by omega,by omega⟩,by omega,ag⟩
   ·left
    refine⟨⟨hR,.inr (by omega)⟩,?_⟩
    rcases iL mixed dm (hcall J') (LpsOk.nil _ _ _ _) KF (Facts.ok_cons (nH (a := .lit 250) (b := .var 703) hn) (Facts.ok_cons (nH (by rw[e];exact hk)) hF)) bU4 with h | ⟨j,C,_,h1,_⟩
    ·exact h
    ·simp at h1
 ·have:=(ad4 (J:=J0) (fun k=>hS.s k _) h0 h2).1
  show J0.i 702+0<=mu0.den J0
  omega
 ·have:=(ad4 (J:=J0) (fun k=>hS.s k _) h0 h2).2
  show mu0.den J0<=_
  omega
structure MuI (J0 J:Rho):Prop where
 ag:Agree 700 J0 J
 i0:0<=J.i 700
 i1:J.i 700<=J0.len 2
 n0:(J0.len 2:Int)<=J.i 702
 n1:J.i 702<=200000000000000
 kk:J.i 702<=250->∀j:Nat,(j:Int)<J.i 700->J0.ci 2 1002 j<=250
theorem QH {J0 J:Rho} (hS:Str J0) (h:MuI J0 J):Facts.ok J muF:=by
 have q1:=h.i0;have q2:=h.i1;have q3:=h.n0;have q4:=h.n1
 have hs:=hS.agree h.ag (by decide)
 have q5:=hs.l
 have l2:J.len 2=J0.len 2:=(h.ag.len 2 (by decide)).symm
 obtain⟨q6,q7⟩:=hs.k (J.i 700).toNat
 have q6:0<=muK.den J:=q6
 have q7:muK.den J<=140737488355327:=q7
 have fs:∀k,¬(IE.lit 140737488355327).den J<(muL k).den J:=fun k=>by
  have:=hs.s k (J.i 700).toNat
  show ¬(140737488355327:Int)<((J.cs 2 k (J.i 700).toNat).size:Int)
  omega
 exact Facts.ok_cons (nH (show ¬J.i 700<0 by omega)) (Facts.ok_cons (nH (show ¬(J.len 2:Int)<J.i 700 by omega)) (Facts.ok_cons (nH (show ¬(140737488355327:Int)<J.len 2 by omega)) (Facts.ok_cons (nH (show ¬J.i 702<0 by omega)) (Facts.ok_cons (nH (show ¬(200000000000000:Int)<J.i 702 by omega)) (Facts.ok_cons (nH (show ¬muK.den J<0 by omega)) (Facts.ok_cons (nH (show ¬(140737488355327:Int)<muK.den J by omega))
  (Facts.ok_cons (nH (fs 3)) (Facts.ok_cons (nH (fs 38)) (Facts.ok_cons (nH (fs 39)) (Facts.ok_cons (nH (fs 53)) (Facts.ok_cons (nH (fs 54)) (Facts.ok_nil J))))))))))))
theorem aE9 {J0:Rho} (hS:Str J0):∃Jf,Agree 700 J0 Jf/\(MuI J0 Jf/\(250<Jf.i 702\/(J0.len 2:Int)<=Jf.i 700))/\LoopOk Tryz.prog Jf Tryz.f11.ntmps muD ad3:=by
 have ag0:Agree 700 J0 (muN0.apT [] J0):=Bind.agreeT (by kernel_rfl) (by kernel_rfl) _
 have hcall:∀J',dJ Tryz.prog J' (iK muCf 12):=fun J'=>dP (c:=muCf) (lG (List.forall_mem_nil _)) (List.forall_mem_nil _) 12
 have hl:=hS.l
 refine iR (P:=Tryz.prog) (N:=Tryz.f11.ntmps) (body:=muD) (k0:=0) (n:=700) (S0:=muS0) (J:=J0) bb7 (fun _=>muA) ad3 ⟨rfl,rfl,rfl⟩ (fun _ J'=>MuI J0 J') (fun J'=>MuI J0 J'/\(250<J'.i 702\/(J0.len 2:Int)<=J'.i 700)) (fun J'=>((J0.len 2:Int)-J'.i 700).toNat) (fun i J' hR => ?_)
  ⟨0,muN0.apT [] J0,ag0,⟨ag0,Int.le_refl _,show(0:Int)<=J0.len 2 by omega,Int.le_refl _,show(J0.len 2:Int)<=_ by omega,fun _ j hj => ?_⟩,fun E _ hkn=>uC hkn bT0 _⟩
 ·have q1:=hR.i0;have q2:=hR.i1;have q3:=hR.n0;have q4:=hR.n1
  have l2:J'.len 2=J0.len 2:=(hR.ag.len 2 (by decide)).symm
  have hs:=hS.agree hR.ag (by decide)
  by_cases hn:250<J'.i 702
  ·left
   refine⟨⟨hR,.inl hn⟩,?_⟩
   rcases iL mixed dm (hcall J') (LpsOk.nil _ _ _ _) KD (Facts.ok_cons (UI (a := .lit 250) (b := .var 702) hn) (QH hS hR)) bT3 with h | ⟨j,C,_,h1,_⟩
   ·exact h
   ·simp at h1
  ·by_cases hk:J'.i 700<J0.len 2
   ·right
    obtain⟨J1,a1,⟨hI,he⟩,hL⟩:=aF7 hs (by omega) (by omega)
    have hs1:=hs.agree a1 (by decide)
    have hR1:MuI J0 J1:=⟨hR.ag.trans (a1.le (by decide)),by rw[<-a1.i 700 (by decide)];exact q1,by rw[<-a1.i 700 (by decide)];exact q2,by rw[<-a1.i 702 (by decide)];exact q3,by rw[<-a1.i 702 (by decide)];exact q4,by rw[<-a1.i 702 (by decide),<-a1.i 700 (by decide)];exact hR.kk⟩
    have l1:J1.len 2=J0.len 2:=(hR1.ag.len 2 (by decide)).symm
    have e7:J1.i 700=J'.i 700:=(a1.i 700 (by decide)).symm
    have e72:J1.i 702=J'.i 702:=(a1.i 702 (by decide)).symm
    have hlp:LpsOk Tryz.prog J1 Tryz.f11.ntmps [miL] muD:=jP (c:=muD) [0] (by kernel_rfl) (List.forall_mem_cons.2 ⟨iD (L:=miL) (c:=miD) (by kernel_rfl) hL,List.forall_mem_nil _⟩)
    have hst:=Un (β:=muB) (n:=700) (U:=muA) mixed dm (hcall J1) hlp KD (Facts.ok_cons (UI (a := .var 700) (b := .len 2) (show J1.i 700<(J1.len 2:Int)by omega)) (Facts.ok_cons (nH (a := .lit 250) (b := .var 702) (show ¬(250:Int)<J1.i 702 by omega)) (QH hS hR1))) bT1
    have ag:Agree 700 J1 (muB.apT [] J1):=Bind.agreeT (by kernel_rfl) (by kernel_rfl) _
    have e3:(muB.apT [] J1).i 702=J1.i 703:=rfl
    have e4:(muB.apT [] J1).i 700=J1.i 700+1:=(show(muB.apT [] J1).i 700=IntKind.i64.wrap (J1.i 700+1)from rfl).trans (aP _ (by omega) (by omega))
    have p1:=hI.k0;have p2:=hI.k1;have p3:=hI.n0;have p4:=hI.n1
    have hst':StepF Tryz.prog Tryz.f11.ntmps muD 0 muA muA J' (muB.apT [] J1):=fun E hE hkn=>by
     rw[XS.bel_den a1 _ aF0]
     exact hst E hE hkn
    refine⟨0,_,hst',⟨hR1.ag.trans ag,by omega,by omega,by omega,by omega,fun h j hj => ?_⟩,by omega,(a1.le (by decide)).trans ag⟩
    by_cases hj':(j:Int)<J'.i 700
    ·exact hR.kk (by omega) j hj'
    ·have e5:Ux J'=J0.ci 2 1002 j:=by
      show J'.ci 2 1002 (J'.i 700).toNat=_
      rw[<-hR.ag.ci 2 (by decide),show(J'.i 700).toNat=j by omega]
     rcases he with he | he<;>omega
   ·left
    refine⟨⟨hR,.inr (by omega)⟩,?_⟩
    rcases iL mixed dm (hcall J') (LpsOk.nil _ _ _ _) KD (Facts.ok_cons (nH (a := .lit 250) (b := .var 702) hn) (Facts.ok_cons (nH (a := .var 700) (b := .len 2) (show ¬J'.i 700<(J'.len 2:Int)by omega)) (QH hS hR))) bT2 with h | ⟨j,C,_,h1,_⟩
    ·exact h
    ·simp at h1
 ·have hj:(j:Int)<0:=hj
  omega
theorem bb6 {J:Rho} (h:LoopOk Tryz.prog J Tryz.f11.ntmps muD ad3):∀g i,fO g su=some i->LpsOk Tryz.prog J i.ntmps (bb8 g) i.body:=fun g i hi=>by
 unfold bb8
 split
 ·rename_i hf
  have hf:=Nat.eq_of_beq_eq_true hf
  subst hf
  have hfo:zV Tryz.prog 11 i:=qA (11,i) (gK _ _ (fG hi))
  refine nV hfo Tryz.func11 ?_
  exact jP (c:=Tryz.f11.body.getD .skip) [0] (by kernel_rfl) (List.forall_mem_cons.2 ⟨iD (L:=ad3) (c:=muD) (by kernel_rfl) h,List.forall_mem_nil _⟩)
 ·exact LpsOk.nil _ _ _ _
theorem bT4 {J:Rho} (hS:Str J):∃b:Bool,Cy 11 (X.denL J [scX]) (.sc (.bool b))/\(b=false->J.len 2<=250/\∀j,j<J.len 2->J.ci 2 1002 j<=250):=by
 obtain⟨Jf,ag,⟨hI,he⟩,hL⟩:=aE9 hS
 have hr:=bb5
 unfold bW7 at hr
 split at hr
 ·rename_i x hrun
  have:=X.beq_eq _ _ hr
  subst this
  have hs:=hS.agree ag (by decide)
  have hl:=hs.l
  have g:=dM (c:=bc4) (iW (List.forall_mem_nil _) (bb6 hL)) (List.forall_mem_nil _) (Facts.ok_cons (nH (a := .lit 140737488355327) (b := .len 2) (show ¬(140737488355327:Int)<Jf.len 2 by omega)) (Facts.ok_nil Jf)) (show(aU bc4 11 [scX] bT6).sel Jf=some _ by rw[hrun];rfl)
  have e1:X.denL Jf [scX]=X.denL J [scX]:=(X.belL_den ag [scX] (by kernel_rfl)).symm
  rw[e1]at g
  refine⟨decide (250<Jf.i 702),g,fun h => ?_⟩
  have h:=of_decide_eq_false h
  have q0:=hI.n0
  refine⟨by omega,fun j hj=>hI.kk (by omega) j ?_⟩
  rcases he with he | he<;>omega
 ·cases hr
end Go.Proofs.YtpdfmnhgocpkcaaGreat
