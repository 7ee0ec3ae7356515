/- Parts of the proof, one behind the other. -/
import Derived.Test.YtpdfmnhgocpkcaaGreatTM25
import Derived.Test.YtpdfmnhgocpkcaaGreatTM26
import Derived.Test.YtpdfmnhgocpkcaaGreatTM27
import Derived.Test.YtpdfmnhgocpkcaaGreatTM14
import Derived.Test.YtpdfmnhgocpkcaaGreatTM6
namespace Go.Proofs.YtpdfmnhgocpkcaaGreat
open Go Go.Proofs.Aw Go.Proofs.Xw
set_option maxRecDepth 100000
structure Inv (al:aa) (i:Nat) (ρ:aa):Prop where
 ah:az 400 al ρ
 lt:i<10
 xz:∀C,gQ[i]? = some C->J.ok ρ C.bS
 ty:dX 460 eY ρ
 tx:6<=i->TI ρ
def Nx (al:aa) (i:Nat) (ρ:aa):Prop:=jj Tryz.prog Tryz.f6.ntmps lS qQ (Ss i) (.ret (.exit 0,rj (Ss i))) ρ\/∃(i':Nat) (F:aa),ea Tryz.prog Tryz.f6.ntmps lS qQ (Ss i) (Ss i') ρ F/\Inv al i' F/\F.i 400=IntKind.i64.wrap (ρ.i 400+1)/\az 400 ρ F
theorem adR:(gQ.all fun C=>C.S.ar 600&&(rj C.S).ar 600)=true:=by kernel_rfl
theorem SM:gQ.length=10:=by kernel_rfl
theorem al6:(gQ[6]?).map (·.di)=some [wT 0,wT 1,iB 6 jA,iB 7 jA,qc 7 jA false,qc 7 jA true]:=rfl
theorem al7:(gQ[7]?).map (·.di)=some [iB 6 jA,iB 7 jA]:=rfl
theorem al8:(gQ[8]?).map (·.di)=some [iB 8 mm,iB 9 mm,qc 9 mm false,qc 9 mm true,wU false,wU true]:=rfl
theorem al9:(gQ[9]?).map (·.di)=some [iB 8 mm,iB 9 mm]:=rfl
theorem asq {i j:Nat} {bM:dm} {ρ F:aa} (O:gQ[j]? = some bM) (h6:6<=j) (ha:bM.di=[]\/∃a∈bM.di,a.fr=i/\gI a ρ F) (hT:6<=i->TI ρ) (hB:i<=1->1<=ρ.len 621->ud ρ) (sy:i=7->1<=ρ.len 610->wR ρ):TI F:=by
 have M:j<10:=by
  have:=(List.getElem?_eq_some_iff.1 O).1
  rw[SM]at this;exact this
 have first:∀fr,fr<=1->fr=i->gI (wT fr) ρ F->TI F:=fun fr A E a=>by
  have h3:¬(ρ.len 621:Int)<1:=of_decide_eq_false (a.1 _ List.mem_cons_self)
  have n:=hB (by omega) (by omega)
  exact TI.first n.l6 n.ky n.td n.dM a
 have IC:∀ag,7=i->gI (wU ag) ρ F->TI F:=fun ag E a=>by
  have h3:¬(ρ.len 610:Int)<1:=of_decide_eq_false (a.1 _ List.mem_cons_self)
  have n:=sy (by omega) (by omega)
  exact(hT (by omega)).IC n.l6 n.td a
 rcases(show j=6\/j=7\/j=8\/j=9 by omega)with rfl | rfl | rfl | rfl
 ·have e:=al6
  rw[O]at e
  have e:bM.di=_:=Option.some.inj e
  rw[e]at ha
  simp only[List.cons_ne_nil,false_or,List.mem_cons,List.not_mem_nil,or_false]at ha
  obtain⟨a,h,hf,W⟩:=ha
  rcases h with rfl | rfl | rfl | rfl | rfl | rfl
  ·exact first 0 (by omega) hf W
  ·exact first 1 (by omega) hf W
  ·exact TI.sV qS (hT (by have:6=i:=hf;omega)) W
  ·exact TI.sV qS (hT (by have:7=i:=hf;omega)) W
  ·exact TI.more qS (hT (by have:7=i:=hf;omega)) W
  ·exact TI.more qS (hT (by have:7=i:=hf;omega)) W
 ·have e:=al7
  rw[O]at e
  have e:bM.di=_:=Option.some.inj e
  rw[e]at ha
  simp only[List.cons_ne_nil,false_or,List.mem_cons,List.not_mem_nil,or_false]at ha
  obtain⟨a,h,hf,W⟩:=ha
  rcases h with rfl | rfl
  ·exact TI.sV qS (hT (by have:6=i:=hf;omega)) W
  ·exact TI.sV qS (hT (by have:7=i:=hf;omega)) W
 ·have e:=al8
  rw[O]at e
  have e:bM.di=_:=Option.some.inj e
  rw[e]at ha
  simp only[List.cons_ne_nil,false_or,List.mem_cons,List.not_mem_nil,or_false]at ha
  obtain⟨a,h,hf,W⟩:=ha
  rcases h with rfl | rfl | rfl | rfl | rfl | rfl
  ·exact TI.sV yo (hT (by have:8=i:=hf;omega)) W
  ·exact TI.sV yo (hT (by have:9=i:=hf;omega)) W
  ·exact TI.more yo (hT (by have:9=i:=hf;omega)) W
  ·exact TI.more yo (hT (by have:9=i:=hf;omega)) W
  ·exact IC false hf W
  ·exact IC true hf W
 ·have e:=al9
  rw[O]at e
  have e:bM.di=_:=Option.some.inj e
  rw[e]at ha
  simp only[List.cons_ne_nil,false_or,List.mem_cons,List.not_mem_nil,or_false]at ha
  obtain⟨a,h,hf,W⟩:=ha
  rcases h with rfl | rfl
  ·exact TI.sV yo (hT (by have:8=i:=hf;omega)) W
  ·exact TI.sV yo (hT (by have:9=i:=hf;omega)) W
theorem GY {al ρ F:aa} {i:Nat} (ah:az 600 ρ F) (hI:Inv al i ρ) (hT:6<=i->TI F) (hB:i<=1->1<=F.len 621->ud F) (sy:i=7->1<=F.len 610->wR F) (aF:cO F i):Nx al i ρ:=by
 obtain⟨C,hC,aF⟩:=aF fun j' k t gy aM=>by
  have:=hI.ty j' k t (by rw[ah.len 460 (by decide)];exact gy) aM
  rw[ah.ct 460 (by decide)]at this
  exact this
 have hb:=List.all_eq_true.1 adR C (List.mem_of_getElem? hC)
 rw[Bool.and_eq_true]at hb
 have e1:C.S.I ρ=C.S.I F:=XS.aT ah _ hb.1
 have e2:(rj C.S).I ρ=(rj C.S).I F:=XS.aT ah _ hb.2
 unfold Nx
 rw[RM hC]
 rcases aF with aF | ⟨j,bM,ax,A,E,h3,h4,h5,h6,h7⟩
 ·left
  intro ac hE bI
  have:=aF ac hE bI
  rw[<-e1]at this
  refine dE (fun e V hq => ?_) this
  obtain⟨e',s,q1,q2,q3,q4⟩:=hq
  cases q2
  exact⟨.exit 0,rj C.S,q1,rfl,q3,by rw[e2];exact q4⟩
 ·right
  refine⟨j,ax,fun ac hE bI => ?_,⟨hI.ah.trans ((ah.le (by decide)).trans h5),?_,fun C' UA => ?_,h6 ?_,fun O=>asq A O h7 hT hB sy⟩,by rw[h4,ah.i 400 (by decide)],(ah.le (by decide)).trans h5⟩
  ·rw[e1,RM A];exact E ac hE bI
  ·have:=(List.getElem?_eq_some_iff.1 A).1
   rw[SM]at this;exact this
  ·rw[A]at UA;cases UA;exact h3
  ·intro j' k t gy aM
   have:=hI.ty j' k t (by rw[ah.len 460 (by decide)];exact gy) aM
   rw[ah.ct 460 (by decide)]at this
   exact this
end Go.Proofs.YtpdfmnhgocpkcaaGreat
namespace Go.Proofs.YtpdfmnhgocpkcaaGreat
open Go Go.Proofs.Aw Go.Proofs.Xw
set_option maxRecDepth 100000
theorem aqH {al ρ:aa} (hK:Key al) (ah:az 400 al ρ):J.ok ρ Yc:=by
 obtain⟨A,E⟩:=hK (ρ.i 400).toNat
 have e:(cA 1002).I ρ=al.ci 2 1002 (ρ.i 400).toNat:=by
  show ρ.ci 2 1002 (ρ.i 400).toNat=_
  rw[<-ah.ci 2 (by decide)]
 exact fF (by rw[e];exact A) (fF (by rw[e];exact E) (nil_ok' ρ))
where nil_ok' (ρ:aa):J.ok ρ []:=J.bq ρ
theorem aiz {al ρ:aa} {i:Nat} (hI:Inv al i ρ) (h6:6<=i):J.ok ρ Wz:=by
 have go:∀(k:Nat) (bS:J),i=k->(gQ[k]?).map (·.bS)=some (m3++bS)->0<=ρ.i 404:=fun k bS u h=>by
  subst u
  obtain⟨C,hC,e⟩:=Option.map_eq_some_iff.1 h
  have:=hI.xz C hC
  rw[e]at this
  exact mS (JB this) 12 rfl
 have q:0<=ρ.i 404:=by
  have M:=hI.lt
  rcases(show i=6\/i=7\/i=8\/i=9 by omega)with h | h | h | h
  ·exact go 6 nC h rfl
  ·exact go 7 nC h rfl
  ·exact go 8 nC h rfl
  ·exact go 9 nC h rfl
 refine J.av ?_ (J.bq ρ)
 show(max (ρ.i 404) 0==ρ.i 404)=true
 rw[Int.max_eq_left q]
 exact beq_self_eq_true _
theorem US {al ρ:aa} {i:Nat} (hK:Key al) (hI:Inv al i ρ):J.ok ρ (Fo i):=by
 unfold Fo
 refine dY ?_ (dY (aqH hK hI.ah) ?_)
 ·split
  ·rename_i C hC;exact hI.xz C hC
  ·exact J.bq ρ
 ·split
  ·rename_i h
   have h6:=Nat.le_of_ble_eq_true h
   have h:=hI.tx h6
   exact dY (aiz hI h6) (dY h.tr h.VN)
  ·exact J.bq ρ
theorem XI:(gQ[0]?).map (·.bS)=some Fm:=rfl
theorem Fs {al ρ:aa} {i:Nat} (hI:Inv al i ρ):Hd ρ/\(1<=i->(ρ.len 460:Int)<=ρ.i 400):=by
 have go:∀(k:Nat) (bS:J),i=k->(gQ[k]?).map (·.bS)=some (m3++bS)->Hd ρ/\(1<=i->(ρ.len 460:Int)<=ρ.i 400):=fun k bS u h=>by
  subst u
  obtain⟨C,hC,e⟩:=Option.map_eq_some_iff.1 h
  have:=hI.xz C hC
  rw[e]at this
  have:=afU (JB this)
  exact⟨this.1,fun _=>this.2⟩
 have M:=hI.lt
 rcases(show i=0\/i=1\/i=2\/i=3\/i=4\/i=5\/i=6\/i=7\/i=8\/i=9 by omega)with h | h | h | h | h | h | h | h | h | h
 ·subst h
  obtain⟨C,hC,e⟩:=Option.map_eq_some_iff.1 XI
  have:=hI.xz C hC
  rw[e]at this
  exact⟨afT this,fun h=>by omega⟩
 ·exact go 1 [] h rfl
 ·exact go 2 F2 h rfl
 ·exact go 3 F2 h rfl
 ·exact go 4 GG h rfl
 ·exact go 5 GG h rfl
 ·exact go 6 nC h rfl
 ·exact go 7 nC h rfl
 ·exact go 8 nC h rfl
 ·exact go 9 nC h rfl
theorem NP {al ρ:aa} {i:Nat} (hI:Inv al i ρ):J.ok ρ dh:=by
 have go:∀(k:Nat) (bS:J),i=k->(gQ[k]?).map (·.bS)=some (dh++bS)->J.ok ρ dh:=fun k bS u h=>by
  subst u
  obtain⟨C,hC,e⟩:=Option.map_eq_some_iff.1 h
  have:=hI.xz C hC
  rw[e]at this
  exact JB this
 have M:=hI.lt
 rcases(show i=0\/i=1\/i=2\/i=3\/i=4\/i=5\/i=6\/i=7\/i=8\/i=9 by omega)with h | h | h | h | h | h | h | h | h | h
 ·exact go 0 _ h rfl
 ·exact go 1 _ h rfl
 ·exact go 2 _ h rfl
 ·exact go 3 _ h rfl
 ·exact go 4 _ h rfl
 ·exact go 5 _ h rfl
 ·exact go 6 _ h rfl
 ·exact go 7 _ h rfl
 ·exact go 8 _ h rfl
 ·exact go 9 _ h rfl
theorem adh {al ρ:aa} {i:Nat} (hK:Key al) (hI:Inv al i ρ) (aQ:ρ.i 400<ρ.len 2):J.ok ρ (a5 i):=by
 obtain⟨A,E⟩:=Fs hI
 have e:=agC A
 have q1:=A.nL;have q2:=A.bm;have q3:=A.bl
 refine J.av (decide_eq_true aQ) (dY ?_ (US hK hI))
 split
 ·exact fF (by rw[e];show(0:Int)<=_;omega) (fF (by rw[e];show _<=(ρ.len 2:Int);omega) (fF (by rw[e];show(1:Int)<=_;omega) (J.bq ρ)))
 ·rename_i H
  have q4:=E (by
   rcases Nat.eq_zero_or_pos i with h | h
   ·subst h;exact absurd rfl H
   ·exact h)
  have em:(mkAdd (.len 460) (.lit 1)).I ρ=(ρ.len 460:Int)+1:=by rw[fe];rfl
  exact fF (by rw[e];show(0:Int)<=_;omega) (fF (by rw[e];show _<=(ρ.len 2:Int);omega) (fF (by rw[e];show(ρ.len 460:Int)<=_;omega) (fF (by rw[e,em];omega) (fF (by rw[e];show(1:Int)<=_;omega) (fF (by show(ρ.len 460:Int)<=300;omega) (J.bq ρ))))))
theorem aeO {al ρ:aa} {i:Nat} (hK:Key al) (hI:Inv al i ρ) (aQ:¬ρ.i 400<ρ.len 2):J.ok ρ (ga i):=J.av (decide_eq_false aQ) (US hK hI)
theorem adg:((List.range 10).all fun i=>(a5 i).all fun p=>p.1.ar 600)=true:=by kernel_rfl
theorem aeN:((List.range 10).all fun i=>(ga i).all fun p=>p.1.ar 600)=true:=by kernel_rfl
theorem adf {ρ F:aa} (ah:az 600 ρ F) {i:Nat} (hi:i<10) (h:J.ok ρ (a5 i)):J.ok F (a5 i) :=
 gR ah (List.all_eq_true.1 adg i (List.mem_range.2 hi)) h
theorem ahh {al ρ:aa} (hK:Key al) (ah:az 400 al ρ):0<=bj.I ρ/\bj.I ρ<=250:=by
 obtain⟨A,E⟩:=hK (ρ.i 400).toNat
 have e:bj.I ρ=al.ci 2 1002 (ρ.i 400).toNat:=by
  show ρ.ci 2 1002 (ρ.i 400).toNat=_
  rw[<-ah.ci 2 (by decide)]
 omega
theorem R4 (C:rP) {al ρ:aa} {i:Nat} (hK:Key al) (hI:Inv al i ρ):∃F,az 600 ρ F/\F.len 610=0/\((J.ok F wF/\ud F/\∀k∈ei false++ei true,c' Tryz.prog F k)\/(F.len 621=0/\∀k∈dS false++dS true,c' Tryz.prog F k)):=by
 obtain⟨A,E⟩:=ahh hK hI.ah
 exact C.ai9 ρ (NP hI) A E
theorem Qg (C:rP) {al ρ:aa} {i:Nat} (hK:Key al) (hI:Inv al i ρ) (aQ:ρ.i 400<ρ.len 2)
  (hr:∀F,az 600 ρ F->F.len 610=0->J.ok F (a5 i)->(cO F i->Nx al i ρ)->(dW->∀(d9:DT),lv d9=true->DT.ok a' (bV (ei false++ei true) i) d9 (wF++((ai (cA 1) 4,true)::(ai (cA 0) 1,true)::a5 i))=true->DT.ok a' (bV (dS false++dS true) i) (.br (bQ (cA 1002) 1) d9 d9) ((ai (cA 1) 4,true)::(ai (cA 0) 1,true)::a5 i)=true->J.ok F ((ai (cA 1) 4,true)::(ai (cA 0) 1,true)::a5 i)->Nx al i ρ)->Nx al i ρ):Nx al i ρ:=by
 obtain⟨F,ah,hz,h⟩:=R4 C hK hI
 have u:=adf ah hI.lt (adh hK hI aQ)
 have hB:i<=1->1<=F.len 621->ud F:=fun _ A=>by
  rcases h with⟨_,h,_⟩ | ⟨h,_⟩
  ·exact h
  ·omega
 have to:cO F i->Nx al i ρ:=GY ah hI (fun h6=>(hI.tx h6).bt ah) hB (fun _ h=>by omega)
 refine hr F ah hz u to fun ad d9 hd hw ho hf=>to ?_
 rcases h with⟨A,_,h3⟩ | ⟨_,h3⟩
 ·exact part ad _ h3 hd hw (dY A hf)
 ·exact part ad _ h3 (by simp only[lv,hd,Bool.and_self]) ho hf
theorem tK (ad:dW) (C:rP) {al ρ:aa} {i:Nat} (hK:Key al) (hI:Inv al i ρ) (aQ:ρ.i 400<ρ.len 2) (d9:DT) (hd:lv d9=true) (hw:DT.ok a' (bV (ei false++ei true) i) d9 (wF++((ai (cA 1) 4,true)::(ai (cA 0) 1,true)::a5 i))=true) (ho:DT.ok a' (bV (dS false++dS true) i) (.br (bQ (cA 1002) 1) d9 d9) ((ai (cA 1) 4,true)::(ai (cA 0) 1,true)::a5 i)=true)
  (hr:∀F,az 600 ρ F->J.ok F (a5 i)->(cO F i->Nx al i ρ)->(J.ok F ((ai (cA 1) 4,true)::(ai (cA 0) 1,true)::a5 i)->Nx al i ρ)->Nx al i ρ):Nx al i ρ :=
 Qg C hK hI aQ fun F ah _ u to ht=>hr F ah u to (ht ad d9 hd hw ho)
def U3 (i:Nat):J:=(.eq (.var 443) (.lit 1),true)::(ai (cM 73) 0,true)::(ai (cM 73) 60,false)::(ai (cM 73) 92,false)::(ai (cM 0) 6,true)::(ai (cM 0) 4,false)::(.eq (cM 13) (.var 403),true)::(.eq (cM 12) (.var 402),true)::(ai (cA 0) 2,true)::(ai (cA 0) 1,false)::a5 i
def U4 (i:Nat):J:=(.eq (.var 443) (.lit 1),true)::(ai (cM 73) 0,true)::(ai (cM 73) 60,false)::(ai (cM 73) 92,false)::(ai (cM 0) 6,true)::(ai (cM 0) 4,false)::(ai (cA 0) 5,true)::(ai (cA 0) 4,false)::(ai (cA 0) 3,false)::(ai (cA 0) 2,false)::(ai (cA 0) 1,false)::a5 i
theorem U5:((U3 9++(U4 9++(U3 7++U4 7))).all fun p=>p.1.ar 600)=true:=by kernel_rfl
theorem VU (ad:dW) (C:rP) {al ρ bP:aa} (hI:Inv al 9 ρ) (ah:az 600 ρ bP) {aU:J} (hb:(aU.all fun p=>p.1.ar 600)=true) (u:J.ok bP aU) (dq:bP.i 443=1)
  (GT:DT.ok a' (bV (sx false) 9) .leaf ((bU 47,false)::aU)=true) (aq4:DT.ok a' (bV (sx true) 9) .leaf ((.eq (.uf 2 0 dr) (.lit 1),true)::(bU 47,true)::aU)=true) (rx:DT.ok a' (bV [] 9) .leaf ((.eq (.uf 2 0 dr) (.lit 1),false)::(bU 47,true)::aU)=true):Nx al 9 ρ:=by
 have hT:=(hI.tx (by decide)).bt ah
 have to:∀{ax},az 600 ρ ax->cO ax 9->Nx al 9 ρ:=fun rS=>GY rS hI (fun _=>(hI.tx (by decide)).bt rS) (fun h=>by omega) (fun h=>by omega)
 refine Sd u (fun hf=>to ah (part ad [] (List.forall_mem_nil _) rfl rx hf)) fun ag A E => ?_
 obtain⟨ax,bl,j5⟩:=C.l2 bP ag (gR ah (by kernel_rfl) (NP hI)) hT dq A E
 have dO:=gR bl hb u
 have e1:(bU 47).I ax=ag:=by rw[<-BE.aT bl (bU 47) (by kernel_rfl)];exact A
 have e2:ag=true->(BE.eq (.uf 2 0 dr) (.lit 1)).I ax=true:=fun h=>by rw[<-BE.aT bl _ (by kernel_rfl)];exact E h
 have hf:=UL e1 e2 dO
 refine to (ah.trans bl) ?_
 cases ag with
 | true=>exact part ad _ j5 rfl aq4 hf
 | false=>exact part ad _ j5 rfl GT hf
theorem VT (ad:dW) (C:rP) {al ρ bP:aa} (hI:Inv al 7 ρ) (ah:az 600 ρ bP) (hz:bP.len 610=0) {aU:J} (hb:(aU.all fun p=>p.1.ar 600)=true) (u:J.ok bP aU) (dq:bP.i 443=1)
  (aiS:DT.ok a' (bV (sw false++[iI false false,ic false false]) 7) .leaf ((bU 47,false)::aU)=true) (ai8:DT.ok a' (bV (sw true++[iI true false,ic true false]) 7) .leaf ((.eq (.uf 2 0 dr) (.lit 1),true)::(bU 47,true)::aU)=true)
  (rt:DT.ok a' (bV [iI false true,ic false true] 7) .leaf (uj++((bU 47,false)::aU))=true) (at_:DT.ok a' (bV [iI true true,ic true true] 7) .leaf (uj++((.eq (.uf 2 0 dr) (.lit 1),true)::(bU 47,true)::aU))=true)
  (rx:DT.ok a' (bV [] 7) .leaf ((.eq (.uf 2 0 dr) (.lit 1),false)::(bU 47,true)::aU)=true):Nx al 7 ρ:=by
 have hT:=(hI.tx (by decide)).bt ah
 have to:∀{ax},az 600 ρ ax->(1<=ax.len 610->wR ax)->cO ax 7->Nx al 7 ρ:=fun rS sy=>GY rS hI (fun _=>(hI.tx (by decide)).bt rS) (fun h=>by omega) (fun _=>sy)
 refine Sd u (fun hf=>to ah (fun h=>by omega) (part ad [] (List.forall_mem_nil _) rfl rx hf)) fun ag A E => ?_
 obtain⟨ax,bl,j5⟩:=C.l1 bP ag (gR ah (by kernel_rfl) (NP hI)) hT dq A E
 have dO:=gR bl hb u
 have e1:(bU 47).I ax=ag:=by rw[<-BE.aT bl (bU 47) (by kernel_rfl)];exact A
 have e2:ag=true->(BE.eq (.uf 2 0 dr) (.lit 1)).I ax=true:=fun h=>by rw[<-BE.aT bl _ (by kernel_rfl)];exact E h
 have hf:=UL e1 e2 dO
 rcases j5 with⟨Vo,j5⟩ | ⟨h3,sy,j5⟩
 ·refine to (ah.trans bl) (fun h=>by omega) ?_
  cases ag with
  | true=>exact part ad _ j5 rfl ai8 hf
  | false=>exact part ad _ j5 rfl aiS hf
 ·refine to (ah.trans bl) (fun _=>sy) ?_
  have ha:=acw h3 (hT.bt bl) sy
  cases ag with
  | true=>exact part ad _ j5 rfl at_ (dY ha hf)
  | false=>exact part ad _ j5 rfl rt (dY ha hf)
theorem step (ad:dW) (C:rP) {al ρ:aa} {i:Nat} (hK:Key al) (hI:Inv al i ρ):Nx al i ρ:=by
 by_cases aQ:ρ.i 400<ρ.len 2
 ·have M:=hI.lt
  rcases(show i=0\/i=1\/i=2\/i=3\/i=4\/i=5\/i=6\/i=7\/i=8\/i=9 by omega)with h | h | h | h | h | h | h | h | h | h<;>subst h
  ·exact tK ad C hK hI aQ r7 rfl tw0 tn0 fun F _ u to ht=>rd0 ad u to ht
  ·exact tK ad C hK hI aQ r7 rfl tw1 tn1 fun F _ u to ht=>rd1 ad u to ht
  ·exact tK ad C hK hI aQ .leaf rfl tw2 tn2 fun F _ u to ht=>rd2 ad u to ht
  ·exact tK ad C hK hI aQ .leaf rfl tw3 tn3 fun F _ u to ht=>rd3 ad u to ht
  ·exact tK ad C hK hI aQ .leaf rfl tw4 tn4 fun F _ u to ht=>rd4 ad u to ht
  ·exact tK ad C hK hI aQ .leaf rfl tw5 tn5 fun F _ u to ht=>rd5 ad u to ht
  ·exact tK ad C hK hI aQ .leaf rfl tw6 tn6 fun F _ u to ht=>rd6 ad u to ht
  ·refine Qg C hK hI aQ fun F ah hz u to ht => ?_
   have hT:=(hI.tx (by decide)).bt ah
   obtain⟨b1,b2⟩:=Bs U5
   obtain⟨b2,dt⟩:=Bs b2
   obtain⟨dt,fg⟩:=Bs dt
   exact rd7 ad u to (ht ad .leaf rfl tw7 tn7) (fun hf=>VT ad C hI ah hz dt hf (Hb (hf _ List.mem_cons_self)) ahl ahn ahk ahm aho) (U8 hT) (U9 hT) (fun hf=>VT ad C hI ah hz fg hf (Hb (hf _ List.mem_cons_self)) ahq ahs ahp ahr aht)
  ·exact tK ad C hK hI aQ .leaf rfl tw8 tn8 fun F _ u to ht=>rd8 ad u to ht
  ·refine Qg C hK hI aQ fun F ah hz u to ht => ?_
   have hT:=(hI.tx (by decide)).bt ah
   obtain⟨b1,b2⟩:=Bs U5
   obtain⟨b2,dt⟩:=Bs b2
   exact rd9 ad u to (ht ad .leaf rfl tw9 tn9) (fun hf=>VU ad C hI ah b1 hf (Hb (hf _ List.mem_cons_self)) ahu ahv ahw) (U8 hT) (U9 hT) (fun hf=>VU ad C hI ah b2 hf (Hb (hf _ List.mem_cons_self)) ahx ahy ahz)
 ·have u:=aeO hK hI aQ
  have M:=hI.lt
  obtain⟨F,ah,hz,h⟩:=R4 C hK hI
  have hB:i<=1->1<=F.len 621->ud F:=fun _ A=>by
   rcases h with⟨_,h,_⟩ | ⟨h,_⟩
   ·exact h
   ·omega
  have to:cO F i->Nx al i ρ:=GY ah hI (fun h6=>(hI.tx h6).bt ah) hB (fun _ h=>by omega)
  have u:=gR ah (List.all_eq_true.1 aeN i (List.mem_range.2 M)) u
  refine to ?_
  rcases(show i=0\/i=1\/i=2\/i=3\/i=4\/i=5\/i=6\/i=7\/i=8\/i=9 by omega)with h | h | h | h | h | h | h | h | h | h<;>subst h
  ·exact ex0 ad u
  ·exact ex1 ad u
  ·exact ex2 ad u
  ·exact ex3 ad u
  ·exact ex4 ad u
  ·exact ex5 ad u
  ·exact ex6 ad u
  ·exact ex7 ad u
  ·exact ex8 ad u
  ·exact ex9 ad u
end Go.Proofs.YtpdfmnhgocpkcaaGreat
namespace Go.Proofs.YtpdfmnhgocpkcaaGreat
open Go Go.Proofs.Aw Go.Proofs.Xw
set_option maxRecDepth 100000
def qM:Bind:=⟨((List.range 14).map fun k=>(400+k,if Nat.beq k 1=true then .var 5 else .lit 0))++((List.range 13).map fun k=>(418+k,.lit 0)),[(428,.lit false)],[],[(460,.lit 0,.one [])]⟩
theorem ark:ff qQ 400 qM [] (Ss 0) (zf.zA [] (Ss 0).h)=true:=by kernel_rfl
theorem arj:zf.ar 400=true:=by kernel_rfl
theorem Vr:qM.ge 400=true:=by kernel_rfl
noncomputable def ahA (i:Nat):bf:=⟨(du lS).getD 0,qQ,400,zf,gj,[],.ret (.exit 0,rj (Ss i))⟩
theorem agQ {ρ:aa} (h:J.ok ρ dh) (h5:0<=ρ.i 5) (Uy:ρ.i 5<ρ.i 0):Inv ρ 0 (qM.ap ρ):=by
 have ah:az 400 ρ (qM.ap ρ):=Bind.bt Vr ρ
 have M:=gR ah (by kernel_rfl) h
 have SR:ρ.i 0<=3:=mS h 1 rfl
 refine⟨ah,by decide,fun C hC => ?_,fun j k t O _ => ?_,fun h=>by omega⟩
 ·have e:=XI
  rw[hC]at e
  have e:C.bS=Fm:=Option.some.inj e
  rw[e]
  have q1:(qM.ap ρ).i 0=ρ.i 0:=(ah.i 0 (by decide)).symm
  refine dY M (fF ?_ (fF ?_ (fF ?_ (xy ?_ (fF ?_ (fF ?_ (fF ?_ (fF ?_ (J.bq _)))))))))
  ·show(0:Int)<=0;omega
  ·show(0:Int)<=((qM.ap ρ).len 2:Int);omega
  ·show(0:Int)<=ρ.i 5;omega
  ·show ρ.i 5<(qM.ap ρ).i 0;omega
  ·show ρ.i 5<=2;omega
  ·show(0:Int)<=0;omega
  ·show(0:Int)<=0;omega
  ·show(0:Int)<=1099511627776;omega
 ·have:(qM.ap ρ).len 460=0:=rfl
  omega
theorem loop (ad:dW) (C:rP) {ρ:aa} (hK:Key ρ) (M:J.ok ρ dh) (h5:0<=ρ.i 5) (Uy:ρ.i 5<ρ.i 0):∃i am,az 400 ρ am/\Inv ρ i am/\bW Tryz.prog am Tryz.f6.ntmps lS (yp i):=by
 have key:=NI (P:=Tryz.prog) (N:=Tryz.f6.ntmps) (body:=lS) (k0:=qQ) (n:=400) (S0:=zf) (ρ:=ρ) arj Ss ahA (fun _=>⟨rfl,rfl,rfl⟩) (fun i F=>Inv ρ i F) (fun F=>ρ.len 2-(F.i 400).toNat) (fun i F hI=>by
  rcases step ad C hK hI with h | ⟨i',ax,A,E,h3,h4⟩
  ·exact .inl h
  ·right
   obtain⟨g1,_⟩:=Fs hI
   obtain⟨g2,_⟩:=Fs E
   have q1:=g1.nL;have q2:=g1.bm;have q3:=g1.bl
   have w:ax.i 400=F.i 400+1:=by rw[h3];exact cc _ (by omega) (by omega)
   have q4:=g2.bm
   have e:ax.len 2=ρ.len 2:=(E.ah.len 2 (by decide)).symm
   exact⟨i',ax,A,E,by omega,h4⟩)
 obtain⟨i,am,A,E,h3⟩:=key ⟨0,qM.ap ρ,Bind.bt Vr ρ,agQ M h5 Uy,fun ac _ bI=>vn (wJ (XS.Q1 ρ [] (Ss 0).h zf)) (jF bI ark ρ)⟩
 exact⟨i,am,A,E,fun ac hE bI=>h3 ac hE fun m hm=>Nat.lt_of_lt_of_le (bI m hm) (Nat.zero_le _)⟩
end Go.Proofs.YtpdfmnhgocpkcaaGreat
namespace Go.Proofs.YtpdfmnhgocpkcaaGreat
open Go Go.Proofs.Aw Go.Proofs.Xw
set_option maxRecDepth 100000
open Classical in
theorem V7 {P:Program} {N:Nat} {body:Code} {k0 n:Nat} {S0:XS} (hS:S0.ar n=true) (S:XS) (L:Nat->bf) (hL:∀i,(L i).k0=k0/\(L i).S=S0/\(L i).init=gj) (aF:aa->Prop) (dl:aa->Nat)
  (hR:∀ρ,aF ρ->jj P N body k0 S (L 0).out ρ\/jj P N body k0 S (L 1).out ρ\/∃F,ea P N body k0 S S ρ F/\aF F/\dl F<dl ρ/\az n ρ F)
  {ρ al:aa} (h0:az n ρ al) (hr:aF al) (hi:∀ac:Aw.Env,ac.N=N->(∀m,ac.c0.kn m->m.1<k0)->dF ac (S0.I ρ) (S.I al)):∃(i:Nat) (am:aa),(i=0\/i=1)/\az n ρ am/\aF am/\bW P am N body (L i):=by
 let pick:aa->Nat:=fun ρ=>if jj P N body k0 S (L 1).out ρ then 1 else 0
 have alt:∀ρ,pick ρ=0\/pick ρ=1:=fun ρ=>by simp only[pick];split<;>simp
 obtain⟨i,am,A,⟨E,h3⟩,h4⟩:=NI (P:=P) (N:=N) (body:=body) (k0:=k0) (n:=n) (S0:=S0) (ρ:=ρ) hS (fun _=>S) L hL (fun i ρ=>aF ρ/\i=pick ρ) dl (fun i ρ ⟨A,E⟩=>by
  subst E
  by_cases G:jj P N body k0 S (L 1).out ρ
  ·left
   simp only[pick,if_pos G]
   exact G
  ·rcases hR ρ A with h | h | ⟨F,g1,g2,g3,g4⟩
   ·left
    simp only[pick,if_neg G]
    exact h
   ·exact absurd h G
   ·exact .inr ⟨pick F,F,g1,⟨g2,rfl⟩,g3,g4⟩) ⟨pick al,al,h0,⟨hr,rfl⟩,hi⟩
 exact⟨i,am,by rw[h3];exact alt am,A,E,h4⟩
def BR (i j:X) (f:Bool):ba:=[(8,i),(7,.sc (.i .i64 (.len 0))),(6,ix f),(4,j),(0,ix f),(1,xs 0)]
def VK (f:Bool):XS:=⟨BR (xn 0) .top f,[],4⟩
def yh (f:Bool):XS:=⟨BR (xi 10) .top f,[],4⟩
def Nd (f:Bool):Nat->XE×XS
 | 0=>(.exit 0,⟨BR (xi 10) .top f,[],30⟩)
 | _=>(.ret,⟨BR (xi 10) (xi 10) f,[],30⟩)
noncomputable def qP:Code:=(dP (Tryz.f140.body.getD .skip))[0]?.getD .skip
def VJ (f:Bool):List dm:=[⟨yh f,zx,[]⟩]
noncomputable def ag5 (f:Bool) (B:J):T (XE×XS):=(ck (bd [] (fun _=>[])).ti (eC ⟨bd [] (fun _=>[]),[],[]⟩ 12) [] 0 [] 1000 qP B (yh f)).map (dV ((BR (xi 10) .top f).map (·.1)))
noncomputable def Nf (f:Bool) (k:Nat) (B:J):Bool:=dC 0 10 10 [] (0,[]) 0 (VJ f) (Nd f k).2 (Nd f k).1 B (ag5 f B)
def Nb:BE := .seq (.var 0) (.cl 0 0 (.var 10))
theorem ag6:nG (fun f _=>Nf f 0 zw&&(Nf f 1 ((Nb,true)::p9)&&Nf f 0 ((Nb,false)::p9)))=true:=by kernel_rfl
noncomputable def BQ (f:Bool) (k:Nat):bf:=⟨(du qP).getD 0,0,10,VK f,gj,[],.ret (Nd f k)⟩
theorem Ng:da Tryz.f140.ntmps qP=true:=by kernel_rfl
theorem ag7 (f:Bool) {m:Nat} {ρ:aa} (hn:ρ.len 0=m) (hb:m<=4611686018427387904):∃(i:Nat) (am:aa),(i=0\/i=1)/\az 10 ρ am/\nK m am/\bW Tryz.prog am Tryz.f140.ntmps qP (BQ f i):=by
 have H:∀F,bZ Tryz.prog F (bd [] (fun _=>[])):=fun F=>kW (List.forall_mem_nil _)
 have bD:=p8 ag6 f false
 simp only[Bool.and_eq_true]at bD
 obtain⟨r0,r1,r2⟩:=bD
 let β:Bind:=⟨[(10,.lit 0)],[],[],[]⟩
 refine V7 (P:=Tryz.prog) (N:=Tryz.f140.ntmps) (body:=qP) (k0:=0) (n:=10) (S0:=VK f) (ρ:=ρ) (by cases f<;>kernel_rfl) (yh f) (BQ f) (fun i=>⟨rfl,rfl,rfl⟩) (nK m) (fun F=>m-(F.i 10).toNat) (fun F hR => ?_) (al:=β.ap ρ) (Bind.bt (by kernel_rfl) ρ) ⟨hn,hb,Int.le_refl _,show(0:Int)<=m by omega⟩ (fun ac _ bI=>jF (k0:=0) (n:=10) (nm:=[]) bI (by cases f<;>kernel_rfl) ρ)
 have q1:=hR.n;have q2:=hR.b;have q3:=hR.i0;have q4:=hR.i1
 have aP:=eU (c:=⟨bd [] (fun _=>[]),[],[]⟩) (H F) (List.forall_mem_nil _) 12
 by_cases aQ:F.i 10<F.len 0
 ·have e1:w1.I F=F.i 10+1:=(show w1.I F=IntKind.i64.wrap (F.i 10+1)from rfl).trans (cc _ (by omega) (by omega))
  have u:J.ok F p9:=J.av (decide_eq_true aQ) (J.av (decide_eq_false (by rw[e1];show ¬_<(0:Int);omega)) (J.av (decide_eq_false (by rw[e1];show ¬(F.len 0:Int)<_;omega)) (zy hR)))
  have go:(∃(j:Nat) (C:dm) (ax:aa),(VJ f)[j]? = some C/\ea Tryz.prog Tryz.f140.ntmps qP 0 (yh f) C.S F ax/\ax.i 10=IntKind.i64.wrap (F.i 10+1)/\az 10 F ax)->∃ax,ea Tryz.prog Tryz.f140.ntmps qP 0 (yh f) (yh f) F ax/\nK m ax/\m-(ax.i 10).toNat<m-(F.i 10).toNat/\az 10 F ax:=fun⟨j,C,ax,A,E,h4,h5⟩=>by
   match j,A with
   | 0,A =>
    cases A
    have e4:ax.i 10=F.i 10+1:=by rw[h4];exact cc _ (by omega) (by omega)
    have iG:ax.len 0=F.len 0:=(h5.len 0 (by omega)).symm
    exact⟨ax,E,⟨by omega,hb,by omega,by omega⟩,by omega,h5⟩
  rcases kV Nb F with W | W
  ·rcases gD mixed cR aP (a1.nil _ _ _ _) Ng (J.av W u) r1 with h | ⟨j,C,ax,A,E,_,h4,h5,_⟩
   ·exact .inr (.inl h)
   ·exact .inr (.inr (go ⟨j,C,ax,A,E,h4,h5⟩))
  ·rcases gD mixed cR aP (a1.nil _ _ _ _) Ng (J.av W u) r2 with h | ⟨j,C,ax,A,E,_,h4,h5,_⟩
   ·exact .inl h
   ·exact .inr (.inr (go ⟨j,C,ax,A,E,h4,h5⟩))
 ·have u:J.ok F zw:=J.av (decide_eq_false aQ) (zy hR)
  rcases gD mixed cR aP (a1.nil _ _ _ _) Ng u r0 with h | ⟨j,C,ax,A,E,h3,h4,h5,_⟩
  ·exact .inl h
  ·exfalso
   match j,A with
   | 0,A =>
    cases A
    have e4:ax.i 10=F.i 10+1:=by rw[h4];exact cc _ (by omega) (by omega)
    have iG:ax.len 0=F.len 0:=(h5.len 0 (by omega)).symm
    have:=h3 _ (List.mem_cons_of_mem _ List.mem_cons_self)
    have:¬(ax.len 0:Int)<ax.i 10:=of_decide_eq_false this
    omega
noncomputable def Nc (f:Bool) (k:Nat) (g:Nat):List bf:=if Nat.beq g 140=true then [BQ f k]else []
noncomputable def Na (f:Bool) (k:Nat):cj:=⟨bd [] (Nc f k),[],[]⟩
theorem ag9:nG (fun f k=>match aN (Na f (if k=true then 1 else 0)) 117 [ix f,xs 0] wE with | .ret (.sc (.b _))=>true | _=>false)=true:=by kernel_rfl
theorem ag8 (f:Bool) (k:Nat) {ρ:aa} (h:bW Tryz.prog ρ Tryz.f140.ntmps qP (BQ f k)) (u:k=0\/k=1):∀g i,eB g gb=some i->a1 Tryz.prog ρ i.ntmps (Nc f k g) i.body:=fun g i hi=>by
 unfold Nc
 split
 ·rename_i hf
  have hf:=Nat.eq_of_beq_eq_true hf
  subst hf
  have e:eB 140 gb=some (fi Tryz.f140 []):=by kernel_rfl
  rw[e]at hi
  cases hi
  exact kv [0] (by cases f<;>rcases u with rfl | rfl<;>kernel_rfl) (List.forall_mem_cons.2 ⟨ku (L:=BQ f k) (c:=qP) (by cases f<;>rcases u with rfl | rfl<;>kernel_rfl) h,List.forall_mem_nil _⟩)
 ·exact a1.nil _ _ _ _
theorem Yp {ρ:aa} {ss:List ByteArray} (M:ρ.len 0=ss.length) (H:∀j (h:j<ss.length),ρ.cs 0 0 j=ss[j]):aV ρ (.len 0) (.var 0 [.s])=fx ss:=by
 unfold aV fx
 have l:((U.len 0).I ρ).toNat=ss.length:=by show((ρ.len 0:Nat):Int).toNat=_;omega
 rw[l]
 apply List.ext_getElem?
 intro j
 rw[List.getElem?_map,List.getElem?_map]
 by_cases O:j<ss.length
 ·rw[List.getElem?_range O,List.getElem?_eq_getElem O,Option.map_some,Option.map_some]
  show some [AV.sc (.string (ρ.cs 0 0 ((j:Int)).toNat))]=_
  rw[Int.toNat_natCast,H j O]
 ·rw[List.getElem?_eq_none (by rw[List.length_range];omega),List.getElem?_eq_none (by omega)];rfl
theorem adL (ss:List ByteArray) (s:ByteArray) (f:Bool) (M:ss.length<=4611686018427387904):∃b:Bool,b_ Tryz.prog 117=true/\∀n h,CY Tryz.prog n 117 [.ro 1 (fx ss) f,.sc (.string s)] h (.sc (.bool b)) []:=by
 let ρ:aa:=⟨fun _=>0,fun _=>false,fun _=>s,fun _=>ss.length,fun _ _ _=>0,fun _ _ _=>false,fun _ _ j=>(ss[j]?).getD ⟨#[]⟩,kz⟩
 obtain⟨i,am,hi,A,E,h3⟩:=ag7 f (ρ:=ρ) (m:=ss.length) rfl M
 have u:J.ok am wE:=by
  have q1:=E.n;have q2:=E.b;have q3:=E.i0;have q4:=E.i1
  exact J.av (decide_eq_false (by show ¬(4611686018427387904:Int)<am.len 0;omega)) (J.av (decide_eq_false (by show ¬(am.len 0:Int)<am.i 10;omega)) (J.av (decide_eq_false (by show ¬am.i 10<0;omega)) (J.bq am)))
 have e:X.af am [ix f,xs 0]=[.ro 1 (fx ss) f,.sc (.string s)]:=by
  have r:aV am (.len 0) (.var 0 [.s])=fx ss:=Yp E.n fun j O=>by
   rw[<-A.cs 0 (by omega)]
   show(ss[j]?).getD ⟨#[]⟩=_
   rw[List.getElem?_eq_getElem O];rfl
  have r2:am.s 0=s:=(A.s 0 (by omega)).symm
  show [AV.ro 1 (aV am (.len 0) (.var 0 [.s])) f,AV.sc (.string (am.s 0))]=_
  rw[r,r2]
 have go:∀k:Bool,i=(if k=true then 1 else 0)->∃b:Bool,b_ Tryz.prog 117=true/\∀n h,CY Tryz.prog n 117 [.ro 1 (fx ss) f,.sc (.string s)] h (.sc (.bool b)) []:=fun k aM=>by
  have hw:=p8 ag9 f k
  have H:bZ Tryz.prog am (Na f (if k=true then 1 else 0)).c:=hl (List.forall_mem_nil _) (by rw[<-aM];exact ag8 f i h3 hi)
  split at hw
  ·rename_i b hx
   have q:=ef H (List.forall_mem_nil _) u (show(aN (Na f (if k=true then 1 else 0)) 117 [ix f,xs 0] wE).aq am=some _ by rw[hx];rfl)
   rw[e]at q
   exact⟨b.I am,q⟩
  ·cases hw
 rcases hi with h | h
 ·exact go false h
 ·exact go true h
end Go.Proofs.YtpdfmnhgocpkcaaGreat
namespace Go.Proofs.YtpdfmnhgocpkcaaGreat
open Go Go.Proofs.Aw Go.Proofs.Xw
set_option maxRecDepth 100000
def CG (i r:X) (f:Bool):ba:=[(7,i),(6,.sc (.i .i64 (.len 0))),(5,ix f),(2,r),(0,ix f)]
def X5 (f:Bool):XS:=⟨CG (xn 0) .top f,[],4⟩
def lD (f:Bool):XS:=⟨CG (xi 10) .top f,[],4⟩
def pP (f:Bool):Nat->XE×XS
 | 0=>(.exit 0,⟨CG (xi 10) .top f,[],60⟩)
 | _=>(.ret,⟨CG (xi 10) (xl false) f,[],60⟩)
noncomputable def lC:Code:=(dP (Tryz.f87.body.getD .skip))[0]?.getD .skip
def X4 (f:Bool):List dm:=[⟨lD f,zx,[]⟩]
def HK:List (Nat×List X×X):=[(117,[.rl 1 (.var 10) (.var 0 [.s]) false,.sc (.s (.cl 0 0 (.var 10)))],xb 12)]
noncomputable def aqw (f:Bool) (B:J):T (XE×XS):=(ck (bd HK (fun _=>[])).ti (eC ⟨bd HK (fun _=>[]),[],[]⟩ 12) [] 0 [] 1000 lC B (lD f)).map (dV ((CG (xi 10) .top f).map (·.1)))
noncomputable def y9 (f:Bool) (k:Nat) (B:J):Bool:=dC 0 10 10 [] (0,[]) 0 (X4 f) (pP f k).2 (pP f k).1 B (aqw f B)
def CF:BE := .lt (.cB (.cl 0 0 (.var 10))) (.lit 1)
def HI:BE := .lt (.lit 16) (.cB (.cl 0 0 (.var 10)))
theorem aqx:nG (fun f _=>y9 f 0 zw&&(y9 f 1 ((CF,true)::p9)&&(y9 f 1 ((HI,true)::(CF,false)::p9)&&(y9 f 1 ((.var 12,true)::(HI,false)::(CF,false)::p9)&&y9 f 0 ((.var 12,false)::(HI,false)::(CF,false)::p9)))))=true:=by kernel_rfl
noncomputable def v_ (f:Bool) (k:Nat):bf:=⟨(du lC).getD 0,0,10,X5 f,gj,[],.ret (pP f k)⟩
theorem X6:da Tryz.f87.ntmps lC=true:=by kernel_rfl
theorem aqS {ρ:aa} (n:Nat) {l:Nat} (h:ρ.i 10=n):∃ss:List ByteArray,ss.length=n/\aV ρ (.var 10) (.var l [.s])=fx ss:=by
 refine⟨(List.range n).map fun j=>ρ.cs l 0 j,by simp,?_⟩
 unfold aV fx
 have e:((U.var 10).I ρ).toNat=n:=by show(ρ.i 10).toNat=n;omega
 rw[e,List.map_map]
 rfl
theorem aqy (f:Bool) {m:Nat} {ρ:aa} (hn:ρ.len 0=m) (hb:m<=4611686018427387904):∃(i:Nat) (am:aa),(i=0\/i=1)/\az 10 ρ am/\nK m am/\bW Tryz.prog am Tryz.f87.ntmps lC (v_ f i):=by
 have bD:=p8 aqx f false
 simp only[Bool.and_eq_true]at bD
 obtain⟨r0,r1,r2,r3,aps⟩:=bD
 let β:Bind:=⟨[(10,.lit 0)],[],[],[]⟩
 refine V7 (P:=Tryz.prog) (N:=Tryz.f87.ntmps) (body:=lC) (k0:=0) (n:=10) (S0:=X5 f) (ρ:=ρ) (by cases f<;>kernel_rfl) (lD f) (v_ f) (fun i=>⟨rfl,rfl,rfl⟩) (nK m) (fun F=>m-(F.i 10).toNat) (fun F hR => ?_) (al:=β.ap ρ) (Bind.bt (by kernel_rfl) ρ) ⟨hn,hb,Int.le_refl _,show(0:Int)<=m by omega⟩ (fun ac _ bI=>jF (k0:=0) (n:=10) (nm:=[]) bI (by cases f<;>kernel_rfl) ρ)
 have q1:=hR.n;have q2:=hR.b;have q3:=hR.i0;have q4:=hR.i1
 obtain⟨ss,M,G⟩:=aqS (ρ:=F) (F.i 10).toNat (l:=0) (by omega)
 obtain⟨b,LY,iN⟩:=adL ss (F.cs 0 0 (F.i 10).toNat) false (by omega)
 let bP:aa:={ F with b:=fun k=>if k=12 then b else F.b k }
 have xJ:nK m bP:=⟨q1,q2,q3,q4⟩
 have hd:(lD f).I bP=(lD f).I F:=by cases f<;>rfl
 have hdo:∀k,((pP f k).2).I bP=((pP f k).2).I F:=fun k=>by cases f<;>cases k<;>rfl
 have pf:bZ Tryz.prog bP (bd HK (fun _=>[])):=hl (List.forall_mem_cons.2 ⟨⟨LY,fun n h=>by
  have e1:X.af bP [.rl 1 (.var 10) (.var 0 [.s]) false,.sc (.s (.cl 0 0 (.var 10)))]=[.ro 1 (fx ss) false,.sc (.string (F.cs 0 0 (F.i 10).toNat))]:=by
   rw[<-G];rfl
  have e2:(xb 12).I bP = .sc (.bool b):=rfl
  rw[e1,e2]
  exact iN n h⟩,List.forall_mem_nil _⟩) (fun _ _ _=>a1.nil _ _ _ _)
 have aP:=eU (c:=⟨bd HK (fun _=>[]),[],[]⟩) pf (List.forall_mem_nil _) 12
 have Pi:∀k,jj Tryz.prog Tryz.f87.ntmps lC 0 (lD f) (.ret (pP f k)) bP->jj Tryz.prog Tryz.f87.ntmps lC 0 (lD f) (.ret (pP f k)) F:=fun k h ac hE bI=>by
  have:=h ac hE bI
  rw[hd]at this
  refine dE (fun e V hq => ?_) this
  obtain⟨e',s,g1,g2,g3,g4⟩:=hq
  have g2:some (pP f k)=some (e',s):=g2
  have g2:=Option.some.inj g2
  exact⟨(pP f k).1,(pP f k).2,by rw[g2];exact g1,rfl,by rw[g2];exact g3,by rw[<-hdo k,g2];exact g4⟩
 have D3:az 10 F bP:=⟨fun _ _=>rfl,fun k u=>by show F.b k=if k=12 then b else F.b k;rw[if_neg (by omega)],fun _ _=>rfl,fun _ _=>rfl,fun _ _=>rfl,fun _ _=>rfl,fun _ _=>rfl,fun _ _=>rfl⟩
 have go:F.i 10<F.len 0->(∃(j:Nat) (C:dm) (ax:aa),(X4 f)[j]? = some C/\ea Tryz.prog Tryz.f87.ntmps lC 0 (lD f) C.S bP ax/\ax.i 10=IntKind.i64.wrap (bP.i 10+1)/\az 10 bP ax)->∃ax,ea Tryz.prog Tryz.f87.ntmps lC 0 (lD f) (lD f) F ax/\nK m ax/\m-(ax.i 10).toNat<m-(F.i 10).toNat/\az 10 F ax:=fun aQ ⟨j,C,ax,A,E,h4,h5⟩=>by
  match j,A with
  | 0,A =>
   cases A
   have h4:ax.i 10=IntKind.i64.wrap (F.i 10+1):=h4
   have e4:ax.i 10=F.i 10+1:=by rw[h4];exact cc _ (by omega) (by omega)
   have Ux:=D3.trans h5
   have iG:ax.len 0=F.len 0:=(Ux.len 0 (by omega)).symm
   exact⟨ax,fun ac hE bI=>by rw[<-hd];exact E ac hE bI,⟨by omega,hb,by omega,by omega⟩,by omega,Ux⟩
 by_cases aQ:F.i 10<F.len 0
 ·have e1:w1.I bP=F.i 10+1:=(show w1.I bP=IntKind.i64.wrap (F.i 10+1)from rfl).trans (cc _ (by omega) (by omega))
  have u:J.ok bP p9:=J.av (decide_eq_true aQ) (J.av (decide_eq_false (by rw[e1];show ¬_<(0:Int);omega)) (J.av (decide_eq_false (by rw[e1];show ¬(F.len 0:Int)<_;omega)) (zy xJ)))
  have one:∀(k:Nat) (B:J),(k=0\/k=1)->J.ok bP B->y9 f k B=true->jj Tryz.prog Tryz.f87.ntmps lC 0 (lD f) (v_ f 0).out F\/jj Tryz.prog Tryz.f87.ntmps lC 0 (lD f) (v_ f 1).out F\/∃ax,ea Tryz.prog Tryz.f87.ntmps lC 0 (lD f) (lD f) F ax/\nK m ax/\m-(ax.i 10).toNat<m-(F.i 10).toNat/\az 10 F ax:=fun k B eN u hr=>by
   rcases gD mixed cR aP (a1.nil _ _ _ _) X6 u hr with h | ⟨j,C,ax,A,E,_,h4,h5,_⟩
   ·rcases eN with rfl | rfl
    ·exact .inl (Pi 0 h)
    ·exact .inr (.inl (Pi 1 h))
   ·exact .inr (.inr (go aQ ⟨j,C,ax,A,E,h4,h5⟩))
  rcases kV CF bP with A | A
  ·exact one 1 _ (.inr rfl) (J.av A u) r1
  ·rcases kV HI bP with E | E
   ·exact one 1 _ (.inr rfl) (J.av E (J.av A u)) r2
   ·rcases kV (.var 12) bP with h3 | h3
    ·exact one 1 _ (.inr rfl) (J.av h3 (J.av E (J.av A u))) r3
    ·exact one 0 _ (.inl rfl) (J.av h3 (J.av E (J.av A u))) aps
 ·have u:J.ok bP zw:=J.av (decide_eq_false aQ) (zy xJ)
  rcases gD mixed cR aP (a1.nil _ _ _ _) X6 u r0 with h | ⟨j,C,ax,A,E,h3,h4,h5,_⟩
  ·exact .inl (Pi 0 h)
  ·exfalso
   match j,A with
   | 0,A =>
    cases A
    have h4:ax.i 10=IntKind.i64.wrap (F.i 10+1):=h4
    have e4:ax.i 10=F.i 10+1:=by rw[h4];exact cc _ (by omega) (by omega)
    have iG:ax.len 0=F.len 0:=(h5.len 0 (by omega)).symm
    have:=h3 _ (List.mem_cons_of_mem _ List.mem_cons_self)
    have:¬(ax.len 0:Int)<ax.i 10:=of_decide_eq_false this
    omega
noncomputable def Ps (f:Bool) (k:Nat) (g:Nat):List bf:=if Nat.beq g 87=true then [v_ f k]else []
noncomputable def Pr (f:Bool) (k:Nat):cj:=⟨bd [] (Ps f k),[],[]⟩
def HJ:J:=(.lt (.lit 6) (.len 0),true)::wE
def Vy:T X->Bool
 | .ret (.sc (.b e))=>sT (fu HJ (.not e))
 | _=>false
theorem aqA:nG (fun f k=>Vy (aN (Pr f (if k=true then 1 else 0)) 87 [ix f] HJ))=true:=by kernel_rfl
theorem aqz (f:Bool) (k:Nat) {ρ:aa} (h:bW Tryz.prog ρ Tryz.f87.ntmps lC (v_ f k)) (u:k=0\/k=1):∀g i,eB g gb=some i->a1 Tryz.prog ρ i.ntmps (Ps f k g) i.body:=fun g i hi=>by
 unfold Ps
 split
 ·rename_i hf
  have hf:=Nat.eq_of_beq_eq_true hf
  subst hf
  have e:eB 87 gb=some (fi Tryz.f87 []):=by kernel_rfl
  rw[e]at hi
  cases hi
  exact kv [0] (by cases f<;>rcases u with rfl | rfl<;>kernel_rfl) (List.forall_mem_cons.2 ⟨ku (L:=v_ f k) (c:=lC) (by cases f<;>rcases u with rfl | rfl<;>kernel_rfl) h,List.forall_mem_nil _⟩)
 ·exact a1.nil _ _ _ _
theorem aqB (ss:List ByteArray) (f:Bool) (h6:6<ss.length) (M:ss.length<=4611686018427387904):b_ Tryz.prog 87=true/\∀n h,CY Tryz.prog n 87 [.ro 1 (fx ss) f] h (.sc (.bool false)) []:=by
 let ρ:aa:=⟨fun _=>0,fun _=>false,fun _=>⟨#[]⟩,fun _=>ss.length,fun _ _ _=>0,fun _ _ _=>false,fun _ _ j=>(ss[j]?).getD ⟨#[]⟩,kz⟩
 obtain⟨i,am,hi,A,E,h3⟩:=aqy f (ρ:=ρ) (m:=ss.length) rfl M
 have u:J.ok am HJ:=by
  have q1:=E.n;have q2:=E.b;have q3:=E.i0;have q4:=E.i1
  exact J.av (decide_eq_true (by show(6:Int)<am.len 0;omega)) (J.av (decide_eq_false (by show ¬(4611686018427387904:Int)<am.len 0;omega)) (J.av (decide_eq_false (by show ¬(am.len 0:Int)<am.i 10;omega)) (J.av (decide_eq_false (by show ¬am.i 10<0;omega)) (J.bq am))))
 have e:X.af am [ix f]=[.ro 1 (fx ss) f]:=by
  have r:aV am (.len 0) (.var 0 [.s])=fx ss:=Yp E.n fun j O=>by
   rw[<-A.cs 0 (by omega)]
   show(ss[j]?).getD ⟨#[]⟩=_
   rw[List.getElem?_eq_getElem O];rfl
  show [AV.ro 1 (aV am (.len 0) (.var 0 [.s])) f]=_
  rw[r]
 have go:∀k:Bool,i=(if k=true then 1 else 0)->b_ Tryz.prog 87=true/\∀n h,CY Tryz.prog n 87 [.ro 1 (fx ss) f] h (.sc (.bool false)) []:=fun k aM=>by
  have hw:=p8 aqA f k
  have H:bZ Tryz.prog am (Pr f (if k=true then 1 else 0)).c:=hl (List.forall_mem_nil _) (by rw[<-aM];exact aqz f i h3 hi)
  unfold Vy at hw
  split at hw
  ·rename_i b hx
   have hb:(!(b.I am))=true:=w5 u hw
   have hb:b.I am=false:=by simpa using hb
   have q:=ef H (List.forall_mem_nil _) u (show(aN (Pr f (if k=true then 1 else 0)) 87 [ix f] HJ).aq am=some _ by rw[hx];rfl)
   rw[e]at q
   simp only[X.I,Sc.I,hb]at q
   exact q
  ·cases hw
 rcases hi with h | h
 ·exact go false h
 ·exact go true h
end Go.Proofs.YtpdfmnhgocpkcaaGreat
