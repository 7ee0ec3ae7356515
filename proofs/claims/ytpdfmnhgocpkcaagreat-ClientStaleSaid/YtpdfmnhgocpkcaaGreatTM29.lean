/- Parts of the proof, one behind the other. -/
import Derived.Test.YtpdfmnhgocpkcaaGreatTM26
import Derived.Test.YtpdfmnhgocpkcaaGreatTM27
import Derived.Test.YtpdfmnhgocpkcaaGreatTM28
import Derived.Test.YtpdfmnhgocpkcaaGreatTM15
import Derived.Test.YtpdfmnhgocpkcaaGreatTM3
import Derived.Test.YtpdfmnhgocpkcaaGreatTM7
namespace Go.Proofs.YtpdfmnhgocpkcaaGreat
open Go Go.Proofs.Aw Go.Proofs.Xw
set_option maxRecDepth 100000
structure Inv (am:aa) (i:Nat) (ρ:aa):Prop where
 ah:az 400 am ρ
 lt:i<10
 AH:∀C,hl[i]? = some C->J.ok ρ C.b6
 ty:d' 460 fc ρ
 tx:6<=i->TI ρ
def Nx (am:aa) (i:Nat) (ρ:aa):Prop:=jO Tryz.prog Tryz.f7.ntmps lS qQ (Ss i) (.ret (.exit 0,rj (Ss i))) ρ\/∃(i':Nat) (F:aa),ep Tryz.prog Tryz.f7.ntmps lS qQ (Ss i) (Ss i') ρ F/\Inv am i' F/\F.i 400=IntKind.i64.wrap (ρ.i 400+1)/\az 400 ρ F
theorem adP:(hl.all fun C=>C.S.ar 600&&(rj C.S).ar 600)=true:=by kernel_rfl
theorem SL:hl.length=10:=by kernel_rfl
theorem al6:(hl[6]?).map (·.di)=some [wT 0,wT 1,iA 6 jz,iA 7 jz,qd 7 jz false,qd 7 jz true]:=rfl
theorem al7:(hl[7]?).map (·.di)=some [iA 6 jz,iA 7 jz]:=rfl
theorem al8:(hl[8]?).map (·.di)=some [iA 8 mm,iA 9 mm,qd 9 mm false,qd 9 mm true,wU false,wU true]:=rfl
theorem al9:(hl[9]?).map (·.di)=some [iA 8 mm,iA 9 mm]:=rfl
theorem arV {i j:Nat} {bM:dm} {ρ F:aa} (O:hl[j]? = some bM) (h6:6<=j) (ha:bM.di=[]\/∃a∈bM.di,a.fr=i/\gH a ρ F) (hT:6<=i->TI ρ) (hB:i<=1->1<=ρ.len 621->ue ρ) (sz:i=7->1<=ρ.len 610->wR ρ):TI F:=by
 have M:j<10:=by
  have:=(List.getElem?_eq_some_iff.1 O).1
  rw[SL]at this;exact this
 have first:∀fr,fr<=1->fr=i->gH (wT fr) ρ F->TI F:=fun fr A E a=>by
  have h3:¬(ρ.len 621:Int)<1:=of_decide_eq_false (a.1 _ List.mem_cons_self)
  have n:=hB (by omega) (by omega)
  exact TI.first n.l6 n.ky n.td n.dM a
 have ID:∀ag,7=i->gH (wU ag) ρ F->TI F:=fun ag E a=>by
  have h3:¬(ρ.len 610:Int)<1:=of_decide_eq_false (a.1 _ List.mem_cons_self)
  have n:=sz (by omega) (by omega)
  exact(hT (by omega)).ID n.l6 n.td a
 rcases(show j=6\/j=7\/j=8\/j=9 by omega)with rfl | rfl | rfl | rfl
 ·have e:=al6
  rw[O]at e
  have e:bM.di=_:=Option.some.inj e
  rw[e]at ha
  simp only[List.cons_ne_nil,false_or,List.mem_cons,List.not_mem_nil,or_false]at ha
  obtain⟨a,h,hf,W⟩:=ha
  rcases h with rfl | rfl | rfl | rfl | rfl | rfl
  ·exact first 0 (by omega) hf W
  ·exact first 1 (by omega) hf W
  ·exact TI.sV qS (hT (by have:6=i:=hf;omega)) W
  ·exact TI.sV qS (hT (by have:7=i:=hf;omega)) W
  ·exact TI.more qS (hT (by have:7=i:=hf;omega)) W
  ·exact TI.more qS (hT (by have:7=i:=hf;omega)) W
 ·have e:=al7
  rw[O]at e
  have e:bM.di=_:=Option.some.inj e
  rw[e]at ha
  simp only[List.cons_ne_nil,false_or,List.mem_cons,List.not_mem_nil,or_false]at ha
  obtain⟨a,h,hf,W⟩:=ha
  rcases h with rfl | rfl
  ·exact TI.sV qS (hT (by have:6=i:=hf;omega)) W
  ·exact TI.sV qS (hT (by have:7=i:=hf;omega)) W
 ·have e:=al8
  rw[O]at e
  have e:bM.di=_:=Option.some.inj e
  rw[e]at ha
  simp only[List.cons_ne_nil,false_or,List.mem_cons,List.not_mem_nil,or_false]at ha
  obtain⟨a,h,hf,W⟩:=ha
  rcases h with rfl | rfl | rfl | rfl | rfl | rfl
  ·exact TI.sV yo (hT (by have:8=i:=hf;omega)) W
  ·exact TI.sV yo (hT (by have:9=i:=hf;omega)) W
  ·exact TI.more yo (hT (by have:9=i:=hf;omega)) W
  ·exact TI.more yo (hT (by have:9=i:=hf;omega)) W
  ·exact ID false hf W
  ·exact ID true hf W
 ·have e:=al9
  rw[O]at e
  have e:bM.di=_:=Option.some.inj e
  rw[e]at ha
  simp only[List.cons_ne_nil,false_or,List.mem_cons,List.not_mem_nil,or_false]at ha
  obtain⟨a,h,hf,W⟩:=ha
  rcases h with rfl | rfl
  ·exact TI.sV yo (hT (by have:8=i:=hf;omega)) W
  ·exact TI.sV yo (hT (by have:9=i:=hf;omega)) W
theorem GZ {am ρ F:aa} {i:Nat} (ah:az 600 ρ F) (hI:Inv am i ρ) (hT:6<=i->TI F) (hB:i<=1->1<=F.len 621->ue F) (sz:i=7->1<=F.len 610->wR F) (aI:cO F i):Nx am i ρ:=by
 obtain⟨C,hC,aI⟩:=aI
 have hb:=List.all_eq_true.1 adP C (List.mem_of_getElem? hC)
 rw[Bool.and_eq_true]at hb
 have e1:C.S.I ρ=C.S.I F:=XS.aT ah _ hb.1
 have e2:(rj C.S).I ρ=(rj C.S).I F:=XS.aT ah _ hb.2
 unfold Nx
 rw[RJ hC]
 rcases aI with aI | ⟨j,bM,aw,A,E,h3,h4,h5,h6,h7⟩
 ·left
  intro ac hE bI
  have:=aI ac hE bI
  rw[<-e1]at this
  refine dD (fun e V hq => ?_) this
  obtain⟨e',s,q1,q2,q3,q4⟩:=hq
  cases q2
  exact⟨.exit 0,rj C.S,q1,rfl,q3,by rw[e2];exact q4⟩
 ·right
  refine⟨j,aw,fun ac hE bI => ?_,⟨hI.ah.trans ((ah.le (by decide)).trans h5),?_,fun C' Ux => ?_,h6 ?_,fun O=>arV A O h7 hT hB sz⟩,by rw[h4,ah.i 400 (by decide)],(ah.le (by decide)).trans h5⟩
  ·rw[e1,RJ A];exact E ac hE bI
  ·have:=(List.getElem?_eq_some_iff.1 A).1
   rw[SL]at this;exact this
  ·rw[A]at Ux;cases Ux;exact h3
  ·intro j' k t hG aO
   have:=hI.ty j' k t (by rw[ah.len 460 (by decide)];exact hG) aO
   rw[ah.ct 460 (by decide)]at this
   exact this
end Go.Proofs.YtpdfmnhgocpkcaaGreat
namespace Go.Proofs.YtpdfmnhgocpkcaaGreat
open Go Go.Proofs.Aw Go.Proofs.Xw
set_option maxRecDepth 100000
theorem aqd {am ρ:aa} (hK:Key am) (ah:az 400 am ρ):J.ok ρ X':=by
 obtain⟨A,E⟩:=hK (ρ.i 400).toNat
 have e:(cA 1002).I ρ=am.ci 2 1002 (ρ.i 400).toNat:=by
  show ρ.ci 2 1002 (ρ.i 400).toNat=_
  rw[<-ah.ci 2 (by decide)]
 exact fF (by rw[e];exact A) (fF (by rw[e];exact E) (nil_ok' ρ))
where nil_ok' (ρ:aa):J.ok ρ []:=J.bt ρ
theorem UP {am ρ:aa} {i:Nat} (hK:Key am) (hI:Inv am i ρ):J.ok ρ (Fs i):=by
 unfold Fs
 refine eg ?_ (eg (aqd hK hI.ah) ?_)
 ·split
  ·rename_i C hC;exact hI.AH C hC
  ·exact J.bt ρ
 ·split
  ·rename_i h
   have h:=hI.tx (Nat.le_of_ble_eq_true h)
   exact eg h.tr h.VK
  ·exact J.bt ρ
theorem XF:(hl[0]?).map (·.b6)=some Fq:=rfl
theorem Fu {am ρ:aa} {i:Nat} (hI:Inv am i ρ):Hd ρ/\(1<=i->(ρ.len 460:Int)<=ρ.i 400):=by
 have go:∀(k:Nat) (b6:J),i=k->(hl[k]?).map (·.b6)=some (n7++b6)->Hd ρ/\(1<=i->(ρ.len 460:Int)<=ρ.i 400):=fun k b6 u h=>by
  subst u
  obtain⟨C,hC,e⟩:=Option.map_eq_some_iff.1 h
  have:=hI.AH C hC
  rw[e]at this
  have:=afU (RZ this)
  exact⟨this.1,fun _=>this.2⟩
 have M:=hI.lt
 rcases(show i=0\/i=1\/i=2\/i=3\/i=4\/i=5\/i=6\/i=7\/i=8\/i=9 by omega)with h | h | h | h | h | h | h | h | h | h
 ·subst h
  obtain⟨C,hC,e⟩:=Option.map_eq_some_iff.1 XF
  have:=hI.AH C hC
  rw[e]at this
  exact⟨afT this,fun h=>by omega⟩
 ·exact go 1 [] h rfl
 ·exact go 2 F5 h rfl
 ·exact go 3 F5 h rfl
 ·exact go 4 GI h rfl
 ·exact go 5 GI h rfl
 ·exact go 6 tQ h rfl
 ·exact go 7 tQ h rfl
 ·exact go 8 tQ h rfl
 ·exact go 9 tQ h rfl
theorem NP {am ρ:aa} {i:Nat} (hI:Inv am i ρ):J.ok ρ dh:=by
 have go:∀(k:Nat) (b6:J),i=k->(hl[k]?).map (·.b6)=some (dh++b6)->J.ok ρ dh:=fun k b6 u h=>by
  subst u
  obtain⟨C,hC,e⟩:=Option.map_eq_some_iff.1 h
  have:=hI.AH C hC
  rw[e]at this
  exact RZ this
 have M:=hI.lt
 rcases(show i=0\/i=1\/i=2\/i=3\/i=4\/i=5\/i=6\/i=7\/i=8\/i=9 by omega)with h | h | h | h | h | h | h | h | h | h
 ·exact go 0 _ h rfl
 ·exact go 1 _ h rfl
 ·exact go 2 _ h rfl
 ·exact go 3 _ h rfl
 ·exact go 4 _ h rfl
 ·exact go 5 _ h rfl
 ·exact go 6 _ h rfl
 ·exact go 7 _ h rfl
 ·exact go 8 _ h rfl
 ·exact go 9 _ h rfl
theorem adf {am ρ:aa} {i:Nat} (hK:Key am) (hI:Inv am i ρ) (aQ:ρ.i 400<ρ.len 2):J.ok ρ (a5 i):=by
 obtain⟨A,E⟩:=Fu hI
 have e:=agC A
 have q1:=A.nI;have q2:=A.bm;have q3:=A.bl
 refine J.av (decide_eq_true aQ) (eg ?_ (UP hK hI))
 split
 ·exact fF (by rw[e];show(0:Int)<=_;omega) (fF (by rw[e];show _<=(ρ.len 2:Int);omega) (fF (by rw[e];show(1:Int)<=_;omega) (J.bt ρ)))
 ·rename_i H
  have q4:=E (by
   rcases Nat.eq_zero_or_pos i with h | h
   ·subst h;exact absurd rfl H
   ·exact h)
  have em:(mkAdd (.len 460) (.lit 1)).I ρ=(ρ.len 460:Int)+1:=by rw[fe];rfl
  exact fF (by rw[e];show(0:Int)<=_;omega) (fF (by rw[e];show _<=(ρ.len 2:Int);omega) (fF (by rw[e];show(ρ.len 460:Int)<=_;omega) (fF (by rw[e,em];omega) (fF (by rw[e];show(1:Int)<=_;omega) (fF (by show(ρ.len 460:Int)<=300;omega) (J.bt ρ))))))
theorem aeN {am ρ:aa} {i:Nat} (hK:Key am) (hI:Inv am i ρ) (aQ:¬ρ.i 400<ρ.len 2):J.ok ρ (ga i):=J.av (decide_eq_false aQ) (UP hK hI)
theorem ade:((List.range 10).all fun i=>(a5 i).all fun p=>p.1.ar 600)=true:=by kernel_rfl
theorem aeM:((List.range 10).all fun i=>(ga i).all fun p=>p.1.ar 600)=true:=by kernel_rfl
theorem adb {ρ F:aa} (ah:az 600 ρ F) {i:Nat} (hi:i<10) (h:J.ok ρ (a5 i)):J.ok F (a5 i) :=
 gP ah (List.all_eq_true.1 ade i (List.mem_range.2 hi)) h
theorem ahh {am ρ:aa} (hK:Key am) (ah:az 400 am ρ):0<=bh.I ρ/\bh.I ρ<=250:=by
 obtain⟨A,E⟩:=hK (ρ.i 400).toNat
 have e:bh.I ρ=am.ci 2 1002 (ρ.i 400).toNat:=by
  show ρ.ci 2 1002 (ρ.i 400).toNat=_
  rw[<-ah.ci 2 (by decide)]
 omega
theorem R3 (C:rQ) {am ρ:aa} {i:Nat} (hK:Key am) (hI:Inv am i ρ):∃F,az 600 ρ F/\F.len 610=0/\((J.ok F wF/\ue F/\∀k∈ei false++ei true,c' Tryz.prog F k)\/(F.len 621=0/\∀k∈dS false++dS true,c' Tryz.prog F k)):=by
 obtain⟨A,E⟩:=ahh hK hI.ah
 exact C.ajc ρ (NP hI) A E
theorem Qf (C:rQ) {am ρ:aa} {i:Nat} (hK:Key am) (hI:Inv am i ρ) (aQ:ρ.i 400<ρ.len 2)
  (hr:∀F,az 600 ρ F->F.len 610=0->J.ok F (a5 i)->(cO F i->Nx am i ρ)->(dW->∀(d8:DT),lv d8=true->DT.ok a' (bS (ei false++ei true) i) d8 (wF++((ai (cA 1) 4,true)::(ai (cA 0) 1,true)::a5 i))=true->DT.ok a' (bS (dS false++dS true) i) (.br (bT (cA 1002) 1) d8 d8) ((ai (cA 1) 4,true)::(ai (cA 0) 1,true)::a5 i)=true->J.ok F ((ai (cA 1) 4,true)::(ai (cA 0) 1,true)::a5 i)->Nx am i ρ)->Nx am i ρ):Nx am i ρ:=by
 obtain⟨F,ah,hz,h⟩:=R3 C hK hI
 have u:=adb ah hI.lt (adf hK hI aQ)
 have hB:i<=1->1<=F.len 621->ue F:=fun _ A=>by
  rcases h with⟨_,h,_⟩ | ⟨h,_⟩
  ·exact h
  ·omega
 have to:cO F i->Nx am i ρ:=GZ ah hI (fun h6=>(hI.tx h6).bq ah) hB (fun _ h=>by omega)
 refine hr F ah hz u to fun ad d8 hd hw ho hf=>to ?_
 rcases h with⟨A,_,h3⟩ | ⟨_,h3⟩
 ·exact part ad _ h3 hd hw (eg A hf)
 ·exact part ad _ h3 (by simp only[lv,hd,Bool.and_self]) ho hf
theorem tK (ad:dW) (C:rQ) {am ρ:aa} {i:Nat} (hK:Key am) (hI:Inv am i ρ) (aQ:ρ.i 400<ρ.len 2) (d8:DT) (hd:lv d8=true) (hw:DT.ok a' (bS (ei false++ei true) i) d8 (wF++((ai (cA 1) 4,true)::(ai (cA 0) 1,true)::a5 i))=true) (ho:DT.ok a' (bS (dS false++dS true) i) (.br (bT (cA 1002) 1) d8 d8) ((ai (cA 1) 4,true)::(ai (cA 0) 1,true)::a5 i)=true)
  (hr:∀F,az 600 ρ F->J.ok F (a5 i)->(cO F i->Nx am i ρ)->(J.ok F ((ai (cA 1) 4,true)::(ai (cA 0) 1,true)::a5 i)->Nx am i ρ)->Nx am i ρ):Nx am i ρ :=
 Qf C hK hI aQ fun F ah _ u to ht=>hr F ah u to (ht ad d8 hd hw ho)
def U0 (i:Nat):J:=(.eq (.var 443) (.lit 1),true)::(ai (cM 73) 0,true)::(ai (cM 73) 60,false)::(ai (cM 73) 92,false)::(ai (cM 0) 6,true)::(ai (cM 0) 4,false)::(.eq (cM 13) (.var 403),true)::(.eq (cM 12) (.var 402),true)::(ai (cA 0) 2,true)::(ai (cA 0) 1,false)::a5 i
def U1 (i:Nat):J:=(.eq (.var 443) (.lit 1),true)::(ai (cM 73) 0,true)::(ai (cM 73) 60,false)::(ai (cM 73) 92,false)::(ai (cM 0) 6,true)::(ai (cM 0) 4,false)::(ai (cA 0) 5,true)::(ai (cA 0) 4,false)::(ai (cA 0) 3,false)::(ai (cA 0) 2,false)::(ai (cA 0) 1,false)::a5 i
theorem U2:((U0 9++(U1 9++(U0 7++U1 7))).all fun p=>p.1.ar 600)=true:=by kernel_rfl
theorem VR (ad:dW) (C:rQ) {am ρ bQ:aa} (hI:Inv am 9 ρ) (ah:az 600 ρ bQ) {aU:J} (hb:(aU.all fun p=>p.1.ar 600)=true) (u:J.ok bQ aU) (dp:bQ.i 443=1)
  (GT:DT.ok a' (bS (sy false) 9) .leaf ((bV 47,false)::aU)=true) (aqA:DT.ok a' (bS (sy true) 9) .leaf ((.eq (.uf 2 0 dq) (.lit 1),true)::(bV 47,true)::aU)=true) (rx:DT.ok a' (bS [] 9) .leaf ((.eq (.uf 2 0 dq) (.lit 1),false)::(bV 47,true)::aU)=true):Nx am 9 ρ:=by
 have hT:=(hI.tx (by decide)).bq ah
 have to:∀{aw},az 600 ρ aw->cO aw 9->Nx am 9 ρ:=fun rT=>GZ rT hI (fun _=>(hI.tx (by decide)).bq rT) (fun h=>by omega) (fun h=>by omega)
 refine Sb u (fun hf=>to ah (part ad [] (List.forall_mem_nil _) rfl rx hf)) fun ag A E => ?_
 obtain⟨aw,bl,j5⟩:=C.l2 bQ ag (gP ah (by kernel_rfl) (NP hI)) hT dp A E
 have dO:=gP bl hb u
 have e1:(bV 47).I aw=ag:=by rw[<-BE.aT bl (bV 47) (by kernel_rfl)];exact A
 have e2:ag=true->(BE.eq (.uf 2 0 dq) (.lit 1)).I aw=true:=fun h=>by rw[<-BE.aT bl _ (by kernel_rfl)];exact E h
 have hf:=UI e1 e2 dO
 refine to (ah.trans bl) ?_
 cases ag with
 | true=>exact part ad _ j5 rfl aqA hf
 | false=>exact part ad _ j5 rfl GT hf
theorem VQ (ad:dW) (C:rQ) {am ρ bQ:aa} (hI:Inv am 7 ρ) (ah:az 600 ρ bQ) (hz:bQ.len 610=0) {aU:J} (hb:(aU.all fun p=>p.1.ar 600)=true) (u:J.ok bQ aU) (dp:bQ.i 443=1)
  (aiV:DT.ok a' (bS (sx false++[iH false false,ib false false]) 7) .leaf ((bV 47,false)::aU)=true) (ajb:DT.ok a' (bS (sx true++[iH true false,ib true false]) 7) .leaf ((.eq (.uf 2 0 dq) (.lit 1),true)::(bV 47,true)::aU)=true)
  (rt:DT.ok a' (bS [iH false true,ib false true] 7) .leaf (uk++((bV 47,false)::aU))=true) (at_:DT.ok a' (bS [iH true true,ib true true] 7) .leaf (uk++((.eq (.uf 2 0 dq) (.lit 1),true)::(bV 47,true)::aU))=true)
  (rx:DT.ok a' (bS [] 7) .leaf ((.eq (.uf 2 0 dq) (.lit 1),false)::(bV 47,true)::aU)=true):Nx am 7 ρ:=by
 have hT:=(hI.tx (by decide)).bq ah
 have to:∀{aw},az 600 ρ aw->(1<=aw.len 610->wR aw)->cO aw 7->Nx am 7 ρ:=fun rT sz=>GZ rT hI (fun _=>(hI.tx (by decide)).bq rT) (fun h=>by omega) (fun _=>sz)
 refine Sb u (fun hf=>to ah (fun h=>by omega) (part ad [] (List.forall_mem_nil _) rfl rx hf)) fun ag A E => ?_
 obtain⟨aw,bl,j5⟩:=C.l1 bQ ag (gP ah (by kernel_rfl) (NP hI)) hT dp A E
 have dO:=gP bl hb u
 have e1:(bV 47).I aw=ag:=by rw[<-BE.aT bl (bV 47) (by kernel_rfl)];exact A
 have e2:ag=true->(BE.eq (.uf 2 0 dq) (.lit 1)).I aw=true:=fun h=>by rw[<-BE.aT bl _ (by kernel_rfl)];exact E h
 have hf:=UI e1 e2 dO
 rcases j5 with⟨Vl,j5⟩ | ⟨h3,sz,j5⟩
 ·refine to (ah.trans bl) (fun h=>by omega) ?_
  cases ag with
  | true=>exact part ad _ j5 rfl ajb hf
  | false=>exact part ad _ j5 rfl aiV hf
 ·refine to (ah.trans bl) (fun _=>sz) ?_
  have ha:=acu h3 (hT.bq bl) sz
  cases ag with
  | true=>exact part ad _ j5 rfl at_ (eg ha hf)
  | false=>exact part ad _ j5 rfl rt (eg ha hf)
theorem step (ad:dW) (C:rQ) {am ρ:aa} {i:Nat} (hK:Key am) (hI:Inv am i ρ):Nx am i ρ:=by
 by_cases aQ:ρ.i 400<ρ.len 2
 ·have M:=hI.lt
  rcases(show i=0\/i=1\/i=2\/i=3\/i=4\/i=5\/i=6\/i=7\/i=8\/i=9 by omega)with h | h | h | h | h | h | h | h | h | h<;>subst h
  ·exact tK ad C hK hI aQ r8 rfl tw0 tn0 fun F _ u to ht=>rd0 ad u to ht
  ·exact tK ad C hK hI aQ r8 rfl tw1 tn1 fun F _ u to ht=>rd1 ad u to ht
  ·exact tK ad C hK hI aQ .leaf rfl tw2 tn2 fun F _ u to ht=>rd2 ad u to ht
  ·exact tK ad C hK hI aQ .leaf rfl tw3 tn3 fun F _ u to ht=>rd3 ad u to ht
  ·exact tK ad C hK hI aQ .leaf rfl tw4 tn4 fun F _ u to ht=>rd4 ad u to ht
  ·exact tK ad C hK hI aQ .leaf rfl tw5 tn5 fun F _ u to ht=>rd5 ad u to ht
  ·exact tK ad C hK hI aQ .leaf rfl tw6 tn6 fun F _ u to ht=>rd6 ad u to ht
  ·refine Qf C hK hI aQ fun F ah hz u to ht => ?_
   have hT:=(hI.tx (by decide)).bq ah
   obtain⟨b1,b2⟩:=Bp U2
   obtain⟨b2,dr⟩:=Bp b2
   obtain⟨dr,fg⟩:=Bp dr
   exact rd7 ad u to (ht ad .leaf rfl tw7 tn7) (fun hf=>VQ ad C hI ah hz dr hf (Hc (hf _ List.mem_cons_self)) ahl ahn ahk ahm aho) (U5 hT) (U6 hT) (fun hf=>VQ ad C hI ah hz fg hf (Hc (hf _ List.mem_cons_self)) ahq ahs ahp ahr aht)
  ·exact tK ad C hK hI aQ .leaf rfl tw8 tn8 fun F _ u to ht=>rd8 ad u to ht
  ·refine Qf C hK hI aQ fun F ah hz u to ht => ?_
   have hT:=(hI.tx (by decide)).bq ah
   obtain⟨b1,b2⟩:=Bp U2
   obtain⟨b2,dr⟩:=Bp b2
   exact rd9 ad u to (ht ad .leaf rfl tw9 tn9) (fun hf=>VR ad C hI ah b1 hf (Hc (hf _ List.mem_cons_self)) ahu ahv ahw) (U5 hT) (U6 hT) (fun hf=>VR ad C hI ah b2 hf (Hc (hf _ List.mem_cons_self)) ahx ahy ahz)
 ·have u:=aeN hK hI aQ
  have M:=hI.lt
  obtain⟨F,ah,hz,h⟩:=R3 C hK hI
  have hB:i<=1->1<=F.len 621->ue F:=fun _ A=>by
   rcases h with⟨_,h,_⟩ | ⟨h,_⟩
   ·exact h
   ·omega
  have to:cO F i->Nx am i ρ:=GZ ah hI (fun h6=>(hI.tx h6).bq ah) hB (fun _ h=>by omega)
  have u:=gP ah (List.all_eq_true.1 aeM i (List.mem_range.2 M)) u
  refine to ?_
  rcases(show i=0\/i=1\/i=2\/i=3\/i=4\/i=5\/i=6\/i=7\/i=8\/i=9 by omega)with h | h | h | h | h | h | h | h | h | h<;>subst h
  ·exact ex0 ad u
  ·exact ex1 ad u
  ·exact ex2 ad u
  ·exact ex3 ad u
  ·exact ex4 ad u
  ·exact ex5 ad u
  ·exact ex6 ad u
  ·exact ex7 ad u
  ·exact ex8 ad u
  ·exact ex9 ad u
end Go.Proofs.YtpdfmnhgocpkcaaGreat
namespace Go.Proofs.YtpdfmnhgocpkcaaGreat
open Go Go.Proofs.Aw Go.Proofs.Xw
set_option maxRecDepth 100000
def qM:Bind:=⟨((List.range 14).map fun k=>(400+k,.lit 0))++((List.range 13).map fun k=>(418+k,.lit 0)),[(428,.lit false)],[],[(460,.lit 0,.one [])]⟩
theorem aqP:ff qQ 400 qM [] (Ss 0) (zg.zB [] (Ss 0).h)=true:=by kernel_rfl
theorem aqO:zg.ar 400=true:=by kernel_rfl
theorem Vo:qM.ge 400=true:=by kernel_rfl
noncomputable def ahA (i:Nat):bj:=⟨(dt lS).getD 0,qQ,400,zg,gz,[],.ret (.exit 0,rj (Ss i))⟩
theorem agQ {ρ:aa} (h:J.ok ρ dh):Inv ρ 0 (qM.ap ρ):=by
 have ah:az 400 ρ (qM.ap ρ):=Bind.bq Vo ρ
 have M:=gP ah (by kernel_rfl) h
 have d1:1<=ρ.i 0:=o9 h 0 rfl
 refine⟨ah,by decide,fun C hC => ?_,fun j k t O _ => ?_,fun h=>by omega⟩
 ·have e:=XF
  rw[hC]at e
  have e:C.b6=Fq:=Option.some.inj e
  rw[e]
  have q1:(qM.ap ρ).i 0=ρ.i 0:=(ah.i 0 (by decide)).symm
  refine eg M (fF ?_ (fF ?_ (fF ?_ (xz ?_ (fF ?_ (fF ?_ (fF ?_ (fF ?_ (J.bt _)))))))))
  ·show(0:Int)<=0;omega
  ·show(0:Int)<=((qM.ap ρ).len 2:Int);omega
  ·show(0:Int)<=0;omega
  ·show(0:Int)<(qM.ap ρ).i 0;omega
  ·show(0:Int)<=2;omega
  ·show(0:Int)<=0;omega
  ·show(0:Int)<=0;omega
  ·show(0:Int)<=1099511627776;omega
 ·have:(qM.ap ρ).len 460=0:=rfl
  omega
theorem loop (ad:dW) (C:rQ) {ρ:aa} (hK:Key ρ) (M:J.ok ρ dh):∃i ao,az 400 ρ ao/\Inv ρ i ao/\bY Tryz.prog ao Tryz.f7.ntmps lS (yp i):=by
 have key:=NI (P:=Tryz.prog) (N:=Tryz.f7.ntmps) (body:=lS) (k0:=qQ) (n:=400) (S0:=zg) (ρ:=ρ) aqO Ss ahA (fun _=>⟨rfl,rfl,rfl⟩) (fun i F=>Inv ρ i F) (fun F=>ρ.len 2-(F.i 400).toNat) (fun i F hI=>by
  rcases step ad C hK hI with h | ⟨i',aw,A,E,h3,h4⟩
  ·exact .inl h
  ·right
   obtain⟨g1,_⟩:=Fu hI
   obtain⟨g2,_⟩:=Fu E
   have q1:=g1.nI;have q2:=g1.bm;have q3:=g1.bl
   have w:aw.i 400=F.i 400+1:=by rw[h3];exact ca _ (by omega) (by omega)
   have q4:=g2.bm
   have e:aw.len 2=ρ.len 2:=(E.ah.len 2 (by decide)).symm
   exact⟨i',aw,A,E,by omega,h4⟩)
 obtain⟨i,ao,A,E,h3⟩:=key ⟨0,qM.ap ρ,Bind.bq Vo ρ,agQ M,fun ac _ bI=>vp (wJ (XS.QZ ρ [] (Ss 0).h zg)) (jE bI aqP ρ)⟩
 exact⟨i,ao,A,E,fun ac hE bI=>h3 ac hE fun m hm=>Nat.lt_of_lt_of_le (bI m hm) (Nat.zero_le _)⟩
end Go.Proofs.YtpdfmnhgocpkcaaGreat
namespace Go.Proofs.YtpdfmnhgocpkcaaGreat
open Go Go.Proofs.Aw Go.Proofs.Xw
set_option maxRecDepth 100000
open Classical in
theorem V3 {P:Program} {N:Nat} {body:Code} {k0 n:Nat} {S0:XS} (hS:S0.ar n=true) (S:XS) (L:Nat->bj) (hL:∀i,(L i).k0=k0/\(L i).S=S0/\(L i).init=gz) (aI:aa->Prop) (dJ:aa->Nat)
  (hR:∀ρ,aI ρ->jO P N body k0 S (L 0).out ρ\/jO P N body k0 S (L 1).out ρ\/∃F,ep P N body k0 S S ρ F/\aI F/\dJ F<dJ ρ/\az n ρ F)
  {ρ am:aa} (h0:az n ρ am) (hr:aI am) (hi:∀ac:Aw.Env,ac.N=N->(∀m,ac.c0.kn m->m.1<k0)->dI ac (S0.I ρ) (S.I am)):∃(i:Nat) (ao:aa),(i=0\/i=1)/\az n ρ ao/\aI ao/\bY P ao N body (L i):=by
 let pick:aa->Nat:=fun ρ=>if jO P N body k0 S (L 1).out ρ then 1 else 0
 have alt:∀ρ,pick ρ=0\/pick ρ=1:=fun ρ=>by simp only[pick];split<;>simp
 obtain⟨i,ao,A,⟨E,h3⟩,h4⟩:=NI (P:=P) (N:=N) (body:=body) (k0:=k0) (n:=n) (S0:=S0) (ρ:=ρ) hS (fun _=>S) L hL (fun i ρ=>aI ρ/\i=pick ρ) dJ (fun i ρ ⟨A,E⟩=>by
  subst E
  by_cases G:jO P N body k0 S (L 1).out ρ
  ·left
   simp only[pick,if_pos G]
   exact G
  ·rcases hR ρ A with h | h | ⟨F,g1,g2,g3,g4⟩
   ·left
    simp only[pick,if_neg G]
    exact h
   ·exact absurd h G
   ·exact .inr ⟨pick F,F,g1,⟨g2,rfl⟩,g3,g4⟩) ⟨pick am,am,h0,⟨hr,rfl⟩,hi⟩
 exact⟨i,ao,by rw[h3];exact alt ao,A,E,h4⟩
def BO (i j:X) (f:Bool):ba:=[(8,i),(7,.sc (.i .i64 (.len 0))),(6,ix f),(4,j),(0,ix f),(1,xs 0)]
def VH (f:Bool):XS:=⟨BO (xn 0) .top f,[],4⟩
def yh (f:Bool):XS:=⟨BO (xi 10) .top f,[],4⟩
def Nc (f:Bool):Nat->XE×XS
 | 0=>(.exit 0,⟨BO (xi 10) .top f,[],30⟩)
 | _=>(.ret,⟨BO (xi 10) (xi 10) f,[],30⟩)
noncomputable def qP:Code:=(dP (Tryz.f140.body.getD .skip))[0]?.getD .skip
def VG (f:Bool):List dm:=[⟨yh f,zy,[]⟩]
noncomputable def ag5 (f:Bool) (B:J):T (XE×XS):=(ck (bd [] (fun _=>[])).ti (eD ⟨bd [] (fun _=>[]),[],[]⟩ 12) [] 0 [] 1000 qP B (yh f)).map (dV ((BO (xi 10) .top f).map (·.1)))
noncomputable def Nd (f:Bool) (k:Nat) (B:J):Bool:=dB 0 10 10 [] (0,[]) 0 (VG f) (Nc f k).2 (Nc f k).1 B (ag5 f B)
def Na:BE := .seq (.var 0) (.cl 0 0 (.var 10))
theorem ag6:nD (fun f _=>Nd f 0 zx&&(Nd f 1 ((Na,true)::p_)&&Nd f 0 ((Na,false)::p_)))=true:=by kernel_rfl
noncomputable def BN (f:Bool) (k:Nat):bj:=⟨(dt qP).getD 0,0,10,VH f,gz,[],.ret (Nc f k)⟩
theorem Nf:da Tryz.f140.ntmps qP=true:=by kernel_rfl
theorem ag7 (f:Bool) {m:Nat} {ρ:aa} (hn:ρ.len 0=m) (hb:m<=4611686018427387904):∃(i:Nat) (ao:aa),(i=0\/i=1)/\az 10 ρ ao/\nH m ao/\bY Tryz.prog ao Tryz.f140.ntmps qP (BN f i):=by
 have H:∀F,b4 Tryz.prog F (bd [] (fun _=>[])):=fun F=>kW (List.forall_mem_nil _)
 have bD:=p9 ag6 f false
 simp only[Bool.and_eq_true]at bD
 obtain⟨r0,r1,r2⟩:=bD
 let β:Bind:=⟨[(10,.lit 0)],[],[],[]⟩
 refine V3 (P:=Tryz.prog) (N:=Tryz.f140.ntmps) (body:=qP) (k0:=0) (n:=10) (S0:=VH f) (ρ:=ρ) (by cases f<;>kernel_rfl) (yh f) (BN f) (fun i=>⟨rfl,rfl,rfl⟩) (nH m) (fun F=>m-(F.i 10).toNat) (fun F hR => ?_) (am:=β.ap ρ) (Bind.bq (by kernel_rfl) ρ) ⟨hn,hb,Int.le_refl _,show(0:Int)<=m by omega⟩ (fun ac _ bI=>jE (k0:=0) (n:=10) (nm:=[]) bI (by cases f<;>kernel_rfl) ρ)
 have q1:=hR.n;have q2:=hR.b;have q3:=hR.i0;have q4:=hR.i1
 have aP:=eU (c:=⟨bd [] (fun _=>[]),[],[]⟩) (H F) (List.forall_mem_nil _) 12
 by_cases aQ:F.i 10<F.len 0
 ·have e1:w1.I F=F.i 10+1:=(show w1.I F=IntKind.i64.wrap (F.i 10+1)from rfl).trans (ca _ (by omega) (by omega))
  have u:J.ok F p_:=J.av (decide_eq_true aQ) (J.av (decide_eq_false (by rw[e1];show ¬_<(0:Int);omega)) (J.av (decide_eq_false (by rw[e1];show ¬(F.len 0:Int)<_;omega)) (zz hR)))
  have go:(∃(j:Nat) (C:dm) (aw:aa),(VG f)[j]? = some C/\ep Tryz.prog Tryz.f140.ntmps qP 0 (yh f) C.S F aw/\aw.i 10=IntKind.i64.wrap (F.i 10+1)/\az 10 F aw)->∃aw,ep Tryz.prog Tryz.f140.ntmps qP 0 (yh f) (yh f) F aw/\nH m aw/\m-(aw.i 10).toNat<m-(F.i 10).toNat/\az 10 F aw:=fun⟨j,C,aw,A,E,h4,h5⟩=>by
   match j,A with
   | 0,A =>
    cases A
    have e4:aw.i 10=F.i 10+1:=by rw[h4];exact ca _ (by omega) (by omega)
    have iF:aw.len 0=F.len 0:=(h5.len 0 (by omega)).symm
    exact⟨aw,E,⟨by omega,hb,by omega,by omega⟩,by omega,h5⟩
  rcases kV Na F with W | W
  ·rcases gC mixed cR aP (a1.nil _ _ _ _) Nf (J.av W u) r1 with h | ⟨j,C,aw,A,E,_,h4,h5,_⟩
   ·exact .inr (.inl h)
   ·exact .inr (.inr (go ⟨j,C,aw,A,E,h4,h5⟩))
  ·rcases gC mixed cR aP (a1.nil _ _ _ _) Nf (J.av W u) r2 with h | ⟨j,C,aw,A,E,_,h4,h5,_⟩
   ·exact .inl h
   ·exact .inr (.inr (go ⟨j,C,aw,A,E,h4,h5⟩))
 ·have u:J.ok F zx:=J.av (decide_eq_false aQ) (zz hR)
  rcases gC mixed cR aP (a1.nil _ _ _ _) Nf u r0 with h | ⟨j,C,aw,A,E,h3,h4,h5,_⟩
  ·exact .inl h
  ·exfalso
   match j,A with
   | 0,A =>
    cases A
    have e4:aw.i 10=F.i 10+1:=by rw[h4];exact ca _ (by omega) (by omega)
    have iF:aw.len 0=F.len 0:=(h5.len 0 (by omega)).symm
    have:=h3 _ (List.mem_cons_of_mem _ List.mem_cons_self)
    have:¬(aw.len 0:Int)<aw.i 10:=of_decide_eq_false this
    omega
noncomputable def Nb (f:Bool) (k:Nat) (g:Nat):List bj:=if Nat.beq g 140=true then [BN f k]else []
noncomputable def M' (f:Bool) (k:Nat):cr:=⟨bd [] (Nb f k),[],[]⟩
theorem ag9:nD (fun f k=>match aM (M' f (if k=true then 1 else 0)) 117 [ix f,xs 0] wE with | .ret (.sc (.b _))=>true | _=>false)=true:=by kernel_rfl
theorem ag8 (f:Bool) (k:Nat) {ρ:aa} (h:bY Tryz.prog ρ Tryz.f140.ntmps qP (BN f k)) (u:k=0\/k=1):∀g i,eC g gb=some i->a1 Tryz.prog ρ i.ntmps (Nb f k g) i.body:=fun g i hi=>by
 unfold Nb
 split
 ·rename_i hf
  have hf:=Nat.eq_of_beq_eq_true hf
  subst hf
  have e:eC 140 gb=some (fi Tryz.f140 []):=by kernel_rfl
  rw[e]at hi
  cases hi
  exact kv [0] (by cases f<;>rcases u with rfl | rfl<;>kernel_rfl) (List.forall_mem_cons.2 ⟨ku (L:=BN f k) (c:=qP) (by cases f<;>rcases u with rfl | rfl<;>kernel_rfl) h,List.forall_mem_nil _⟩)
 ·exact a1.nil _ _ _ _
theorem Ym {ρ:aa} {ss:List ByteArray} (M:ρ.len 0=ss.length) (H:∀j (h:j<ss.length),ρ.cs 0 0 j=ss[j]):aV ρ (.len 0) (.var 0 [.s])=fw ss:=by
 unfold aV fw
 have l:((U.len 0).I ρ).toNat=ss.length:=by show((ρ.len 0:Nat):Int).toNat=_;omega
 rw[l]
 apply List.ext_getElem?
 intro j
 rw[List.getElem?_map,List.getElem?_map]
 by_cases O:j<ss.length
 ·rw[List.getElem?_range O,List.getElem?_eq_getElem O,Option.map_some,Option.map_some]
  show some [AV.sc (.string (ρ.cs 0 0 ((j:Int)).toNat))]=_
  rw[Int.toNat_natCast,H j O]
 ·rw[List.getElem?_eq_none (by rw[List.length_range];omega),List.getElem?_eq_none (by omega)];rfl
theorem adJ (ss:List ByteArray) (s:ByteArray) (f:Bool) (M:ss.length<=4611686018427387904):∃b:Bool,cf Tryz.prog 117=true/\∀n h,CY Tryz.prog n 117 [.ro 1 (fw ss) f,.sc (.string s)] h (.sc (.bool b)) []:=by
 let ρ:aa:=⟨fun _=>0,fun _=>false,fun _=>s,fun _=>ss.length,fun _ _ _=>0,fun _ _ _=>false,fun _ _ j=>(ss[j]?).getD ⟨#[]⟩,kz⟩
 obtain⟨i,ao,hi,A,E,h3⟩:=ag7 f (ρ:=ρ) (m:=ss.length) rfl M
 have u:J.ok ao wE:=by
  have q1:=E.n;have q2:=E.b;have q3:=E.i0;have q4:=E.i1
  exact J.av (decide_eq_false (by show ¬(4611686018427387904:Int)<ao.len 0;omega)) (J.av (decide_eq_false (by show ¬(ao.len 0:Int)<ao.i 10;omega)) (J.av (decide_eq_false (by show ¬ao.i 10<0;omega)) (J.bt ao)))
 have e:X.af ao [ix f,xs 0]=[.ro 1 (fw ss) f,.sc (.string s)]:=by
  have r:aV ao (.len 0) (.var 0 [.s])=fw ss:=Ym E.n fun j O=>by
   rw[<-A.cs 0 (by omega)]
   show(ss[j]?).getD ⟨#[]⟩=_
   rw[List.getElem?_eq_getElem O];rfl
  have r2:ao.s 0=s:=(A.s 0 (by omega)).symm
  show [AV.ro 1 (aV ao (.len 0) (.var 0 [.s])) f,AV.sc (.string (ao.s 0))]=_
  rw[r,r2]
 have go:∀k:Bool,i=(if k=true then 1 else 0)->∃b:Bool,cf Tryz.prog 117=true/\∀n h,CY Tryz.prog n 117 [.ro 1 (fw ss) f,.sc (.string s)] h (.sc (.bool b)) []:=fun k aO=>by
  have hw:=p9 ag9 f k
  have H:b4 Tryz.prog ao (M' f (if k=true then 1 else 0)).c:=hj (List.forall_mem_nil _) (by rw[<-aO];exact ag8 f i h3 hi)
  split at hw
  ·rename_i b hx
   have q:=ec H (List.forall_mem_nil _) u (show(aM (M' f (if k=true then 1 else 0)) 117 [ix f,xs 0] wE).aq ao=some _ by rw[hx];rfl)
   rw[e]at q
   exact⟨b.I ao,q⟩
  ·cases hw
 rcases hi with h | h
 ·exact go false h
 ·exact go true h
end Go.Proofs.YtpdfmnhgocpkcaaGreat
namespace Go.Proofs.YtpdfmnhgocpkcaaGreat
open Go Go.Proofs.Aw Go.Proofs.Xw
set_option maxRecDepth 100000
def CE (i r:X) (f:Bool):ba:=[(7,i),(6,.sc (.i .i64 (.len 0))),(5,ix f),(2,r),(0,ix f)]
def X2 (f:Bool):XS:=⟨CE (xn 0) .top f,[],4⟩
def lD (f:Bool):XS:=⟨CE (xi 10) .top f,[],4⟩
def pQ (f:Bool):Nat->XE×XS
 | 0=>(.exit 0,⟨CE (xi 10) .top f,[],60⟩)
 | _=>(.ret,⟨CE (xi 10) (xl false) f,[],60⟩)
noncomputable def lC:Code:=(dP (Tryz.f87.body.getD .skip))[0]?.getD .skip
def X1 (f:Bool):List dm:=[⟨lD f,zy,[]⟩]
def HL:List (Nat×List X×X):=[(117,[.rl 1 (.var 10) (.var 0 [.s]) false,.sc (.s (.cl 0 0 (.var 10)))],xb 12)]
noncomputable def ap2 (f:Bool) (B:J):T (XE×XS):=(ck (bd HL (fun _=>[])).ti (eD ⟨bd HL (fun _=>[]),[],[]⟩ 12) [] 0 [] 1000 lC B (lD f)).map (dV ((CE (xi 10) .top f).map (·.1)))
noncomputable def y_ (f:Bool) (k:Nat) (B:J):Bool:=dB 0 10 10 [] (0,[]) 0 (X1 f) (pQ f k).2 (pQ f k).1 B (ap2 f B)
def CD:BE := .lt (.ch (.cl 0 0 (.var 10))) (.lit 1)
def HJ:BE := .lt (.lit 16) (.ch (.cl 0 0 (.var 10)))
theorem ap3:nD (fun f _=>y_ f 0 zx&&(y_ f 1 ((CD,true)::p_)&&(y_ f 1 ((HJ,true)::(CD,false)::p_)&&(y_ f 1 ((.var 12,true)::(HJ,false)::(CD,false)::p_)&&y_ f 0 ((.var 12,false)::(HJ,false)::(CD,false)::p_)))))=true:=by kernel_rfl
noncomputable def v_ (f:Bool) (k:Nat):bj:=⟨(dt lC).getD 0,0,10,X2 f,gz,[],.ret (pQ f k)⟩
theorem X3:da Tryz.f87.ntmps lC=true:=by kernel_rfl
theorem aqo {ρ:aa} (n:Nat) {l:Nat} (h:ρ.i 10=n):∃ss:List ByteArray,ss.length=n/\aV ρ (.var 10) (.var l [.s])=fw ss:=by
 refine⟨(List.range n).map fun j=>ρ.cs l 0 j,by simp,?_⟩
 unfold aV fw
 have e:((U.var 10).I ρ).toNat=n:=by show(ρ.i 10).toNat=n;omega
 rw[e,List.map_map]
 rfl
theorem ap4 (f:Bool) {m:Nat} {ρ:aa} (hn:ρ.len 0=m) (hb:m<=4611686018427387904):∃(i:Nat) (ao:aa),(i=0\/i=1)/\az 10 ρ ao/\nH m ao/\bY Tryz.prog ao Tryz.f87.ntmps lC (v_ f i):=by
 have bD:=p9 ap3 f false
 simp only[Bool.and_eq_true]at bD
 obtain⟨r0,r1,r2,r3,aoX⟩:=bD
 let β:Bind:=⟨[(10,.lit 0)],[],[],[]⟩
 refine V3 (P:=Tryz.prog) (N:=Tryz.f87.ntmps) (body:=lC) (k0:=0) (n:=10) (S0:=X2 f) (ρ:=ρ) (by cases f<;>kernel_rfl) (lD f) (v_ f) (fun i=>⟨rfl,rfl,rfl⟩) (nH m) (fun F=>m-(F.i 10).toNat) (fun F hR => ?_) (am:=β.ap ρ) (Bind.bq (by kernel_rfl) ρ) ⟨hn,hb,Int.le_refl _,show(0:Int)<=m by omega⟩ (fun ac _ bI=>jE (k0:=0) (n:=10) (nm:=[]) bI (by cases f<;>kernel_rfl) ρ)
 have q1:=hR.n;have q2:=hR.b;have q3:=hR.i0;have q4:=hR.i1
 obtain⟨ss,M,G⟩:=aqo (ρ:=F) (F.i 10).toNat (l:=0) (by omega)
 obtain⟨b,LX,iM⟩:=adJ ss (F.cs 0 0 (F.i 10).toNat) false (by omega)
 let bQ:aa:={ F with b:=fun k=>if k=12 then b else F.b k }
 have xJ:nH m bQ:=⟨q1,q2,q3,q4⟩
 have hd:(lD f).I bQ=(lD f).I F:=by cases f<;>rfl
 have hdo:∀k,((pQ f k).2).I bQ=((pQ f k).2).I F:=fun k=>by cases f<;>cases k<;>rfl
 have pf:b4 Tryz.prog bQ (bd HL (fun _=>[])):=hj (List.forall_mem_cons.2 ⟨⟨LX,fun n h=>by
  have e1:X.af bQ [.rl 1 (.var 10) (.var 0 [.s]) false,.sc (.s (.cl 0 0 (.var 10)))]=[.ro 1 (fw ss) false,.sc (.string (F.cs 0 0 (F.i 10).toNat))]:=by
   rw[<-G];rfl
  have e2:(xb 12).I bQ = .sc (.bool b):=rfl
  rw[e1,e2]
  exact iM n h⟩,List.forall_mem_nil _⟩) (fun _ _ _=>a1.nil _ _ _ _)
 have aP:=eU (c:=⟨bd HL (fun _=>[]),[],[]⟩) pf (List.forall_mem_nil _) 12
 have Pi:∀k,jO Tryz.prog Tryz.f87.ntmps lC 0 (lD f) (.ret (pQ f k)) bQ->jO Tryz.prog Tryz.f87.ntmps lC 0 (lD f) (.ret (pQ f k)) F:=fun k h ac hE bI=>by
  have:=h ac hE bI
  rw[hd]at this
  refine dD (fun e V hq => ?_) this
  obtain⟨e',s,g1,g2,g3,g4⟩:=hq
  have g2:some (pQ f k)=some (e',s):=g2
  have g2:=Option.some.inj g2
  exact⟨(pQ f k).1,(pQ f k).2,by rw[g2];exact g1,rfl,by rw[g2];exact g3,by rw[<-hdo k,g2];exact g4⟩
 have D4:az 10 F bQ:=⟨fun _ _=>rfl,fun k u=>by show F.b k=if k=12 then b else F.b k;rw[if_neg (by omega)],fun _ _=>rfl,fun _ _=>rfl,fun _ _=>rfl,fun _ _=>rfl,fun _ _=>rfl,fun _ _=>rfl⟩
 have go:F.i 10<F.len 0->(∃(j:Nat) (C:dm) (aw:aa),(X1 f)[j]? = some C/\ep Tryz.prog Tryz.f87.ntmps lC 0 (lD f) C.S bQ aw/\aw.i 10=IntKind.i64.wrap (bQ.i 10+1)/\az 10 bQ aw)->∃aw,ep Tryz.prog Tryz.f87.ntmps lC 0 (lD f) (lD f) F aw/\nH m aw/\m-(aw.i 10).toNat<m-(F.i 10).toNat/\az 10 F aw:=fun aQ ⟨j,C,aw,A,E,h4,h5⟩=>by
  match j,A with
  | 0,A =>
   cases A
   have h4:aw.i 10=IntKind.i64.wrap (F.i 10+1):=h4
   have e4:aw.i 10=F.i 10+1:=by rw[h4];exact ca _ (by omega) (by omega)
   have Uv:=D4.trans h5
   have iF:aw.len 0=F.len 0:=(Uv.len 0 (by omega)).symm
   exact⟨aw,fun ac hE bI=>by rw[<-hd];exact E ac hE bI,⟨by omega,hb,by omega,by omega⟩,by omega,Uv⟩
 by_cases aQ:F.i 10<F.len 0
 ·have e1:w1.I bQ=F.i 10+1:=(show w1.I bQ=IntKind.i64.wrap (F.i 10+1)from rfl).trans (ca _ (by omega) (by omega))
  have u:J.ok bQ p_:=J.av (decide_eq_true aQ) (J.av (decide_eq_false (by rw[e1];show ¬_<(0:Int);omega)) (J.av (decide_eq_false (by rw[e1];show ¬(F.len 0:Int)<_;omega)) (zz xJ)))
  have one:∀(k:Nat) (B:J),(k=0\/k=1)->J.ok bQ B->y_ f k B=true->jO Tryz.prog Tryz.f87.ntmps lC 0 (lD f) (v_ f 0).out F\/jO Tryz.prog Tryz.f87.ntmps lC 0 (lD f) (v_ f 1).out F\/∃aw,ep Tryz.prog Tryz.f87.ntmps lC 0 (lD f) (lD f) F aw/\nH m aw/\m-(aw.i 10).toNat<m-(F.i 10).toNat/\az 10 F aw:=fun k B ex u hr=>by
   rcases gC mixed cR aP (a1.nil _ _ _ _) X3 u hr with h | ⟨j,C,aw,A,E,_,h4,h5,_⟩
   ·rcases ex with rfl | rfl
    ·exact .inl (Pi 0 h)
    ·exact .inr (.inl (Pi 1 h))
   ·exact .inr (.inr (go aQ ⟨j,C,aw,A,E,h4,h5⟩))
  rcases kV CD bQ with A | A
  ·exact one 1 _ (.inr rfl) (J.av A u) r1
  ·rcases kV HJ bQ with E | E
   ·exact one 1 _ (.inr rfl) (J.av E (J.av A u)) r2
   ·rcases kV (.var 12) bQ with h3 | h3
    ·exact one 1 _ (.inr rfl) (J.av h3 (J.av E (J.av A u))) r3
    ·exact one 0 _ (.inl rfl) (J.av h3 (J.av E (J.av A u))) aoX
 ·have u:J.ok bQ zx:=J.av (decide_eq_false aQ) (zz xJ)
  rcases gC mixed cR aP (a1.nil _ _ _ _) X3 u r0 with h | ⟨j,C,aw,A,E,h3,h4,h5,_⟩
  ·exact .inl (Pi 0 h)
  ·exfalso
   match j,A with
   | 0,A =>
    cases A
    have h4:aw.i 10=IntKind.i64.wrap (F.i 10+1):=h4
    have e4:aw.i 10=F.i 10+1:=by rw[h4];exact ca _ (by omega) (by omega)
    have iF:aw.len 0=F.len 0:=(h5.len 0 (by omega)).symm
    have:=h3 _ (List.mem_cons_of_mem _ List.mem_cons_self)
    have:¬(aw.len 0:Int)<aw.i 10:=of_decide_eq_false this
    omega
noncomputable def Ps (f:Bool) (k:Nat) (g:Nat):List bj:=if Nat.beq g 87=true then [v_ f k]else []
noncomputable def Pr (f:Bool) (k:Nat):cr:=⟨bd [] (Ps f k),[],[]⟩
def HK:J:=(.lt (.lit 6) (.len 0),true)::wE
def Vv:T X->Bool
 | .ret (.sc (.b e))=>sU (fu HK (.not e))
 | _=>false
theorem ap6:nD (fun f k=>Vv (aM (Pr f (if k=true then 1 else 0)) 87 [ix f] HK))=true:=by kernel_rfl
theorem ap5 (f:Bool) (k:Nat) {ρ:aa} (h:bY Tryz.prog ρ Tryz.f87.ntmps lC (v_ f k)) (u:k=0\/k=1):∀g i,eC g gb=some i->a1 Tryz.prog ρ i.ntmps (Ps f k g) i.body:=fun g i hi=>by
 unfold Ps
 split
 ·rename_i hf
  have hf:=Nat.eq_of_beq_eq_true hf
  subst hf
  have e:eC 87 gb=some (fi Tryz.f87 []):=by kernel_rfl
  rw[e]at hi
  cases hi
  exact kv [0] (by cases f<;>rcases u with rfl | rfl<;>kernel_rfl) (List.forall_mem_cons.2 ⟨ku (L:=v_ f k) (c:=lC) (by cases f<;>rcases u with rfl | rfl<;>kernel_rfl) h,List.forall_mem_nil _⟩)
 ·exact a1.nil _ _ _ _
theorem ap7 (ss:List ByteArray) (f:Bool) (h6:6<ss.length) (M:ss.length<=4611686018427387904):cf Tryz.prog 87=true/\∀n h,CY Tryz.prog n 87 [.ro 1 (fw ss) f] h (.sc (.bool false)) []:=by
 let ρ:aa:=⟨fun _=>0,fun _=>false,fun _=>⟨#[]⟩,fun _=>ss.length,fun _ _ _=>0,fun _ _ _=>false,fun _ _ j=>(ss[j]?).getD ⟨#[]⟩,kz⟩
 obtain⟨i,ao,hi,A,E,h3⟩:=ap4 f (ρ:=ρ) (m:=ss.length) rfl M
 have u:J.ok ao HK:=by
  have q1:=E.n;have q2:=E.b;have q3:=E.i0;have q4:=E.i1
  exact J.av (decide_eq_true (by show(6:Int)<ao.len 0;omega)) (J.av (decide_eq_false (by show ¬(4611686018427387904:Int)<ao.len 0;omega)) (J.av (decide_eq_false (by show ¬(ao.len 0:Int)<ao.i 10;omega)) (J.av (decide_eq_false (by show ¬ao.i 10<0;omega)) (J.bt ao))))
 have e:X.af ao [ix f]=[.ro 1 (fw ss) f]:=by
  have r:aV ao (.len 0) (.var 0 [.s])=fw ss:=Ym E.n fun j O=>by
   rw[<-A.cs 0 (by omega)]
   show(ss[j]?).getD ⟨#[]⟩=_
   rw[List.getElem?_eq_getElem O];rfl
  show [AV.ro 1 (aV ao (.len 0) (.var 0 [.s])) f]=_
  rw[r]
 have go:∀k:Bool,i=(if k=true then 1 else 0)->cf Tryz.prog 87=true/\∀n h,CY Tryz.prog n 87 [.ro 1 (fw ss) f] h (.sc (.bool false)) []:=fun k aO=>by
  have hw:=p9 ap6 f k
  have H:b4 Tryz.prog ao (Pr f (if k=true then 1 else 0)).c:=hj (List.forall_mem_nil _) (by rw[<-aO];exact ap5 f i h3 hi)
  unfold Vv at hw
  split at hw
  ·rename_i b hx
   have hb:(!(b.I ao))=true:=w6 u hw
   have hb:b.I ao=false:=by simpa using hb
   have q:=ec H (List.forall_mem_nil _) u (show(aM (Pr f (if k=true then 1 else 0)) 87 [ix f] HK).aq ao=some _ by rw[hx];rfl)
   rw[e]at q
   simp only[X.I,Sc.I,hb]at q
   exact q
  ·cases hw
 rcases hi with h | h
 ·exact go false h
 ·exact go true h
end Go.Proofs.YtpdfmnhgocpkcaaGreat
