/- Parts of the proof, one behind the other. -/
import Derived.Test.YtpdfmnhgocpkcaaGreatTK36
import Derived.Test.YtpdfmnhgocpkcaaGreatTK37
import Derived.Test.YtpdfmnhgocpkcaaGreatTK38
import Derived.Test.YtpdfmnhgocpkcaaGreatTK7
import Derived.Test.YtpdfmnhgocpkcaaGreatTK3
import Derived.Test.YtpdfmnhgocpkcaaGreatTK25
namespace Go.Proofs.YtpdfmnhgocpkcaaGreat
open Go Go.Proofs.Aw Go.Proofs.Xw
set_option maxRecDepth 100000
structure Inv (al:aa) (i:Nat) (ρ:aa):Prop where
 ah:aA 400 al ρ
 lt:i<10
 AY:∀C,hU[i]? = some C->J.ok ρ C.b6
 ty:eP 460 iE ρ
 tx:6<=i->TI ρ
def Nx (al:aa) (i:Nat) (ρ:aa):Prop:=(AK.1.I ρ=false/\js Tryz.prog Tryz.f9.ntmps kb rq (Ss i) (.ret (.exit 0,oO (Ss i))) ρ)\/∃(i':Nat) (G:aa),ei Tryz.prog Tryz.f9.ntmps kb rq (Ss i) (Ss i') ρ G/\Inv al i' G/\G.i 400=IntKind.i64.wrap (ρ.i 400+1)/\aA 400 ρ G
theorem aei:(hU.all fun C=>C.S.au 600&&(oO C.S).au 600)=true:=by kernel_rfl
theorem S6:hU.length=10:=by kernel_rfl
theorem al6:(hU[6]?).map (·.dm)=some [xa 0,xa 1,iP 6 jM,iP 7 jM,qw 7 jM false,qw 7 jM true]:=rfl
theorem al7:(hU[7]?).map (·.dm)=some [iP 6 jM,iP 7 jM]:=rfl
theorem al8:(hU[8]?).map (·.dm)=some [iP 8 my,iP 9 my,qw 9 my false,qw 9 my true,xc false,xc true]:=rfl
theorem al9:(hU[9]?).map (·.dm)=some [iP 8 my,iP 9 my]:=rfl
theorem ar9 {i j:Nat} {bO:dq} {ρ G:aa} (M:hU[j]? = some bO) (h6:6<=j) (ha:bO.dm=[]\/∃a∈bO.dm,a.fr=i/\gR a ρ G) (hT:6<=i->TI ρ) (hB:i<=1->1<=ρ.len 621->qv ρ) (sR:i=7->1<=ρ.len 610->w9 ρ):TI G:=by
 have O:j<10:=by
  have:=(List.getElem?_eq_some_iff.1 M).1
  rw[S6]at this;exact this
 have first:∀fr,fr<=1->fr=i->gR (xa fr) ρ G->TI G:=fun fr A E a=>by
  have h3:¬(ρ.len 621:Int)<1:=of_decide_eq_false (a.1 _ List.mem_cons_self)
  have n:=hB (by omega) (by omega)
  exact TI.first n.l6 n.ky n.td n.dT a
 have IX:∀ag,7=i->gR (xc ag) ρ G->TI G:=fun ag E a=>by
  have h3:¬(ρ.len 610:Int)<1:=of_decide_eq_false (a.1 _ List.mem_cons_self)
  have n:=sR (by omega) (by omega)
  exact(hT (by omega)).IX n.l6 n.td a
 rcases(show j=6\/j=7\/j=8\/j=9 by omega)with rfl | rfl | rfl | rfl
 ·have e:=al6
  rw[M]at e
  have e:bO.dm=_:=Option.some.inj e
  rw[e]at ha
  simp only[List.cons_ne_nil,false_or,List.mem_cons,List.not_mem_nil,or_false]at ha
  obtain⟨a,h,hf,W⟩:=ha
  rcases h with rfl | rfl | rfl | rfl | rfl | rfl
  ·exact first 0 (by omega) hf W
  ·exact first 1 (by omega) hf W
  ·exact TI.tj ru (hT (by have:6=i:=hf;omega)) W
  ·exact TI.tj ru (hT (by have:7=i:=hf;omega)) W
  ·exact TI.more ru (hT (by have:7=i:=hf;omega)) W
  ·exact TI.more ru (hT (by have:7=i:=hf;omega)) W
 ·have e:=al7
  rw[M]at e
  have e:bO.dm=_:=Option.some.inj e
  rw[e]at ha
  simp only[List.cons_ne_nil,false_or,List.mem_cons,List.not_mem_nil,or_false]at ha
  obtain⟨a,h,hf,W⟩:=ha
  rcases h with rfl | rfl
  ·exact TI.tj ru (hT (by have:6=i:=hf;omega)) W
  ·exact TI.tj ru (hT (by have:7=i:=hf;omega)) W
 ·have e:=al8
  rw[M]at e
  have e:bO.dm=_:=Option.some.inj e
  rw[e]at ha
  simp only[List.cons_ne_nil,false_or,List.mem_cons,List.not_mem_nil,or_false]at ha
  obtain⟨a,h,hf,W⟩:=ha
  rcases h with rfl | rfl | rfl | rfl | rfl | rfl
  ·exact TI.tj yy (hT (by have:8=i:=hf;omega)) W
  ·exact TI.tj yy (hT (by have:9=i:=hf;omega)) W
  ·exact TI.more yy (hT (by have:9=i:=hf;omega)) W
  ·exact TI.more yy (hT (by have:9=i:=hf;omega)) W
  ·exact IX false hf W
  ·exact IX true hf W
 ·have e:=al9
  rw[M]at e
  have e:bO.dm=_:=Option.some.inj e
  rw[e]at ha
  simp only[List.cons_ne_nil,false_or,List.mem_cons,List.not_mem_nil,or_false]at ha
  obtain⟨a,h,hf,W⟩:=ha
  rcases h with rfl | rfl
  ·exact TI.tj yy (hT (by have:8=i:=hf;omega)) W
  ·exact TI.tj yy (hT (by have:9=i:=hf;omega)) W
theorem Hj {al ρ G:aa} {i:Nat} (ah:aA 600 ρ G) (hI:Inv al i ρ) (hT:6<=i->TI G) (hB:i<=1->1<=G.len 621->qv G) (sR:i=7->1<=G.len 610->w9 G) (ao:cV G i):Nx al i ρ:=by
 obtain⟨C,hC,ao⟩:=ao
 have hb:=List.all_eq_true.1 aei C (List.mem_of_getElem? hC)
 rw[Bool.and_eq_true]at hb
 have e1:C.S.I ρ=C.S.I G:=XS.aP ah _ hb.1
 have e2:(oO C.S).I ρ=(oO C.S).I G:=XS.aP ah _ hb.2
 unfold Nx
 rw[RX hC]
 rcases ao with⟨F,ao⟩ | ⟨j,bO,ax,A,E,h3,h4,h5,h6,h7⟩
 ·left
  refine⟨by rw[BE.aP ah _ (by kernel_rfl)];exact F,fun ac hE bM => ?_⟩
  have:=ao ac hE bM
  rw[<-e1]at this
  refine dB (fun e V hq => ?_) this
  obtain⟨e',s,q1,q2,q3,q4⟩:=hq
  cases q2
  exact⟨.exit 0,oO C.S,q1,rfl,q3,by rw[e2];exact q4⟩
 ·right
  refine⟨j,ax,fun ac hE bM => ?_,⟨hI.ah.trans ((ah.le (by decide)).trans h5),?_,fun C' UJ => ?_,h6 ?_,fun M=>ar9 A M h7 hT hB sR⟩,by rw[h4,ah.i 400 (by decide)],(ah.le (by decide)).trans h5⟩
  ·rw[e1,RX A];exact E ac hE bM
  ·have:=(List.getElem?_eq_some_iff.1 A).1
   rw[S6]at this;exact this
  ·rw[A]at UJ;cases UJ;exact h3
  ·intro j' k t gE aJ
   have:=hI.ty j' k t (by rw[ah.len 460 (by decide)];exact gE) aJ
   rw[ah.ct 460 (by decide)]at this
   exact this
end Go.Proofs.YtpdfmnhgocpkcaaGreat
namespace Go.Proofs.YtpdfmnhgocpkcaaGreat
open Go Go.Proofs.Aw Go.Proofs.Xw
set_option maxRecDepth 100000
theorem Yz {al ρ:aa} (hK:Key al) (ah:aA 400 al ρ):J.ok ρ PI:=by
 obtain⟨A,E⟩:=hK (ρ.i 400).toNat
 have e:(cA 1002).I ρ=al.ci 2 1002 (ρ.i 400).toNat:=by
  show ρ.ci 2 1002 (ρ.i 400).toNat=_
  rw[<-ah.ci 2 (by decide)]
 exact fF (by rw[e];exact A) (fF (by rw[e];exact E) (nil_ok' ρ))
where nil_ok' (ρ:aa):J.ok ρ []:=J.bq ρ
theorem U2 {al ρ:aa} {i:Nat} (hK:Key al) (hI:Inv al i ρ):J.ok ρ (FJ i):=by
 unfold FJ
 refine dZ ?_ (dZ (Yz hK hI.ah) ?_)
 ·split
  ·rename_i C hC;exact hI.AY C hC
  ·exact J.bq ρ
 ·split
  ·rename_i h
   have h:=hI.tx (Nat.le_of_ble_eq_true h)
   exact dZ h.tr h.V1
  ·exact J.bq ρ
theorem X1:(hU[0]?).map (·.b6)=some FI:=rfl
theorem FM {al ρ:aa} {i:Nat} (hI:Inv al i ρ):Hd ρ/\(1<=i->(ρ.len 460:Int)<=ρ.i 400):=by
 have go:∀(k:Nat) (b6:J),i=k->(hU[k]?).map (·.b6)=some (og++b6)->Hd ρ/\(1<=i->(ρ.len 460:Int)<=ρ.i 400):=fun k b6 u h=>by
  subst u
  obtain⟨C,hC,e⟩:=Option.map_eq_some_iff.1 h
  have:=hI.AY C hC
  rw[e]at this
  have:=agc (Sb this)
  exact⟨this.1,fun _=>this.2⟩
 have O:=hI.lt
 rcases(show i=0\/i=1\/i=2\/i=3\/i=4\/i=5\/i=6\/i=7\/i=8\/i=9 by omega)with h | h | h | h | h | h | h | h | h | h
 ·subst h
  obtain⟨C,hC,e⟩:=Option.map_eq_some_iff.1 X1
  have:=hI.AY C hC
  rw[e]at this
  exact⟨agb this,fun h=>by omega⟩
 ·exact go 1 [] h rfl
 ·exact go 2 Gp h rfl
 ·exact go 3 Gp h rfl
 ·exact go 4 G4 h rfl
 ·exact go 5 G4 h rfl
 ·exact go 6 ui h rfl
 ·exact go 7 ui h rfl
 ·exact go 8 ui h rfl
 ·exact go 9 ui h rfl
theorem NZ {al ρ:aa} {i:Nat} (hI:Inv al i ρ):J.ok ρ di:=by
 have go:∀(k:Nat) (b6:J),i=k->(hU[k]?).map (·.b6)=some (di++b6)->J.ok ρ di:=fun k b6 u h=>by
  subst u
  obtain⟨C,hC,e⟩:=Option.map_eq_some_iff.1 h
  have:=hI.AY C hC
  rw[e]at this
  exact Sb this
 have O:=hI.lt
 rcases(show i=0\/i=1\/i=2\/i=3\/i=4\/i=5\/i=6\/i=7\/i=8\/i=9 by omega)with h | h | h | h | h | h | h | h | h | h
 ·exact go 0 _ h rfl
 ·exact go 1 _ h rfl
 ·exact go 2 _ h rfl
 ·exact go 3 _ h rfl
 ·exact go 4 _ h rfl
 ·exact go 5 _ h rfl
 ·exact go 6 _ h rfl
 ·exact go 7 _ h rfl
 ·exact go 8 _ h rfl
 ·exact go 9 _ h rfl
theorem adK {al ρ:aa} {i:Nat} (hK:Key al) (hI:Inv al i ρ) (aT:ρ.i 400<ρ.len 2):J.ok ρ (a8 i):=by
 obtain⟨A,E⟩:=FM hI
 have e:=agS A
 have q1:=A.mQ;have q2:=A.bp;have q3:=A.bj
 refine J.aw (decide_eq_true aT) (dZ ?_ (U2 hK hI))
 split
 ·exact fF (by rw[e];show(0:Int)<=_;omega) (fF (by rw[e];show _<=(ρ.len 2:Int);omega) (fF (by rw[e];show(1:Int)<=_;omega) (J.bq ρ)))
 ·rename_i H
  have q4:=E (by
   rcases Nat.eq_zero_or_pos i with h | h
   ·subst h;exact absurd rfl H
   ·exact h)
  have em:(mkAdd (.len 460) (.lit 1)).I ρ=(ρ.len 460:Int)+1:=by rw[fo];rfl
  exact fF (by rw[e];show(0:Int)<=_;omega) (fF (by rw[e];show _<=(ρ.len 2:Int);omega) (fF (by rw[e];show(ρ.len 460:Int)<=_;omega) (fF (by rw[e,em];omega) (fF (by rw[e];show(1:Int)<=_;omega) (fF (by show(ρ.len 460:Int)<=300;omega) (J.bq ρ))))))
theorem ae6 {al ρ:aa} {i:Nat} (hK:Key al) (hI:Inv al i ρ) (aT:¬ρ.i 400<ρ.len 2):J.ok ρ (gh i):=J.aw (decide_eq_false aT) (U2 hK hI)
theorem adJ:((List.range 10).all fun i=>(a8 i).all fun p=>p.1.au 600)=true:=by kernel_rfl
theorem ae5:((List.range 10).all fun i=>(gh i).all fun p=>p.1.au 600)=true:=by kernel_rfl
theorem adI {ρ G:aa} (ah:aA 600 ρ G) {i:Nat} (hi:i<10) (h:J.ok ρ (a8 i)):J.ok G (a8 i) :=
 gz ah (List.all_eq_true.1 adJ i (List.mem_range.2 hi)) h
theorem ahx {al ρ:aa} (hK:Key al) (ah:aA 400 al ρ):0<=bm.I ρ/\bm.I ρ<=250:=by
 obtain⟨A,E⟩:=hK (ρ.i 400).toNat
 have e:bm.I ρ=al.ci 2 1002 (ρ.i 400).toNat:=by
  show ρ.ci 2 1002 (ρ.i 400).toNat=_
  rw[<-ah.ci 2 (by decide)]
 omega
theorem JZ (C:sk) {al ρ:aa} {i:Nat} (hK:Key al) (hI:Inv al i ρ):∃G,aA 600 ρ G/\G.len 610=0/\((J.ok G wF/\qv G/\∀k∈dy false++dy true,cy Tryz.prog G k)\/(G.len 621=0/\∀k∈cW false++cW true,cy Tryz.prog G k)):=by
 obtain⟨A,E⟩:=ahx hK hI.ah
 exact C.ajq ρ (NZ hI) A E
theorem Qp (C:sk) {al ρ:aa} {i:Nat} (hK:Key al) (hI:Inv al i ρ) (aT:ρ.i 400<ρ.len 2)
  (hr:∀G,aA 600 ρ G->G.len 610=0->J.ok G (a8 i)->(cV G i->Nx al i ρ)->(ea->∀(el:DT),lI el=true->DT.ok bc (bW (dy false++dy true) i) el (wF++((ai (cA 1) 4,true)::(ai (cA 0) 1,true)::a8 i))=true->DT.ok bc (bW (cW false++cW true) i) (.br (bD (cA 1002) 1) el el) ((ai (cA 1) 4,true)::(ai (cA 0) 1,true)::a8 i)=true->J.ok G ((ai (cA 1) 4,true)::(ai (cA 0) 1,true)::a8 i)->Nx al i ρ)->Nx al i ρ):Nx al i ρ:=by
 obtain⟨G,ah,hz,h⟩:=JZ C hK hI
 have u:=adI ah hI.lt (adK hK hI aT)
 have hB:i<=1->1<=G.len 621->qv G:=fun _ A=>by
  rcases h with⟨_,h,_⟩ | ⟨h,_⟩
  ·exact h
  ·omega
 have to:cV G i->Nx al i ρ:=Hj ah hI (fun h6=>(hI.tx h6).bC ah) hB (fun _ h=>by omega)
 refine hr G ah hz u to fun ad el hd hw ho hf=>to ?_
 rcases h with⟨A,_,h3⟩ | ⟨_,h3⟩
 ·exact part ad _ h3 hd hw (dZ A hf)
 ·exact part ad _ h3 (by simp only[lI,hd,Bool.and_self]) ho hf
theorem ub (ad:ea) (C:sk) {al ρ:aa} {i:Nat} (hK:Key al) (hI:Inv al i ρ) (aT:ρ.i 400<ρ.len 2) (el:DT) (hd:lI el=true) (hw:DT.ok bc (bW (dy false++dy true) i) el (wF++((ai (cA 1) 4,true)::(ai (cA 0) 1,true)::a8 i))=true) (ho:DT.ok bc (bW (cW false++cW true) i) (.br (bD (cA 1002) 1) el el) ((ai (cA 1) 4,true)::(ai (cA 0) 1,true)::a8 i)=true)
  (hr:∀G,aA 600 ρ G->J.ok G (a8 i)->(cV G i->Nx al i ρ)->(J.ok G ((ai (cA 1) 4,true)::(ai (cA 0) 1,true)::a8 i)->Nx al i ρ)->Nx al i ρ):Nx al i ρ :=
 Qp C hK hI aT fun G ah _ u to ht=>hr G ah u to (ht ad el hd hw ho)
def Vc (i:Nat):J:=(.eq (.var 443) (.lit 1),true)::(ai (cM 73) 0,true)::(ai (cM 73) 60,false)::(ai (cM 73) 92,false)::(ai (cM 0) 6,true)::(ai (cM 0) 4,false)::(.eq (cM 13) (.var 403),true)::(.eq (cM 12) (.var 402),true)::(ai (cA 0) 2,true)::(ai (cA 0) 1,false)::a8 i
def Vd (i:Nat):J:=(.eq (.var 443) (.lit 1),true)::(ai (cM 73) 0,true)::(ai (cM 73) 60,false)::(ai (cM 73) 92,false)::(ai (cM 0) 6,true)::(ai (cM 0) 4,false)::(ai (cA 0) 5,true)::(ai (cA 0) 4,false)::(ai (cA 0) 3,false)::(ai (cA 0) 2,false)::(ai (cA 0) 1,false)::a8 i
theorem Ve:((Vc 9++(Vd 9++(Vc 7++Vd 7))).all fun p=>p.1.au 600)=true:=by kernel_rfl
theorem V9 (ad:ea) (C:sk) {al ρ bT:aa} (hI:Inv al 9 ρ) (ah:aA 600 ρ bT) {aU:J} (hb:(aU.all fun p=>p.1.au 600)=true) (u:J.ok bT aU) (dv:bT.i 443=1)
  (GT:DT.ok bc (bW (sP false) 9) .leaf ((bV 47,false)::aU)=true) (aqS:DT.ok bc (bW (sP true) 9) .leaf ((.eq (.uf 2 0 dw) (.lit 1),true)::(bV 47,true)::aU)=true) (rW:DT.ok bc (bW [] 9) .leaf ((.eq (.uf 2 0 dw) (.lit 1),false)::(bV 47,true)::aU)=true):Nx al 9 ρ:=by
 have hT:=(hI.tx (by decide)).bC ah
 have to:∀{ax},aA 600 ρ ax->cV ax 9->Nx al 9 ρ:=fun mR=>Hj mR hI (fun _=>(hI.tx (by decide)).bC mR) (fun h=>by omega) (fun h=>by omega)
 refine Sy u (fun hf=>to ah (part ad [] (List.forall_mem_nil _) rfl rW hf)) fun ag A E => ?_
 obtain⟨ax,bj,hG⟩:=C.l2 bT ag (gz ah (by kernel_rfl) (NZ hI)) hT dv A E
 have dV:=gz bj hb u
 have e1:(bV 47).I ax=ag:=by rw[<-BE.aP bj (bV 47) (by kernel_rfl)];exact A
 have e2:ag=true->(BE.eq (.uf 2 0 dw) (.lit 1)).I ax=true:=fun h=>by rw[<-BE.aP bj _ (by kernel_rfl)];exact E h
 have hf:=UW e1 e2 dV
 refine to (ah.trans bj) ?_
 cases ag with
 | true=>exact part ad _ hG rfl aqS hf
 | false=>exact part ad _ hG rfl GT hf
theorem V8 (ad:ea) (C:sk) {al ρ bT:aa} (hI:Inv al 7 ρ) (ah:aA 600 ρ bT) (hz:bT.len 610=0) {aU:J} (hb:(aU.all fun p=>p.1.au 600)=true) (u:J.ok bT aU) (dv:bT.i 443=1)
  (ai9:DT.ok bc (bW (sO false++[iX false false,ix false false]) 7) .leaf ((bV 47,false)::aU)=true) (ajp:DT.ok bc (bW (sO true++[iX true false,ix true false]) 7) .leaf ((.eq (.uf 2 0 dw) (.lit 1),true)::(bV 47,true)::aU)=true)
  (sr:DT.ok bc (bW [iX false true,ix false true] 7) .leaf (uH++((bV 47,false)::aU))=true) (at_:DT.ok bc (bW [iX true true,ix true true] 7) .leaf (uH++((.eq (.uf 2 0 dw) (.lit 1),true)::(bV 47,true)::aU))=true)
  (rW:DT.ok bc (bW [] 7) .leaf ((.eq (.uf 2 0 dw) (.lit 1),false)::(bV 47,true)::aU)=true):Nx al 7 ρ:=by
 have hT:=(hI.tx (by decide)).bC ah
 have to:∀{ax},aA 600 ρ ax->(1<=ax.len 610->w9 ax)->cV ax 7->Nx al 7 ρ:=fun mR sR=>Hj mR hI (fun _=>(hI.tx (by decide)).bC mR) (fun h=>by omega) (fun _=>sR)
 refine Sy u (fun hf=>to ah (fun h=>by omega) (part ad [] (List.forall_mem_nil _) rfl rW hf)) fun ag A E => ?_
 obtain⟨ax,bj,hG⟩:=C.l1 bT ag (gz ah (by kernel_rfl) (NZ hI)) hT dv A E
 have dV:=gz bj hb u
 have e1:(bV 47).I ax=ag:=by rw[<-BE.aP bj (bV 47) (by kernel_rfl)];exact A
 have e2:ag=true->(BE.eq (.uf 2 0 dw) (.lit 1)).I ax=true:=fun h=>by rw[<-BE.aP bj _ (by kernel_rfl)];exact E h
 have hf:=UW e1 e2 dV
 rcases hG with⟨VA,hG⟩ | ⟨h3,sR,hG⟩
 ·refine to (ah.trans bj) (fun h=>by omega) ?_
  cases ag with
  | true=>exact part ad _ hG rfl ajp hf
  | false=>exact part ad _ hG rfl ai9 hf
 ·refine to (ah.trans bj) (fun _=>sR) ?_
  have ha:=acQ h3 (hT.bC bj) sR
  cases ag with
  | true=>exact part ad _ hG rfl at_ (dZ ha hf)
  | false=>exact part ad _ hG rfl sr (dZ ha hf)
theorem step (ad:ea) (C:sk) {al ρ:aa} {i:Nat} (hK:Key al) (hI:Inv al i ρ):Nx al i ρ:=by
 by_cases aT:ρ.i 400<ρ.len 2
 ·have O:=hI.lt
  rcases(show i=0\/i=1\/i=2\/i=3\/i=4\/i=5\/i=6\/i=7\/i=8\/i=9 by omega)with h | h | h | h | h | h | h | h | h | h<;>subst h
  ·exact ub ad C hK hI aT sC rfl tw0 tn0 fun G _ u to ht=>rd0 ad u to ht
  ·exact ub ad C hK hI aT sC rfl tw1 tn1 fun G _ u to ht=>rd1 ad u to ht
  ·exact ub ad C hK hI aT .leaf rfl tw2 tn2 fun G _ u to ht=>rd2 ad u to ht
  ·exact ub ad C hK hI aT .leaf rfl tw3 tn3 fun G _ u to ht=>rd3 ad u to ht
  ·exact ub ad C hK hI aT .leaf rfl tw4 tn4 fun G _ u to ht=>rd4 ad u to ht
  ·exact ub ad C hK hI aT .leaf rfl tw5 tn5 fun G _ u to ht=>rd5 ad u to ht
  ·exact ub ad C hK hI aT .leaf rfl tw6 tn6 fun G _ u to ht=>rd6 ad u to ht
  ·refine Qp C hK hI aT fun G ah hz u to ht => ?_
   have hT:=(hI.tx (by decide)).bC ah
   obtain⟨b1,b2⟩:=BH Ve
   obtain⟨b2,de⟩:=BH b2
   obtain⟨de,fq⟩:=BH de
   exact rd7 ad u to (ht ad .leaf rfl tw7 tn7) (fun hf=>V8 ad C hI ah hz de hf (HA (hf _ List.mem_cons_self)) ahB ahD ahA ahC ahE) (Vh hT) (Vi hT) (fun hf=>V8 ad C hI ah hz fq hf (HA (hf _ List.mem_cons_self)) ahG ahI ahF ahH ahJ)
  ·exact ub ad C hK hI aT .leaf rfl tw8 tn8 fun G _ u to ht=>rd8 ad u to ht
  ·refine Qp C hK hI aT fun G ah hz u to ht => ?_
   have hT:=(hI.tx (by decide)).bC ah
   obtain⟨b1,b2⟩:=BH Ve
   obtain⟨b2,de⟩:=BH b2
   exact rd9 ad u to (ht ad .leaf rfl tw9 tn9) (fun hf=>V9 ad C hI ah b1 hf (HA (hf _ List.mem_cons_self)) ahK ahL ahM) (Vh hT) (Vi hT) (fun hf=>V9 ad C hI ah b2 hf (HA (hf _ List.mem_cons_self)) ahN ahO ahP)
 ·have u:=ae6 hK hI aT
  have O:=hI.lt
  obtain⟨G,ah,hz,h⟩:=JZ C hK hI
  have hB:i<=1->1<=G.len 621->qv G:=fun _ A=>by
   rcases h with⟨_,h,_⟩ | ⟨h,_⟩
   ·exact h
   ·omega
  have to:cV G i->Nx al i ρ:=Hj ah hI (fun h6=>(hI.tx h6).bC ah) hB (fun _ h=>by omega)
  have u:=gz ah (List.all_eq_true.1 ae5 i (List.mem_range.2 O)) u
  refine to ?_
  rcases(show i=0\/i=1\/i=2\/i=3\/i=4\/i=5\/i=6\/i=7\/i=8\/i=9 by omega)with h | h | h | h | h | h | h | h | h | h<;>subst h
  ·exact ex0 ad u
  ·exact ex1 ad u
  ·exact ex2 ad u
  ·exact ex3 ad u
  ·exact ex4 ad u
  ·exact ex5 ad u
  ·exact ex6 ad u
  ·exact ex7 ad u
  ·exact ex8 ad u
  ·exact ex9 ad u
end Go.Proofs.YtpdfmnhgocpkcaaGreat
namespace Go.Proofs.YtpdfmnhgocpkcaaGreat
open Go Go.Proofs.Aw Go.Proofs.Xw
set_option maxRecDepth 100000
def ri:Bind:=⟨((List.range 14).map fun k=>(400+k,.lit 0))++((List.range 13).map fun k=>(418+k,.lit 0)),[(428,.lit false)],[],[(460,.lit 0,.one [])]⟩
theorem aq7:gp rq 400 ri [] (Ss 0) (sA.zK [] (Ss 0).h)=true:=by kernel_rfl
theorem aq6:sA.au 400=true:=by kernel_rfl
theorem VD:ri.ge 400=true:=by kernel_rfl
noncomputable def ahQ (i:Nat):bo:=⟨(dF kb).getD 0,rq,400,sA,gJ,[],.ret (.exit 0,oO (Ss i))⟩
theorem ag6 {ρ:aa} (h:J.ok ρ di):Inv ρ 0 (ri.ap ρ):=by
 have ah:aA 400 ρ (ri.ap ρ):=Bind.bC VD ρ
 have O:=gz ah (by kernel_rfl) h
 have d1:1<=ρ.i 0:=pq h 0 rfl
 refine⟨ah,by decide,fun C hC => ?_,fun j k t M _ => ?_,fun h=>by omega⟩
 ·have e:=X1
  rw[hC]at e
  have e:C.b6=FI:=Option.some.inj e
  rw[e]
  have q1:(ri.ap ρ).i 0=ρ.i 0:=(ah.i 0 (by decide)).symm
  refine dZ O (fF ?_ (fF ?_ (fF ?_ (xK ?_ (fF ?_ (fF ?_ (fF ?_ (fF ?_ (J.bq _)))))))))
  ·show(0:Int)<=0;omega
  ·show(0:Int)<=((ri.ap ρ).len 2:Int);omega
  ·show(0:Int)<=0;omega
  ·show(0:Int)<(ri.ap ρ).i 0;omega
  ·show(0:Int)<=2;omega
  ·show(0:Int)<=0;omega
  ·show(0:Int)<=0;omega
  ·show(0:Int)<=1099511627776;omega
 ·have:(ri.ap ρ).len 460=0:=rfl
  omega
theorem loop (ad:ea) (C:sk) {ρ:aa} (hK:Key ρ) (O:J.ok ρ di):∃i ar,aA 400 ρ ar/\Inv ρ i ar/\AK.1.I ar=false/\b8 Tryz.prog ar Tryz.f9.ntmps kb (V6 i):=by
 have key:=Wj (P:=Tryz.prog) (N:=Tryz.f9.ntmps) (body:=kb) (k0:=rq) (n:=400) (S0:=sA) (ρ:=ρ) aq6 Ss ahQ (fun _=>⟨rfl,rfl,rfl⟩) (fun i G=>Inv ρ i G) (fun _ G=>AK.1.I G=false) (fun G=>ρ.len 2-(G.i 400).toNat) (fun i G hI=>by
  rcases step ad C hK hI with h | ⟨i',ax,A,E,h3,h4⟩
  ·exact .inl h
  ·right
   obtain⟨g1,_⟩:=FM hI
   obtain⟨g2,_⟩:=FM E
   have q1:=g1.mQ;have q2:=g1.bp;have q3:=g1.bj
   have w:ax.i 400=G.i 400+1:=by rw[h3];exact cp _ (by omega) (by omega)
   have q4:=g2.bp
   have e:ax.len 2=ρ.len 2:=(E.ah.len 2 (by decide)).symm
   exact⟨i',ax,A,E,by omega,h4⟩)
 obtain⟨i,ar,A,E,h4,h3⟩:=key ⟨0,ri.ap ρ,Bind.bC VD ρ,ag6 O,fun ac _ bM=>vH (w4 (XS.Rc ρ [] (Ss 0).h sA)) (lL bM aq7 ρ)⟩
 exact⟨i,ar,A,E,h4,fun ac hE bM=>h3 ac hE fun m hm=>Nat.lt_of_lt_of_le (bM m hm) (Nat.zero_le _)⟩
end Go.Proofs.YtpdfmnhgocpkcaaGreat
namespace Go.Proofs.YtpdfmnhgocpkcaaGreat
open Go Go.Proofs.Aw Go.Proofs.Xw
set_option maxRecDepth 100000
open Classical in
theorem Wk {P:Program} {N:Nat} {body:Code} {k0 n:Nat} {S0:XS} (hS:S0.au n=true) (S:XS) (L:Nat->bo) (hL:∀i,(L i).k0=k0/\(L i).S=S0/\(L i).init=gJ) (ao:aa->Prop) (dr:aa->Nat)
  (hR:∀ρ,ao ρ->js P N body k0 S (L 0).out ρ\/js P N body k0 S (L 1).out ρ\/∃G,ei P N body k0 S S ρ G/\ao G/\dr G<dr ρ/\aA n ρ G)
  {ρ al:aa} (h0:aA n ρ al) (hr:ao al) (hi:∀ac:Aw.Env,ac.N=N->(∀m,ac.c0.kn m->m.1<k0)->dL ac (S0.I ρ) (S.I al)):∃(i:Nat) (ar:aa),(i=0\/i=1)/\aA n ρ ar/\ao ar/\b8 P ar N body (L i):=by
 let pick:aa->Nat:=fun ρ=>if js P N body k0 S (L 1).out ρ then 1 else 0
 have alt:∀ρ,pick ρ=0\/pick ρ=1:=fun ρ=>by simp only[pick];split<;>simp
 obtain⟨i,ar,A,⟨E,h3⟩,h4⟩:=Wh (P:=P) (N:=N) (body:=body) (k0:=k0) (n:=n) (S0:=S0) (ρ:=ρ) hS (fun _=>S) L hL (fun i ρ=>ao ρ/\i=pick ρ) dr (fun i ρ ⟨A,E⟩=>by
  subst E
  by_cases F:js P N body k0 S (L 1).out ρ
  ·left
   simp only[pick,if_pos F]
   exact F
  ·rcases hR ρ A with h | h | ⟨G,g1,g2,g3,g4⟩
   ·left
    simp only[pick,if_neg F]
    exact h
   ·exact absurd h F
   ·exact .inr ⟨pick G,G,g1,⟨g2,rfl⟩,g3,g4⟩) ⟨pick al,al,h0,⟨hr,rfl⟩,hi⟩
 exact⟨i,ar,by rw[h3];exact alt ar,A,E,h4⟩
def B5 (i j:X) (f:Bool):bf:=[(8,i),(7,.sc (.i .i64 (.len 0))),(6,iL f),(4,j),(0,iL f),(1,xs 0)]
def VY (f:Bool):XS:=⟨B5 (xn 0) .top f,[],4⟩
def yr (f:Bool):XS:=⟨B5 (xi 10) .top f,[],4⟩
def Nu (f:Bool):Nat->XE×XS
 | 0=>(.exit 0,⟨B5 (xi 10) .top f,[],30⟩)
 | _=>(.ret,⟨B5 (xi 10) (xi 10) f,[],30⟩)
noncomputable def rp:Code:=(ef (Tryz.f140.body.getD .skip))[0]?.getD .skip
def VX (f:Bool):List dq:=[⟨yr f,zH,[]⟩]
noncomputable def ahl (f:Bool) (B:J):T (XE×XS):=(cz (bg [] (fun _=>[])).ti (eT ⟨bg [] (fun _=>[]),[],[]⟩ 12) [] 0 [] 1000 rp B (yr f)).map (eu ((B5 (xi 10) .top f).map (·.1)))
noncomputable def Nv (f:Bool) (k:Nat) (B:J):Bool:=dX 0 10 10 [] (0,[]) 0 (VX f) (Nu f k).2 (Nu f k).1 B (ahl f B)
def Ns:BE := .seq (.var 0) (.cl 0 0 (.var 10))
theorem ahm:um (fun f _=>Nv f 0 zG&&(Nv f 1 ((Ns,true)::qq)&&Nv f 0 ((Ns,false)::qq)))=true:=by kernel_rfl
noncomputable def B4 (f:Bool) (k:Nat):bo:=⟨(dF rp).getD 0,0,10,VY f,gJ,[],.ret (Nu f k)⟩
theorem Nw:dp Tryz.f140.ntmps rp=true:=by kernel_rfl
theorem ahn (f:Bool) {m:Nat} {ρ:aa} (hn:ρ.len 0=m) (hb:m<=4611686018427387904):∃(i:Nat) (ar:aa),(i=0\/i=1)/\aA 10 ρ ar/\nR m ar/\b8 Tryz.prog ar Tryz.f140.ntmps rp (B4 f i):=by
 have H:∀G,cf Tryz.prog G (bg [] (fun _=>[])):=fun G=>lb (List.forall_mem_nil _)
 have bJ:=zF ahm f false
 simp only[Bool.and_eq_true]at bJ
 obtain⟨r0,r1,r2⟩:=bJ
 let β:Bind:=⟨[(10,.lit 0)],[],[],[]⟩
 refine Wk (P:=Tryz.prog) (N:=Tryz.f140.ntmps) (body:=rp) (k0:=0) (n:=10) (S0:=VY f) (ρ:=ρ) (by cases f<;>kernel_rfl) (yr f) (B4 f) (fun i=>⟨rfl,rfl,rfl⟩) (nR m) (fun G=>m-(G.i 10).toNat) (fun G hR => ?_) (al:=β.ap ρ) (Bind.bC (by kernel_rfl) ρ) ⟨hn,hb,Int.le_refl _,show(0:Int)<=m by omega⟩ (fun ac _ bM=>lL (k0:=0) (n:=10) (nm:=[]) bM (by cases f<;>kernel_rfl) ρ)
 have q1:=hR.n;have q2:=hR.b;have q3:=hR.i0;have q4:=hR.i1
 have aO:=ft (c:=⟨bg [] (fun _=>[]),[],[]⟩) (H G) (List.forall_mem_nil _) 12
 by_cases aT:G.i 10<G.len 0
 ·have e1:w1.I G=G.i 10+1:=(show w1.I G=IntKind.i64.wrap (G.i 10+1)from rfl).trans (cp _ (by omega) (by omega))
  have u:J.ok G qq:=J.aw (decide_eq_true aT) (J.aw (decide_eq_false (by rw[e1];show ¬_<(0:Int);omega)) (J.aw (decide_eq_false (by rw[e1];show ¬(G.len 0:Int)<_;omega)) (zI hR)))
  have go:(∃(j:Nat) (C:dq) (ax:aa),(VX f)[j]? = some C/\ei Tryz.prog Tryz.f140.ntmps rp 0 (yr f) C.S G ax/\ax.i 10=IntKind.i64.wrap (G.i 10+1)/\aA 10 G ax)->∃ax,ei Tryz.prog Tryz.f140.ntmps rp 0 (yr f) (yr f) G ax/\nR m ax/\m-(ax.i 10).toNat<m-(G.i 10).toNat/\aA 10 G ax:=fun⟨j,C,ax,A,E,h4,h5⟩=>by
   match j,A with
   | 0,A =>
    cases A
    have e4:ax.i 10=G.i 10+1:=by rw[h4];exact cp _ (by omega) (by omega)
    have iV:ax.len 0=G.len 0:=(h5.len 0 (by omega)).symm
    exact⟨ax,E,⟨by omega,hb,by omega,by omega⟩,by omega,h5⟩
  rcases k_ Ns G with W | W
  ·rcases ij mixed dj aO (a5.nil _ _ _ _) Nw (J.aw W u) r1 with h | ⟨j,C,ax,A,E,_,h4,h5,_⟩
   ·exact .inr (.inl h)
   ·exact .inr (.inr (go ⟨j,C,ax,A,E,h4,h5⟩))
  ·rcases ij mixed dj aO (a5.nil _ _ _ _) Nw (J.aw W u) r2 with h | ⟨j,C,ax,A,E,_,h4,h5,_⟩
   ·exact .inl h
   ·exact .inr (.inr (go ⟨j,C,ax,A,E,h4,h5⟩))
 ·have u:J.ok G zG:=J.aw (decide_eq_false aT) (zI hR)
  rcases ij mixed dj aO (a5.nil _ _ _ _) Nw u r0 with h | ⟨j,C,ax,A,E,h3,h4,h5,_⟩
  ·exact .inl h
  ·exfalso
   match j,A with
   | 0,A =>
    cases A
    have e4:ax.i 10=G.i 10+1:=by rw[h4];exact cp _ (by omega) (by omega)
    have iV:ax.len 0=G.len 0:=(h5.len 0 (by omega)).symm
    have:=h3 _ (List.mem_cons_of_mem _ List.mem_cons_self)
    have:¬(ax.len 0:Int)<ax.i 10:=of_decide_eq_false this
    omega
noncomputable def Nt (f:Bool) (k:Nat) (g:Nat):List bo:=if Nat.beq g 140=true then [B4 f k]else []
noncomputable def Nr (f:Bool) (k:Nat):cr:=⟨bg [] (Nt f k),[],[]⟩
theorem ahp:um (fun f k=>match aS (Nr f (if k=true then 1 else 0)) 117 [iL f,xs 0] wX with | .ret (.sc (.b _))=>true | _=>false)=true:=by kernel_rfl
theorem aho (f:Bool) (k:Nat) {ρ:aa} (h:b8 Tryz.prog ρ Tryz.f140.ntmps rp (B4 f k)) (u:k=0\/k=1):∀g i,eS g gA=some i->a5 Tryz.prog ρ i.ntmps (Nt f k g) i.body:=fun g i hi=>by
 unfold Nt
 split
 ·rename_i hf
  have hf:=Nat.eq_of_beq_eq_true hf
  subst hf
  have e:eS 140 gA=some (fi Tryz.f140 []):=by kernel_rfl
  rw[e]at hi
  cases hi
  exact lE [0] (by cases f<;>rcases u with rfl | rfl<;>kernel_rfl) (List.forall_mem_cons.2 ⟨lD (L:=B4 f k) (c:=rp) (by cases f<;>rcases u with rfl | rfl<;>kernel_rfl) h,List.forall_mem_nil _⟩)
 ·exact a5.nil _ _ _ _
theorem YI {ρ:aa} {ss:List ByteArray} (O:ρ.len 0=ss.length) (H:∀j (h:j<ss.length),ρ.cs 0 0 j=ss[j]):aX ρ (.len 0) (.var 0 [.s])=fC ss:=by
 unfold aX fC
 have l:((U.len 0).I ρ).toNat=ss.length:=by show((ρ.len 0:Nat):Int).toNat=_;omega
 rw[l]
 apply List.ext_getElem?
 intro j
 rw[List.getElem?_map,List.getElem?_map]
 by_cases M:j<ss.length
 ·rw[List.getElem?_range M,List.getElem?_eq_getElem M,Option.map_some,Option.map_some]
  show some [AV.sc (.string (ρ.cs 0 0 ((j:Int)).toNat))]=_
  rw[Int.toNat_natCast,H j M]
 ·rw[List.getElem?_eq_none (by rw[List.length_range];omega),List.getElem?_eq_none (by omega)];rfl
theorem aec (ss:List ByteArray) (s:ByteArray) (f:Bool) (O:ss.length<=4611686018427387904):∃b:Bool,cj Tryz.prog 117=true/\∀n h,CY Tryz.prog n 117 [.ro 1 (fC ss) f,.sc (.string s)] h (.sc (.bool b)) []:=by
 let ρ:aa:=⟨fun _=>0,fun _=>false,fun _=>s,fun _=>ss.length,fun _ _ _=>0,fun _ _ _=>false,fun _ _ j=>(ss[j]?).getD ⟨#[]⟩,kN⟩
 obtain⟨i,ar,hi,A,E,h3⟩:=ahn f (ρ:=ρ) (m:=ss.length) rfl O
 have u:J.ok ar wX:=by
  have q1:=E.n;have q2:=E.b;have q3:=E.i0;have q4:=E.i1
  exact J.aw (decide_eq_false (by show ¬(4611686018427387904:Int)<ar.len 0;omega)) (J.aw (decide_eq_false (by show ¬(ar.len 0:Int)<ar.i 10;omega)) (J.aw (decide_eq_false (by show ¬ar.i 10<0;omega)) (J.bq ar)))
 have e:X.af ar [iL f,xs 0]=[.ro 1 (fC ss) f,.sc (.string s)]:=by
  have r:aX ar (.len 0) (.var 0 [.s])=fC ss:=YI E.n fun j M=>by
   rw[<-A.cs 0 (by omega)]
   show(ss[j]?).getD ⟨#[]⟩=_
   rw[List.getElem?_eq_getElem M];rfl
  have r2:ar.s 0=s:=(A.s 0 (by omega)).symm
  show [AV.ro 1 (aX ar (.len 0) (.var 0 [.s])) f,AV.sc (.string (ar.s 0))]=_
  rw[r,r2]
 have go:∀k:Bool,i=(if k=true then 1 else 0)->∃b:Bool,cj Tryz.prog 117=true/\∀n h,CY Tryz.prog n 117 [.ro 1 (fC ss) f,.sc (.string s)] h (.sc (.bool b)) []:=fun k aJ=>by
  have hw:=zF ahp f k
  have H:cf Tryz.prog ar (Nr f (if k=true then 1 else 0)).c:=jz (List.forall_mem_nil _) (by rw[<-aJ];exact aho f i h3 hi)
  split at hw
  ·rename_i b hx
   have q:=eG H (List.forall_mem_nil _) u (show(aS (Nr f (if k=true then 1 else 0)) 117 [iL f,xs 0] wX).aq ar=some _ by rw[hx];rfl)
   rw[e]at q
   exact⟨b.I ar,q⟩
  ·cases hw
 rcases hi with h | h
 ·exact go false h
 ·exact go true h
end Go.Proofs.YtpdfmnhgocpkcaaGreat
namespace Go.Proofs.YtpdfmnhgocpkcaaGreat
open Go Go.Proofs.Aw Go.Proofs.Xw
set_option maxRecDepth 100000
def C4 (i r:X) (f:Bool):bf:=[(7,i),(6,.sc (.i .i64 (.len 0))),(5,iL f),(2,r),(0,iL f)]
def Ym (f:Bool):XS:=⟨C4 (xn 0) .top f,[],4⟩
def lP (f:Bool):XS:=⟨C4 (xi 10) .top f,[],4⟩
def p' (f:Bool):Nat->XE×XS
 | 0=>(.exit 0,⟨C4 (xi 10) .top f,[],60⟩)
 | _=>(.ret,⟨C4 (xi 10) (xl false) f,[],60⟩)
noncomputable def lO:Code:=(ef (Tryz.f87.body.getD .skip))[0]?.getD .skip
def Yl (f:Bool):List dq:=[⟨lP f,zH,[]⟩]
def H4:List (Nat×List X×X):=[(117,[.rl 1 (.var 10) (.var 0 [.s]) false,.sc (.s (.cl 0 0 (.var 10)))],xb 12)]
noncomputable def aql (f:Bool) (B:J):T (XE×XS):=(cz (bg H4 (fun _=>[])).ti (eT ⟨bg H4 (fun _=>[]),[],[]⟩ 12) [] 0 [] 1000 lO B (lP f)).map (eu ((C4 (xi 10) .top f).map (·.1)))
noncomputable def zg (f:Bool) (k:Nat) (B:J):Bool:=dX 0 10 10 [] (0,[]) 0 (Yl f) (p' f k).2 (p' f k).1 B (aql f B)
def C3:BE := .lt (.cm (.cl 0 0 (.var 10))) (.lit 1)
def H2:BE := .lt (.lit 16) (.cm (.cl 0 0 (.var 10)))
theorem aqm:um (fun f _=>zg f 0 zG&&(zg f 1 ((C3,true)::qq)&&(zg f 1 ((H2,true)::(C3,false)::qq)&&(zg f 1 ((.var 12,true)::(H2,false)::(C3,false)::qq)&&zg f 0 ((.var 12,false)::(H2,false)::(C3,false)::qq)))))=true:=by kernel_rfl
noncomputable def wC (f:Bool) (k:Nat):bo:=⟨(dF lO).getD 0,0,10,Ym f,gJ,[],.ret (p' f k)⟩
theorem Yn:dp Tryz.f87.ntmps lO=true:=by kernel_rfl
theorem aqG {ρ:aa} (n:Nat) {l:Nat} (h:ρ.i 10=n):∃ss:List ByteArray,ss.length=n/\aX ρ (.var 10) (.var l [.s])=fC ss:=by
 refine⟨(List.range n).map fun j=>ρ.cs l 0 j,by simp,?_⟩
 unfold aX fC
 have e:((U.var 10).I ρ).toNat=n:=by show(ρ.i 10).toNat=n;omega
 rw[e,List.map_map]
 rfl
theorem aqn (f:Bool) {m:Nat} {ρ:aa} (hn:ρ.len 0=m) (hb:m<=4611686018427387904):∃(i:Nat) (ar:aa),(i=0\/i=1)/\aA 10 ρ ar/\nR m ar/\b8 Tryz.prog ar Tryz.f87.ntmps lO (wC f i):=by
 have bJ:=zF aqm f false
 simp only[Bool.and_eq_true]at bJ
 obtain⟨r0,r1,r2,r3,ape⟩:=bJ
 let β:Bind:=⟨[(10,.lit 0)],[],[],[]⟩
 refine Wk (P:=Tryz.prog) (N:=Tryz.f87.ntmps) (body:=lO) (k0:=0) (n:=10) (S0:=Ym f) (ρ:=ρ) (by cases f<;>kernel_rfl) (lP f) (wC f) (fun i=>⟨rfl,rfl,rfl⟩) (nR m) (fun G=>m-(G.i 10).toNat) (fun G hR => ?_) (al:=β.ap ρ) (Bind.bC (by kernel_rfl) ρ) ⟨hn,hb,Int.le_refl _,show(0:Int)<=m by omega⟩ (fun ac _ bM=>lL (k0:=0) (n:=10) (nm:=[]) bM (by cases f<;>kernel_rfl) ρ)
 have q1:=hR.n;have q2:=hR.b;have q3:=hR.i0;have q4:=hR.i1
 obtain⟨ss,O,F⟩:=aqG (ρ:=G) (G.i 10).toNat (l:=0) (by omega)
 obtain⟨b,Mc,hX⟩:=aec ss (G.cs 0 0 (G.i 10).toNat) false (by omega)
 let bT:aa:={ G with b:=fun k=>if k=12 then b else G.b k }
 have xT:nR m bT:=⟨q1,q2,q3,q4⟩
 have hd:(lP f).I bT=(lP f).I G:=by cases f<;>rfl
 have hdo:∀k,((p' f k).2).I bT=((p' f k).2).I G:=fun k=>by cases f<;>cases k<;>rfl
 have vd:cf Tryz.prog bT (bg H4 (fun _=>[])):=jz (List.forall_mem_cons.2 ⟨⟨Mc,fun n h=>by
  have e1:X.af bT [.rl 1 (.var 10) (.var 0 [.s]) false,.sc (.s (.cl 0 0 (.var 10)))]=[.ro 1 (fC ss) false,.sc (.string (G.cs 0 0 (G.i 10).toNat))]:=by
   rw[<-F];rfl
  have e2:(xb 12).I bT = .sc (.bool b):=rfl
  rw[e1,e2]
  exact hX n h⟩,List.forall_mem_nil _⟩) (fun _ _ _=>a5.nil _ _ _ _)
 have aO:=ft (c:=⟨bg H4 (fun _=>[]),[],[]⟩) vd (List.forall_mem_nil _) 12
 have PP:∀k,js Tryz.prog Tryz.f87.ntmps lO 0 (lP f) (.ret (p' f k)) bT->js Tryz.prog Tryz.f87.ntmps lO 0 (lP f) (.ret (p' f k)) G:=fun k h ac hE bM=>by
  have:=h ac hE bM
  rw[hd]at this
  refine dB (fun e V hq => ?_) this
  obtain⟨e',s,g1,g2,g3,g4⟩:=hq
  have g2:some (p' f k)=some (e',s):=g2
  have g2:=Option.some.inj g2
  exact⟨(p' f k).1,(p' f k).2,by rw[g2];exact g1,rfl,by rw[g2];exact g3,by rw[<-hdo k,g2];exact g4⟩
 have Eo:aA 10 G bT:=⟨fun _ _=>rfl,fun k u=>by show G.b k=if k=12 then b else G.b k;rw[if_neg (by omega)],fun _ _=>rfl,fun _ _=>rfl,fun _ _=>rfl,fun _ _=>rfl,fun _ _=>rfl,fun _ _=>rfl⟩
 have go:G.i 10<G.len 0->(∃(j:Nat) (C:dq) (ax:aa),(Yl f)[j]? = some C/\ei Tryz.prog Tryz.f87.ntmps lO 0 (lP f) C.S bT ax/\ax.i 10=IntKind.i64.wrap (bT.i 10+1)/\aA 10 bT ax)->∃ax,ei Tryz.prog Tryz.f87.ntmps lO 0 (lP f) (lP f) G ax/\nR m ax/\m-(ax.i 10).toNat<m-(G.i 10).toNat/\aA 10 G ax:=fun aT ⟨j,C,ax,A,E,h4,h5⟩=>by
  match j,A with
  | 0,A =>
   cases A
   have h4:ax.i 10=IntKind.i64.wrap (G.i 10+1):=h4
   have e4:ax.i 10=G.i 10+1:=by rw[h4];exact cp _ (by omega) (by omega)
   have UH:=Eo.trans h5
   have iV:ax.len 0=G.len 0:=(UH.len 0 (by omega)).symm
   exact⟨ax,fun ac hE bM=>by rw[<-hd];exact E ac hE bM,⟨by omega,hb,by omega,by omega⟩,by omega,UH⟩
 by_cases aT:G.i 10<G.len 0
 ·have e1:w1.I bT=G.i 10+1:=(show w1.I bT=IntKind.i64.wrap (G.i 10+1)from rfl).trans (cp _ (by omega) (by omega))
  have u:J.ok bT qq:=J.aw (decide_eq_true aT) (J.aw (decide_eq_false (by rw[e1];show ¬_<(0:Int);omega)) (J.aw (decide_eq_false (by rw[e1];show ¬(G.len 0:Int)<_;omega)) (zI xT)))
  have one:∀(k:Nat) (B:J),(k=0\/k=1)->J.ok bT B->zg f k B=true->js Tryz.prog Tryz.f87.ntmps lO 0 (lP f) (wC f 0).out G\/js Tryz.prog Tryz.f87.ntmps lO 0 (lP f) (wC f 1).out G\/∃ax,ei Tryz.prog Tryz.f87.ntmps lO 0 (lP f) (lP f) G ax/\nR m ax/\m-(ax.i 10).toNat<m-(G.i 10).toNat/\aA 10 G ax:=fun k B eV u hr=>by
   rcases ij mixed dj aO (a5.nil _ _ _ _) Yn u hr with h | ⟨j,C,ax,A,E,_,h4,h5,_⟩
   ·rcases eV with rfl | rfl
    ·exact .inl (PP 0 h)
    ·exact .inr (.inl (PP 1 h))
   ·exact .inr (.inr (go aT ⟨j,C,ax,A,E,h4,h5⟩))
  rcases k_ C3 bT with A | A
  ·exact one 1 _ (.inr rfl) (J.aw A u) r1
  ·rcases k_ H2 bT with E | E
   ·exact one 1 _ (.inr rfl) (J.aw E (J.aw A u)) r2
   ·rcases k_ (.var 12) bT with h3 | h3
    ·exact one 1 _ (.inr rfl) (J.aw h3 (J.aw E (J.aw A u))) r3
    ·exact one 0 _ (.inl rfl) (J.aw h3 (J.aw E (J.aw A u))) ape
 ·have u:J.ok bT zG:=J.aw (decide_eq_false aT) (zI xT)
  rcases ij mixed dj aO (a5.nil _ _ _ _) Yn u r0 with h | ⟨j,C,ax,A,E,h3,h4,h5,_⟩
  ·exact .inl (PP 0 h)
  ·exfalso
   match j,A with
   | 0,A =>
    cases A
    have h4:ax.i 10=IntKind.i64.wrap (G.i 10+1):=h4
    have e4:ax.i 10=G.i 10+1:=by rw[h4];exact cp _ (by omega) (by omega)
    have iV:ax.len 0=G.len 0:=(h5.len 0 (by omega)).symm
    have:=h3 _ (List.mem_cons_of_mem _ List.mem_cons_self)
    have:¬(ax.len 0:Int)<ax.i 10:=of_decide_eq_false this
    omega
noncomputable def PF (f:Bool) (k:Nat) (g:Nat):List bo:=if Nat.beq g 87=true then [wC f k]else []
noncomputable def PE (f:Bool) (k:Nat):cr:=⟨bg [] (PF f k),[],[]⟩
def H3:J:=(.lt (.lit 6) (.len 0),true)::wX
def VL:T X->Bool
 | .ret (.sc (.b e))=>tg (fB H3 (.not e))
 | _=>false
theorem aqp:um (fun f k=>VL (aS (PE f (if k=true then 1 else 0)) 87 [iL f] H3))=true:=by kernel_rfl
theorem aqo (f:Bool) (k:Nat) {ρ:aa} (h:b8 Tryz.prog ρ Tryz.f87.ntmps lO (wC f k)) (u:k=0\/k=1):∀g i,eS g gA=some i->a5 Tryz.prog ρ i.ntmps (PF f k g) i.body:=fun g i hi=>by
 unfold PF
 split
 ·rename_i hf
  have hf:=Nat.eq_of_beq_eq_true hf
  subst hf
  have e:eS 87 gA=some (fi Tryz.f87 []):=by kernel_rfl
  rw[e]at hi
  cases hi
  exact lE [0] (by cases f<;>rcases u with rfl | rfl<;>kernel_rfl) (List.forall_mem_cons.2 ⟨lD (L:=wC f k) (c:=lO) (by cases f<;>rcases u with rfl | rfl<;>kernel_rfl) h,List.forall_mem_nil _⟩)
 ·exact a5.nil _ _ _ _
theorem aqq (ss:List ByteArray) (f:Bool) (h6:6<ss.length) (O:ss.length<=4611686018427387904):cj Tryz.prog 87=true/\∀n h,CY Tryz.prog n 87 [.ro 1 (fC ss) f] h (.sc (.bool false)) []:=by
 let ρ:aa:=⟨fun _=>0,fun _=>false,fun _=>⟨#[]⟩,fun _=>ss.length,fun _ _ _=>0,fun _ _ _=>false,fun _ _ j=>(ss[j]?).getD ⟨#[]⟩,kN⟩
 obtain⟨i,ar,hi,A,E,h3⟩:=aqn f (ρ:=ρ) (m:=ss.length) rfl O
 have u:J.ok ar H3:=by
  have q1:=E.n;have q2:=E.b;have q3:=E.i0;have q4:=E.i1
  exact J.aw (decide_eq_true (by show(6:Int)<ar.len 0;omega)) (J.aw (decide_eq_false (by show ¬(4611686018427387904:Int)<ar.len 0;omega)) (J.aw (decide_eq_false (by show ¬(ar.len 0:Int)<ar.i 10;omega)) (J.aw (decide_eq_false (by show ¬ar.i 10<0;omega)) (J.bq ar))))
 have e:X.af ar [iL f]=[.ro 1 (fC ss) f]:=by
  have r:aX ar (.len 0) (.var 0 [.s])=fC ss:=YI E.n fun j M=>by
   rw[<-A.cs 0 (by omega)]
   show(ss[j]?).getD ⟨#[]⟩=_
   rw[List.getElem?_eq_getElem M];rfl
  show [AV.ro 1 (aX ar (.len 0) (.var 0 [.s])) f]=_
  rw[r]
 have go:∀k:Bool,i=(if k=true then 1 else 0)->cj Tryz.prog 87=true/\∀n h,CY Tryz.prog n 87 [.ro 1 (fC ss) f] h (.sc (.bool false)) []:=fun k aJ=>by
  have hw:=zF aqp f k
  have H:cf Tryz.prog ar (PE f (if k=true then 1 else 0)).c:=jz (List.forall_mem_nil _) (by rw[<-aJ];exact aqo f i h3 hi)
  unfold VL at hw
  split at hw
  ·rename_i b hx
   have hb:(!(b.I ar))=true:=xq u hw
   have hb:b.I ar=false:=by simpa using hb
   have q:=eG H (List.forall_mem_nil _) u (show(aS (PE f (if k=true then 1 else 0)) 87 [iL f] H3).aq ar=some _ by rw[hx];rfl)
   rw[e]at q
   simp only[X.I,Sc.I,hb]at q
   exact q
  ·cases hw
 rcases hi with h | h
 ·exact go false h
 ·exact go true h
end Go.Proofs.YtpdfmnhgocpkcaaGreat
