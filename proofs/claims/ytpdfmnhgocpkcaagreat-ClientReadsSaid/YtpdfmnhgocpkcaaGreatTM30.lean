/- Parts of the proof, one behind the other. -/
import Derived.Test.YtpdfmnhgocpkcaaGreatTM27
import Derived.Test.YtpdfmnhgocpkcaaGreatTM28
import Derived.Test.YtpdfmnhgocpkcaaGreatTM29
import Derived.Test.YtpdfmnhgocpkcaaGreatTM15
import Derived.Test.YtpdfmnhgocpkcaaGreatTM3
namespace Go.Proofs.YtpdfmnhgocpkcaaGreat
open Go Go.Proofs.Aw Go.Proofs.Xw
set_option maxRecDepth 100000
structure Inv (J0:Rho) (i:Nat) (J:Rho):Prop where
 ag:Agree 400 J0 J
 lt:i<10
 fa:∀C,csL[i]? = some C->Facts.ok J C.Ψ
 ty:BD 460 ktE J
 tx:6<=i->TI J
def Nx (J0:Rho) (i:Nat) (J:Rho):Prop:=yA Tryz.prog Tryz.f5.ntmps Yc kL (Ss i) (.ret (.exit 0,Ko (Ss i))) J\/∃(i':Nat) (J':Rho),StepF Tryz.prog Tryz.f5.ntmps Yc kL (Ss i) (Ss i') J J'/\Inv J0 i' J'/\J'.i 400=IntKind.i64.wrap (J.i 400+1)/\Agree 400 J J'
theorem bl4:(csL.all fun C=>C.S.bel 600&&(Ko C.S).bel 600)=true:=by kernel_rfl
theorem am9:csL.length=10:=by kernel_rfl
theorem al6:(csL[6]?).map (·.al)=some [alB 0,alB 1,Pq 6 PW,Pq 7 PW,alA 7 PW false,alA 7 PW true]:=rfl
theorem al7:(csL[7]?).map (·.al)=some [Pq 6 PW,Pq 7 PW]:=rfl
theorem al8:(csL[8]?).map (·.al)=some [Pq 8 XF,Pq 9 XF,alA 9 XF false,alA 9 XF true,alT false,alT true]:=rfl
theorem al9:(csL[9]?).map (·.al)=some [Pq 8 XF,Pq 9 XF]:=rfl
theorem aw9 {i j:Nat} {D:Cls} {J J':Rho} (hj:csL[j]? = some D) (h6:6<=j) (ha:D.al=[]\/∃a∈D.al,a.fr=i/\kW a J J') (hT:6<=i->TI J) (hB:i<=1->1<=J.len 621->NewI J) (hU:i=7->1<=J.len 610->TurnI J):TI J':=by
 have hl:j<10:=by
  have:=(List.getElem?_eq_some_iff.1 hj).1
  rw[am9]at this;exact this
 have first:∀fr,fr<=1->fr=i->kW (alB fr) J J'->TI J':=fun fr h1 h2 a=>by
  have h3:¬(J.len 621:Int)<1:=of_decide_eq_false (a.1 _ List.mem_cons_self)
  have n:=hB (by omega) (by omega)
  exact TI.first n.l6 n.ky n.td n.cu a
 have turn:∀has,7=i->kW (alT has) J J'->TI J':=fun has h2 a=>by
  have h3:¬(J.len 610:Int)<1:=of_decide_eq_false (a.1 _ List.mem_cons_self)
  have n:=hU (by omega) (by omega)
  exact(hT (by omega)).turn n.l6 n.td a
 rcases(show j=6\/j=7\/j=8\/j=9 by omega)with rfl | rfl | rfl | rfl
 ·have e:=al6
  rw[hj]at e
  have e:D.al=_:=Option.some.inj e
  rw[e]at ha
  simp only[List.cons_ne_nil,false_or,List.mem_cons,List.not_mem_nil,or_false]at ha
  obtain⟨a,h,hf,hh⟩:=ha
  rcases h with rfl | rfl | rfl | rfl | rfl | rfl
  ·exact first 0 (by omega) hf hh
  ·exact first 1 (by omega) hf hh
  ·exact TI.keep nY (hT (by have:6=i:=hf;omega)) hh
  ·exact TI.keep nY (hT (by have:7=i:=hf;omega)) hh
  ·exact TI.more nY (hT (by have:7=i:=hf;omega)) hh
  ·exact TI.more nY (hT (by have:7=i:=hf;omega)) hh
 ·have e:=al7
  rw[hj]at e
  have e:D.al=_:=Option.some.inj e
  rw[e]at ha
  simp only[List.cons_ne_nil,false_or,List.mem_cons,List.not_mem_nil,or_false]at ha
  obtain⟨a,h,hf,hh⟩:=ha
  rcases h with rfl | rfl
  ·exact TI.keep nY (hT (by have:6=i:=hf;omega)) hh
  ·exact TI.keep nY (hT (by have:7=i:=hf;omega)) hh
 ·have e:=al8
  rw[hj]at e
  have e:D.al=_:=Option.some.inj e
  rw[e]at ha
  simp only[List.cons_ne_nil,false_or,List.mem_cons,List.not_mem_nil,or_false]at ha
  obtain⟨a,h,hf,hh⟩:=ha
  rcases h with rfl | rfl | rfl | rfl | rfl | rfl
  ·exact TI.keep wC (hT (by have:8=i:=hf;omega)) hh
  ·exact TI.keep wC (hT (by have:9=i:=hf;omega)) hh
  ·exact TI.more wC (hT (by have:9=i:=hf;omega)) hh
  ·exact TI.more wC (hT (by have:9=i:=hf;omega)) hh
  ·exact turn false hf hh
  ·exact turn true hf hh
 ·have e:=al9
  rw[hj]at e
  have e:D.al=_:=Option.some.inj e
  rw[e]at ha
  simp only[List.cons_ne_nil,false_or,List.mem_cons,List.not_mem_nil,or_false]at ha
  obtain⟨a,h,hf,hh⟩:=ha
  rcases h with rfl | rfl
  ·exact TI.keep wC (hT (by have:8=i:=hf;omega)) hh
  ·exact TI.keep wC (hT (by have:9=i:=hf;omega)) hh
theorem Us {J0 J J':Rho} {i:Nat} (ag:Agree 600 J J') (hI:Inv J0 i J) (hT:6<=i->TI J') (hB:i<=1->1<=J'.len 621->NewI J') (hU:i=7->1<=J'.len 610->TurnI J') (R:qE J' i):Nx J0 i J:=by
 obtain⟨C,hC,R⟩:=R
 have hb:=List.all_eq_true.1 bl4 C (List.mem_of_getElem? hC)
 rw[Bool.and_eq_true]at hb
 have e1:C.S.den J=C.S.den J':=XS.bel_den ag _ hb.1
 have e2:(Ko C.S).den J=(Ko C.S).den J':=XS.bel_den ag _ hb.2
 unfold Nx
 rw[aT2 hC]
 rcases R with R | ⟨j,D,J2,h1,h2,h3,h4,h5,h6,h7⟩
 ·left
  intro E hE hkn
  have:=R E hE hkn
  rw[<-e1]at this
  refine bY (fun e σ hq => ?_) this
  obtain⟨e',s,q1,q2,q3,q4⟩:=hq
  cases q2
  exact⟨.exit 0,Ko C.S,q1,rfl,q3,by rw[e2];exact q4⟩
 ·right
  refine⟨j,J2,fun E hE hkn => ?_,⟨hI.ag.trans ((ag.le (by decide)).trans h5),?_,fun C' hC' => ?_,h6 ?_,fun hj=>aw9 h1 hj h7 hT hB hU⟩,by rw[h4,ag.i 400 (by decide)],(ag.le (by decide)).trans h5⟩
  ·rw[e1,aT2 h1];exact h2 E hE hkn
  ·have:=(List.getElem?_eq_some_iff.1 h1).1
   rw[am9]at this;exact this
  ·rw[h1]at hC';cases hC';exact h3
  ·intro j' k t hj' hk'
   have:=hI.ty j' k t (by rw[ag.len 460 (by decide)];exact hj') hk'
   rw[ag.ct 460 (by decide)]at this
   exact this
end Go.Proofs.YtpdfmnhgocpkcaaGreat
namespace Go.Proofs.YtpdfmnhgocpkcaaGreat
open Go Go.Proofs.Aw Go.Proofs.Xw
set_option maxRecDepth 100000
theorem aY9 {J0 J:Rho} (hK:Key J0) (ag:Agree 400 J0 J):Facts.ok J bA1:=by
 obtain⟨h1,h2⟩:=hK (J.i 400).toNat
 have e:(cA 1002).den J=J0.ci 2 1002 (J.i 400).toNat:=by
  show J.ci 2 1002 (J.i 400).toNat=_
  rw[<-ag.ci 2 (by decide)]
 exact fF (by rw[e];exact h1) (fF (by rw[e];exact h2) (nil_ok' J))
where nil_ok' (J:Rho):Facts.ok J []:=Facts.ok_nil J
theorem hd_ok {J0 J:Rho} {i:Nat} (hK:Key J0) (hI:Inv J0 i J):Facts.ok J (hdL i):=by
 unfold hdL
 refine aY ?_ (aY (aY9 hK hI.ag) ?_)
 ·split
  ·rename_i C hC;exact hI.fa C hC
  ·exact Facts.ok_nil J
 ·split
  ·rename_i h
   have h:=hI.tx (Nat.le_of_ble_eq_true h)
   exact aY h.tr h.key0
  ·exact Facts.ok_nil J
theorem bB6:(csL[0]?).map (·.Ψ)=some hdE:=rfl
theorem DR {J0 J:Rho} {i:Nat} (hI:Inv J0 i J):Hd J/\(1<=i->(J.len 460:Int)<=J.i 400):=by
 have go:∀(k:Nat) (Ψ:Facts),i=k->(csL[k]?).map (·.Ψ)=some (hdF++Ψ)->Hd J/\(1<=i->(J.len 460:Int)<=J.i 400):=fun k Ψ hk h=>by
  subst hk
  obtain⟨C,hC,e⟩:=Option.map_eq_some_iff.1 h
  have:=hI.fa C hC
  rw[e]at this
  have:=bh2 (aS9 this)
  exact⟨this.1,fun _=>this.2⟩
 have hl:=hI.lt
 rcases(show i=0\/i=1\/i=2\/i=3\/i=4\/i=5\/i=6\/i=7\/i=8\/i=9 by omega)with h | h | h | h | h | h | h | h | h | h
 ·subst h
  obtain⟨C,hC,e⟩:=Option.map_eq_some_iff.1 bB6
  have:=hI.fa C hC
  rw[e]at this
  exact⟨bh3 this,fun h=>by omega⟩
 ·exact go 1 [] h rfl
 ·exact go 2 kdF h rfl
 ·exact go 3 kdF h rfl
 ·exact go 4 mvF h rfl
 ·exact go 5 mvF h rfl
 ·exact go 6 tnF h rfl
 ·exact go 7 tnF h rfl
 ·exact go 8 tnF h rfl
 ·exact go 9 tnF h rfl
theorem ae2 {J0 J:Rho} {i:Nat} (hI:Inv J0 i J):Facts.ok J rQ:=by
 have go:∀(k:Nat) (Ψ:Facts),i=k->(csL[k]?).map (·.Ψ)=some (rQ++Ψ)->Facts.ok J rQ:=fun k Ψ hk h=>by
  subst hk
  obtain⟨C,hC,e⟩:=Option.map_eq_some_iff.1 h
  have:=hI.fa C hC
  rw[e]at this
  exact aS9 this
 have hl:=hI.lt
 rcases(show i=0\/i=1\/i=2\/i=3\/i=4\/i=5\/i=6\/i=7\/i=8\/i=9 by omega)with h | h | h | h | h | h | h | h | h | h
 ·exact go 0 _ h rfl
 ·exact go 1 _ h rfl
 ·exact go 2 _ h rfl
 ·exact go 3 _ h rfl
 ·exact go 4 _ h rfl
 ·exact go 5 _ h rfl
 ·exact go 6 _ h rfl
 ·exact go 7 _ h rfl
 ·exact go 8 _ h rfl
 ·exact go 9 _ h rfl
theorem b39 {J0 J:Rho} {i:Nat} (hK:Key J0) (hI:Inv J0 i J) (hlt:J.i 400<J.len 2):Facts.ok J (gz i):=by
 obtain⟨h1,h2⟩:=DR hI
 have e:=bg4 h1
 have q1:=h1.a0;have q2:=h1.a1;have q3:=h1.a2
 refine Facts.ok_cons (decide_eq_true hlt) (aY ?_ (hd_ok hK hI))
 split
 ·exact fF (by rw[e];show(0:Int)<=_;omega) (fF (by rw[e];show _<=(J.len 2:Int);omega) (fF (by rw[e];show(1:Int)<=_;omega) (Facts.ok_nil J)))
 ·rename_i hc
  have q4:=h2 (by
   rcases Nat.eq_zero_or_pos i with h | h
   ·subst h;exact absurd rfl hc
   ·exact h)
  have em:(fC (.len 460) (.lit 1)).den J=(J.len 460:Int)+1:=by rw[bK];rfl
  exact fF (by rw[e];show(0:Int)<=_;omega) (fF (by rw[e];show _<=(J.len 2:Int);omega) (fF (by rw[e];show(J.len 460:Int)<=_;omega) (fF (by rw[e,em];omega) (fF (by rw[e];show(1:Int)<=_;omega) (fF (by show(J.len 460:Int)<=300;omega) (Facts.ok_nil J))))))
theorem bZ8 {J0 J:Rho} {i:Nat} (hK:Key J0) (hI:Inv J0 i J) (hlt:¬J.i 400<J.len 2):Facts.ok J (GM i):=Facts.ok_cons (decide_eq_false hlt) (hd_ok hK hI)
theorem bm8:((List.range 10).all fun i=>(gz i).all fun p=>p.1.bel 600)=true:=by kernel_rfl
theorem bj1:((List.range 10).all fun i=>(GM i).all fun p=>p.1.bel 600)=true:=by kernel_rfl
theorem ao1 {J J':Rho} (ag:Agree 600 J J') {i:Nat} (hi:i<10) (h:Facts.ok J (gz i)):Facts.ok J' (gz i) :=
 bG ag (List.all_eq_true.1 bm8 i (List.mem_range.2 hi)) h
theorem be7 {J0 J:Rho} (hK:Key J0) (ag:Agree 400 J0 J):0<=kyN.den J/\kyN.den J<=250:=by
 obtain⟨h1,h2⟩:=hK (J.i 400).toNat
 have e:kyN.den J=J0.ci 2 1002 (J.i 400).toNat:=by
  show J.ci 2 1002 (J.i 400).toNat=_
  rw[<-ag.ci 2 (by decide)]
 omega
theorem ao8 (C:Con) {J0 J:Rho} {i:Nat} (hK:Key J0) (hI:Inv J0 i J):∃J',Agree 600 J J'/\J'.len 610=0/\((Facts.ok J' wF/\NewI J'/\∀k∈yD false++yD true,iG Tryz.prog J' k)\/(J'.len 621=0/\∀k∈xm false++xm true,iG Tryz.prog J' k)):=by
 obtain⟨h1,h2⟩:=be7 hK hI.ag
 exact C.nw J (ae2 hI) h1 h2
theorem Zi (C:Con) {J0 J:Rho} {i:Nat} (hK:Key J0) (hI:Inv J0 i J) (hlt:J.i 400<J.len 2)
  (hr:∀J',Agree 600 J J'->J'.len 610=0->Facts.ok J' (gz i)->(qE J' i->Nx J0 i J)->(Bas->∀(dn:DT),Xm dn=true->DT.ok bH (kX (yD false++yD true) i) dn (wF++((aJ (cA 1) 4,true)::(aJ (cA 0) 1,true)::gz i))=true->DT.ok bH (kX (xm false++xm true) i) (.br (iH (cA 1002) 1) dn dn) ((aJ (cA 1) 4,true)::(aJ (cA 0) 1,true)::gz i)=true->Facts.ok J' ((aJ (cA 1) 4,true)::(aJ (cA 0) 1,true)::gz i)->Nx J0 i J)->Nx J0 i J):Nx J0 i J:=by
 obtain⟨J',ag,hz,h⟩:=ao8 C hK hI
 have hk:=ao1 ag hI.lt (b39 hK hI hlt)
 have hB:i<=1->1<=J'.len 621->NewI J':=fun _ h1=>by
  rcases h with⟨_,h,_⟩ | ⟨h,_⟩
  ·exact h
  ·omega
 have to:qE J' i->Nx J0 i J:=Us ag hI (fun h6=>(hI.tx h6).agree ag) hB (fun _ h=>by omega)
 refine hr J' ag hz hk to fun B dn hd hw ho hf=>to ?_
 rcases h with⟨h1,_,h3⟩ | ⟨_,h3⟩
 ·exact part B _ h3 hd hw (aY h1 hf)
 ·exact part B _ h3 (by simp only[Xm,hd,Bool.and_self]) ho hf
theorem BK (B:Bas) (C:Con) {J0 J:Rho} {i:Nat} (hK:Key J0) (hI:Inv J0 i J) (hlt:J.i 400<J.len 2) (dn:DT) (hd:Xm dn=true) (hw:DT.ok bH (kX (yD false++yD true) i) dn (wF++((aJ (cA 1) 4,true)::(aJ (cA 0) 1,true)::gz i))=true) (ho:DT.ok bH (kX (xm false++xm true) i) (.br (iH (cA 1002) 1) dn dn) ((aJ (cA 1) 4,true)::(aJ (cA 0) 1,true)::gz i)=true)
  (hr:∀J',Agree 600 J J'->Facts.ok J' (gz i)->(qE J' i->Nx J0 i J)->(Facts.ok J' ((aJ (cA 1) 4,true)::(aJ (cA 0) 1,true)::gz i)->Nx J0 i J)->Nx J0 i J):Nx J0 i J :=
 Zi C hK hI hlt fun J' ag _ hk to ht=>hr J' ag hk to (ht B dn hd hw ho)
def bX5 (i:Nat):Facts:=(.eq (.var 443) (.lit 1),true)::(aJ (cM 73) 0,true)::(aJ (cM 73) 60,false)::(aJ (cM 73) 92,false)::(aJ (cM 0) 6,true)::(aJ (cM 0) 4,false)::(.eq (cM 13) (.var 403),true)::(.eq (cM 12) (.var 402),true)::(aJ (cA 0) 2,true)::(aJ (cA 0) 1,false)::gz i
def bX4 (i:Nat):Facts:=(.eq (.var 443) (.lit 1),true)::(aJ (cM 73) 0,true)::(aJ (cM 73) 60,false)::(aJ (cM 73) 92,false)::(aJ (cM 0) 6,true)::(aJ (cM 0) 4,false)::(aJ (cA 0) 5,true)::(aJ (cA 0) 4,false)::(aJ (cA 0) 3,false)::(aJ (cA 0) 2,false)::(aJ (cA 0) 1,false)::gz i
theorem ai5:((bX5 9++(bX4 9++(bX5 7++bX4 7))).all fun p=>p.1.bel 600)=true:=by kernel_rfl
theorem aR0 (B:Bas) (C:Con) {J0 J J1:Rho} (hI:Inv J0 9 J) (ag:Agree 600 J J1) {F:Facts} (hb:(F.all fun p=>p.1.bel 600)=true) (hk:Facts.ok J1 F) (h43:J1.i 443=1)
  (rf:DT.ok bH (kX (gR2 false) 9) .leaf ((bM 47,false)::F)=true) (rt:DT.ok bH (kX (gR2 true) 9) .leaf ((.eq (.uf 2 0 alN) (.lit 1),true)::(bM 47,true)::F)=true) (rx:DT.ok bH (kX [] 9) .leaf ((.eq (.uf 2 0 alN) (.lit 1),false)::(bM 47,true)::F)=true):Nx J0 9 J:=by
 have hT:=(hI.tx (by decide)).agree ag
 have to:∀{J2},Agree 600 J J2->qE J2 9->Nx J0 9 J:=fun ag2=>Us ag2 hI (fun _=>(hI.tx (by decide)).agree ag2) (fun h=>by omega) (fun h=>by omega)
 refine ao0 hk (fun hf=>to ag (part B [] (List.forall_mem_nil _) rfl rx hf)) fun has h1 h2 => ?_
 obtain⟨J2,a2,hG⟩:=C.l2 J1 has (bG ag (by kernel_rfl) (ae2 hI)) hT h43 h1 h2
 have hk2:=bG a2 hb hk
 have e1:(bM 47).den J2=has:=by rw[<-BE.bel_den a2 (bM 47) (by kernel_rfl)];exact h1
 have e2:has=true->(BE.eq (.uf 2 0 alN) (.lit 1)).den J2=true:=fun h=>by rw[<-BE.bel_den a2 _ (by kernel_rfl)];exact h2 h
 have hf:=ai6 e1 e2 hk2
 refine to (ag.trans a2) ?_
 cases has with
 | true=>exact part B _ hG rfl rt hf
 | false=>exact part B _ hG rfl rf hf
theorem aR1 (B:Bas) (C:Con) {J0 J J1:Rho} (hI:Inv J0 7 J) (ag:Agree 600 J J1) (hz:J1.len 610=0) {F:Facts} (hb:(F.all fun p=>p.1.bel 600)=true) (hk:Facts.ok J1 F) (h43:J1.i 443=1)
  (nf:DT.ok bH (kX (gR1 false++[OI false false,MG false false]) 7) .leaf ((bM 47,false)::F)=true) (nt:DT.ok bH (kX (gR1 true++[OI true false,MG true false]) 7) .leaf ((.eq (.uf 2 0 alN) (.lit 1),true)::(bM 47,true)::F)=true)
  (af:DT.ok bH (kX [OI false true,MG false true] 7) .leaf (agF++((bM 47,false)::F))=true) (at_:DT.ok bH (kX [OI true true,MG true true] 7) .leaf (agF++((.eq (.uf 2 0 alN) (.lit 1),true)::(bM 47,true)::F))=true)
  (rx:DT.ok bH (kX [] 7) .leaf ((.eq (.uf 2 0 alN) (.lit 1),false)::(bM 47,true)::F)=true):Nx J0 7 J:=by
 have hT:=(hI.tx (by decide)).agree ag
 have to:∀{J2},Agree 600 J J2->(1<=J2.len 610->TurnI J2)->qE J2 7->Nx J0 7 J:=fun ag2 hU=>Us ag2 hI (fun _=>(hI.tx (by decide)).agree ag2) (fun h=>by omega) (fun _=>hU)
 refine ao0 hk (fun hf=>to ag (fun h=>by omega) (part B [] (List.forall_mem_nil _) rfl rx hf)) fun has h1 h2 => ?_
 obtain⟨J2,a2,hG⟩:=C.l1 J1 has (bG ag (by kernel_rfl) (ae2 hI)) hT h43 h1 h2
 have hk2:=bG a2 hb hk
 have e1:(bM 47).den J2=has:=by rw[<-BE.bel_den a2 (bM 47) (by kernel_rfl)];exact h1
 have e2:has=true->(BE.eq (.uf 2 0 alN) (.lit 1)).den J2=true:=fun h=>by rw[<-BE.bel_den a2 _ (by kernel_rfl)];exact h2 h
 have hf:=ai6 e1 e2 hk2
 rcases hG with⟨hz2,hG⟩ | ⟨h3,hU,hG⟩
 ·refine to (ag.trans a2) (fun h=>by omega) ?_
  cases has with
  | true=>exact part B _ hG rfl nt hf
  | false=>exact part B _ hG rfl nf hf
 ·refine to (ag.trans a2) (fun _=>hU) ?_
  have ha:=b51 h3 (hT.agree a2) hU
  cases has with
  | true=>exact part B _ hG rfl at_ (aY ha hf)
  | false=>exact part B _ hG rfl af (aY ha hf)
theorem step (B:Bas) (C:Con) {J0 J:Rho} {i:Nat} (hK:Key J0) (hI:Inv J0 i J):Nx J0 i J:=by
 by_cases hlt:J.i 400<J.len 2
 ·have hl:=hI.lt
  rcases(show i=0\/i=1\/i=2\/i=3\/i=4\/i=5\/i=6\/i=7\/i=8\/i=9 by omega)with h | h | h | h | h | h | h | h | h | h<;>subst h
  ·exact BK B C hK hI hlt dN rfl tw0 tn0 fun J' _ hk to ht=>rd0 B hk to ht
  ·exact BK B C hK hI hlt dN rfl tw1 tn1 fun J' _ hk to ht=>rd1 B hk to ht
  ·exact BK B C hK hI hlt .leaf rfl tw2 tn2 fun J' _ hk to ht=>rd2 B hk to ht
  ·exact BK B C hK hI hlt .leaf rfl tw3 tn3 fun J' _ hk to ht=>rd3 B hk to ht
  ·exact BK B C hK hI hlt .leaf rfl tw4 tn4 fun J' _ hk to ht=>rd4 B hk to ht
  ·exact BK B C hK hI hlt .leaf rfl tw5 tn5 fun J' _ hk to ht=>rd5 B hk to ht
  ·exact BK B C hK hI hlt .leaf rfl tw6 tn6 fun J' _ hk to ht=>rd6 B hk to ht
  ·refine Zi C hK hI hlt fun J' ag hz hk to ht => ?_
   have hT:=(hI.tx (by decide)).agree ag
   obtain⟨b1,b2⟩:=Fp ai5
   obtain⟨b2,b3⟩:=Fp b2
   obtain⟨b3,b4⟩:=Fp b3
   exact rd7 B hk to (ht B .leaf rfl tw7 tn7) (fun hf=>aR1 B C hI ag hz b3 hf (Ui (hf _ List.mem_cons_self)) be5 be1 be6 be3 bV6) (ai4 hT) (ai3 hT) (fun hf=>aR1 B C hI ag hz b4 hf (Ui (hf _ List.mem_cons_self)) bd9 bd7 be0 bd8 bV5)
  ·exact BK B C hK hI hlt .leaf rfl tw8 tn8 fun J' _ hk to ht=>rd8 B hk to ht
  ·refine Zi C hK hI hlt fun J' ag hz hk to ht => ?_
   have hT:=(hI.tx (by decide)).agree ag
   obtain⟨b1,b2⟩:=Fp ai5
   obtain⟨b2,b3⟩:=Fp b2
   exact rd9 B hk to (ht B .leaf rfl tw9 tn9) (fun hf=>aR0 B C hI ag b1 hf (Ui (hf _ List.mem_cons_self)) bV4 bV3 bV2) (ai4 hT) (ai3 hT) (fun hf=>aR0 B C hI ag b2 hf (Ui (hf _ List.mem_cons_self)) bV1 bV0 bU9)
 ·have hk:=bZ8 hK hI hlt
  have hl:=hI.lt
  obtain⟨J',ag,hz,h⟩:=ao8 C hK hI
  have hB:i<=1->1<=J'.len 621->NewI J':=fun _ h1=>by
   rcases h with⟨_,h,_⟩ | ⟨h,_⟩
   ·exact h
   ·omega
  have to:qE J' i->Nx J0 i J:=Us ag hI (fun h6=>(hI.tx h6).agree ag) hB (fun _ h=>by omega)
  have hk:=bG ag (List.all_eq_true.1 bj1 i (List.mem_range.2 hl)) hk
  refine to ?_
  rcases(show i=0\/i=1\/i=2\/i=3\/i=4\/i=5\/i=6\/i=7\/i=8\/i=9 by omega)with h | h | h | h | h | h | h | h | h | h<;>subst h
  ·exact ex0 B hk
  ·exact ex1 B hk
  ·exact ex2 B hk
  ·exact ex3 B hk
  ·exact ex4 B hk
  ·exact ex5 B hk
  ·exact ex6 B hk
  ·exact ex7 B hk
  ·exact ex8 B hk
  ·exact ex9 B hk
end Go.Proofs.YtpdfmnhgocpkcaaGreat
namespace Go.Proofs.YtpdfmnhgocpkcaaGreat
open Go Go.Proofs.Aw Go.Proofs.Xw
set_option maxRecDepth 100000
def iA:Bind:=⟨((List.range 14).map fun k=>(400+k,.lit 0))++((List.range 13).map fun k=>(418+k,.lit 0)),[(428,.lit false)],[],[(460,.lit 0,.one [])]⟩
theorem bz2:okS kL 400 iA [] (Ss 0) (sA.wk [] (Ss 0).h)=true:=by kernel_rfl
theorem aY1:sA.bel 400=true:=by kernel_rfl
theorem aR7:iA.ge 400=true:=by kernel_rfl
noncomputable def lI (i:Nat):LoopX:=⟨(bW Yc).getD 0,kL,400,sA,noB,[],.ret (.exit 0,Ko (Ss i))⟩
theorem inv0 {J:Rho} (h:Facts.ok J rQ):Inv J 0 (iA.ap J):=by
 have ag:Agree 400 J (iA.ap J):=Bind.agree aR7 J
 have hl:=bG ag (by kernel_rfl) h
 have d1:1<=J.i 0:=G7 h 0 rfl
 refine⟨ag,by decide,fun C hC => ?_,fun j k t hj _ => ?_,fun h=>by omega⟩
 ·have e:=bB6
  rw[hC]at e
  have e:C.Ψ=hdE:=Option.some.inj e
  rw[e]
  have q1:(iA.ap J).i 0=J.i 0:=(ag.i 0 (by decide)).symm
  refine aY hl (fF ?_ (fF ?_ (fF ?_ (fT ?_ (fF ?_ (fF ?_ (fF ?_ (fF ?_ (Facts.ok_nil _)))))))))
  ·show(0:Int)<=0;omega
  ·show(0:Int)<=((iA.ap J).len 2:Int);omega
  ·show(0:Int)<=0;omega
  ·show(0:Int)<(iA.ap J).i 0;omega
  ·show(0:Int)<=2;omega
  ·show(0:Int)<=0;omega
  ·show(0:Int)<=0;omega
  ·show(0:Int)<=1099511627776;omega
 ·have:(iA.ap J).len 460=0:=rfl
  omega
theorem loop (B:Bas) (C:Con) {J:Rho} (hK:Key J) (hl:Facts.ok J rQ):∃i Jf,Agree 400 J Jf/\Inv J i Jf/\LoopOk Tryz.prog Jf Tryz.f5.ntmps Yc (lZ i):=by
 have key:=xI (P:=Tryz.prog) (N:=Tryz.f5.ntmps) (body:=Yc) (k0:=kL) (n:=400) (S0:=sA) (J:=J) aY1 Ss lI (fun _=>⟨rfl,rfl,rfl⟩) (fun i J'=>Inv J i J') (fun J'=>J.len 2-(J'.i 400).toNat) (fun i J' hI=>by
  rcases step B C hK hI with h | ⟨i',J2,h1,h2,h3,h4⟩
  ·exact .inl h
  ·right
   obtain⟨g1,_⟩:=DR hI
   obtain⟨g2,_⟩:=DR h2
   have q1:=g1.a0;have q2:=g1.a1;have q3:=g1.a2
   have w:J2.i 400=J'.i 400+1:=by rw[h3];exact aP _ (by omega) (by omega)
   have q4:=g2.a1
   have e:J2.len 2=J.len 2:=(h2.ag.len 2 (by decide)).symm
   exact⟨i',J2,h1,h2,by omega,h4⟩)
 obtain⟨i,Jf,h1,h2,h3⟩:=key ⟨0,iA.ap J,Bind.agree aR7 J,inv0 hl,fun E _ hkn=>o6 (BG (XS.wk_le J [] (Ss 0).h sA)) (jq hkn bz2 J)⟩
 exact⟨i,Jf,h1,h2,fun E hE hkn=>h3 E hE fun m hm=>Nat.lt_of_lt_of_le (hkn m hm) (Nat.zero_le _)⟩
end Go.Proofs.YtpdfmnhgocpkcaaGreat
namespace Go.Proofs.YtpdfmnhgocpkcaaGreat
open Go Go.Proofs.Aw Go.Proofs.Xw
set_option maxRecDepth 100000
open Classical in
theorem EW {P:Program} {N:Nat} {body:Code} {k0 n:Nat} {S0:XS} (hS:S0.bel n=true) (S:XS) (L:Nat->LoopX) (hL:∀i,(L i).k0=k0/\(L i).S=S0/\(L i).init=noB) (R:Rho->Prop) (M:Rho->Nat)
  (hR:∀J,R J->yA P N body k0 S (L 0).out J\/yA P N body k0 S (L 1).out J\/∃J',StepF P N body k0 S S J J'/\R J'/\M J'<M J/\Agree n J J')
  {J J0:Rho} (h0:Agree n J J0) (hr:R J0) (hi:∀E:Aw.Env,E.N=N->(∀m,E.c0.kn m->m.1<k0)->wZ E (S0.den J) (S.den J0)):∃(i:Nat) (Jf:Rho),(i=0\/i=1)/\Agree n J Jf/\R Jf/\LoopOk P Jf N body (L i):=by
 let pick:Rho->Nat:=fun J=>if yA P N body k0 S (L 1).out J then 1 else 0
 have pk:∀J,pick J=0\/pick J=1:=fun J=>by simp only[pick];split<;>simp
 obtain⟨i,Jf,h1,⟨h2,h3⟩,h4⟩:=xI (P:=P) (N:=N) (body:=body) (k0:=k0) (n:=n) (S0:=S0) (J:=J) hS (fun _=>S) L hL (fun i J=>R J/\i=pick J) M (fun i J ⟨h1,h2⟩=>by
  subst h2
  by_cases he:yA P N body k0 S (L 1).out J
  ·left
   simp only[pick,if_pos he]
   exact he
  ·rcases hR J h1 with h | h | ⟨J',g1,g2,g3,g4⟩
   ·left
    simp only[pick,if_neg he]
    exact h
   ·exact absurd h he
   ·exact .inr ⟨pick J',J',g1,⟨g2,rfl⟩,g3,g4⟩) ⟨pick J0,J0,h0,⟨hr,rfl⟩,hi⟩
 exact⟨i,Jf,by rw[h3];exact pk Jf,h1,h2,h4⟩
def ixT (i j:X) (f:Bool):ig:=[(8,i),(7,.sc (.i .i64 (.len 0))),(6,MB f),(4,j),(0,MB f),(1,xs 0)]
def bW3 (f:Bool):XS:=⟨ixT (xn 0) .top f,[],4⟩
def ixS (f:Bool):XS:=⟨ixT (xi 10) .top f,[],4⟩
def ixO (f:Bool):Nat->XE×XS
 | 0=>(.exit 0,⟨ixT (xi 10) .top f,[],30⟩)
 | _=>(.ret,⟨ixT (xi 10) (xi 10) f,[],30⟩)
noncomputable def ixB:Code:=(dw (Tryz.f140.body.getD .skip))[0]?.getD .skip
def ixC (f:Bool):List Cls:=[⟨ixS f,wdF,[]⟩]
noncomputable def bW4 (f:Bool) (Φ:Facts):T (XE×XS):=(dG (bU [] (fun _=>[])).ti (iK ⟨bU [] (fun _=>[]),[],[]⟩ 12) [] 0 [] 1000 ixB Φ (ixS f)).map (yC ((ixT (xi 10) .top f).map (·.1)))
noncomputable def bf1 (f:Bool) (k:Nat) (Φ:Facts):Bool:=jV 0 10 10 [] (0,[]) 0 (ixC f) (ixO f k).2 (ixO f k).1 Φ (bW4 f Φ)
def ixH:BE := .seq (.var 0) (.cl 0 0 (.var 10))
theorem bW1:BH (fun f _=>bf1 f 0 wdE&&(bf1 f 1 ((ixH,true)::wdG)&&bf1 f 0 ((ixH,false)::wdG)))=true:=by kernel_rfl
noncomputable def ixL (f:Bool) (k:Nat):LoopX:=⟨(bW ixB).getD 0,0,10,bW3 f,noB,[],.ret (ixO f k)⟩
theorem KL:fD Tryz.f140.ntmps ixB=true:=by kernel_rfl
theorem aG5 (f:Bool) {m:Nat} {J:Rho} (hn:J.len 0=m) (hb:m<=4611686018427387904):∃(i:Nat) (Jf:Rho),(i=0\/i=1)/\Agree 10 J Jf/\WdI m Jf/\LoopOk Tryz.prog Jf Tryz.f140.ntmps ixB (ixL f i):=by
 have hc:∀J',CfgOk Tryz.prog J' (bU [] (fun _=>[])):=fun J'=>lG (List.forall_mem_nil _)
 have hrun:=qH bW1 f false
 simp only[Bool.and_eq_true]at hrun
 obtain⟨r0,r1,r2⟩:=hrun
 let β:Bind:=⟨[(10,.lit 0)],[],[],[]⟩
 refine EW (P:=Tryz.prog) (N:=Tryz.f140.ntmps) (body:=ixB) (k0:=0) (n:=10) (S0:=bW3 f) (J:=J) (by cases f<;>kernel_rfl) (ixS f) (ixL f) (fun i=>⟨rfl,rfl,rfl⟩) (WdI m) (fun J'=>m-(J'.i 10).toNat) (fun J' hR => ?_) (J0:=β.ap J) (Bind.agree (by kernel_rfl) J) ⟨hn,hb,Int.le_refl _,show(0:Int)<=m by omega⟩ (fun E _ hkn=>jq (k0:=0) (n:=10) (nm:=[]) hkn (by cases f<;>kernel_rfl) J)
 have q1:=hR.n;have q2:=hR.b;have q3:=hR.i0;have q4:=hR.i1
 have hcall:=dP (c:=⟨bU [] (fun _=>[]),[],[]⟩) (hc J') (List.forall_mem_nil _) 12
 by_cases hlt:J'.i 10<J'.len 0
 ·have e1:w1q.den J'=J'.i 10+1:=(show w1q.den J'=IntKind.i64.wrap (J'.i 10+1)from rfl).trans (aP _ (by omega) (by omega))
  have hk:Facts.ok J' wdG:=Facts.ok_cons (decide_eq_true hlt) (Facts.ok_cons (decide_eq_false (by rw[e1];show ¬_<(0:Int);omega)) (Facts.ok_cons (decide_eq_false (by rw[e1];show ¬(J'.len 0:Int)<_;omega)) (Ac hR)))
  have go:(∃(j:Nat) (C:Cls) (J2:Rho),(ixC f)[j]? = some C/\StepF Tryz.prog Tryz.f140.ntmps ixB 0 (ixS f) C.S J' J2/\J2.i 10=IntKind.i64.wrap (J'.i 10+1)/\Agree 10 J' J2)->∃J2,StepF Tryz.prog Tryz.f140.ntmps ixB 0 (ixS f) (ixS f) J' J2/\WdI m J2/\m-(J2.i 10).toNat<m-(J'.i 10).toNat/\Agree 10 J' J2:=fun⟨j,C,J2,h1,h2,h4,h5⟩=>by
   match j,h1 with
   | 0,h1 =>
    cases h1
    have e4:J2.i 10=J'.i 10+1:=by rw[h4];exact aP _ (by omega) (by omega)
    have e5:J2.len 0=J'.len 0:=(h5.len 0 (by omega)).symm
    exact⟨J2,h2,⟨by omega,hb,by omega,by omega⟩,by omega,h5⟩
  rcases RJ ixH J' with hh | hh
  ·rcases iL mixed dm hcall (LpsOk.nil _ _ _ _) KL (Facts.ok_cons hh hk) r1 with h | ⟨j,C,J2,h1,h2,_,h4,h5,_⟩
   ·exact .inr (.inl h)
   ·exact .inr (.inr (go ⟨j,C,J2,h1,h2,h4,h5⟩))
  ·rcases iL mixed dm hcall (LpsOk.nil _ _ _ _) KL (Facts.ok_cons hh hk) r2 with h | ⟨j,C,J2,h1,h2,_,h4,h5,_⟩
   ·exact .inl h
   ·exact .inr (.inr (go ⟨j,C,J2,h1,h2,h4,h5⟩))
 ·have hk:Facts.ok J' wdE:=Facts.ok_cons (decide_eq_false hlt) (Ac hR)
  rcases iL mixed dm hcall (LpsOk.nil _ _ _ _) KL hk r0 with h | ⟨j,C,J2,h1,h2,h3,h4,h5,_⟩
  ·exact .inl h
  ·exfalso
   match j,h1 with
   | 0,h1 =>
    cases h1
    have e4:J2.i 10=J'.i 10+1:=by rw[h4];exact aP _ (by omega) (by omega)
    have e5:J2.len 0=J'.len 0:=(h5.len 0 (by omega)).symm
    have:=h3 _ (List.mem_cons_of_mem _ List.mem_cons_self)
    have:¬(J2.len 0:Int)<J2.i 10:=of_decide_eq_false this
    omega
noncomputable def bf2 (f:Bool) (k:Nat) (g:Nat):List LoopX:=if Nat.beq g 140=true then [ixL f k]else []
noncomputable def ah0 (f:Bool) (k:Nat):Cfg2:=⟨bU [] (bf2 f k),[],[]⟩
theorem be9:BH (fun f k=>match aU (ah0 f (if k=true then 1 else 0)) 117 [MB f,xs 0] wdX with | .ret (.sc (.b _))=>true | _=>false)=true:=by kernel_rfl
theorem bf0 (f:Bool) (k:Nat) {J:Rho} (h:LoopOk Tryz.prog J Tryz.f140.ntmps ixB (ixL f k)) (hk:k=0\/k=1):∀g i,fO g su=some i->LpsOk Tryz.prog J i.ntmps (bf2 f k g) i.body:=fun g i hi=>by
 unfold bf2
 split
 ·rename_i hf
  have hf:=Nat.eq_of_beq_eq_true hf
  subst hf
  have e:fO 140 su=some (fi Tryz.f140 []):=by kernel_rfl
  rw[e]at hi
  cases hi
  exact jP [0] (by cases f<;>rcases hk with rfl | rfl<;>kernel_rfl) (List.forall_mem_cons.2 ⟨iD (L:=ixL f k) (c:=ixB) (by cases f<;>rcases hk with rfl | rfl<;>kernel_rfl) h,List.forall_mem_nil _⟩)
 ·exact LpsOk.nil _ _ _ _
theorem ND {J:Rho} {ss:List ByteArray} (hl:J.len 0=ss.length) (hc:∀j (h:j<ss.length),J.cs 0 0 j=ss[j]):aC J (.len 0) (.var 0 [.s])=nP ss:=by
 unfold aC nP
 have l:((IE.len 0).den J).toNat=ss.length:=by show((J.len 0:Nat):Int).toNat=_;omega
 rw[l]
 apply List.ext_getElem?
 intro j
 rw[List.getElem?_map,List.getElem?_map]
 by_cases hj:j<ss.length
 ·rw[List.getElem?_range hj,List.getElem?_eq_getElem hj,Option.map_some,Option.map_some]
  show some [AV.sc (.string (J.cs 0 0 ((j:Int)).toNat))]=_
  rw[Int.toNat_natCast,hc j hj]
 ·rw[List.getElem?_eq_none (by rw[List.length_range];omega),List.getElem?_eq_none (by omega)];rfl
theorem O5 (ss:List ByteArray) (s:ByteArray) (f:Bool) (hl:ss.length<=4611686018427387904):∃b:Bool,aQ Tryz.prog 117=true/\∀n h,CY Tryz.prog n 117 [.ro 1 (nP ss) f,.sc (.string s)] h (.sc (.bool b)) []:=by
 let J:Rho:=⟨fun _=>0,fun _=>false,fun _=>s,fun _=>ss.length,fun _ _ _=>0,fun _ _ _=>false,fun _ _ j=>(ss[j]?).getD ⟨#[]⟩,UB⟩
 obtain⟨i,Jf,hi,h1,h2,h3⟩:=aG5 f (J:=J) (m:=ss.length) rfl hl
 have hk:Facts.ok Jf wdX:=by
  have q1:=h2.n;have q2:=h2.b;have q3:=h2.i0;have q4:=h2.i1
  exact Facts.ok_cons (decide_eq_false (by show ¬(4611686018427387904:Int)<Jf.len 0;omega)) (Facts.ok_cons (decide_eq_false (by show ¬(Jf.len 0:Int)<Jf.i 10;omega)) (Facts.ok_cons (decide_eq_false (by show ¬Jf.i 10<0;omega)) (Facts.ok_nil Jf)))
 have e:X.denL Jf [MB f,xs 0]=[.ro 1 (nP ss) f,.sc (.string s)]:=by
  have r:aC Jf (.len 0) (.var 0 [.s])=nP ss:=ND h2.n fun j hj=>by
   rw[<-h1.cs 0 (by omega)]
   show(ss[j]?).getD ⟨#[]⟩=_
   rw[List.getElem?_eq_getElem hj];rfl
  have r2:Jf.s 0=s:=(h1.s 0 (by omega)).symm
  show [AV.ro 1 (aC Jf (.len 0) (.var 0 [.s])) f,AV.sc (.string (Jf.s 0))]=_
  rw[r,r2]
 have go:∀k:Bool,i=(if k=true then 1 else 0)->∃b:Bool,aQ Tryz.prog 117=true/\∀n h,CY Tryz.prog n 117 [.ro 1 (nP ss) f,.sc (.string s)] h (.sc (.bool b)) []:=fun k hk'=>by
  have hw:=qH be9 f k
  have hc:CfgOk Tryz.prog Jf (ah0 f (if k=true then 1 else 0)).c:=iW (List.forall_mem_nil _) (by rw[<-hk'];exact bf0 f i h3 hi)
  split at hw
  ·rename_i b hx
   have q:=dM hc (List.forall_mem_nil _) hk (show(aU (ah0 f (if k=true then 1 else 0)) 117 [MB f,xs 0] wdX).sel Jf=some _ by rw[hx];rfl)
   rw[e]at q
   exact⟨b.den Jf,q⟩
  ·cases hw
 rcases hi with h | h
 ·exact go false h
 ·exact go true h
end Go.Proofs.YtpdfmnhgocpkcaaGreat
namespace Go.Proofs.YtpdfmnhgocpkcaaGreat
open Go Go.Proofs.Aw Go.Proofs.Xw
set_option maxRecDepth 100000
def rgT (i r:X) (f:Bool):ig:=[(7,i),(6,.sc (.i .i64 (.len 0))),(5,MB f),(2,r),(0,MB f)]
def bA4 (f:Bool):XS:=⟨rgT (xn 0) .top f,[],4⟩
def Ua (f:Bool):XS:=⟨rgT (xi 10) .top f,[],4⟩
def rgO (f:Bool):Nat->XE×XS
 | 0=>(.exit 0,⟨rgT (xi 10) .top f,[],60⟩)
 | _=>(.ret,⟨rgT (xi 10) (xl false) f,[],60⟩)
noncomputable def Ub:Code:=(dw (Tryz.f87.body.getD .skip))[0]?.getD .skip
def rgC (f:Bool):List Cls:=[⟨Ua f,wdF,[]⟩]
def rgK:List (Nat×List X×X):=[(117,[.rl 1 (.var 10) (.var 0 [.s]) false,.sc (.s (.cl 0 0 (.var 10)))],xb 12)]
noncomputable def bA5 (f:Bool) (Φ:Facts):T (XE×XS):=(dG (bU rgK (fun _=>[])).ti (iK ⟨bU rgK (fun _=>[]),[],[]⟩ 12) [] 0 [] 1000 Ub Φ (Ua f)).map (yC ((rgT (xi 10) .top f).map (·.1)))
noncomputable def V3 (f:Bool) (k:Nat) (Φ:Facts):Bool:=jV 0 10 10 [] (0,[]) 0 (rgC f) (rgO f k).2 (rgO f k).1 Φ (bA5 f Φ)
def rg1:BE := .lt (.slen (.cl 0 0 (.var 10))) (.lit 1)
def rg2:BE := .lt (.lit 16) (.slen (.cl 0 0 (.var 10)))
theorem bA2:BH (fun f _=>V3 f 0 wdE&&(V3 f 1 ((rg1,true)::wdG)&&(V3 f 1 ((rg2,true)::(rg1,false)::wdG)&&(V3 f 1 ((.var 12,true)::(rg2,false)::(rg1,false)::wdG)&&V3 f 0 ((.var 12,false)::(rg2,false)::(rg1,false)::wdG)))))=true:=by kernel_rfl
noncomputable def rgL (f:Bool) (k:Nat):LoopX:=⟨(bW Ub).getD 0,0,10,bA4 f,noB,[],.ret (rgO f k)⟩
theorem TZ:fD Tryz.f87.ntmps Ub=true:=by kernel_rfl
theorem ZI {J:Rho} (n:Nat) {l:Nat} (h:J.i 10=n):∃ss:List ByteArray,ss.length=n/\aC J (.var 10) (.var l [.s])=nP ss:=by
 refine⟨(List.range n).map fun j=>J.cs l 0 j,by simp,?_⟩
 unfold aC nP
 have e:((IE.var 10).den J).toNat=n:=by show(J.i 10).toNat=n;omega
 rw[e,List.map_map]
 rfl
theorem az6 (f:Bool) {m:Nat} {J:Rho} (hn:J.len 0=m) (hb:m<=4611686018427387904):∃(i:Nat) (Jf:Rho),(i=0\/i=1)/\Agree 10 J Jf/\WdI m Jf/\LoopOk Tryz.prog Jf Tryz.f87.ntmps Ub (rgL f i):=by
 have hrun:=qH bA2 f false
 simp only[Bool.and_eq_true]at hrun
 obtain⟨r0,r1,r2,r3,r4⟩:=hrun
 let β:Bind:=⟨[(10,.lit 0)],[],[],[]⟩
 refine EW (P:=Tryz.prog) (N:=Tryz.f87.ntmps) (body:=Ub) (k0:=0) (n:=10) (S0:=bA4 f) (J:=J) (by cases f<;>kernel_rfl) (Ua f) (rgL f) (fun i=>⟨rfl,rfl,rfl⟩) (WdI m) (fun J'=>m-(J'.i 10).toNat) (fun J' hR => ?_) (J0:=β.ap J) (Bind.agree (by kernel_rfl) J) ⟨hn,hb,Int.le_refl _,show(0:Int)<=m by omega⟩ (fun E _ hkn=>jq (k0:=0) (n:=10) (nm:=[]) hkn (by cases f<;>kernel_rfl) J)
 have q1:=hR.n;have q2:=hR.b;have q3:=hR.i0;have q4:=hR.i1
 obtain⟨ss,hl,he⟩:=ZI (J:=J') (J'.i 10).toNat (l:=0) (by omega)
 obtain⟨b,hb1,hb2⟩:=O5 ss (J'.cs 0 0 (J'.i 10).toNat) false (by omega)
 let J1:Rho:={ J' with b:=fun k=>if k=12 then b else J'.b k }
 have hR1:WdI m J1:=⟨q1,q2,q3,q4⟩
 have hd:(Ua f).den J1=(Ua f).den J':=by cases f<;>rfl
 have hdo:∀k,((rgO f k).2).den J1=((rgO f k).2).den J':=fun k=>by cases f<;>cases k<;>rfl
 have hcf:CfgOk Tryz.prog J1 (bU rgK (fun _=>[])):=iW (List.forall_mem_cons.2 ⟨⟨hb1,fun n h=>by
  have e1:X.denL J1 [.rl 1 (.var 10) (.var 0 [.s]) false,.sc (.s (.cl 0 0 (.var 10)))]=[.ro 1 (nP ss) false,.sc (.string (J'.cs 0 0 (J'.i 10).toNat))]:=by
   rw[<-he];rfl
  have e2:(xb 12).den J1 = .sc (.bool b):=rfl
  rw[e1,e2]
  exact hb2 n h⟩,List.forall_mem_nil _⟩) (fun _ _ _=>LpsOk.nil _ _ _ _)
 have hcall:=dP (c:=⟨bU rgK (fun _=>[]),[],[]⟩) hcf (List.forall_mem_nil _) 12
 have toE:∀k,yA Tryz.prog Tryz.f87.ntmps Ub 0 (Ua f) (.ret (rgO f k)) J1->yA Tryz.prog Tryz.f87.ntmps Ub 0 (Ua f) (.ret (rgO f k)) J':=fun k h E hE hkn=>by
  have:=h E hE hkn
  rw[hd]at this
  refine bY (fun e σ hq => ?_) this
  obtain⟨e',s,g1,g2,g3,g4⟩:=hq
  have g2:some (rgO f k)=some (e',s):=g2
  have g2:=Option.some.inj g2
  exact⟨(rgO f k).1,(rgO f k).2,by rw[g2];exact g1,rfl,by rw[g2];exact g3,by rw[<-hdo k,g2];exact g4⟩
 have ag1:Agree 10 J' J1:=⟨fun _ _=>rfl,fun k hk=>by show J'.b k=if k=12 then b else J'.b k;rw[if_neg (by omega)],fun _ _=>rfl,fun _ _=>rfl,fun _ _=>rfl,fun _ _=>rfl,fun _ _=>rfl,fun _ _=>rfl⟩
 have go:J'.i 10<J'.len 0->(∃(j:Nat) (C:Cls) (J2:Rho),(rgC f)[j]? = some C/\StepF Tryz.prog Tryz.f87.ntmps Ub 0 (Ua f) C.S J1 J2/\J2.i 10=IntKind.i64.wrap (J1.i 10+1)/\Agree 10 J1 J2)->∃J2,StepF Tryz.prog Tryz.f87.ntmps Ub 0 (Ua f) (Ua f) J' J2/\WdI m J2/\m-(J2.i 10).toNat<m-(J'.i 10).toNat/\Agree 10 J' J2:=fun hlt ⟨j,C,J2,h1,h2,h4,h5⟩=>by
  match j,h1 with
  | 0,h1 =>
   cases h1
   have h4:J2.i 10=IntKind.i64.wrap (J'.i 10+1):=h4
   have e4:J2.i 10=J'.i 10+1:=by rw[h4];exact aP _ (by omega) (by omega)
   have h5':=ag1.trans h5
   have e5:J2.len 0=J'.len 0:=(h5'.len 0 (by omega)).symm
   exact⟨J2,fun E hE hkn=>by rw[<-hd];exact h2 E hE hkn,⟨by omega,hb,by omega,by omega⟩,by omega,h5'⟩
 by_cases hlt:J'.i 10<J'.len 0
 ·have e1:w1q.den J1=J'.i 10+1:=(show w1q.den J1=IntKind.i64.wrap (J'.i 10+1)from rfl).trans (aP _ (by omega) (by omega))
  have hk:Facts.ok J1 wdG:=Facts.ok_cons (decide_eq_true hlt) (Facts.ok_cons (decide_eq_false (by rw[e1];show ¬_<(0:Int);omega)) (Facts.ok_cons (decide_eq_false (by rw[e1];show ¬(J'.len 0:Int)<_;omega)) (Ac hR1)))
  have one:∀(k:Nat) (Φ:Facts),(k=0\/k=1)->Facts.ok J1 Φ->V3 f k Φ=true->yA Tryz.prog Tryz.f87.ntmps Ub 0 (Ua f) (rgL f 0).out J'\/yA Tryz.prog Tryz.f87.ntmps Ub 0 (Ua f) (rgL f 1).out J'\/∃J2,StepF Tryz.prog Tryz.f87.ntmps Ub 0 (Ua f) (Ua f) J' J2/\WdI m J2/\m-(J2.i 10).toNat<m-(J'.i 10).toNat/\Agree 10 J' J2:=fun k Φ hk0 hk hr=>by
   rcases iL mixed dm hcall (LpsOk.nil _ _ _ _) TZ hk hr with h | ⟨j,C,J2,h1,h2,_,h4,h5,_⟩
   ·rcases hk0 with rfl | rfl
    ·exact .inl (toE 0 h)
    ·exact .inr (.inl (toE 1 h))
   ·exact .inr (.inr (go hlt ⟨j,C,J2,h1,h2,h4,h5⟩))
  rcases RJ rg1 J1 with h1 | h1
  ·exact one 1 _ (.inr rfl) (Facts.ok_cons h1 hk) r1
  ·rcases RJ rg2 J1 with h2 | h2
   ·exact one 1 _ (.inr rfl) (Facts.ok_cons h2 (Facts.ok_cons h1 hk)) r2
   ·rcases RJ (.var 12) J1 with h3 | h3
    ·exact one 1 _ (.inr rfl) (Facts.ok_cons h3 (Facts.ok_cons h2 (Facts.ok_cons h1 hk))) r3
    ·exact one 0 _ (.inl rfl) (Facts.ok_cons h3 (Facts.ok_cons h2 (Facts.ok_cons h1 hk))) r4
 ·have hk:Facts.ok J1 wdE:=Facts.ok_cons (decide_eq_false hlt) (Ac hR1)
  rcases iL mixed dm hcall (LpsOk.nil _ _ _ _) TZ hk r0 with h | ⟨j,C,J2,h1,h2,h3,h4,h5,_⟩
  ·exact .inl (toE 0 h)
  ·exfalso
   match j,h1 with
   | 0,h1 =>
    cases h1
    have h4:J2.i 10=IntKind.i64.wrap (J'.i 10+1):=h4
    have e4:J2.i 10=J'.i 10+1:=by rw[h4];exact aP _ (by omega) (by omega)
    have e5:J2.len 0=J'.len 0:=(h5.len 0 (by omega)).symm
    have:=h3 _ (List.mem_cons_of_mem _ List.mem_cons_self)
    have:¬(J2.len 0:Int)<J2.i 10:=of_decide_eq_false this
    omega
noncomputable def aZ5 (f:Bool) (k:Nat) (g:Nat):List LoopX:=if Nat.beq g 87=true then [rgL f k]else []
noncomputable def ZQ (f:Bool) (k:Nat):Cfg2:=⟨bU [] (aZ5 f k),[],[]⟩
def rgF:Facts:=(.lt (.lit 6) (.len 0),true)::wdX
def bW8:T X->Bool
 | .ret (.sc (.b e))=>isT (nR rgF (.not e))
 | _=>false
theorem aZ3:BH (fun f k=>bW8 (aU (ZQ f (if k=true then 1 else 0)) 87 [MB f] rgF))=true:=by kernel_rfl
theorem aZ4 (f:Bool) (k:Nat) {J:Rho} (h:LoopOk Tryz.prog J Tryz.f87.ntmps Ub (rgL f k)) (hk:k=0\/k=1):∀g i,fO g su=some i->LpsOk Tryz.prog J i.ntmps (aZ5 f k g) i.body:=fun g i hi=>by
 unfold aZ5
 split
 ·rename_i hf
  have hf:=Nat.eq_of_beq_eq_true hf
  subst hf
  have e:fO 87 su=some (fi Tryz.f87 []):=by kernel_rfl
  rw[e]at hi
  cases hi
  exact jP [0] (by cases f<;>rcases hk with rfl | rfl<;>kernel_rfl) (List.forall_mem_cons.2 ⟨iD (L:=rgL f k) (c:=Ub) (by cases f<;>rcases hk with rfl | rfl<;>kernel_rfl) h,List.forall_mem_nil _⟩)
 ·exact LpsOk.nil _ _ _ _
theorem VZ (ss:List ByteArray) (f:Bool) (h6:6<ss.length) (hl:ss.length<=4611686018427387904):aQ Tryz.prog 87=true/\∀n h,CY Tryz.prog n 87 [.ro 1 (nP ss) f] h (.sc (.bool false)) []:=by
 let J:Rho:=⟨fun _=>0,fun _=>false,fun _=>⟨#[]⟩,fun _=>ss.length,fun _ _ _=>0,fun _ _ _=>false,fun _ _ j=>(ss[j]?).getD ⟨#[]⟩,UB⟩
 obtain⟨i,Jf,hi,h1,h2,h3⟩:=az6 f (J:=J) (m:=ss.length) rfl hl
 have hk:Facts.ok Jf rgF:=by
  have q1:=h2.n;have q2:=h2.b;have q3:=h2.i0;have q4:=h2.i1
  exact Facts.ok_cons (decide_eq_true (by show(6:Int)<Jf.len 0;omega)) (Facts.ok_cons (decide_eq_false (by show ¬(4611686018427387904:Int)<Jf.len 0;omega)) (Facts.ok_cons (decide_eq_false (by show ¬(Jf.len 0:Int)<Jf.i 10;omega)) (Facts.ok_cons (decide_eq_false (by show ¬Jf.i 10<0;omega)) (Facts.ok_nil Jf))))
 have e:X.denL Jf [MB f]=[.ro 1 (nP ss) f]:=by
  have r:aC Jf (.len 0) (.var 0 [.s])=nP ss:=ND h2.n fun j hj=>by
   rw[<-h1.cs 0 (by omega)]
   show(ss[j]?).getD ⟨#[]⟩=_
   rw[List.getElem?_eq_getElem hj];rfl
  show [AV.ro 1 (aC Jf (.len 0) (.var 0 [.s])) f]=_
  rw[r]
 have go:∀k:Bool,i=(if k=true then 1 else 0)->aQ Tryz.prog 87=true/\∀n h,CY Tryz.prog n 87 [.ro 1 (nP ss) f] h (.sc (.bool false)) []:=fun k hk'=>by
  have hw:=qH aZ3 f k
  have hc:CfgOk Tryz.prog Jf (ZQ f (if k=true then 1 else 0)).c:=iW (List.forall_mem_nil _) (by rw[<-hk'];exact aZ4 f i h3 hi)
  unfold bW8 at hw
  split at hw
  ·rename_i b hx
   have hb:(!(b.den Jf))=true:=wM hk hw
   have hb:b.den Jf=false:=by simpa using hb
   have q:=dM hc (List.forall_mem_nil _) hk (show(aU (ZQ f (if k=true then 1 else 0)) 87 [MB f] rgF).sel Jf=some _ by rw[hx];rfl)
   rw[e]at q
   simp only[X.den,Sc.den,hb]at q
   exact q
  ·cases hw
 rcases hi with h | h
 ·exact go false h
 ·exact go true h
end Go.Proofs.YtpdfmnhgocpkcaaGreat
