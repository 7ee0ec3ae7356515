/- Parts of the proof, one behind the other. -/
import Derived.Test.YtpdfmnhgocpkcaaGreatTM31
namespace Go.Proofs.YtpdfmnhgocpkcaaGreat
open Go Go.Proofs.Aw Go.Proofs.Xw
set_option maxRecDepth 100000
noncomputable def k5 (ρ:aa) (x:Int):List Value:=(xq (.var 0)).I { ρ with i:=fun _=>x }
theorem ad9 (ρ:aa):(xq (.var 700)).I ρ=k5 ρ (ρ.i 700):=rfl
theorem Tq {ρ F:aa} (ah:az 630 ρ F) (x:Int):k5 ρ x=k5 F x:=by
 show [_,_,_,_,_,_,_,_,_,_,_,_,_,_,_,_,_,_,_,_]=[_,_,_,_,_,_,_,_,_,_,_,_,_,_,_,_,_,_,_,_]
 simp only[U.I,BE.I,TE.I,ah.ci 625 (by decide),ah.cb 625 (by decide),ah.cs 625 (by decide)]
noncomputable def ia (ρ:aa) (k:Nat):Nat->Int
 | 0=>ρ.i (405+k)
 | m+1=>if ρ.cb 625 1 m=true then max (max 0 (ia ρ k m)) (UF 3 (k5 ρ m) k)else ia ρ k m
structure RO (am ρ:aa):Prop where
 ah:az 630 am ρ
 m:∃m:Nat,m<=am.len 470/\ρ.i 700=m/\∀k,k<9->ρ.i (640+k)=ia am k m
noncomputable def oV:bj:=⟨(dt oU).getD 0,2,630,Df,gz,[],.ret (.exit 0,rN)⟩
theorem QG:da Tryz.f120.ntmps oU=true:=by kernel_rfl
def ZM:Bind:=⟨(700,.lit 0)::(List.range 9).map (fun k=>(640+k,.var (405+k))),[],[],[]⟩
theorem asA:ff 2 630 ZM [] tS Df=true:=by kernel_rfl
theorem ZO:Df.ar 630=true:=by kernel_rfl
theorem yW {ρ:aa} (dp:ρ.i 443=1) (A:1<=ρ.len 470) (h6:ρ.len 470<=6):J.ok ρ fO :=
 J.av (by show(ρ.i 443==1)=true;rw[dp];rfl) (fR (show(1:Int)<=(ρ.len 470:Int)by omega) (j1 (show(ρ.len 470:Int)<=6 by omega) (J.bt _)))
theorem nine {P:Nat->Prop} (h0:P 0) (A:P 1) (E:P 2) (h3:P 3) (h4:P 4) (h5:P 5) (h6:P 6) (h7:P 7) (un:P 8):∀k,k<9->P k:=fun k u=>by
 rcases(show k=0\/k=1\/k=2\/k=3\/k=4\/k=5\/k=6\/k=7\/k=8 by omega)with rfl | rfl | rfl | rfl | rfl | rfl | rfl | rfl | rfl<;>assumption
theorem asB (hS:∀s∈h2,c4 Tryz.prog s) {ρ:aa} (dp:ρ.i 443=1) (A:1<=ρ.len 470) (h6:ρ.len 470<=6) (hE:∀j:Nat,j<ρ.len 470->ρ.cb 625 1 j=true->UF 2 (k5 ρ j) 0=1):∃ao,az 630 ρ ao/\(∀k,k<9->ao.i (640+k)=ia ρ k (ρ.len 470))/\bY Tryz.prog ao Tryz.f120.ntmps oU oV:=by
 have H:∀F,b4 Tryz.prog F g0.c:=fun F=>kW (List.forall_mem_nil _)
 have bD:=asz
 simp only[Bool.and_eq_true]at bD
 obtain⟨r0,r1,r2⟩:=bD
 refine ot (P:=Tryz.prog) (N:=Tryz.f120.ntmps) (body:=oU) (k0:=2) (n:=630) (S0:=Df) (ρ:=ρ) ZO (fun _=>tS) oV ⟨rfl,rfl,rfl⟩ (fun _ F=>RO ρ F) (fun F=>∀k,k<9->F.i (640+k)=ia ρ k (ρ.len 470)) (fun F=>ρ.len 470-(F.i 700).toNat) (fun _ F hR => ?_) ⟨0,ZM.ap ρ,Bind.bq (by kernel_rfl) ρ,⟨Bind.bq (by kernel_rfl) ρ,0,Nat.zero_le _,rfl,nine rfl rfl rfl rfl rfl rfl rfl rfl rfl⟩,fun ac _ bI=>jE bI asA ρ⟩
 have ah:=hR.ah
 obtain⟨m,hm,hi,iN⟩:=hR.m
 have l4:F.len 470=ρ.len 470:=(ah.len 470 (by decide)).symm
 have aP:=eU (c:=g0) (H F) hS 12
 have j_:J.ok F fO:=yW (by rw[<-ah.i 443 (by decide)];exact dp) (by omega) (by omega)
 by_cases aQ:m<ρ.len 470
 ·right
  have hp:p7.I F=m+1:=by
   refine(show p7.I F=IntKind.i64.wrap (F.i 700+1)from rfl).trans ?_
   rw[hi];exact ca _ (by omega) (by omega)
  have u:J.ok F IB:=fR (show(0:Int)<=F.i 700 by omega) (J.av (decide_eq_true (by show F.i 700<(F.len 470:Int);omega)) (fF (show p7.I F<=(F.len 470:Int)by rw[hp];omega) (fR (by rw[hp];omega) j_)))
  have se:(F.i 700).toNat=m:=by omega
  have hb:e_.I F=ρ.cb 625 1 m:=by
   show F.cb 625 1 (F.i 700).toNat=_
   rw[se,<-ah.cb 625 (by decide)]
  have ir:(∃(j:Nat) (C:dm) (aw:aa),ZJ[j]? = some C/\ep Tryz.prog Tryz.f120.ntmps oU 2 tS C.S F aw/\J.ok aw C.b6/\aw.i 700=IntKind.i64.wrap (F.i 700+1)/\az 630 F aw/\(d' 0 [] F->d' 0 [] aw)/\(C.di=[]\/∃a∈C.di,a.fr=0/\gH a F aw))->∃i' aw,ep Tryz.prog Tryz.f120.ntmps oU 2 tS tS F aw/\RO ρ aw/\ρ.len 470-(aw.i 700).toNat<ρ.len 470-(F.i 700).toNat/\az 630 F aw:=fun⟨j,C,aw,g1,g2,_,g4,g5,_,g7⟩=>by
   have e4:aw.i 700=m+1:=by rw[g4,hi];exact ca _ (by omega) (by omega)
   match j,g1 with
   | 0,g1 =>
    cases g1
    refine⟨0,aw,g2,⟨ah.trans g5,m+1,by omega,by omega,fun k kb => ?_⟩,by omega,g5⟩
    simp only[List.cons_ne_nil,false_or,List.mem_cons,List.not_mem_nil,or_false]at g7
    obtain⟨a,ha,_,a2⟩:=g7
    rcases ha with rfl | rfl
    ·have W:e_.I F=true:=a2.1 _ List.mem_cons_self
     have R:=a2.2.2.1 (640+k,.op .max .i64 (.op .max .i64 (.lit 0) (.var (640+k))) (.uf 3 k (xq (.var 700)))) (List.mem_map.2 ⟨k,List.mem_range.2 kb,rfl⟩)
     have R:aw.i (640+k)=max (max 0 (F.i (640+k))) (UF 3 (k5 F (F.i 700)) k):=R
     rw[R,iN k kb,hi,<-Tq ah]
     show _=if ρ.cb 625 1 m=true then _ else _
     rw[if_pos (by rw[<-hb];exact W)]
    ·have W:e_.I F=false:=a2.1 _ List.mem_cons_self
     have R:=a2.2.1.1 (640+k) (by
      rcases(show k=0\/k=1\/k=2\/k=3\/k=4\/k=5\/k=6\/k=7\/k=8 by omega)with rfl | rfl | rfl | rfl | rfl | rfl | rfl | rfl | rfl<;>decide)
     rw[R,iN k kb]
     show _=if ρ.cb 625 1 m=true then _ else _
     rw[if_neg (by rw[<-hb,W];decide)]
   | j+1,g1=>cases g1
  cases W:e_.I F with
  | true =>
   have hw:wr7.I F=true:=by
    have:=hE m aQ (by rw[<-hb];exact W)
    show(UF 2 ((xq (.var 700)).I F) 0==1)=true
    rw[ad9,hi,<-Tq ah,this];rfl
   exact ir (kL mixed cR aP (a1.nil _ _ _ _) QG (J.av W (J.av hw u)) r0)
  | false=>exact ir (kL mixed cR aP (a1.nil _ _ _ _) QG (J.av W u) r1)
 ·left
  obtain rfl:m=ρ.len 470:=by omega
  have u:J.ok F ZK:=fR (show(0:Int)<=F.i 700 by omega) (J.av (decide_eq_false (by show ¬F.i 700<(F.len 470:Int);omega)) j_)
  refine⟨iN,?_⟩
  rcases gC mixed cR aP (a1.nil _ _ _ _) QG u r2 with h | ⟨j,C,_,g1,_⟩
  ·exact h
  ·simp at g1
end Go.Proofs.YtpdfmnhgocpkcaaGreat
namespace Go.Proofs.YtpdfmnhgocpkcaaGreat
open Go Go.Proofs.Aw Go.Proofs.Xw
set_option maxRecDepth 100000
def tb (i:U):U := .uf 0 0 (.s (.cl 470 0 i) (.i (.var 1) .nil))
def rB (k:Nat) (i:U):U := .ite (.eq (tb i) (.lit 0)) (.var k) (.ite (.eq (tb i) (.lit 1)) (.var (k+1)) (.var (k+2)))
def nU (i:U):BE := .lt (.cl 625 22 i) (rB 640 i)
def qo (i:U):BE := .lt (.cl 625 23 i) (rB 643 i)
def uF (i:U):BE := .lt (.cl 625 24 i) (rB 646 i)
def lZ (i:U):BE := .or (nU i) (.or (qo i) (uF i))
def CZ (i:X):ba:=[(36,i),(35,.sc (.i .i64 (.len 470))),(34,aY (0,2) 25 (.len 470)),(33,.top),(32,.top),(31,.top),(11,.top),(10,.top),(9,.top),(8,.top),(7,.top),(6,.top),(0,.ptr (0,0) [] 0)]
def t2L:X := .slv (66,0) 1 (.lit 0) (.len 650) true
def asv (td:X) (rd:Int):au:=[((0,0),vi 405 9++vi 640 9++[xi 1,aY (0,1) 1 (.len 470),aY (0,2) 25 (.len 470),td,xn rd,xn 0]),((0,1),kR),((0,2),[.rows 25 (.len 470) c5])]
def Zn:au:=asv t2L 2++[((66,0),[.rows 1 (.len 650) (.var 650 [.i .i64])])]
def Ir:XS:=⟨CZ (xn 0),p6 640 (fx false) 1,66⟩
def pW (again:Bool):XS:=if again=true then⟨CZ (xi 710),Zn,67⟩else⟨CZ (xi 710),p6 640 (fx false) 1,66⟩
def Qm (again:Bool):XS:=if again=true then⟨CZ (xi 710),Zn,140⟩else⟨CZ (xi 710),p6 640 (fx false) 1,140⟩
noncomputable def rJ:Code:=(dP (Tryz.f120.body.getD .skip))[1]?.getD .skip
def c7:U := .var 710
def q7:U := .op .add .i64 (.var 710) (.lit 1)
def Ql:List dm:=[⟨pW false,[],[⟨0,[],[650],[],[],[(lZ c7,false)]⟩]⟩,⟨pW true,[],[⟨0,[],[],[],[(650,.lit 1,.one [eb c7])],[(lZ c7,true)]⟩,⟨1,[],[650],[],[],[(lZ c7,false)]⟩,⟨1,[],[],[],[(650,.op .cV .i64 (.len 650) (.lit 1),.app (.len 650) (.var 650 [.i .i64]) (.one [eb c7]))],[(lZ c7,true)]⟩]⟩]
def uL:BE×Bool:=(.eq (.len 474) (.op .cV .i64 (.var 440) (.var 443)),true)
def CW:J:=[(.lt (.var 710) (.lit 0),false),(.lt (.var 710) (.len 470),true),(.lt (.len 470) q7,false),(.lt q7 (.lit 0),false),(.lt (.lit 16) (.ch (.cl 470 0 (.var 710))),false),(.lt (.lit 6) (.len 650),false),uL]++(fO++(oS++dh))
def Iq:J:=[(.lt (.var 710) (.lit 0),false),(.lt (.var 710) (.len 470),false)]++fO
noncomputable def Zp (again:Bool) (B:J):T (XE×XS):=(ck g0.c.ti (eD g0 12) ((g0.c.hv 120).elim [] (·.ms)) 2 [] 1000 rJ B (pW again)).map (dV ((pW again).t.map (·.1)))
noncomputable def nu (again:Bool) (B:J):Bool:=dB 2 650 710 [] (0,[]) (if again=true then 1 else 0) Ql (Qm again) .normal B (Zp again B)
noncomputable def Qn (again:Bool) (B:J):Bool:=dB 2 650 710 [] (0,[]) 0 [] (Qm again) (.exit 2) B (Zp again B)
def Lj:J:=(nU c7,true)::CW
def Lk:J:=(qo c7,true)::(nU c7,false)::CW
def Ll:J:=(uF c7,true)::(qo c7,false)::(nU c7,false)::CW
def Li:J:=(uF c7,false)::(qo c7,false)::(nU c7,false)::CW
theorem arz:(nu false Lj&&(nu false Lk&&(nu false Ll&&(nu false Li&&Qn false Iq))))=true:=by kernel_rfl
theorem arA:(nu true Lj&&(nu true Lk&&(nu true Ll&&(nu true Li&&Qn true Iq))))=true:=by kernel_rfl
theorem ary (a:Bool):nu a Lj=true/\nu a Lk=true/\nu a Ll=true/\nu a Li=true/\Qn a Iq=true:=by
 cases a
 ·have:=arz
  simpa only[Bool.and_eq_true]using this
 ·have:=arA
  simpa only[Bool.and_eq_true]using this
theorem C2:da Tryz.f120.ntmps rJ=true:=by kernel_rfl
theorem arx:Ir.ar 650=true:=by kernel_rfl
def Zo:Bind:=⟨[(710,.lit 0)],[],[],[(650,.lit 0,.one [])]⟩
theorem arB:ff 2 650 Zo [] (pW false) Ir=true:=by kernel_rfl
noncomputable def CX (again:Bool):bj:=⟨(dt rJ).getD 0,2,650,Ir,gz,[],.ret (.exit 2,Qm again)⟩
noncomputable def gL (ρ:aa) (x:Int):aa:={ ρ with i:=fun k=>if k=0 then x else ρ.i k }
noncomputable def l3 (ρ:aa) (x:Int):Bool:=(lZ (.var 0)).I (gL ρ x)
theorem adU (ρ:aa):(lZ c7).I ρ=l3 ρ (ρ.i 710):=rfl
theorem adT {ρ F:aa} (ah:az 650 ρ F) (x:Int):l3 ρ x=l3 F x :=
 BE.aT (n:=650) (ρ:=gL ρ x) (F:=gL F x) ⟨fun k u=>by show(if k=0 then x else ρ.i k)=if k=0 then x else F.i k;rw[ah.i k u],ah.b,ah.s,ah.len,ah.ci,ah.cb,ah.cs,ah.ct⟩ _ (by kernel_rfl)
noncomputable def bO (ρ:aa) (m:Nat):List Nat:=(List.range m).filter fun j=>l3 ρ (j:Int)
theorem ZG (ρ:aa) (m:Nat):bO ρ (m+1)=bO ρ m++if l3 ρ (m:Int)=true then [m]else []:=by
 unfold bO
 rw[List.range_succ,List.filter_append]
 congr 1
 by_cases h:l3 ρ (m:Int)=true
 ·simp[h]
 ·simp[h]
theorem QB (ρ:aa) (m:Nat):(bO ρ m).length<=m:=by
 have:=List.length_filter_le (fun j=>l3 ρ ((j:Nat):Int)) (List.range m)
 rwa[List.length_range]at this
structure Jp (am:aa) (m:Nat) (i:Nat) (ρ:aa):Prop where
 z:i=0->bO am m=[]
 b:i≠0->i=1/\bO am m≠[]/\ρ.len 650=(bO am m).length/\∀(r v:Nat),(bO am m)[r]? = some v->ρ.ci 650 0 r=(v:Int)
structure RK (am ρ:aa) (i:Nat):Prop where
 ah:az 650 am ρ
 l6:ρ.len 650<=6
 m:∃m:Nat,m<=am.len 470/\ρ.i 710=m/\Jp am m i ρ
end Go.Proofs.YtpdfmnhgocpkcaaGreat
namespace Go.Proofs.YtpdfmnhgocpkcaaGreat
open Go Go.Proofs.Aw Go.Proofs.Xw
set_option maxRecDepth 100000
theorem adn {ρ:aa} {bx:Prop} {aU:J} (u:J.ok ρ aU) (A:J.ok ρ ((nU c7,true)::aU)->bx) (E:J.ok ρ ((qo c7,true)::(nU c7,false)::aU)->bx) (h3:J.ok ρ ((uF c7,true)::(qo c7,false)::(nU c7,false)::aU)->bx) (h0:J.ok ρ ((uF c7,false)::(qo c7,false)::(nU c7,false)::aU)->bx):bx:=by
 rcases kV (nU c7) ρ with a | a
 ·exact A (J.av a u)
 ·rcases kV (qo c7) ρ with b | b
  ·exact E (J.av b (J.av a u))
  ·rcases kV (uF c7) ρ with c | c
   ·exact h3 (J.av c (J.av b (J.av a u)))
   ·exact h0 (J.av c (J.av b (J.av a u)))
theorem arT {am ρ aw:aa} {m i j:Nat} {bM:dm} (hm:m<6) (hR:Jp am m i ρ) (h7:ρ.i 710=m) (H:(lZ c7).I ρ=l3 am m) (M:ρ.len 650<=6) (O:Ql[j]? = some bM) (ha:bM.di=[]\/∃a∈bM.di,a.fr=i/\gH a ρ aw):(j=0\/j=1)/\Jp am (m+1) j aw/\aw.len 650<=6:=by
 have hs:=ZG am m
 have hlen:=QB am (m+1)
 match j,O with
 | 0,O =>
  cases O
  simp only[List.cons_ne_nil,false_or,List.mem_cons,List.not_mem_nil,or_false]at ha
  obtain⟨a,rfl,dY,a2⟩:=ha
  have h0:0=i:=dY
  have cn:(lZ c7).I ρ=false:=a2.1 _ List.mem_cons_self
  have hz:=hR.z h0.symm
  have kc:=(a2.2.1.2 650 List.mem_cons_self).1
  refine⟨.inl rfl,⟨fun _ => ?_,fun h=>absurd rfl h⟩,by rw[kc];exact M⟩
  rw[hs,hz,if_neg (by rw[<-H,cn];decide)];rfl
 | 1,O =>
  cases O
  simp only[List.cons_ne_nil,false_or,List.mem_cons,List.not_mem_nil,or_false]at ha
  obtain⟨a,hq,dY,a2⟩:=ha
  rcases hq with rfl | rfl | rfl
  ·have h0:0=i:=dY
   have cn:(lZ c7).I ρ=true:=a2.1 _ List.mem_cons_self
   have hz:=hR.z h0.symm
   have e:bO am (m+1)=[m]:=by rw[hs,hz,if_pos (by rw[<-H,cn])];rfl
   obtain⟨l,ci,_,_⟩:=a2.2.2.2 _ List.mem_cons_self
   have l:aw.len 650=1:=l
   refine⟨.inr rfl,⟨fun h=>by omega,fun _=>⟨rfl,by rw[e];simp,by rw[e,l];rfl,fun r v R => ?_⟩⟩,by omega⟩
   rw[e]at R
   have hr:r=0:=by
    have:=(List.getElem?_eq_some_iff.1 R).1
    simpa using this
   subst hr
   have R:m=v:=by simpa using R
   have c0:aw.ci 650 0 0=ρ.i 710:=ci 0 0
   rw[c0,h7,R]
  ·have h0:1=i:=dY
   have cn:(lZ c7).I ρ=false:=a2.1 _ List.mem_cons_self
   obtain⟨_,b2,dr,fg⟩:=hR.b (by omega)
   have e:bO am (m+1)=bO am m:=by rw[hs,if_neg (by rw[<-H,cn];decide),List.append_nil]
   obtain⟨l,c,_,_⟩:=a2.2.1.2 650 List.mem_cons_self
   refine⟨.inr rfl,⟨fun h=>by omega,fun _=>⟨rfl,by rw[e];exact b2,by rw[e,l];exact dr,fun r v R => ?_⟩⟩,by omega⟩
   rw[e]at R
   rw[c];exact fg r v R
  ·have h0:1=i:=dY
   have cn:(lZ c7).I ρ=true:=a2.1 _ List.mem_cons_self
   obtain⟨_,b2,dr,fg⟩:=hR.b (by omega)
   have e:bO am (m+1)=bO am m++[m]:=by rw[hs,if_pos (by rw[<-H,cn])]
   obtain⟨l,ci,_,_⟩:=a2.2.2.2 _ List.mem_cons_self
   have l:aw.len 650=(((ρ.len 650:Nat):Int)+1).toNat:=l
   have l:aw.len 650=ρ.len 650+1:=by omega
   rw[e,List.length_append,List.length_singleton]at hlen
   refine⟨.inr rfl,⟨fun h=>by omega,fun _=>⟨rfl,by rw[e];simp,by rw[e,List.length_append,List.length_singleton,l,dr],fun r v R => ?_⟩⟩,by omega⟩
   rw[e]at R
   have c0:=ci 0 r
   by_cases hr:r<ρ.len 650
   ·have e8:(RL.app (.len 650) (.var 650 [.i .i64]) (.one [eb c7])).row ρ ((r:Nat):Int)=(RL.var 650 [.i .i64]).row ρ (r:Int):=by
     show(if(r:Int)<(ρ.len 650:Int)then _ else _)=_
     rw[if_pos (by omega)]
    rw[e8]at c0
    have c0:aw.ci 650 0 r=ρ.ci 650 0 r:=c0
    rw[List.getElem?_append_left (by omega)]at R
    rw[c0];exact fg r v R
   ·have e8:(RL.app (.len 650) (.var 650 [.i .i64]) (.one [eb c7])).row ρ ((r:Nat):Int)=[AV.sc (.int .i64 (ρ.i 710))]:=by
     show(if(r:Int)<(ρ.len 650:Int)then _ else _)=_
     rw[if_neg (by omega)];rfl
    rw[e8]at c0
    have c0:aw.ci 650 0 r=ρ.i 710:=c0
    rw[List.getElem?_append_right (by omega)]at R
    have qH:r-(bO am m).length=0:=by
     have:=(List.getElem?_eq_some_iff.1 R).1
     simpa using this
    rw[qH]at R
    have R:m=v:=by simpa using R
    rw[c0,h7,R]
 | j+2,O=>cases O
theorem arC (hS:∀s∈h2,c4 Tryz.prog s) {ρ:aa} (M:J.ok ρ dh) (hT:TI ρ) (dp:ρ.i 443=1) (again:Bool) (ha:again = !(bO ρ (ρ.len 470)).isEmpty):∃ao,az 650 ρ ao/\(again=true->ao.len 650=(bO ρ (ρ.len 470)).length/\∀(r v:Nat),(bO ρ (ρ.len 470))[r]? = some v->ao.ci 650 0 r=(v:Int))/\bY Tryz.prog ao Tryz.f120.ntmps rJ (CX again):=by
 have A:=hT.n1
 have h6:=hT.n6
 have H:∀F,b4 Tryz.prog F g0.c:=fun F=>kW (List.forall_mem_nil _)
 refine ot (P:=Tryz.prog) (N:=Tryz.f120.ntmps) (body:=rJ) (k0:=2) (n:=650) (S0:=Ir) (ρ:=ρ) arx (fun i=>pW (if i=0 then false else true)) (CX again) ⟨rfl,rfl,rfl⟩ (fun i F=>(i=0\/i=1)/\RK ρ F i) (fun ao=>again=true->ao.len 650=(bO ρ (ρ.len 470)).length/\∀(r v:Nat),(bO ρ (ρ.len 470))[r]? = some v->ao.ci 650 0 r=(v:Int)) (fun F=>ρ.len 470-(F.i 710).toNat) (fun i F hR => ?_) ⟨0,Zo.ap ρ,Bind.bq (by kernel_rfl) ρ,⟨.inl rfl,Bind.bq (by kernel_rfl) ρ,Nat.zero_le _,0,Nat.zero_le _,rfl,fun _=>rfl,fun h=>absurd rfl h⟩,fun ac _ bI=>jE bI arB ρ⟩
 obtain⟨hi,hR⟩:=hR
 have ah:=hR.ah
 obtain⟨m,hm,h7,lb⟩:=hR.m
 have l4:F.len 470=ρ.len 470:=(ah.len 470 (by decide)).symm
 have aP:=eU (c:=g0) (H F) hS 12
 have j_:J.ok F fO:=yW (by rw[<-ah.i 443 (by decide)];exact dp) (by omega) (by omega)
 have pc:=hT.bq (ah.le (by decide))
 obtain⟨r1,r2,r3,r0,rx⟩:=ary (if i=0 then false else true)
 by_cases aQ:m<ρ.len 470
 ·right
  have hq:q7.I F=m+1:=by
   refine(show q7.I F=IntKind.i64.wrap (F.i 710+1)from rfl).trans ?_
   rw[h7];exact ca _ (by omega) (by omega)
  have hky:=(pc.ky m (by omega)).2
  have se:(F.i 710).toNat=m:=by omega
  have dF:(uL.1).I F=true:=by
   show((F.len 474:Int)==F.i 440+F.i 443)=true
   rw[pc.rn];exact beq_self_eq_true _
  have dO:J.ok F (fO++(oS++dh)):=eg j_ (eg pc.tr (gP (n:=600) (ah.le (by decide)) (by kernel_rfl) M))
  have u:J.ok F CW:=by
   refine fR (show(0:Int)<=F.i 710 by omega) (J.av (decide_eq_true (by show F.i 710<(F.len 470:Int);omega)) (fF (show q7.I F<=(F.len 470:Int)by rw[hq];omega) (fR (by rw[hq];omega) (j1 ?_ (j1 (show(F.len 650:Int)<=6 by have:=hR.l6;omega) (J.av dF dO))))))
   show((F.cs 470 0 (F.i 710).toNat).size:Int)<=16
   rw[se];omega
  have cn:(lZ c7).I F=l3 ρ (m:Int):=by rw[adU,h7,<-adT ah]
  have ir:(∃(j:Nat) (C:dm) (aw:aa),Ql[j]? = some C/\ep Tryz.prog Tryz.f120.ntmps rJ 2 (pW (if i=0 then false else true)) C.S F aw/\J.ok aw C.b6/\aw.i 710=IntKind.i64.wrap (F.i 710+1)/\az 650 F aw/\(d' 0 [] F->d' 0 [] aw)/\(C.di=[]\/∃a∈C.di,a.fr=(if(if i=0 then false else true)=true then 1 else 0)/\gH a F aw))->∃i' aw,ep Tryz.prog Tryz.f120.ntmps rJ 2 (pW (if i=0 then false else true)) (pW (if i'=0 then false else true)) F aw/\((i'=0\/i'=1)/\RK ρ aw i')/\ρ.len 470-(aw.i 710).toNat<ρ.len 470-(F.i 710).toNat/\az 650 F aw:=fun⟨j,C,aw,g1,g2,_,g4,g5,_,g7⟩=>by
   have e4:aw.i 710=m+1:=by rw[g4,h7];exact ca _ (by omega) (by omega)
   have ul:(if(if i=0 then false else true)=true then 1 else 0)=i:=by rcases hi with rfl | rfl<;>rfl
   rw[ul]at g7
   obtain⟨q1,q2,q3⟩:=arT (by omega) lb h7 cn hR.l6 g1 g7
   have An:C.S=pW (if j=0 then false else true):=by
    rcases q1 with rfl | rfl<;>(cases g1;rfl)
   rw[An]at g2
   exact⟨j,aw,g2,⟨q1,ah.trans g5,q3,m+1,by omega,by omega,q2⟩,by omega,g5⟩
  exact adn u (fun h=>ir (kL mixed cR aP (a1.nil _ _ _ _) C2 h r1)) (fun h=>ir (kL mixed cR aP (a1.nil _ _ _ _) C2 h r2)) (fun h=>ir (kL mixed cR aP (a1.nil _ _ _ _) C2 h r3)) (fun h=>ir (kL mixed cR aP (a1.nil _ _ _ _) C2 h r0))
 ·left
  obtain rfl:m=ρ.len 470:=by omega
  have u:J.ok F Iq:=fR (show(0:Int)<=F.i 710 by omega) (J.av (decide_eq_false (by show ¬F.i 710<(F.len 470:Int);omega)) j_)
  have i3:again=(if i=0 then false else true):=by
   rcases hi with rfl | rfl
   ·rw[ha,lb.z rfl];rfl
   ·obtain⟨_,b2,_⟩:=lb.b (by decide)
    rw[ha]
    cases hq:bO ρ (ρ.len 470)with
    | nil=>exact absurd hq b2
    | cons _ _=>rfl
  refine⟨fun cd => ?_,?_⟩
  ·have:i≠0:=fun h=>by rw[i3,if_pos h]at cd;cases cd
   obtain⟨_,_,dr,fg⟩:=lb.b this
   exact⟨dr,fg⟩
  ·rw[i3]
   rcases gC mixed cR aP (a1.nil _ _ _ _) C2 u rx with h | ⟨j,C,_,g1,_⟩
   ·exact h
   ·simp at g1
end Go.Proofs.YtpdfmnhgocpkcaaGreat
namespace Go.Proofs.YtpdfmnhgocpkcaaGreat
open Go Go.Proofs.Aw Go.Proofs.Xw
set_option maxRecDepth 100000
noncomputable def QE (again:Bool) (g:Nat):List bj:=if Nat.beq g 120=true then [oV,CX again]else []
noncomputable def Dd (again:Bool):cr:=⟨bd [] (QE again),h2,[10119]⟩
def De:J:=uL::(fO++(oS++dh))
def IC (again:Bool):aL:=[((0,0),some (vi 405 9++vi 640 9++[xi 1,aY (0,1) 1 (.len 470),aY (0,2) 25 (.len 470),(if again=true then .slv (1,0) 1 (.lit 0) (.len 650) true else fx false),xn (if again=true then 2 else 1),xn 0])),((0,1),some kR),((0,2),some [.rows 25 (.len 470) c5]),((0,3),if again=true then none else some oR)]++(if again=true then [((1,0),some [.rows 1 (.len 650) (.var 650 [.i .i64])])]else [])
def po (d:aL):T (X×aL)->Bool
 | .ret (r,e)=>X.beq r (.tup [])&&rX e d
 | _=>false
where rX:aL->aL->Bool
 | [],[]=>true
 | (m,some a)::r,(k,some b)::s=>cN m k&&(X.fh a b&&rX r s)
 | (m,none)::r,(k,none)::s=>cN m k&&rX r s
 | _,_=>false
theorem Ef:∀{a b:aL},po.rX a b=true->a=b
 | [],[],_=>rfl
 | (m,some a)::r,(k,some b)::s,h=>by
  simp only[po.rX,Bool.and_eq_true]at h
  rw[ew h.1,X.gN _ _ h.2.1,Ef h.2.2]
 | (m,none)::r,(k,none)::s,h=>by
  simp only[po.rX,Bool.and_eq_true]at h
  rw[ew h.1,Ef h.2]
 | [],_::_,h=>by simp[po.rX]at h
 | (_,some _)::_,[],h=>by cases h
 | (_,none)::_,[],h=>by cases h
 | (_,none)::_,(_,some _)::_,h=>by cases h
 | (_,some _)::_,(_,none)::_,h=>by cases h
theorem agW {d:aL} {t:T (X×aL)} (h:po d t=true):t = .ret (.tup [],d):=by
 cases t with
 | ret p =>
  obtain⟨r,e⟩:=p
  simp only[po,Bool.and_eq_true]at h
  rw[X.beq_eq _ _ h.1,Ef h.2]
 | br _ _ _=>cases h
 | cL _ _=>cases h
 | fail _=>cases h
theorem asE:po (IC false) (fB (Dd false) 120 [.ptr (0,0) [] 0] (p6 405 (fx false) 1) De)=true:=by kernel_rfl
theorem asF:po (IC true) (fB (Dd true) 120 [.ptr (0,0) [] 0] (p6 405 (fx false) 1) De)=true:=by kernel_rfl
theorem asD (again:Bool):po (IC again) (fB (Dd again) 120 [.ptr (0,0) [] 0] (p6 405 (fx false) 1) De)=true:=by
 cases again
 ·exact asE
 ·exact asF
theorem asC (again:Bool) {ρ:aa} (A:bY Tryz.prog ρ Tryz.f120.ntmps oU oV) (E:bY Tryz.prog ρ Tryz.f120.ntmps rJ (CX again)):∀g i,eC g gb=some i->a1 Tryz.prog ρ i.ntmps (QE again g) i.body:=fun g i hi=>by
 unfold QE
 split
 ·rename_i hf
  have hf:=Nat.eq_of_beq_eq_true hf
  subst hf
  have gc:ji Tryz.prog 120 i:=mS (120,i) (jW _ _ (jV hi))
  refine ou gc Tryz.func120 ?_
  exact kv (c:=Tryz.f120.body.getD .skip) [0,1] (by cases again<;>kernel_rfl) (List.forall_mem_cons.2 ⟨ku (L:=oV) (c:=oU) (by cases again<;>kernel_rfl) A,List.forall_mem_cons.2 ⟨ku (L:=CX again) (c:=rJ) (by cases again<;>kernel_rfl) E,List.forall_mem_nil _⟩⟩)
 ·exact a1.nil _ _ _ _
theorem KI {ρ:aa} {ag:Bool} (hT:TI ρ) (hb:(bV 47).I ρ=ag) (hu:ag=true->(BE.eq (.uf 2 0 dq) (.lit 1)).I ρ=true) (j:Nat) (O:j<ρ.len 470) (hq:(bK ρ ag).cb 625 1 j=true):UF 2 (k5 (bK ρ ag) (j:Int)) 0=1:=by
 by_cases h0:(j:Int)=gZ.I ρ
 ·have e:(b9 ag).row ρ j=b' ρ (mK ag):=by
   show(if(j:Int)=gZ.I ρ then b' ρ (mK ag)else(RL.var 472 gh).row ρ j)=_
   rw[if_pos h0]
  have hq:dK ((b9 ag).row ρ (j:Int))[1]? = true:=hq
  have ee:k5 (bK ρ ag) (j:Int)=(let l:=(b9 ag).row ρ (j:Int);[.int .i64 (aG l[2]?),.int .i64 (aG l[3]?),.int .i64 (aG l[4]?),.int .i64 (aG l[5]?),.int .i64 (aG l[6]?),.int .i64 (aG l[7]?),.string (cellS l[8]?),.string (cellS l[9]?),.bool (dK l[10]?),.int .i64 (aG l[11]?),.int .i64 (aG l[12]?),.int .i64 (aG l[13]?),.int .i64 (aG l[14]?),.int .i64 (aG l[15]?),.int .i64 (aG l[16]?),.int .i64 (aG l[17]?),.int .i64 (aG l[18]?),.int .i64 (aG l[19]?),.int .i64 (aG l[20]?),.int .i64 (aG l[21]?)]):=rfl
  rw[ee,e]
  rw[e]at hq
  cases ag with
  | false =>
   have hq:(bV 47).I ρ=true:=hq
   rw[hb]at hq;cases hq
  | true =>
   have A:UF 2 (dq.I ρ) 0=1:=eq1' (hu rfl)
   exact A
 ·have e:(b9 ag).row ρ j=(RL.var 472 gh).row ρ j:=by
   show(if(j:Int)=gZ.I ρ then b' ρ (mK ag)else(RL.var 472 gh).row ρ j)=_
   rw[if_neg h0]
  have hq:dK ((b9 ag).row ρ (j:Int))[1]? = true:=hq
  have ee:k5 (bK ρ ag) (j:Int)=(let l:=(b9 ag).row ρ (j:Int);[.int .i64 (aG l[2]?),.int .i64 (aG l[3]?),.int .i64 (aG l[4]?),.int .i64 (aG l[5]?),.int .i64 (aG l[6]?),.int .i64 (aG l[7]?),.string (cellS l[8]?),.string (cellS l[9]?),.bool (dK l[10]?),.int .i64 (aG l[11]?),.int .i64 (aG l[12]?),.int .i64 (aG l[13]?),.int .i64 (aG l[14]?),.int .i64 (aG l[15]?),.int .i64 (aG l[16]?),.int .i64 (aG l[17]?),.int .i64 (aG l[18]?),.int .i64 (aG l[19]?),.int .i64 (aG l[20]?),.int .i64 (aG l[21]?)]):=rfl
  rw[ee,e]
  rw[e]at hq
  exact hT.zS j O hq
where eq1' {ρ:aa} {a:AL} (h:(BE.eq (.uf 2 0 a) (.lit 1)).I ρ=true):UF 2 (a.I ρ) 0=1:=by simpa [BE.I,U.I]using h
end Go.Proofs.YtpdfmnhgocpkcaaGreat
namespace Go.Proofs.YtpdfmnhgocpkcaaGreat
open Go Go.Proofs.Aw Go.Proofs.Xw
set_option maxRecDepth 100000
theorem Uo {ρ F:aa} {f:Nat} {args args':List X} {h h':au} {r r':X} {d fD:aL} (Z:c' Tryz.prog ρ ⟨f,args,h,r,d⟩) (ha:X.af ρ args=X.af F args') (W:aN ρ h=aN F h') (hr:r.I ρ=r'.I F) (hd:bk ρ d=bk F fD):c' Tryz.prog F ⟨f,args',h',r',fD⟩:=by
 refine⟨Z.1,?_⟩
 have q:=Z.2
 simp only at q ⊢
 rw[ha,W,hr,hd]at q
 exact q
structure uj (ρ F:aa) (cut:Nat->Int) (td:List Nat):Prop where
 ah:az 600 ρ F
 dM:∀k,k<9->F.i (600+k)=cut k
 pw:F.len 610=td.length
 ce:∀(r v:Nat),td[r]? = some v->F.ci 610 0 r=(v:Int)
theorem asx:(XS.mk rN.t rN.h rN.nx).ar 650=true:=by kernel_rfl
theorem asw {ρ F:aa} (ah:az 650 ρ F) (h:bY Tryz.prog ρ Tryz.f120.ntmps oU oV):bY Tryz.prog F Tryz.f120.ntmps oU oV:=by
 intro ac hE bI
 have:=h ac hE bI
 have e0:oV.S.I (oV.init.ap ρ)=oV.S.I (oV.init.ap F):=XS.aT (n:=630) (ah.le (by decide)) Df ZO
 rw[e0]at this
 refine dD (fun e V hq => ?_) this
 obtain⟨e',s,q1,q2,q3⟩:=hq
 have q1:some (XE.exit 0,rN)=some (e',s):=q1
 cases q1
 exact⟨.exit 0,rN,rfl,q2,by rw[<-XS.aT ah rN asx];exact q3⟩
theorem RT {ρ F:aa} (ag:Bool) (qb:az 630 (bK ρ ag) F):aA F [.rows 25 (.len 470) c5]=aA ρ [.rows 25 (.len 470) (b9 ag)]:=by
 have e1:aA (bK ρ ag) [.rows 25 (.len 470) c5]=aA F [.rows 25 (.len 470) c5]:=by
  have:=r9 qb [((0,0),[.rows 25 (.len 470) c5])] (by kernel_rfl)
  exact(Prod.mk.inj (List.cons.inj this).1).2
 have e2:aA ρ [.rows 25 (.len 470) (b9 ag)]=aA (bK ρ ag) [.rows 25 (.len 470) (b9 ag)]:=by
  have:=r9 (yX ρ ag) [((0,0),[.rows 25 (.len 470) (b9 ag)])] (by cases ag<;>kernel_rfl)
  exact(Prod.mk.inj (List.cons.inj this).1).2
 rw[<-e1,Ju,<-e2]
theorem RV {ρ F:aa} (ag:Bool) (ah:az 600 ρ F):aA ρ [.rows 25 (.len 470) (b9 ag)]=aA F [.rows 25 (.len 470) (b9 ag)]:=by
 have:=r9 ah [((0,0),[.rows 25 (.len 470) (b9 ag)])] (by cases ag<;>kernel_rfl)
 exact(Prod.mk.inj (List.cons.inj this).1).2
theorem asy (hS:∀s∈h2,c4 Tryz.prog s) {ρ:aa} (ag:Bool) (M:J.ok ρ dh) (hT:TI ρ) (dp:ρ.i 443=1) (hb:(bV 47).I ρ=ag) (hu:ag=true->(BE.eq (.uf 2 0 dq) (.lit 1)).I ρ=true) :
  ∃b3,az 630 (bK ρ ag) b3/\(∀k,k<9->b3.i (640+k)=ia (bK ρ ag) k (ρ.len 470))/\∀F,uj ρ F (fun k=>ia (bK ρ ag) k (ρ.len 470)) (bO b3 (ρ.len 470))->c' Tryz.prog F (iH ag (!(bO b3 (ρ.len 470)).isEmpty)):=by
 have qb:=yX ρ ag
 have LQ:=hT.bq (qb.le (by decide))
 have n1:=LQ.n1
 have n6:=LQ.n6
 obtain⟨b3,jS,iN,pb⟩:=asB hS (ρ:=bK ρ ag) dp n1 n6 (fun j O hq=>KI hT hb hu j O hq)
 have F9:(bK ρ ag).len 470=ρ.len 470:=rfl
 rw[F9]at iN
 have la:b3.len 470=ρ.len 470:=(jS.len 470 (by decide)).symm
 refine⟨b3,jS,iN,fun F il => ?_⟩
 have UC:=LQ.bq (jS.le (by decide))
 have FD:J.ok b3 dh:=gP (n:=600) ((qb.le (by decide)).trans (jS.le (by decide))) (by kernel_rfl) M
 have UE:b3.i 443=1:=by rw[<-jS.i 443 (by decide)];exact dp
 generalize cd:(!(bO b3 (ρ.len 470)).isEmpty)=again
 obtain⟨bv,t4,ic,LM⟩:=arC hS FD UC UE again (by rw[la];exact cd.symm)
 rw[la]at ic
 have pb:=asw t4 pb
 have H:b4 Tryz.prog bv (Dd again).c:=hj (List.forall_mem_nil _) (asC again pb LM)
 have Fj:=UC.bq (t4.le (by decide))
 have u:J.ok bv De:=J.av (by show((bv.len 474:Int)==bv.i 440+bv.i 443)=true;rw[Fj.rn];exact beq_self_eq_true _) (eg (yW (by rw[<-t4.i 443 (by decide)];exact UE) Fj.n1 Fj.n6) (eg Fj.tr (gP (n:=600) (t4.le (by decide)) (by kernel_rfl) FD)))
 have g:=ur H hS u (show(fB (Dd again) 120 [.ptr (0,0) [] 0] (p6 405 (fx false) 1) De).aq bv=some (.tup [],IC again)by rw[agW (asD again)];rfl)
 have nJ:az 600 ρ bv:=(qb.le (by decide)).trans ((jS.le (by decide)).trans (t4.le (by decide)))
 have is:az 600 bv F:=nJ.symm.trans il.ah
 have D1:az 630 (bK ρ ag) bv:=jS.trans (t4.le (by decide))
 have xp:aA bv [.rows 25 (.len 470) c5]=aA F [.rows 25 (.len 470) (b9 ag)]:=(RT ag D1).trans (RV ag il.ah)
 have bel1:∀(x:X),x.ar 600=true->x.I bv=x.I F:=fun x hx=>X.aT is x hx
 have nX:X.af bv (vi 640 9)=X.af F (vi 600 9):=by
  show [_,_,_,_,_,_,_,_,_]=[_,_,_,_,_,_,_,_,_]
  have q:∀k,k<9->bv.i (640+k)=F.i (600+k):=fun k u=>by rw[<-t4.i (640+k) (by omega),iN k u,il.dM k u]
  have w:∀k,k<9->(xi (640+k)).I bv=(xi (600+k)).I F:=fun k u=>by
   show AV.sc (.int .i64 (bv.i (640+k)))=AV.sc (.int .i64 (F.i (600+k)))
   rw[q k u]
  exact congr (congr rfl (w 0 (by omega))) (congr (congr rfl (w 1 (by omega))) (congr (congr rfl (w 2 (by omega))) (congr (congr rfl (w 3 (by omega))) (congr (congr rfl (w 4 (by omega))) (congr (congr rfl (w 5 (by omega))) (congr (congr rfl (w 6 (by omega))) (congr (congr rfl (w 7 (by omega))) (congr (congr rfl (w 8 (by omega))) rfl))))))))
 have ww:∀cs:List X,(XS.mk [] [((0,0),cs)] 0).ar 600=true->aA bv cs=aA F cs:=fun cs aH=>by
  have:=r9 is [((0,0),cs)] aH
  exact(Prod.mk.inj (List.cons.inj this).1).2
 have H1:∀rd:Int,(X.af bv [xi 1,aY (0,1) 1 (.len 470),aY (0,2) 25 (.len 470)]=X.af F [xi 1,aY (0,1) 1 (.len 470),aY (0,2) 25 (.len 470)])/\X.af bv [xn rd,xn 0]=X.af F [xn rd,xn 0]:=fun rd=>⟨X.fZ is _ (by kernel_rfl),rfl⟩
 have acT:X.af bv (vi 405 9)=X.af F (vi 405 9):=X.fZ is _ (by kernel_rfl)
 have yL:=ww kR (by kernel_rfl)
 have Cl:=ww oR (by kernel_rfl)
 have oF:=ww (vi 405 9++vi 405 9++[xi 1,aY (0,1) 1 (.len 470),aY (0,2) 25 (.len 470),fx false,xn 1,xn 0]) (by kernel_rfl)
 have cell:∀(td pX:X) (rd:Int),td.I bv=pX.I F->aA bv (vi 405 9++vi 640 9++[xi 1,aY (0,1) 1 (.len 470),aY (0,2) 25 (.len 470),td,xn rd,xn 0])=aA F (vi 405 9++vi 600 9++[xi 1,aY (0,1) 1 (.len 470),aY (0,2) 25 (.len 470),pX,xn rd,xn 0]):=fun td pX rd Mw=>by
  rw[cP rfl,cP rfl,X.gp (l:=vi 405 9++vi 640 9),X.gp (l:=vi 405 9++vi 600 9),X.gp (l:=vi 405 9),X.gp (l:=vi 405 9),nX,acT]
  congr 1
  obtain⟨q1,q2⟩:=H1 rd
  show X.af bv [xi 1,aY (0,1) 1 (.len 470),aY (0,2) 25 (.len 470)]++(td.I bv::X.af bv [xn rd,xn 0])=X.af F [xi 1,aY (0,1) 1 (.len 470),aY (0,2) 25 (.len 470)]++(pX.I F::X.af F [xn rd,xn 0])
  rw[q1,q2,Mw]
 refine Uo g rfl ?_ rfl ?_
 ·show [((0,0),aA bv _),((0,1),aA bv kR),((0,2),aA bv [.rows 25 (.len 470) c5]),((0,3),aA bv oR)]=[((0,0),aA F _),((0,1),aA F kR),((0,2),aA F [.rows 25 (.len 470) (b9 ag)]),((0,3),aA F oR)]
  rw[oF,yL,xp,Cl]
  rfl
 ·cases again with
  | false =>
   have e:=cell (fx false) (fx false) 1 (bel1 _ (by kernel_rfl))
   have this:([((0,0),some (aA bv (vi 405 9++vi 640 9++[xi 1,aY (0,1) 1 (.len 470),aY (0,2) 25 (.len 470),fx false,xn 1,xn 0]))),((0,1),some (aA bv kR)),((0,2),some (aA bv [.rows 25 (.len 470) c5])),((0,3),some (aA bv oR))]:Dl)=[((0,0),some (aA F (vi 405 9++vi 600 9++[xi 1,aY (0,1) 1 (.len 470),aY (0,2) 25 (.len 470),fx false,xn 1,xn 0]))),((0,1),some (aA F kR)),((0,2),some (aA F [.rows 25 (.len 470) (b9 ag)])),((0,3),some (aA F oR))]:=by
    rw[e,yL,xp,Cl]
   exact this
  | true =>
   obtain⟨q1,q2⟩:=ic rfl
   have hlen:bv.len 650=F.len 610:=by rw[q1,il.pw]
   have e:=cell (.slv (1,0) 1 (.lit 0) (.len 650) true) (.slv (1,0) 1 (.lit 0) (.len 610) true) 2 (by
    simp only[X.I,U.I,hlen])
   have e8:aA bv [.rows 1 (.len 650) (.var 650 [.i .i64])]=aA F [.rows 1 (.len 610) (.var 610 [.i .i64])]:=by
    show(aV bv (.len 650) (.var 650 [.i .i64])).flatten=(aV F (.len 610) (.var 610 [.i .i64])).flatten
    congr 1
    unfold aV
    have A:((U.len 650).I bv).toNat=(bO b3 (ρ.len 470)).length:=by show((bv.len 650:Nat):Int).toNat=_;rw[q1];exact Int.toNat_natCast _
    have E:((U.len 610).I F).toNat=(bO b3 (ρ.len 470)).length:=by show((F.len 610:Nat):Int).toNat=_;rw[il.pw];exact Int.toNat_natCast _
    rw[A,E]
    refine List.map_congr_left fun j O => ?_
    have O:=List.mem_range.1 O
    obtain⟨v,R⟩:∃v,(bO b3 (ρ.len 470))[j]? = some v:=⟨_,List.getElem?_eq_getElem O⟩
    show [AV.sc (.int .i64 (bv.ci 650 0 ((j:Int)).toNat))]=[AV.sc (.int .i64 (F.ci 610 0 ((j:Int)).toNat))]
    rw[Int.toNat_natCast,q2 j v R,il.ce j v R]
   have this:([((0,0),some (aA bv (vi 405 9++vi 640 9++[xi 1,aY (0,1) 1 (.len 470),aY (0,2) 25 (.len 470),.slv (1,0) 1 (.lit 0) (.len 650) true,xn 2,xn 0]))),((0,1),some (aA bv kR)),((0,2),some (aA bv [.rows 25 (.len 470) c5])),((0,3),none),((1,0),some (aA bv [.rows 1 (.len 650) (.var 650 [.i .i64])]))]:Dl)=[((0,0),some (aA F (vi 405 9++vi 600 9++[xi 1,aY (0,1) 1 (.len 470),aY (0,2) 25 (.len 470),.slv (1,0) 1 (.lit 0) (.len 610) true,xn 2,xn 0]))),((0,1),some (aA F kR)),((0,2),some (aA F [.rows 25 (.len 470) (b9 ag)])),((0,3),none),((1,0),some (aA F [.rows 1 (.len 610) (.var 610 [.i .i64])]))]:=by
    rw[e,yL,xp,e8]
   exact this
end Go.Proofs.YtpdfmnhgocpkcaaGreat
namespace Go.Proofs.YtpdfmnhgocpkcaaGreat
open Go Go.Proofs.Aw Go.Proofs.Xw
set_option maxRecDepth 100000
def fI:List Kd:=List.replicate 6 (.i .i64)++[.s,.s,.b]++List.replicate 11 (.i .i64)
def p0:List X:=[xi 1,aY (0,1) 1 (.len 470),aY (0,2) 25 (.len 470),fx false,xn 1]++vi 405 9++[xl false,xn 0]
def Dc (L:RL):au:=[((0,0),p0),((0,1),kR),((0,2),[.rows 25 (.len 470) L]),((0,3),oR)]
def ar1:ba:=([1,3,4,5,11,12,13,14,15,16,17,24,25,26]++(List.range 54).map (29 + ·)).map fun k=>(k,.top)
def zq (i f:X):ba:=(7,i)::(6,f)::(0,.ptr (0,0) [] 0)::ar1
def tO:X := .slv (73,0) 20 (.lit 0) (.len 651) true
def p3:au:=Dc c5++[((73,0),[.rows 20 (.len 651) (.var 651 fI)])]
def tP (ag:Bool):XS:=⟨zq (xn 0) pB,Dc (b9 ag),73⟩
def Qy:XS:=⟨zq (xn 0) pB,Dc c5,73⟩
def p4 (some_:Bool):XS:=if some_=true then⟨zq (xi 700) tO,p3,74⟩else⟨zq (xi 700) pB,Dc c5,73⟩
def rL (some_:Bool):XS:=if some_=true then⟨zq .top tO,p3,120⟩else⟨zq .top pB,Dc c5,120⟩
noncomputable def oN:Code:=(dP (Tryz.f115.body.getD .skip))[0]?.getD .skip
def uJ (i:U):List Sc:=(List.range 6).map (fun k=>eb (.cl 625 (2+k) i))++[.s (.cl 625 8 i),.s (.cl 625 9 i),.b (.cl 625 10 i)]++(List.range 11).map fun k=>eb (.cl 625 (11+k) i)
def Qw:List dm:=[⟨p4 false,[],[⟨0,[],[651],[],[],[(e_,false)]⟩]⟩,⟨p4 true,[],[⟨0,[],[],[],[(651,.lit 1,.one (uJ (.var 700)))],[(e_,true)]⟩,⟨1,[],[651],[],[],[(e_,false)]⟩,⟨1,[],[],[],[(651,.op .cV .i64 (.len 651) (.lit 1),.app (.len 651) (.var 651 fI) (.one (uJ (.var 700))))],[(e_,true)]⟩]⟩]
def wu:J:=(.lt (.lit 6) (.len 651),false)::IB
def Iu:J:=[(.lt (.var 700) (.lit 0),false),(.lt (.var 700) (.len 470),false)]++fO
noncomputable def ZB (s:Bool) (B:J):T (XE×XS):=(ck g0.c.ti (eD g0 12) ((g0.c.hv 115).elim [] (·.ms)) 2 [] 1000 oN B (p4 s)).map (dV ((p4 s).t.map (·.1)))
noncomputable def zp (s:Bool) (B:J):Bool:=dB 2 630 700 [] (0,[]) (if s=true then 1 else 0) Qw (rL s) .normal B (ZB s B)
noncomputable def wv (s:Bool) (x:Nat) (B:J):Bool:=dB 2 630 700 [] (0,[]) 0 [] (rL s) (.exit x) B (ZB s B)
end Go.Proofs.YtpdfmnhgocpkcaaGreat
namespace Go.Proofs.YtpdfmnhgocpkcaaGreat
open Go Go.Proofs.Aw Go.Proofs.Xw
set_option maxRecDepth 100000
theorem ar8:(zp false ((e_,true)::wu)&&(zp false ((e_,false)::wu)&&wv false 0 Iu))=true:=by kernel_rfl
theorem ar9:(zp true ((e_,true)::wu)&&(zp true ((e_,false)::wu)&&wv true 0 Iu))=true:=by kernel_rfl
theorem ar7 (s:Bool):zp s ((e_,true)::wu)=true/\zp s ((e_,false)::wu)=true/\wv s 0 Iu=true:=by
 cases s
 ·have:=ar8
  simpa only[Bool.and_eq_true]using this
 ·have:=ar9
  simpa only[Bool.and_eq_true]using this
theorem Qz:da Tryz.f115.ntmps oN=true:=by kernel_rfl
theorem ZD:([true,false].all fun ag=>(tP ag).ar 630)=true:=by kernel_rfl
def ZA:Bind:=⟨[(700,.lit 0)],[],[],[(651,.lit 0,.one [])]⟩
theorem asa:ff 2 630 ZA [] (p4 false) Qy=true:=by kernel_rfl
noncomputable def oO (ag s:Bool):bj:=⟨(dt oN).getD 0,2,630,tP ag,gz,[],.ret (.exit 0,rL s)⟩
noncomputable def dj (ρ:aa) (x:Int):List AV:=b' { ρ with i:=fun _=>x } (uJ (.var 0))
theorem Ts {ρ F:aa} (ah:az 630 ρ F) (x:Int):dj ρ x=dj F x:=by
 unfold dj b' uJ
 simp only[List.map_append,List.map_cons,List.map_nil,List.map_map,Function.comp_def,Sc.I,eb,U.I,BE.I,TE.I,ah.ci 625 (by decide),ah.cb 625 (by decide),ah.cs 625 (by decide)]
theorem X9 {F:aa} {j:Nat} {l:List AV} (hi:∀k,F.ci 651 k j=aG l[k]?) (hb:∀k,F.cb 651 k j=dK l[k]?) (hs:∀k,F.cs 651 k j=cellS l[k]?) :
  (RL.var 651 fI).row F (j:Int)=[.sc (.int .i64 (aG l[0]?)),.sc (.int .i64 (aG l[1]?)),.sc (.int .i64 (aG l[2]?)),.sc (.int .i64 (aG l[3]?)),.sc (.int .i64 (aG l[4]?)),.sc (.int .i64 (aG l[5]?)),.sc (.string (cellS l[6]?)),.sc (.string (cellS l[7]?)),.sc (.bool (dK l[8]?)),.sc (.int .i64 (aG l[9]?)),.sc (.int .i64 (aG l[10]?)),.sc (.int .i64 (aG l[11]?)),.sc (.int .i64 (aG l[12]?)),.sc (.int .i64 (aG l[13]?)),.sc (.int .i64 (aG l[14]?)),.sc (.int .i64 (aG l[15]?)),.sc (.int .i64 (aG l[16]?)),.sc (.int .i64 (aG l[17]?)),.sc (.int .i64 (aG l[18]?)),.sc (.int .i64 (aG l[19]?))]:=by
 simp only[<-hi,<-hb,<-hs]
 rfl
theorem X_ {ρ F:aa} {x:Int} {j:Nat} (hi:∀k,F.ci 651 k j=aG (dj ρ x)[k]?) (hb:∀k,F.cb 651 k j=dK (dj ρ x)[k]?) (hs:∀k,F.cs 651 k j=cellS (dj ρ x)[k]?):(RL.var 651 fI).row F (j:Int)=dj ρ x:=by
 rw[X9 hi hb hs];rfl
theorem aqb {ρ F:aa} {j:Nat} (hi:∀k,F.ci 651 k j=aG ((RL.var 651 fI).row ρ (j:Int))[k]?) (hb:∀k,F.cb 651 k j=dK ((RL.var 651 fI).row ρ (j:Int))[k]?) (hs:∀k,F.cs 651 k j=cellS ((RL.var 651 fI).row ρ (j:Int))[k]?):(RL.var 651 fI).row F (j:Int)=(RL.var 651 fI).row ρ (j:Int):=by
 rw[X9 hi hb hs];rfl
noncomputable def dX (ρ:aa) (m:Nat):List Nat:=(List.range m).filter fun j=>ρ.cb 625 1 j
theorem TS (ρ:aa) (m:Nat):dX ρ (m+1)=dX ρ m++if ρ.cb 625 1 m=true then [m]else []:=by
 unfold dX
 rw[List.range_succ,List.filter_append]
 congr 1
 by_cases h:ρ.cb 625 1 m=true
 ·simp[h]
 ·simp[h]
theorem TR (ρ:aa) (m:Nat):(dX ρ m).length<=m:=by
 have:=List.length_filter_le (fun j=>ρ.cb 625 1 j) (List.range m)
 rwa[List.length_range]at this
structure Jg (am:aa) (m:Nat) (i:Nat) (ρ:aa):Prop where
 z:i=0->dX am m=[]
 b:i≠0->i=1/\dX am m≠[]/\ρ.len 651=(dX am m).length/\∀(r v:Nat),(dX am m)[r]? = some v->(RL.var 651 fI).row ρ (r:Int)=dj am (v:Int)
structure RN (am ρ:aa) (i:Nat):Prop where
 ah:az 630 am ρ
 l6:ρ.len 651<=6
 m:∃m:Nat,m<=am.len 470/\ρ.i 700=m/\Jg am m i ρ
theorem aeU {am ρ aw:aa} {m i j:Nat} {bM:dm} (hm:m<6) (ah:az 630 am ρ) (hR:Jg am m i ρ) (h7:ρ.i 700=m) (H:e_.I ρ=am.cb 625 1 m) (M:ρ.len 651<=6) (O:Qw[j]? = some bM) (ha:bM.di=[]\/∃a∈bM.di,a.fr=i/\gH a ρ aw):(j=0\/j=1)/\Jg am (m+1) j aw/\aw.len 651<=6:=by
 have hs:=TS am m
 have hlen:=TR am (m+1)
 match j,O with
 | 0,O =>
  cases O
  simp only[List.cons_ne_nil,false_or,List.mem_cons,List.not_mem_nil,or_false]at ha
  obtain⟨a,rfl,dY,a2⟩:=ha
  have h0:0=i:=dY
  have cn:e_.I ρ=false:=a2.1 _ List.mem_cons_self
  have hz:=hR.z h0.symm
  have kc:=(a2.2.1.2 651 List.mem_cons_self).1
  refine⟨.inl rfl,⟨fun _ => ?_,fun h=>absurd rfl h⟩,by rw[kc];exact M⟩
  rw[hs,hz,if_neg (by rw[<-H,cn];decide)];rfl
 | 1,O =>
  cases O
  simp only[List.cons_ne_nil,false_or,List.mem_cons,List.not_mem_nil,or_false]at ha
  obtain⟨a,hq,dY,a2⟩:=ha
  rcases hq with rfl | rfl | rfl
  ·have h0:0=i:=dY
   have cn:e_.I ρ=true:=a2.1 _ List.mem_cons_self
   have hz:=hR.z h0.symm
   have e:dX am (m+1)=[m]:=by rw[hs,hz,if_pos (by rw[<-H,cn])];rfl
   obtain⟨l,ci,cb,cs⟩:=a2.2.2.2 _ List.mem_cons_self
   have l:aw.len 651=1:=l
   refine⟨.inr rfl,⟨fun h=>by omega,fun _=>⟨rfl,by rw[e];simp,by rw[e,l];rfl,fun r v R => ?_⟩⟩,by omega⟩
   rw[e]at R
   have hr:r=0:=by
    have:=(List.getElem?_eq_some_iff.1 R).1
    simpa using this
   subst hr
   have R:m=v:=by simpa using R
   have e8:(RL.one (uJ (.var 700))).row ρ ((0:Nat):Int)=dj ρ (ρ.i 700):=rfl
   rw[Ts ah,<-R,<-h7]
   exact X_ (fun k=>by rw[ci k 0,e8]) (fun k=>by rw[cb k 0,e8]) (fun k=>by rw[cs k 0,e8])
  ·have h0:1=i:=dY
   have cn:e_.I ρ=false:=a2.1 _ List.mem_cons_self
   obtain⟨_,b2,dr,fg⟩:=hR.b (by omega)
   have e:dX am (m+1)=dX am m:=by rw[hs,if_neg (by rw[<-H,cn];decide),List.append_nil]
   obtain⟨l,c1,c2,c3⟩:=a2.2.1.2 651 List.mem_cons_self
   refine⟨.inr rfl,⟨fun h=>by omega,fun _=>⟨rfl,by rw[e];exact b2,by rw[e,l];exact dr,fun r v R => ?_⟩⟩,by omega⟩
   rw[e]at R
   rw[<-fg r v R]
   show [_,_,_,_,_,_,_,_,_,_,_,_,_,_,_,_,_,_,_,_]=[_,_,_,_,_,_,_,_,_,_,_,_,_,_,_,_,_,_,_,_]
   rw[c1,c2,c3]
  ·have h0:1=i:=dY
   have cn:e_.I ρ=true:=a2.1 _ List.mem_cons_self
   obtain⟨_,b2,dr,fg⟩:=hR.b (by omega)
   have e:dX am (m+1)=dX am m++[m]:=by rw[hs,if_pos (by rw[<-H,cn])]
   obtain⟨l,ci,cb,cs⟩:=a2.2.2.2 _ List.mem_cons_self
   have l:aw.len 651=(((ρ.len 651:Nat):Int)+1).toNat:=l
   have l:aw.len 651=ρ.len 651+1:=by omega
   rw[e,List.length_append,List.length_singleton]at hlen
   refine⟨.inr rfl,⟨fun h=>by omega,fun _=>⟨rfl,by rw[e];simp,by rw[e,List.length_append,List.length_singleton,l,dr],fun r v R => ?_⟩⟩,by omega⟩
   rw[e]at R
   by_cases hr:r<ρ.len 651
   ·have e8:(RL.app (.len 651) (.var 651 fI) (.one (uJ (.var 700)))).row ρ ((r:Nat):Int)=(RL.var 651 fI).row ρ (r:Int):=by
     show(if(r:Int)<(ρ.len 651:Int)then _ else _)=_
     rw[if_pos (by omega)]
    rw[List.getElem?_append_left (by omega)]at R
    rw[<-fg r v R]
    exact aqb (fun k=>by rw[ci k r,e8]) (fun k=>by rw[cb k r,e8]) (fun k=>by rw[cs k r,e8])
   ·have e8:(RL.app (.len 651) (.var 651 fI) (.one (uJ (.var 700)))).row ρ ((r:Nat):Int)=dj ρ (ρ.i 700):=by
     show(if(r:Int)<(ρ.len 651:Int)then _ else _)=_
     rw[if_neg (by omega)];rfl
    rw[List.getElem?_append_right (by omega)]at R
    have qH:r-(dX am m).length=0:=by
     have:=(List.getElem?_eq_some_iff.1 R).1
     simpa using this
    rw[qH]at R
    have R:m=v:=by simpa using R
    rw[Ts ah,<-R,<-h7]
    exact X_ (fun k=>by rw[ci k r,e8]) (fun k=>by rw[cb k r,e8]) (fun k=>by rw[cs k r,e8])
 | j+2,O=>cases O
end Go.Proofs.YtpdfmnhgocpkcaaGreat
namespace Go.Proofs.YtpdfmnhgocpkcaaGreat
open Go Go.Proofs.Aw Go.Proofs.Xw
set_option maxRecDepth 100000
theorem ar5 (ρ:aa) (ag:Bool):(tP ag).I (bK ρ ag)=Qy.I (bK ρ ag):=by
 have e:=Ju ρ ag
 show St.mk _ [(_,_),(_,_),(_,aA (bK ρ ag) [.rows 25 (.len 470) (b9 ag)]),(_,_)] _=St.mk _ [(_,_),(_,_),(_,aA (bK ρ ag) [.rows 25 (.len 470) c5]),(_,_)] _
 rw[e]
 rfl
theorem asb (hS:∀s∈h2,c4 Tryz.prog s) {ρ:aa} (ag:Bool) (hT:TI ρ) (dp:ρ.i 443=1) (hb:(bV 47).I ρ=ag) (hu:ag=true->(BE.eq (.uf 2 0 dq) (.lit 1)).I ρ=true) (s:Bool) (hs:s = !(dX (bK ρ ag) (ρ.len 470)).isEmpty) :
  ∃ao,az 630 (bK ρ ag) ao/\(s=true->ao.len 651=(dX (bK ρ ag) (ρ.len 470)).length/\∀(r v:Nat),(dX (bK ρ ag) (ρ.len 470))[r]? = some v->(RL.var 651 fI).row ao (r:Int)=dj (bK ρ ag) (v:Int))/\bY Tryz.prog ao Tryz.f115.ntmps oN (oO ag s):=by
 have n1:=hT.n1
 have n6:=hT.n6
 have F9:(bK ρ ag).len 470=ρ.len 470:=rfl
 have hE:=fun j O hq=>KI hT hb hu j O hq
 generalize h5:bK ρ ag=fz at hE hs F9 ⊢
 have afs:fz.i 443=1:=by rw[<-h5];exact dp
 have afV:(tP ag).I fz=Qy.I fz:=by rw[<-h5];exact ar5 ρ ag
 rw[<-F9]at n1 n6 hE hs ⊢
 have H:∀F,b4 Tryz.prog F g0.c:=fun F=>kW (List.forall_mem_nil _)
 have qx:(tP ag).ar 630=true:=List.all_eq_true.1 ZD ag (by cases ag<;>simp)
 refine ot (P:=Tryz.prog) (N:=Tryz.f115.ntmps) (body:=oN) (k0:=2) (n:=630) (S0:=tP ag) (ρ:=fz) qx (fun i=>p4 (if i=0 then false else true)) (oO ag s) ⟨rfl,rfl,rfl⟩ (fun i F=>(i=0\/i=1)/\RN fz F i) (fun ao=>s=true->ao.len 651=(dX fz (fz.len 470)).length/\∀(r v:Nat),(dX fz (fz.len 470))[r]? = some v->(RL.var 651 fI).row ao (r:Int)=dj fz (v:Int)) (fun F=>fz.len 470-(F.i 700).toNat) (fun i F hR => ?_) ⟨0,ZA.ap fz,Bind.bq (by kernel_rfl) fz,⟨.inl rfl,Bind.bq (by kernel_rfl) fz,Nat.zero_le _,0,Nat.zero_le _,rfl,fun _=>rfl,fun h=>absurd rfl h⟩,fun ac _ bI=>by rw[afV];exact jE bI asa fz⟩
 obtain⟨hi,hR⟩:=hR
 have ah:=hR.ah
 obtain⟨m,hm,h7,lb⟩:=hR.m
 have l4:F.len 470=fz.len 470:=(ah.len 470 (by decide)).symm
 have aP:=eU (c:=g0) (H F) hS 12
 have j_:J.ok F fO:=yW (by rw[<-ah.i 443 (by decide)];exact afs) (by omega) (by omega)
 obtain⟨r1,r0,rx⟩:=ar7 (if i=0 then false else true)
 by_cases aQ:m<fz.len 470
 ·right
  have hp:p7.I F=m+1:=by
   refine(show p7.I F=IntKind.i64.wrap (F.i 700+1)from rfl).trans ?_
   rw[h7];exact ca _ (by omega) (by omega)
  have se:(F.i 700).toNat=m:=by omega
  have cn:e_.I F=fz.cb 625 1 m:=by
   show F.cb 625 1 (F.i 700).toNat=_
   rw[se,<-ah.cb 625 (by decide)]
  have u:J.ok F wu:=j1 (show(F.len 651:Int)<=6 by have:=hR.l6;omega) (fR (show(0:Int)<=F.i 700 by omega) (J.av (decide_eq_true (by show F.i 700<(F.len 470:Int);omega)) (fF (show p7.I F<=(F.len 470:Int)by rw[hp];omega) (fR (by rw[hp];omega) j_))))
  have ir:(∃(j:Nat) (C:dm) (aw:aa),Qw[j]? = some C/\ep Tryz.prog Tryz.f115.ntmps oN 2 (p4 (if i=0 then false else true)) C.S F aw/\J.ok aw C.b6/\aw.i 700=IntKind.i64.wrap (F.i 700+1)/\az 630 F aw/\(d' 0 [] F->d' 0 [] aw)/\(C.di=[]\/∃a∈C.di,a.fr=(if(if i=0 then false else true)=true then 1 else 0)/\gH a F aw))->∃i' aw,ep Tryz.prog Tryz.f115.ntmps oN 2 (p4 (if i=0 then false else true)) (p4 (if i'=0 then false else true)) F aw/\((i'=0\/i'=1)/\RN fz aw i')/\fz.len 470-(aw.i 700).toNat<fz.len 470-(F.i 700).toNat/\az 630 F aw:=fun⟨j,C,aw,g1,g2,_,g4,g5,_,g7⟩=>by
   have e4:aw.i 700=m+1:=by rw[g4,h7];exact ca _ (by omega) (by omega)
   have ul:(if(if i=0 then false else true)=true then 1 else 0)=i:=by rcases hi with rfl | rfl<;>rfl
   rw[ul]at g7
   obtain⟨q1,q2,q3⟩:=aeU (by omega) ah lb h7 cn hR.l6 g1 g7
   have An:C.S=p4 (if j=0 then false else true):=by
    rcases q1 with rfl | rfl<;>(cases g1;rfl)
   rw[An]at g2
   exact⟨j,aw,g2,⟨q1,ah.trans g5,q3,m+1,by omega,by omega,q2⟩,by omega,g5⟩
  rcases kV e_ F with h | h
  ·exact ir (kL mixed cR aP (a1.nil _ _ _ _) Qz (J.av h u) r1)
  ·exact ir (kL mixed cR aP (a1.nil _ _ _ _) Qz (J.av h u) r0)
 ·left
  obtain rfl:m=fz.len 470:=by omega
  have u:J.ok F Iu:=fR (show(0:Int)<=F.i 700 by omega) (J.av (decide_eq_false (by show ¬F.i 700<(F.len 470:Int);omega)) j_)
  have i3:s=(if i=0 then false else true):=by
   rcases hi with rfl | rfl
   ·rw[hs,lb.z rfl];rfl
   ·obtain⟨_,b2,_⟩:=lb.b (by decide)
    rw[hs]
    cases hq:dX fz (fz.len 470)with
    | nil=>exact absurd hq b2
    | cons _ _=>rfl
  refine⟨fun cd => ?_,?_⟩
  ·have:i≠0:=fun h=>by rw[i3,if_pos h]at cd;cases cd
   obtain⟨_,_,dr,fg⟩:=lb.b this
   exact⟨dr,fg⟩
  ·rw[i3]
   rcases gC mixed cR aP (a1.nil _ _ _ _) Qz u rx with h | ⟨j,C,_,g1,_⟩
   ·exact h
   ·simp at g1
end Go.Proofs.YtpdfmnhgocpkcaaGreat
