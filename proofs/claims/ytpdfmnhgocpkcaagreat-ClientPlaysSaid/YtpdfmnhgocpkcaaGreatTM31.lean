/- Parts of the proof, one behind the other. -/
import Derived.Test.YtpdfmnhgocpkcaaGreatTM30
namespace Go.Proofs.YtpdfmnhgocpkcaaGreat
open Go Go.Proofs.Aw Go.Proofs.Xw
set_option maxRecDepth 100000
noncomputable def k5 (ρ:aa) (x:Int):List Value:=(xp (.var 0)).I { ρ with i:=fun _=>x }
theorem aea (ρ:aa):(xp (.var 700)).I ρ=k5 ρ (ρ.i 700):=rfl
theorem Ts {ρ F:aa} (ah:az 630 ρ F) (x:Int):k5 ρ x=k5 F x:=by
 show [_,_,_,_,_,_,_,_,_,_,_,_,_,_,_,_,_,_,_,_]=[_,_,_,_,_,_,_,_,_,_,_,_,_,_,_,_,_,_,_,_]
 simp only[U.I,BE.I,TE.I,ah.ci 625 (by decide),ah.cb 625 (by decide),ah.cs 625 (by decide)]
noncomputable def ia (ρ:aa) (k:Nat):Nat->Int
 | 0=>ρ.i (405+k)
 | m+1=>if ρ.cb 625 1 m=true then max (max 0 (ia ρ k m)) (UF 3 (k5 ρ m) k)else ia ρ k m
structure RQ (al ρ:aa):Prop where
 ah:az 630 al ρ
 m:∃m:Nat,m<=al.len 470/\ρ.i 700=m/\∀k,k<9->ρ.i (640+k)=ia al k m
noncomputable def oW:bf:=⟨(du oV).getD 0,2,630,Dh,gj,[],.ret (.exit 0,rM)⟩
theorem QH:da Tryz.f120.ntmps oV=true:=by kernel_rfl
def ZP:Bind:=⟨(700,.lit 0)::(List.range 9).map (fun k=>(640+k,.var (405+k))),[],[],[]⟩
theorem as3:ff 2 630 ZP [] tR Dh=true:=by kernel_rfl
theorem ZR:Dh.ar 630=true:=by kernel_rfl
theorem yV {ρ:aa} (dq:ρ.i 443=1) (A:1<=ρ.len 470) (h6:ρ.len 470<=6):J.ok ρ fP :=
 J.av (by show(ρ.i 443==1)=true;rw[dq];rfl) (fR (show(1:Int)<=(ρ.len 470:Int)by omega) (j0 (show(ρ.len 470:Int)<=6 by omega) (J.bq _)))
theorem nine {P:Nat->Prop} (h0:P 0) (A:P 1) (E:P 2) (h3:P 3) (h4:P 4) (h5:P 5) (h6:P 6) (h7:P 7) (ul:P 8):∀k,k<9->P k:=fun k u=>by
 rcases(show k=0\/k=1\/k=2\/k=3\/k=4\/k=5\/k=6\/k=7\/k=8 by omega)with rfl | rfl | rfl | rfl | rfl | rfl | rfl | rfl | rfl<;>assumption
theorem as4 (hS:∀s∈h2,c4 Tryz.prog s) {ρ:aa} (dq:ρ.i 443=1) (A:1<=ρ.len 470) (h6:ρ.len 470<=6) (hE:∀j:Nat,j<ρ.len 470->ρ.cb 625 1 j=true->UF 2 (k5 ρ j) 0=1):∃am,az 630 ρ am/\(∀k,k<9->am.i (640+k)=ia ρ k (ρ.len 470))/\bW Tryz.prog am Tryz.f120.ntmps oV oW:=by
 have H:∀F,bZ Tryz.prog F g9.c:=fun F=>kW (List.forall_mem_nil _)
 have bD:=as2
 simp only[Bool.and_eq_true]at bD
 obtain⟨r0,r1,r2⟩:=bD
 refine ou (P:=Tryz.prog) (N:=Tryz.f120.ntmps) (body:=oV) (k0:=2) (n:=630) (S0:=Dh) (ρ:=ρ) ZR (fun _=>tR) oW ⟨rfl,rfl,rfl⟩ (fun _ F=>RQ ρ F) (fun F=>∀k,k<9->F.i (640+k)=ia ρ k (ρ.len 470)) (fun F=>ρ.len 470-(F.i 700).toNat) (fun _ F hR => ?_) ⟨0,ZP.ap ρ,Bind.bt (by kernel_rfl) ρ,⟨Bind.bt (by kernel_rfl) ρ,0,Nat.zero_le _,rfl,nine rfl rfl rfl rfl rfl rfl rfl rfl rfl⟩,fun ac _ bI=>jF bI as3 ρ⟩
 have ah:=hR.ah
 obtain⟨m,hm,hi,iP⟩:=hR.m
 have l4:F.len 470=ρ.len 470:=(ah.len 470 (by decide)).symm
 have aP:=eU (c:=g9) (H F) hS 12
 have j_:J.ok F fP:=yV (by rw[<-ah.i 443 (by decide)];exact dq) (by omega) (by omega)
 by_cases aQ:m<ρ.len 470
 ·right
  have hp:p7.I F=m+1:=by
   refine(show p7.I F=IntKind.i64.wrap (F.i 700+1)from rfl).trans ?_
   rw[hi];exact cc _ (by omega) (by omega)
  have u:J.ok F IA:=fR (show(0:Int)<=F.i 700 by omega) (J.av (decide_eq_true (by show F.i 700<(F.len 470:Int);omega)) (fF (show p7.I F<=(F.len 470:Int)by rw[hp];omega) (fR (by rw[hp];omega) j_)))
  have sd:(F.i 700).toNat=m:=by omega
  have hb:fa.I F=ρ.cb 625 1 m:=by
   show F.cb 625 1 (F.i 700).toNat=_
   rw[sd,<-ah.cb 625 (by decide)]
  have is:(∃(j:Nat) (C:dm) (ax:aa),ZM[j]? = some C/\ea Tryz.prog Tryz.f120.ntmps oV 2 tR C.S F ax/\J.ok ax C.bS/\ax.i 700=IntKind.i64.wrap (F.i 700+1)/\az 630 F ax/\(dX 0 [] F->dX 0 [] ax)/\(C.di=[]\/∃a∈C.di,a.fr=0/\gI a F ax))->∃i' ax,ea Tryz.prog Tryz.f120.ntmps oV 2 tR tR F ax/\RQ ρ ax/\ρ.len 470-(ax.i 700).toNat<ρ.len 470-(F.i 700).toNat/\az 630 F ax:=fun⟨j,C,ax,g1,g2,_,g4,g5,_,g7⟩=>by
   have e4:ax.i 700=m+1:=by rw[g4,hi];exact cc _ (by omega) (by omega)
   match j,g1 with
   | 0,g1 =>
    cases g1
    refine⟨0,ax,g2,⟨ah.trans g5,m+1,by omega,by omega,fun k kb => ?_⟩,by omega,g5⟩
    simp only[List.cons_ne_nil,false_or,List.mem_cons,List.not_mem_nil,or_false]at g7
    obtain⟨a,ha,_,a2⟩:=g7
    rcases ha with rfl | rfl
    ·have W:fa.I F=true:=a2.1 _ List.mem_cons_self
     have R:=a2.2.2.1 (640+k,.op .max .i64 (.op .max .i64 (.lit 0) (.var (640+k))) (.uf 3 k (xp (.var 700)))) (List.mem_map.2 ⟨k,List.mem_range.2 kb,rfl⟩)
     have R:ax.i (640+k)=max (max 0 (F.i (640+k))) (UF 3 (k5 F (F.i 700)) k):=R
     rw[R,iP k kb,hi,<-Ts ah]
     show _=if ρ.cb 625 1 m=true then _ else _
     rw[if_pos (by rw[<-hb];exact W)]
    ·have W:fa.I F=false:=a2.1 _ List.mem_cons_self
     have R:=a2.2.1.1 (640+k) (by
      rcases(show k=0\/k=1\/k=2\/k=3\/k=4\/k=5\/k=6\/k=7\/k=8 by omega)with rfl | rfl | rfl | rfl | rfl | rfl | rfl | rfl | rfl<;>decide)
     rw[R,iP k kb]
     show _=if ρ.cb 625 1 m=true then _ else _
     rw[if_neg (by rw[<-hb,W];decide)]
   | j+1,g1=>cases g1
  cases W:fa.I F with
  | true =>
   have hw:wr7.I F=true:=by
    have:=hE m aQ (by rw[<-hb];exact W)
    show(UF 2 ((xp (.var 700)).I F) 0==1)=true
    rw[aea,hi,<-Ts ah,this];rfl
   exact is (kL mixed cR aP (a1.nil _ _ _ _) QH (J.av W (J.av hw u)) r0)
  | false=>exact is (kL mixed cR aP (a1.nil _ _ _ _) QH (J.av W u) r1)
 ·left
  obtain rfl:m=ρ.len 470:=by omega
  have u:J.ok F ZN:=fR (show(0:Int)<=F.i 700 by omega) (J.av (decide_eq_false (by show ¬F.i 700<(F.len 470:Int);omega)) j_)
  refine⟨iP,?_⟩
  rcases gD mixed cR aP (a1.nil _ _ _ _) QH u r2 with h | ⟨j,C,_,g1,_⟩
  ·exact h
  ·simp at g1
end Go.Proofs.YtpdfmnhgocpkcaaGreat
namespace Go.Proofs.YtpdfmnhgocpkcaaGreat
open Go Go.Proofs.Aw Go.Proofs.Xw
set_option maxRecDepth 100000
def tb (i:U):U := .uf 0 0 (.s (.cl 470 0 i) (.i (.var 1) .nil))
def rA (k:Nat) (i:U):U := .ite (.eq (tb i) (.lit 0)) (.var k) (.ite (.eq (tb i) (.lit 1)) (.var (k+1)) (.var (k+2)))
def nX (i:U):BE := .lt (.cl 625 22 i) (rA 640 i)
def qn (i:U):BE := .lt (.cl 625 23 i) (rA 643 i)
def uE (i:U):BE := .lt (.cl 625 24 i) (rA 646 i)
def lZ (i:U):BE := .or (nX i) (.or (qn i) (uE i))
def C3 (i:X):ba:=[(36,i),(35,.sc (.i .i64 (.len 470))),(34,aY (0,2) 25 (.len 470)),(33,.top),(32,.top),(31,.top),(11,.top),(10,.top),(9,.top),(8,.top),(7,.top),(6,.top),(0,.ptr (0,0) [] 0)]
def t2L:X := .slv (66,0) 1 (.lit 0) (.len 650) true
def asY (td:X) (rd:Int):au:=[((0,0),vi 405 9++vi 640 9++[xi 1,aY (0,1) 1 (.len 470),aY (0,2) 25 (.len 470),td,xn rd,xn 0]),((0,1),kR),((0,2),[.rows 25 (.len 470) c5])]
def Zq:au:=asY t2L 2++[((66,0),[.rows 1 (.len 650) (.var 650 [.i .i64])])]
def Iq:XS:=⟨C3 (xn 0),p5 640 (fy false) 1,66⟩
def pV (again:Bool):XS:=if again=true then⟨C3 (xi 710),Zq,67⟩else⟨C3 (xi 710),p5 640 (fy false) 1,66⟩
def Qn (again:Bool):XS:=if again=true then⟨C3 (xi 710),Zq,140⟩else⟨C3 (xi 710),p5 640 (fy false) 1,140⟩
noncomputable def rI:Code:=(dP (Tryz.f120.body.getD .skip))[1]?.getD .skip
def c7:U := .var 710
def q7:U := .op .add .i64 (.var 710) (.lit 1)
def Qm:List dm:=[⟨pV false,[],[⟨0,[],[650],[],[],[(lZ c7,false)]⟩]⟩,⟨pV true,[],[⟨0,[],[],[],[(650,.lit 1,.one [ec c7])],[(lZ c7,true)]⟩,⟨1,[],[650],[],[],[(lZ c7,false)]⟩,⟨1,[],[],[],[(650,.op .cW .i64 (.len 650) (.lit 1),.app (.len 650) (.var 650 [.i .i64]) (.one [ec c7]))],[(lZ c7,true)]⟩]⟩]
def uK:BE×Bool:=(.eq (.len 474) (.op .cW .i64 (.var 440) (.var 443)),true)
def CZ:J:=[(.lt (.var 710) (.lit 0),false),(.lt (.var 710) (.len 470),true),(.lt (.len 470) q7,false),(.lt q7 (.lit 0),false),(.lt (.lit 16) (.cB (.cl 470 0 (.var 710))),false),(.lt (.lit 6) (.len 650),false),uK]++(fP++(oU++dh))
def Ip:J:=[(.lt (.var 710) (.lit 0),false),(.lt (.var 710) (.len 470),false)]++fP
noncomputable def Zs (again:Bool) (B:J):T (XE×XS):=(ck g9.c.ti (eC g9 12) ((g9.c.hD 120).elim [] (·.ms)) 2 [] 1000 rI B (pV again)).map (dV ((pV again).t.map (·.1)))
noncomputable def nw (again:Bool) (B:J):Bool:=dC 2 650 710 [] (0,[]) (if again=true then 1 else 0) Qm (Qn again) .normal B (Zs again B)
noncomputable def Qo (again:Bool) (B:J):Bool:=dC 2 650 710 [] (0,[]) 0 [] (Qn again) (.exit 2) B (Zs again B)
def Lk:J:=(nX c7,true)::CZ
def Ll:J:=(qn c7,true)::(nX c7,false)::CZ
def Lm:J:=(uE c7,true)::(qn c7,false)::(nX c7,false)::CZ
def Lj:J:=(uE c7,false)::(qn c7,false)::(nX c7,false)::CZ
theorem ar2:(nw false Lk&&(nw false Ll&&(nw false Lm&&(nw false Lj&&Qo false Ip))))=true:=by kernel_rfl
theorem ar3:(nw true Lk&&(nw true Ll&&(nw true Lm&&(nw true Lj&&Qo true Ip))))=true:=by kernel_rfl
theorem ar1 (a:Bool):nw a Lk=true/\nw a Ll=true/\nw a Lm=true/\nw a Lj=true/\Qo a Ip=true:=by
 cases a
 ·have:=ar2
  simpa only[Bool.and_eq_true]using this
 ·have:=ar3
  simpa only[Bool.and_eq_true]using this
theorem C4:da Tryz.f120.ntmps rI=true:=by kernel_rfl
theorem ar0:Iq.ar 650=true:=by kernel_rfl
def Zr:Bind:=⟨[(710,.lit 0)],[],[],[(650,.lit 0,.one [])]⟩
theorem ar4:ff 2 650 Zr [] (pV false) Iq=true:=by kernel_rfl
noncomputable def C2 (again:Bool):bf:=⟨(du rI).getD 0,2,650,Iq,gj,[],.ret (.exit 2,Qn again)⟩
noncomputable def gN (ρ:aa) (x:Int):aa:={ ρ with i:=fun k=>if k=0 then x else ρ.i k }
noncomputable def l3 (ρ:aa) (x:Int):Bool:=(lZ (.var 0)).I (gN ρ x)
theorem adW (ρ:aa):(lZ c7).I ρ=l3 ρ (ρ.i 710):=rfl
theorem adV {ρ F:aa} (ah:az 650 ρ F) (x:Int):l3 ρ x=l3 F x :=
 BE.aT (n:=650) (ρ:=gN ρ x) (F:=gN F x) ⟨fun k u=>by show(if k=0 then x else ρ.i k)=if k=0 then x else F.i k;rw[ah.i k u],ah.b,ah.s,ah.len,ah.ci,ah.cb,ah.cs,ah.ct⟩ _ (by kernel_rfl)
noncomputable def bO (ρ:aa) (m:Nat):List Nat:=(List.range m).filter fun j=>l3 ρ (j:Int)
theorem ZJ (ρ:aa) (m:Nat):bO ρ (m+1)=bO ρ m++if l3 ρ (m:Int)=true then [m]else []:=by
 unfold bO
 rw[List.range_succ,List.filter_append]
 congr 1
 by_cases h:l3 ρ (m:Int)=true
 ·simp[h]
 ·simp[h]
theorem QC (ρ:aa) (m:Nat):(bO ρ m).length<=m:=by
 have:=List.length_filter_le (fun j=>l3 ρ ((j:Nat):Int)) (List.range m)
 rwa[List.length_range]at this
structure Jo (al:aa) (m:Nat) (i:Nat) (ρ:aa):Prop where
 z:i=0->bO al m=[]
 b:i≠0->i=1/\bO al m≠[]/\ρ.len 650=(bO al m).length/\∀(r v:Nat),(bO al m)[r]? = some v->ρ.ci 650 0 r=(v:Int)
structure RN (al ρ:aa) (i:Nat):Prop where
 ah:az 650 al ρ
 l6:ρ.len 650<=6
 m:∃m:Nat,m<=al.len 470/\ρ.i 710=m/\Jo al m i ρ
end Go.Proofs.YtpdfmnhgocpkcaaGreat
namespace Go.Proofs.YtpdfmnhgocpkcaaGreat
open Go Go.Proofs.Aw Go.Proofs.Xw
set_option maxRecDepth 100000
theorem adp {ρ:aa} {bx:Prop} {aU:J} (u:J.ok ρ aU) (A:J.ok ρ ((nX c7,true)::aU)->bx) (E:J.ok ρ ((qn c7,true)::(nX c7,false)::aU)->bx) (h3:J.ok ρ ((uE c7,true)::(qn c7,false)::(nX c7,false)::aU)->bx) (h0:J.ok ρ ((uE c7,false)::(qn c7,false)::(nX c7,false)::aU)->bx):bx:=by
 rcases kV (nX c7) ρ with a | a
 ·exact A (J.av a u)
 ·rcases kV (qn c7) ρ with b | b
  ·exact E (J.av b (J.av a u))
  ·rcases kV (uE c7) ρ with c | c
   ·exact h3 (J.av c (J.av b (J.av a u)))
   ·exact h0 (J.av c (J.av b (J.av a u)))
theorem aso {al ρ ax:aa} {m i j:Nat} {bM:dm} (hm:m<6) (hR:Jo al m i ρ) (h7:ρ.i 710=m) (H:(lZ c7).I ρ=l3 al m) (M:ρ.len 650<=6) (O:Qm[j]? = some bM) (ha:bM.di=[]\/∃a∈bM.di,a.fr=i/\gI a ρ ax):(j=0\/j=1)/\Jo al (m+1) j ax/\ax.len 650<=6:=by
 have hs:=ZJ al m
 have hlen:=QC al (m+1)
 match j,O with
 | 0,O =>
  cases O
  simp only[List.cons_ne_nil,false_or,List.mem_cons,List.not_mem_nil,or_false]at ha
  obtain⟨a,rfl,d3,a2⟩:=ha
  have h0:0=i:=d3
  have cn:(lZ c7).I ρ=false:=a2.1 _ List.mem_cons_self
  have hz:=hR.z h0.symm
  have kc:=(a2.2.1.2 650 List.mem_cons_self).1
  refine⟨.inl rfl,⟨fun _ => ?_,fun h=>absurd rfl h⟩,by rw[kc];exact M⟩
  rw[hs,hz,if_neg (by rw[<-H,cn];decide)];rfl
 | 1,O =>
  cases O
  simp only[List.cons_ne_nil,false_or,List.mem_cons,List.not_mem_nil,or_false]at ha
  obtain⟨a,hq,d3,a2⟩:=ha
  rcases hq with rfl | rfl | rfl
  ·have h0:0=i:=d3
   have cn:(lZ c7).I ρ=true:=a2.1 _ List.mem_cons_self
   have hz:=hR.z h0.symm
   have e:bO al (m+1)=[m]:=by rw[hs,hz,if_pos (by rw[<-H,cn])];rfl
   obtain⟨l,ci,_,_⟩:=a2.2.2.2 _ List.mem_cons_self
   have l:ax.len 650=1:=l
   refine⟨.inr rfl,⟨fun h=>by omega,fun _=>⟨rfl,by rw[e];simp,by rw[e,l];rfl,fun r v R => ?_⟩⟩,by omega⟩
   rw[e]at R
   have hr:r=0:=by
    have:=(List.getElem?_eq_some_iff.1 R).1
    simpa using this
   subst hr
   have R:m=v:=by simpa using R
   have c0:ax.ci 650 0 0=ρ.i 710:=ci 0 0
   rw[c0,h7,R]
  ·have h0:1=i:=d3
   have cn:(lZ c7).I ρ=false:=a2.1 _ List.mem_cons_self
   obtain⟨_,b2,dt,fg⟩:=hR.b (by omega)
   have e:bO al (m+1)=bO al m:=by rw[hs,if_neg (by rw[<-H,cn];decide),List.append_nil]
   obtain⟨l,c,_,_⟩:=a2.2.1.2 650 List.mem_cons_self
   refine⟨.inr rfl,⟨fun h=>by omega,fun _=>⟨rfl,by rw[e];exact b2,by rw[e,l];exact dt,fun r v R => ?_⟩⟩,by omega⟩
   rw[e]at R
   rw[c];exact fg r v R
  ·have h0:1=i:=d3
   have cn:(lZ c7).I ρ=true:=a2.1 _ List.mem_cons_self
   obtain⟨_,b2,dt,fg⟩:=hR.b (by omega)
   have e:bO al (m+1)=bO al m++[m]:=by rw[hs,if_pos (by rw[<-H,cn])]
   obtain⟨l,ci,_,_⟩:=a2.2.2.2 _ List.mem_cons_self
   have l:ax.len 650=(((ρ.len 650:Nat):Int)+1).toNat:=l
   have l:ax.len 650=ρ.len 650+1:=by omega
   rw[e,List.length_append,List.length_singleton]at hlen
   refine⟨.inr rfl,⟨fun h=>by omega,fun _=>⟨rfl,by rw[e];simp,by rw[e,List.length_append,List.length_singleton,l,dt],fun r v R => ?_⟩⟩,by omega⟩
   rw[e]at R
   have c0:=ci 0 r
   by_cases hr:r<ρ.len 650
   ·have e9:(RL.app (.len 650) (.var 650 [.i .i64]) (.one [ec c7])).row ρ ((r:Nat):Int)=(RL.var 650 [.i .i64]).row ρ (r:Int):=by
     show(if(r:Int)<(ρ.len 650:Int)then _ else _)=_
     rw[if_pos (by omega)]
    rw[e9]at c0
    have c0:ax.ci 650 0 r=ρ.ci 650 0 r:=c0
    rw[List.getElem?_append_left (by omega)]at R
    rw[c0];exact fg r v R
   ·have e9:(RL.app (.len 650) (.var 650 [.i .i64]) (.one [ec c7])).row ρ ((r:Nat):Int)=[AV.sc (.int .i64 (ρ.i 710))]:=by
     show(if(r:Int)<(ρ.len 650:Int)then _ else _)=_
     rw[if_neg (by omega)];rfl
    rw[e9]at c0
    have c0:ax.ci 650 0 r=ρ.i 710:=c0
    rw[List.getElem?_append_right (by omega)]at R
    have qH:r-(bO al m).length=0:=by
     have:=(List.getElem?_eq_some_iff.1 R).1
     simpa using this
    rw[qH]at R
    have R:m=v:=by simpa using R
    rw[c0,h7,R]
 | j+2,O=>cases O
theorem ar5 (hS:∀s∈h2,c4 Tryz.prog s) {ρ:aa} (M:J.ok ρ dh) (hT:TI ρ) (dq:ρ.i 443=1) (again:Bool) (ha:again = !(bO ρ (ρ.len 470)).isEmpty):∃am,az 650 ρ am/\(again=true->am.len 650=(bO ρ (ρ.len 470)).length/\∀(r v:Nat),(bO ρ (ρ.len 470))[r]? = some v->am.ci 650 0 r=(v:Int))/\bW Tryz.prog am Tryz.f120.ntmps rI (C2 again):=by
 have A:=hT.n1
 have h6:=hT.n6
 have H:∀F,bZ Tryz.prog F g9.c:=fun F=>kW (List.forall_mem_nil _)
 refine ou (P:=Tryz.prog) (N:=Tryz.f120.ntmps) (body:=rI) (k0:=2) (n:=650) (S0:=Iq) (ρ:=ρ) ar0 (fun i=>pV (if i=0 then false else true)) (C2 again) ⟨rfl,rfl,rfl⟩ (fun i F=>(i=0\/i=1)/\RN ρ F i) (fun am=>again=true->am.len 650=(bO ρ (ρ.len 470)).length/\∀(r v:Nat),(bO ρ (ρ.len 470))[r]? = some v->am.ci 650 0 r=(v:Int)) (fun F=>ρ.len 470-(F.i 710).toNat) (fun i F hR => ?_) ⟨0,Zr.ap ρ,Bind.bt (by kernel_rfl) ρ,⟨.inl rfl,Bind.bt (by kernel_rfl) ρ,Nat.zero_le _,0,Nat.zero_le _,rfl,fun _=>rfl,fun h=>absurd rfl h⟩,fun ac _ bI=>jF bI ar4 ρ⟩
 obtain⟨hi,hR⟩:=hR
 have ah:=hR.ah
 obtain⟨m,hm,h7,lb⟩:=hR.m
 have l4:F.len 470=ρ.len 470:=(ah.len 470 (by decide)).symm
 have aP:=eU (c:=g9) (H F) hS 12
 have j_:J.ok F fP:=yV (by rw[<-ah.i 443 (by decide)];exact dq) (by omega) (by omega)
 have pc:=hT.bt (ah.le (by decide))
 obtain⟨r1,r2,r3,r0,rx⟩:=ar1 (if i=0 then false else true)
 by_cases aQ:m<ρ.len 470
 ·right
  have hq:q7.I F=m+1:=by
   refine(show q7.I F=IntKind.i64.wrap (F.i 710+1)from rfl).trans ?_
   rw[h7];exact cc _ (by omega) (by omega)
  have hky:=(pc.ky m (by omega)).2
  have sd:(F.i 710).toNat=m:=by omega
  have dH:(uK.1).I F=true:=by
   show((F.len 474:Int)==F.i 440+F.i 443)=true
   rw[pc.rn];exact beq_self_eq_true _
  have dO:J.ok F (fP++(oU++dh)):=dY j_ (dY pc.tr (gR (n:=600) (ah.le (by decide)) (by kernel_rfl) M))
  have u:J.ok F CZ:=by
   refine fR (show(0:Int)<=F.i 710 by omega) (J.av (decide_eq_true (by show F.i 710<(F.len 470:Int);omega)) (fF (show q7.I F<=(F.len 470:Int)by rw[hq];omega) (fR (by rw[hq];omega) (j0 ?_ (j0 (show(F.len 650:Int)<=6 by have:=hR.l6;omega) (J.av dH dO))))))
   show((F.cs 470 0 (F.i 710).toNat).size:Int)<=16
   rw[sd];omega
  have cn:(lZ c7).I F=l3 ρ (m:Int):=by rw[adW,h7,<-adV ah]
  have is:(∃(j:Nat) (C:dm) (ax:aa),Qm[j]? = some C/\ea Tryz.prog Tryz.f120.ntmps rI 2 (pV (if i=0 then false else true)) C.S F ax/\J.ok ax C.bS/\ax.i 710=IntKind.i64.wrap (F.i 710+1)/\az 650 F ax/\(dX 0 [] F->dX 0 [] ax)/\(C.di=[]\/∃a∈C.di,a.fr=(if(if i=0 then false else true)=true then 1 else 0)/\gI a F ax))->∃i' ax,ea Tryz.prog Tryz.f120.ntmps rI 2 (pV (if i=0 then false else true)) (pV (if i'=0 then false else true)) F ax/\((i'=0\/i'=1)/\RN ρ ax i')/\ρ.len 470-(ax.i 710).toNat<ρ.len 470-(F.i 710).toNat/\az 650 F ax:=fun⟨j,C,ax,g1,g2,_,g4,g5,_,g7⟩=>by
   have e4:ax.i 710=m+1:=by rw[g4,h7];exact cc _ (by omega) (by omega)
   have t9:(if(if i=0 then false else true)=true then 1 else 0)=i:=by rcases hi with rfl | rfl<;>rfl
   rw[t9]at g7
   obtain⟨q1,q2,q3⟩:=aso (by omega) lb h7 cn hR.l6 g1 g7
   have Aq:C.S=pV (if j=0 then false else true):=by
    rcases q1 with rfl | rfl<;>(cases g1;rfl)
   rw[Aq]at g2
   exact⟨j,ax,g2,⟨q1,ah.trans g5,q3,m+1,by omega,by omega,q2⟩,by omega,g5⟩
  exact adp u (fun h=>is (kL mixed cR aP (a1.nil _ _ _ _) C4 h r1)) (fun h=>is (kL mixed cR aP (a1.nil _ _ _ _) C4 h r2)) (fun h=>is (kL mixed cR aP (a1.nil _ _ _ _) C4 h r3)) (fun h=>is (kL mixed cR aP (a1.nil _ _ _ _) C4 h r0))
 ·left
  obtain rfl:m=ρ.len 470:=by omega
  have u:J.ok F Ip:=fR (show(0:Int)<=F.i 710 by omega) (J.av (decide_eq_false (by show ¬F.i 710<(F.len 470:Int);omega)) j_)
  have ib:again=(if i=0 then false else true):=by
   rcases hi with rfl | rfl
   ·rw[ha,lb.z rfl];rfl
   ·obtain⟨_,b2,_⟩:=lb.b (by decide)
    rw[ha]
    cases hq:bO ρ (ρ.len 470)with
    | nil=>exact absurd hq b2
    | cons _ _=>rfl
  refine⟨fun cf => ?_,?_⟩
  ·have:i≠0:=fun h=>by rw[ib,if_pos h]at cf;cases cf
   obtain⟨_,_,dt,fg⟩:=lb.b this
   exact⟨dt,fg⟩
  ·rw[ib]
   rcases gD mixed cR aP (a1.nil _ _ _ _) C4 u rx with h | ⟨j,C,_,g1,_⟩
   ·exact h
   ·simp at g1
end Go.Proofs.YtpdfmnhgocpkcaaGreat
namespace Go.Proofs.YtpdfmnhgocpkcaaGreat
open Go Go.Proofs.Aw Go.Proofs.Xw
set_option maxRecDepth 100000
noncomputable def QF (again:Bool) (g:Nat):List bf:=if Nat.beq g 120=true then [oW,C2 again]else []
noncomputable def Df (again:Bool):cj:=⟨bd [] (QF again),h2,[10119]⟩
def Dg:J:=uK::(fP++(oU++dh))
def IB (again:Bool):aL:=[((0,0),some (vi 405 9++vi 640 9++[xi 1,aY (0,1) 1 (.len 470),aY (0,2) 25 (.len 470),(if again=true then .slv (1,0) 1 (.lit 0) (.len 650) true else fy false),xn (if again=true then 2 else 1),xn 0])),((0,1),some kR),((0,2),some [.rows 25 (.len 470) c5]),((0,3),if again=true then none else some oR)]++(if again=true then [((1,0),some [.rows 1 (.len 650) (.var 650 [.i .i64])])]else [])
def po (d:aL):T (X×aL)->Bool
 | .ret (r,e)=>X.beq r (.tup [])&&rW e d
 | _=>false
where rW:aL->aL->Bool
 | [],[]=>true
 | (m,some a)::r,(k,some b)::s=>cN m k&&(X.fh a b&&rW r s)
 | (m,none)::r,(k,none)::s=>cN m k&&rW r s
 | _,_=>false
theorem Ee:∀{a b:aL},po.rW a b=true->a=b
 | [],[],_=>rfl
 | (m,some a)::r,(k,some b)::s,h=>by
  simp only[po.rW,Bool.and_eq_true]at h
  rw[eu h.1,X.gO _ _ h.2.1,Ee h.2.2]
 | (m,none)::r,(k,none)::s,h=>by
  simp only[po.rW,Bool.and_eq_true]at h
  rw[eu h.1,Ee h.2]
 | [],_::_,h=>by simp[po.rW]at h
 | (_,some _)::_,[],h=>by cases h
 | (_,none)::_,[],h=>by cases h
 | (_,none)::_,(_,some _)::_,h=>by cases h
 | (_,some _)::_,(_,none)::_,h=>by cases h
theorem agW {d:aL} {t:T (X×aL)} (h:po d t=true):t = .ret (.tup [],d):=by
 cases t with
 | ret p =>
  obtain⟨r,e⟩:=p
  simp only[po,Bool.and_eq_true]at h
  rw[X.beq_eq _ _ h.1,Ee h.2]
 | br _ _ _=>cases h
 | cL _ _=>cases h
 | fail _=>cases h
theorem as7:po (IB false) (fC (Df false) 120 [.ptr (0,0) [] 0] (p5 405 (fy false) 1) Dg)=true:=by kernel_rfl
theorem as8:po (IB true) (fC (Df true) 120 [.ptr (0,0) [] 0] (p5 405 (fy false) 1) Dg)=true:=by kernel_rfl
theorem as6 (again:Bool):po (IB again) (fC (Df again) 120 [.ptr (0,0) [] 0] (p5 405 (fy false) 1) Dg)=true:=by
 cases again
 ·exact as7
 ·exact as8
theorem as5 (again:Bool) {ρ:aa} (A:bW Tryz.prog ρ Tryz.f120.ntmps oV oW) (E:bW Tryz.prog ρ Tryz.f120.ntmps rI (C2 again)):∀g i,eB g gb=some i->a1 Tryz.prog ρ i.ntmps (QF again g) i.body:=fun g i hi=>by
 unfold QF
 split
 ·rename_i hf
  have hf:=Nat.eq_of_beq_eq_true hf
  subst hf
  have gc:jk Tryz.prog 120 i:=mT (120,i) (jV _ _ (jU hi))
  refine ov gc Tryz.func120 ?_
  exact kv (c:=Tryz.f120.body.getD .skip) [0,1] (by cases again<;>kernel_rfl) (List.forall_mem_cons.2 ⟨ku (L:=oW) (c:=oV) (by cases again<;>kernel_rfl) A,List.forall_mem_cons.2 ⟨ku (L:=C2 again) (c:=rI) (by cases again<;>kernel_rfl) E,List.forall_mem_nil _⟩⟩)
 ·exact a1.nil _ _ _ _
theorem KJ {ρ:aa} {ag:Bool} (hT:TI ρ) (hb:(bU 47).I ρ=ag) (hu:ag=true->(BE.eq (.uf 2 0 dr) (.lit 1)).I ρ=true) (j:Nat) (O:j<ρ.len 470) (hq:(bK ρ ag).cb 625 1 j=true):UF 2 (k5 (bK ρ ag) (j:Int)) 0=1:=by
 by_cases h0:(j:Int)=g8.I ρ
 ·have e:(b9 ag).row ρ j=ca ρ (mK ag):=by
   show(if(j:Int)=g8.I ρ then ca ρ (mK ag)else(RL.var 472 gh).row ρ j)=_
   rw[if_pos h0]
  have hq:dK ((b9 ag).row ρ (j:Int))[1]? = true:=hq
  have ee:k5 (bK ρ ag) (j:Int)=(let l:=(b9 ag).row ρ (j:Int);[.int .i64 (aH l[2]?),.int .i64 (aH l[3]?),.int .i64 (aH l[4]?),.int .i64 (aH l[5]?),.int .i64 (aH l[6]?),.int .i64 (aH l[7]?),.string (cellS l[8]?),.string (cellS l[9]?),.bool (dK l[10]?),.int .i64 (aH l[11]?),.int .i64 (aH l[12]?),.int .i64 (aH l[13]?),.int .i64 (aH l[14]?),.int .i64 (aH l[15]?),.int .i64 (aH l[16]?),.int .i64 (aH l[17]?),.int .i64 (aH l[18]?),.int .i64 (aH l[19]?),.int .i64 (aH l[20]?),.int .i64 (aH l[21]?)]):=rfl
  rw[ee,e]
  rw[e]at hq
  cases ag with
  | false =>
   have hq:(bU 47).I ρ=true:=hq
   rw[hb]at hq;cases hq
  | true =>
   have A:UF 2 (dr.I ρ) 0=1:=eq1' (hu rfl)
   exact A
 ·have e:(b9 ag).row ρ j=(RL.var 472 gh).row ρ j:=by
   show(if(j:Int)=g8.I ρ then ca ρ (mK ag)else(RL.var 472 gh).row ρ j)=_
   rw[if_neg h0]
  have hq:dK ((b9 ag).row ρ (j:Int))[1]? = true:=hq
  have ee:k5 (bK ρ ag) (j:Int)=(let l:=(b9 ag).row ρ (j:Int);[.int .i64 (aH l[2]?),.int .i64 (aH l[3]?),.int .i64 (aH l[4]?),.int .i64 (aH l[5]?),.int .i64 (aH l[6]?),.int .i64 (aH l[7]?),.string (cellS l[8]?),.string (cellS l[9]?),.bool (dK l[10]?),.int .i64 (aH l[11]?),.int .i64 (aH l[12]?),.int .i64 (aH l[13]?),.int .i64 (aH l[14]?),.int .i64 (aH l[15]?),.int .i64 (aH l[16]?),.int .i64 (aH l[17]?),.int .i64 (aH l[18]?),.int .i64 (aH l[19]?),.int .i64 (aH l[20]?),.int .i64 (aH l[21]?)]):=rfl
  rw[ee,e]
  rw[e]at hq
  exact hT.zS j O hq
where eq1' {ρ:aa} {a:AL} (h:(BE.eq (.uf 2 0 a) (.lit 1)).I ρ=true):UF 2 (a.I ρ) 0=1:=by simpa [BE.I,U.I]using h
end Go.Proofs.YtpdfmnhgocpkcaaGreat
namespace Go.Proofs.YtpdfmnhgocpkcaaGreat
open Go Go.Proofs.Aw Go.Proofs.Xw
set_option maxRecDepth 100000
theorem Ur {ρ F:aa} {f:Nat} {args args':List X} {h h':au} {r r':X} {d fE:aL} (Z:c' Tryz.prog ρ ⟨f,args,h,r,d⟩) (ha:X.af ρ args=X.af F args') (W:aO ρ h=aO F h') (hr:r.I ρ=r'.I F) (hd:bk ρ d=bk F fE):c' Tryz.prog F ⟨f,args',h',r',fE⟩:=by
 refine⟨Z.1,?_⟩
 have q:=Z.2
 simp only at q ⊢
 rw[ha,W,hr,hd]at q
 exact q
structure ui (ρ F:aa) (cut:Nat->Int) (td:List Nat):Prop where
 ah:az 600 ρ F
 dM:∀k,k<9->F.i (600+k)=cut k
 pv:F.len 610=td.length
 ce:∀(r v:Nat),td[r]? = some v->F.ci 610 0 r=(v:Int)
theorem as0:(XS.mk rM.t rM.h rM.nx).ar 650=true:=by kernel_rfl
theorem asZ {ρ F:aa} (ah:az 650 ρ F) (h:bW Tryz.prog ρ Tryz.f120.ntmps oV oW):bW Tryz.prog F Tryz.f120.ntmps oV oW:=by
 intro ac hE bI
 have:=h ac hE bI
 have e0:oW.S.I (oW.init.ap ρ)=oW.S.I (oW.init.ap F):=XS.aT (n:=630) (ah.le (by decide)) Dh ZR
 rw[e0]at this
 refine dE (fun e V hq => ?_) this
 obtain⟨e',s,q1,q2,q3⟩:=hq
 have q1:some (XE.exit 0,rM)=some (e',s):=q1
 cases q1
 exact⟨.exit 0,rM,rfl,q2,by rw[<-XS.aT ah rM as0];exact q3⟩
theorem RV {ρ F:aa} (ag:Bool) (qa:az 630 (bK ρ ag) F):aA F [.rows 25 (.len 470) c5]=aA ρ [.rows 25 (.len 470) (b9 ag)]:=by
 have e1:aA (bK ρ ag) [.rows 25 (.len 470) c5]=aA F [.rows 25 (.len 470) c5]:=by
  have:=r8 qa [((0,0),[.rows 25 (.len 470) c5])] (by kernel_rfl)
  exact(Prod.mk.inj (List.cons.inj this).1).2
 have e2:aA ρ [.rows 25 (.len 470) (b9 ag)]=aA (bK ρ ag) [.rows 25 (.len 470) (b9 ag)]:=by
  have:=r8 (yW ρ ag) [((0,0),[.rows 25 (.len 470) (b9 ag)])] (by cases ag<;>kernel_rfl)
  exact(Prod.mk.inj (List.cons.inj this).1).2
 rw[<-e1,Jt,<-e2]
theorem RX {ρ F:aa} (ag:Bool) (ah:az 600 ρ F):aA ρ [.rows 25 (.len 470) (b9 ag)]=aA F [.rows 25 (.len 470) (b9 ag)]:=by
 have:=r8 ah [((0,0),[.rows 25 (.len 470) (b9 ag)])] (by cases ag<;>kernel_rfl)
 exact(Prod.mk.inj (List.cons.inj this).1).2
theorem as1 (hS:∀s∈h2,c4 Tryz.prog s) {ρ:aa} (ag:Bool) (M:J.ok ρ dh) (hT:TI ρ) (dq:ρ.i 443=1) (hb:(bU 47).I ρ=ag) (hu:ag=true->(BE.eq (.uf 2 0 dr) (.lit 1)).I ρ=true) :
  ∃b5,az 630 (bK ρ ag) b5/\(∀k,k<9->b5.i (640+k)=ia (bK ρ ag) k (ρ.len 470))/\∀F,ui ρ F (fun k=>ia (bK ρ ag) k (ρ.len 470)) (bO b5 (ρ.len 470))->c' Tryz.prog F (iI ag (!(bO b5 (ρ.len 470)).isEmpty)):=by
 have qa:=yW ρ ag
 have LR:=hT.bt (qa.le (by decide))
 have n1:=LR.n1
 have n6:=LR.n6
 obtain⟨b5,jR,iP,pb⟩:=as4 hS (ρ:=bK ρ ag) dq n1 n6 (fun j O hq=>KJ hT hb hu j O hq)
 have F6:(bK ρ ag).len 470=ρ.len 470:=rfl
 rw[F6]at iP
 have la:b5.len 470=ρ.len 470:=(jR.len 470 (by decide)).symm
 refine⟨b5,jR,iP,fun F im => ?_⟩
 have UG:=LR.bt (jR.le (by decide))
 have FA:J.ok b5 dh:=gR (n:=600) ((qa.le (by decide)).trans (jR.le (by decide))) (by kernel_rfl) M
 have UI:b5.i 443=1:=by rw[<-jR.i 443 (by decide)];exact dq
 generalize cf:(!(bO b5 (ρ.len 470)).isEmpty)=again
 obtain⟨bv,t4,ig,LN⟩:=ar5 hS FA UG UI again (by rw[la];exact cf.symm)
 rw[la]at ig
 have pb:=asZ t4 pb
 have H:bZ Tryz.prog bv (Df again).c:=hl (List.forall_mem_nil _) (as5 again pb LN)
 have Fg:=UG.bt (t4.le (by decide))
 have u:J.ok bv Dg:=J.av (by show((bv.len 474:Int)==bv.i 440+bv.i 443)=true;rw[Fg.rn];exact beq_self_eq_true _) (dY (yV (by rw[<-t4.i 443 (by decide)];exact UI) Fg.n1 Fg.n6) (dY Fg.tr (gR (n:=600) (t4.le (by decide)) (by kernel_rfl) FA)))
 have g:=uq H hS u (show(fC (Df again) 120 [.ptr (0,0) [] 0] (p5 405 (fy false) 1) Dg).aq bv=some (.tup [],IB again)by rw[agW (as6 again)];rfl)
 have nM:az 600 ρ bv:=(qa.le (by decide)).trans ((jR.le (by decide)).trans (t4.le (by decide)))
 have iA:az 600 bv F:=nM.symm.trans im.ah
 have D0:az 630 (bK ρ ag) bv:=jR.trans (t4.le (by decide))
 have xo:aA bv [.rows 25 (.len 470) c5]=aA F [.rows 25 (.len 470) (b9 ag)]:=(RV ag D0).trans (RX ag im.ah)
 have bel1:∀(x:X),x.ar 600=true->x.I bv=x.I F:=fun x hx=>X.aT iA x hx
 have n3:X.af bv (vi 640 9)=X.af F (vi 600 9):=by
  show [_,_,_,_,_,_,_,_,_]=[_,_,_,_,_,_,_,_,_]
  have q:∀k,k<9->bv.i (640+k)=F.i (600+k):=fun k u=>by rw[<-t4.i (640+k) (by omega),iP k u,im.dM k u]
  have w:∀k,k<9->(xi (640+k)).I bv=(xi (600+k)).I F:=fun k u=>by
   show AV.sc (.int .i64 (bv.i (640+k)))=AV.sc (.int .i64 (F.i (600+k)))
   rw[q k u]
  exact congr (congr rfl (w 0 (by omega))) (congr (congr rfl (w 1 (by omega))) (congr (congr rfl (w 2 (by omega))) (congr (congr rfl (w 3 (by omega))) (congr (congr rfl (w 4 (by omega))) (congr (congr rfl (w 5 (by omega))) (congr (congr rfl (w 6 (by omega))) (congr (congr rfl (w 7 (by omega))) (congr (congr rfl (w 8 (by omega))) rfl))))))))
 have ww:∀cs:List X,(XS.mk [] [((0,0),cs)] 0).ar 600=true->aA bv cs=aA F cs:=fun cs aI=>by
  have:=r8 iA [((0,0),cs)] aI
  exact(Prod.mk.inj (List.cons.inj this).1).2
 have H1:∀rd:Int,(X.af bv [xi 1,aY (0,1) 1 (.len 470),aY (0,2) 25 (.len 470)]=X.af F [xi 1,aY (0,1) 1 (.len 470),aY (0,2) 25 (.len 470)])/\X.af bv [xn rd,xn 0]=X.af F [xn rd,xn 0]:=fun rd=>⟨X.fZ iA _ (by kernel_rfl),rfl⟩
 have acV:X.af bv (vi 405 9)=X.af F (vi 405 9):=X.fZ iA _ (by kernel_rfl)
 have yK:=ww kR (by kernel_rfl)
 have Cn:=ww oR (by kernel_rfl)
 have oF:=ww (vi 405 9++vi 405 9++[xi 1,aY (0,1) 1 (.len 470),aY (0,2) 25 (.len 470),fy false,xn 1,xn 0]) (by kernel_rfl)
 have cell:∀(td pW:X) (rd:Int),td.I bv=pW.I F->aA bv (vi 405 9++vi 640 9++[xi 1,aY (0,1) 1 (.len 470),aY (0,2) 25 (.len 470),td,xn rd,xn 0])=aA F (vi 405 9++vi 600 9++[xi 1,aY (0,1) 1 (.len 470),aY (0,2) 25 (.len 470),pW,xn rd,xn 0]):=fun td pW rd Mx=>by
  rw[cP rfl,cP rfl,X.gq (l:=vi 405 9++vi 640 9),X.gq (l:=vi 405 9++vi 600 9),X.gq (l:=vi 405 9),X.gq (l:=vi 405 9),n3,acV]
  congr 1
  obtain⟨q1,q2⟩:=H1 rd
  show X.af bv [xi 1,aY (0,1) 1 (.len 470),aY (0,2) 25 (.len 470)]++(td.I bv::X.af bv [xn rd,xn 0])=X.af F [xi 1,aY (0,1) 1 (.len 470),aY (0,2) 25 (.len 470)]++(pW.I F::X.af F [xn rd,xn 0])
  rw[q1,q2,Mx]
 refine Ur g rfl ?_ rfl ?_
 ·show [((0,0),aA bv _),((0,1),aA bv kR),((0,2),aA bv [.rows 25 (.len 470) c5]),((0,3),aA bv oR)]=[((0,0),aA F _),((0,1),aA F kR),((0,2),aA F [.rows 25 (.len 470) (b9 ag)]),((0,3),aA F oR)]
  rw[oF,yK,xo,Cn]
  rfl
 ·cases again with
  | false =>
   have e:=cell (fy false) (fy false) 1 (bel1 _ (by kernel_rfl))
   have this:([((0,0),some (aA bv (vi 405 9++vi 640 9++[xi 1,aY (0,1) 1 (.len 470),aY (0,2) 25 (.len 470),fy false,xn 1,xn 0]))),((0,1),some (aA bv kR)),((0,2),some (aA bv [.rows 25 (.len 470) c5])),((0,3),some (aA bv oR))]:Dl)=[((0,0),some (aA F (vi 405 9++vi 600 9++[xi 1,aY (0,1) 1 (.len 470),aY (0,2) 25 (.len 470),fy false,xn 1,xn 0]))),((0,1),some (aA F kR)),((0,2),some (aA F [.rows 25 (.len 470) (b9 ag)])),((0,3),some (aA F oR))]:=by
    rw[e,yK,xo,Cn]
   exact this
  | true =>
   obtain⟨q1,q2⟩:=ig rfl
   have hlen:bv.len 650=F.len 610:=by rw[q1,im.pv]
   have e:=cell (.slv (1,0) 1 (.lit 0) (.len 650) true) (.slv (1,0) 1 (.lit 0) (.len 610) true) 2 (by
    simp only[X.I,U.I,hlen])
   have e9:aA bv [.rows 1 (.len 650) (.var 650 [.i .i64])]=aA F [.rows 1 (.len 610) (.var 610 [.i .i64])]:=by
    show(aV bv (.len 650) (.var 650 [.i .i64])).flatten=(aV F (.len 610) (.var 610 [.i .i64])).flatten
    congr 1
    unfold aV
    have A:((U.len 650).I bv).toNat=(bO b5 (ρ.len 470)).length:=by show((bv.len 650:Nat):Int).toNat=_;rw[q1];exact Int.toNat_natCast _
    have E:((U.len 610).I F).toNat=(bO b5 (ρ.len 470)).length:=by show((F.len 610:Nat):Int).toNat=_;rw[im.pv];exact Int.toNat_natCast _
    rw[A,E]
    refine List.map_congr_left fun j O => ?_
    have O:=List.mem_range.1 O
    obtain⟨v,R⟩:∃v,(bO b5 (ρ.len 470))[j]? = some v:=⟨_,List.getElem?_eq_getElem O⟩
    show [AV.sc (.int .i64 (bv.ci 650 0 ((j:Int)).toNat))]=[AV.sc (.int .i64 (F.ci 610 0 ((j:Int)).toNat))]
    rw[Int.toNat_natCast,q2 j v R,im.ce j v R]
   have this:([((0,0),some (aA bv (vi 405 9++vi 640 9++[xi 1,aY (0,1) 1 (.len 470),aY (0,2) 25 (.len 470),.slv (1,0) 1 (.lit 0) (.len 650) true,xn 2,xn 0]))),((0,1),some (aA bv kR)),((0,2),some (aA bv [.rows 25 (.len 470) c5])),((0,3),none),((1,0),some (aA bv [.rows 1 (.len 650) (.var 650 [.i .i64])]))]:Dl)=[((0,0),some (aA F (vi 405 9++vi 600 9++[xi 1,aY (0,1) 1 (.len 470),aY (0,2) 25 (.len 470),.slv (1,0) 1 (.lit 0) (.len 610) true,xn 2,xn 0]))),((0,1),some (aA F kR)),((0,2),some (aA F [.rows 25 (.len 470) (b9 ag)])),((0,3),none),((1,0),some (aA F [.rows 1 (.len 610) (.var 610 [.i .i64])]))]:=by
    rw[e,yK,xo,e9]
   exact this
end Go.Proofs.YtpdfmnhgocpkcaaGreat
namespace Go.Proofs.YtpdfmnhgocpkcaaGreat
open Go Go.Proofs.Aw Go.Proofs.Xw
set_option maxRecDepth 100000
def fJ:List Kd:=List.replicate 6 (.i .i64)++[.s,.s,.b]++List.replicate 11 (.i .i64)
def pZ:List X:=[xi 1,aY (0,1) 1 (.len 470),aY (0,2) 25 (.len 470),fy false,xn 1]++vi 405 9++[xl false,xn 0]
def De (L:RL):au:=[((0,0),pZ),((0,1),kR),((0,2),[.rows 25 (.len 470) L]),((0,3),oR)]
def asw:ba:=([1,3,4,5,11,12,13,14,15,16,17,24,25,26]++(List.range 54).map (29 + ·)).map fun k=>(k,.top)
def zp (i f:X):ba:=(7,i)::(6,f)::(0,.ptr (0,0) [] 0)::asw
def tO:X := .slv (73,0) 20 (.lit 0) (.len 651) true
def p0:au:=De c5++[((73,0),[.rows 20 (.len 651) (.var 651 fJ)])]
def tP (ag:Bool):XS:=⟨zp (xn 0) pA,De (b9 ag),73⟩
def Qz:XS:=⟨zp (xn 0) pA,De c5,73⟩
def p3 (some_:Bool):XS:=if some_=true then⟨zp (xi 700) tO,p0,74⟩else⟨zp (xi 700) pA,De c5,73⟩
def rK (some_:Bool):XS:=if some_=true then⟨zp .top tO,p0,120⟩else⟨zp .top pA,De c5,120⟩
noncomputable def oO:Code:=(dP (Tryz.f115.body.getD .skip))[0]?.getD .skip
def uI (i:U):List Sc:=(List.range 6).map (fun k=>ec (.cl 625 (2+k) i))++[.s (.cl 625 8 i),.s (.cl 625 9 i),.b (.cl 625 10 i)]++(List.range 11).map fun k=>ec (.cl 625 (11+k) i)
def Qx:List dm:=[⟨p3 false,[],[⟨0,[],[651],[],[],[(fa,false)]⟩]⟩,⟨p3 true,[],[⟨0,[],[],[],[(651,.lit 1,.one (uI (.var 700)))],[(fa,true)]⟩,⟨1,[],[651],[],[],[(fa,false)]⟩,⟨1,[],[],[],[(651,.op .cW .i64 (.len 651) (.lit 1),.app (.len 651) (.var 651 fJ) (.one (uI (.var 700))))],[(fa,true)]⟩]⟩]
def wu:J:=(.lt (.lit 6) (.len 651),false)::IA
def It:J:=[(.lt (.var 700) (.lit 0),false),(.lt (.var 700) (.len 470),false)]++fP
noncomputable def ZE (s:Bool) (B:J):T (XE×XS):=(ck g9.c.ti (eC g9 12) ((g9.c.hD 115).elim [] (·.ms)) 2 [] 1000 oO B (p3 s)).map (dV ((p3 s).t.map (·.1)))
noncomputable def zo (s:Bool) (B:J):Bool:=dC 2 630 700 [] (0,[]) (if s=true then 1 else 0) Qx (rK s) .normal B (ZE s B)
noncomputable def wv (s:Bool) (x:Nat) (B:J):Bool:=dC 2 630 700 [] (0,[]) 0 [] (rK s) (.exit x) B (ZE s B)
end Go.Proofs.YtpdfmnhgocpkcaaGreat
namespace Go.Proofs.YtpdfmnhgocpkcaaGreat
open Go Go.Proofs.Aw Go.Proofs.Xw
set_option maxRecDepth 100000
theorem asD:(zo false ((fa,true)::wu)&&(zo false ((fa,false)::wu)&&wv false 0 It))=true:=by kernel_rfl
theorem asE:(zo true ((fa,true)::wu)&&(zo true ((fa,false)::wu)&&wv true 0 It))=true:=by kernel_rfl
theorem asC (s:Bool):zo s ((fa,true)::wu)=true/\zo s ((fa,false)::wu)=true/\wv s 0 It=true:=by
 cases s
 ·have:=asD
  simpa only[Bool.and_eq_true]using this
 ·have:=asE
  simpa only[Bool.and_eq_true]using this
theorem QA:da Tryz.f115.ntmps oO=true:=by kernel_rfl
theorem ZG:([true,false].all fun ag=>(tP ag).ar 630)=true:=by kernel_rfl
def ZD:Bind:=⟨[(700,.lit 0)],[],[],[(651,.lit 0,.one [])]⟩
theorem asF:ff 2 630 ZD [] (p3 false) Qz=true:=by kernel_rfl
noncomputable def oP (ag s:Bool):bf:=⟨(du oO).getD 0,2,630,tP ag,gj,[],.ret (.exit 0,rK s)⟩
noncomputable def dj (ρ:aa) (x:Int):List AV:=ca { ρ with i:=fun _=>x } (uI (.var 0))
theorem Tu {ρ F:aa} (ah:az 630 ρ F) (x:Int):dj ρ x=dj F x:=by
 unfold dj ca uI
 simp only[List.map_append,List.map_cons,List.map_nil,List.map_map,Function.comp_def,Sc.I,ec,U.I,BE.I,TE.I,ah.ci 625 (by decide),ah.cb 625 (by decide),ah.cs 625 (by decide)]
theorem Ya {F:aa} {j:Nat} {l:List AV} (hi:∀k,F.ci 651 k j=aH l[k]?) (hb:∀k,F.cb 651 k j=dK l[k]?) (hs:∀k,F.cs 651 k j=cellS l[k]?) :
  (RL.var 651 fJ).row F (j:Int)=[.sc (.int .i64 (aH l[0]?)),.sc (.int .i64 (aH l[1]?)),.sc (.int .i64 (aH l[2]?)),.sc (.int .i64 (aH l[3]?)),.sc (.int .i64 (aH l[4]?)),.sc (.int .i64 (aH l[5]?)),.sc (.string (cellS l[6]?)),.sc (.string (cellS l[7]?)),.sc (.bool (dK l[8]?)),.sc (.int .i64 (aH l[9]?)),.sc (.int .i64 (aH l[10]?)),.sc (.int .i64 (aH l[11]?)),.sc (.int .i64 (aH l[12]?)),.sc (.int .i64 (aH l[13]?)),.sc (.int .i64 (aH l[14]?)),.sc (.int .i64 (aH l[15]?)),.sc (.int .i64 (aH l[16]?)),.sc (.int .i64 (aH l[17]?)),.sc (.int .i64 (aH l[18]?)),.sc (.int .i64 (aH l[19]?))]:=by
 simp only[<-hi,<-hb,<-hs]
 rfl
theorem Yb {ρ F:aa} {x:Int} {j:Nat} (hi:∀k,F.ci 651 k j=aH (dj ρ x)[k]?) (hb:∀k,F.cb 651 k j=dK (dj ρ x)[k]?) (hs:∀k,F.cs 651 k j=cellS (dj ρ x)[k]?):(RL.var 651 fJ).row F (j:Int)=dj ρ x:=by
 rw[Ya hi hb hs];rfl
theorem aqF {ρ F:aa} {j:Nat} (hi:∀k,F.ci 651 k j=aH ((RL.var 651 fJ).row ρ (j:Int))[k]?) (hb:∀k,F.cb 651 k j=dK ((RL.var 651 fJ).row ρ (j:Int))[k]?) (hs:∀k,F.cs 651 k j=cellS ((RL.var 651 fJ).row ρ (j:Int))[k]?):(RL.var 651 fJ).row F (j:Int)=(RL.var 651 fJ).row ρ (j:Int):=by
 rw[Ya hi hb hs];rfl
noncomputable def dZ (ρ:aa) (m:Nat):List Nat:=(List.range m).filter fun j=>ρ.cb 625 1 j
theorem TU (ρ:aa) (m:Nat):dZ ρ (m+1)=dZ ρ m++if ρ.cb 625 1 m=true then [m]else []:=by
 unfold dZ
 rw[List.range_succ,List.filter_append]
 congr 1
 by_cases h:ρ.cb 625 1 m=true
 ·simp[h]
 ·simp[h]
theorem TT (ρ:aa) (m:Nat):(dZ ρ m).length<=m:=by
 have:=List.length_filter_le (fun j=>ρ.cb 625 1 j) (List.range m)
 rwa[List.length_range]at this
structure Jf (al:aa) (m:Nat) (i:Nat) (ρ:aa):Prop where
 z:i=0->dZ al m=[]
 b:i≠0->i=1/\dZ al m≠[]/\ρ.len 651=(dZ al m).length/\∀(r v:Nat),(dZ al m)[r]? = some v->(RL.var 651 fJ).row ρ (r:Int)=dj al (v:Int)
structure RP (al ρ:aa) (i:Nat):Prop where
 ah:az 630 al ρ
 l6:ρ.len 651<=6
 m:∃m:Nat,m<=al.len 470/\ρ.i 700=m/\Jf al m i ρ
theorem aeV {al ρ ax:aa} {m i j:Nat} {bM:dm} (hm:m<6) (ah:az 630 al ρ) (hR:Jf al m i ρ) (h7:ρ.i 700=m) (H:fa.I ρ=al.cb 625 1 m) (M:ρ.len 651<=6) (O:Qx[j]? = some bM) (ha:bM.di=[]\/∃a∈bM.di,a.fr=i/\gI a ρ ax):(j=0\/j=1)/\Jf al (m+1) j ax/\ax.len 651<=6:=by
 have hs:=TU al m
 have hlen:=TT al (m+1)
 match j,O with
 | 0,O =>
  cases O
  simp only[List.cons_ne_nil,false_or,List.mem_cons,List.not_mem_nil,or_false]at ha
  obtain⟨a,rfl,d3,a2⟩:=ha
  have h0:0=i:=d3
  have cn:fa.I ρ=false:=a2.1 _ List.mem_cons_self
  have hz:=hR.z h0.symm
  have kc:=(a2.2.1.2 651 List.mem_cons_self).1
  refine⟨.inl rfl,⟨fun _ => ?_,fun h=>absurd rfl h⟩,by rw[kc];exact M⟩
  rw[hs,hz,if_neg (by rw[<-H,cn];decide)];rfl
 | 1,O =>
  cases O
  simp only[List.cons_ne_nil,false_or,List.mem_cons,List.not_mem_nil,or_false]at ha
  obtain⟨a,hq,d3,a2⟩:=ha
  rcases hq with rfl | rfl | rfl
  ·have h0:0=i:=d3
   have cn:fa.I ρ=true:=a2.1 _ List.mem_cons_self
   have hz:=hR.z h0.symm
   have e:dZ al (m+1)=[m]:=by rw[hs,hz,if_pos (by rw[<-H,cn])];rfl
   obtain⟨l,ci,cb,cs⟩:=a2.2.2.2 _ List.mem_cons_self
   have l:ax.len 651=1:=l
   refine⟨.inr rfl,⟨fun h=>by omega,fun _=>⟨rfl,by rw[e];simp,by rw[e,l];rfl,fun r v R => ?_⟩⟩,by omega⟩
   rw[e]at R
   have hr:r=0:=by
    have:=(List.getElem?_eq_some_iff.1 R).1
    simpa using this
   subst hr
   have R:m=v:=by simpa using R
   have e9:(RL.one (uI (.var 700))).row ρ ((0:Nat):Int)=dj ρ (ρ.i 700):=rfl
   rw[Tu ah,<-R,<-h7]
   exact Yb (fun k=>by rw[ci k 0,e9]) (fun k=>by rw[cb k 0,e9]) (fun k=>by rw[cs k 0,e9])
  ·have h0:1=i:=d3
   have cn:fa.I ρ=false:=a2.1 _ List.mem_cons_self
   obtain⟨_,b2,dt,fg⟩:=hR.b (by omega)
   have e:dZ al (m+1)=dZ al m:=by rw[hs,if_neg (by rw[<-H,cn];decide),List.append_nil]
   obtain⟨l,c1,c2,c3⟩:=a2.2.1.2 651 List.mem_cons_self
   refine⟨.inr rfl,⟨fun h=>by omega,fun _=>⟨rfl,by rw[e];exact b2,by rw[e,l];exact dt,fun r v R => ?_⟩⟩,by omega⟩
   rw[e]at R
   rw[<-fg r v R]
   show [_,_,_,_,_,_,_,_,_,_,_,_,_,_,_,_,_,_,_,_]=[_,_,_,_,_,_,_,_,_,_,_,_,_,_,_,_,_,_,_,_]
   rw[c1,c2,c3]
  ·have h0:1=i:=d3
   have cn:fa.I ρ=true:=a2.1 _ List.mem_cons_self
   obtain⟨_,b2,dt,fg⟩:=hR.b (by omega)
   have e:dZ al (m+1)=dZ al m++[m]:=by rw[hs,if_pos (by rw[<-H,cn])]
   obtain⟨l,ci,cb,cs⟩:=a2.2.2.2 _ List.mem_cons_self
   have l:ax.len 651=(((ρ.len 651:Nat):Int)+1).toNat:=l
   have l:ax.len 651=ρ.len 651+1:=by omega
   rw[e,List.length_append,List.length_singleton]at hlen
   refine⟨.inr rfl,⟨fun h=>by omega,fun _=>⟨rfl,by rw[e];simp,by rw[e,List.length_append,List.length_singleton,l,dt],fun r v R => ?_⟩⟩,by omega⟩
   rw[e]at R
   by_cases hr:r<ρ.len 651
   ·have e9:(RL.app (.len 651) (.var 651 fJ) (.one (uI (.var 700)))).row ρ ((r:Nat):Int)=(RL.var 651 fJ).row ρ (r:Int):=by
     show(if(r:Int)<(ρ.len 651:Int)then _ else _)=_
     rw[if_pos (by omega)]
    rw[List.getElem?_append_left (by omega)]at R
    rw[<-fg r v R]
    exact aqF (fun k=>by rw[ci k r,e9]) (fun k=>by rw[cb k r,e9]) (fun k=>by rw[cs k r,e9])
   ·have e9:(RL.app (.len 651) (.var 651 fJ) (.one (uI (.var 700)))).row ρ ((r:Nat):Int)=dj ρ (ρ.i 700):=by
     show(if(r:Int)<(ρ.len 651:Int)then _ else _)=_
     rw[if_neg (by omega)];rfl
    rw[List.getElem?_append_right (by omega)]at R
    have qH:r-(dZ al m).length=0:=by
     have:=(List.getElem?_eq_some_iff.1 R).1
     simpa using this
    rw[qH]at R
    have R:m=v:=by simpa using R
    rw[Tu ah,<-R,<-h7]
    exact Yb (fun k=>by rw[ci k r,e9]) (fun k=>by rw[cb k r,e9]) (fun k=>by rw[cs k r,e9])
 | j+2,O=>cases O
end Go.Proofs.YtpdfmnhgocpkcaaGreat
namespace Go.Proofs.YtpdfmnhgocpkcaaGreat
open Go Go.Proofs.Aw Go.Proofs.Xw
set_option maxRecDepth 100000
theorem asA (ρ:aa) (ag:Bool):(tP ag).I (bK ρ ag)=Qz.I (bK ρ ag):=by
 have e:=Jt ρ ag
 show St.mk _ [(_,_),(_,_),(_,aA (bK ρ ag) [.rows 25 (.len 470) (b9 ag)]),(_,_)] _=St.mk _ [(_,_),(_,_),(_,aA (bK ρ ag) [.rows 25 (.len 470) c5]),(_,_)] _
 rw[e]
 rfl
theorem asG (hS:∀s∈h2,c4 Tryz.prog s) {ρ:aa} (ag:Bool) (hT:TI ρ) (dq:ρ.i 443=1) (hb:(bU 47).I ρ=ag) (hu:ag=true->(BE.eq (.uf 2 0 dr) (.lit 1)).I ρ=true) (s:Bool) (hs:s = !(dZ (bK ρ ag) (ρ.len 470)).isEmpty) :
  ∃am,az 630 (bK ρ ag) am/\(s=true->am.len 651=(dZ (bK ρ ag) (ρ.len 470)).length/\∀(r v:Nat),(dZ (bK ρ ag) (ρ.len 470))[r]? = some v->(RL.var 651 fJ).row am (r:Int)=dj (bK ρ ag) (v:Int))/\bW Tryz.prog am Tryz.f115.ntmps oO (oP ag s):=by
 have n1:=hT.n1
 have n6:=hT.n6
 have F6:(bK ρ ag).len 470=ρ.len 470:=rfl
 have hE:=fun j O hq=>KJ hT hb hu j O hq
 generalize h5:bK ρ ag=fA at hE hs F6 ⊢
 have afs:fA.i 443=1:=by rw[<-h5];exact dq
 have afV:(tP ag).I fA=Qz.I fA:=by rw[<-h5];exact asA ρ ag
 rw[<-F6]at n1 n6 hE hs ⊢
 have H:∀F,bZ Tryz.prog F g9.c:=fun F=>kW (List.forall_mem_nil _)
 have qx:(tP ag).ar 630=true:=List.all_eq_true.1 ZG ag (by cases ag<;>simp)
 refine ou (P:=Tryz.prog) (N:=Tryz.f115.ntmps) (body:=oO) (k0:=2) (n:=630) (S0:=tP ag) (ρ:=fA) qx (fun i=>p3 (if i=0 then false else true)) (oP ag s) ⟨rfl,rfl,rfl⟩ (fun i F=>(i=0\/i=1)/\RP fA F i) (fun am=>s=true->am.len 651=(dZ fA (fA.len 470)).length/\∀(r v:Nat),(dZ fA (fA.len 470))[r]? = some v->(RL.var 651 fJ).row am (r:Int)=dj fA (v:Int)) (fun F=>fA.len 470-(F.i 700).toNat) (fun i F hR => ?_) ⟨0,ZD.ap fA,Bind.bt (by kernel_rfl) fA,⟨.inl rfl,Bind.bt (by kernel_rfl) fA,Nat.zero_le _,0,Nat.zero_le _,rfl,fun _=>rfl,fun h=>absurd rfl h⟩,fun ac _ bI=>by rw[afV];exact jF bI asF fA⟩
 obtain⟨hi,hR⟩:=hR
 have ah:=hR.ah
 obtain⟨m,hm,h7,lb⟩:=hR.m
 have l4:F.len 470=fA.len 470:=(ah.len 470 (by decide)).symm
 have aP:=eU (c:=g9) (H F) hS 12
 have j_:J.ok F fP:=yV (by rw[<-ah.i 443 (by decide)];exact afs) (by omega) (by omega)
 obtain⟨r1,r0,rx⟩:=asC (if i=0 then false else true)
 by_cases aQ:m<fA.len 470
 ·right
  have hp:p7.I F=m+1:=by
   refine(show p7.I F=IntKind.i64.wrap (F.i 700+1)from rfl).trans ?_
   rw[h7];exact cc _ (by omega) (by omega)
  have sd:(F.i 700).toNat=m:=by omega
  have cn:fa.I F=fA.cb 625 1 m:=by
   show F.cb 625 1 (F.i 700).toNat=_
   rw[sd,<-ah.cb 625 (by decide)]
  have u:J.ok F wu:=j0 (show(F.len 651:Int)<=6 by have:=hR.l6;omega) (fR (show(0:Int)<=F.i 700 by omega) (J.av (decide_eq_true (by show F.i 700<(F.len 470:Int);omega)) (fF (show p7.I F<=(F.len 470:Int)by rw[hp];omega) (fR (by rw[hp];omega) j_))))
  have is:(∃(j:Nat) (C:dm) (ax:aa),Qx[j]? = some C/\ea Tryz.prog Tryz.f115.ntmps oO 2 (p3 (if i=0 then false else true)) C.S F ax/\J.ok ax C.bS/\ax.i 700=IntKind.i64.wrap (F.i 700+1)/\az 630 F ax/\(dX 0 [] F->dX 0 [] ax)/\(C.di=[]\/∃a∈C.di,a.fr=(if(if i=0 then false else true)=true then 1 else 0)/\gI a F ax))->∃i' ax,ea Tryz.prog Tryz.f115.ntmps oO 2 (p3 (if i=0 then false else true)) (p3 (if i'=0 then false else true)) F ax/\((i'=0\/i'=1)/\RP fA ax i')/\fA.len 470-(ax.i 700).toNat<fA.len 470-(F.i 700).toNat/\az 630 F ax:=fun⟨j,C,ax,g1,g2,_,g4,g5,_,g7⟩=>by
   have e4:ax.i 700=m+1:=by rw[g4,h7];exact cc _ (by omega) (by omega)
   have t9:(if(if i=0 then false else true)=true then 1 else 0)=i:=by rcases hi with rfl | rfl<;>rfl
   rw[t9]at g7
   obtain⟨q1,q2,q3⟩:=aeV (by omega) ah lb h7 cn hR.l6 g1 g7
   have Aq:C.S=p3 (if j=0 then false else true):=by
    rcases q1 with rfl | rfl<;>(cases g1;rfl)
   rw[Aq]at g2
   exact⟨j,ax,g2,⟨q1,ah.trans g5,q3,m+1,by omega,by omega,q2⟩,by omega,g5⟩
  rcases kV fa F with h | h
  ·exact is (kL mixed cR aP (a1.nil _ _ _ _) QA (J.av h u) r1)
  ·exact is (kL mixed cR aP (a1.nil _ _ _ _) QA (J.av h u) r0)
 ·left
  obtain rfl:m=fA.len 470:=by omega
  have u:J.ok F It:=fR (show(0:Int)<=F.i 700 by omega) (J.av (decide_eq_false (by show ¬F.i 700<(F.len 470:Int);omega)) j_)
  have ib:s=(if i=0 then false else true):=by
   rcases hi with rfl | rfl
   ·rw[hs,lb.z rfl];rfl
   ·obtain⟨_,b2,_⟩:=lb.b (by decide)
    rw[hs]
    cases hq:dZ fA (fA.len 470)with
    | nil=>exact absurd hq b2
    | cons _ _=>rfl
  refine⟨fun cf => ?_,?_⟩
  ·have:i≠0:=fun h=>by rw[ib,if_pos h]at cf;cases cf
   obtain⟨_,_,dt,fg⟩:=lb.b this
   exact⟨dt,fg⟩
  ·rw[ib]
   rcases gD mixed cR aP (a1.nil _ _ _ _) QA u rx with h | ⟨j,C,_,g1,_⟩
   ·exact h
   ·simp at g1
end Go.Proofs.YtpdfmnhgocpkcaaGreat
