/- Parts of the proof, one behind the other. -/
import Derived.Test.YtpdfmnhgocpkcaaGreatTM32
namespace Go.Proofs.YtpdfmnhgocpkcaaGreat
open Go Go.Proofs.Aw Go.Proofs.Xw
set_option maxRecDepth 100000
noncomputable def Vg (J:Rho) (x:Int):List Value:=(en5 (.var 0)).den { J with i:=fun _=>x }
theorem aJ5 (J:Rho):(en5 (.var 700)).den J=Vg J (J.i 700):=rfl
theorem I5 {J J':Rho} (ag:Agree 630 J J') (x:Int):Vg J x=Vg J' x:=by
 show [_,_,_,_,_,_,_,_,_,_,_,_,_,_,_,_,_,_,_,_]=[_,_,_,_,_,_,_,_,_,_,_,_,_,_,_,_,_,_,_,_]
 simp only[IE.den,BE.den,TE.den,ag.ci 625 (by decide),ag.cb 625 (by decide),ag.cs 625 (by decide)]
noncomputable def cutV (J:Rho) (k:Nat):Nat->Int
 | 0=>J.i (405+k)
 | m+1=>if J.cb 625 1 m=true then max (max 0 (cutV J k m)) (UF 3 (Vg J m) k)else cutV J k m
structure TuI (J0 J:Rho):Prop where
 ag:Agree 630 J0 J
 m:∃m:Nat,m<=J0.len 470/\J.i 700=m/\∀k,k<9->J.i (640+k)=cutV J0 k m
noncomputable def tuL:LoopX:=⟨(bW Y5).getD 0,2,630,tuS0,noB,[],.ret (.exit 0,tuO)⟩
theorem JF:fD Tryz.f120.ntmps Y5=true:=by kernel_rfl
def tuN0:Bind:=⟨(700,.lit 0)::(List.range 9).map (fun k=>(640+k,.var (405+k))),[],[],[]⟩
theorem bv3:okS 2 630 tuN0 [] tuS tuS0=true:=by kernel_rfl
theorem Y3:tuS0.bel 630=true:=by kernel_rfl
theorem Ic {J:Rho} (h43:J.i 443=1) (h1:1<=J.len 470) (h6:J.len 470<=6):Facts.ok J EE :=
 Facts.ok_cons (by show(J.i 443==1)=true;rw[h43];rfl) (fR (show(1:Int)<=(J.len 470:Int)by omega) (fL (show(J.len 470:Int)<=6 by omega) (Facts.ok_nil _)))
theorem nine {P:Nat->Prop} (h0:P 0) (h1:P 1) (h2:P 2) (h3:P 3) (h4:P 4) (h5:P 5) (h6:P 6) (h7:P 7) (h8:P 8):∀k,k<9->P k:=fun k hk=>by
 rcases(show k=0\/k=1\/k=2\/k=3\/k=4\/k=5\/k=6\/k=7\/k=8 by omega)with rfl | rfl | rfl | rfl | rfl | rfl | rfl | rfl | rfl<;>assumption
theorem av7 (hS:∀s∈JM,iF Tryz.prog s) {J:Rho} (h43:J.i 443=1) (h1:1<=J.len 470) (h6:J.len 470<=6) (hE:∀j:Nat,j<J.len 470->J.cb 625 1 j=true->UF 2 (Vg J j) 0=1):∃Jf,Agree 630 J Jf/\(∀k,k<9->Jf.i (640+k)=cutV J k (J.len 470))/\LoopOk Tryz.prog Jf Tryz.f120.ntmps Y5 tuL:=by
 have hc:∀J',CfgOk Tryz.prog J' tuCf.c:=fun J'=>lG (List.forall_mem_nil _)
 have hrun:=bv4
 simp only[Bool.and_eq_true]at hrun
 obtain⟨r0,r1,r2⟩:=hrun
 refine iR (P:=Tryz.prog) (N:=Tryz.f120.ntmps) (body:=Y5) (k0:=2) (n:=630) (S0:=tuS0) (J:=J) Y3 (fun _=>tuS) tuL ⟨rfl,rfl,rfl⟩ (fun _ J'=>TuI J J') (fun J'=>∀k,k<9->J'.i (640+k)=cutV J k (J.len 470)) (fun J'=>J.len 470-(J'.i 700).toNat) (fun _ J' hR => ?_) ⟨0,tuN0.ap J,Bind.agree (by kernel_rfl) J,⟨Bind.agree (by kernel_rfl) J,0,Nat.zero_le _,rfl,nine rfl rfl rfl rfl rfl rfl rfl rfl rfl⟩,fun E _ hkn=>jq hkn bv3 J⟩
 have ag:=hR.ag
 obtain⟨m,hm,hi,hcut⟩:=hR.m
 have l4:J'.len 470=J.len 470:=(ag.len 470 (by decide)).symm
 have hcall:=dP (c:=tuCf) (hc J') hS 12
 have hf1:Facts.ok J' EE:=Ic (by rw[<-ag.i 443 (by decide)];exact h43) (by omega) (by omega)
 by_cases hlt:m<J.len 470
 ·right
  have hp:p7.den J'=m+1:=by
   refine(show p7.den J'=IntKind.i64.wrap (J'.i 700+1)from rfl).trans ?_
   rw[hi];exact aP _ (by omega) (by omega)
  have hk:Facts.ok J' tuF:=fR (show(0:Int)<=J'.i 700 by omega) (Facts.ok_cons (decide_eq_true (by show J'.i 700<(J'.len 470:Int);omega)) (fF (show p7.den J'<=(J'.len 470:Int)by rw[hp];omega) (fR (by rw[hp];omega) hf1)))
  have e7:(J'.i 700).toNat=m:=by omega
  have hb:has7.den J'=J.cb 625 1 m:=by
   show J'.cb 625 1 (J'.i 700).toNat=_
   rw[e7,<-ag.cb 625 (by decide)]
  have nxt:(∃(j:Nat) (C:Cls) (J2:Rho),tuC[j]? = some C/\StepF Tryz.prog Tryz.f120.ntmps Y5 2 tuS C.S J' J2/\Facts.ok J2 C.Ψ/\J2.i 700=IntKind.i64.wrap (J'.i 700+1)/\Agree 630 J' J2/\(BD 0 [] J'->BD 0 [] J2)/\(C.al=[]\/∃a∈C.al,a.fr=0/\kW a J' J2))->∃i' J2,StepF Tryz.prog Tryz.f120.ntmps Y5 2 tuS tuS J' J2/\TuI J J2/\J.len 470-(J2.i 700).toNat<J.len 470-(J'.i 700).toNat/\Agree 630 J' J2:=fun⟨j,C,J2,g1,g2,_,g4,g5,_,g7⟩=>by
   have e4:J2.i 700=m+1:=by rw[g4,hi];exact aP _ (by omega) (by omega)
   match j,g1 with
   | 0,g1 =>
    cases g1
    refine⟨0,J2,g2,⟨ag.trans g5,m+1,by omega,by omega,fun k hk9 => ?_⟩,by omega,g5⟩
    simp only[List.cons_ne_nil,false_or,List.mem_cons,List.not_mem_nil,or_false]at g7
    obtain⟨a,ha,_,hok⟩:=g7
    rcases ha with rfl | rfl
    ·have hh:has7.den J'=true:=hok.1 _ List.mem_cons_self
     have hv:=hok.2.2.1 (640+k,.op .max .i64 (.op .max .i64 (.lit 0) (.var (640+k))) (.uf 3 k (en5 (.var 700)))) (List.mem_map.2 ⟨k,List.mem_range.2 hk9,rfl⟩)
     have hv:J2.i (640+k)=max (max 0 (J'.i (640+k))) (UF 3 (Vg J' (J'.i 700)) k):=hv
     rw[hv,hcut k hk9,hi,<-I5 ag]
     show _=if J.cb 625 1 m=true then _ else _
     rw[if_pos (by rw[<-hb];exact hh)]
    ·have hh:has7.den J'=false:=hok.1 _ List.mem_cons_self
     have hv:=hok.2.1.1 (640+k) (by
      rcases(show k=0\/k=1\/k=2\/k=3\/k=4\/k=5\/k=6\/k=7\/k=8 by omega)with rfl | rfl | rfl | rfl | rfl | rfl | rfl | rfl | rfl<;>decide)
     rw[hv,hcut k hk9]
     show _=if J.cb 625 1 m=true then _ else _
     rw[if_neg (by rw[<-hb,hh];decide)]
   | j+1,g1=>cases g1
  cases hh:has7.den J' with
  | true =>
   have hw:wr7.den J'=true:=by
    have:=hE m hlt (by rw[<-hb];exact hh)
    show(UF 2 ((en5 (.var 700)).den J') 0==1)=true
    rw[aJ5,hi,<-I5 ag,this];rfl
   exact nxt (kH mixed dm hcall (LpsOk.nil _ _ _ _) JF (Facts.ok_cons hh (Facts.ok_cons hw hk)) r0)
  | false=>exact nxt (kH mixed dm hcall (LpsOk.nil _ _ _ _) JF (Facts.ok_cons hh hk) r1)
 ·left
  obtain rfl:m=J.len 470:=by omega
  have hk:Facts.ok J' tuE:=fR (show(0:Int)<=J'.i 700 by omega) (Facts.ok_cons (decide_eq_false (by show ¬J'.i 700<(J'.len 470:Int);omega)) hf1)
  refine⟨hcut,?_⟩
  rcases iL mixed dm hcall (LpsOk.nil _ _ _ _) JF hk r2 with h | ⟨j,C,_,g1,_⟩
  ·exact h
  ·simp at g1
end Go.Proofs.YtpdfmnhgocpkcaaGreat
namespace Go.Proofs.YtpdfmnhgocpkcaaGreat
open Go Go.Proofs.Aw Go.Proofs.Xw
set_option maxRecDepth 100000
def ofI (i:IE):IE := .uf 0 0 (.s (.cl 470 0 i) (.i (.var 1) .nil))
def JU (k:Nat) (i:IE):IE := .ite (.eq (ofI i) (.lit 0)) (.var k) (.ite (.eq (ofI i) (.lit 1)) (.var (k+1)) (.var (k+2)))
def cv1 (i:IE):BE := .lt (.cl 625 22 i) (JU 640 i)
def cv2 (i:IE):BE := .lt (.cl 625 23 i) (JU 643 i)
def cv3 (i:IE):BE := .lt (.cl 625 24 i) (JU 646 i)
def X7 (i:IE):BE := .or (cv1 i) (.or (cv2 i) (cv3 i))
def t2T (i:X):ig:=[(36,i),(35,.sc (.i .i64 (.len 470))),(34,fE (0,2) 25 (.len 470)),(33,.top),(32,.top),(31,.top),(11,.top),(10,.top),(9,.top),(8,.top),(7,.top),(6,.top),(0,.ptr (0,0) [] 0)]
def t2L:X := .slv (66,0) 1 (.lit 0) (.len 650) true
def cg7 (td:X) (rd:Int):bg:=[((0,0),vi 405 9++vi 640 9++[xi 1,fE (0,1) 1 (.len 470),fE (0,2) 25 (.len 470),td,xn rd,xn 0]),((0,1),kR),((0,2),[.rows 25 (.len 470) rq])]
def t2B:bg:=cg7 t2L 2++[((66,0),[.rows 1 (.len 650) (.var 650 [.i .i64])])]
def t2S0:XS:=⟨t2T (xn 0),tuG 640 (Dy false) 1,66⟩
def t2S (again:Bool):XS:=if again=true then⟨t2T (xi 710),t2B,67⟩else⟨t2T (xi 710),tuG 640 (Dy false) 1,66⟩
def t2O (again:Bool):XS:=if again=true then⟨t2T (xi 710),t2B,140⟩else⟨t2T (xi 710),tuG 640 (Dy false) 1,140⟩
noncomputable def t2D:Code:=(dw (Tryz.f120.body.getD .skip))[1]?.getD .skip
def c7:IE := .var 710
def q7:IE := .op .add .i64 (.var 710) (.lit 1)
def t2C:List Cls:=[⟨t2S false,[],[⟨0,[],[650],[],[],[(X7 c7,false)]⟩]⟩,⟨t2S true,[],[⟨0,[],[],[],[(650,.lit 1,.one [aI c7])],[(X7 c7,true)]⟩,⟨1,[],[650],[],[],[(X7 c7,false)]⟩,⟨1,[],[],[],[(650,.op .padd .i64 (.len 650) (.lit 1),.app (.len 650) (.var 650 [.i .i64]) (.one [aI c7]))],[(X7 c7,true)]⟩]⟩]
def eqT:BE×Bool:=(.eq (.len 474) (.op .padd .i64 (.var 440) (.var 443)),true)
def t2F:Facts:=[(.lt (.var 710) (.lit 0),false),(.lt (.var 710) (.len 470),true),(.lt (.len 470) q7,false),(.lt q7 (.lit 0),false),(.lt (.lit 16) (.slen (.cl 470 0 (.var 710))),false),(.lt (.lit 6) (.len 650),false),eqT]++(EE++(Y7++rQ))
def t2E:Facts:=[(.lt (.var 710) (.lit 0),false),(.lt (.var 710) (.len 470),false)]++EE
noncomputable def aP3 (again:Bool) (Φ:Facts):T (XE×XS):=(dG tuCf.c.ti (iK tuCf 12) ((tuCf.c.ft 120).elim [] (·.ms)) 2 [] 1000 t2D Φ (t2S again)).map (yC ((t2S again).t.map (·.1)))
noncomputable def Yv (again:Bool) (Φ:Facts):Bool:=jV 2 650 710 [] (0,[]) (if again=true then 1 else 0) t2C (t2O again) .normal Φ (aP3 again Φ)
noncomputable def t2X (again:Bool) (Φ:Facts):Bool:=jV 2 650 710 [] (0,[]) 0 [] (t2O again) (.exit 2) Φ (aP3 again Φ)
def f1T:Facts:=(cv1 c7,true)::t2F
def f2T:Facts:=(cv2 c7,true)::(cv1 c7,false)::t2F
def f3T:Facts:=(cv3 c7,true)::(cv2 c7,false)::(cv1 c7,false)::t2F
def f0T:Facts:=(cv3 c7,false)::(cv2 c7,false)::(cv1 c7,false)::t2F
theorem aX2:(Yv false f1T&&(Yv false f2T&&(Yv false f3T&&(Yv false f0T&&t2X false t2E))))=true:=by kernel_rfl
theorem aX1:(Yv true f1T&&(Yv true f2T&&(Yv true f3T&&(Yv true f0T&&t2X true t2E))))=true:=by kernel_rfl
theorem by3 (a:Bool):Yv a f1T=true/\Yv a f2T=true/\Yv a f3T=true/\Yv a f0T=true/\t2X a t2E=true:=by
 cases a
 ·have:=aX2
  simpa only[Bool.and_eq_true]using this
 ·have:=aX1
  simpa only[Bool.and_eq_true]using this
theorem yP:fD Tryz.f120.ntmps t2D=true:=by kernel_rfl
theorem aX3:t2S0.bel 650=true:=by kernel_rfl
def t2N0:Bind:=⟨[(710,.lit 0)],[],[],[(650,.lit 0,.one [])]⟩
theorem by2:okS 2 650 t2N0 [] (t2S false) t2S0=true:=by kernel_rfl
noncomputable def Zf (again:Bool):LoopX:=⟨(bW t2D).getD 0,2,650,t2S0,noB,[],.ret (.exit 2,t2O again)⟩
noncomputable def Jo (J:Rho) (x:Int):Rho:={ J with i:=fun k=>if k=0 then x else J.i k }
noncomputable def X6 (J:Rho) (x:Int):Bool:=(X7 (.var 0)).den (Jo J x)
theorem aK1 (J:Rho):(X7 c7).den J=X6 J (J.i 710):=rfl
theorem X5 {J J':Rho} (ag:Agree 650 J J') (x:Int):X6 J x=X6 J' x :=
 BE.bel_den (n:=650) (J:=Jo J x) (J':=Jo J' x) ⟨fun k hk=>by show(if k=0 then x else J.i k)=if k=0 then x else J'.i k;rw[ag.i k hk],ag.b,ag.s,ag.len,ag.ci,ag.cb,ag.cs,ag.ct⟩ _ (by kernel_rfl)
noncomputable def bF (J:Rho) (m:Nat):List Nat:=(List.range m).filter fun j=>X6 J (j:Int)
theorem Ec (J:Rho) (m:Nat):bF J (m+1)=bF J m++if X6 J (m:Int)=true then [m]else []:=by
 unfold bF
 rw[List.range_succ,List.filter_append]
 congr 1
 by_cases h:X6 J (m:Int)=true
 ·simp[h]
 ·simp[h]
theorem Ae (J:Rho) (m:Nat):(bF J m).length<=m:=by
 have:=List.length_filter_le (fun j=>X6 J ((j:Nat):Int)) (List.range m)
 rwa[List.length_range]at this
structure TdI (J0:Rho) (m:Nat) (i:Nat) (J:Rho):Prop where
 z:i=0->bF J0 m=[]
 b:i≠0->i=1/\bF J0 m≠[]/\J.len 650=(bF J0 m).length/\∀(r v:Nat),(bF J0 m)[r]? = some v->J.ci 650 0 r=(v:Int)
structure T2I (J0 J:Rho) (i:Nat):Prop where
 ag:Agree 650 J0 J
 l6:J.len 650<=6
 m:∃m:Nat,m<=J0.len 470/\J.i 710=m/\TdI J0 m i J
end Go.Proofs.YtpdfmnhgocpkcaaGreat
namespace Go.Proofs.YtpdfmnhgocpkcaaGreat
open Go Go.Proofs.Aw Go.Proofs.Xw
set_option maxRecDepth 100000
theorem b38 {J:Rho} {G:Prop} {F:Facts} (hk:Facts.ok J F) (h1:Facts.ok J ((cv1 c7,true)::F)->G) (h2:Facts.ok J ((cv2 c7,true)::(cv1 c7,false)::F)->G) (h3:Facts.ok J ((cv3 c7,true)::(cv2 c7,false)::(cv1 c7,false)::F)->G) (h0:Facts.ok J ((cv3 c7,false)::(cv2 c7,false)::(cv1 c7,false)::F)->G):G:=by
 rcases RJ (cv1 c7) J with a | a
 ·exact h1 (Facts.ok_cons a hk)
 ·rcases RJ (cv2 c7) J with b | b
  ·exact h2 (Facts.ok_cons b (Facts.ok_cons a hk))
  ·rcases RJ (cv3 c7) J with c | c
   ·exact h3 (Facts.ok_cons c (Facts.ok_cons b (Facts.ok_cons a hk)))
   ·exact h0 (Facts.ok_cons c (Facts.ok_cons b (Facts.ok_cons a hk)))
theorem ax1 {J0 J J2:Rho} {m i j:Nat} {D:Cls} (hm:m<6) (hR:TdI J0 m i J) (h7:J.i 710=m) (hc:(X7 c7).den J=X6 J0 m) (hl:J.len 650<=6) (hj:t2C[j]? = some D) (ha:D.al=[]\/∃a∈D.al,a.fr=i/\kW a J J2):(j=0\/j=1)/\TdI J0 (m+1) j J2/\J2.len 650<=6:=by
 have hs:=Ec J0 m
 have hlen:=Ae J0 (m+1)
 match j,hj with
 | 0,hj =>
  cases hj
  simp only[List.cons_ne_nil,false_or,List.mem_cons,List.not_mem_nil,or_false]at ha
  obtain⟨a,rfl,hfr,hok⟩:=ha
  have h0:0=i:=hfr
  have hcv:(X7 c7).den J=false:=hok.1 _ List.mem_cons_self
  have hz:=hR.z h0.symm
  have hl2:=(hok.2.1.2 650 List.mem_cons_self).1
  refine⟨.inl rfl,⟨fun _ => ?_,fun h=>absurd rfl h⟩,by rw[hl2];exact hl⟩
  rw[hs,hz,if_neg (by rw[<-hc,hcv];decide)];rfl
 | 1,hj =>
  cases hj
  simp only[List.cons_ne_nil,false_or,List.mem_cons,List.not_mem_nil,or_false]at ha
  obtain⟨a,hq,hfr,hok⟩:=ha
  rcases hq with rfl | rfl | rfl
  ·have h0:0=i:=hfr
   have hcv:(X7 c7).den J=true:=hok.1 _ List.mem_cons_self
   have hz:=hR.z h0.symm
   have e:bF J0 (m+1)=[m]:=by rw[hs,hz,if_pos (by rw[<-hc,hcv])];rfl
   obtain⟨l,ci,_,_⟩:=hok.2.2.2 _ List.mem_cons_self
   have l:J2.len 650=1:=l
   refine⟨.inr rfl,⟨fun h=>by omega,fun _=>⟨rfl,by rw[e];simp,by rw[e,l];rfl,fun r v hv => ?_⟩⟩,by omega⟩
   rw[e]at hv
   have hr:r=0:=by
    have:=(List.getElem?_eq_some_iff.1 hv).1
    simpa using this
   subst hr
   have hv:m=v:=by simpa using hv
   have c0:J2.ci 650 0 0=J.i 710:=ci 0 0
   rw[c0,h7,hv]
  ·have h0:1=i:=hfr
   have hcv:(X7 c7).den J=false:=hok.1 _ List.mem_cons_self
   obtain⟨_,b2,b3,b4⟩:=hR.b (by omega)
   have e:bF J0 (m+1)=bF J0 m:=by rw[hs,if_neg (by rw[<-hc,hcv];decide),List.append_nil]
   obtain⟨l,c,_,_⟩:=hok.2.1.2 650 List.mem_cons_self
   refine⟨.inr rfl,⟨fun h=>by omega,fun _=>⟨rfl,by rw[e];exact b2,by rw[e,l];exact b3,fun r v hv => ?_⟩⟩,by omega⟩
   rw[e]at hv
   rw[c];exact b4 r v hv
  ·have h0:1=i:=hfr
   have hcv:(X7 c7).den J=true:=hok.1 _ List.mem_cons_self
   obtain⟨_,b2,b3,b4⟩:=hR.b (by omega)
   have e:bF J0 (m+1)=bF J0 m++[m]:=by rw[hs,if_pos (by rw[<-hc,hcv])]
   obtain⟨l,ci,_,_⟩:=hok.2.2.2 _ List.mem_cons_self
   have l:J2.len 650=(((J.len 650:Nat):Int)+1).toNat:=l
   have l:J2.len 650=J.len 650+1:=by omega
   rw[e,List.length_append,List.length_singleton]at hlen
   refine⟨.inr rfl,⟨fun h=>by omega,fun _=>⟨rfl,by rw[e];simp,by rw[e,List.length_append,List.length_singleton,l,b3],fun r v hv => ?_⟩⟩,by omega⟩
   rw[e]at hv
   have c0:=ci 0 r
   by_cases hr:r<J.len 650
   ·have er:(RL.app (.len 650) (.var 650 [.i .i64]) (.one [aI c7])).row J ((r:Nat):Int)=(RL.var 650 [.i .i64]).row J (r:Int):=by
     show(if(r:Int)<(J.len 650:Int)then _ else _)=_
     rw[if_pos (by omega)]
    rw[er]at c0
    have c0:J2.ci 650 0 r=J.ci 650 0 r:=c0
    rw[List.getElem?_append_left (by omega)]at hv
    rw[c0];exact b4 r v hv
   ·have er:(RL.app (.len 650) (.var 650 [.i .i64]) (.one [aI c7])).row J ((r:Nat):Int)=[AV.sc (.int .i64 (J.i 710))]:=by
     show(if(r:Int)<(J.len 650:Int)then _ else _)=_
     rw[if_neg (by omega)];rfl
    rw[er]at c0
    have c0:J2.ci 650 0 r=J.i 710:=c0
    rw[List.getElem?_append_right (by omega)]at hv
    have hr0:r-(bF J0 m).length=0:=by
     have:=(List.getElem?_eq_some_iff.1 hv).1
     simpa using this
    rw[hr0]at hv
    have hv:m=v:=by simpa using hv
    rw[c0,h7,hv]
 | j+2,hj=>cases hj
theorem ax5 (hS:∀s∈JM,iF Tryz.prog s) {J:Rho} (hl:Facts.ok J rQ) (hT:TI J) (h43:J.i 443=1) (again:Bool) (ha:again = !(bF J (J.len 470)).isEmpty):∃Jf,Agree 650 J Jf/\(again=true->Jf.len 650=(bF J (J.len 470)).length/\∀(r v:Nat),(bF J (J.len 470))[r]? = some v->Jf.ci 650 0 r=(v:Int))/\LoopOk Tryz.prog Jf Tryz.f120.ntmps t2D (Zf again):=by
 have h1:=hT.n1
 have h6:=hT.n6
 have hc:∀J',CfgOk Tryz.prog J' tuCf.c:=fun J'=>lG (List.forall_mem_nil _)
 refine iR (P:=Tryz.prog) (N:=Tryz.f120.ntmps) (body:=t2D) (k0:=2) (n:=650) (S0:=t2S0) (J:=J) aX3 (fun i=>t2S (if i=0 then false else true)) (Zf again) ⟨rfl,rfl,rfl⟩ (fun i J'=>(i=0\/i=1)/\T2I J J' i) (fun Jf=>again=true->Jf.len 650=(bF J (J.len 470)).length/\∀(r v:Nat),(bF J (J.len 470))[r]? = some v->Jf.ci 650 0 r=(v:Int)) (fun J'=>J.len 470-(J'.i 710).toNat) (fun i J' hR => ?_) ⟨0,t2N0.ap J,Bind.agree (by kernel_rfl) J,⟨.inl rfl,Bind.agree (by kernel_rfl) J,Nat.zero_le _,0,Nat.zero_le _,rfl,fun _=>rfl,fun h=>absurd rfl h⟩,fun E _ hkn=>jq hkn by2 J⟩
 obtain⟨hi,hR⟩:=hR
 have ag:=hR.ag
 obtain⟨m,hm,h7,hD⟩:=hR.m
 have l4:J'.len 470=J.len 470:=(ag.len 470 (by decide)).symm
 have hcall:=dP (c:=tuCf) (hc J') hS 12
 have hf1:Facts.ok J' EE:=Ic (by rw[<-ag.i 443 (by decide)];exact h43) (by omega) (by omega)
 have hT':=hT.agree (ag.le (by decide))
 obtain⟨r1,r2,r3,r0,rx⟩:=by3 (if i=0 then false else true)
 by_cases hlt:m<J.len 470
 ·right
  have hq:q7.den J'=m+1:=by
   refine(show q7.den J'=IntKind.i64.wrap (J'.i 710+1)from rfl).trans ?_
   rw[h7];exact aP _ (by omega) (by omega)
  have hky:=(hT'.ky m (by omega)).2
  have e7:(J'.i 710).toNat=m:=by omega
  have heq:(eqT.1).den J'=true:=by
   show((J'.len 474:Int)==J'.i 440+J'.i 443)=true
   rw[hT'.rn];exact beq_self_eq_true _
  have hk2:Facts.ok J' (EE++(Y7++rQ)):=aY hf1 (aY hT'.tr (bG (n:=600) (ag.le (by decide)) (by kernel_rfl) hl))
  have hk:Facts.ok J' t2F:=by
   refine fR (show(0:Int)<=J'.i 710 by omega) (Facts.ok_cons (decide_eq_true (by show J'.i 710<(J'.len 470:Int);omega)) (fF (show q7.den J'<=(J'.len 470:Int)by rw[hq];omega) (fR (by rw[hq];omega) (fL ?_ (fL (show(J'.len 650:Int)<=6 by have:=hR.l6;omega) (Facts.ok_cons heq hk2))))))
   show((J'.cs 470 0 (J'.i 710).toNat).size:Int)<=16
   rw[e7];omega
  have hcv:(X7 c7).den J'=X6 J (m:Int):=by rw[aK1,h7,<-X5 ag]
  have nxt:(∃(j:Nat) (C:Cls) (J2:Rho),t2C[j]? = some C/\StepF Tryz.prog Tryz.f120.ntmps t2D 2 (t2S (if i=0 then false else true)) C.S J' J2/\Facts.ok J2 C.Ψ/\J2.i 710=IntKind.i64.wrap (J'.i 710+1)/\Agree 650 J' J2/\(BD 0 [] J'->BD 0 [] J2)/\(C.al=[]\/∃a∈C.al,a.fr=(if(if i=0 then false else true)=true then 1 else 0)/\kW a J' J2))->∃i' J2,StepF Tryz.prog Tryz.f120.ntmps t2D 2 (t2S (if i=0 then false else true)) (t2S (if i'=0 then false else true)) J' J2/\((i'=0\/i'=1)/\T2I J J2 i')/\J.len 470-(J2.i 710).toNat<J.len 470-(J'.i 710).toNat/\Agree 650 J' J2:=fun⟨j,C,J2,g1,g2,_,g4,g5,_,g7⟩=>by
   have e4:J2.i 710=m+1:=by rw[g4,h7];exact aP _ (by omega) (by omega)
   have ei:(if(if i=0 then false else true)=true then 1 else 0)=i:=by rcases hi with rfl | rfl<;>rfl
   rw[ei]at g7
   obtain⟨q1,q2,q3⟩:=ax1 (by omega) hD h7 hcv hR.l6 g1 g7
   have eS:C.S=t2S (if j=0 then false else true):=by
    rcases q1 with rfl | rfl<;>(cases g1;rfl)
   rw[eS]at g2
   exact⟨j,J2,g2,⟨q1,ag.trans g5,q3,m+1,by omega,by omega,q2⟩,by omega,g5⟩
  exact b38 hk (fun h=>nxt (kH mixed dm hcall (LpsOk.nil _ _ _ _) yP h r1)) (fun h=>nxt (kH mixed dm hcall (LpsOk.nil _ _ _ _) yP h r2)) (fun h=>nxt (kH mixed dm hcall (LpsOk.nil _ _ _ _) yP h r3)) (fun h=>nxt (kH mixed dm hcall (LpsOk.nil _ _ _ _) yP h r0))
 ·left
  obtain rfl:m=J.len 470:=by omega
  have hk:Facts.ok J' t2E:=fR (show(0:Int)<=J'.i 710 by omega) (Facts.ok_cons (decide_eq_false (by show ¬J'.i 710<(J'.len 470:Int);omega)) hf1)
  have ea:again=(if i=0 then false else true):=by
   rcases hi with rfl | rfl
   ·rw[ha,hD.z rfl];rfl
   ·obtain⟨_,b2,_⟩:=hD.b (by decide)
    rw[ha]
    cases hq:bF J (J.len 470)with
    | nil=>exact absurd hq b2
    | cons _ _=>rfl
  refine⟨fun hag => ?_,?_⟩
  ·have:i≠0:=fun h=>by rw[ea,if_pos h]at hag;cases hag
   obtain⟨_,_,b3,b4⟩:=hD.b this
   exact⟨b3,b4⟩
  ·rw[ea]
   rcases iL mixed dm hcall (LpsOk.nil _ _ _ _) yP hk rx with h | ⟨j,C,_,g1,_⟩
   ·exact h
   ·simp at g1
end Go.Proofs.YtpdfmnhgocpkcaaGreat
namespace Go.Proofs.YtpdfmnhgocpkcaaGreat
open Go Go.Proofs.Aw Go.Proofs.Xw
set_option maxRecDepth 100000
noncomputable def aV5 (again:Bool) (g:Nat):List LoopX:=if Nat.beq g 120=true then [tuL,Zf again]else []
noncomputable def Y6 (again:Bool):Cfg2:=⟨bU [] (aV5 again),JM,[10119]⟩
def Y4:Facts:=eqT::(EE++(Y7++rQ))
def av8 (again:Bool):dR:=[((0,0),some (vi 405 9++vi 640 9++[xi 1,fE (0,1) 1 (.len 470),fE (0,2) 25 (.len 470),(if again=true then .slv (1,0) 1 (.lit 0) (.len 650) true else Dy false),xn (if again=true then 2 else 1),xn 0])),((0,1),some kR),((0,2),some [.rows 25 (.len 470) rq]),((0,3),if again=true then none else some oR)]++(if again=true then [((1,0),some [.rows 1 (.len 650) (.var 650 [.i .i64])])]else [])
def isT5 (d:dR):T (X×dR)->Bool
 | .ret (r,e)=>X.beq r (.tup [])&&beqN e d
 | _=>false
where beqN:dR->dR->Bool
 | [],[]=>true
 | (m,some a)::r,(k,some b)::s=>eG m k&&(X.beqL a b&&beqN r s)
 | (m,none)::r,(k,none)::s=>eG m k&&beqN r s
 | _,_=>false
theorem DW:∀{a b:dR},isT5.beqN a b=true->a=b
 | [],[],_=>rfl
 | (m,some a)::r,(k,some b)::s,h=>by
  simp only[isT5.beqN,Bool.and_eq_true]at h
  rw[bT h.1,X.beqL_eq _ _ h.2.1,DW h.2.2]
 | (m,none)::r,(k,none)::s,h=>by
  simp only[isT5.beqN,Bool.and_eq_true]at h
  rw[bT h.1,DW h.2]
 | [],_::_,h=>by simp[isT5.beqN]at h
 | (_,some _)::_,[],h=>by cases h
 | (_,none)::_,[],h=>by cases h
 | (_,none)::_,(_,some _)::_,h=>by cases h
 | (_,some _)::_,(_,none)::_,h=>by cases h
theorem aH1 {d:dR} {t:T (X×dR)} (h:isT5 d t=true):t = .ret (.tup [],d):=by
 cases t with
 | ret p =>
  obtain⟨r,e⟩:=p
  simp only[isT5,Bool.and_eq_true]at h
  rw[X.beq_eq _ _ h.1,DW h.2]
 | br _ _ _=>cases h
 | need _ _=>cases h
 | fail _=>cases h
theorem av6:isT5 (av8 false) (pK (Y6 false) 120 [.ptr (0,0) [] 0] (tuG 405 (Dy false) 1) Y4)=true:=by kernel_rfl
theorem av5:isT5 (av8 true) (pK (Y6 true) 120 [.ptr (0,0) [] 0] (tuG 405 (Dy false) 1) Y4)=true:=by kernel_rfl
theorem aV3 (again:Bool):isT5 (av8 again) (pK (Y6 again) 120 [.ptr (0,0) [] 0] (tuG 405 (Dy false) 1) Y4)=true:=by
 cases again
 ·exact av6
 ·exact av5
theorem aV4 (again:Bool) {J:Rho} (h1:LoopOk Tryz.prog J Tryz.f120.ntmps Y5 tuL) (h2:LoopOk Tryz.prog J Tryz.f120.ntmps t2D (Zf again)):∀g i,fO g su=some i->LpsOk Tryz.prog J i.ntmps (aV5 again g) i.body:=fun g i hi=>by
 unfold aV5
 split
 ·rename_i hf
  have hf:=Nat.eq_of_beq_eq_true hf
  subst hf
  have hfo:zV Tryz.prog 120 i:=qA (120,i) (gK _ _ (fG hi))
  refine nV hfo Tryz.func120 ?_
  exact jP (c:=Tryz.f120.body.getD .skip) [0,1] (by cases again<;>kernel_rfl) (List.forall_mem_cons.2 ⟨iD (L:=tuL) (c:=Y5) (by cases again<;>kernel_rfl) h1,List.forall_mem_cons.2 ⟨iD (L:=Zf again) (c:=t2D) (by cases again<;>kernel_rfl) h2,List.forall_mem_nil _⟩⟩)
 ·exact LpsOk.nil _ _ _ _
theorem ak7 {J:Rho} {has:Bool} (hT:TI J) (hb:(bM 47).den J=has) (hu:has=true->(BE.eq (.uf 2 0 alN) (.lit 1)).den J=true) (j:Nat) (hj:j<J.len 470) (hq:(dS J has).cb 625 1 j=true):UF 2 (Vg (dS J has) (j:Int)) 0=1:=by
 by_cases h0:(j:Int)=todo0.den J
 ·have e:(mM has).row J j=mQ J (YC has):=by
   show(if(j:Int)=todo0.den J then mQ J (YC has)else(RL.var 472 GI).row J j)=_
   rw[if_pos h0]
  have hq:fU ((mM has).row J (j:Int))[1]? = true:=hq
  have ee:Vg (dS J has) (j:Int)=(let l:=(mM has).row J (j:Int);[.int .i64 (ai l[2]?),.int .i64 (ai l[3]?),.int .i64 (ai l[4]?),.int .i64 (ai l[5]?),.int .i64 (ai l[6]?),.int .i64 (ai l[7]?),.string (cellS l[8]?),.string (cellS l[9]?),.bool (fU l[10]?),.int .i64 (ai l[11]?),.int .i64 (ai l[12]?),.int .i64 (ai l[13]?),.int .i64 (ai l[14]?),.int .i64 (ai l[15]?),.int .i64 (ai l[16]?),.int .i64 (ai l[17]?),.int .i64 (ai l[18]?),.int .i64 (ai l[19]?),.int .i64 (ai l[20]?),.int .i64 (ai l[21]?)]):=rfl
  rw[ee,e]
  rw[e]at hq
  cases has with
  | false =>
   have hq:(bM 47).den J=true:=hq
   rw[hb]at hq;cases hq
  | true =>
   have h1:UF 2 (alN.den J) 0=1:=eq1' (hu rfl)
   exact h1
 ·have e:(mM has).row J j=(RL.var 472 GI).row J j:=by
   show(if(j:Int)=todo0.den J then mQ J (YC has)else(RL.var 472 GI).row J j)=_
   rw[if_neg h0]
  have hq:fU ((mM has).row J (j:Int))[1]? = true:=hq
  have ee:Vg (dS J has) (j:Int)=(let l:=(mM has).row J (j:Int);[.int .i64 (ai l[2]?),.int .i64 (ai l[3]?),.int .i64 (ai l[4]?),.int .i64 (ai l[5]?),.int .i64 (ai l[6]?),.int .i64 (ai l[7]?),.string (cellS l[8]?),.string (cellS l[9]?),.bool (fU l[10]?),.int .i64 (ai l[11]?),.int .i64 (ai l[12]?),.int .i64 (ai l[13]?),.int .i64 (ai l[14]?),.int .i64 (ai l[15]?),.int .i64 (ai l[16]?),.int .i64 (ai l[17]?),.int .i64 (ai l[18]?),.int .i64 (ai l[19]?),.int .i64 (ai l[20]?),.int .i64 (ai l[21]?)]):=rfl
  rw[ee,e]
  rw[e]at hq
  exact hT.an j hj hq
where eq1' {J:Rho} {a:AL} (h:(BE.eq (.uf 2 0 a) (.lit 1)).den J=true):UF 2 (a.den J) 0=1:=by simpa [BE.den,IE.den]using h
end Go.Proofs.YtpdfmnhgocpkcaaGreat
namespace Go.Proofs.YtpdfmnhgocpkcaaGreat
open Go Go.Proofs.Aw Go.Proofs.Xw
set_option maxRecDepth 100000
theorem aj1 {J J':Rho} {f:Nat} {args args':List X} {h h':bg} {r r':X} {d d':dR} (hg:iG Tryz.prog J ⟨f,args,h,r,d⟩) (ha:X.denL J args=X.denL J' args') (hh:aV J h=aV J' h') (hr:r.den J=r'.den J') (hd:bZ J d=bZ J' d'):iG Tryz.prog J' ⟨f,args',h',r',d'⟩:=by
 refine⟨hg.1,?_⟩
 have q:=hg.2
 simp only at q ⊢
 rw[ha,hh,hr,hd]at q
 exact q
structure TurnL (J J':Rho) (cut:Nat->Int) (td:List Nat):Prop where
 ag:Agree 600 J J'
 cu:∀k,k<9->J'.i (600+k)=cut k
 ln:J'.len 610=td.length
 ce:∀(r v:Nat),td[r]? = some v->J'.ci 610 0 r=(v:Int)
theorem av9:(XS.mk tuO.t tuO.h tuO.nx).bel 650=true:=by kernel_rfl
theorem VJ {J J':Rho} (ag:Agree 650 J J') (h:LoopOk Tryz.prog J Tryz.f120.ntmps Y5 tuL):LoopOk Tryz.prog J' Tryz.f120.ntmps Y5 tuL:=by
 intro E hE hkn
 have:=h E hE hkn
 have e0:tuL.S.den (tuL.init.ap J)=tuL.S.den (tuL.init.ap J'):=XS.bel_den (n:=630) (ag.le (by decide)) tuS0 Y3
 rw[e0]at this
 refine bY (fun e σ hq => ?_) this
 obtain⟨e',s,q1,q2,q3⟩:=hq
 have q1:some (XE.exit 0,tuO)=some (e',s):=q1
 cases q1
 exact⟨.exit 0,tuO,rfl,q2,by rw[<-XS.bel_den ag tuO av9];exact q3⟩
theorem VA {J J':Rho} (has:Bool) (a5:Agree 630 (dS J has) J'):aF J' [.rows 25 (.len 470) rq]=aF J [.rows 25 (.len 470) (mM has)]:=by
 have e1:aF (dS J has) [.rows 25 (.len 470) rq]=aF J' [.rows 25 (.len 470) rq]:=by
  have:=ni a5 [((0,0),[.rows 25 (.len 470) rq])] (by kernel_rfl)
  exact(Prod.mk.inj (List.cons.inj this).1).2
 have e2:aF J [.rows 25 (.len 470) (mM has)]=aF (dS J has) [.rows 25 (.len 470) (mM has)]:=by
  have:=ni (vT J has) [((0,0),[.rows 25 (.len 470) (mM has)])] (by cases has<;>kernel_rfl)
  exact(Prod.mk.inj (List.cons.inj this).1).2
 rw[<-e1,bn6,<-e2]
theorem Vy {J J':Rho} (has:Bool) (ag:Agree 600 J J'):aF J [.rows 25 (.len 470) (mM has)]=aF J' [.rows 25 (.len 470) (mM has)]:=by
 have:=ni ag [((0,0),[.rows 25 (.len 470) (mM has)])] (by cases has<;>kernel_rfl)
 exact(Prod.mk.inj (List.cons.inj this).1).2
theorem bv5 (hS:∀s∈JM,iF Tryz.prog s) {J:Rho} (has:Bool) (hl:Facts.ok J rQ) (hT:TI J) (h43:J.i 443=1) (hb:(bM 47).den J=has) (hu:has=true->(BE.eq (.uf 2 0 alN) (.lit 1)).den J=true) :
  ∃Ja,Agree 630 (dS J has) Ja/\(∀k,k<9->Ja.i (640+k)=cutV (dS J has) k (J.len 470))/\∀J',TurnL J J' (fun k=>cutV (dS J has) k (J.len 470)) (bF Ja (J.len 470))->iG Tryz.prog J' (OI has (!(bF Ja (J.len 470)).isEmpty)):=by
 have a5:=vT J has
 have hT5:=hT.agree (a5.le (by decide))
 have n1:=hT5.n1
 have n6:=hT5.n6
 obtain⟨Ja,aa,hcut,hL1⟩:=av7 hS (J:=dS J has) h43 n1 n6 (fun j hj hq=>ak7 hT hb hu j hj hq)
 have l5:(dS J has).len 470=J.len 470:=rfl
 rw[l5]at hcut
 have la:Ja.len 470=J.len 470:=(aa.len 470 (by decide)).symm
 refine⟨Ja,aa,hcut,fun J' hJ => ?_⟩
 have hTa:=hT5.agree (aa.le (by decide))
 have hla:Facts.ok Ja rQ:=bG (n:=600) ((a5.le (by decide)).trans (aa.le (by decide))) (by kernel_rfl) hl
 have ha43:Ja.i 443=1:=by rw[<-aa.i 443 (by decide)];exact h43
 generalize hag:(!(bF Ja (J.len 470)).isEmpty)=again
 obtain⟨Jb,ab,hQ,hL2⟩:=ax5 hS hla hTa ha43 again (by rw[la];exact hag.symm)
 rw[la]at hQ
 have hL1:=VJ ab hL1
 have hc:CfgOk Tryz.prog Jb (Y6 again).c:=iW (List.forall_mem_nil _) (aV4 again hL1 hL2)
 have hTb:=hTa.agree (ab.le (by decide))
 have hk:Facts.ok Jb Y4:=Facts.ok_cons (by show((Jb.len 474:Int)==Jb.i 440+Jb.i 443)=true;rw[hTb.rn];exact beq_self_eq_true _) (aY (Ic (by rw[<-ab.i 443 (by decide)];exact ha43) hTb.n1 hTb.n6) (aY hTb.tr (bG (n:=600) (ab.le (by decide)) (by kernel_rfl) hla)))
 have g:=sV hc hS hk (show(pK (Y6 again) 120 [.ptr (0,0) [] 0] (tuG 405 (Dy false) 1) Y4).sel Jb=some (.tup [],av8 again)by rw[aH1 (aV3 again)];rfl)
 have a6:Agree 600 J Jb:=(a5.le (by decide)).trans ((aa.le (by decide)).trans (ab.le (by decide)))
 have a7:Agree 600 Jb J':=a6.symm.trans hJ.ag
 have ab5:Agree 630 (dS J has) Jb:=aa.trans (ab.le (by decide))
 have eA:aF Jb [.rows 25 (.len 470) rq]=aF J' [.rows 25 (.len 470) (mM has)]:=(VA has ab5).trans (Vy has hJ.ag)
 have bel1:∀(x:X),x.bel 600=true->x.den Jb=x.den J':=fun x hx=>X.bel_den a7 x hx
 have eC:X.denL Jb (vi 640 9)=X.denL J' (vi 600 9):=by
  show [_,_,_,_,_,_,_,_,_]=[_,_,_,_,_,_,_,_,_]
  have q:∀k,k<9->Jb.i (640+k)=J'.i (600+k):=fun k hk=>by rw[<-ab.i (640+k) (by omega),hcut k hk,hJ.cu k hk]
  have w:∀k,k<9->(xi (640+k)).den Jb=(xi (600+k)).den J':=fun k hk=>by
   show AV.sc (.int .i64 (Jb.i (640+k)))=AV.sc (.int .i64 (J'.i (600+k)))
   rw[q k hk]
  exact congr (congr rfl (w 0 (by omega))) (congr (congr rfl (w 1 (by omega))) (congr (congr rfl (w 2 (by omega))) (congr (congr rfl (w 3 (by omega))) (congr (congr rfl (w 4 (by omega))) (congr (congr rfl (w 5 (by omega))) (congr (congr rfl (w 6 (by omega))) (congr (congr rfl (w 7 (by omega))) (congr (congr rfl (w 8 (by omega))) rfl))))))))
 have bO:∀cs:List X,(XS.mk [] [((0,0),cs)] 0).bel 600=true->aF Jb cs=aF J' cs:=fun cs hcs=>by
  have:=ni a7 [((0,0),cs)] hcs
  exact(Prod.mk.inj (List.cons.inj this).1).2
 have bR:∀rd:Int,(X.denL Jb [xi 1,fE (0,1) 1 (.len 470),fE (0,2) 25 (.len 470)]=X.denL J' [xi 1,fE (0,1) 1 (.len 470),fE (0,2) 25 (.len 470)])/\X.denL Jb [xn rd,xn 0]=X.denL J' [xn rd,xn 0]:=fun rd=>⟨X.belL_den a7 _ (by kernel_rfl),rfl⟩
 have bV:X.denL Jb (vi 405 9)=X.denL J' (vi 405 9):=X.belL_den a7 _ (by kernel_rfl)
 have oK:=bO kR (by kernel_rfl)
 have oO:=bO oR (by kernel_rfl)
 have oF:=bO (vi 405 9++vi 405 9++[xi 1,fE (0,1) 1 (.len 470),fE (0,2) 25 (.len 470),Dy false,xn 1,xn 0]) (by kernel_rfl)
 have cell:∀(td td':X) (rd:Int),td.den Jb=td'.den J'->aF Jb (vi 405 9++vi 640 9++[xi 1,fE (0,1) 1 (.len 470),fE (0,2) 25 (.len 470),td,xn rd,xn 0])=aF J' (vi 405 9++vi 600 9++[xi 1,fE (0,1) 1 (.len 470),fE (0,2) 25 (.len 470),td',xn rd,xn 0]):=fun td td' rd htd=>by
  rw[bC rfl,bC rfl,X.denL_append (l:=vi 405 9++vi 640 9),X.denL_append (l:=vi 405 9++vi 600 9),X.denL_append (l:=vi 405 9),X.denL_append (l:=vi 405 9),eC,bV]
  congr 1
  obtain⟨q1,q2⟩:=bR rd
  show X.denL Jb [xi 1,fE (0,1) 1 (.len 470),fE (0,2) 25 (.len 470)]++(td.den Jb::X.denL Jb [xn rd,xn 0])=X.denL J' [xi 1,fE (0,1) 1 (.len 470),fE (0,2) 25 (.len 470)]++(td'.den J'::X.denL J' [xn rd,xn 0])
  rw[q1,q2,htd]
 refine aj1 g rfl ?_ rfl ?_
 ·show [((0,0),aF Jb _),((0,1),aF Jb kR),((0,2),aF Jb [.rows 25 (.len 470) rq]),((0,3),aF Jb oR)]=[((0,0),aF J' _),((0,1),aF J' kR),((0,2),aF J' [.rows 25 (.len 470) (mM has)]),((0,3),aF J' oR)]
  rw[oF,oK,eA,oO]
  rfl
 ·cases again with
  | false =>
   have e:=cell (Dy false) (Dy false) 1 (bel1 _ (by kernel_rfl))
   have this:([((0,0),some (aF Jb (vi 405 9++vi 640 9++[xi 1,fE (0,1) 1 (.len 470),fE (0,2) 25 (.len 470),Dy false,xn 1,xn 0]))),((0,1),some (aF Jb kR)),((0,2),some (aF Jb [.rows 25 (.len 470) rq])),((0,3),some (aF Jb oR))]:Dl)=[((0,0),some (aF J' (vi 405 9++vi 600 9++[xi 1,fE (0,1) 1 (.len 470),fE (0,2) 25 (.len 470),Dy false,xn 1,xn 0]))),((0,1),some (aF J' kR)),((0,2),some (aF J' [.rows 25 (.len 470) (mM has)])),((0,3),some (aF J' oR))]:=by
    rw[e,oK,eA,oO]
   exact this
  | true =>
   obtain⟨q1,q2⟩:=hQ rfl
   have hlen:Jb.len 650=J'.len 610:=by rw[q1,hJ.ln]
   have e:=cell (.slv (1,0) 1 (.lit 0) (.len 650) true) (.slv (1,0) 1 (.lit 0) (.len 610) true) 2 (by
    simp only[X.den,IE.den,hlen])
   have er:aF Jb [.rows 1 (.len 650) (.var 650 [.i .i64])]=aF J' [.rows 1 (.len 610) (.var 610 [.i .i64])]:=by
    show(aC Jb (.len 650) (.var 650 [.i .i64])).flatten=(aC J' (.len 610) (.var 610 [.i .i64])).flatten
    congr 1
    unfold aC
    have h1:((IE.len 650).den Jb).toNat=(bF Ja (J.len 470)).length:=by show((Jb.len 650:Nat):Int).toNat=_;rw[q1];exact Int.toNat_natCast _
    have h2:((IE.len 610).den J').toNat=(bF Ja (J.len 470)).length:=by show((J'.len 610:Nat):Int).toNat=_;rw[hJ.ln];exact Int.toNat_natCast _
    rw[h1,h2]
    refine List.map_congr_left fun j hj => ?_
    have hj:=List.mem_range.1 hj
    obtain⟨v,hv⟩:∃v,(bF Ja (J.len 470))[j]? = some v:=⟨_,List.getElem?_eq_getElem hj⟩
    show [AV.sc (.int .i64 (Jb.ci 650 0 ((j:Int)).toNat))]=[AV.sc (.int .i64 (J'.ci 610 0 ((j:Int)).toNat))]
    rw[Int.toNat_natCast,q2 j v hv,hJ.ce j v hv]
   have this:([((0,0),some (aF Jb (vi 405 9++vi 640 9++[xi 1,fE (0,1) 1 (.len 470),fE (0,2) 25 (.len 470),.slv (1,0) 1 (.lit 0) (.len 650) true,xn 2,xn 0]))),((0,1),some (aF Jb kR)),((0,2),some (aF Jb [.rows 25 (.len 470) rq])),((0,3),none),((1,0),some (aF Jb [.rows 1 (.len 650) (.var 650 [.i .i64])]))]:Dl)=[((0,0),some (aF J' (vi 405 9++vi 600 9++[xi 1,fE (0,1) 1 (.len 470),fE (0,2) 25 (.len 470),.slv (1,0) 1 (.lit 0) (.len 610) true,xn 2,xn 0]))),((0,1),some (aF J' kR)),((0,2),some (aF J' [.rows 25 (.len 470) (mM has)])),((0,3),none),((1,0),some (aF J' [.rows 1 (.len 610) (.var 610 [.i .i64])]))]:=by
    rw[e,oK,eA,er]
   exact this
end Go.Proofs.YtpdfmnhgocpkcaaGreat
namespace Go.Proofs.YtpdfmnhgocpkcaaGreat
open Go Go.Proofs.Aw Go.Proofs.Xw
set_option maxRecDepth 100000
def Fb:List Kd:=List.replicate 6 (.i .i64)++[.s,.s,.b]++List.replicate 11 (.i .i64)
def tkC:List X:=[xi 1,fE (0,1) 1 (.len 470),fE (0,2) 25 (.len 470),Dy false,xn 1]++vi 405 9++[xl false,xn 0]
def tkG (L:RL):bg:=[((0,0),tkC),((0,1),kR),((0,2),[.rows 25 (.len 470) L]),((0,3),oR)]
def bw9:ig:=([1,3,4,5,11,12,13,14,15,16,17,24,25,26]++(List.range 54).map (29 + ·)).map fun k=>(k,.top)
def tkT (i f:X):ig:=(7,i)::(6,f)::(0,.ptr (0,0) [] 0)::bw9
def tkL:X := .slv (73,0) 20 (.lit 0) (.len 651) true
def tkH:bg:=tkG rq++[((73,0),[.rows 20 (.len 651) (.var 651 Fb)])]
def MO (has:Bool):XS:=⟨tkT (xn 0) GY,tkG (mM has),73⟩
def tkS1:XS:=⟨tkT (xn 0) GY,tkG rq,73⟩
def tkS (some_:Bool):XS:=if some_=true then⟨tkT (xi 700) tkL,tkH,74⟩else⟨tkT (xi 700) GY,tkG rq,73⟩
def tkO (some_:Bool):XS:=if some_=true then⟨tkT .top tkL,tkH,120⟩else⟨tkT .top GY,tkG rq,120⟩
noncomputable def Zb:Code:=(dw (Tryz.f115.body.getD .skip))[0]?.getD .skip
def enS (i:IE):List Sc:=(List.range 6).map (fun k=>aI (.cl 625 (2+k) i))++[.s (.cl 625 8 i),.s (.cl 625 9 i),.b (.cl 625 10 i)]++(List.range 11).map fun k=>aI (.cl 625 (11+k) i)
def aW2:List Cls:=[⟨tkS false,[],[⟨0,[],[651],[],[],[(has7,false)]⟩]⟩,⟨tkS true,[],[⟨0,[],[],[],[(651,.lit 1,.one (enS (.var 700)))],[(has7,true)]⟩,⟨1,[],[651],[],[],[(has7,false)]⟩,⟨1,[],[],[],[(651,.op .padd .i64 (.len 651) (.lit 1),.app (.len 651) (.var 651 Fb) (.one (enS (.var 700))))],[(has7,true)]⟩]⟩]
def Qa:Facts:=(.lt (.lit 6) (.len 651),false)::tuF
def tkE:Facts:=[(.lt (.var 700) (.lit 0),false),(.lt (.var 700) (.len 470),false)]++EE
noncomputable def aO9 (s:Bool) (Φ:Facts):T (XE×XS):=(dG tuCf.c.ti (iK tuCf 12) ((tuCf.c.ft 115).elim [] (·.ms)) 2 [] 1000 Zb Φ (tkS s)).map (yC ((tkS s).t.map (·.1)))
noncomputable def tkN (s:Bool) (Φ:Facts):Bool:=jV 2 630 700 [] (0,[]) (if s=true then 1 else 0) aW2 (tkO s) .normal Φ (aO9 s Φ)
noncomputable def tkX (s:Bool) (x:Nat) (Φ:Facts):Bool:=jV 2 630 700 [] (0,[]) 0 [] (tkO s) (.exit x) Φ (aO9 s Φ)
end Go.Proofs.YtpdfmnhgocpkcaaGreat
namespace Go.Proofs.YtpdfmnhgocpkcaaGreat
open Go Go.Proofs.Aw Go.Proofs.Xw
set_option maxRecDepth 100000
theorem aV9:(tkN false ((has7,true)::Qa)&&(tkN false ((has7,false)::Qa)&&tkX false 0 tkE))=true:=by kernel_rfl
theorem aV8:(tkN true ((has7,true)::Qa)&&(tkN true ((has7,false)::Qa)&&tkX true 0 tkE))=true:=by kernel_rfl
theorem bw6 (s:Bool):tkN s ((has7,true)::Qa)=true/\tkN s ((has7,false)::Qa)=true/\tkX s 0 tkE=true:=by
 cases s
 ·have:=aV9
  simpa only[Bool.and_eq_true]using this
 ·have:=aV8
  simpa only[Bool.and_eq_true]using this
theorem JH:fD Tryz.f115.ntmps Zb=true:=by kernel_rfl
theorem Y9:([true,false].all fun has=>(MO has).bel 630)=true:=by kernel_rfl
def tkN0:Bind:=⟨[(700,.lit 0)],[],[],[(651,.lit 0,.one [])]⟩
theorem bw5:okS 2 630 tkN0 [] (tkS false) tkS1=true:=by kernel_rfl
noncomputable def Ee (has s:Bool):LoopX:=⟨(bW Zb).getD 0,2,630,MO has,noB,[],.ret (.exit 0,tkO s)⟩
noncomputable def jc (J:Rho) (x:Int):List AV:=mQ { J with i:=fun _=>x } (enS (.var 0))
theorem FX {J J':Rho} (ag:Agree 630 J J') (x:Int):jc J x=jc J' x:=by
 unfold jc mQ enS
 simp only[List.map_append,List.map_cons,List.map_nil,List.map_map,Function.comp_def,Sc.den,aI,IE.den,BE.den,TE.den,ag.ci 625 (by decide),ag.cb 625 (by decide),ag.cs 625 (by decide)]
theorem ZN {J':Rho} {j:Nat} {l:List AV} (hi:∀k,J'.ci 651 k j=ai l[k]?) (hb:∀k,J'.cb 651 k j=fU l[k]?) (hs:∀k,J'.cs 651 k j=cellS l[k]?) :
  (RL.var 651 Fb).row J' (j:Int)=[.sc (.int .i64 (ai l[0]?)),.sc (.int .i64 (ai l[1]?)),.sc (.int .i64 (ai l[2]?)),.sc (.int .i64 (ai l[3]?)),.sc (.int .i64 (ai l[4]?)),.sc (.int .i64 (ai l[5]?)),.sc (.string (cellS l[6]?)),.sc (.string (cellS l[7]?)),.sc (.bool (fU l[8]?)),.sc (.int .i64 (ai l[9]?)),.sc (.int .i64 (ai l[10]?)),.sc (.int .i64 (ai l[11]?)),.sc (.int .i64 (ai l[12]?)),.sc (.int .i64 (ai l[13]?)),.sc (.int .i64 (ai l[14]?)),.sc (.int .i64 (ai l[15]?)),.sc (.int .i64 (ai l[16]?)),.sc (.int .i64 (ai l[17]?)),.sc (.int .i64 (ai l[18]?)),.sc (.int .i64 (ai l[19]?))]:=by
 simp only[<-hi,<-hb,<-hs]
 rfl
theorem TV {J J':Rho} {x:Int} {j:Nat} (hi:∀k,J'.ci 651 k j=ai (jc J x)[k]?) (hb:∀k,J'.cb 651 k j=fU (jc J x)[k]?) (hs:∀k,J'.cs 651 k j=cellS (jc J x)[k]?):(RL.var 651 Fb).row J' (j:Int)=jc J x:=by
 rw[ZN hi hb hs];rfl
theorem az3 {J J':Rho} {j:Nat} (hi:∀k,J'.ci 651 k j=ai ((RL.var 651 Fb).row J (j:Int))[k]?) (hb:∀k,J'.cb 651 k j=fU ((RL.var 651 Fb).row J (j:Int))[k]?) (hs:∀k,J'.cs 651 k j=cellS ((RL.var 651 Fb).row J (j:Int))[k]?):(RL.var 651 Fb).row J' (j:Int)=(RL.var 651 Fb).row J (j:Int):=by
 rw[ZN hi hb hs];rfl
noncomputable def xW (J:Rho) (m:Nat):List Nat:=(List.range m).filter fun j=>J.cb 625 1 j
theorem OW (J:Rho) (m:Nat):xW J (m+1)=xW J m++if J.cb 625 1 m=true then [m]else []:=by
 unfold xW
 rw[List.range_succ,List.filter_append]
 congr 1
 by_cases h:J.cb 625 1 m=true
 ·simp[h]
 ·simp[h]
theorem U8 (J:Rho) (m:Nat):(xW J m).length<=m:=by
 have:=List.length_filter_le (fun j=>J.cb 625 1 j) (List.range m)
 rwa[List.length_range]at this
structure FdI (J0:Rho) (m:Nat) (i:Nat) (J:Rho):Prop where
 z:i=0->xW J0 m=[]
 b:i≠0->i=1/\xW J0 m≠[]/\J.len 651=(xW J0 m).length/\∀(r v:Nat),(xW J0 m)[r]? = some v->(RL.var 651 Fb).row J (r:Int)=jc J0 (v:Int)
structure TkI (J0 J:Rho) (i:Nat):Prop where
 ag:Agree 630 J0 J
 l6:J.len 651<=6
 m:∃m:Nat,m<=J0.len 470/\J.i 700=m/\FdI J0 m i J
theorem aI6 {J0 J J2:Rho} {m i j:Nat} {D:Cls} (hm:m<6) (ag:Agree 630 J0 J) (hR:FdI J0 m i J) (h7:J.i 700=m) (hc:has7.den J=J0.cb 625 1 m) (hl:J.len 651<=6) (hj:aW2[j]? = some D) (ha:D.al=[]\/∃a∈D.al,a.fr=i/\kW a J J2):(j=0\/j=1)/\FdI J0 (m+1) j J2/\J2.len 651<=6:=by
 have hs:=OW J0 m
 have hlen:=U8 J0 (m+1)
 match j,hj with
 | 0,hj =>
  cases hj
  simp only[List.cons_ne_nil,false_or,List.mem_cons,List.not_mem_nil,or_false]at ha
  obtain⟨a,rfl,hfr,hok⟩:=ha
  have h0:0=i:=hfr
  have hcv:has7.den J=false:=hok.1 _ List.mem_cons_self
  have hz:=hR.z h0.symm
  have hl2:=(hok.2.1.2 651 List.mem_cons_self).1
  refine⟨.inl rfl,⟨fun _ => ?_,fun h=>absurd rfl h⟩,by rw[hl2];exact hl⟩
  rw[hs,hz,if_neg (by rw[<-hc,hcv];decide)];rfl
 | 1,hj =>
  cases hj
  simp only[List.cons_ne_nil,false_or,List.mem_cons,List.not_mem_nil,or_false]at ha
  obtain⟨a,hq,hfr,hok⟩:=ha
  rcases hq with rfl | rfl | rfl
  ·have h0:0=i:=hfr
   have hcv:has7.den J=true:=hok.1 _ List.mem_cons_self
   have hz:=hR.z h0.symm
   have e:xW J0 (m+1)=[m]:=by rw[hs,hz,if_pos (by rw[<-hc,hcv])];rfl
   obtain⟨l,ci,cb,cs⟩:=hok.2.2.2 _ List.mem_cons_self
   have l:J2.len 651=1:=l
   refine⟨.inr rfl,⟨fun h=>by omega,fun _=>⟨rfl,by rw[e];simp,by rw[e,l];rfl,fun r v hv => ?_⟩⟩,by omega⟩
   rw[e]at hv
   have hr:r=0:=by
    have:=(List.getElem?_eq_some_iff.1 hv).1
    simpa using this
   subst hr
   have hv:m=v:=by simpa using hv
   have er:(RL.one (enS (.var 700))).row J ((0:Nat):Int)=jc J (J.i 700):=rfl
   rw[FX ag,<-hv,<-h7]
   exact TV (fun k=>by rw[ci k 0,er]) (fun k=>by rw[cb k 0,er]) (fun k=>by rw[cs k 0,er])
  ·have h0:1=i:=hfr
   have hcv:has7.den J=false:=hok.1 _ List.mem_cons_self
   obtain⟨_,b2,b3,b4⟩:=hR.b (by omega)
   have e:xW J0 (m+1)=xW J0 m:=by rw[hs,if_neg (by rw[<-hc,hcv];decide),List.append_nil]
   obtain⟨l,c1,c2,c3⟩:=hok.2.1.2 651 List.mem_cons_self
   refine⟨.inr rfl,⟨fun h=>by omega,fun _=>⟨rfl,by rw[e];exact b2,by rw[e,l];exact b3,fun r v hv => ?_⟩⟩,by omega⟩
   rw[e]at hv
   rw[<-b4 r v hv]
   show [_,_,_,_,_,_,_,_,_,_,_,_,_,_,_,_,_,_,_,_]=[_,_,_,_,_,_,_,_,_,_,_,_,_,_,_,_,_,_,_,_]
   rw[c1,c2,c3]
  ·have h0:1=i:=hfr
   have hcv:has7.den J=true:=hok.1 _ List.mem_cons_self
   obtain⟨_,b2,b3,b4⟩:=hR.b (by omega)
   have e:xW J0 (m+1)=xW J0 m++[m]:=by rw[hs,if_pos (by rw[<-hc,hcv])]
   obtain⟨l,ci,cb,cs⟩:=hok.2.2.2 _ List.mem_cons_self
   have l:J2.len 651=(((J.len 651:Nat):Int)+1).toNat:=l
   have l:J2.len 651=J.len 651+1:=by omega
   rw[e,List.length_append,List.length_singleton]at hlen
   refine⟨.inr rfl,⟨fun h=>by omega,fun _=>⟨rfl,by rw[e];simp,by rw[e,List.length_append,List.length_singleton,l,b3],fun r v hv => ?_⟩⟩,by omega⟩
   rw[e]at hv
   by_cases hr:r<J.len 651
   ·have er:(RL.app (.len 651) (.var 651 Fb) (.one (enS (.var 700)))).row J ((r:Nat):Int)=(RL.var 651 Fb).row J (r:Int):=by
     show(if(r:Int)<(J.len 651:Int)then _ else _)=_
     rw[if_pos (by omega)]
    rw[List.getElem?_append_left (by omega)]at hv
    rw[<-b4 r v hv]
    exact az3 (fun k=>by rw[ci k r,er]) (fun k=>by rw[cb k r,er]) (fun k=>by rw[cs k r,er])
   ·have er:(RL.app (.len 651) (.var 651 Fb) (.one (enS (.var 700)))).row J ((r:Nat):Int)=jc J (J.i 700):=by
     show(if(r:Int)<(J.len 651:Int)then _ else _)=_
     rw[if_neg (by omega)];rfl
    rw[List.getElem?_append_right (by omega)]at hv
    have hr0:r-(xW J0 m).length=0:=by
     have:=(List.getElem?_eq_some_iff.1 hv).1
     simpa using this
    rw[hr0]at hv
    have hv:m=v:=by simpa using hv
    rw[FX ag,<-hv,<-h7]
    exact TV (fun k=>by rw[ci k r,er]) (fun k=>by rw[cb k r,er]) (fun k=>by rw[cs k r,er])
 | j+2,hj=>cases hj
end Go.Proofs.YtpdfmnhgocpkcaaGreat
namespace Go.Proofs.YtpdfmnhgocpkcaaGreat
open Go Go.Proofs.Aw Go.Proofs.Xw
set_option maxRecDepth 100000
theorem aW0 (J:Rho) (has:Bool):(MO has).den (dS J has)=tkS1.den (dS J has):=by
 have e:=bn6 J has
 show St.mk _ [(_,_),(_,_),(_,aF (dS J has) [.rows 25 (.len 470) (mM has)]),(_,_)] _=St.mk _ [(_,_),(_,_),(_,aF (dS J has) [.rows 25 (.len 470) rq]),(_,_)] _
 rw[e]
 rfl
theorem aw2 (hS:∀s∈JM,iF Tryz.prog s) {J:Rho} (has:Bool) (hT:TI J) (h43:J.i 443=1) (hb:(bM 47).den J=has) (hu:has=true->(BE.eq (.uf 2 0 alN) (.lit 1)).den J=true) (s:Bool) (hs:s = !(xW (dS J has) (J.len 470)).isEmpty) :
  ∃Jf,Agree 630 (dS J has) Jf/\(s=true->Jf.len 651=(xW (dS J has) (J.len 470)).length/\∀(r v:Nat),(xW (dS J has) (J.len 470))[r]? = some v->(RL.var 651 Fb).row Jf (r:Int)=jc (dS J has) (v:Int))/\LoopOk Tryz.prog Jf Tryz.f115.ntmps Zb (Ee has s):=by
 have n1:=hT.n1
 have n6:=hT.n6
 have l5:(dS J has).len 470=J.len 470:=rfl
 have hE:=fun j hj hq=>ak7 hT hb hu j hj hq
 generalize h5:dS J has=J5 at hE hs l5 ⊢
 have h435:J5.i 443=1:=by rw[<-h5];exact h43
 have hden:(MO has).den J5=tkS1.den J5:=by rw[<-h5];exact aW0 J has
 rw[<-l5]at n1 n6 hE hs ⊢
 have hc:∀J',CfgOk Tryz.prog J' tuCf.c:=fun J'=>lG (List.forall_mem_nil _)
 have hbel:(MO has).bel 630=true:=List.all_eq_true.1 Y9 has (by cases has<;>simp)
 refine iR (P:=Tryz.prog) (N:=Tryz.f115.ntmps) (body:=Zb) (k0:=2) (n:=630) (S0:=MO has) (J:=J5) hbel (fun i=>tkS (if i=0 then false else true)) (Ee has s) ⟨rfl,rfl,rfl⟩ (fun i J'=>(i=0\/i=1)/\TkI J5 J' i) (fun Jf=>s=true->Jf.len 651=(xW J5 (J5.len 470)).length/\∀(r v:Nat),(xW J5 (J5.len 470))[r]? = some v->(RL.var 651 Fb).row Jf (r:Int)=jc J5 (v:Int)) (fun J'=>J5.len 470-(J'.i 700).toNat) (fun i J' hR => ?_) ⟨0,tkN0.ap J5,Bind.agree (by kernel_rfl) J5,⟨.inl rfl,Bind.agree (by kernel_rfl) J5,Nat.zero_le _,0,Nat.zero_le _,rfl,fun _=>rfl,fun h=>absurd rfl h⟩,fun E _ hkn=>by rw[hden];exact jq hkn bw5 J5⟩
 obtain⟨hi,hR⟩:=hR
 have ag:=hR.ag
 obtain⟨m,hm,h7,hD⟩:=hR.m
 have l4:J'.len 470=J5.len 470:=(ag.len 470 (by decide)).symm
 have hcall:=dP (c:=tuCf) (hc J') hS 12
 have hf1:Facts.ok J' EE:=Ic (by rw[<-ag.i 443 (by decide)];exact h435) (by omega) (by omega)
 obtain⟨r1,r0,rx⟩:=bw6 (if i=0 then false else true)
 by_cases hlt:m<J5.len 470
 ·right
  have hp:p7.den J'=m+1:=by
   refine(show p7.den J'=IntKind.i64.wrap (J'.i 700+1)from rfl).trans ?_
   rw[h7];exact aP _ (by omega) (by omega)
  have e7:(J'.i 700).toNat=m:=by omega
  have hcv:has7.den J'=J5.cb 625 1 m:=by
   show J'.cb 625 1 (J'.i 700).toNat=_
   rw[e7,<-ag.cb 625 (by decide)]
  have hk:Facts.ok J' Qa:=fL (show(J'.len 651:Int)<=6 by have:=hR.l6;omega) (fR (show(0:Int)<=J'.i 700 by omega) (Facts.ok_cons (decide_eq_true (by show J'.i 700<(J'.len 470:Int);omega)) (fF (show p7.den J'<=(J'.len 470:Int)by rw[hp];omega) (fR (by rw[hp];omega) hf1))))
  have nxt:(∃(j:Nat) (C:Cls) (J2:Rho),aW2[j]? = some C/\StepF Tryz.prog Tryz.f115.ntmps Zb 2 (tkS (if i=0 then false else true)) C.S J' J2/\Facts.ok J2 C.Ψ/\J2.i 700=IntKind.i64.wrap (J'.i 700+1)/\Agree 630 J' J2/\(BD 0 [] J'->BD 0 [] J2)/\(C.al=[]\/∃a∈C.al,a.fr=(if(if i=0 then false else true)=true then 1 else 0)/\kW a J' J2))->∃i' J2,StepF Tryz.prog Tryz.f115.ntmps Zb 2 (tkS (if i=0 then false else true)) (tkS (if i'=0 then false else true)) J' J2/\((i'=0\/i'=1)/\TkI J5 J2 i')/\J5.len 470-(J2.i 700).toNat<J5.len 470-(J'.i 700).toNat/\Agree 630 J' J2:=fun⟨j,C,J2,g1,g2,_,g4,g5,_,g7⟩=>by
   have e4:J2.i 700=m+1:=by rw[g4,h7];exact aP _ (by omega) (by omega)
   have ei:(if(if i=0 then false else true)=true then 1 else 0)=i:=by rcases hi with rfl | rfl<;>rfl
   rw[ei]at g7
   obtain⟨q1,q2,q3⟩:=aI6 (by omega) ag hD h7 hcv hR.l6 g1 g7
   have eS:C.S=tkS (if j=0 then false else true):=by
    rcases q1 with rfl | rfl<;>(cases g1;rfl)
   rw[eS]at g2
   exact⟨j,J2,g2,⟨q1,ag.trans g5,q3,m+1,by omega,by omega,q2⟩,by omega,g5⟩
  rcases RJ has7 J' with h | h
  ·exact nxt (kH mixed dm hcall (LpsOk.nil _ _ _ _) JH (Facts.ok_cons h hk) r1)
  ·exact nxt (kH mixed dm hcall (LpsOk.nil _ _ _ _) JH (Facts.ok_cons h hk) r0)
 ·left
  obtain rfl:m=J5.len 470:=by omega
  have hk:Facts.ok J' tkE:=fR (show(0:Int)<=J'.i 700 by omega) (Facts.ok_cons (decide_eq_false (by show ¬J'.i 700<(J'.len 470:Int);omega)) hf1)
  have ea:s=(if i=0 then false else true):=by
   rcases hi with rfl | rfl
   ·rw[hs,hD.z rfl];rfl
   ·obtain⟨_,b2,_⟩:=hD.b (by decide)
    rw[hs]
    cases hq:xW J5 (J5.len 470)with
    | nil=>exact absurd hq b2
    | cons _ _=>rfl
  refine⟨fun hag => ?_,?_⟩
  ·have:i≠0:=fun h=>by rw[ea,if_pos h]at hag;cases hag
   obtain⟨_,_,b3,b4⟩:=hD.b this
   exact⟨b3,b4⟩
  ·rw[ea]
   rcases iL mixed dm hcall (LpsOk.nil _ _ _ _) JH hk rx with h | ⟨j,C,_,g1,_⟩
   ·exact h
   ·simp at g1
end Go.Proofs.YtpdfmnhgocpkcaaGreat
