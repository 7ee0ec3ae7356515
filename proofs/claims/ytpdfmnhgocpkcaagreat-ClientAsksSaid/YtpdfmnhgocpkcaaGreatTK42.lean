/- Parts of the proof, one behind the other. -/
import Derived.Test.YtpdfmnhgocpkcaaGreatTK41
namespace Go.Proofs.YtpdfmnhgocpkcaaGreat
open Go Go.Proofs.Aw Go.Proofs.Xw
set_option maxRecDepth 100000
noncomputable def lj (ρ:aa) (x:Int):List Value:=(xI (.var 0)).I { ρ with i:=fun _=>x }
theorem aeE (ρ:aa):(xI (.var 700)).I ρ=lj ρ (ρ.i 700):=rfl
theorem TK {ρ G:aa} (ah:aA 630 ρ G) (x:Int):lj ρ x=lj G x:=by
 show [_,_,_,_,_,_,_,_,_,_,_,_,_,_,_,_,_,_,_,_]=[_,_,_,_,_,_,_,_,_,_,_,_,_,_,_,_,_,_,_,_]
 simp only[U.I,BE.I,TE.I,ah.ci 625 (by decide),ah.cb 625 (by decide),ah.cs 625 (by decide)]
noncomputable def iv (ρ:aa) (k:Nat):Nat->Int
 | 0=>ρ.i (405+k)
 | m+1=>if ρ.cb 625 1 m=true then max (max 0 (iv ρ k m)) (UF 3 (lj ρ m) k)else iv ρ k m
structure R2 (al ρ:aa):Prop where
 ah:aA 630 al ρ
 m:∃m:Nat,m<=al.len 470/\ρ.i 700=m/\∀k,k<9->ρ.i (640+k)=iv al k m
noncomputable def o8:bo:=⟨(dF o7).getD 0,2,630,DG,gJ,[],.ret (.exit 0,sf)⟩
theorem QR:dp Tryz.f120.ntmps o7=true:=by kernel_rfl
def Z8:Bind:=⟨(700,.lit 0)::(List.range 9).map (fun k=>(640+k,.var (405+k))),[],[],[]⟩
theorem asM:gp 2 630 Z8 [] uk DG=true:=by kernel_rfl
theorem Z_:DG.au 630=true:=by kernel_rfl
theorem y4 {ρ:aa} (dv:ρ.i 443=1) (A:1<=ρ.len 470) (h6:ρ.len 470<=6):J.ok ρ fU :=
 J.aw (by show(ρ.i 443==1)=true;rw[dv];rfl) (fR (show(1:Int)<=(ρ.len 470:Int)by omega) (kj (show(ρ.len 470:Int)<=6 by omega) (J.bq _)))
theorem nine {P:Nat->Prop} (h0:P 0) (A:P 1) (E:P 2) (h3:P 3) (h4:P 4) (h5:P 5) (h6:P 6) (h7:P 7) (Fd:P 8):∀k,k<9->P k:=fun k u=>by
 rcases(show k=0\/k=1\/k=2\/k=3\/k=4\/k=5\/k=6\/k=7\/k=8 by omega)with rfl | rfl | rfl | rfl | rfl | rfl | rfl | rfl | rfl<;>assumption
theorem asN (hS:∀s∈hj,c9 Tryz.prog s) {ρ:aa} (dv:ρ.i 443=1) (A:1<=ρ.len 470) (h6:ρ.len 470<=6) (hE:∀j:Nat,j<ρ.len 470->ρ.cb 625 1 j=true->UF 2 (lj ρ j) 0=1):∃ar,aA 630 ρ ar/\(∀k,k<9->ar.i (640+k)=iv ρ k (ρ.len 470))/\b8 Tryz.prog ar Tryz.f120.ntmps o7 o8:=by
 have H:∀G,cf Tryz.prog G hD.c:=fun G=>lb (List.forall_mem_nil _)
 have bJ:=asL
 simp only[Bool.and_eq_true]at bJ
 obtain⟨r0,r1,r2⟩:=bJ
 refine rz (P:=Tryz.prog) (N:=Tryz.f120.ntmps) (body:=o7) (k0:=2) (n:=630) (S0:=DG) (ρ:=ρ) Z_ (fun _=>uk) o8 ⟨rfl,rfl,rfl⟩ (fun _ G=>R2 ρ G) (fun G=>∀k,k<9->G.i (640+k)=iv ρ k (ρ.len 470)) (fun G=>ρ.len 470-(G.i 700).toNat) (fun _ G hR => ?_) ⟨0,Z8.ap ρ,Bind.bC (by kernel_rfl) ρ,⟨Bind.bC (by kernel_rfl) ρ,0,Nat.zero_le _,rfl,nine rfl rfl rfl rfl rfl rfl rfl rfl rfl⟩,fun ac _ bM=>lL bM asM ρ⟩
 have ah:=hR.ah
 obtain⟨m,hm,hi,i4⟩:=hR.m
 have l4:G.len 470=ρ.len 470:=(ah.len 470 (by decide)).symm
 have aO:=ft (c:=hD) (H G) hS 12
 have kv:J.ok G fU:=y4 (by rw[<-ah.i 443 (by decide)];exact dv) (by omega) (by omega)
 by_cases aT:m<ρ.len 470
 ·right
  have hp:p7.I G=m+1:=by
   refine(show p7.I G=IntKind.i64.wrap (G.i 700+1)from rfl).trans ?_
   rw[hi];exact cp _ (by omega) (by omega)
  have u:J.ok G IV:=fR (show(0:Int)<=G.i 700 by omega) (J.aw (decide_eq_true (by show G.i 700<(G.len 470:Int);omega)) (fF (show p7.I G<=(G.len 470:Int)by rw[hp];omega) (fR (by rw[hp];omega) kv)))
  have sH:(G.i 700).toNat=m:=by omega
  have hb:fj.I G=ρ.cb 625 1 m:=by
   show G.cb 625 1 (G.i 700).toNat=_
   rw[sH,<-ah.cb 625 (by decide)]
  have iH:(∃(j:Nat) (C:dq) (ax:aa),Z5[j]? = some C/\ei Tryz.prog Tryz.f120.ntmps o7 2 uk C.S G ax/\J.ok ax C.b6/\ax.i 700=IntKind.i64.wrap (G.i 700+1)/\aA 630 G ax/\(eP 0 [] G->eP 0 [] ax)/\(C.dm=[]\/∃a∈C.dm,a.fr=0/\gR a G ax))->∃i' ax,ei Tryz.prog Tryz.f120.ntmps o7 2 uk uk G ax/\R2 ρ ax/\ρ.len 470-(ax.i 700).toNat<ρ.len 470-(G.i 700).toNat/\aA 630 G ax:=fun⟨j,C,ax,g1,g2,_,g4,g5,_,g7⟩=>by
   have e4:ax.i 700=m+1:=by rw[g4,hi];exact cp _ (by omega) (by omega)
   match j,g1 with
   | 0,g1 =>
    cases g1
    refine⟨0,ax,g2,⟨ah.trans g5,m+1,by omega,by omega,fun k kx => ?_⟩,by omega,g5⟩
    simp only[List.cons_ne_nil,false_or,List.mem_cons,List.not_mem_nil,or_false]at g7
    obtain⟨a,ha,_,a2⟩:=g7
    rcases ha with rfl | rfl
    ·have W:fj.I G=true:=a2.1 _ List.mem_cons_self
     have R:=a2.2.2.1 (640+k,.op .max .i64 (.op .max .i64 (.lit 0) (.var (640+k))) (.uf 3 k (xI (.var 700)))) (List.mem_map.2 ⟨k,List.mem_range.2 kx,rfl⟩)
     have R:ax.i (640+k)=max (max 0 (G.i (640+k))) (UF 3 (lj G (G.i 700)) k):=R
     rw[R,i4 k kx,hi,<-TK ah]
     show _=if ρ.cb 625 1 m=true then _ else _
     rw[if_pos (by rw[<-hb];exact W)]
    ·have W:fj.I G=false:=a2.1 _ List.mem_cons_self
     have R:=a2.2.1.1 (640+k) (by
      rcases(show k=0\/k=1\/k=2\/k=3\/k=4\/k=5\/k=6\/k=7\/k=8 by omega)with rfl | rfl | rfl | rfl | rfl | rfl | rfl | rfl | rfl<;>decide)
     rw[R,i4 k kx]
     show _=if ρ.cb 625 1 m=true then _ else _
     rw[if_neg (by rw[<-hb,W];decide)]
   | j+1,g1=>cases g1
  cases W:fj.I G with
  | true =>
   have hw:wr7.I G=true:=by
    have:=hE m aT (by rw[<-hb];exact W)
    show(UF 2 ((xI (.var 700)).I G) 0==1)=true
    rw[aeE,hi,<-TK ah,this];rfl
   exact iH (jZ mixed dj aO (a5.nil _ _ _ _) QR (J.aw W (J.aw hw u)) r0)
  | false=>exact iH (jZ mixed dj aO (a5.nil _ _ _ _) QR (J.aw W u) r1)
 ·left
  obtain rfl:m=ρ.len 470:=by omega
  have u:J.ok G Z6:=fR (show(0:Int)<=G.i 700 by omega) (J.aw (decide_eq_false (by show ¬G.i 700<(G.len 470:Int);omega)) kv)
  refine⟨i4,?_⟩
  rcases ij mixed dj aO (a5.nil _ _ _ _) QR u r2 with h | ⟨j,C,_,g1,_⟩
  ·exact h
  ·simp at g1
end Go.Proofs.YtpdfmnhgocpkcaaGreat
namespace Go.Proofs.YtpdfmnhgocpkcaaGreat
open Go Go.Proofs.Aw Go.Proofs.Xw
set_option maxRecDepth 100000
def tD (i:U):U := .uf 0 0 (.s (.cl 470 0 i) (.i (.var 1) .nil))
def r4 (k:Nat) (i:U):U := .ite (.eq (tD i) (.lit 0)) (.var k) (.ite (.eq (tD i) (.lit 1)) (.var (k+1)) (.var (k+2)))
def n4 (i:U):BE := .lt (.cl 625 22 i) (r4 640 i)
def qJ (i:U):BE := .lt (.cl 625 23 i) (r4 643 i)
def uW (i:U):BE := .lt (.cl 625 24 i) (r4 646 i)
def mf (i:U):BE := .or (n4 i) (.or (qJ i) (uW i))
def Dr (i:X):bf:=[(36,i),(35,.sc (.i .i64 (.len 470))),(34,aZ (0,2) 25 (.len 470)),(33,.top),(32,.top),(31,.top),(11,.top),(10,.top),(9,.top),(8,.top),(7,.top),(6,.top),(0,.ptr (0,0) [] 0)]
def t2L:X := .slv (66,0) 1 (.lit 0) (.len 650) true
def asH (td:X) (rd:Int):av:=[((0,0),vi 405 9++vi 640 9++[xi 1,aZ (0,1) 1 (.len 470),aZ (0,2) 25 (.len 470),td,xn rd,xn 0]),((0,1),kR),((0,2),[.rows 25 (.len 470) c_])]
def ZK:av:=asH t2L 2++[((66,0),[.rows 1 (.len 650) (.var 650 [.i .i64])])]
def IK:XS:=⟨Dr (xn 0),qo 640 (fD false) 1,66⟩
def qg (again:Bool):XS:=if again=true then⟨Dr (xi 710),ZK,67⟩else⟨Dr (xi 710),qo 640 (fD false) 1,66⟩
def Qw (again:Bool):XS:=if again=true then⟨Dr (xi 710),ZK,140⟩else⟨Dr (xi 710),qo 640 (fD false) 1,140⟩
noncomputable def sa:Code:=(ef (Tryz.f120.body.getD .skip))[1]?.getD .skip
def c7:U := .var 710
def q7:U := .op .add .i64 (.var 710) (.lit 1)
def Qv:List dq:=[⟨qg false,[],[⟨0,[],[650],[],[],[(mf c7,false)]⟩]⟩,⟨qg true,[],[⟨0,[],[],[],[(650,.lit 1,.one [eo c7])],[(mf c7,true)]⟩,⟨1,[],[650],[],[],[(mf c7,false)]⟩,⟨1,[],[],[],[(650,.op .cY .i64 (.len 650) (.lit 1),.app (.len 650) (.var 650 [.i .i64]) (.one [eo c7]))],[(mf c7,true)]⟩]⟩]
def u3:BE×Bool:=(.eq (.len 474) (.op .cY .i64 (.var 440) (.var 443)),true)
def Dp:J:=[(.lt (.var 710) (.lit 0),false),(.lt (.var 710) (.len 470),true),(.lt (.len 470) q7,false),(.lt q7 (.lit 0),false),(.lt (.lit 16) (.cm (.cl 470 0 (.var 710))),false),(.lt (.lit 6) (.len 650),false),u3]++(fU++(o6++di))
def IJ:J:=[(.lt (.var 710) (.lit 0),false),(.lt (.var 710) (.len 470),false)]++fU
noncomputable def ZM (again:Bool) (B:J):T (XE×XS):=(cz hD.c.ti (eT hD 12) ((hD.c.hV 120).elim [] (·.ms)) 2 [] 1000 sa B (qg again)).map (eu ((qg again).t.map (·.1)))
noncomputable def nF (again:Bool) (B:J):Bool:=dX 2 650 710 [] (0,[]) (if again=true then 1 else 0) Qv (Qw again) .normal B (ZM again B)
noncomputable def Qx (again:Bool) (B:J):Bool:=dX 2 650 710 [] (0,[]) 0 [] (Qw again) (.exit 2) B (ZM again B)
def LA:J:=(n4 c7,true)::Dp
def LB:J:=(qJ c7,true)::(n4 c7,false)::Dp
def LC:J:=(uW c7,true)::(qJ c7,false)::(n4 c7,false)::Dp
def Ly:J:=(uW c7,false)::(qJ c7,false)::(n4 c7,false)::Dp
theorem arN:(nF false LA&&(nF false LB&&(nF false LC&&(nF false Ly&&Qx false IJ))))=true:=by kernel_rfl
theorem arO:(nF true LA&&(nF true LB&&(nF true LC&&(nF true Ly&&Qx true IJ))))=true:=by kernel_rfl
theorem arM (a:Bool):nF a LA=true/\nF a LB=true/\nF a LC=true/\nF a Ly=true/\Qx a IJ=true:=by
 cases a
 ·have:=arN
  simpa only[Bool.and_eq_true]using this
 ·have:=arO
  simpa only[Bool.and_eq_true]using this
theorem Ds:dp Tryz.f120.ntmps sa=true:=by kernel_rfl
theorem arL:IK.au 650=true:=by kernel_rfl
def ZL:Bind:=⟨[(710,.lit 0)],[],[],[(650,.lit 0,.one [])]⟩
theorem arP:gp 2 650 ZL [] (qg false) IK=true:=by kernel_rfl
noncomputable def Dq (again:Bool):bo:=⟨(dF sa).getD 0,2,650,IK,gJ,[],.ret (.exit 2,Qw again)⟩
noncomputable def gW (ρ:aa) (x:Int):aa:={ ρ with i:=fun k=>if k=0 then x else ρ.i k }
noncomputable def mg (ρ:aa) (x:Int):Bool:=(mf (.var 0)).I (gW ρ x)
theorem aen (ρ:aa):(mf c7).I ρ=mg ρ (ρ.i 710):=rfl
theorem aem {ρ G:aa} (ah:aA 650 ρ G) (x:Int):mg ρ x=mg G x :=
 BE.aP (n:=650) (ρ:=gW ρ x) (G:=gW G x) ⟨fun k u=>by show(if k=0 then x else ρ.i k)=if k=0 then x else G.i k;rw[ah.i k u],ah.b,ah.s,ah.len,ah.ci,ah.cb,ah.cs,ah.ct⟩ _ (by kernel_rfl)
noncomputable def bS (ρ:aa) (m:Nat):List Nat:=(List.range m).filter fun j=>mg ρ (j:Int)
theorem Z2 (ρ:aa) (m:Nat):bS ρ (m+1)=bS ρ m++if mg ρ (m:Int)=true then [m]else []:=by
 unfold bS
 rw[List.range_succ,List.filter_append]
 congr 1
 by_cases h:mg ρ (m:Int)=true
 ·simp[h]
 ·simp[h]
theorem QM (ρ:aa) (m:Nat):(bS ρ m).length<=m:=by
 have:=List.length_filter_le (fun j=>mg ρ ((j:Nat):Int)) (List.range m)
 rwa[List.length_range]at this
structure JK (al:aa) (m:Nat) (i:Nat) (ρ:aa):Prop where
 z:i=0->bS al m=[]
 b:i≠0->i=1/\bS al m≠[]/\ρ.len 650=(bS al m).length/\∀(r v:Nat),(bS al m)[r]? = some v->ρ.ci 650 0 r=(v:Int)
structure RY (al ρ:aa) (i:Nat):Prop where
 ah:aA 650 al ρ
 l6:ρ.len 650<=6
 m:∃m:Nat,m<=al.len 470/\ρ.i 710=m/\JK al m i ρ
end Go.Proofs.YtpdfmnhgocpkcaaGreat
namespace Go.Proofs.YtpdfmnhgocpkcaaGreat
open Go Go.Proofs.Aw Go.Proofs.Xw
set_option maxRecDepth 100000
theorem adR {ρ:aa} {bx:Prop} {aU:J} (u:J.ok ρ aU) (A:J.ok ρ ((n4 c7,true)::aU)->bx) (E:J.ok ρ ((qJ c7,true)::(n4 c7,false)::aU)->bx) (h3:J.ok ρ ((uW c7,true)::(qJ c7,false)::(n4 c7,false)::aU)->bx) (h0:J.ok ρ ((uW c7,false)::(qJ c7,false)::(n4 c7,false)::aU)->bx):bx:=by
 rcases k_ (n4 c7) ρ with a | a
 ·exact A (J.aw a u)
 ·rcases k_ (qJ c7) ρ with b | b
  ·exact E (J.aw b (J.aw a u))
  ·rcases k_ (uW c7) ρ with c | c
   ·exact h3 (J.aw c (J.aw b (J.aw a u)))
   ·exact h0 (J.aw c (J.aw b (J.aw a u)))
theorem ar7 {al ρ ax:aa} {m i j:Nat} {bO:dq} (hm:m<6) (hR:JK al m i ρ) (h7:ρ.i 710=m) (H:(mf c7).I ρ=mg al m) (O:ρ.len 650<=6) (M:Qv[j]? = some bO) (ha:bO.dm=[]\/∃a∈bO.dm,a.fr=i/\gR a ρ ax):(j=0\/j=1)/\JK al (m+1) j ax/\ax.len 650<=6:=by
 have hs:=Z2 al m
 have hlen:=QM al (m+1)
 match j,M with
 | 0,M =>
  cases M
  simp only[List.cons_ne_nil,false_or,List.mem_cons,List.not_mem_nil,or_false]at ha
  obtain⟨a,rfl,d5,a2⟩:=ha
  have h0:0=i:=d5
  have co:(mf c7).I ρ=false:=a2.1 _ List.mem_cons_self
  have hz:=hR.z h0.symm
  have kz:=(a2.2.1.2 650 List.mem_cons_self).1
  refine⟨.inl rfl,⟨fun _ => ?_,fun h=>absurd rfl h⟩,by rw[kz];exact O⟩
  rw[hs,hz,if_neg (by rw[<-H,co];decide)];rfl
 | 1,M =>
  cases M
  simp only[List.cons_ne_nil,false_or,List.mem_cons,List.not_mem_nil,or_false]at ha
  obtain⟨a,hq,d5,a2⟩:=ha
  rcases hq with rfl | rfl | rfl
  ·have h0:0=i:=d5
   have co:(mf c7).I ρ=true:=a2.1 _ List.mem_cons_self
   have hz:=hR.z h0.symm
   have e:bS al (m+1)=[m]:=by rw[hs,hz,if_pos (by rw[<-H,co])];rfl
   obtain⟨l,ci,_,_⟩:=a2.2.2.2 _ List.mem_cons_self
   have l:ax.len 650=1:=l
   refine⟨.inr rfl,⟨fun h=>by omega,fun _=>⟨rfl,by rw[e];simp,by rw[e,l];rfl,fun r v R => ?_⟩⟩,by omega⟩
   rw[e]at R
   have hr:r=0:=by
    have:=(List.getElem?_eq_some_iff.1 R).1
    simpa using this
   subst hr
   have R:m=v:=by simpa using R
   have c0:ax.ci 650 0 0=ρ.i 710:=ci 0 0
   rw[c0,h7,R]
  ·have h0:1=i:=d5
   have co:(mf c7).I ρ=false:=a2.1 _ List.mem_cons_self
   obtain⟨_,b2,de,fq⟩:=hR.b (by omega)
   have e:bS al (m+1)=bS al m:=by rw[hs,if_neg (by rw[<-H,co];decide),List.append_nil]
   obtain⟨l,c,_,_⟩:=a2.2.1.2 650 List.mem_cons_self
   refine⟨.inr rfl,⟨fun h=>by omega,fun _=>⟨rfl,by rw[e];exact b2,by rw[e,l];exact de,fun r v R => ?_⟩⟩,by omega⟩
   rw[e]at R
   rw[c];exact fq r v R
  ·have h0:1=i:=d5
   have co:(mf c7).I ρ=true:=a2.1 _ List.mem_cons_self
   obtain⟨_,b2,de,fq⟩:=hR.b (by omega)
   have e:bS al (m+1)=bS al m++[m]:=by rw[hs,if_pos (by rw[<-H,co])]
   obtain⟨l,ci,_,_⟩:=a2.2.2.2 _ List.mem_cons_self
   have l:ax.len 650=(((ρ.len 650:Nat):Int)+1).toNat:=l
   have l:ax.len 650=ρ.len 650+1:=by omega
   rw[e,List.length_append,List.length_singleton]at hlen
   refine⟨.inr rfl,⟨fun h=>by omega,fun _=>⟨rfl,by rw[e];simp,by rw[e,List.length_append,List.length_singleton,l,de],fun r v R => ?_⟩⟩,by omega⟩
   rw[e]at R
   have c0:=ci 0 r
   by_cases hr:r<ρ.len 650
   ·have fe:(RL.app (.len 650) (.var 650 [.i .i64]) (.one [eo c7])).row ρ ((r:Nat):Int)=(RL.var 650 [.i .i64]).row ρ (r:Int):=by
     show(if(r:Int)<(ρ.len 650:Int)then _ else _)=_
     rw[if_pos (by omega)]
    rw[fe]at c0
    have c0:ax.ci 650 0 r=ρ.ci 650 0 r:=c0
    rw[List.getElem?_append_left (by omega)]at R
    rw[c0];exact fq r v R
   ·have fe:(RL.app (.len 650) (.var 650 [.i .i64]) (.one [eo c7])).row ρ ((r:Nat):Int)=[AV.sc (.int .i64 (ρ.i 710))]:=by
     show(if(r:Int)<(ρ.len 650:Int)then _ else _)=_
     rw[if_neg (by omega)];rfl
    rw[fe]at c0
    have c0:ax.ci 650 0 r=ρ.i 710:=c0
    rw[List.getElem?_append_right (by omega)]at R
    have mp:r-(bS al m).length=0:=by
     have:=(List.getElem?_eq_some_iff.1 R).1
     simpa using this
    rw[mp]at R
    have R:m=v:=by simpa using R
    rw[c0,h7,R]
 | j+2,M=>cases M
theorem arQ (hS:∀s∈hj,c9 Tryz.prog s) {ρ:aa} (O:J.ok ρ di) (hT:TI ρ) (dv:ρ.i 443=1) (again:Bool) (ha:again = !(bS ρ (ρ.len 470)).isEmpty):∃ar,aA 650 ρ ar/\(again=true->ar.len 650=(bS ρ (ρ.len 470)).length/\∀(r v:Nat),(bS ρ (ρ.len 470))[r]? = some v->ar.ci 650 0 r=(v:Int))/\b8 Tryz.prog ar Tryz.f120.ntmps sa (Dq again):=by
 have A:=hT.n1
 have h6:=hT.n6
 have H:∀G,cf Tryz.prog G hD.c:=fun G=>lb (List.forall_mem_nil _)
 refine rz (P:=Tryz.prog) (N:=Tryz.f120.ntmps) (body:=sa) (k0:=2) (n:=650) (S0:=IK) (ρ:=ρ) arL (fun i=>qg (if i=0 then false else true)) (Dq again) ⟨rfl,rfl,rfl⟩ (fun i G=>(i=0\/i=1)/\RY ρ G i) (fun ar=>again=true->ar.len 650=(bS ρ (ρ.len 470)).length/\∀(r v:Nat),(bS ρ (ρ.len 470))[r]? = some v->ar.ci 650 0 r=(v:Int)) (fun G=>ρ.len 470-(G.i 710).toNat) (fun i G hR => ?_) ⟨0,ZL.ap ρ,Bind.bC (by kernel_rfl) ρ,⟨.inl rfl,Bind.bC (by kernel_rfl) ρ,Nat.zero_le _,0,Nat.zero_le _,rfl,fun _=>rfl,fun h=>absurd rfl h⟩,fun ac _ bM=>lL bM arP ρ⟩
 obtain⟨hi,hR⟩:=hR
 have ah:=hR.ah
 obtain⟨m,hm,h7,li⟩:=hR.m
 have l4:G.len 470=ρ.len 470:=(ah.len 470 (by decide)).symm
 have aO:=ft (c:=hD) (H G) hS 12
 have kv:J.ok G fU:=y4 (by rw[<-ah.i 443 (by decide)];exact dv) (by omega) (by omega)
 have pp:=hT.bC (ah.le (by decide))
 obtain⟨r1,r2,r3,r0,rW⟩:=arM (if i=0 then false else true)
 by_cases aT:m<ρ.len 470
 ·right
  have hq:q7.I G=m+1:=by
   refine(show q7.I G=IntKind.i64.wrap (G.i 710+1)from rfl).trans ?_
   rw[h7];exact cp _ (by omega) (by omega)
  have hky:=(pp.ky m (by omega)).2
  have sH:(G.i 710).toNat=m:=by omega
  have dN:(u3.1).I G=true:=by
   show((G.len 474:Int)==G.i 440+G.i 443)=true
   rw[pp.rn];exact beq_self_eq_true _
  have dV:J.ok G (fU++(o6++di)):=dZ kv (dZ pp.tr (gz (n:=600) (ah.le (by decide)) (by kernel_rfl) O))
  have u:J.ok G Dp:=by
   refine fR (show(0:Int)<=G.i 710 by omega) (J.aw (decide_eq_true (by show G.i 710<(G.len 470:Int);omega)) (fF (show q7.I G<=(G.len 470:Int)by rw[hq];omega) (fR (by rw[hq];omega) (kj ?_ (kj (show(G.len 650:Int)<=6 by have:=hR.l6;omega) (J.aw dN dV))))))
   show((G.cs 470 0 (G.i 710).toNat).size:Int)<=16
   rw[sH];omega
  have co:(mf c7).I G=mg ρ (m:Int):=by rw[aen,h7,<-aem ah]
  have iH:(∃(j:Nat) (C:dq) (ax:aa),Qv[j]? = some C/\ei Tryz.prog Tryz.f120.ntmps sa 2 (qg (if i=0 then false else true)) C.S G ax/\J.ok ax C.b6/\ax.i 710=IntKind.i64.wrap (G.i 710+1)/\aA 650 G ax/\(eP 0 [] G->eP 0 [] ax)/\(C.dm=[]\/∃a∈C.dm,a.fr=(if(if i=0 then false else true)=true then 1 else 0)/\gR a G ax))->∃i' ax,ei Tryz.prog Tryz.f120.ntmps sa 2 (qg (if i=0 then false else true)) (qg (if i'=0 then false else true)) G ax/\((i'=0\/i'=1)/\RY ρ ax i')/\ρ.len 470-(ax.i 710).toNat<ρ.len 470-(G.i 710).toNat/\aA 650 G ax:=fun⟨j,C,ax,g1,g2,_,g4,g5,_,g7⟩=>by
   have e4:ax.i 710=m+1:=by rw[g4,h7];exact cp _ (by omega) (by omega)
   have qP:(if(if i=0 then false else true)=true then 1 else 0)=i:=by rcases hi with rfl | rfl<;>rfl
   rw[qP]at g7
   obtain⟨q1,q2,q3⟩:=ar7 (by omega) li h7 co hR.l6 g1 g7
   have pn:C.S=qg (if j=0 then false else true):=by
    rcases q1 with rfl | rfl<;>(cases g1;rfl)
   rw[pn]at g2
   exact⟨j,ax,g2,⟨q1,ah.trans g5,q3,m+1,by omega,by omega,q2⟩,by omega,g5⟩
  exact adR u (fun h=>iH (jZ mixed dj aO (a5.nil _ _ _ _) Ds h r1)) (fun h=>iH (jZ mixed dj aO (a5.nil _ _ _ _) Ds h r2)) (fun h=>iH (jZ mixed dj aO (a5.nil _ _ _ _) Ds h r3)) (fun h=>iH (jZ mixed dj aO (a5.nil _ _ _ _) Ds h r0))
 ·left
  obtain rfl:m=ρ.len 470:=by omega
  have u:J.ok G IJ:=fR (show(0:Int)<=G.i 710 by omega) (J.aw (decide_eq_false (by show ¬G.i 710<(G.len 470:Int);omega)) kv)
  have iw:again=(if i=0 then false else true):=by
   rcases hi with rfl | rfl
   ·rw[ha,li.z rfl];rfl
   ·obtain⟨_,b2,_⟩:=li.b (by decide)
    rw[ha]
    cases hq:bS ρ (ρ.len 470)with
    | nil=>exact absurd hq b2
    | cons _ _=>rfl
  refine⟨fun ch => ?_,?_⟩
  ·have:i≠0:=fun h=>by rw[iw,if_pos h]at ch;cases ch
   obtain⟨_,_,de,fq⟩:=li.b this
   exact⟨de,fq⟩
  ·rw[iw]
   rcases ij mixed dj aO (a5.nil _ _ _ _) Ds u rW with h | ⟨j,C,_,g1,_⟩
   ·exact h
   ·simp at g1
end Go.Proofs.YtpdfmnhgocpkcaaGreat
namespace Go.Proofs.YtpdfmnhgocpkcaaGreat
open Go Go.Proofs.Aw Go.Proofs.Xw
set_option maxRecDepth 100000
noncomputable def QP (again:Bool) (g:Nat):List bo:=if Nat.beq g 120=true then [o8,Dq again]else []
noncomputable def DE (again:Bool):cr:=⟨bg [] (QP again),hj,[10119]⟩
def DF:J:=u3::(fU++(o6++di))
def IW (again:Bool):aN:=[((0,0),some (vi 405 9++vi 640 9++[xi 1,aZ (0,1) 1 (.len 470),aZ (0,2) 25 (.len 470),(if again=true then .slv (1,0) 1 (.lit 0) (.len 650) true else fD false),xn (if again=true then 2 else 1),xn 0])),((0,1),some kR),((0,2),some [.rows 25 (.len 470) c_]),((0,3),if again=true then none else some oR)]++(if again=true then [((1,0),some [.rows 1 (.len 650) (.var 650 [.i .i64])])]else [])
def pG (d:aN):T (X×aN)->Bool
 | .ret (r,e)=>X.beq r (.tup [])&&sx e d
 | _=>false
where sx:aN->aN->Bool
 | [],[]=>true
 | (m,some a)::r,(k,some b)::s=>cC m k&&(X.fc a b&&sx r s)
 | (m,none)::r,(k,none)::s=>cC m k&&sx r s
 | _,_=>false
theorem EB:∀{a b:aN},pG.sx a b=true->a=b
 | [],[],_=>rfl
 | (m,some a)::r,(k,some b)::s,h=>by
  simp only[pG.sx,Bool.and_eq_true]at h
  rw[eB h.1,X.gv _ _ h.2.1,EB h.2.2]
 | (m,none)::r,(k,none)::s,h=>by
  simp only[pG.sx,Bool.and_eq_true]at h
  rw[eB h.1,EB h.2]
 | [],_::_,h=>by simp[pG.sx]at h
 | (_,some _)::_,[],h=>by cases h
 | (_,none)::_,[],h=>by cases h
 | (_,none)::_,(_,some _)::_,h=>by cases h
 | (_,some _)::_,(_,none)::_,h=>by cases h
theorem ahc {d:aN} {t:T (X×aN)} (h:pG d t=true):t = .ret (.tup [],d):=by
 cases t with
 | ret p =>
  obtain⟨r,e⟩:=p
  simp only[pG,Bool.and_eq_true]at h
  rw[X.beq_eq _ _ h.1,EB h.2]
 | br _ _ _=>cases h
 | cT _ _=>cases h
 | fail _=>cases h
theorem asQ:pG (IW false) (fH (DE false) 120 [.ptr (0,0) [] 0] (qo 405 (fD false) 1) DF)=true:=by kernel_rfl
theorem asR:pG (IW true) (fH (DE true) 120 [.ptr (0,0) [] 0] (qo 405 (fD false) 1) DF)=true:=by kernel_rfl
theorem asP (again:Bool):pG (IW again) (fH (DE again) 120 [.ptr (0,0) [] 0] (qo 405 (fD false) 1) DF)=true:=by
 cases again
 ·exact asQ
 ·exact asR
theorem asO (again:Bool) {ρ:aa} (A:b8 Tryz.prog ρ Tryz.f120.ntmps o7 o8) (E:b8 Tryz.prog ρ Tryz.f120.ntmps sa (Dq again)):∀g i,eS g gA=some i->a5 Tryz.prog ρ i.ntmps (QP again g) i.body:=fun g i hi=>by
 unfold QP
 split
 ·rename_i hf
  have hf:=Nat.eq_of_beq_eq_true hf
  subst hf
  have g0:j6 Tryz.prog 120 i:=oc (120,i) (k8 _ _ (k7 hi))
  refine pN g0 Tryz.func120 ?_
  exact lE (c:=Tryz.f120.body.getD .skip) [0,1] (by cases again<;>kernel_rfl) (List.forall_mem_cons.2 ⟨lD (L:=o8) (c:=o7) (by cases again<;>kernel_rfl) A,List.forall_mem_cons.2 ⟨lD (L:=Dq again) (c:=sa) (by cases again<;>kernel_rfl) E,List.forall_mem_nil _⟩⟩)
 ·exact a5.nil _ _ _ _
theorem K4 {ρ:aa} {ag:Bool} (hT:TI ρ) (hb:(bV 47).I ρ=ag) (hu:ag=true->(BE.eq (.uf 2 0 dw) (.lit 1)).I ρ=true) (j:Nat) (M:j<ρ.len 470) (hq:(bK ρ ag).cb 625 1 j=true):UF 2 (lj (bK ρ ag) (j:Int)) 0=1:=by
 by_cases h0:(j:Int)=hv.I ρ
 ·have e:(cc ag).row ρ j=cd ρ (mV ag):=by
   show(if(j:Int)=hv.I ρ then cd ρ (mV ag)else(RL.var 472 gl).row ρ j)=_
   rw[if_pos h0]
  have hq:dS ((cc ag).row ρ (j:Int))[1]? = true:=hq
  have ee:lj (bK ρ ag) (j:Int)=(let l:=(cc ag).row ρ (j:Int);[.int .i64 (aH l[2]?),.int .i64 (aH l[3]?),.int .i64 (aH l[4]?),.int .i64 (aH l[5]?),.int .i64 (aH l[6]?),.int .i64 (aH l[7]?),.string (cellS l[8]?),.string (cellS l[9]?),.bool (dS l[10]?),.int .i64 (aH l[11]?),.int .i64 (aH l[12]?),.int .i64 (aH l[13]?),.int .i64 (aH l[14]?),.int .i64 (aH l[15]?),.int .i64 (aH l[16]?),.int .i64 (aH l[17]?),.int .i64 (aH l[18]?),.int .i64 (aH l[19]?),.int .i64 (aH l[20]?),.int .i64 (aH l[21]?)]):=rfl
  rw[ee,e]
  rw[e]at hq
  cases ag with
  | false =>
   have hq:(bV 47).I ρ=true:=hq
   rw[hb]at hq;cases hq
  | true =>
   have A:UF 2 (dw.I ρ) 0=1:=eq1' (hu rfl)
   exact A
 ·have e:(cc ag).row ρ j=(RL.var 472 gl).row ρ j:=by
   show(if(j:Int)=hv.I ρ then cd ρ (mV ag)else(RL.var 472 gl).row ρ j)=_
   rw[if_neg h0]
  have hq:dS ((cc ag).row ρ (j:Int))[1]? = true:=hq
  have ee:lj (bK ρ ag) (j:Int)=(let l:=(cc ag).row ρ (j:Int);[.int .i64 (aH l[2]?),.int .i64 (aH l[3]?),.int .i64 (aH l[4]?),.int .i64 (aH l[5]?),.int .i64 (aH l[6]?),.int .i64 (aH l[7]?),.string (cellS l[8]?),.string (cellS l[9]?),.bool (dS l[10]?),.int .i64 (aH l[11]?),.int .i64 (aH l[12]?),.int .i64 (aH l[13]?),.int .i64 (aH l[14]?),.int .i64 (aH l[15]?),.int .i64 (aH l[16]?),.int .i64 (aH l[17]?),.int .i64 (aH l[18]?),.int .i64 (aH l[19]?),.int .i64 (aH l[20]?),.int .i64 (aH l[21]?)]):=rfl
  rw[ee,e]
  rw[e]at hq
  exact hT.z4 j M hq
where eq1' {ρ:aa} {a:AL} (h:(BE.eq (.uf 2 0 a) (.lit 1)).I ρ=true):UF 2 (a.I ρ) 0=1:=by simpa [BE.I,U.I]using h
end Go.Proofs.YtpdfmnhgocpkcaaGreat
namespace Go.Proofs.YtpdfmnhgocpkcaaGreat
open Go Go.Proofs.Aw Go.Proofs.Xw
set_option maxRecDepth 100000
theorem UB {ρ G:aa} {f:Nat} {args args':List X} {h h':av} {r r':X} {d gx:aN} (Z:cy Tryz.prog ρ ⟨f,args,h,r,d⟩) (ha:X.af ρ args=X.af G args') (W:aK ρ h=aK G h') (hr:r.I ρ=r'.I G) (hd:bn ρ d=bn G gx):cy Tryz.prog G ⟨f,args',h',r',gx⟩:=by
 refine⟨Z.1,?_⟩
 have q:=Z.2
 simp only at q ⊢
 rw[ha,W,hr,hd]at q
 exact q
structure uE (ρ G:aa) (cut:Nat->Int) (td:List Nat):Prop where
 ah:aA 600 ρ G
 dT:∀k,k<9->G.i (600+k)=cut k
 pK:G.len 610=td.length
 ce:∀(r v:Nat),td[r]? = some v->G.ci 610 0 r=(v:Int)
theorem asJ:(XS.mk sf.t sf.h sf.nx).au 650=true:=by kernel_rfl
theorem asI {ρ G:aa} (ah:aA 650 ρ G) (h:b8 Tryz.prog ρ Tryz.f120.ntmps o7 o8):b8 Tryz.prog G Tryz.f120.ntmps o7 o8:=by
 intro ac hE bM
 have:=h ac hE bM
 have e0:o8.S.I (o8.init.ap ρ)=o8.S.I (o8.init.ap G):=XS.aP (n:=630) (ah.le (by decide)) DG Z_
 rw[e0]at this
 refine dB (fun e V hq => ?_) this
 obtain⟨e',s,q1,q2,q3⟩:=hq
 have q1:some (XE.exit 0,sf)=some (e',s):=q1
 cases q1
 exact⟨.exit 0,sf,rfl,q2,by rw[<-XS.aP ah sf asJ];exact q3⟩
theorem R7 {ρ G:aa} (ag:Bool) (qr:aA 630 (bK ρ ag) G):aB G [.rows 25 (.len 470) c_]=aB ρ [.rows 25 (.len 470) (cc ag)]:=by
 have e1:aB (bK ρ ag) [.rows 25 (.len 470) c_]=aB G [.rows 25 (.len 470) c_]:=by
  have:=sD qr [((0,0),[.rows 25 (.len 470) c_])] (by kernel_rfl)
  exact(Prod.mk.inj (List.cons.inj this).1).2
 have e2:aB ρ [.rows 25 (.len 470) (cc ag)]=aB (bK ρ ag) [.rows 25 (.len 470) (cc ag)]:=by
  have:=sD (y5 ρ ag) [((0,0),[.rows 25 (.len 470) (cc ag)])] (by cases ag<;>kernel_rfl)
  exact(Prod.mk.inj (List.cons.inj this).1).2
 rw[<-e1,JO,<-e2]
theorem R9 {ρ G:aa} (ag:Bool) (ah:aA 600 ρ G):aB ρ [.rows 25 (.len 470) (cc ag)]=aB G [.rows 25 (.len 470) (cc ag)]:=by
 have:=sD ah [((0,0),[.rows 25 (.len 470) (cc ag)])] (by cases ag<;>kernel_rfl)
 exact(Prod.mk.inj (List.cons.inj this).1).2
theorem asK (hS:∀s∈hj,c9 Tryz.prog s) {ρ:aa} (ag:Bool) (O:J.ok ρ di) (hT:TI ρ) (dv:ρ.i 443=1) (hb:(bV 47).I ρ=ag) (hu:ag=true->(BE.eq (.uf 2 0 dw) (.lit 1)).I ρ=true) :
  ∃b7,aA 630 (bK ρ ag) b7/\(∀k,k<9->b7.i (640+k)=iv (bK ρ ag) k (ρ.len 470))/\∀G,uE ρ G (fun k=>iv (bK ρ ag) k (ρ.len 470)) (bS b7 (ρ.len 470))->cy Tryz.prog G (iX ag (!(bS b7 (ρ.len 470)).isEmpty)):=by
 have qr:=y5 ρ ag
 have L7:=hT.bC (qr.le (by decide))
 have n1:=L7.n1
 have n6:=L7.n6
 obtain⟨b7,j9,i4,pm⟩:=asN hS (ρ:=bK ρ ag) dv n1 n6 (fun j M hq=>K4 hT hb hu j M hq)
 have Gt:(bK ρ ag).len 470=ρ.len 470:=rfl
 rw[Gt]at i4
 have la:b7.len 470=ρ.len 470:=(j9.len 470 (by decide)).symm
 refine⟨b7,j9,i4,fun G iD => ?_⟩
 have UP:=L7.bC (j9.le (by decide))
 have FV:J.ok b7 di:=gz (n:=600) ((qr.le (by decide)).trans (j9.le (by decide))) (by kernel_rfl) O
 have US:b7.i 443=1:=by rw[<-j9.i 443 (by decide)];exact dv
 generalize ch:(!(bS b7 (ρ.len 470)).isEmpty)=again
 obtain⟨bv,t5,ii,L4⟩:=arQ hS FV UP US again (by rw[la];exact ch.symm)
 rw[la]at ii
 have pm:=asI t5 pm
 have H:cf Tryz.prog bv (DE again).c:=jz (List.forall_mem_nil _) (asO again pm L4)
 have FC:=UP.bC (t5.le (by decide))
 have u:J.ok bv DF:=J.aw (by show((bv.len 474:Int)==bv.i 440+bv.i 443)=true;rw[FC.rn];exact beq_self_eq_true _) (dZ (y4 (by rw[<-t5.i 443 (by decide)];exact US) FC.n1 FC.n6) (dZ FC.tr (gz (n:=600) (t5.le (by decide)) (by kernel_rfl) FV)))
 have g:=uL H hS u (show(fH (DE again) 120 [.ptr (0,0) [] 0] (qo 405 (fD false) 1) DF).aq bv=some (.tup [],IW again)by rw[ahc (asP again)];rfl)
 have nT:aA 600 ρ bv:=(qr.le (by decide)).trans ((j9.le (by decide)).trans (t5.le (by decide)))
 have iN:aA 600 bv G:=nT.symm.trans iD.ah
 have Ek:aA 630 (bK ρ ag) bv:=j9.trans (t5.le (by decide))
 have xH:aB bv [.rows 25 (.len 470) c_]=aB G [.rows 25 (.len 470) (cc ag)]:=(R7 ag Ek).trans (R9 ag iD.ah)
 have bel1:∀(x:X),x.au 600=true->x.I bv=x.I G:=fun x hx=>X.aP iN x hx
 have n8:X.af bv (vi 640 9)=X.af G (vi 600 9):=by
  show [_,_,_,_,_,_,_,_,_]=[_,_,_,_,_,_,_,_,_]
  have q:∀k,k<9->bv.i (640+k)=G.i (600+k):=fun k u=>by rw[<-t5.i (640+k) (by omega),i4 k u,iD.dT k u]
  have w:∀k,k<9->(xi (640+k)).I bv=(xi (600+k)).I G:=fun k u=>by
   show AV.sc (.int .i64 (bv.i (640+k)))=AV.sc (.int .i64 (G.i (600+k)))
   rw[q k u]
  exact congr (congr rfl (w 0 (by omega))) (congr (congr rfl (w 1 (by omega))) (congr (congr rfl (w 2 (by omega))) (congr (congr rfl (w 3 (by omega))) (congr (congr rfl (w 4 (by omega))) (congr (congr rfl (w 5 (by omega))) (congr (congr rfl (w 6 (by omega))) (congr (congr rfl (w 7 (by omega))) (congr (congr rfl (w 8 (by omega))) rfl))))))))
 have ww:∀cs:List X,(XS.mk [] [((0,0),cs)] 0).au 600=true->aB bv cs=aB G cs:=fun cs aI=>by
  have:=sD iN [((0,0),cs)] aI
  exact(Prod.mk.inj (List.cons.inj this).1).2
 have H1:∀rd:Int,(X.af bv [xi 1,aZ (0,1) 1 (.len 470),aZ (0,2) 25 (.len 470)]=X.af G [xi 1,aZ (0,1) 1 (.len 470),aZ (0,2) 25 (.len 470)])/\X.af bv [xn rd,xn 0]=X.af G [xn rd,xn 0]:=fun rd=>⟨X.fI iN _ (by kernel_rfl),rfl⟩
 have act:X.af bv (vi 405 9)=X.af G (vi 405 9):=X.fI iN _ (by kernel_rfl)
 have yQ:=ww kR (by kernel_rfl)
 have CG:=ww oR (by kernel_rfl)
 have oF:=ww (vi 405 9++vi 405 9++[xi 1,aZ (0,1) 1 (.len 470),aZ (0,2) 25 (.len 470),fD false,xn 1,xn 0]) (by kernel_rfl)
 have cell:∀(td qh:X) (rd:Int),td.I bv=qh.I G->aB bv (vi 405 9++vi 640 9++[xi 1,aZ (0,1) 1 (.len 470),aZ (0,2) 25 (.len 470),td,xn rd,xn 0])=aB G (vi 405 9++vi 600 9++[xi 1,aZ (0,1) 1 (.len 470),aZ (0,2) 25 (.len 470),qh,xn rd,xn 0]):=fun td qh rd MN=>by
  rw[cR rfl,cR rfl,X.gf (l:=vi 405 9++vi 640 9),X.gf (l:=vi 405 9++vi 600 9),X.gf (l:=vi 405 9),X.gf (l:=vi 405 9),n8,act]
  congr 1
  obtain⟨q1,q2⟩:=H1 rd
  show X.af bv [xi 1,aZ (0,1) 1 (.len 470),aZ (0,2) 25 (.len 470)]++(td.I bv::X.af bv [xn rd,xn 0])=X.af G [xi 1,aZ (0,1) 1 (.len 470),aZ (0,2) 25 (.len 470)]++(qh.I G::X.af G [xn rd,xn 0])
  rw[q1,q2,MN]
 refine UB g rfl ?_ rfl ?_
 ·show [((0,0),aB bv _),((0,1),aB bv kR),((0,2),aB bv [.rows 25 (.len 470) c_]),((0,3),aB bv oR)]=[((0,0),aB G _),((0,1),aB G kR),((0,2),aB G [.rows 25 (.len 470) (cc ag)]),((0,3),aB G oR)]
  rw[oF,yQ,xH,CG]
  rfl
 ·cases again with
  | false =>
   have e:=cell (fD false) (fD false) 1 (bel1 _ (by kernel_rfl))
   have this:([((0,0),some (aB bv (vi 405 9++vi 640 9++[xi 1,aZ (0,1) 1 (.len 470),aZ (0,2) 25 (.len 470),fD false,xn 1,xn 0]))),((0,1),some (aB bv kR)),((0,2),some (aB bv [.rows 25 (.len 470) c_])),((0,3),some (aB bv oR))]:Dl)=[((0,0),some (aB G (vi 405 9++vi 600 9++[xi 1,aZ (0,1) 1 (.len 470),aZ (0,2) 25 (.len 470),fD false,xn 1,xn 0]))),((0,1),some (aB G kR)),((0,2),some (aB G [.rows 25 (.len 470) (cc ag)])),((0,3),some (aB G oR))]:=by
    rw[e,yQ,xH,CG]
   exact this
  | true =>
   obtain⟨q1,q2⟩:=ii rfl
   have hlen:bv.len 650=G.len 610:=by rw[q1,iD.pK]
   have e:=cell (.slv (1,0) 1 (.lit 0) (.len 650) true) (.slv (1,0) 1 (.lit 0) (.len 610) true) 2 (by
    simp only[X.I,U.I,hlen])
   have fe:aB bv [.rows 1 (.len 650) (.var 650 [.i .i64])]=aB G [.rows 1 (.len 610) (.var 610 [.i .i64])]:=by
    show(aX bv (.len 650) (.var 650 [.i .i64])).flatten=(aX G (.len 610) (.var 610 [.i .i64])).flatten
    congr 1
    unfold aX
    have A:((U.len 650).I bv).toNat=(bS b7 (ρ.len 470)).length:=by show((bv.len 650:Nat):Int).toNat=_;rw[q1];exact Int.toNat_natCast _
    have E:((U.len 610).I G).toNat=(bS b7 (ρ.len 470)).length:=by show((G.len 610:Nat):Int).toNat=_;rw[iD.pK];exact Int.toNat_natCast _
    rw[A,E]
    refine List.map_congr_left fun j M => ?_
    have M:=List.mem_range.1 M
    obtain⟨v,R⟩:∃v,(bS b7 (ρ.len 470))[j]? = some v:=⟨_,List.getElem?_eq_getElem M⟩
    show [AV.sc (.int .i64 (bv.ci 650 0 ((j:Int)).toNat))]=[AV.sc (.int .i64 (G.ci 610 0 ((j:Int)).toNat))]
    rw[Int.toNat_natCast,q2 j v R,iD.ce j v R]
   have this:([((0,0),some (aB bv (vi 405 9++vi 640 9++[xi 1,aZ (0,1) 1 (.len 470),aZ (0,2) 25 (.len 470),.slv (1,0) 1 (.lit 0) (.len 650) true,xn 2,xn 0]))),((0,1),some (aB bv kR)),((0,2),some (aB bv [.rows 25 (.len 470) c_])),((0,3),none),((1,0),some (aB bv [.rows 1 (.len 650) (.var 650 [.i .i64])]))]:Dl)=[((0,0),some (aB G (vi 405 9++vi 600 9++[xi 1,aZ (0,1) 1 (.len 470),aZ (0,2) 25 (.len 470),.slv (1,0) 1 (.lit 0) (.len 610) true,xn 2,xn 0]))),((0,1),some (aB G kR)),((0,2),some (aB G [.rows 25 (.len 470) (cc ag)])),((0,3),none),((1,0),some (aB G [.rows 1 (.len 610) (.var 610 [.i .i64])]))]:=by
    rw[e,yQ,xH,fe]
   exact this
end Go.Proofs.YtpdfmnhgocpkcaaGreat
namespace Go.Proofs.YtpdfmnhgocpkcaaGreat
open Go Go.Proofs.Aw Go.Proofs.Xw
set_option maxRecDepth 100000
def fN:List Kd:=List.replicate 6 (.i .i64)++[.s,.s,.b]++List.replicate 11 (.i .i64)
def qk:List X:=[xi 1,aZ (0,1) 1 (.len 470),aZ (0,2) 25 (.len 470),fD false,xn 1]++vi 405 9++[xl false,xn 0]
def DD (L:RL):av:=[((0,0),qk),((0,1),kR),((0,2),[.rows 25 (.len 470) L]),((0,3),oR)]
def asg:bf:=([1,3,4,5,11,12,13,14,15,16,17,24,25,26]++(List.range 54).map (29 + ·)).map fun k=>(k,.top)
def zz (i f:X):bf:=(7,i)::(6,f)::(0,.ptr (0,0) [] 0)::asg
def ug:X := .slv (73,0) 20 (.lit 0) (.len 651) true
def ql:av:=DD c_++[((73,0),[.rows 20 (.len 651) (.var 651 fN)])]
def uh (ag:Bool):XS:=⟨zz (xn 0) pT,DD (cc ag),73⟩
def QI:XS:=⟨zz (xn 0) pT,DD c_,73⟩
def qm (some_:Bool):XS:=if some_=true then⟨zz (xi 700) ug,ql,74⟩else⟨zz (xi 700) pT,DD c_,73⟩
def sd (some_:Bool):XS:=if some_=true then⟨zz .top ug,ql,120⟩else⟨zz .top pT,DD c_,120⟩
noncomputable def o1:Code:=(ef (Tryz.f115.body.getD .skip))[0]?.getD .skip
def u1 (i:U):List Sc:=(List.range 6).map (fun k=>eo (.cl 625 (2+k) i))++[.s (.cl 625 8 i),.s (.cl 625 9 i),.b (.cl 625 10 i)]++(List.range 11).map fun k=>eo (.cl 625 (11+k) i)
def QG:List dq:=[⟨qm false,[],[⟨0,[],[651],[],[],[(fj,false)]⟩]⟩,⟨qm true,[],[⟨0,[],[],[],[(651,.lit 1,.one (u1 (.var 700)))],[(fj,true)]⟩,⟨1,[],[651],[],[],[(fj,false)]⟩,⟨1,[],[],[],[(651,.op .cY .i64 (.len 651) (.lit 1),.app (.len 651) (.var 651 fN) (.one (u1 (.var 700))))],[(fj,true)]⟩]⟩]
def wR:J:=(.lt (.lit 6) (.len 651),false)::IV
def IN:J:=[(.lt (.var 700) (.lit 0),false),(.lt (.var 700) (.len 470),false)]++fU
noncomputable def ZY (s:Bool) (B:J):T (XE×XS):=(cz hD.c.ti (eT hD 12) ((hD.c.hV 115).elim [] (·.ms)) 2 [] 1000 o1 B (qm s)).map (eu ((qm s).t.map (·.1)))
noncomputable def zy (s:Bool) (B:J):Bool:=dX 2 630 700 [] (0,[]) (if s=true then 1 else 0) QG (sd s) .normal B (ZY s B)
noncomputable def QJ (s:Bool) (x:Nat) (B:J):Bool:=dX 2 630 700 [] (0,[]) 0 [] (sd s) (.exit x) B (ZY s B)
end Go.Proofs.YtpdfmnhgocpkcaaGreat
namespace Go.Proofs.YtpdfmnhgocpkcaaGreat
open Go Go.Proofs.Aw Go.Proofs.Xw
set_option maxRecDepth 100000
theorem asm:(zy false ((fj,true)::wR)&&(zy false ((fj,false)::wR)&&QJ false 0 IN))=true:=by kernel_rfl
theorem asn:(zy true ((fj,true)::wR)&&(zy true ((fj,false)::wR)&&QJ true 0 IN))=true:=by kernel_rfl
theorem asl (s:Bool):zy s ((fj,true)::wR)=true/\zy s ((fj,false)::wR)=true/\QJ s 0 IN=true:=by
 cases s
 ·have:=asm
  simpa only[Bool.and_eq_true]using this
 ·have:=asn
  simpa only[Bool.and_eq_true]using this
theorem QK:dp Tryz.f115.ntmps o1=true:=by kernel_rfl
theorem ZZ:([true,false].all fun ag=>(uh ag).au 630)=true:=by kernel_rfl
def ZX:Bind:=⟨[(700,.lit 0)],[],[],[(651,.lit 0,.one [])]⟩
theorem aso:gp 2 630 ZX [] (qm false) QI=true:=by kernel_rfl
noncomputable def o3 (ag s:Bool):bo:=⟨(dF o1).getD 0,2,630,uh ag,gJ,[],.ret (.exit 0,sd s)⟩
noncomputable def dn (ρ:aa) (x:Int):List AV:=cd { ρ with i:=fun _=>x } (u1 (.var 0))
theorem TM {ρ G:aa} (ah:aA 630 ρ G) (x:Int):dn ρ x=dn G x:=by
 unfold dn cd u1
 simp only[List.map_append,List.map_cons,List.map_nil,List.map_map,Function.comp_def,Sc.I,eo,U.I,BE.I,TE.I,ah.ci 625 (by decide),ah.cb 625 (by decide),ah.cs 625 (by decide)]
theorem Yt {G:aa} {j:Nat} {l:List AV} (hi:∀k,G.ci 651 k j=aH l[k]?) (hb:∀k,G.cb 651 k j=dS l[k]?) (hs:∀k,G.cs 651 k j=cellS l[k]?) :
  (RL.var 651 fN).row G (j:Int)=[.sc (.int .i64 (aH l[0]?)),.sc (.int .i64 (aH l[1]?)),.sc (.int .i64 (aH l[2]?)),.sc (.int .i64 (aH l[3]?)),.sc (.int .i64 (aH l[4]?)),.sc (.int .i64 (aH l[5]?)),.sc (.string (cellS l[6]?)),.sc (.string (cellS l[7]?)),.sc (.bool (dS l[8]?)),.sc (.int .i64 (aH l[9]?)),.sc (.int .i64 (aH l[10]?)),.sc (.int .i64 (aH l[11]?)),.sc (.int .i64 (aH l[12]?)),.sc (.int .i64 (aH l[13]?)),.sc (.int .i64 (aH l[14]?)),.sc (.int .i64 (aH l[15]?)),.sc (.int .i64 (aH l[16]?)),.sc (.int .i64 (aH l[17]?)),.sc (.int .i64 (aH l[18]?)),.sc (.int .i64 (aH l[19]?))]:=by
 simp only[<-hi,<-hb,<-hs]
 rfl
theorem Yu {ρ G:aa} {x:Int} {j:Nat} (hi:∀k,G.ci 651 k j=aH (dn ρ x)[k]?) (hb:∀k,G.cb 651 k j=dS (dn ρ x)[k]?) (hs:∀k,G.cs 651 k j=cellS (dn ρ x)[k]?):(RL.var 651 fN).row G (j:Int)=dn ρ x:=by
 rw[Yt hi hb hs];rfl
theorem aqu {ρ G:aa} {j:Nat} (hi:∀k,G.ci 651 k j=aH ((RL.var 651 fN).row ρ (j:Int))[k]?) (hb:∀k,G.cb 651 k j=dS ((RL.var 651 fN).row ρ (j:Int))[k]?) (hs:∀k,G.cs 651 k j=cellS ((RL.var 651 fN).row ρ (j:Int))[k]?):(RL.var 651 fN).row G (j:Int)=(RL.var 651 fN).row ρ (j:Int):=by
 rw[Yt hi hb hs];rfl
noncomputable def eb (ρ:aa) (m:Nat):List Nat:=(List.range m).filter fun j=>ρ.cb 625 1 j
theorem T4 (ρ:aa) (m:Nat):eb ρ (m+1)=eb ρ m++if ρ.cb 625 1 m=true then [m]else []:=by
 unfold eb
 rw[List.range_succ,List.filter_append]
 congr 1
 by_cases h:ρ.cb 625 1 m=true
 ·simp[h]
 ·simp[h]
theorem T3 (ρ:aa) (m:Nat):(eb ρ m).length<=m:=by
 have:=List.length_filter_le (fun j=>ρ.cb 625 1 j) (List.range m)
 rwa[List.length_range]at this
structure Jz (al:aa) (m:Nat) (i:Nat) (ρ:aa):Prop where
 z:i=0->eb al m=[]
 b:i≠0->i=1/\eb al m≠[]/\ρ.len 651=(eb al m).length/\∀(r v:Nat),(eb al m)[r]? = some v->(RL.var 651 fN).row ρ (r:Int)=dn al (v:Int)
structure R1 (al ρ:aa) (i:Nat):Prop where
 ah:aA 630 al ρ
 l6:ρ.len 651<=6
 m:∃m:Nat,m<=al.len 470/\ρ.i 700=m/\Jz al m i ρ
theorem afc {al ρ ax:aa} {m i j:Nat} {bO:dq} (hm:m<6) (ah:aA 630 al ρ) (hR:Jz al m i ρ) (h7:ρ.i 700=m) (H:fj.I ρ=al.cb 625 1 m) (O:ρ.len 651<=6) (M:QG[j]? = some bO) (ha:bO.dm=[]\/∃a∈bO.dm,a.fr=i/\gR a ρ ax):(j=0\/j=1)/\Jz al (m+1) j ax/\ax.len 651<=6:=by
 have hs:=T4 al m
 have hlen:=T3 al (m+1)
 match j,M with
 | 0,M =>
  cases M
  simp only[List.cons_ne_nil,false_or,List.mem_cons,List.not_mem_nil,or_false]at ha
  obtain⟨a,rfl,d5,a2⟩:=ha
  have h0:0=i:=d5
  have co:fj.I ρ=false:=a2.1 _ List.mem_cons_self
  have hz:=hR.z h0.symm
  have kz:=(a2.2.1.2 651 List.mem_cons_self).1
  refine⟨.inl rfl,⟨fun _ => ?_,fun h=>absurd rfl h⟩,by rw[kz];exact O⟩
  rw[hs,hz,if_neg (by rw[<-H,co];decide)];rfl
 | 1,M =>
  cases M
  simp only[List.cons_ne_nil,false_or,List.mem_cons,List.not_mem_nil,or_false]at ha
  obtain⟨a,hq,d5,a2⟩:=ha
  rcases hq with rfl | rfl | rfl
  ·have h0:0=i:=d5
   have co:fj.I ρ=true:=a2.1 _ List.mem_cons_self
   have hz:=hR.z h0.symm
   have e:eb al (m+1)=[m]:=by rw[hs,hz,if_pos (by rw[<-H,co])];rfl
   obtain⟨l,ci,cb,cs⟩:=a2.2.2.2 _ List.mem_cons_self
   have l:ax.len 651=1:=l
   refine⟨.inr rfl,⟨fun h=>by omega,fun _=>⟨rfl,by rw[e];simp,by rw[e,l];rfl,fun r v R => ?_⟩⟩,by omega⟩
   rw[e]at R
   have hr:r=0:=by
    have:=(List.getElem?_eq_some_iff.1 R).1
    simpa using this
   subst hr
   have R:m=v:=by simpa using R
   have fe:(RL.one (u1 (.var 700))).row ρ ((0:Nat):Int)=dn ρ (ρ.i 700):=rfl
   rw[TM ah,<-R,<-h7]
   exact Yu (fun k=>by rw[ci k 0,fe]) (fun k=>by rw[cb k 0,fe]) (fun k=>by rw[cs k 0,fe])
  ·have h0:1=i:=d5
   have co:fj.I ρ=false:=a2.1 _ List.mem_cons_self
   obtain⟨_,b2,de,fq⟩:=hR.b (by omega)
   have e:eb al (m+1)=eb al m:=by rw[hs,if_neg (by rw[<-H,co];decide),List.append_nil]
   obtain⟨l,c1,c2,c3⟩:=a2.2.1.2 651 List.mem_cons_self
   refine⟨.inr rfl,⟨fun h=>by omega,fun _=>⟨rfl,by rw[e];exact b2,by rw[e,l];exact de,fun r v R => ?_⟩⟩,by omega⟩
   rw[e]at R
   rw[<-fq r v R]
   show [_,_,_,_,_,_,_,_,_,_,_,_,_,_,_,_,_,_,_,_]=[_,_,_,_,_,_,_,_,_,_,_,_,_,_,_,_,_,_,_,_]
   rw[c1,c2,c3]
  ·have h0:1=i:=d5
   have co:fj.I ρ=true:=a2.1 _ List.mem_cons_self
   obtain⟨_,b2,de,fq⟩:=hR.b (by omega)
   have e:eb al (m+1)=eb al m++[m]:=by rw[hs,if_pos (by rw[<-H,co])]
   obtain⟨l,ci,cb,cs⟩:=a2.2.2.2 _ List.mem_cons_self
   have l:ax.len 651=(((ρ.len 651:Nat):Int)+1).toNat:=l
   have l:ax.len 651=ρ.len 651+1:=by omega
   rw[e,List.length_append,List.length_singleton]at hlen
   refine⟨.inr rfl,⟨fun h=>by omega,fun _=>⟨rfl,by rw[e];simp,by rw[e,List.length_append,List.length_singleton,l,de],fun r v R => ?_⟩⟩,by omega⟩
   rw[e]at R
   by_cases hr:r<ρ.len 651
   ·have fe:(RL.app (.len 651) (.var 651 fN) (.one (u1 (.var 700)))).row ρ ((r:Nat):Int)=(RL.var 651 fN).row ρ (r:Int):=by
     show(if(r:Int)<(ρ.len 651:Int)then _ else _)=_
     rw[if_pos (by omega)]
    rw[List.getElem?_append_left (by omega)]at R
    rw[<-fq r v R]
    exact aqu (fun k=>by rw[ci k r,fe]) (fun k=>by rw[cb k r,fe]) (fun k=>by rw[cs k r,fe])
   ·have fe:(RL.app (.len 651) (.var 651 fN) (.one (u1 (.var 700)))).row ρ ((r:Nat):Int)=dn ρ (ρ.i 700):=by
     show(if(r:Int)<(ρ.len 651:Int)then _ else _)=_
     rw[if_neg (by omega)];rfl
    rw[List.getElem?_append_right (by omega)]at R
    have mp:r-(eb al m).length=0:=by
     have:=(List.getElem?_eq_some_iff.1 R).1
     simpa using this
    rw[mp]at R
    have R:m=v:=by simpa using R
    rw[TM ah,<-R,<-h7]
    exact Yu (fun k=>by rw[ci k r,fe]) (fun k=>by rw[cb k r,fe]) (fun k=>by rw[cs k r,fe])
 | j+2,M=>cases M
end Go.Proofs.YtpdfmnhgocpkcaaGreat
namespace Go.Proofs.YtpdfmnhgocpkcaaGreat
open Go Go.Proofs.Aw Go.Proofs.Xw
set_option maxRecDepth 100000
theorem asi (ρ:aa) (ag:Bool):(uh ag).I (bK ρ ag)=QI.I (bK ρ ag):=by
 have e:=JO ρ ag
 show St.mk _ [(_,_),(_,_),(_,aB (bK ρ ag) [.rows 25 (.len 470) (cc ag)]),(_,_)] _=St.mk _ [(_,_),(_,_),(_,aB (bK ρ ag) [.rows 25 (.len 470) c_]),(_,_)] _
 rw[e]
 rfl
theorem asp (hS:∀s∈hj,c9 Tryz.prog s) {ρ:aa} (ag:Bool) (hT:TI ρ) (dv:ρ.i 443=1) (hb:(bV 47).I ρ=ag) (hu:ag=true->(BE.eq (.uf 2 0 dw) (.lit 1)).I ρ=true) (s:Bool) (hs:s = !(eb (bK ρ ag) (ρ.len 470)).isEmpty) :
  ∃ar,aA 630 (bK ρ ag) ar/\(s=true->ar.len 651=(eb (bK ρ ag) (ρ.len 470)).length/\∀(r v:Nat),(eb (bK ρ ag) (ρ.len 470))[r]? = some v->(RL.var 651 fN).row ar (r:Int)=dn (bK ρ ag) (v:Int))/\b8 Tryz.prog ar Tryz.f115.ntmps o1 (o3 ag s):=by
 have n1:=hT.n1
 have n6:=hT.n6
 have Gt:(bK ρ ag).len 470=ρ.len 470:=rfl
 have hE:=fun j M hq=>K4 hT hb hu j M hq
 generalize h5:bK ρ ag=fG at hE hs Gt ⊢
 have afK:fG.i 443=1:=by rw[<-h5];exact dv
 have agd:(uh ag).I fG=QI.I fG:=by rw[<-h5];exact asi ρ ag
 rw[<-Gt]at n1 n6 hE hs ⊢
 have H:∀G,cf Tryz.prog G hD.c:=fun G=>lb (List.forall_mem_nil _)
 have qV:(uh ag).au 630=true:=List.all_eq_true.1 ZZ ag (by cases ag<;>simp)
 refine rz (P:=Tryz.prog) (N:=Tryz.f115.ntmps) (body:=o1) (k0:=2) (n:=630) (S0:=uh ag) (ρ:=fG) qV (fun i=>qm (if i=0 then false else true)) (o3 ag s) ⟨rfl,rfl,rfl⟩ (fun i G=>(i=0\/i=1)/\R1 fG G i) (fun ar=>s=true->ar.len 651=(eb fG (fG.len 470)).length/\∀(r v:Nat),(eb fG (fG.len 470))[r]? = some v->(RL.var 651 fN).row ar (r:Int)=dn fG (v:Int)) (fun G=>fG.len 470-(G.i 700).toNat) (fun i G hR => ?_) ⟨0,ZX.ap fG,Bind.bC (by kernel_rfl) fG,⟨.inl rfl,Bind.bC (by kernel_rfl) fG,Nat.zero_le _,0,Nat.zero_le _,rfl,fun _=>rfl,fun h=>absurd rfl h⟩,fun ac _ bM=>by rw[agd];exact lL bM aso fG⟩
 obtain⟨hi,hR⟩:=hR
 have ah:=hR.ah
 obtain⟨m,hm,h7,li⟩:=hR.m
 have l4:G.len 470=fG.len 470:=(ah.len 470 (by decide)).symm
 have aO:=ft (c:=hD) (H G) hS 12
 have kv:J.ok G fU:=y4 (by rw[<-ah.i 443 (by decide)];exact afK) (by omega) (by omega)
 obtain⟨r1,r0,rW⟩:=asl (if i=0 then false else true)
 by_cases aT:m<fG.len 470
 ·right
  have hp:p7.I G=m+1:=by
   refine(show p7.I G=IntKind.i64.wrap (G.i 700+1)from rfl).trans ?_
   rw[h7];exact cp _ (by omega) (by omega)
  have sH:(G.i 700).toNat=m:=by omega
  have co:fj.I G=fG.cb 625 1 m:=by
   show G.cb 625 1 (G.i 700).toNat=_
   rw[sH,<-ah.cb 625 (by decide)]
  have u:J.ok G wR:=kj (show(G.len 651:Int)<=6 by have:=hR.l6;omega) (fR (show(0:Int)<=G.i 700 by omega) (J.aw (decide_eq_true (by show G.i 700<(G.len 470:Int);omega)) (fF (show p7.I G<=(G.len 470:Int)by rw[hp];omega) (fR (by rw[hp];omega) kv))))
  have iH:(∃(j:Nat) (C:dq) (ax:aa),QG[j]? = some C/\ei Tryz.prog Tryz.f115.ntmps o1 2 (qm (if i=0 then false else true)) C.S G ax/\J.ok ax C.b6/\ax.i 700=IntKind.i64.wrap (G.i 700+1)/\aA 630 G ax/\(eP 0 [] G->eP 0 [] ax)/\(C.dm=[]\/∃a∈C.dm,a.fr=(if(if i=0 then false else true)=true then 1 else 0)/\gR a G ax))->∃i' ax,ei Tryz.prog Tryz.f115.ntmps o1 2 (qm (if i=0 then false else true)) (qm (if i'=0 then false else true)) G ax/\((i'=0\/i'=1)/\R1 fG ax i')/\fG.len 470-(ax.i 700).toNat<fG.len 470-(G.i 700).toNat/\aA 630 G ax:=fun⟨j,C,ax,g1,g2,_,g4,g5,_,g7⟩=>by
   have e4:ax.i 700=m+1:=by rw[g4,h7];exact cp _ (by omega) (by omega)
   have qP:(if(if i=0 then false else true)=true then 1 else 0)=i:=by rcases hi with rfl | rfl<;>rfl
   rw[qP]at g7
   obtain⟨q1,q2,q3⟩:=afc (by omega) ah li h7 co hR.l6 g1 g7
   have pn:C.S=qm (if j=0 then false else true):=by
    rcases q1 with rfl | rfl<;>(cases g1;rfl)
   rw[pn]at g2
   exact⟨j,ax,g2,⟨q1,ah.trans g5,q3,m+1,by omega,by omega,q2⟩,by omega,g5⟩
  rcases k_ fj G with h | h
  ·exact iH (jZ mixed dj aO (a5.nil _ _ _ _) QK (J.aw h u) r1)
  ·exact iH (jZ mixed dj aO (a5.nil _ _ _ _) QK (J.aw h u) r0)
 ·left
  obtain rfl:m=fG.len 470:=by omega
  have u:J.ok G IN:=fR (show(0:Int)<=G.i 700 by omega) (J.aw (decide_eq_false (by show ¬G.i 700<(G.len 470:Int);omega)) kv)
  have iw:s=(if i=0 then false else true):=by
   rcases hi with rfl | rfl
   ·rw[hs,li.z rfl];rfl
   ·obtain⟨_,b2,_⟩:=li.b (by decide)
    rw[hs]
    cases hq:eb fG (fG.len 470)with
    | nil=>exact absurd hq b2
    | cons _ _=>rfl
  refine⟨fun ch => ?_,?_⟩
  ·have:i≠0:=fun h=>by rw[iw,if_pos h]at ch;cases ch
   obtain⟨_,_,de,fq⟩:=li.b this
   exact⟨de,fq⟩
  ·rw[iw]
   rcases ij mixed dj aO (a5.nil _ _ _ _) QK u rW with h | ⟨j,C,_,g1,_⟩
   ·exact h
   ·simp at g1
end Go.Proofs.YtpdfmnhgocpkcaaGreat
