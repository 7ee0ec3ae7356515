/- Parts of the proof, one behind the other. -/
import Derived.Test.YtpdfmnhgocpkcaaGreatTM33
import Derived.Test.YtpdfmnhgocpkcaaGreatTM15
namespace Go.Proofs.YtpdfmnhgocpkcaaGreat
open Go Go.Proofs.Aw Go.Proofs.Xw
set_option maxRecDepth 100000
def esX:X := .rl 20 (.len 651) (.var 651 Fb) false
def z9:List X:=List.replicate 9 (xn 0)
def psT (i:X):ig:=[(4,i),(3,.ptr (1,0) [] 0),(2,.ptr (0,0) [] 0),(0,esX)]
def psH (v:List X):bg:=[((0,0),z9),((1,0),v)]
def psS0:XS:=⟨psT (xn 0),psH z9,3⟩
def psS:XS:=⟨psT (xi 720),psH (vi 660 9),3⟩
def psO:XS:=⟨psT .top,psH (vi 660 9),40⟩
noncomputable def psD:Code:=(dw (Tryz.f114.body.getD .skip))[0]?.getD .skip
def u7q:IE := .op .add .i64 (.var 720) (.lit 1)
def e65 (k:Nat):IE := .cl 651 k (.var 720)
def psI (c k:Nat):IE:=if Nat.beq k c=true then .op .max .i64 (.op .max .i64 (.op .max .i64 (.lit 0) (.var (660+k))) (e65 (9+k))) (e65 2)else .op .max .i64 (.op .max .i64 (.lit 0) (.var (660+k))) (e65 (9+k))
def YB (a b:Nat):Facts:=[(.eq (e65 0) (.lit a),true),(.eq (e65 1) (.lit b),true)]
def rH (a b:Nat):Alt:=⟨0,[],[],(List.range 9).map (fun k=>(660+k,psI (3*a+b) k)),[],YB a b⟩
def ck3:List Cls:=[⟨psS,[],[rH 0 0,rH 0 1,rH 0 2,rH 1 0,rH 1 1,rH 1 2,rH 2 0,rH 2 1,rH 2 2]⟩]
def Yw:Facts:=[(.lt (.var 720) (.lit 0),false),(.lt (.var 720) (.len 651),true),(.lt (.len 651) u7q,false),(.lt u7q (.lit 0),false),(.lt (.lit 6) (.len 651),false)]
def psE:Facts:=[(.lt (.var 720) (.lit 0),false),(.lt (.var 720) (.len 651),false)]
noncomputable def psCf:Cfg2:=⟨bU [] (fun _=>[]),[],[]⟩
noncomputable def aQ2 (Φ:Facts):T (XE×XS):=(dG psCf.c.ti (iK psCf 12) ((psCf.c.ft 114).elim [] (·.ms)) 0 [] 1000 psD Φ psS).map (yC (psS.t.map (·.1)))
noncomputable def psN (Φ:Facts):Bool:=jV 0 655 720 [] (0,[]) 0 ck3 psO .normal Φ (aQ2 Φ)
noncomputable def psX (Φ:Facts):Bool:=jV 0 655 720 [] (0,[]) 0 [] psO (.exit 0) Φ (aQ2 Φ)
theorem bC7:psN (YB 0 0++Yw)=true:=by kernel_rfl
theorem bC6:psN (YB 0 1++Yw)=true:=by kernel_rfl
theorem bC5:psN (YB 0 2++Yw)=true:=by kernel_rfl
theorem bC4:psN (YB 1 0++Yw)=true:=by kernel_rfl
theorem bC3:psN (YB 1 1++Yw)=true:=by kernel_rfl
theorem bC2:psN (YB 1 2++Yw)=true:=by kernel_rfl
theorem bC1:psN (YB 2 0++Yw)=true:=by kernel_rfl
theorem bC0:psN (YB 2 1++Yw)=true:=by kernel_rfl
theorem bB9:psN (YB 2 2++Yw)=true:=by kernel_rfl
theorem cj8:psX psE=true:=by kernel_rfl
theorem bB8 {a b:Nat} (ha:a<3) (hb:b<3):psN (YB a b++Yw)=true:=by
 rcases(show a=0\/a=1\/a=2 by omega)with rfl | rfl | rfl<;>rcases(show b=0\/b=1\/b=2 by omega)with rfl | rfl | rfl
 ·exact bC7
 ·exact bC6
 ·exact bC5
 ·exact bC4
 ·exact bC3
 ·exact bC2
 ·exact bC1
 ·exact bC0
 ·exact bB9
noncomputable def roR (J:Rho) (r:Nat):Rho:={ J with i:=fun k=>J.ci 651 k r,s:=fun k=>J.cs 651 k r,b:=fun k=>J.cb 651 k r }
noncomputable def enW (J:Rho) (r:Nat):List Value:=(VB 0).den (roR J r)
noncomputable def qQ (J:Rho) (k:Nat):Nat->Int
 | 0=>0
 | r+1=>max (max 0 (qQ J k r)) (UF 3 (enW J r) k)
theorem Z9 {J:Rho} {r:Nat} (h:UF 2 (enW J r) 0=1):(0<=J.ci 651 0 r/\J.ci 651 0 r<=2)/\(0<=J.ci 651 1 r/\J.ci 651 1 r<=2)/\1<=J.ci 651 2 r/\∀k:Nat,k<9->0<=J.ci 651 (9+k) r/\UF 3 (enW J r) k=max (max 0 (J.ci 651 (9+k) r)) (if J.ci 651 0 r*3+J.ci 651 1 r=k then J.ci 651 2 r else 0):=by
 obtain⟨g2,hg2⟩:=aU9 (roR J r)
 obtain⟨q0,q1,q2,q3⟩:=(lQ hg2).pr h
 obtain⟨g3,hg3⟩:=bs3 (J:=roR J r) h
 have q4:=(lQ hg3).pr
 have e9:∀k:Nat,k<9->vI ((VB 0).den (roR J r)) (9+k)=J.ci 651 (9+k) r:=fun k hk=>by
  rcases(show k=0\/k=1\/k=2\/k=3\/k=4\/k=5\/k=6\/k=7\/k=8 by omega)with rfl | rfl | rfl | rfl | rfl | rfl | rfl | rfl | rfl<;>rfl
 refine⟨q0,q1,q2.1,fun k hk=>⟨?_,?_⟩⟩
 ·have:=(q3 k hk).1
  rw[e9 k hk]at this
  exact this
 ·have:=q4 k hk
  unfold EG at this
  rw[e9 k hk]at this
  exact this
end Go.Proofs.YtpdfmnhgocpkcaaGreat
namespace Go.Proofs.YtpdfmnhgocpkcaaGreat
open Go Go.Proofs.Aw Go.Proofs.Xw
set_option maxRecDepth 100000
theorem Ug:fD Tryz.f114.ntmps psD=true:=by kernel_rfl
theorem a88:psS0.bel 655=true:=by kernel_rfl
def psN0:Bind:=⟨(720,.lit 0)::(List.range 9).map (fun k=>(660+k,.lit 0)),[],[],[]⟩
theorem bB7:okS 0 655 psN0 [] psS psS0=true:=by kernel_rfl
noncomputable def psL:LoopX:=⟨(bW psD).getD 0,0,655,psS0,noB,[],.ret (.exit 0,psO)⟩
structure PsI (J0 J:Rho):Prop where
 ag:Agree 655 J0 J
 m:∃m:Nat,m<=J0.len 651/\J.i 720=m/\∀k,k<9->J.i (660+k)=qQ J0 k m
theorem aB4 {J:Rho} {m:Nat} (hm:J.i 720=m) (c k:Nat):(psI c k).den J=if k=c then max (max (max 0 (J.i (660+k))) (J.ci 651 (9+k) m)) (J.ci 651 2 m)else max (max 0 (J.i (660+k))) (J.ci 651 (9+k) m):=by
 have e:∀q,(e65 q).den J=J.ci 651 q m:=fun q=>by
  show J.ci 651 q (J.i 720).toNat=_
  rw[hm,Int.toNat_natCast]
 unfold psI
 by_cases h:k=c
 ·subst h
  rw[if_pos (Nat.beq_refl k),if_pos rfl]
  show max (max (max 0 (J.i (660+k))) ((e65 (9+k)).den J)) ((e65 2).den J)=_
  rw[e,e]
 ·rw[if_neg (by simpa using h),if_neg h]
  show max (max 0 (J.i (660+k))) ((e65 (9+k)).den J)=_
  rw[e]
theorem b50 {a:Alt} (h:a∈[rH 0 0,rH 0 1,rH 0 2,rH 1 0,rH 1 1,rH 1 2,rH 2 0,rH 2 1,rH 2 2]):∃x y:Nat,a=rH x y:=by
 simp only[List.mem_cons,List.not_mem_nil,or_false]at h
 rcases h with rfl | rfl | rfl | rfl | rfl | rfl | rfl | rfl | rfl<;>exact⟨_,_,rfl⟩
theorem aB3 {J:Rho} (n6:J.len 651<=6) (hE:∀r,r<J.len 651->UF 2 (enW J r) 0=1):∃Jf,Agree 655 J Jf/\(∀k,k<9->Jf.i (660+k)=qQ J k (J.len 651))/\LoopOk Tryz.prog Jf Tryz.f114.ntmps psD psL:=by
 have hc:∀J',CfgOk Tryz.prog J' psCf.c:=fun J'=>lG (List.forall_mem_nil _)
 refine iR (P:=Tryz.prog) (N:=Tryz.f114.ntmps) (body:=psD) (k0:=0) (n:=655) (S0:=psS0) (J:=J) a88 (fun _=>psS) psL ⟨rfl,rfl,rfl⟩ (fun _ J'=>PsI J J') (fun J'=>∀k,k<9->J'.i (660+k)=qQ J k (J.len 651)) (fun J'=>J.len 651-(J'.i 720).toNat) (fun _ J' hR => ?_) ⟨0,psN0.ap J,Bind.agree (by kernel_rfl) J,⟨Bind.agree (by kernel_rfl) J,0,Nat.zero_le _,rfl,nine rfl rfl rfl rfl rfl rfl rfl rfl rfl⟩,fun E _ hkn=>jq hkn bB7 J⟩
 have ag:=hR.ag
 obtain⟨m,hm,hi,hcut⟩:=hR.m
 have l4:J'.len 651=J.len 651:=(ag.len 651 (by decide)).symm
 have hcall:=dP (c:=psCf) (hc J') (List.forall_mem_nil _) 12
 have c6:∀q r,J'.ci 651 q r=J.ci 651 q r:=fun q r=>by rw[<-ag.ci 651 (by decide)]
 by_cases hlt:m<J.len 651
 ·right
  obtain⟨p0,p1,p2,p3⟩:=Z9 (hE m hlt)
  have hp:u7q.den J'=m+1:=by
   refine(show u7q.den J'=IntKind.i64.wrap (J'.i 720+1)from rfl).trans ?_
   rw[hi];exact aP _ (by omega) (by omega)
  have hk:Facts.ok J' Yw:=fR (show(0:Int)<=J'.i 720 by omega) (Facts.ok_cons (decide_eq_true (by show J'.i 720<(J'.len 651:Int);omega)) (fF (show u7q.den J'<=(J'.len 651:Int)by rw[hp];omega) (fR (by rw[hp];omega) (fL (show(J'.len 651:Int)<=6 by omega) (Facts.ok_nil _)))))
  have e65d:∀q,(e65 q).den J'=J.ci 651 q m:=fun q=>by
   show J'.ci 651 q (J'.i 720).toNat=_
   rw[hi,Int.toNat_natCast,c6]
  obtain⟨a,b,ha,hb,ea,eb⟩:∃a b:Nat,a<3/\b<3/\J.ci 651 0 m=a/\J.ci 651 1 m=b:=⟨(J.ci 651 0 m).toNat,(J.ci 651 1 m).toNat,by omega,by omega,by omega,by omega⟩
  have hd:Facts.ok J' (YB a b++Yw):=Facts.ok_cons (by show((e65 0).den J'==(a:Int))=true;rw[e65d,ea];exact beq_self_eq_true _) (Facts.ok_cons (by show((e65 1).den J'==(b:Int))=true;rw[e65d,eb];exact beq_self_eq_true _) hk)
  obtain⟨j,C,J2,g1,g2,_,g4,g5,_,g7⟩:=kH mixed dm hcall (LpsOk.nil _ _ _ _) Ug hd (bB8 ha hb)
  have e4:J2.i 720=m+1:=by rw[g4,hi];exact aP _ (by omega) (by omega)
  match j,g1 with
  | 0,g1 =>
   cases g1
   refine⟨0,J2,g2,⟨ag.trans g5,m+1,by omega,by omega,fun k hk9 => ?_⟩,by omega,g5⟩
   rcases g7 with g7 | ⟨al,hal,_,hok⟩
   ·cases g7
   ·obtain⟨x,y,rfl⟩:=b50 hal
    have hx:(e65 0).den J'=x:=by
     have:=hok.1 _ List.mem_cons_self
     exact eq_of_beq (show((e65 0).den J'==(x:Int))=true from this)
    have hy:(e65 1).den J'=y:=by
     have:=hok.1 _ (List.mem_cons_of_mem _ List.mem_cons_self)
     exact eq_of_beq (show((e65 1).den J'==(y:Int))=true from this)
    rw[e65d]at hx hy
    have hv:J2.i (660+k)=(psI (3*x+y) k).den J':=hok.2.2.1 (660+k,psI (3*x+y) k) (List.mem_map.2 ⟨k,List.mem_range.2 hk9,rfl⟩)
    rw[hv,aB4 hi,hcut k hk9,c6,c6]
    obtain⟨d0,d1⟩:=p3 k hk9
    show _=max (max 0 (qQ J k m)) (UF 3 (enW J m) k)
    rw[d1]
    by_cases hkc:k=3*x+y
    ·rw[if_pos hkc,if_pos (by omega)]
     omega
    ·rw[if_neg hkc,if_neg (by omega)]
     omega
  | j+1,g1=>cases g1
 ·left
  obtain rfl:m=J.len 651:=by omega
  have hk:Facts.ok J' psE:=fR (show(0:Int)<=J'.i 720 by omega) (Facts.ok_cons (decide_eq_false (by show ¬J'.i 720<(J'.len 651:Int);omega)) (Facts.ok_nil _))
  refine⟨hcut,?_⟩
  rcases iL mixed dm hcall (LpsOk.nil _ _ _ _) Ug hk cj8 with h | ⟨j,C,_,g1,_⟩
  ·exact h
  ·simp at g1
noncomputable def a90 (g:Nat):List LoopX:=if Nat.beq g 114=true then [psL]else []
noncomputable def psCg:Cfg2:=⟨bU [] a90,[],[]⟩
theorem a19:tY (aU psCg 114 [esX] [(.lt (.lit 6) (.len 651),false)]) (.ret (.agg (vi 660 9)))=true:=by kernel_rfl
theorem a81 {J:Rho} (h:LoopOk Tryz.prog J Tryz.f114.ntmps psD psL):∀g i,fO g su=some i->LpsOk Tryz.prog J i.ntmps (a90 g) i.body:=fun g i hi=>by
 unfold a90
 split
 ·rename_i hf
  have hf:=Nat.eq_of_beq_eq_true hf
  subst hf
  have hfo:zV Tryz.prog 114 i:=qA (114,i) (gK _ _ (fG hi))
  refine nV hfo Tryz.func114 ?_
  exact jP (c:=Tryz.f114.body.getD .skip) [0] (by kernel_rfl) (List.forall_mem_cons.2 ⟨iD (L:=psL) (c:=psD) (by kernel_rfl) h,List.forall_mem_nil _⟩)
 ·exact LpsOk.nil _ _ _ _
theorem aC0 {J:Rho} (n6:J.len 651<=6) (hE:∀r,r<J.len 651->UF 2 (enW J r) 0=1):Cy 114 (X.denL J [esX]) (.agg ((List.range 9).map fun k => .sc (.int .i64 (qQ J k (J.len 651))))):=by
 obtain⟨Jf,ag,hq,hL⟩:=aB3 n6 hE
 have hc:CfgOk Tryz.prog Jf psCg.c:=iW (List.forall_mem_nil _) (a81 hL)
 have hk:Facts.ok Jf [(.lt (.lit 6) (.len 651),false)]:=fL (show(Jf.len 651:Int)<=6 by rw[<-ag.len 651 (by decide)];omega) (Facts.ok_nil _)
 have q:=dM hc (List.forall_mem_nil _) hk (show(aU psCg 114 [esX] [(.lt (.lit 6) (.len 651),false)]).sel Jf=some _ by rw[mG a19];rfl)
 have e1:X.denL J [esX]=X.denL Jf [esX]:=X.belL_den ag _ (by kernel_rfl)
 have e2:X.den Jf (.agg (vi 660 9)) = .agg ((List.range 9).map fun k => .sc (.int .i64 (qQ J k (J.len 651)))):=by
  show AV.agg (X.denL Jf ((List.range 9).map fun j=>xi (660+j)))=_
  rw[X.denL_eq,List.map_map]
  congr 1
  refine List.map_congr_left fun j hj => ?_
  show AV.sc (.int .i64 (Jf.i (660+j)))=_
  rw[hq j (List.mem_range.1 hj)]
 rw[e1,<-e2]
 exact q
end Go.Proofs.YtpdfmnhgocpkcaaGreat
namespace Go.Proofs.YtpdfmnhgocpkcaaGreat
open Go Go.Proofs.Aw Go.Proofs.Xw
set_option maxRecDepth 100000
noncomputable def FI (J:Rho) (k:Nat) (l:List Nat):Int:=l.foldl (fun a (v:Nat)=>max (max 0 a) (UF 3 (Vg J (v:Int)) k)) 0
theorem IX (J:Rho) (k:Nat) (l:List Nat) (v:Nat):FI J k (l++[v])=max (max 0 (FI J k l)) (UF 3 (Vg J (v:Int)) k):=by
 unfold FI
 rw[List.foldl_append]
 rfl
theorem Gg {J:Rho} {k:Nat} (hc:0<=J.i (405+k)):∀m,cutV J k m=max (J.i (405+k)) (FI J k (xW J m))
 | 0=>by
  show J.i (405+k)=max (J.i (405+k)) 0
  omega
 | m+1=>by
  have ih:=Gg hc m
  show(if J.cb 625 1 m=true then max (max 0 (cutV J k m)) (UF 3 (Vg J m) k)else cutV J k m)=_
  rw[OW]
  by_cases h:J.cb 625 1 m=true
  ·rw[if_pos h,if_pos h,IX,ih]
   generalize UF 3 (Vg J ((m:Nat):Int)) k=u
   generalize FI J k (xW J m)=F
   omega
  ·rw[if_neg h,if_neg h,List.append_nil,ih]
theorem Vf {J0 J:Rho} {r:Nat} {x:Int} (h:(RL.var 651 Fb).row J (r:Int)=jc J0 x):enW J r=Vg J0 x:=by
 have ci:∀k:Nat,ai ((RL.var 651 Fb).row J (r:Int))[k]? = ai (jc J0 x)[k]? := fun k=>by rw[h]
 have cs:∀k:Nat,cellS ((RL.var 651 Fb).row J (r:Int))[k]? = cellS (jc J0 x)[k]? := fun k=>by rw[h]
 have cb:∀k:Nat,fU ((RL.var 651 Fb).row J (r:Int))[k]? = fU (jc J0 x)[k]? := fun k=>by rw[h]
 have i0:J.ci 651 0 r=ai (jc J0 x)[0]? := ci 0
 have i1:J.ci 651 1 r=ai (jc J0 x)[1]? := ci 1
 have i2:J.ci 651 2 r=ai (jc J0 x)[2]? := ci 2
 have i3:J.ci 651 3 r=ai (jc J0 x)[3]? := ci 3
 have i4:J.ci 651 4 r=ai (jc J0 x)[4]? := ci 4
 have i5:J.ci 651 5 r=ai (jc J0 x)[5]? := ci 5
 have s6:J.cs 651 6 r=cellS (jc J0 x)[6]? := cs 6
 have s7:J.cs 651 7 r=cellS (jc J0 x)[7]? := cs 7
 have b8:J.cb 651 8 r=fU (jc J0 x)[8]? := cb 8
 have i9:J.ci 651 9 r=ai (jc J0 x)[9]? := ci 9
 have i10:J.ci 651 10 r=ai (jc J0 x)[10]? := ci 10
 have i11:J.ci 651 11 r=ai (jc J0 x)[11]? := ci 11
 have i12:J.ci 651 12 r=ai (jc J0 x)[12]? := ci 12
 have i13:J.ci 651 13 r=ai (jc J0 x)[13]? := ci 13
 have i14:J.ci 651 14 r=ai (jc J0 x)[14]? := ci 14
 have i15:J.ci 651 15 r=ai (jc J0 x)[15]? := ci 15
 have i16:J.ci 651 16 r=ai (jc J0 x)[16]? := ci 16
 have i17:J.ci 651 17 r=ai (jc J0 x)[17]? := ci 17
 have i18:J.ci 651 18 r=ai (jc J0 x)[18]? := ci 18
 have i19:J.ci 651 19 r=ai (jc J0 x)[19]? := ci 19
 show [Value.int .i64 (J.ci 651 0 r),.int .i64 (J.ci 651 1 r),.int .i64 (J.ci 651 2 r),.int .i64 (J.ci 651 3 r),.int .i64 (J.ci 651 4 r),.int .i64 (J.ci 651 5 r),.string (J.cs 651 6 r),.string (J.cs 651 7 r),.bool (J.cb 651 8 r),.int .i64 (J.ci 651 9 r),.int .i64 (J.ci 651 10 r),.int .i64 (J.ci 651 11 r),.int .i64 (J.ci 651 12 r),.int .i64 (J.ci 651 13 r),.int .i64 (J.ci 651 14 r),.int .i64 (J.ci 651 15 r),.int .i64 (J.ci 651 16 r),.int .i64 (J.ci 651 17 r),.int .i64 (J.ci 651 18 r),.int .i64 (J.ci 651 19 r)]=_
 rw[i0,i1,i2,i3,i4,i5,s6,s7,b8,i9,i10,i11,i12,i13,i14,i15,i16,i17,i18,i19]
 rfl
theorem Ii {J0 J:Rho} {k:Nat} {l:List Nat} (h:∀(r v:Nat),l[r]? = some v->(RL.var 651 Fb).row J (r:Int)=jc J0 (v:Int)):∀r,r<=l.length->qQ J k r=FI J0 k (l.take r)
 | 0,_=>rfl
 | r+1,hr=>by
  have ih:=Ii (k:=k) h r (by omega)
  obtain⟨v,hv⟩:∃v,l[r]? = some v:=⟨_,List.getElem?_eq_getElem (by omega)⟩
  rw[List.take_add_one,hv]
  show max (max 0 (qQ J k r)) (UF 3 (enW J r) k)=FI J0 k (l.take r++[v])
  rw[IX,ih,Vf (h r v hv)]
theorem am5 {J0 J:Rho} {k n:Nat} (hc:0<=J0.i (405+k)) (hl:J.len 651=(xW J0 n).length) (h:∀(r v:Nat),(xW J0 n)[r]? = some v->(RL.var 651 Fb).row J (r:Int)=jc J0 (v:Int)):cutV J0 k n=max (max 0 (J0.i (405+k))) (qQ J k (J.len 651)):=by
 rw[Gg hc,Ii (k:=k) h _ (by omega),hl,List.take_length]
 omega
theorem am6 {J0:Rho} {k n:Nat} (hc:0<=J0.i (405+k)) (h:xW J0 n=[]):cutV J0 k n=max (max 0 (J0.i (405+k))) 0:=by
 rw[Gg hc,h]
 show max (J0.i (405+k)) 0=_
 omega
end Go.Proofs.YtpdfmnhgocpkcaaGreat
namespace Go.Proofs.YtpdfmnhgocpkcaaGreat
open Go Go.Proofs.Aw Go.Proofs.Xw
set_option maxRecDepth 100000
def dv1 (i:IE):BE := .lt (.cl 625 22 i) (JU 681 i)
def dv2 (i:IE):BE := .lt (.cl 625 23 i) (JU 684 i)
def dv3 (i:IE):BE := .lt (.cl 625 24 i) (JU 687 i)
def XZ (i:IE):BE := .or (dv1 i) (.or (dv2 i) (dv3 i))
def t3C (cu:List X):List X:=[xi 1,fE (0,1) 1 (.len 470),fE (0,2) 25 (.len 470),Dy false,xn 1]++cu++[xl false,xn 0]
def t3K (s:Bool):bg:=if s=true then [((73,0),[.rows 20 (.len 651) (.var 651 Fb)])]else []
def t3G (s:Bool) (cu:List X):bg:=[((0,0),t3C cu),((0,1),kR),((0,2),[.rows 25 (.len 470) rq]),((0,3),oR)]++t3K s
def bx9:ig:=([1,3,4,5,7,11,12,13,14,15,16,17,24,25,26]++(List.range 54).map (29 + ·)++(List.range 10).map (114 + ·)).map fun k=>(k,.top)
def t3T (s:Bool) (i td:X):ig:=(9,i)::(8,td)::(6,if s=true then tkL else GY)::(0,.ptr (0,0) [] 0)::bx9
def t3L:X := .slv (133,0) 1 (.lit 0) (.len 690) true
def cuE (s:Bool) (k:Nat):IE := .op .max .i64 (.op .max .i64 (.lit 0) (.var (405+k))) (if s=true then .var (671+k)else .lit 0)
def cuX (s:Bool):List X:=(List.range 9).map fun k => .sc (.i .i64 (cuE s k))
def MP (s:Bool):XS:=⟨t3T s (xn 0) GY,t3G s (cuX s),133⟩
def t3H (s:Bool):bg:=t3G s (vi 681 9)++[((133,0),[.rows 1 (.len 690) (.var 690 [.i .i64])])]
def Yu (s again:Bool):XS:=if again=true then⟨t3T s (xi 710) t3L,t3H s,134⟩else⟨t3T s (xi 710) GY,t3G s (vi 681 9),133⟩
def t3O (s again:Bool):XS:=if again=true then⟨t3T s .top t3L,t3H s,200⟩else⟨t3T s .top GY,t3G s (vi 681 9),200⟩
noncomputable def t3D:Code:=(dw (Tryz.f115.body.getD .skip))[1]?.getD .skip
def ki6:List Nat:=[681,682,683,684,685,686,687,688,689]
def aX0 (s:Bool):List Cls:=[⟨Yu s false,[],[⟨0,ki6,[690],[],[],[(XZ c7,false)]⟩]⟩,⟨Yu s true,[],[⟨0,ki6,[],[],[(690,.lit 1,.one [aI c7])],[(XZ c7,true)]⟩,⟨1,ki6,[690],[],[],[(XZ c7,false)]⟩,⟨1,ki6,[],[],[(690,.op .padd .i64 (.len 690) (.lit 1),.app (.len 690) (.var 690 [.i .i64]) (.one [aI c7]))],[(XZ c7,true)]⟩]⟩]
def t3F:Facts:=[(.lt (.var 710) (.lit 0),false),(.lt (.var 710) (.len 470),true),(.lt (.len 470) q7,false),(.lt q7 (.lit 0),false),(.lt (.lit 16) (.slen (.cl 470 0 (.var 710))),false),(.lt (.lit 6) (.len 690),false),eqT]++(EE++(Y7++rQ))
def t3E:Facts:=[(.lt (.var 710) (.lit 0),false),(.lt (.var 710) (.len 470),false)]++EE
noncomputable def aP2 (s again:Bool) (Φ:Facts):T (XE×XS):=(dG tuCf.c.ti (iK tuCf 12) ((tuCf.c.ft 115).elim [] (·.ms)) 2 [] 1000 t3D Φ (Yu s again)).map (yC ((Yu s again).t.map (·.1)))
noncomputable def Hr (s again:Bool) (Φ:Facts):Bool:=jV 2 680 710 [] (0,[]) (if again=true then 1 else 0) (aX0 s) (t3O s again) .normal Φ (aP2 s again Φ)
noncomputable def t3X (s again:Bool) (Φ:Facts):Bool:=jV 2 680 710 [] (0,[]) 0 [] (t3O s again) (.exit 2) Φ (aP2 s again Φ)
def g1T:Facts:=(dv1 c7,true)::t3F
def g2T:Facts:=(dv2 c7,true)::(dv1 c7,false)::t3F
def g3T:Facts:=(dv3 c7,true)::(dv2 c7,false)::(dv1 c7,false)::t3F
def g0T:Facts:=(dv3 c7,false)::(dv2 c7,false)::(dv1 c7,false)::t3F
theorem aW8:(Hr false false g1T&&(Hr false false g2T&&(Hr false false g3T&&(Hr false false g0T&&t3X false false t3E))))=true:=by kernel_rfl
theorem aW7:(Hr false true g1T&&(Hr false true g2T&&(Hr false true g3T&&(Hr false true g0T&&t3X false true t3E))))=true:=by kernel_rfl
theorem aW6:(Hr true false g1T&&(Hr true false g2T&&(Hr true false g3T&&(Hr true false g0T&&t3X true false t3E))))=true:=by kernel_rfl
theorem aW5:(Hr true true g1T&&(Hr true true g2T&&(Hr true true g3T&&(Hr true true g0T&&t3X true true t3E))))=true:=by kernel_rfl
theorem bx7 (s a:Bool):Hr s a g1T=true/\Hr s a g2T=true/\Hr s a g3T=true/\Hr s a g0T=true/\t3X s a t3E=true:=by
 cases s<;>cases a
 ·have:=aW8
  simpa only[Bool.and_eq_true]using this
 ·have:=aW7
  simpa only[Bool.and_eq_true]using this
 ·have:=aW6
  simpa only[Bool.and_eq_true]using this
 ·have:=aW5
  simpa only[Bool.and_eq_true]using this
theorem yO:fD Tryz.f115.ntmps t3D=true:=by kernel_rfl
theorem aW9:((MP true).bel 680&&(MP false).bel 680)=true:=by kernel_rfl
def Zd (s:Bool):Bind:=⟨(710,.lit 0)::(List.range 9).map (fun k=>(681+k,cuE s k)),[],[],[(690,.lit 0,.one [])]⟩
theorem bx6:(okS 2 680 (Zd true) [] (Yu true false) (MP true)&&okS 2 680 (Zd false) [] (Yu false false) (MP false))=true:=by kernel_rfl
theorem ax3 (s:Bool):(MP s).bel 680=true:=by
 have:=aW9
 simp only[Bool.and_eq_true]at this
 cases s
 ·exact this.2
 ·exact this.1
theorem aW4 (s:Bool):okS 2 680 (Zd s) [] (Yu s false) (MP s)=true:=by
 have:=bx6
 simp only[Bool.and_eq_true]at this
 cases s
 ·exact this.2
 ·exact this.1
noncomputable def Ze (s again:Bool):LoopX:=⟨(bW t3D).getD 0,2,680,MP s,noB,[],.ret (.exit 2,t3O s again)⟩
noncomputable def dvV (J:Rho) (x:Int):Bool:=(XZ (.var 0)).den (Jo J x)
theorem aJ6 (J:Rho):(XZ c7).den J=dvV J (J.i 710):=rfl
theorem Ep {J J':Rho} {k l:Nat} {x:Int} (hu:(ofI (.var 0)).den (Jo J x)=(ofI (.var 0)).den (Jo J' x)) (hk:k≠0/\l≠0) (h0:J.i k=J'.i l) (h1:J.i (k+1)=J'.i (l+1)) (h2:J.i (k+2)=J'.i (l+2)):(JU k (.var 0)).den (Jo J x)=(JU l (.var 0)).den (Jo J' x):=by
 have a0:(IE.var k).den (Jo J x)=(IE.var l).den (Jo J' x):=by
  show(if k=0 then x else J.i k)=if l=0 then x else J'.i l
  rw[if_neg hk.1,if_neg hk.2,h0]
 have a1:(IE.var (k+1)).den (Jo J x)=(IE.var (l+1)).den (Jo J' x):=by
  show(if k+1=0 then x else J.i (k+1))=if l+1=0 then x else J'.i (l+1)
  rw[if_neg (by omega),if_neg (by omega),h1]
 have a2:(IE.var (k+2)).den (Jo J x)=(IE.var (l+2)).den (Jo J' x):=by
  show(if k+2=0 then x else J.i (k+2))=if l+2=0 then x else J'.i (l+2)
  rw[if_neg (by omega),if_neg (by omega),h2]
 have d:∀(J:Rho) (k:Nat),(JU k (.var 0)).den J=if((ofI (.var 0)).den J==0)=true then(IE.var k).den J else if((ofI (.var 0)).den J==1)=true then(IE.var (k+1)).den J else(IE.var (k+2)).den J:=fun _ _=>rfl
 rw[d,d,hu,a0,a1,a2]
theorem b26 {J J':Rho} (ag:Agree 630 J J') (hc:∀k,k<9->J'.i (681+k)=J.i (640+k)) (x:Int):dvV J' x=X6 J x:=by
 have hu:(ofI (.var 0)).den (Jo J' x)=(ofI (.var 0)).den (Jo J x):=(IE.bel_den (n:=630) (J:=Jo J x) (J':=Jo J' x) ⟨fun k hk=>by show(if k=0 then x else J.i k)=if k=0 then x else J'.i k;rw[ag.i k hk],ag.b,ag.s,ag.len,ag.ci,ag.cb,ag.cs,ag.ct⟩ _ (by kernel_rfl)).symm
 have s1:=Ep (k:=681) (l:=640) hu ⟨by decide,by decide⟩ (hc 0 (by omega)) (hc 1 (by omega)) (hc 2 (by omega))
 have s2:=Ep (k:=684) (l:=643) hu ⟨by decide,by decide⟩ (hc 3 (by omega)) (hc 4 (by omega)) (hc 5 (by omega))
 have s3:=Ep (k:=687) (l:=646) hu ⟨by decide,by decide⟩ (hc 6 (by omega)) (hc 7 (by omega)) (hc 8 (by omega))
 have d:∀(k:Nat),(IE.cl 625 k (.var 0)).den (Jo J' x)=(IE.cl 625 k (.var 0)).den (Jo J x):=fun k=>by
  show J'.ci 625 k _=J.ci 625 k _
  rw[ag.ci 625 (by decide)]
  rfl
 unfold dvV X6 XZ X7 dv1 dv2 dv3 cv1 cv2 cv3
 simp only[BE.den,s1,s2,s3,d]
end Go.Proofs.YtpdfmnhgocpkcaaGreat
namespace Go.Proofs.YtpdfmnhgocpkcaaGreat
open Go Go.Proofs.Aw Go.Proofs.Xw
set_option maxRecDepth 100000
structure TeI (J0:Rho) (m:Nat) (i:Nat) (J:Rho):Prop where
 z:i=0->bF J0 m=[]
 b:i≠0->i=1/\bF J0 m≠[]/\J.len 690=(bF J0 m).length/\∀(r v:Nat),(bF J0 m)[r]? = some v->J.ci 690 0 r=(v:Int)
structure T3I (Ja J0 J:Rho) (i:Nat):Prop where
 ag:Agree 680 J0 J
 cu:∀k,k<9->J.i (681+k)=Ja.i (640+k)
 l6:J.len 690<=6
 m:∃m:Nat,m<=J0.len 470/\J.i 710=m/\TeI Ja m i J
theorem kee {a:Alt} {J J2:Rho} (h:kW a J J2) (e:a.ki=ki6:=by rfl) (k:Nat) (hk:k<9):J2.i (681+k)=J.i (681+k) :=
 h.2.1.1 (681+k) (by
  rw[e]
  rcases(show k=0\/k=1\/k=2\/k=3\/k=4\/k=5\/k=6\/k=7\/k=8 by omega)with rfl | rfl | rfl | rfl | rfl | rfl | rfl | rfl | rfl<;>decide)
theorem b37 {J:Rho} {G:Prop} {F:Facts} (hk:Facts.ok J F) (h1:Facts.ok J ((dv1 c7,true)::F)->G) (h2:Facts.ok J ((dv2 c7,true)::(dv1 c7,false)::F)->G) (h3:Facts.ok J ((dv3 c7,true)::(dv2 c7,false)::(dv1 c7,false)::F)->G) (h0:Facts.ok J ((dv3 c7,false)::(dv2 c7,false)::(dv1 c7,false)::F)->G):G:=by
 rcases RJ (dv1 c7) J with a | a
 ·exact h1 (Facts.ok_cons a hk)
 ·rcases RJ (dv2 c7) J with b | b
  ·exact h2 (Facts.ok_cons b (Facts.ok_cons a hk))
  ·rcases RJ (dv3 c7) J with c | c
   ·exact h3 (Facts.ok_cons c (Facts.ok_cons b (Facts.ok_cons a hk)))
   ·exact h0 (Facts.ok_cons c (Facts.ok_cons b (Facts.ok_cons a hk)))
theorem ax0 {s:Bool} {J0 J J2:Rho} {m i j:Nat} {D:Cls} (hm:m<6) (hR:TeI J0 m i J) (h7:J.i 710=m) (hc:(XZ c7).den J=X6 J0 m) (hl:J.len 690<=6) (hj:(aX0 s)[j]? = some D) (ha:D.al=[]\/∃a∈D.al,a.fr=i/\kW a J J2):(j=0\/j=1)/\TeI J0 (m+1) j J2/\J2.len 690<=6/\∀k,k<9->J2.i (681+k)=J.i (681+k):=by
 have hs:=Ec J0 m
 have hlen:=Ae J0 (m+1)
 match j,hj with
 | 0,hj =>
  cases hj
  simp only[List.cons_ne_nil,false_or,List.mem_cons,List.not_mem_nil,or_false]at ha
  obtain⟨a,rfl,hfr,hok⟩:=ha
  have h0:0=i:=hfr
  have hcv:(XZ c7).den J=false:=hok.1 _ List.mem_cons_self
  have hz:=hR.z h0.symm
  have hl2:=(hok.2.1.2 690 List.mem_cons_self).1
  refine⟨.inl rfl,⟨fun _ => ?_,fun h=>absurd rfl h⟩,by rw[hl2];exact hl,kee hok⟩
  rw[hs,hz,if_neg (by rw[<-hc,hcv];decide)];rfl
 | 1,hj =>
  cases hj
  simp only[List.cons_ne_nil,false_or,List.mem_cons,List.not_mem_nil,or_false]at ha
  obtain⟨a,hq,hfr,hok⟩:=ha
  rcases hq with rfl | rfl | rfl
  ·have h0:0=i:=hfr
   have hcv:(XZ c7).den J=true:=hok.1 _ List.mem_cons_self
   have hz:=hR.z h0.symm
   have e:bF J0 (m+1)=[m]:=by rw[hs,hz,if_pos (by rw[<-hc,hcv])];rfl
   obtain⟨l,ci,_,_⟩:=hok.2.2.2 _ List.mem_cons_self
   have l:J2.len 690=1:=l
   refine⟨.inr rfl,⟨fun h=>by omega,fun _=>⟨rfl,by rw[e];simp,by rw[e,l];rfl,fun r v hv => ?_⟩⟩,by omega,kee hok⟩
   rw[e]at hv
   have hr:r=0:=by
    have:=(List.getElem?_eq_some_iff.1 hv).1
    simpa using this
   subst hr
   have hv:m=v:=by simpa using hv
   have c0:J2.ci 690 0 0=J.i 710:=ci 0 0
   rw[c0,h7,hv]
  ·have h0:1=i:=hfr
   have hcv:(XZ c7).den J=false:=hok.1 _ List.mem_cons_self
   obtain⟨_,b2,b3,b4⟩:=hR.b (by omega)
   have e:bF J0 (m+1)=bF J0 m:=by rw[hs,if_neg (by rw[<-hc,hcv];decide),List.append_nil]
   obtain⟨l,c,_,_⟩:=hok.2.1.2 690 List.mem_cons_self
   refine⟨.inr rfl,⟨fun h=>by omega,fun _=>⟨rfl,by rw[e];exact b2,by rw[e,l];exact b3,fun r v hv => ?_⟩⟩,by omega,kee hok⟩
   rw[e]at hv
   rw[c];exact b4 r v hv
  ·have h0:1=i:=hfr
   have hcv:(XZ c7).den J=true:=hok.1 _ List.mem_cons_self
   obtain⟨_,b2,b3,b4⟩:=hR.b (by omega)
   have e:bF J0 (m+1)=bF J0 m++[m]:=by rw[hs,if_pos (by rw[<-hc,hcv])]
   obtain⟨l,ci,_,_⟩:=hok.2.2.2 _ List.mem_cons_self
   have l:J2.len 690=(((J.len 690:Nat):Int)+1).toNat:=l
   have l:J2.len 690=J.len 690+1:=by omega
   rw[e,List.length_append,List.length_singleton]at hlen
   refine⟨.inr rfl,⟨fun h=>by omega,fun _=>⟨rfl,by rw[e];simp,by rw[e,List.length_append,List.length_singleton,l,b3],fun r v hv => ?_⟩⟩,by omega,kee hok⟩
   rw[e]at hv
   have c0:=ci 0 r
   by_cases hr:r<J.len 690
   ·have er:(RL.app (.len 690) (.var 690 [.i .i64]) (.one [aI c7])).row J ((r:Nat):Int)=(RL.var 690 [.i .i64]).row J (r:Int):=by
     show(if(r:Int)<(J.len 690:Int)then _ else _)=_
     rw[if_pos (by omega)]
    rw[er]at c0
    have c0:J2.ci 690 0 r=J.ci 690 0 r:=c0
    rw[List.getElem?_append_left (by omega)]at hv
    rw[c0];exact b4 r v hv
   ·have er:(RL.app (.len 690) (.var 690 [.i .i64]) (.one [aI c7])).row J ((r:Nat):Int)=[AV.sc (.int .i64 (J.i 710))]:=by
     show(if(r:Int)<(J.len 690:Int)then _ else _)=_
     rw[if_neg (by omega)];rfl
    rw[er]at c0
    have c0:J2.ci 690 0 r=J.i 710:=c0
    rw[List.getElem?_append_right (by omega)]at hv
    have hr0:r-(bF J0 m).length=0:=by
     have:=(List.getElem?_eq_some_iff.1 hv).1
     simpa using this
    rw[hr0]at hv
    have hv:m=v:=by simpa using hv
    rw[c0,h7,hv]
 | j+2,hj=>cases hj
theorem aP1 (s:Bool):(Zd s).ge 680=true:=by
 cases s<;>kernel_rfl
theorem ax2 (hS:∀s∈JM,iF Tryz.prog s) {J Ja:Rho} (hl:Facts.ok J rQ) (hT:TI J) (h43:J.i 443=1) (aa:Agree 630 Ja J) (s again:Bool) (hcu:∀k,k<9->(cuE s k).den J=Ja.i (640+k)) (ha:again = !(bF Ja (J.len 470)).isEmpty):∃Jf,Agree 680 J Jf/\((∀k,k<9->Jf.i (681+k)=Ja.i (640+k))/\(again=true->Jf.len 690=(bF Ja (J.len 470)).length/\∀(r v:Nat),(bF Ja (J.len 470))[r]? = some v->Jf.ci 690 0 r=(v:Int)))/\LoopOk Tryz.prog Jf Tryz.f115.ntmps t3D (Ze s again):=by
 have h1:=hT.n1
 have h6:=hT.n6
 have hc:∀J',CfgOk Tryz.prog J' tuCf.c:=fun J'=>lG (List.forall_mem_nil _)
 refine iR (P:=Tryz.prog) (N:=Tryz.f115.ntmps) (body:=t3D) (k0:=2) (n:=680) (S0:=(MP s)) (J:=J) (ax3 s) (fun i=>Yu s (if i=0 then false else true)) (Ze s again) ⟨rfl,rfl,rfl⟩ (fun i J'=>(i=0\/i=1)/\T3I Ja J J' i) (fun Jf=>(∀k,k<9->Jf.i (681+k)=Ja.i (640+k))/\(again=true->Jf.len 690=(bF Ja (J.len 470)).length/\∀(r v:Nat),(bF Ja (J.len 470))[r]? = some v->Jf.ci 690 0 r=(v:Int))) (fun J'=>J.len 470-(J'.i 710).toNat) (fun i J' hR => ?_) ⟨0,(Zd s).ap J,Bind.agree (aP1 s) J,⟨.inl rfl,Bind.agree (aP1 s) J,nine (hcu 0 (by omega)) (hcu 1 (by omega)) (hcu 2 (by omega)) (hcu 3 (by omega)) (hcu 4 (by omega)) (hcu 5 (by omega)) (hcu 6 (by omega)) (hcu 7 (by omega)) (hcu 8 (by omega)),Nat.zero_le _,0,Nat.zero_le _,rfl,fun _=>rfl,fun h=>absurd rfl h⟩,fun E _ hkn=>jq hkn (aW4 s) J⟩
 obtain⟨hi,hR⟩:=hR
 have ag:=hR.ag
 obtain⟨m,hm,h7,hD⟩:=hR.m
 have l4:J'.len 470=J.len 470:=(ag.len 470 (by decide)).symm
 have hcall:=dP (c:=tuCf) (hc J') hS 12
 have hf1:Facts.ok J' EE:=Ic (by rw[<-ag.i 443 (by decide)];exact h43) (by omega) (by omega)
 have hT':=hT.agree (ag.le (by decide))
 obtain⟨r1,r2,r3,r0,rx⟩:=bx7 s (if i=0 then false else true)
 by_cases hlt:m<J.len 470
 ·right
  have hq:q7.den J'=m+1:=by
   refine(show q7.den J'=IntKind.i64.wrap (J'.i 710+1)from rfl).trans ?_
   rw[h7];exact aP _ (by omega) (by omega)
  have hky:=(hT'.ky m (by omega)).2
  have e7:(J'.i 710).toNat=m:=by omega
  have heq:(eqT.1).den J'=true:=by
   show((J'.len 474:Int)==J'.i 440+J'.i 443)=true
   rw[hT'.rn];exact beq_self_eq_true _
  have hk2:Facts.ok J' (EE++(Y7++rQ)):=aY hf1 (aY hT'.tr (bG (n:=600) (ag.le (by decide)) (by kernel_rfl) hl))
  have hk:Facts.ok J' t3F:=by
   refine fR (show(0:Int)<=J'.i 710 by omega) (Facts.ok_cons (decide_eq_true (by show J'.i 710<(J'.len 470:Int);omega)) (fF (show q7.den J'<=(J'.len 470:Int)by rw[hq];omega) (fR (by rw[hq];omega) (fL ?_ (fL (show(J'.len 690:Int)<=6 by have:=hR.l6;omega) (Facts.ok_cons heq hk2))))))
   show((J'.cs 470 0 (J'.i 710).toNat).size:Int)<=16
   rw[e7];omega
  have hcv:(XZ c7).den J'=X6 Ja (m:Int):=by rw[aJ6,h7,b26 (aa.trans (ag.le (by decide))) hR.cu]
  have nxt:(∃(j:Nat) (C:Cls) (J2:Rho),(aX0 s)[j]? = some C/\StepF Tryz.prog Tryz.f115.ntmps t3D 2 (Yu s (if i=0 then false else true)) C.S J' J2/\Facts.ok J2 C.Ψ/\J2.i 710=IntKind.i64.wrap (J'.i 710+1)/\Agree 680 J' J2/\(BD 0 [] J'->BD 0 [] J2)/\(C.al=[]\/∃a∈C.al,a.fr=(if(if i=0 then false else true)=true then 1 else 0)/\kW a J' J2))->∃i' J2,StepF Tryz.prog Tryz.f115.ntmps t3D 2 (Yu s (if i=0 then false else true)) (Yu s (if i'=0 then false else true)) J' J2/\((i'=0\/i'=1)/\T3I Ja J J2 i')/\J.len 470-(J2.i 710).toNat<J.len 470-(J'.i 710).toNat/\Agree 680 J' J2:=fun⟨j,C,J2,g1,g2,_,g4,g5,_,g7⟩=>by
   have e4:J2.i 710=m+1:=by rw[g4,h7];exact aP _ (by omega) (by omega)
   have ei:(if(if i=0 then false else true)=true then 1 else 0)=i:=by rcases hi with rfl | rfl<;>rfl
   rw[ei]at g7
   obtain⟨q1,q2,q3,q4⟩:=ax0 (by omega) hD h7 hcv hR.l6 g1 g7
   have eS:C.S=Yu s (if j=0 then false else true):=by
    rcases q1 with rfl | rfl<;>(cases g1;rfl)
   rw[eS]at g2
   exact⟨j,J2,g2,⟨q1,ag.trans g5,fun k hk9=>by rw[q4 k hk9,hR.cu k hk9],q3,m+1,by omega,by omega,q2⟩,by omega,g5⟩
  exact b37 hk (fun h=>nxt (kH mixed dm hcall (LpsOk.nil _ _ _ _) yO h r1)) (fun h=>nxt (kH mixed dm hcall (LpsOk.nil _ _ _ _) yO h r2)) (fun h=>nxt (kH mixed dm hcall (LpsOk.nil _ _ _ _) yO h r3)) (fun h=>nxt (kH mixed dm hcall (LpsOk.nil _ _ _ _) yO h r0))
 ·left
  obtain rfl:m=J.len 470:=by omega
  have hk:Facts.ok J' t3E:=fR (show(0:Int)<=J'.i 710 by omega) (Facts.ok_cons (decide_eq_false (by show ¬J'.i 710<(J'.len 470:Int);omega)) hf1)
  have ea:again=(if i=0 then false else true):=by
   rcases hi with rfl | rfl
   ·rw[ha,hD.z rfl];rfl
   ·obtain⟨_,b2,_⟩:=hD.b (by decide)
    rw[ha]
    cases hq:bF Ja (J.len 470)with
    | nil=>exact absurd hq b2
    | cons _ _=>rfl
  refine⟨⟨hR.cu,fun hag => ?_⟩,?_⟩
  ·have:i≠0:=fun h=>by rw[ea,if_pos h]at hag;cases hag
   obtain⟨_,_,b3,b4⟩:=hD.b this
   exact⟨b3,b4⟩
  ·rw[ea]
   rcases iL mixed dm hcall (LpsOk.nil _ _ _ _) yO hk rx with h | ⟨j,C,_,g1,_⟩
   ·exact h
   ·simp at g1
end Go.Proofs.YtpdfmnhgocpkcaaGreat
namespace Go.Proofs.YtpdfmnhgocpkcaaGreat
open Go Go.Proofs.Aw Go.Proofs.Xw
set_option maxRecDepth 100000
def ap9 (has:Bool):List X:=[.ptr (0,0) [] 0,.agg ((YC has).map .sc)]
def aw4 (has again:Bool):Facts:=(if again=true then [(.lt (.len 690) (.lit 1),false)]else [])++(KY has++((bM 47,has)::eqT::(EE++(Y7++(xN todo0++rQ)))))
noncomputable def aW1 (has s again:Bool) (g:Nat):List LoopX:=if Nat.beq g 115=true then [Ee has s,Ze s again]else []
noncomputable def bx2 (s:Bool):=if s=true then [(114,[esX],X.agg (vi 671 9))]else []
noncomputable def aw7 (has s again:Bool):Cfg2:=⟨bU (bx2 s) (aW1 has s again),JM,[10119,10114]⟩
def aw3 (again:Bool):dR:=d4 ([xi 1,fE (0,1) 1 (.len 470),fE (0,2) 25 (.len 470),(if again=true then .slv (1,0) 1 (.lit 0) (.len 690) true else .k (.slice none 0 0)),xn (if again=true then 2 else 1)]++vi 681 9++[xl (!again),xn 0]) kR [.rows 25 (.len 470) rq] oR++(if again=true then [((1,0),some [.rows 1 (.len 690) (.var 690 [.i .i64])])]else [])
def aH0 (d:dR):T (X×dR)->Bool
 | .ret (r,e)=>X.beq r (xn 0)&&isT5.beqN e d
 | _=>false
theorem aG9 {d:dR} {t:T (X×dR)} (h:aH0 d t=true):t = .ret (xn 0,d):=by
 cases t with
 | ret p =>
  obtain⟨r,e⟩:=p
  simp only[aH0,Bool.and_eq_true]at h
  rw[X.beq_eq _ _ h.1,DW h.2]
 | br _ _ _=>cases h
 | need _ _=>cases h
 | fail _=>cases h
def qI (has s again:Bool):Prop:=aH0 (aw3 again) (pK (aw7 has s again) 115 (ap9 has) gD0 (aw4 has again))=true
theorem bw3:qI false false false:=by unfold qI;kernel_rfl
theorem bw2:qI false false true:=by unfold qI;kernel_rfl
theorem bw1:qI false true false:=by unfold qI;kernel_rfl
theorem bw0:qI false true true:=by unfold qI;kernel_rfl
theorem bv9:qI true false false:=by unfold qI;kernel_rfl
theorem bv8:qI true false true:=by unfold qI;kernel_rfl
theorem bv7:qI true true false:=by unfold qI;kernel_rfl
theorem bv6:qI true true true:=by unfold qI;kernel_rfl
theorem aV6 (has s again:Bool):aH0 (aw3 again) (pK (aw7 has s again) 115 (ap9 has) gD0 (aw4 has again))=true:=by
 cases has<;>cases s<;>cases again
 ·exact bw3
 ·exact bw2
 ·exact bw1
 ·exact bw0
 ·exact bv9
 ·exact bv8
 ·exact bv7
 ·exact bv6
theorem aV7 (has s again:Bool) {J:Rho} (h1:LoopOk Tryz.prog J Tryz.f115.ntmps Zb (Ee has s)) (h2:LoopOk Tryz.prog J Tryz.f115.ntmps t3D (Ze s again)):∀g i,fO g su=some i->LpsOk Tryz.prog J i.ntmps (aW1 has s again g) i.body:=fun g i hi=>by
 unfold aW1
 split
 ·rename_i hf
  have hf:=Nat.eq_of_beq_eq_true hf
  subst hf
  have hfo:zV Tryz.prog 115 i:=qA (115,i) (gK _ _ (fG hi))
  refine nV hfo Tryz.func115 ?_
  exact jP (c:=Tryz.f115.body.getD .skip) [0,1] (by cases has<;>cases s<;>cases again<;>kernel_rfl) (List.forall_mem_cons.2 ⟨iD (L:=Ee has s) (c:=Zb) (by cases has<;>cases s<;>cases again<;>kernel_rfl) h1,List.forall_mem_cons.2 ⟨iD (L:=Ze s again) (c:=t3D) (by cases has<;>cases s<;>cases again<;>kernel_rfl) h2,List.forall_mem_nil _⟩⟩)
 ·exact LpsOk.nil _ _ _ _
end Go.Proofs.YtpdfmnhgocpkcaaGreat
namespace Go.Proofs.YtpdfmnhgocpkcaaGreat
open Go Go.Proofs.Aw Go.Proofs.Xw
set_option maxRecDepth 100000
theorem aw5 (s:Bool):(XS.mk (tkO s).t (tkO s).h (tkO s).nx).bel 660=true:=by cases s<;>kernel_rfl
theorem Za (has:Bool):(MO has).bel 630=true:=List.all_eq_true.1 Y9 has (by cases has<;>simp)
theorem VL {has s:Bool} {J J':Rho} (ag:Agree 660 J J') (h:LoopOk Tryz.prog J Tryz.f115.ntmps Zb (Ee has s)):LoopOk Tryz.prog J' Tryz.f115.ntmps Zb (Ee has s):=by
 intro E hE hkn
 have:=h E hE hkn
 have e0:(Ee has s).S.den ((Ee has s).init.ap J)=(Ee has s).S.den ((Ee has s).init.ap J'):=XS.bel_den (n:=630) (ag.le (by decide)) (MO has) (Za has)
 rw[e0]at this
 refine bY (fun e σ hq => ?_) this
 obtain⟨e',t,q1,q2,q3⟩:=hq
 have q1:some (XE.exit 0,tkO s)=some (e',t):=q1
 cases q1
 exact⟨.exit 0,tkO s,rfl,q2,by rw[<-XS.bel_den ag (tkO s) (aw5 s)];exact q3⟩
theorem aI7 {J:Rho} {n r v:Nat} (h:(xW J n)[r]? = some v):v<n/\J.cb 625 1 v=true:=by
 have:=List.mem_of_getElem? h
 unfold xW at this
 simp only[List.mem_filter,List.mem_range]at this
 exact this
noncomputable def xE (J:Rho):Rho:={ J with i:=fun k=>if 671<=k/\k<680 then qQ J (k-671) (J.len 651)else J.i k }
theorem aA1 (J:Rho):Agree 671 J (xE J):=⟨fun k hk=>by show _=if _ then _ else _;rw[if_neg (by omega)],fun _ _=>rfl,fun _ _=>rfl,fun _ _=>rfl,fun _ _=>rfl,fun _ _=>rfl,fun _ _=>rfl,fun _ _=>rfl⟩
theorem a09 (J:Rho) {k:Nat} (hk:k<9):(xE J).i (671+k)=qQ J k (J.len 651):=by
 show(if _ then _ else _)=_
 rw[if_pos (by omega),Nat.add_sub_cancel_left]
theorem V6 (J:Rho):X.den (xE J) (.agg (vi 671 9)) = .agg ((List.range 9).map fun k => .sc (.int .i64 (qQ J k (J.len 651)))):=by
 show AV.agg (X.denL (xE J) ((List.range 9).map fun j=>xi (671+j)))=_
 rw[X.denL_eq,List.map_map]
 congr 1
theorem aH9 {J:Rho} {has:Bool} (hb:(bM 47).den J=has) (hu:has=true->(BE.eq (.uf 2 0 alN) (.lit 1)).den J=true):Facts.ok J (KY has):=by
 cases has with
 | true=>exact Facts.ok_cons (hu rfl) (Facts.ok_nil _)
 | false=>exact Facts.ok_cons hb (Facts.ok_nil _)
theorem bw8 (hS:∀s∈JM,iF Tryz.prog s) {J Ja:Rho} (has:Bool) (hl:Facts.ok J rQ) (hT:TI J) (h43:J.i 443=1) (hb:(bM 47).den J=has) (hu:has=true->(BE.eq (.uf 2 0 alN) (.lit 1)).den J=true)
  (aa:Agree 630 (dS J has) Ja) (hcut:∀k,k<9->Ja.i (640+k)=cutV (dS J has) k (J.len 470)) (again:Bool) (hag:again = !(bF Ja (J.len 470)).isEmpty) :
  ∃Jh,Agree 630 (dS J has) Jh/\(∀k,k<9->Jh.i (681+k)=Ja.i (640+k))/\(again=true->Jh.len 690=(bF Ja (J.len 470)).length/\∀(r v:Nat),(bF Ja (J.len 470))[r]? = some v->Jh.ci 690 0 r=(v:Int))/\iG Tryz.prog Jh ⟨115,ap9 has,gD0,xn 0,aw3 again⟩:=by
 have a5:=vT J has
 have hE:=fun j hj hq=>ak7 hT hb hu j hj hq
 have n6:=hT.n6
 obtain⟨Jf,af,hrow,hL1⟩:=aw2 hS has hT h43 hb hu _ rfl
 generalize hs:(!(xW (dS J has) (J.len 470)).isEmpty)=s at hrow hL1
 have hlen:=U8 (dS J has) (J.len 470)
 have g1:=aA1 Jf
 have ag0:Agree 630 (dS J has) (xE Jf):=af.trans (g1.le (by decide))
 have a6:Agree 600 J (xE Jf):=(a5.le (by decide)).trans (ag0.le (by decide))
 have hTg:=hT.agree a6
 have hlg:Facts.ok (xE Jf) rQ:=bG (n:=600) a6 (by kernel_rfl) hl
 have hg43:(xE Jf).i 443=1:=by rw[<-a6.i 443 (by decide)];exact h43
 have lg:(xE Jf).len 470=J.len 470:=(a6.len 470 (by decide)).symm
 have c0:∀k,k<9->0<=(dS J has).i (405+k):=fun k hk=>hT.cu k hk
 have e40:∀k,k<9->(xE Jf).i (405+k)=(dS J has).i (405+k):=fun k hk=>(ag0.i (405+k) (by omega)).symm
 have hcu:∀k,k<9->(cuE s k).den (xE Jf)=Ja.i (640+k):=fun k hk=>by
  rw[hcut k hk]
  cases hsv:s with
  | true =>
   obtain⟨q1,q2⟩:=hrow hsv
   rw[am5 (c0 k hk) q1 q2]
   show max (max 0 ((xE Jf).i (405+k))) ((xE Jf).i (671+k))=_
   rw[a09 Jf hk,e40 k hk]
  | false =>
   have hn:xW (dS J has) (J.len 470)=[]:=by
    rw[hsv]at hs
    cases hq:xW (dS J has) (J.len 470)with
    | nil=>rfl
    | cons _ _=>rw[hq]at hs;cases hs
   rw[am6 (c0 k hk) hn]
   show max (max 0 ((xE Jf).i (405+k))) 0=_
   rw[e40 k hk]
 obtain⟨Jh,ah,⟨hcu2,hQ⟩,hL2⟩:=ax2 hS hlg hTg hg43 (aa.symm.trans ag0) s again hcu (by rw[lg];exact hag)
 rw[lg]at hQ
 have a7:Agree 600 J Jh:=a6.trans (ah.le (by decide))
 have hTh:=hT.agree a7
 have hL1:=VL (J':=Jh) ((g1.le (by decide)).trans (ah.le (by decide))) hL1
 have hks:∀p∈bx2 s,aQ Tryz.prog p.1=true/\∀n h,CY Tryz.prog n p.1 (X.denL Jh p.2.1) h (p.2.2.den Jh) []:=fun p hp=>by
  cases hsv:s with
  | false=>rw[hsv]at hp;cases hp
  | true =>
   rw[hsv]at hp
   have hp:p∈[(114,[esX],X.agg (vi 671 9))]:=hp
   obtain rfl:=List.mem_singleton.1 hp
   obtain⟨q1,q2⟩:=hrow hsv
   have q:=aC0 (J:=Jf) (by omega) (fun r hr=>by
    obtain⟨v,hv⟩:∃v,(xW (dS J has) (J.len 470))[r]? = some v:=⟨_,List.getElem?_eq_getElem (by omega)⟩
    obtain⟨v1,v2⟩:=aI7 hv
    rw[Vf (q2 r v hv)]
    exact hE v v1 v2)
   have e1:X.denL Jf [esX]=X.denL Jh [esX]:=X.belL_den (n:=660) ((g1.le (by decide)).trans (ah.le (by decide))) _ (by kernel_rfl)
   have e2:X.den (xE Jf) (.agg (vi 671 9))=X.den Jh (.agg (vi 671 9)):=X.bel_den (n:=680) ah _ (by kernel_rfl)
   rw[e1,<-V6,e2]at q
   exact q
 have hc:CfgOk Tryz.prog Jh (aw7 has s again).c:=iW hks (aV7 has s again hL1 hL2)
 have hbh:(bM 47).den Jh=has:=by rw[<-hb];exact(BE.bel_den a7 _ (by kernel_rfl)).symm
 have hfa:Facts.ok Jh (KY has):=bG (n:=600) a7 (by cases has<;>kernel_rfl) (aH9 hb hu)
 have hk0:Facts.ok Jh (KY has++((bM 47,has)::eqT::(EE++(Y7++(xN todo0++rQ))))) :=
  aY hfa (Facts.ok_cons hbh (Facts.ok_cons (by show((Jh.len 474:Int)==Jh.i 440+Jh.i 443)=true;rw[hTh.rn];exact beq_self_eq_true _) (aY (Ic (by rw[<-a7.i 443 (by decide)];exact h43) hTh.n1 hTh.n6) (aY hTh.tr (aY hTh.key0 (bG (n:=600) a7 (by kernel_rfl) hl))))))
 have hk:Facts.ok Jh (aw4 has again):=by
  cases hav:again with
  | false=>exact hk0
  | true =>
   obtain⟨q1,_⟩:=hQ hav
   rw[hav]at hag
   have h1:1<=(bF Ja (J.len 470)).length:=by
    cases hq:bF Ja (J.len 470)with
    | nil=>rw[hq]at hag;cases hag
    | cons _ _=>simp
   exact fF (a := .len 690) (b := .lit 1) (show(1:Int)<=(Jh.len 690:Int)by omega) hk0
 exact⟨Jh,ag0.trans (ah.le (by decide)),hcu2,hQ,sV hc hS hk (show(pK (aw7 has s again) 115 (ap9 has) gD0 (aw4 has again)).sel Jh=some (xn 0,aw3 again)by rw[aG9 (aV6 has s again)];rfl)⟩
end Go.Proofs.YtpdfmnhgocpkcaaGreat
namespace Go.Proofs.YtpdfmnhgocpkcaaGreat
open Go Go.Proofs.Aw Go.Proofs.Xw
set_option maxRecDepth 100000
theorem ap8 (has:Bool):X.belL 600 (ap9 has)=true:=by cases has<;>kernel_rfl
theorem aI0:(XS.mk [] gD0 0).bel 600=true:=by kernel_rfl
theorem bw7 (hS:∀s∈JM,iF Tryz.prog s) {J Ja:Rho} (has:Bool) (hl:Facts.ok J rQ) (hT:TI J) (h43:J.i 443=1) (hb:(bM 47).den J=has) (hu:has=true->(BE.eq (.uf 2 0 alN) (.lit 1)).den J=true)
  (aa:Agree 630 (dS J has) Ja) (hcut:∀k,k<9->Ja.i (640+k)=cutV (dS J has) k (J.len 470)) {J':Rho} (hJ:TurnL J J' (fun k=>cutV (dS J has) k (J.len 470)) (bF Ja (J.len 470))):iG Tryz.prog J' (MG has (!(bF Ja (J.len 470)).isEmpty)):=by
 generalize hag:(!(bF Ja (J.len 470)).isEmpty)=again
 obtain⟨Jb,ab5,hcu,hQ,g⟩:=bw8 hS has hl hT h43 hb hu aa hcut again hag.symm
 have a6:Agree 600 J Jb:=((vT J has).le (by decide)).trans (ab5.le (by decide))
 have a7:Agree 600 Jb J':=a6.symm.trans hJ.ag
 have eA:aF Jb [.rows 25 (.len 470) rq]=aF J' [.rows 25 (.len 470) (mM has)]:=(VA has ab5).trans (Vy has hJ.ag)
 have eC:X.denL Jb (vi 681 9)=X.denL J' (vi 600 9):=by
  show [_,_,_,_,_,_,_,_,_]=[_,_,_,_,_,_,_,_,_]
  have q:∀k,k<9->Jb.i (681+k)=J'.i (600+k):=fun k hk=>by rw[hcu k hk,hcut k hk,hJ.cu k hk]
  have w:∀k,k<9->(xi (681+k)).den Jb=(xi (600+k)).den J':=fun k hk=>by
   show AV.sc (.int .i64 (Jb.i (681+k)))=AV.sc (.int .i64 (J'.i (600+k)))
   rw[q k hk]
  exact congr (congr rfl (w 0 (by omega))) (congr (congr rfl (w 1 (by omega))) (congr (congr rfl (w 2 (by omega))) (congr (congr rfl (w 3 (by omega))) (congr (congr rfl (w 4 (by omega))) (congr (congr rfl (w 5 (by omega))) (congr (congr rfl (w 6 (by omega))) (congr (congr rfl (w 7 (by omega))) (congr (congr rfl (w 8 (by omega))) rfl))))))))
 have bO:∀cs:List X,(XS.mk [] [((0,0),cs)] 0).bel 600=true->aF Jb cs=aF J' cs:=fun cs hcs=>by
  have:=ni a7 [((0,0),cs)] hcs
  exact(Prod.mk.inj (List.cons.inj this).1).2
 have bR:X.denL Jb [xi 1,fE (0,1) 1 (.len 470),fE (0,2) 25 (.len 470)]=X.denL J' [xi 1,fE (0,1) 1 (.len 470),fE (0,2) 25 (.len 470)]:=X.belL_den a7 _ (by kernel_rfl)
 have oK:=bO kR (by kernel_rfl)
 have oO:=bO oR (by kernel_rfl)
 have cell:∀(td td':X) (rd:Int) (b:Bool),td.den Jb=td'.den J'->aF Jb ([xi 1,fE (0,1) 1 (.len 470),fE (0,2) 25 (.len 470),td,xn rd]++vi 681 9++[xl b,xn 0])=aF J' ([xi 1,fE (0,1) 1 (.len 470),fE (0,2) 25 (.len 470),td',xn rd]++vi 600 9++[xl b,xn 0]):=fun td td' rd b htd=>by
  have p1:X.denL Jb [xi 1,fE (0,1) 1 (.len 470),fE (0,2) 25 (.len 470),td,xn rd]=X.denL J' [xi 1,fE (0,1) 1 (.len 470),fE (0,2) 25 (.len 470),td',xn rd]:=by
   show X.denL Jb [xi 1,fE (0,1) 1 (.len 470),fE (0,2) 25 (.len 470)]++(td.den Jb::X.denL Jb [xn rd])=X.denL J' [xi 1,fE (0,1) 1 (.len 470),fE (0,2) 25 (.len 470)]++(td'.den J'::X.denL J' [xn rd])
   rw[bR,htd]
   rfl
  have p3:X.denL Jb [xl b,xn 0]=X.denL J' [xl b,xn 0]:=rfl
  rw[bC rfl,bC rfl,X.denL_append (m:=[xl b,xn 0]),X.denL_append (m:=[xl b,xn 0]),X.denL_append (m:=vi 681 9),X.denL_append (m:=vi 600 9),eC,p1,p3]
 refine aj1 g (X.belL_den a7 _ (ap8 has)) (ni a7 gD0 aI0) rfl ?_
 cases again with
 | false =>
  have e:=cell (.k (.slice none 0 0)) (.k (.slice none 0 0)) 1 true rfl
  have this:([((0,0),some (aF Jb ([xi 1,fE (0,1) 1 (.len 470),fE (0,2) 25 (.len 470),.k (.slice none 0 0),xn 1]++vi 681 9++[xl true,xn 0]))),((0,1),some (aF Jb kR)),((0,2),some (aF Jb [.rows 25 (.len 470) rq])),((0,3),some (aF Jb oR))]:Dl)=[((0,0),some (aF J' ([xi 1,fE (0,1) 1 (.len 470),fE (0,2) 25 (.len 470),.k (.slice none 0 0),xn 1]++vi 600 9++[xl true,xn 0]))),((0,1),some (aF J' kR)),((0,2),some (aF J' [.rows 25 (.len 470) (mM has)])),((0,3),some (aF J' oR))]:=by
   rw[e,oK,eA,oO]
  exact this
 | true =>
  obtain⟨q1,q2⟩:=hQ rfl
  have hlen:Jb.len 690=J'.len 610:=by rw[q1,hJ.ln]
  have e:=cell (.slv (1,0) 1 (.lit 0) (.len 690) true) (.slv (1,0) 1 (.lit 0) (.len 610) true) 2 false (by
   simp only[X.den,IE.den,hlen])
  have er:aF Jb [.rows 1 (.len 690) (.var 690 [.i .i64])]=aF J' [.rows 1 (.len 610) (.var 610 [.i .i64])]:=by
   show(aC Jb (.len 690) (.var 690 [.i .i64])).flatten=(aC J' (.len 610) (.var 610 [.i .i64])).flatten
   congr 1
   unfold aC
   have h1:((IE.len 690).den Jb).toNat=(bF Ja (J.len 470)).length:=by show((Jb.len 690:Nat):Int).toNat=_;rw[q1];exact Int.toNat_natCast _
   have h2:((IE.len 610).den J').toNat=(bF Ja (J.len 470)).length:=by show((J'.len 610:Nat):Int).toNat=_;rw[hJ.ln];exact Int.toNat_natCast _
   rw[h1,h2]
   refine List.map_congr_left fun j hj => ?_
   have hj:=List.mem_range.1 hj
   obtain⟨v,hv⟩:∃v,(bF Ja (J.len 470))[j]? = some v:=⟨_,List.getElem?_eq_getElem hj⟩
   show [AV.sc (.int .i64 (Jb.ci 690 0 ((j:Int)).toNat))]=[AV.sc (.int .i64 (J'.ci 610 0 ((j:Int)).toNat))]
   rw[Int.toNat_natCast,q2 j v hv,hJ.ce j v hv]
  have this:([((0,0),some (aF Jb ([xi 1,fE (0,1) 1 (.len 470),fE (0,2) 25 (.len 470),.slv (1,0) 1 (.lit 0) (.len 690) true,xn 2]++vi 681 9++[xl false,xn 0]))),((0,1),some (aF Jb kR)),((0,2),some (aF Jb [.rows 25 (.len 470) rq])),((0,3),some (aF Jb oR)),((1,0),some (aF Jb [.rows 1 (.len 690) (.var 690 [.i .i64])]))]:Dl)=[((0,0),some (aF J' ([xi 1,fE (0,1) 1 (.len 470),fE (0,2) 25 (.len 470),.slv (1,0) 1 (.lit 0) (.len 610) true,xn 2]++vi 600 9++[xl false,xn 0]))),((0,1),some (aF J' kR)),((0,2),some (aF J' [.rows 25 (.len 470) (mM has)])),((0,3),some (aF J' oR)),((1,0),some (aF J' [.rows 1 (.len 610) (.var 610 [.i .i64])]))]:=by
   rw[e,oK,eA,oO,er]
  exact this
end Go.Proofs.YtpdfmnhgocpkcaaGreat
