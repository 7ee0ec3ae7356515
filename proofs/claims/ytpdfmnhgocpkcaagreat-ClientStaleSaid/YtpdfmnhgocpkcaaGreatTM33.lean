/- Parts of the proof, one behind the other. -/
import Derived.Test.YtpdfmnhgocpkcaaGreatTM32
import Derived.Test.YtpdfmnhgocpkcaaGreatTM15
namespace Go.Proofs.YtpdfmnhgocpkcaaGreat
open Go Go.Proofs.Aw Go.Proofs.Xw
set_option maxRecDepth 100000
def o8:X := .rl 20 (.len 651) (.var 651 fI) false
def aax:List X:=List.replicate 9 (xn 0)
def Pc (i:X):ba:=[(4,i),(3,.ptr (1,0) [] 0),(2,.ptr (0,0) [] 0),(0,o8)]
def O_ (v:List X):au:=[((0,0),aax),((1,0),v)]
def Hq:XS:=⟨Pc (xn 0),O_ aax,3⟩
def Cw:XS:=⟨Pc (xi 720),O_ (vi 660 9),3⟩
def Pb:XS:=⟨Pc .top,O_ (vi 660 9),40⟩
noncomputable def v8:Code:=(dP (Tryz.f114.body.getD .skip))[0]?.getD .skip
def Dg:U := .op .add .i64 (.var 720) (.lit 1)
def js (k:Nat):U := .cl 651 k (.var 720)
def Cu (c k:Nat):U:=if Nat.beq k c=true then .op .max .i64 (.op .max .i64 (.op .max .i64 (.lit 0) (.var (660+k))) (js (9+k))) (js 2)else .op .max .i64 (.op .max .i64 (.lit 0) (.var (660+k))) (js (9+k))
def mP (a b:Nat):J:=[(.eq (js 0) (.lit a),true),(.eq (js 1) (.lit b),true)]
def hV (a b:Nat):Alt:=⟨0,[],[],(List.range 9).map (fun k=>(660+k,Cu (3*a+b) k)),[],mP a b⟩
def aop:List dm:=[⟨Cw,[],[hV 0 0,hV 0 1,hV 0 2,hV 1 0,hV 1 1,hV 1 2,hV 2 0,hV 2 1,hV 2 2]⟩]
def nl:J:=[(.lt (.var 720) (.lit 0),false),(.lt (.var 720) (.len 651),true),(.lt (.len 651) Dg,false),(.lt Dg (.lit 0),false),(.lt (.lit 6) (.len 651),false)]
def XA:J:=[(.lt (.var 720) (.lit 0),false),(.lt (.var 720) (.len 651),false)]
noncomputable def Ct:cr:=⟨bd [] (fun _=>[]),[],[]⟩
noncomputable def XC (B:J):T (XE×XS):=(ck Ct.c.ti (eD Ct 12) ((Ct.c.hv 114).elim [] (·.ms)) 0 [] 1000 v8 B Cw).map (dV (Cw.t.map (·.1)))
noncomputable def pK (B:J):Bool:=dB 0 655 720 [] (0,[]) 0 aop Pb .normal B (XC B)
noncomputable def psX (B:J):Bool:=dB 0 655 720 [] (0,[]) 0 [] Pb (.exit 0) B (XC B)
theorem aor:pK (mP 0 0++nl)=true:=by kernel_rfl
theorem aos:pK (mP 0 1++nl)=true:=by kernel_rfl
theorem aot:pK (mP 0 2++nl)=true:=by kernel_rfl
theorem aou:pK (mP 1 0++nl)=true:=by kernel_rfl
theorem aov:pK (mP 1 1++nl)=true:=by kernel_rfl
theorem aow:pK (mP 1 2++nl)=true:=by kernel_rfl
theorem aox:pK (mP 2 0++nl)=true:=by kernel_rfl
theorem aoy:pK (mP 2 1++nl)=true:=by kernel_rfl
theorem aoz:pK (mP 2 2++nl)=true:=by kernel_rfl
theorem aoG:psX XA=true:=by kernel_rfl
theorem aoA {a b:Nat} (ha:a<3) (hb:b<3):pK (mP a b++nl)=true:=by
 rcases(show a=0\/a=1\/a=2 by omega)with rfl | rfl | rfl<;>rcases(show b=0\/b=1\/b=2 by omega)with rfl | rfl | rfl
 ·exact aor
 ·exact aos
 ·exact aot
 ·exact aou
 ·exact aov
 ·exact aow
 ·exact aox
 ·exact aoy
 ·exact aoz
noncomputable def HN (ρ:aa) (r:Nat):aa:={ ρ with i:=fun k=>ρ.ci 651 k r,s:=fun k=>ρ.cs 651 k r,b:=fun k=>ρ.cb 651 k r }
noncomputable def sf (ρ:aa) (r:Nat):List Value:=(kP 0).I (HN ρ r)
noncomputable def mB (ρ:aa) (k:Nat):Nat->Int
 | 0=>0
 | r+1=>max (max 0 (mB ρ k r)) (UF 3 (sf ρ r) k)
theorem aoe {ρ:aa} {r:Nat} (h:UF 2 (sf ρ r) 0=1):(0<=ρ.ci 651 0 r/\ρ.ci 651 0 r<=2)/\(0<=ρ.ci 651 1 r/\ρ.ci 651 1 r<=2)/\1<=ρ.ci 651 2 r/\∀k:Nat,k<9->0<=ρ.ci 651 (9+k) r/\UF 3 (sf ρ r) k=max (max 0 (ρ.ci 651 (9+k) r)) (if ρ.ci 651 0 r*3+ρ.ci 651 1 r=k then ρ.ci 651 2 r else 0):=by
 obtain⟨g2,hg2⟩:=QK (HN ρ r)
 obtain⟨v0,q1,q2,q3⟩:=(iz hg2).tg h
 obtain⟨g3,hg3⟩:=aac (ρ:=HN ρ r) h
 have q4:=(iz hg3).tg
 have xo:∀k:Nat,k<9->vI ((kP 0).I (HN ρ r)) (9+k)=ρ.ci 651 (9+k) r:=fun k u=>by
  rcases(show k=0\/k=1\/k=2\/k=3\/k=4\/k=5\/k=6\/k=7\/k=8 by omega)with rfl | rfl | rfl | rfl | rfl | rfl | rfl | rfl | rfl<;>rfl
 refine⟨v0,q1,q2.1,fun k u=>⟨?_,?_⟩⟩
 ·have:=(q3 k u).1
  rw[xo k u]at this
  exact this
 ·have:=q4 k u
  unfold v5 at this
  rw[xo k u]at this
  exact this
end Go.Proofs.YtpdfmnhgocpkcaaGreat
namespace Go.Proofs.YtpdfmnhgocpkcaaGreat
open Go Go.Proofs.Aw Go.Proofs.Xw
set_option maxRecDepth 100000
theorem XD:da Tryz.f114.ntmps v8=true:=by kernel_rfl
theorem aoB:Hq.ar 655=true:=by kernel_rfl
def XB:Bind:=⟨(720,.lit 0)::(List.range 9).map (fun k=>(660+k,.lit 0)),[],[],[]⟩
theorem aoC:ff 0 655 XB [] Cw Hq=true:=by kernel_rfl
noncomputable def Cv:bj:=⟨(dt v8).getD 0,0,655,Hq,gz,[],.ret (.exit 0,Pb)⟩
structure PsI (am ρ:aa):Prop where
 ah:az 655 am ρ
 m:∃m:Nat,m<=am.len 651/\ρ.i 720=m/\∀k,k<9->ρ.i (660+k)=mB am k m
theorem aoq {ρ:aa} {m:Nat} (hm:ρ.i 720=m) (c k:Nat):(Cu c k).I ρ=if k=c then max (max (max 0 (ρ.i (660+k))) (ρ.ci 651 (9+k) m)) (ρ.ci 651 2 m)else max (max 0 (ρ.i (660+k))) (ρ.ci 651 (9+k) m):=by
 have e:∀q,(js q).I ρ=ρ.ci 651 q m:=fun q=>by
  show ρ.ci 651 q (ρ.i 720).toNat=_
  rw[hm,Int.toNat_natCast]
 unfold Cu
 by_cases h:k=c
 ·subst h
  rw[if_pos (Nat.beq_refl k),if_pos rfl]
  show max (max (max 0 (ρ.i (660+k))) ((js (9+k)).I ρ)) ((js 2).I ρ)=_
  rw[e,e]
 ·rw[if_neg (by simpa using h),if_neg h]
  show max (max 0 (ρ.i (660+k))) ((js (9+k)).I ρ)=_
  rw[e]
theorem acw {a:Alt} (h:a∈[hV 0 0,hV 0 1,hV 0 2,hV 1 0,hV 1 1,hV 1 2,hV 2 0,hV 2 1,hV 2 2]):∃x y:Nat,a=hV x y:=by
 simp only[List.mem_cons,List.not_mem_nil,or_false]at h
 rcases h with rfl | rfl | rfl | rfl | rfl | rfl | rfl | rfl | rfl<;>exact⟨_,_,rfl⟩
theorem aoD {ρ:aa} (n6:ρ.len 651<=6) (hE:∀r,r<ρ.len 651->UF 2 (sf ρ r) 0=1):∃ao,az 655 ρ ao/\(∀k,k<9->ao.i (660+k)=mB ρ k (ρ.len 651))/\bY Tryz.prog ao Tryz.f114.ntmps v8 Cv:=by
 have H:∀F,b4 Tryz.prog F Ct.c:=fun F=>kW (List.forall_mem_nil _)
 refine ot (P:=Tryz.prog) (N:=Tryz.f114.ntmps) (body:=v8) (k0:=0) (n:=655) (S0:=Hq) (ρ:=ρ) aoB (fun _=>Cw) Cv ⟨rfl,rfl,rfl⟩ (fun _ F=>PsI ρ F) (fun F=>∀k,k<9->F.i (660+k)=mB ρ k (ρ.len 651)) (fun F=>ρ.len 651-(F.i 720).toNat) (fun _ F hR => ?_) ⟨0,XB.ap ρ,Bind.bq (by kernel_rfl) ρ,⟨Bind.bq (by kernel_rfl) ρ,0,Nat.zero_le _,rfl,nine rfl rfl rfl rfl rfl rfl rfl rfl rfl⟩,fun ac _ bI=>jE bI aoC ρ⟩
 have ah:=hR.ah
 obtain⟨m,hm,hi,iN⟩:=hR.m
 have l4:F.len 651=ρ.len 651:=(ah.len 651 (by decide)).symm
 have aP:=eU (c:=Ct) (H F) (List.forall_mem_nil _) 12
 have t8:∀q r,F.ci 651 q r=ρ.ci 651 q r:=fun q r=>by rw[<-ah.ci 651 (by decide)]
 by_cases aQ:m<ρ.len 651
 ·right
  obtain⟨aua,p1,p2,GE⟩:=aoe (hE m aQ)
  have hp:Dg.I F=m+1:=by
   refine(show Dg.I F=IntKind.i64.wrap (F.i 720+1)from rfl).trans ?_
   rw[hi];exact ca _ (by omega) (by omega)
  have u:J.ok F nl:=fR (show(0:Int)<=F.i 720 by omega) (J.av (decide_eq_true (by show F.i 720<(F.len 651:Int);omega)) (fF (show Dg.I F<=(F.len 651:Int)by rw[hp];omega) (fR (by rw[hp];omega) (j1 (show(F.len 651:Int)<=6 by omega) (J.bt _)))))
  have e65d:∀q,(js q).I F=ρ.ci 651 q m:=fun q=>by
   show F.ci 651 q (F.i 720).toNat=_
   rw[hi,Int.toNat_natCast,t8]
  obtain⟨a,b,ha,hb,i3,KH⟩:∃a b:Nat,a<3/\b<3/\ρ.ci 651 0 m=a/\ρ.ci 651 1 m=b:=⟨(ρ.ci 651 0 m).toNat,(ρ.ci 651 1 m).toNat,by omega,by omega,by omega,by omega⟩
  have hd:J.ok F (mP a b++nl):=J.av (by show((js 0).I F==(a:Int))=true;rw[e65d,i3];exact beq_self_eq_true _) (J.av (by show((js 1).I F==(b:Int))=true;rw[e65d,KH];exact beq_self_eq_true _) u)
  obtain⟨j,C,aw,g1,g2,_,g4,g5,_,g7⟩:=kL mixed cR aP (a1.nil _ _ _ _) XD hd (aoA ha hb)
  have e4:aw.i 720=m+1:=by rw[g4,hi];exact ca _ (by omega) (by omega)
  match j,g1 with
  | 0,g1 =>
   cases g1
   refine⟨0,aw,g2,⟨ah.trans g5,m+1,by omega,by omega,fun k kb => ?_⟩,by omega,g5⟩
   rcases g7 with g7 | ⟨di,Fo,_,a2⟩
   ·cases g7
   ·obtain⟨x,y,rfl⟩:=acw Fo
    have hx:(js 0).I F=x:=by
     have:=a2.1 _ List.mem_cons_self
     exact eq_of_beq (show((js 0).I F==(x:Int))=true from this)
    have hy:(js 1).I F=y:=by
     have:=a2.1 _ (List.mem_cons_of_mem _ List.mem_cons_self)
     exact eq_of_beq (show((js 1).I F==(y:Int))=true from this)
    rw[e65d]at hx hy
    have R:aw.i (660+k)=(Cu (3*x+y) k).I F:=a2.2.2.1 (660+k,Cu (3*x+y) k) (List.mem_map.2 ⟨k,List.mem_range.2 kb,rfl⟩)
    rw[R,aoq hi,iN k kb,t8,t8]
    obtain⟨d0,d1⟩:=GE k kb
    show _=max (max 0 (mB ρ k m)) (UF 3 (sf ρ m) k)
    rw[d1]
    by_cases sE:k=3*x+y
    ·rw[if_pos sE,if_pos (by omega)]
     omega
    ·rw[if_neg sE,if_neg (by omega)]
     omega
  | j+1,g1=>cases g1
 ·left
  obtain rfl:m=ρ.len 651:=by omega
  have u:J.ok F XA:=fR (show(0:Int)<=F.i 720 by omega) (J.av (decide_eq_false (by show ¬F.i 720<(F.len 651:Int);omega)) (J.bt _))
  refine⟨iN,?_⟩
  rcases gC mixed cR aP (a1.nil _ _ _ _) XD u aoG with h | ⟨j,C,_,g1,_⟩
  ·exact h
  ·simp at g1
noncomputable def O' (g:Nat):List bj:=if Nat.beq g 114=true then [Cv]else []
noncomputable def O9:cr:=⟨bd [] O',[],[]⟩
theorem aoF:iw (aM O9 114 [o8] [(.lt (.lit 6) (.len 651),false)]) (.ret (.agg (vi 660 9)))=true:=by kernel_rfl
theorem aoE {ρ:aa} (h:bY Tryz.prog ρ Tryz.f114.ntmps v8 Cv):∀g i,eC g gb=some i->a1 Tryz.prog ρ i.ntmps (O' g) i.body:=fun g i hi=>by
 unfold O'
 split
 ·rename_i hf
  have hf:=Nat.eq_of_beq_eq_true hf
  subst hf
  have gc:ji Tryz.prog 114 i:=mS (114,i) (jW _ _ (jV hi))
  refine ou gc Tryz.func114 ?_
  exact kv (c:=Tryz.f114.body.getD .skip) [0] (by kernel_rfl) (List.forall_mem_cons.2 ⟨ku (L:=Cv) (c:=v8) (by kernel_rfl) h,List.forall_mem_nil _⟩)
 ·exact a1.nil _ _ _ _
theorem aod {ρ:aa} (n6:ρ.len 651<=6) (hE:∀r,r<ρ.len 651->UF 2 (sf ρ r) 0=1):Cy 114 (X.af ρ [o8]) (.agg ((List.range 9).map fun k => .sc (.int .i64 (mB ρ k (ρ.len 651))))):=by
 obtain⟨ao,ah,hq,hL⟩:=aoD n6 hE
 have H:b4 Tryz.prog ao O9.c:=hj (List.forall_mem_nil _) (aoE hL)
 have u:J.ok ao [(.lt (.lit 6) (.len 651),false)]:=j1 (show(ao.len 651:Int)<=6 by rw[<-ah.len 651 (by decide)];omega) (J.bt _)
 have q:=ec H (List.forall_mem_nil _) u (show(aM O9 114 [o8] [(.lt (.lit 6) (.len 651),false)]).aq ao=some _ by rw[p8 aoF];rfl)
 have e1:X.af ρ [o8]=X.af ao [o8]:=X.fZ ah _ (by kernel_rfl)
 have e2:X.I ao (.agg (vi 660 9)) = .agg ((List.range 9).map fun k => .sc (.int .i64 (mB ρ k (ρ.len 651)))):=by
  show AV.agg (X.af ao ((List.range 9).map fun j=>xi (660+j)))=_
  rw[X.l5,List.map_map]
  congr 1
  refine List.map_congr_left fun j O => ?_
  show AV.sc (.int .i64 (ao.i (660+j)))=_
  rw[hq j (List.mem_range.1 O)]
 rw[e1,<-e2]
 exact q
end Go.Proofs.YtpdfmnhgocpkcaaGreat
namespace Go.Proofs.YtpdfmnhgocpkcaaGreat
open Go Go.Proofs.Aw Go.Proofs.Xw
set_option maxRecDepth 100000
noncomputable def uT (ρ:aa) (k:Nat) (l:List Nat):Int:=l.foldl (fun a (v:Nat)=>max (max 0 a) (UF 3 (k5 ρ (v:Int)) k)) 0
theorem T8 (ρ:aa) (k:Nat) (l:List Nat) (v:Nat):uT ρ k (l++[v])=max (max 0 (uT ρ k l)) (UF 3 (k5 ρ (v:Int)) k):=by
 unfold uT
 rw[List.foldl_append]
 rfl
theorem Kp {ρ:aa} {k:Nat} (H:0<=ρ.i (405+k)):∀m,ia ρ k m=max (ρ.i (405+k)) (uT ρ k (dX ρ m))
 | 0=>by
  show ρ.i (405+k)=max (ρ.i (405+k)) 0
  omega
 | m+1=>by
  have ih:=Kp H m
  show(if ρ.cb 625 1 m=true then max (max 0 (ia ρ k m)) (UF 3 (k5 ρ m) k)else ia ρ k m)=_
  rw[TS]
  by_cases h:ρ.cb 625 1 m=true
  ·rw[if_pos h,if_pos h,T8,ih]
   generalize UF 3 (k5 ρ ((m:Nat):Int)) k=Y
   generalize uT ρ k (dX ρ m)=aU
   omega
  ·rw[if_neg h,if_neg h,List.append_nil,ih]
theorem Tr {am ρ:aa} {r:Nat} {x:Int} (h:(RL.var 651 fI).row ρ (r:Int)=dj am x):sf ρ r=k5 am x:=by
 have ci:∀k:Nat,aG ((RL.var 651 fI).row ρ (r:Int))[k]? = aG (dj am x)[k]? := fun k=>by rw[h]
 have cs:∀k:Nat,cellS ((RL.var 651 fI).row ρ (r:Int))[k]? = cellS (dj am x)[k]? := fun k=>by rw[h]
 have cb:∀k:Nat,dK ((RL.var 651 fI).row ρ (r:Int))[k]? = dK (dj am x)[k]? := fun k=>by rw[h]
 have i0:ρ.ci 651 0 r=aG (dj am x)[0]? := ci 0
 have i1:ρ.ci 651 1 r=aG (dj am x)[1]? := ci 1
 have oe:ρ.ci 651 2 r=aG (dj am x)[2]? := ci 2
 have vm:ρ.ci 651 3 r=aG (dj am x)[3]? := ci 3
 have jx:ρ.ci 651 4 r=aG (dj am x)[4]? := ci 4
 have MR:ρ.ci 651 5 r=aG (dj am x)[5]? := ci 5
 have YK:ρ.cs 651 6 r=cellS (dj am x)[6]? := cs 6
 have YL:ρ.cs 651 7 r=cellS (dj am x)[7]? := cs 7
 have acS:ρ.cb 651 8 r=dK (dj am x)[8]? := cb 8
 have agE:ρ.ci 651 9 r=aG (dj am x)[9]? := ci 9
 have i10:ρ.ci 651 10 r=aG (dj am x)[10]? := ci 10
 have i11:ρ.ci 651 11 r=aG (dj am x)[11]? := ci 11
 have i12:ρ.ci 651 12 r=aG (dj am x)[12]? := ci 12
 have i13:ρ.ci 651 13 r=aG (dj am x)[13]? := ci 13
 have i14:ρ.ci 651 14 r=aG (dj am x)[14]? := ci 14
 have i15:ρ.ci 651 15 r=aG (dj am x)[15]? := ci 15
 have i16:ρ.ci 651 16 r=aG (dj am x)[16]? := ci 16
 have i17:ρ.ci 651 17 r=aG (dj am x)[17]? := ci 17
 have i18:ρ.ci 651 18 r=aG (dj am x)[18]? := ci 18
 have i19:ρ.ci 651 19 r=aG (dj am x)[19]? := ci 19
 show [Value.int .i64 (ρ.ci 651 0 r),.int .i64 (ρ.ci 651 1 r),.int .i64 (ρ.ci 651 2 r),.int .i64 (ρ.ci 651 3 r),.int .i64 (ρ.ci 651 4 r),.int .i64 (ρ.ci 651 5 r),.string (ρ.cs 651 6 r),.string (ρ.cs 651 7 r),.bool (ρ.cb 651 8 r),.int .i64 (ρ.ci 651 9 r),.int .i64 (ρ.ci 651 10 r),.int .i64 (ρ.ci 651 11 r),.int .i64 (ρ.ci 651 12 r),.int .i64 (ρ.ci 651 13 r),.int .i64 (ρ.ci 651 14 r),.int .i64 (ρ.ci 651 15 r),.int .i64 (ρ.ci 651 16 r),.int .i64 (ρ.ci 651 17 r),.int .i64 (ρ.ci 651 18 r),.int .i64 (ρ.ci 651 19 r)]=_
 rw[i0,i1,oe,vm,jx,MR,YK,YL,acS,agE,i10,i11,i12,i13,i14,i15,i16,i17,i18,i19]
 rfl
theorem Xu {am ρ:aa} {k:Nat} {l:List Nat} (h:∀(r v:Nat),l[r]? = some v->(RL.var 651 fI).row ρ (r:Int)=dj am (v:Int)):∀r,r<=l.length->mB ρ k r=uT am k (l.take r)
 | 0,_=>rfl
 | r+1,hr=>by
  have ih:=Xu (k:=k) h r (by omega)
  obtain⟨v,R⟩:∃v,l[r]? = some v:=⟨_,List.getElem?_eq_getElem (by omega)⟩
  rw[List.take_add_one,R]
  show max (max 0 (mB ρ k r)) (UF 3 (sf ρ r) k)=uT am k (l.take r++[v])
  rw[T8,ih,Tr (h r v R)]
theorem adS {am ρ:aa} {k n:Nat} (H:0<=am.i (405+k)) (M:ρ.len 651=(dX am n).length) (h:∀(r v:Nat),(dX am n)[r]? = some v->(RL.var 651 fI).row ρ (r:Int)=dj am (v:Int)):ia am k n=max (max 0 (am.i (405+k))) (mB ρ k (ρ.len 651)):=by
 rw[Kp H,Xu (k:=k) h _ (by omega),M,List.take_length]
 omega
theorem adR {am:aa} {k n:Nat} (H:0<=am.i (405+k)) (h:dX am n=[]):ia am k n=max (max 0 (am.i (405+k))) 0:=by
 rw[Kp H,h]
 show max (am.i (405+k)) 0=_
 omega
end Go.Proofs.YtpdfmnhgocpkcaaGreat
namespace Go.Proofs.YtpdfmnhgocpkcaaGreat
open Go Go.Proofs.Aw Go.Proofs.Xw
set_option maxRecDepth 100000
def nV (i:U):BE := .lt (.cl 625 22 i) (rB 681 i)
def qs (i:U):BE := .lt (.cl 625 23 i) (rB 684 i)
def uH (i:U):BE := .lt (.cl 625 24 i) (rB 687 i)
def l7 (i:U):BE := .or (nV i) (.or (qs i) (uH i))
def t3C (dM:List X):List X:=[xi 1,aY (0,1) 1 (.len 470),aY (0,2) 25 (.len 470),fx false,xn 1]++dM++[xl false,xn 0]
def t3K (s:Bool):au:=if s=true then [((73,0),[.rows 20 (.len 651) (.var 651 fI)])]else []
def Is (s:Bool) (dM:List X):au:=[((0,0),t3C dM),((0,1),kR),((0,2),[.rows 25 (.len 470) c5]),((0,3),oR)]++t3K s
def arD:ba:=([1,3,4,5,7,11,12,13,14,15,16,17,24,25,26]++(List.range 54).map (29 + ·)++(List.range 10).map (114 + ·)).map fun k=>(k,.top)
def C6 (s:Bool) (i td:X):ba:=(9,i)::(8,td)::(6,if s=true then tO else pB)::(0,.ptr (0,0) [] 0)::arD
def Zr:X := .slv (133,0) 1 (.lit 0) (.len 690) true
def EC (s:Bool) (k:Nat):U := .op .max .i64 (.op .max .i64 (.lit 0) (.var (405+k))) (if s=true then .var (671+k)else .lit 0)
def cuX (s:Bool):List X:=(List.range 9).map fun k => .sc (.i .i64 (EC s k))
def tL (s:Bool):XS:=⟨C6 s (xn 0) pB,Is s (cuX s),133⟩
def Zq (s:Bool):au:=Is s (vi 681 9)++[((133,0),[.rows 1 (.len 690) (.var 690 [.i .i64])])]
def nv (s again:Bool):XS:=if again=true then⟨C6 s (xi 710) Zr,Zq s,134⟩else⟨C6 s (xi 710) pB,Is s (vi 681 9),133⟩
def Qp (s again:Bool):XS:=if again=true then⟨C6 s .top Zr,Zq s,200⟩else⟨C6 s .top pB,Is s (vi 681 9),200⟩
noncomputable def rK:Code:=(dP (Tryz.f115.body.getD .skip))[1]?.getD .skip
def BR:List Nat:=[681,682,683,684,685,686,687,688,689]
def Qo (s:Bool):List dm:=[⟨nv s false,[],[⟨0,BR,[690],[],[],[(l7 c7,false)]⟩]⟩,⟨nv s true,[],[⟨0,BR,[],[],[(690,.lit 1,.one [eb c7])],[(l7 c7,true)]⟩,⟨1,BR,[690],[],[],[(l7 c7,false)]⟩,⟨1,BR,[],[],[(690,.op .cV .i64 (.len 690) (.lit 1),.app (.len 690) (.var 690 [.i .i64]) (.one [eb c7]))],[(l7 c7,true)]⟩]⟩]
def C3:J:=[(.lt (.var 710) (.lit 0),false),(.lt (.var 710) (.len 470),true),(.lt (.len 470) q7,false),(.lt q7 (.lit 0),false),(.lt (.lit 16) (.ch (.cl 470 0 (.var 710))),false),(.lt (.lit 6) (.len 690),false),uL]++(fO++(oS++dh))
def zm:J:=[(.lt (.var 710) (.lit 0),false),(.lt (.var 710) (.len 470),false)]++fO
noncomputable def Zs (s again:Bool) (B:J):T (XE×XS):=(ck g0.c.ti (eD g0 12) ((g0.c.hv 115).elim [] (·.ms)) 2 [] 1000 rK B (nv s again)).map (dV ((nv s again).t.map (·.1)))
noncomputable def gX (s again:Bool) (B:J):Bool:=dB 2 680 710 [] (0,[]) (if again=true then 1 else 0) (Qo s) (Qp s again) .normal B (Zs s again B)
noncomputable def C7 (s again:Bool) (B:J):Bool:=dB 2 680 710 [] (0,[]) 0 [] (Qp s again) (.exit 2) B (Zs s again B)
def A0:J:=(nV c7,true)::C3
def A1:J:=(qs c7,true)::(nV c7,false)::C3
def A2:J:=(uH c7,true)::(qs c7,false)::(nV c7,false)::C3
def AZ:J:=(uH c7,false)::(qs c7,false)::(nV c7,false)::C3
theorem arH:(gX false false A0&&(gX false false A1&&(gX false false A2&&(gX false false AZ&&C7 false false zm))))=true:=by kernel_rfl
theorem arI:(gX false true A0&&(gX false true A1&&(gX false true A2&&(gX false true AZ&&C7 false true zm))))=true:=by kernel_rfl
theorem arJ:(gX true false A0&&(gX true false A1&&(gX true false A2&&(gX true false AZ&&C7 true false zm))))=true:=by kernel_rfl
theorem arK:(gX true true A0&&(gX true true A1&&(gX true true A2&&(gX true true AZ&&C7 true true zm))))=true:=by kernel_rfl
theorem arG (s a:Bool):gX s a A0=true/\gX s a A1=true/\gX s a A2=true/\gX s a AZ=true/\C7 s a zm=true:=by
 cases s<;>cases a
 ·have:=arH
  simpa only[Bool.and_eq_true]using this
 ·have:=arI
  simpa only[Bool.and_eq_true]using this
 ·have:=arJ
  simpa only[Bool.and_eq_true]using this
 ·have:=arK
  simpa only[Bool.and_eq_true]using this
theorem C8:da Tryz.f115.ntmps rK=true:=by kernel_rfl
theorem arE:((tL true).ar 680&&(tL false).ar 680)=true:=by kernel_rfl
def C5 (s:Bool):Bind:=⟨(710,.lit 0)::(List.range 9).map (fun k=>(681+k,EC s k)),[],[],[(690,.lit 0,.one [])]⟩
theorem arL:(ff 2 680 (C5 true) [] (nv true false) (tL true)&&ff 2 680 (C5 false) [] (nv false false) (tL false))=true:=by kernel_rfl
theorem arF (s:Bool):(tL s).ar 680=true:=by
 have:=arE
 simp only[Bool.and_eq_true]at this
 cases s
 ·exact this.2
 ·exact this.1
theorem arM (s:Bool):ff 2 680 (C5 s) [] (nv s false) (tL s)=true:=by
 have:=arL
 simp only[Bool.and_eq_true]at this
 cases s
 ·exact this.2
 ·exact this.1
noncomputable def C4 (s again:Bool):bj:=⟨(dt rK).getD 0,2,680,tL s,gz,[],.ret (.exit 2,Qp s again)⟩
noncomputable def Kx (ρ:aa) (x:Int):Bool:=(l7 (.var 0)).I (gL ρ x)
theorem ad5 (ρ:aa):(l7 c7).I ρ=Kx ρ (ρ.i 710):=rfl
theorem P2 {ρ F:aa} {k l:Nat} {x:Int} (hu:(tb (.var 0)).I (gL ρ x)=(tb (.var 0)).I (gL F x)) (u:k≠0/\l≠0) (h0:ρ.i k=F.i l) (A:ρ.i (k+1)=F.i (l+1)) (E:ρ.i (k+2)=F.i (l+2)):(rB k (.var 0)).I (gL ρ x)=(rB l (.var 0)).I (gL F x):=by
 have nI:(U.var k).I (gL ρ x)=(U.var l).I (gL F x):=by
  show(if k=0 then x else ρ.i k)=if l=0 then x else F.i l
  rw[if_neg u.1,if_neg u.2,h0]
 have bm:(U.var (k+1)).I (gL ρ x)=(U.var (l+1)).I (gL F x):=by
  show(if k+1=0 then x else ρ.i (k+1))=if l+1=0 then x else F.i (l+1)
  rw[if_neg (by omega),if_neg (by omega),A]
 have bl:(U.var (k+2)).I (gL ρ x)=(U.var (l+2)).I (gL F x):=by
  show(if k+2=0 then x else ρ.i (k+2))=if l+2=0 then x else F.i (l+2)
  rw[if_neg (by omega),if_neg (by omega),E]
 have d:∀(ρ:aa) (k:Nat),(rB k (.var 0)).I ρ=if((tb (.var 0)).I ρ==0)=true then(U.var k).I ρ else if((tb (.var 0)).I ρ==1)=true then(U.var (k+1)).I ρ else(U.var (k+2)).I ρ:=fun _ _=>rfl
 rw[d,d,hu,nI,bm,bl]
theorem ad6 {ρ F:aa} (ah:az 630 ρ F) (H:∀k,k<9->F.i (681+k)=ρ.i (640+k)) (x:Int):Kx F x=l3 ρ x:=by
 have hu:(tb (.var 0)).I (gL F x)=(tb (.var 0)).I (gL ρ x):=(U.aT (n:=630) (ρ:=gL ρ x) (F:=gL F x) ⟨fun k u=>by show(if k=0 then x else ρ.i k)=if k=0 then x else F.i k;rw[ah.i k u],ah.b,ah.s,ah.len,ah.ci,ah.cb,ah.cs,ah.ct⟩ _ (by kernel_rfl)).symm
 have s1:=P2 (k:=681) (l:=640) hu ⟨by decide,by decide⟩ (H 0 (by omega)) (H 1 (by omega)) (H 2 (by omega))
 have s2:=P2 (k:=684) (l:=643) hu ⟨by decide,by decide⟩ (H 3 (by omega)) (H 4 (by omega)) (H 5 (by omega))
 have s3:=P2 (k:=687) (l:=646) hu ⟨by decide,by decide⟩ (H 6 (by omega)) (H 7 (by omega)) (H 8 (by omega))
 have d:∀(k:Nat),(U.cl 625 k (.var 0)).I (gL F x)=(U.cl 625 k (.var 0)).I (gL ρ x):=fun k=>by
  show F.ci 625 k _=ρ.ci 625 k _
  rw[ah.ci 625 (by decide)]
  rfl
 unfold Kx l3 l7 lZ nV qs uH nU qo uF
 simp only[BE.I,s1,s2,s3,d]
end Go.Proofs.YtpdfmnhgocpkcaaGreat
namespace Go.Proofs.YtpdfmnhgocpkcaaGreat
open Go Go.Proofs.Aw Go.Proofs.Xw
set_option maxRecDepth 100000
structure Jq (am:aa) (m:Nat) (i:Nat) (ρ:aa):Prop where
 z:i=0->bO am m=[]
 b:i≠0->i=1/\bO am m≠[]/\ρ.len 690=(bO am m).length/\∀(r v:Nat),(bO am m)[r]? = some v->ρ.ci 690 0 r=(v:Int)
structure RM (b3 am ρ:aa) (i:Nat):Prop where
 ah:az 680 am ρ
 dM:∀k,k<9->ρ.i (681+k)=b3.i (640+k)
 l6:ρ.len 690<=6
 m:∃m:Nat,m<=am.len 470/\ρ.i 710=m/\Jq b3 m i ρ
theorem F8 {a:Alt} {ρ aw:aa} (h:gH a ρ aw) (e:a.ki=BR:=by rfl) (k:Nat) (u:k<9):aw.i (681+k)=ρ.i (681+k) :=
 h.2.1.1 (681+k) (by
  rw[e]
  rcases(show k=0\/k=1\/k=2\/k=3\/k=4\/k=5\/k=6\/k=7\/k=8 by omega)with rfl | rfl | rfl | rfl | rfl | rfl | rfl | rfl | rfl<;>decide)
theorem ado {ρ:aa} {bx:Prop} {aU:J} (u:J.ok ρ aU) (A:J.ok ρ ((nV c7,true)::aU)->bx) (E:J.ok ρ ((qs c7,true)::(nV c7,false)::aU)->bx) (h3:J.ok ρ ((uH c7,true)::(qs c7,false)::(nV c7,false)::aU)->bx) (h0:J.ok ρ ((uH c7,false)::(qs c7,false)::(nV c7,false)::aU)->bx):bx:=by
 rcases kV (nV c7) ρ with a | a
 ·exact A (J.av a u)
 ·rcases kV (qs c7) ρ with b | b
  ·exact E (J.av b (J.av a u))
  ·rcases kV (uH c7) ρ with c | c
   ·exact h3 (J.av c (J.av b (J.av a u)))
   ·exact h0 (J.av c (J.av b (J.av a u)))
theorem arU {s:Bool} {am ρ aw:aa} {m i j:Nat} {bM:dm} (hm:m<6) (hR:Jq am m i ρ) (h7:ρ.i 710=m) (H:(l7 c7).I ρ=l3 am m) (M:ρ.len 690<=6) (O:(Qo s)[j]? = some bM) (ha:bM.di=[]\/∃a∈bM.di,a.fr=i/\gH a ρ aw):(j=0\/j=1)/\Jq am (m+1) j aw/\aw.len 690<=6/\∀k,k<9->aw.i (681+k)=ρ.i (681+k):=by
 have hs:=ZG am m
 have hlen:=QB am (m+1)
 match j,O with
 | 0,O =>
  cases O
  simp only[List.cons_ne_nil,false_or,List.mem_cons,List.not_mem_nil,or_false]at ha
  obtain⟨a,rfl,dY,a2⟩:=ha
  have h0:0=i:=dY
  have cn:(l7 c7).I ρ=false:=a2.1 _ List.mem_cons_self
  have hz:=hR.z h0.symm
  have kc:=(a2.2.1.2 690 List.mem_cons_self).1
  refine⟨.inl rfl,⟨fun _ => ?_,fun h=>absurd rfl h⟩,by rw[kc];exact M,F8 a2⟩
  rw[hs,hz,if_neg (by rw[<-H,cn];decide)];rfl
 | 1,O =>
  cases O
  simp only[List.cons_ne_nil,false_or,List.mem_cons,List.not_mem_nil,or_false]at ha
  obtain⟨a,hq,dY,a2⟩:=ha
  rcases hq with rfl | rfl | rfl
  ·have h0:0=i:=dY
   have cn:(l7 c7).I ρ=true:=a2.1 _ List.mem_cons_self
   have hz:=hR.z h0.symm
   have e:bO am (m+1)=[m]:=by rw[hs,hz,if_pos (by rw[<-H,cn])];rfl
   obtain⟨l,ci,_,_⟩:=a2.2.2.2 _ List.mem_cons_self
   have l:aw.len 690=1:=l
   refine⟨.inr rfl,⟨fun h=>by omega,fun _=>⟨rfl,by rw[e];simp,by rw[e,l];rfl,fun r v R => ?_⟩⟩,by omega,F8 a2⟩
   rw[e]at R
   have hr:r=0:=by
    have:=(List.getElem?_eq_some_iff.1 R).1
    simpa using this
   subst hr
   have R:m=v:=by simpa using R
   have c0:aw.ci 690 0 0=ρ.i 710:=ci 0 0
   rw[c0,h7,R]
  ·have h0:1=i:=dY
   have cn:(l7 c7).I ρ=false:=a2.1 _ List.mem_cons_self
   obtain⟨_,b2,dr,fg⟩:=hR.b (by omega)
   have e:bO am (m+1)=bO am m:=by rw[hs,if_neg (by rw[<-H,cn];decide),List.append_nil]
   obtain⟨l,c,_,_⟩:=a2.2.1.2 690 List.mem_cons_self
   refine⟨.inr rfl,⟨fun h=>by omega,fun _=>⟨rfl,by rw[e];exact b2,by rw[e,l];exact dr,fun r v R => ?_⟩⟩,by omega,F8 a2⟩
   rw[e]at R
   rw[c];exact fg r v R
  ·have h0:1=i:=dY
   have cn:(l7 c7).I ρ=true:=a2.1 _ List.mem_cons_self
   obtain⟨_,b2,dr,fg⟩:=hR.b (by omega)
   have e:bO am (m+1)=bO am m++[m]:=by rw[hs,if_pos (by rw[<-H,cn])]
   obtain⟨l,ci,_,_⟩:=a2.2.2.2 _ List.mem_cons_self
   have l:aw.len 690=(((ρ.len 690:Nat):Int)+1).toNat:=l
   have l:aw.len 690=ρ.len 690+1:=by omega
   rw[e,List.length_append,List.length_singleton]at hlen
   refine⟨.inr rfl,⟨fun h=>by omega,fun _=>⟨rfl,by rw[e];simp,by rw[e,List.length_append,List.length_singleton,l,dr],fun r v R => ?_⟩⟩,by omega,F8 a2⟩
   rw[e]at R
   have c0:=ci 0 r
   by_cases hr:r<ρ.len 690
   ·have e8:(RL.app (.len 690) (.var 690 [.i .i64]) (.one [eb c7])).row ρ ((r:Nat):Int)=(RL.var 690 [.i .i64]).row ρ (r:Int):=by
     show(if(r:Int)<(ρ.len 690:Int)then _ else _)=_
     rw[if_pos (by omega)]
    rw[e8]at c0
    have c0:aw.ci 690 0 r=ρ.ci 690 0 r:=c0
    rw[List.getElem?_append_left (by omega)]at R
    rw[c0];exact fg r v R
   ·have e8:(RL.app (.len 690) (.var 690 [.i .i64]) (.one [eb c7])).row ρ ((r:Nat):Int)=[AV.sc (.int .i64 (ρ.i 710))]:=by
     show(if(r:Int)<(ρ.len 690:Int)then _ else _)=_
     rw[if_neg (by omega)];rfl
    rw[e8]at c0
    have c0:aw.ci 690 0 r=ρ.i 710:=c0
    rw[List.getElem?_append_right (by omega)]at R
    have qH:r-(bO am m).length=0:=by
     have:=(List.getElem?_eq_some_iff.1 R).1
     simpa using this
    rw[qH]at R
    have R:m=v:=by simpa using R
    rw[c0,h7,R]
 | j+2,O=>cases O
theorem Zt (s:Bool):(C5 s).ge 680=true:=by
 cases s<;>kernel_rfl
theorem arN (hS:∀s∈h2,c4 Tryz.prog s) {ρ b3:aa} (M:J.ok ρ dh) (hT:TI ρ) (dp:ρ.i 443=1) (jS:az 630 b3 ρ) (s again:Bool) (a9:∀k,k<9->(EC s k).I ρ=b3.i (640+k)) (ha:again = !(bO b3 (ρ.len 470)).isEmpty):∃ao,az 680 ρ ao/\((∀k,k<9->ao.i (681+k)=b3.i (640+k))/\(again=true->ao.len 690=(bO b3 (ρ.len 470)).length/\∀(r v:Nat),(bO b3 (ρ.len 470))[r]? = some v->ao.ci 690 0 r=(v:Int)))/\bY Tryz.prog ao Tryz.f115.ntmps rK (C4 s again):=by
 have A:=hT.n1
 have h6:=hT.n6
 have H:∀F,b4 Tryz.prog F g0.c:=fun F=>kW (List.forall_mem_nil _)
 refine ot (P:=Tryz.prog) (N:=Tryz.f115.ntmps) (body:=rK) (k0:=2) (n:=680) (S0:=(tL s)) (ρ:=ρ) (arF s) (fun i=>nv s (if i=0 then false else true)) (C4 s again) ⟨rfl,rfl,rfl⟩ (fun i F=>(i=0\/i=1)/\RM b3 ρ F i) (fun ao=>(∀k,k<9->ao.i (681+k)=b3.i (640+k))/\(again=true->ao.len 690=(bO b3 (ρ.len 470)).length/\∀(r v:Nat),(bO b3 (ρ.len 470))[r]? = some v->ao.ci 690 0 r=(v:Int))) (fun F=>ρ.len 470-(F.i 710).toNat) (fun i F hR => ?_) ⟨0,(C5 s).ap ρ,Bind.bq (Zt s) ρ,⟨.inl rfl,Bind.bq (Zt s) ρ,nine (a9 0 (by omega)) (a9 1 (by omega)) (a9 2 (by omega)) (a9 3 (by omega)) (a9 4 (by omega)) (a9 5 (by omega)) (a9 6 (by omega)) (a9 7 (by omega)) (a9 8 (by omega)),Nat.zero_le _,0,Nat.zero_le _,rfl,fun _=>rfl,fun h=>absurd rfl h⟩,fun ac _ bI=>jE bI (arM s) ρ⟩
 obtain⟨hi,hR⟩:=hR
 have ah:=hR.ah
 obtain⟨m,hm,h7,lb⟩:=hR.m
 have l4:F.len 470=ρ.len 470:=(ah.len 470 (by decide)).symm
 have aP:=eU (c:=g0) (H F) hS 12
 have j_:J.ok F fO:=yW (by rw[<-ah.i 443 (by decide)];exact dp) (by omega) (by omega)
 have pc:=hT.bq (ah.le (by decide))
 obtain⟨r1,r2,r3,r0,rx⟩:=arG s (if i=0 then false else true)
 by_cases aQ:m<ρ.len 470
 ·right
  have hq:q7.I F=m+1:=by
   refine(show q7.I F=IntKind.i64.wrap (F.i 710+1)from rfl).trans ?_
   rw[h7];exact ca _ (by omega) (by omega)
  have hky:=(pc.ky m (by omega)).2
  have se:(F.i 710).toNat=m:=by omega
  have dF:(uL.1).I F=true:=by
   show((F.len 474:Int)==F.i 440+F.i 443)=true
   rw[pc.rn];exact beq_self_eq_true _
  have dO:J.ok F (fO++(oS++dh)):=eg j_ (eg pc.tr (gP (n:=600) (ah.le (by decide)) (by kernel_rfl) M))
  have u:J.ok F C3:=by
   refine fR (show(0:Int)<=F.i 710 by omega) (J.av (decide_eq_true (by show F.i 710<(F.len 470:Int);omega)) (fF (show q7.I F<=(F.len 470:Int)by rw[hq];omega) (fR (by rw[hq];omega) (j1 ?_ (j1 (show(F.len 690:Int)<=6 by have:=hR.l6;omega) (J.av dF dO))))))
   show((F.cs 470 0 (F.i 710).toNat).size:Int)<=16
   rw[se];omega
  have cn:(l7 c7).I F=l3 b3 (m:Int):=by rw[ad5,h7,ad6 (jS.trans (ah.le (by decide))) hR.dM]
  have ir:(∃(j:Nat) (C:dm) (aw:aa),(Qo s)[j]? = some C/\ep Tryz.prog Tryz.f115.ntmps rK 2 (nv s (if i=0 then false else true)) C.S F aw/\J.ok aw C.b6/\aw.i 710=IntKind.i64.wrap (F.i 710+1)/\az 680 F aw/\(d' 0 [] F->d' 0 [] aw)/\(C.di=[]\/∃a∈C.di,a.fr=(if(if i=0 then false else true)=true then 1 else 0)/\gH a F aw))->∃i' aw,ep Tryz.prog Tryz.f115.ntmps rK 2 (nv s (if i=0 then false else true)) (nv s (if i'=0 then false else true)) F aw/\((i'=0\/i'=1)/\RM b3 ρ aw i')/\ρ.len 470-(aw.i 710).toNat<ρ.len 470-(F.i 710).toNat/\az 680 F aw:=fun⟨j,C,aw,g1,g2,_,g4,g5,_,g7⟩=>by
   have e4:aw.i 710=m+1:=by rw[g4,h7];exact ca _ (by omega) (by omega)
   have ul:(if(if i=0 then false else true)=true then 1 else 0)=i:=by rcases hi with rfl | rfl<;>rfl
   rw[ul]at g7
   obtain⟨q1,q2,q3,q4⟩:=arU (by omega) lb h7 cn hR.l6 g1 g7
   have An:C.S=nv s (if j=0 then false else true):=by
    rcases q1 with rfl | rfl<;>(cases g1;rfl)
   rw[An]at g2
   exact⟨j,aw,g2,⟨q1,ah.trans g5,fun k kb=>by rw[q4 k kb,hR.dM k kb],q3,m+1,by omega,by omega,q2⟩,by omega,g5⟩
  exact ado u (fun h=>ir (kL mixed cR aP (a1.nil _ _ _ _) C8 h r1)) (fun h=>ir (kL mixed cR aP (a1.nil _ _ _ _) C8 h r2)) (fun h=>ir (kL mixed cR aP (a1.nil _ _ _ _) C8 h r3)) (fun h=>ir (kL mixed cR aP (a1.nil _ _ _ _) C8 h r0))
 ·left
  obtain rfl:m=ρ.len 470:=by omega
  have u:J.ok F zm:=fR (show(0:Int)<=F.i 710 by omega) (J.av (decide_eq_false (by show ¬F.i 710<(F.len 470:Int);omega)) j_)
  have i3:again=(if i=0 then false else true):=by
   rcases hi with rfl | rfl
   ·rw[ha,lb.z rfl];rfl
   ·obtain⟨_,b2,_⟩:=lb.b (by decide)
    rw[ha]
    cases hq:bO b3 (ρ.len 470)with
    | nil=>exact absurd hq b2
    | cons _ _=>rfl
  refine⟨⟨hR.dM,fun cd => ?_⟩,?_⟩
  ·have:i≠0:=fun h=>by rw[i3,if_pos h]at cd;cases cd
   obtain⟨_,_,dr,fg⟩:=lb.b this
   exact⟨dr,fg⟩
  ·rw[i3]
   rcases gC mixed cR aP (a1.nil _ _ _ _) C8 u rx with h | ⟨j,C,_,g1,_⟩
   ·exact h
   ·simp at g1
end Go.Proofs.YtpdfmnhgocpkcaaGreat
namespace Go.Proofs.YtpdfmnhgocpkcaaGreat
open Go Go.Proofs.Aw Go.Proofs.Xw
set_option maxRecDepth 100000
def zQ (ag:Bool):List X:=[.ptr (0,0) [] 0,.agg ((mK ag).map .sc)]
def Iw (ag again:Bool):J:=(if again=true then [(.lt (.len 690) (.lit 1),false)]else [])++(qw ag++((bV 47,ag)::uL::(fO++(oS++(ko gZ++dh)))))
noncomputable def Qx (ag s again:Bool) (g:Nat):List bj:=if Nat.beq g 115=true then [oO ag s,C4 s again]else []
noncomputable def Zz (s:Bool):=if s=true then [(114,[o8],X.agg (vi 671 9))]else []
noncomputable def It (ag s again:Bool):cr:=⟨bd (Zz s) (Qx ag s again),h2,[10119,10114]⟩
def Ix (again:Bool):aL:=d4 ([xi 1,aY (0,1) 1 (.len 470),aY (0,2) 25 (.len 470),(if again=true then .slv (1,0) 1 (.lit 0) (.len 690) true else .k (.slice none 0 0)),xn (if again=true then 2 else 1)]++vi 681 9++[xl (!again),xn 0]) kR [.rows 25 (.len 470) c5] oR++(if again=true then [((1,0),some [.rows 1 (.len 690) (.var 690 [.i .i64])])]else [])
def FX (d:aL):T (X×aL)->Bool
 | .ret (r,e)=>X.beq r (xn 0)&&po.rX e d
 | _=>false
theorem agX {d:aL} {t:T (X×aL)} (h:FX d t=true):t = .ret (xn 0,d):=by
 cases t with
 | ret p =>
  obtain⟨r,e⟩:=p
  simp only[FX,Bool.and_eq_true]at h
  rw[X.beq_eq _ _ h.1,Ef h.2]
 | br _ _ _=>cases h
 | cL _ _=>cases h
 | fail _=>cases h
def gY (ag s again:Bool):Prop:=FX (Ix again) (fB (It ag s again) 115 (zQ ag) uV (Iw ag again))=true
theorem asf:gY false false false:=by unfold gY;kernel_rfl
theorem asg:gY false false true:=by unfold gY;kernel_rfl
theorem ash:gY false true false:=by unfold gY;kernel_rfl
theorem asi:gY false true true:=by unfold gY;kernel_rfl
theorem asj:gY true false false:=by unfold gY;kernel_rfl
theorem asl:gY true false true:=by unfold gY;kernel_rfl
theorem asm:gY true true false:=by unfold gY;kernel_rfl
theorem asn:gY true true true:=by unfold gY;kernel_rfl
theorem asp (ag s again:Bool):FX (Ix again) (fB (It ag s again) 115 (zQ ag) uV (Iw ag again))=true:=by
 cases ag<;>cases s<;>cases again
 ·exact asf
 ·exact asg
 ·exact ash
 ·exact asi
 ·exact asj
 ·exact asl
 ·exact asm
 ·exact asn
theorem asd (ag s again:Bool) {ρ:aa} (A:bY Tryz.prog ρ Tryz.f115.ntmps oN (oO ag s)) (E:bY Tryz.prog ρ Tryz.f115.ntmps rK (C4 s again)):∀g i,eC g gb=some i->a1 Tryz.prog ρ i.ntmps (Qx ag s again g) i.body:=fun g i hi=>by
 unfold Qx
 split
 ·rename_i hf
  have hf:=Nat.eq_of_beq_eq_true hf
  subst hf
  have gc:ji Tryz.prog 115 i:=mS (115,i) (jW _ _ (jV hi))
  refine ou gc Tryz.func115 ?_
  exact kv (c:=Tryz.f115.body.getD .skip) [0,1] (by cases ag<;>cases s<;>cases again<;>kernel_rfl) (List.forall_mem_cons.2 ⟨ku (L:=oO ag s) (c:=oN) (by cases ag<;>cases s<;>cases again<;>kernel_rfl) A,List.forall_mem_cons.2 ⟨ku (L:=C4 s again) (c:=rK) (by cases ag<;>cases s<;>cases again<;>kernel_rfl) E,List.forall_mem_nil _⟩⟩)
 ·exact a1.nil _ _ _ _
end Go.Proofs.YtpdfmnhgocpkcaaGreat
namespace Go.Proofs.YtpdfmnhgocpkcaaGreat
open Go Go.Proofs.Aw Go.Proofs.Xw
set_option maxRecDepth 100000
theorem arZ (s:Bool):(XS.mk (rL s).t (rL s).h (rL s).nx).ar 660=true:=by cases s<;>kernel_rfl
theorem ar0 (ag:Bool):(tP ag).ar 630=true:=List.all_eq_true.1 ZD ag (by cases ag<;>simp)
theorem arY {ag s:Bool} {ρ F:aa} (ah:az 660 ρ F) (h:bY Tryz.prog ρ Tryz.f115.ntmps oN (oO ag s)):bY Tryz.prog F Tryz.f115.ntmps oN (oO ag s):=by
 intro ac hE bI
 have:=h ac hE bI
 have e0:(oO ag s).S.I ((oO ag s).init.ap ρ)=(oO ag s).S.I ((oO ag s).init.ap F):=XS.aT (n:=630) (ah.le (by decide)) (tP ag) (ar0 ag)
 rw[e0]at this
 refine dD (fun e V hq => ?_) this
 obtain⟨e',t,q1,q2,q3⟩:=hq
 have q1:some (XE.exit 0,rL s)=some (e',t):=q1
 cases q1
 exact⟨.exit 0,rL s,rfl,q2,by rw[<-XS.aT ah (rL s) (arZ s)];exact q3⟩
theorem aeT {ρ:aa} {n r v:Nat} (h:(dX ρ n)[r]? = some v):v<n/\ρ.cb 625 1 v=true:=by
 have:=List.mem_of_getElem? h
 unfold dX at this
 simp only[List.mem_filter,List.mem_range]at this
 exact this
noncomputable def kH (ρ:aa):aa:={ ρ with i:=fun k=>if 671<=k/\k<680 then mB ρ (k-671) (ρ.len 651)else ρ.i k }
theorem ao3 (ρ:aa):az 671 ρ (kH ρ):=⟨fun k u=>by show _=if _ then _ else _;rw[if_neg (by omega)],fun _ _=>rfl,fun _ _=>rfl,fun _ _=>rfl,fun _ _=>rfl,fun _ _=>rfl,fun _ _=>rfl,fun _ _=>rfl⟩
theorem ao4 (ρ:aa) {k:Nat} (u:k<9):(kH ρ).i (671+k)=mB ρ k (ρ.len 651):=by
 show(if _ then _ else _)=_
 rw[if_pos (by omega),Nat.add_sub_cancel_left]
theorem ao5 (ρ:aa):X.I (kH ρ) (.agg (vi 671 9)) = .agg ((List.range 9).map fun k => .sc (.int .i64 (mB ρ k (ρ.len 651)))):=by
 show AV.agg (X.af (kH ρ) ((List.range 9).map fun j=>xi (671+j)))=_
 rw[X.l5,List.map_map]
 congr 1
theorem afI {ρ:aa} {ag:Bool} (hb:(bV 47).I ρ=ag) (hu:ag=true->(BE.eq (.uf 2 0 dq) (.lit 1)).I ρ=true):J.ok ρ (qw ag):=by
 cases ag with
 | true=>exact J.av (hu rfl) (J.bt _)
 | false=>exact J.av hb (J.bt _)
theorem ar4 (hS:∀s∈h2,c4 Tryz.prog s) {ρ b3:aa} (ag:Bool) (M:J.ok ρ dh) (hT:TI ρ) (dp:ρ.i 443=1) (hb:(bV 47).I ρ=ag) (hu:ag=true->(BE.eq (.uf 2 0 dq) (.lit 1)).I ρ=true)
  (jS:az 630 (bK ρ ag) b3) (iN:∀k,k<9->b3.i (640+k)=ia (bK ρ ag) k (ρ.len 470)) (again:Bool) (cd:again = !(bO b3 (ρ.len 470)).isEmpty) :
  ∃fV,az 630 (bK ρ ag) fV/\(∀k,k<9->fV.i (681+k)=b3.i (640+k))/\(again=true->fV.len 690=(bO b3 (ρ.len 470)).length/\∀(r v:Nat),(bO b3 (ρ.len 470))[r]? = some v->fV.ci 690 0 r=(v:Int))/\c' Tryz.prog fV ⟨115,zQ ag,uV,xn 0,Ix again⟩:=by
 have qb:=yX ρ ag
 have hE:=fun j O hq=>KI hT hb hu j O hq
 have n6:=hT.n6
 obtain⟨ao,rt,hM,pb⟩:=asb hS ag hT dp hb hu _ rfl
 generalize hs:(!(dX (bK ρ ag) (ρ.len 470)).isEmpty)=s at hM pb
 have hlen:=TR (bK ρ ag) (ρ.len 470)
 have g1:=ao3 ao
 have he:az 630 (bK ρ ag) (kH ao):=rt.trans (g1.le (by decide))
 have nJ:az 600 ρ (kH ao):=(qb.le (by decide)).trans (he.le (by decide))
 have hTg:=hT.bq nJ
 have hlg:J.ok (kH ao) dh:=gP (n:=600) nJ (by kernel_rfl) M
 have af1:(kH ao).i 443=1:=by rw[<-nJ.i 443 (by decide)];exact dp
 have VU:(kH ao).len 470=ρ.len 470:=(nJ.len 470 (by decide)).symm
 have c0:∀k,k<9->0<=(bK ρ ag).i (405+k):=fun k u=>hT.dM k u
 have Tb:∀k,k<9->(kH ao).i (405+k)=(bK ρ ag).i (405+k):=fun k u=>(he.i (405+k) (by omega)).symm
 have a9:∀k,k<9->(EC s k).I (kH ao)=b3.i (640+k):=fun k u=>by
  rw[iN k u]
  cases m8:s with
  | true =>
   obtain⟨q1,q2⟩:=hM m8
   rw[adS (c0 k u) q1 q2]
   show max (max 0 ((kH ao).i (405+k))) ((kH ao).i (671+k))=_
   rw[ao4 ao u,Tb k u]
  | false =>
   have hn:dX (bK ρ ag) (ρ.len 470)=[]:=by
    rw[m8]at hs
    cases hq:dX (bK ρ ag) (ρ.len 470)with
    | nil=>rfl
    | cons _ _=>rw[hq]at hs;cases hs
   rw[adR (c0 k u) hn]
   show max (max 0 ((kH ao).i (405+k))) 0=_
   rw[Tb k u]
 obtain⟨fV,t5,⟨afQ,ic⟩,LM⟩:=arN hS hlg hTg af1 (jS.symm.trans he) s again a9 (by rw[VU];exact cd)
 rw[VU]at ic
 have is:az 600 ρ fV:=nJ.trans (t5.le (by decide))
 have A7:=hT.bq is
 have pb:=arY (F:=fV) ((g1.le (by decide)).trans (t5.le (by decide))) pb
 have Mg:∀p∈Zz s,cf Tryz.prog p.1=true/\∀n h,CY Tryz.prog n p.1 (X.af fV p.2.1) h (p.2.2.I fV) []:=fun p hp=>by
  cases m8:s with
  | false=>rw[m8]at hp;cases hp
  | true =>
   rw[m8]at hp
   have hp:p∈[(114,[o8],X.agg (vi 671 9))]:=hp
   obtain rfl:=List.mem_singleton.1 hp
   obtain⟨q1,q2⟩:=hM m8
   have q:=aod (ρ:=ao) (by omega) (fun r hr=>by
    obtain⟨v,R⟩:∃v,(dX (bK ρ ag) (ρ.len 470))[r]? = some v:=⟨_,List.getElem?_eq_getElem (by omega)⟩
    obtain⟨v1,v2⟩:=aeT R
    rw[Tr (q2 r v R)]
    exact hE v v1 v2)
   have e1:X.af ao [o8]=X.af fV [o8]:=X.fZ (n:=660) ((g1.le (by decide)).trans (t5.le (by decide))) _ (by kernel_rfl)
   have e2:X.I (kH ao) (.agg (vi 671 9))=X.I fV (.agg (vi 671 9)):=X.aT (n:=680) t5 _ (by kernel_rfl)
   rw[e1,<-ao5,e2]at q
   exact q
 have H:b4 Tryz.prog fV (It ag s again).c:=hj Mg (asd ag s again pb LM)
 have hbh:(bV 47).I fV=ag:=by rw[<-hb];exact(BE.aT is _ (by kernel_rfl)).symm
 have hfa:J.ok fV (qw ag):=gP (n:=600) is (by cases ag<;>kernel_rfl) (afI hb hu)
 have ex:J.ok fV (qw ag++((bV 47,ag)::uL::(fO++(oS++(ko gZ++dh))))) :=
  eg hfa (J.av hbh (J.av (by show((fV.len 474:Int)==fV.i 440+fV.i 443)=true;rw[A7.rn];exact beq_self_eq_true _) (eg (yW (by rw[<-is.i 443 (by decide)];exact dp) A7.n1 A7.n6) (eg A7.tr (eg A7.VK (gP (n:=600) is (by kernel_rfl) M))))))
 have u:J.ok fV (Iw ag again):=by
  cases UJ:again with
  | false=>exact ex
  | true =>
   obtain⟨q1,_⟩:=ic UJ
   rw[UJ]at cd
   have A:1<=(bO b3 (ρ.len 470)).length:=by
    cases hq:bO b3 (ρ.len 470)with
    | nil=>rw[hq]at cd;cases cd
    | cons _ _=>simp
   exact fF (a := .len 690) (b := .lit 1) (show(1:Int)<=(fV.len 690:Int)by omega) ex
 exact⟨fV,he.trans (t5.le (by decide)),afQ,ic,ur H hS u (show(fB (It ag s again) 115 (zQ ag) uV (Iw ag again)).aq fV=some (xn 0,Ix again)by rw[agX (asp ag s again)];rfl)⟩
end Go.Proofs.YtpdfmnhgocpkcaaGreat
namespace Go.Proofs.YtpdfmnhgocpkcaaGreat
open Go Go.Proofs.Aw Go.Proofs.Xw
set_option maxRecDepth 100000
theorem acp (ag:Bool):X.jm 600 (zQ ag)=true:=by cases ag<;>kernel_rfl
theorem afg:(XS.mk [] uV 0).ar 600=true:=by kernel_rfl
theorem ar6 (hS:∀s∈h2,c4 Tryz.prog s) {ρ b3:aa} (ag:Bool) (M:J.ok ρ dh) (hT:TI ρ) (dp:ρ.i 443=1) (hb:(bV 47).I ρ=ag) (hu:ag=true->(BE.eq (.uf 2 0 dq) (.lit 1)).I ρ=true)
  (jS:az 630 (bK ρ ag) b3) (iN:∀k,k<9->b3.i (640+k)=ia (bK ρ ag) k (ρ.len 470)) {F:aa} (il:uj ρ F (fun k=>ia (bK ρ ag) k (ρ.len 470)) (bO b3 (ρ.len 470))):c' Tryz.prog F (ib ag (!(bO b3 (ρ.len 470)).isEmpty)):=by
 generalize cd:(!(bO b3 (ρ.len 470)).isEmpty)=again
 obtain⟨bv,D1,a9,ic,g⟩:=ar4 hS ag M hT dp hb hu jS iN again cd.symm
 have nJ:az 600 ρ bv:=((yX ρ ag).le (by decide)).trans (D1.le (by decide))
 have is:az 600 bv F:=nJ.symm.trans il.ah
 have xp:aA bv [.rows 25 (.len 470) c5]=aA F [.rows 25 (.len 470) (b9 ag)]:=(RT ag D1).trans (RV ag il.ah)
 have nX:X.af bv (vi 681 9)=X.af F (vi 600 9):=by
  show [_,_,_,_,_,_,_,_,_]=[_,_,_,_,_,_,_,_,_]
  have q:∀k,k<9->bv.i (681+k)=F.i (600+k):=fun k u=>by rw[a9 k u,iN k u,il.dM k u]
  have w:∀k,k<9->(xi (681+k)).I bv=(xi (600+k)).I F:=fun k u=>by
   show AV.sc (.int .i64 (bv.i (681+k)))=AV.sc (.int .i64 (F.i (600+k)))
   rw[q k u]
  exact congr (congr rfl (w 0 (by omega))) (congr (congr rfl (w 1 (by omega))) (congr (congr rfl (w 2 (by omega))) (congr (congr rfl (w 3 (by omega))) (congr (congr rfl (w 4 (by omega))) (congr (congr rfl (w 5 (by omega))) (congr (congr rfl (w 6 (by omega))) (congr (congr rfl (w 7 (by omega))) (congr (congr rfl (w 8 (by omega))) rfl))))))))
 have ww:∀cs:List X,(XS.mk [] [((0,0),cs)] 0).ar 600=true->aA bv cs=aA F cs:=fun cs aH=>by
  have:=r9 is [((0,0),cs)] aH
  exact(Prod.mk.inj (List.cons.inj this).1).2
 have H1:X.af bv [xi 1,aY (0,1) 1 (.len 470),aY (0,2) 25 (.len 470)]=X.af F [xi 1,aY (0,1) 1 (.len 470),aY (0,2) 25 (.len 470)]:=X.fZ is _ (by kernel_rfl)
 have yL:=ww kR (by kernel_rfl)
 have Cl:=ww oR (by kernel_rfl)
 have cell:∀(td pX:X) (rd:Int) (b:Bool),td.I bv=pX.I F->aA bv ([xi 1,aY (0,1) 1 (.len 470),aY (0,2) 25 (.len 470),td,xn rd]++vi 681 9++[xl b,xn 0])=aA F ([xi 1,aY (0,1) 1 (.len 470),aY (0,2) 25 (.len 470),pX,xn rd]++vi 600 9++[xl b,xn 0]):=fun td pX rd b Mw=>by
  have p1:X.af bv [xi 1,aY (0,1) 1 (.len 470),aY (0,2) 25 (.len 470),td,xn rd]=X.af F [xi 1,aY (0,1) 1 (.len 470),aY (0,2) 25 (.len 470),pX,xn rd]:=by
   show X.af bv [xi 1,aY (0,1) 1 (.len 470),aY (0,2) 25 (.len 470)]++(td.I bv::X.af bv [xn rd])=X.af F [xi 1,aY (0,1) 1 (.len 470),aY (0,2) 25 (.len 470)]++(pX.I F::X.af F [xn rd])
   rw[H1,Mw]
   rfl
  have GE:X.af bv [xl b,xn 0]=X.af F [xl b,xn 0]:=rfl
  rw[cP rfl,cP rfl,X.gp (m:=[xl b,xn 0]),X.gp (m:=[xl b,xn 0]),X.gp (m:=vi 681 9),X.gp (m:=vi 600 9),nX,p1,GE]
 refine Uo g (X.fZ is _ (acp ag)) (r9 is uV afg) rfl ?_
 cases again with
 | false =>
  have e:=cell (.k (.slice none 0 0)) (.k (.slice none 0 0)) 1 true rfl
  have this:([((0,0),some (aA bv ([xi 1,aY (0,1) 1 (.len 470),aY (0,2) 25 (.len 470),.k (.slice none 0 0),xn 1]++vi 681 9++[xl true,xn 0]))),((0,1),some (aA bv kR)),((0,2),some (aA bv [.rows 25 (.len 470) c5])),((0,3),some (aA bv oR))]:Dl)=[((0,0),some (aA F ([xi 1,aY (0,1) 1 (.len 470),aY (0,2) 25 (.len 470),.k (.slice none 0 0),xn 1]++vi 600 9++[xl true,xn 0]))),((0,1),some (aA F kR)),((0,2),some (aA F [.rows 25 (.len 470) (b9 ag)])),((0,3),some (aA F oR))]:=by
   rw[e,yL,xp,Cl]
  exact this
 | true =>
  obtain⟨q1,q2⟩:=ic rfl
  have hlen:bv.len 690=F.len 610:=by rw[q1,il.pw]
  have e:=cell (.slv (1,0) 1 (.lit 0) (.len 690) true) (.slv (1,0) 1 (.lit 0) (.len 610) true) 2 false (by
   simp only[X.I,U.I,hlen])
  have e8:aA bv [.rows 1 (.len 690) (.var 690 [.i .i64])]=aA F [.rows 1 (.len 610) (.var 610 [.i .i64])]:=by
   show(aV bv (.len 690) (.var 690 [.i .i64])).flatten=(aV F (.len 610) (.var 610 [.i .i64])).flatten
   congr 1
   unfold aV
   have A:((U.len 690).I bv).toNat=(bO b3 (ρ.len 470)).length:=by show((bv.len 690:Nat):Int).toNat=_;rw[q1];exact Int.toNat_natCast _
   have E:((U.len 610).I F).toNat=(bO b3 (ρ.len 470)).length:=by show((F.len 610:Nat):Int).toNat=_;rw[il.pw];exact Int.toNat_natCast _
   rw[A,E]
   refine List.map_congr_left fun j O => ?_
   have O:=List.mem_range.1 O
   obtain⟨v,R⟩:∃v,(bO b3 (ρ.len 470))[j]? = some v:=⟨_,List.getElem?_eq_getElem O⟩
   show [AV.sc (.int .i64 (bv.ci 690 0 ((j:Int)).toNat))]=[AV.sc (.int .i64 (F.ci 610 0 ((j:Int)).toNat))]
   rw[Int.toNat_natCast,q2 j v R,il.ce j v R]
  have this:([((0,0),some (aA bv ([xi 1,aY (0,1) 1 (.len 470),aY (0,2) 25 (.len 470),.slv (1,0) 1 (.lit 0) (.len 690) true,xn 2]++vi 681 9++[xl false,xn 0]))),((0,1),some (aA bv kR)),((0,2),some (aA bv [.rows 25 (.len 470) c5])),((0,3),some (aA bv oR)),((1,0),some (aA bv [.rows 1 (.len 690) (.var 690 [.i .i64])]))]:Dl)=[((0,0),some (aA F ([xi 1,aY (0,1) 1 (.len 470),aY (0,2) 25 (.len 470),.slv (1,0) 1 (.lit 0) (.len 610) true,xn 2]++vi 600 9++[xl false,xn 0]))),((0,1),some (aA F kR)),((0,2),some (aA F [.rows 25 (.len 470) (b9 ag)])),((0,3),some (aA F oR)),((1,0),some (aA F [.rows 1 (.len 610) (.var 610 [.i .i64])]))]:=by
   rw[e,yL,xp,Cl,e8]
  exact this
end Go.Proofs.YtpdfmnhgocpkcaaGreat
