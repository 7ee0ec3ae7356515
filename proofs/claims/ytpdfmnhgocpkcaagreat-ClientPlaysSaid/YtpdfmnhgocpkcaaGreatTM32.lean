/- Parts of the proof, one behind the other. -/
import Derived.Test.YtpdfmnhgocpkcaaGreatTM31
import Derived.Test.YtpdfmnhgocpkcaaGreatTM14
namespace Go.Proofs.YtpdfmnhgocpkcaaGreat
open Go Go.Proofs.Aw Go.Proofs.Xw
set_option maxRecDepth 100000
def o9:X := .rl 20 (.len 651) (.var 651 fJ) false
def aaA:List X:=List.replicate 9 (xn 0)
def Pc (i:X):ba:=[(4,i),(3,.ptr (1,0) [] 0),(2,.ptr (0,0) [] 0),(0,o9)]
def O_ (v:List X):au:=[((0,0),aaA),((1,0),v)]
def Ho:XS:=⟨Pc (xn 0),O_ aaA,3⟩
def Cz:XS:=⟨Pc (xi 720),O_ (vi 660 9),3⟩
def Pb:XS:=⟨Pc .top,O_ (vi 660 9),40⟩
noncomputable def v7:Code:=(dP (Tryz.f114.body.getD .skip))[0]?.getD .skip
def Di:U := .op .add .i64 (.var 720) (.lit 1)
def ju (k:Nat):U := .cl 651 k (.var 720)
def Cw (c k:Nat):U:=if Nat.beq k c=true then .op .max .i64 (.op .max .i64 (.op .max .i64 (.lit 0) (.var (660+k))) (ju (9+k))) (ju 2)else .op .max .i64 (.op .max .i64 (.lit 0) (.var (660+k))) (ju (9+k))
def mP (a b:Nat):J:=[(.eq (ju 0) (.lit a),true),(.eq (ju 1) (.lit b),true)]
def hV (a b:Nat):Alt:=⟨0,[],[],(List.range 9).map (fun k=>(660+k,Cw (3*a+b) k)),[],mP a b⟩
def aoT:List dm:=[⟨Cz,[],[hV 0 0,hV 0 1,hV 0 2,hV 1 0,hV 1 1,hV 1 2,hV 2 0,hV 2 1,hV 2 2]⟩]
def nq:J:=[(.lt (.var 720) (.lit 0),false),(.lt (.var 720) (.len 651),true),(.lt (.len 651) Di,false),(.lt Di (.lit 0),false),(.lt (.lit 6) (.len 651),false)]
def XD:J:=[(.lt (.var 720) (.lit 0),false),(.lt (.var 720) (.len 651),false)]
noncomputable def Cv:cj:=⟨bd [] (fun _=>[]),[],[]⟩
noncomputable def XG (B:J):T (XE×XS):=(ck Cv.c.ti (eC Cv 12) ((Cv.c.hD 114).elim [] (·.ms)) 0 [] 1000 v7 B Cz).map (dV (Cz.t.map (·.1)))
noncomputable def pJ (B:J):Bool:=dC 0 655 720 [] (0,[]) 0 aoT Pb .normal B (XG B)
noncomputable def psX (B:J):Bool:=dC 0 655 720 [] (0,[]) 0 [] Pb (.exit 0) B (XG B)
theorem aoV:pJ (mP 0 0++nq)=true:=by kernel_rfl
theorem aoW:pJ (mP 0 1++nq)=true:=by kernel_rfl
theorem aoX:pJ (mP 0 2++nq)=true:=by kernel_rfl
theorem aoY:pJ (mP 1 0++nq)=true:=by kernel_rfl
theorem aoZ:pJ (mP 1 1++nq)=true:=by kernel_rfl
theorem ao0:pJ (mP 1 2++nq)=true:=by kernel_rfl
theorem ao1:pJ (mP 2 0++nq)=true:=by kernel_rfl
theorem ao2:pJ (mP 2 1++nq)=true:=by kernel_rfl
theorem ao3:pJ (mP 2 2++nq)=true:=by kernel_rfl
theorem apa:psX XD=true:=by kernel_rfl
theorem ao4 {a b:Nat} (ha:a<3) (hb:b<3):pJ (mP a b++nq)=true:=by
 rcases(show a=0\/a=1\/a=2 by omega)with rfl | rfl | rfl<;>rcases(show b=0\/b=1\/b=2 by omega)with rfl | rfl | rfl
 ·exact aoV
 ·exact aoW
 ·exact aoX
 ·exact aoY
 ·exact aoZ
 ·exact ao0
 ·exact ao1
 ·exact ao2
 ·exact ao3
noncomputable def HM (ρ:aa) (r:Nat):aa:={ ρ with i:=fun k=>ρ.ci 651 k r,s:=fun k=>ρ.cs 651 k r,b:=fun k=>ρ.cb 651 k r }
noncomputable def se (ρ:aa) (r:Nat):List Value:=(kP 0).I (HM ρ r)
noncomputable def mB (ρ:aa) (k:Nat):Nat->Int
 | 0=>0
 | r+1=>max (max 0 (mB ρ k r)) (UF 3 (se ρ r) k)
theorem aoH {ρ:aa} {r:Nat} (h:UF 2 (se ρ r) 0=1):(0<=ρ.ci 651 0 r/\ρ.ci 651 0 r<=2)/\(0<=ρ.ci 651 1 r/\ρ.ci 651 1 r<=2)/\1<=ρ.ci 651 2 r/\∀k:Nat,k<9->0<=ρ.ci 651 (9+k) r/\UF 3 (se ρ r) k=max (max 0 (ρ.ci 651 (9+k) r)) (if ρ.ci 651 0 r*3+ρ.ci 651 1 r=k then ρ.ci 651 2 r else 0):=by
 obtain⟨g2,hg2⟩:=QL (HM ρ r)
 obtain⟨v0,q1,q2,q3⟩:=(iz hg2).tg h
 obtain⟨g3,hg3⟩:=aaf (ρ:=HM ρ r) h
 have q4:=(iz hg3).tg
 have xm:∀k:Nat,k<9->vI ((kP 0).I (HM ρ r)) (9+k)=ρ.ci 651 (9+k) r:=fun k u=>by
  rcases(show k=0\/k=1\/k=2\/k=3\/k=4\/k=5\/k=6\/k=7\/k=8 by omega)with rfl | rfl | rfl | rfl | rfl | rfl | rfl | rfl | rfl<;>rfl
 refine⟨v0,q1,q2.1,fun k u=>⟨?_,?_⟩⟩
 ·have:=(q3 k u).1
  rw[xm k u]at this
  exact this
 ·have:=q4 k u
  unfold vZ at this
  rw[xm k u]at this
  exact this
end Go.Proofs.YtpdfmnhgocpkcaaGreat
namespace Go.Proofs.YtpdfmnhgocpkcaaGreat
open Go Go.Proofs.Aw Go.Proofs.Xw
set_option maxRecDepth 100000
theorem XH:da Tryz.f114.ntmps v7=true:=by kernel_rfl
theorem ao5:Ho.ar 655=true:=by kernel_rfl
def XF:Bind:=⟨(720,.lit 0)::(List.range 9).map (fun k=>(660+k,.lit 0)),[],[],[]⟩
theorem ao6:ff 0 655 XF [] Cz Ho=true:=by kernel_rfl
noncomputable def Cx:bf:=⟨(du v7).getD 0,0,655,Ho,gj,[],.ret (.exit 0,Pb)⟩
structure PsI (al ρ:aa):Prop where
 ah:az 655 al ρ
 m:∃m:Nat,m<=al.len 651/\ρ.i 720=m/\∀k,k<9->ρ.i (660+k)=mB al k m
theorem aoU {ρ:aa} {m:Nat} (hm:ρ.i 720=m) (c k:Nat):(Cw c k).I ρ=if k=c then max (max (max 0 (ρ.i (660+k))) (ρ.ci 651 (9+k) m)) (ρ.ci 651 2 m)else max (max 0 (ρ.i (660+k))) (ρ.ci 651 (9+k) m):=by
 have e:∀q,(ju q).I ρ=ρ.ci 651 q m:=fun q=>by
  show ρ.ci 651 q (ρ.i 720).toNat=_
  rw[hm,Int.toNat_natCast]
 unfold Cw
 by_cases h:k=c
 ·subst h
  rw[if_pos (Nat.beq_refl k),if_pos rfl]
  show max (max (max 0 (ρ.i (660+k))) ((ju (9+k)).I ρ)) ((ju 2).I ρ)=_
  rw[e,e]
 ·rw[if_neg (by simpa using h),if_neg h]
  show max (max 0 (ρ.i (660+k))) ((ju (9+k)).I ρ)=_
  rw[e]
theorem acy {a:Alt} (h:a∈[hV 0 0,hV 0 1,hV 0 2,hV 1 0,hV 1 1,hV 1 2,hV 2 0,hV 2 1,hV 2 2]):∃x y:Nat,a=hV x y:=by
 simp only[List.mem_cons,List.not_mem_nil,or_false]at h
 rcases h with rfl | rfl | rfl | rfl | rfl | rfl | rfl | rfl | rfl<;>exact⟨_,_,rfl⟩
theorem ao7 {ρ:aa} (n6:ρ.len 651<=6) (hE:∀r,r<ρ.len 651->UF 2 (se ρ r) 0=1):∃am,az 655 ρ am/\(∀k,k<9->am.i (660+k)=mB ρ k (ρ.len 651))/\bW Tryz.prog am Tryz.f114.ntmps v7 Cx:=by
 have H:∀F,bZ Tryz.prog F Cv.c:=fun F=>kW (List.forall_mem_nil _)
 refine ou (P:=Tryz.prog) (N:=Tryz.f114.ntmps) (body:=v7) (k0:=0) (n:=655) (S0:=Ho) (ρ:=ρ) ao5 (fun _=>Cz) Cx ⟨rfl,rfl,rfl⟩ (fun _ F=>PsI ρ F) (fun F=>∀k,k<9->F.i (660+k)=mB ρ k (ρ.len 651)) (fun F=>ρ.len 651-(F.i 720).toNat) (fun _ F hR => ?_) ⟨0,XF.ap ρ,Bind.bt (by kernel_rfl) ρ,⟨Bind.bt (by kernel_rfl) ρ,0,Nat.zero_le _,rfl,nine rfl rfl rfl rfl rfl rfl rfl rfl rfl⟩,fun ac _ bI=>jF bI ao6 ρ⟩
 have ah:=hR.ah
 obtain⟨m,hm,hi,iP⟩:=hR.m
 have l4:F.len 651=ρ.len 651:=(ah.len 651 (by decide)).symm
 have aP:=eU (c:=Cv) (H F) (List.forall_mem_nil _) 12
 have t8:∀q r,F.ci 651 q r=ρ.ci 651 q r:=fun q r=>by rw[<-ah.ci 651 (by decide)]
 by_cases aQ:m<ρ.len 651
 ·right
  obtain⟨auy,p1,p2,GE⟩:=aoH (hE m aQ)
  have hp:Di.I F=m+1:=by
   refine(show Di.I F=IntKind.i64.wrap (F.i 720+1)from rfl).trans ?_
   rw[hi];exact cc _ (by omega) (by omega)
  have u:J.ok F nq:=fR (show(0:Int)<=F.i 720 by omega) (J.av (decide_eq_true (by show F.i 720<(F.len 651:Int);omega)) (fF (show Di.I F<=(F.len 651:Int)by rw[hp];omega) (fR (by rw[hp];omega) (j0 (show(F.len 651:Int)<=6 by omega) (J.bq _)))))
  have e65d:∀q,(ju q).I F=ρ.ci 651 q m:=fun q=>by
   show F.ci 651 q (F.i 720).toNat=_
   rw[hi,Int.toNat_natCast,t8]
  obtain⟨a,b,ha,hb,ib,KI⟩:∃a b:Nat,a<3/\b<3/\ρ.ci 651 0 m=a/\ρ.ci 651 1 m=b:=⟨(ρ.ci 651 0 m).toNat,(ρ.ci 651 1 m).toNat,by omega,by omega,by omega,by omega⟩
  have hd:J.ok F (mP a b++nq):=J.av (by show((ju 0).I F==(a:Int))=true;rw[e65d,ib];exact beq_self_eq_true _) (J.av (by show((ju 1).I F==(b:Int))=true;rw[e65d,KI];exact beq_self_eq_true _) u)
  obtain⟨j,C,ax,g1,g2,_,g4,g5,_,g7⟩:=kL mixed cR aP (a1.nil _ _ _ _) XH hd (ao4 ha hb)
  have e4:ax.i 720=m+1:=by rw[g4,hi];exact cc _ (by omega) (by omega)
  match j,g1 with
  | 0,g1 =>
   cases g1
   refine⟨0,ax,g2,⟨ah.trans g5,m+1,by omega,by omega,fun k kb => ?_⟩,by omega,g5⟩
   rcases g7 with g7 | ⟨di,Fj,_,a2⟩
   ·cases g7
   ·obtain⟨x,y,rfl⟩:=acy Fj
    have hx:(ju 0).I F=x:=by
     have:=a2.1 _ List.mem_cons_self
     exact eq_of_beq (show((ju 0).I F==(x:Int))=true from this)
    have hy:(ju 1).I F=y:=by
     have:=a2.1 _ (List.mem_cons_of_mem _ List.mem_cons_self)
     exact eq_of_beq (show((ju 1).I F==(y:Int))=true from this)
    rw[e65d]at hx hy
    have R:ax.i (660+k)=(Cw (3*x+y) k).I F:=a2.2.2.1 (660+k,Cw (3*x+y) k) (List.mem_map.2 ⟨k,List.mem_range.2 kb,rfl⟩)
    rw[R,aoU hi,iP k kb,t8,t8]
    obtain⟨d0,d1⟩:=GE k kb
    show _=max (max 0 (mB ρ k m)) (UF 3 (se ρ m) k)
    rw[d1]
    by_cases sD:k=3*x+y
    ·rw[if_pos sD,if_pos (by omega)]
     omega
    ·rw[if_neg sD,if_neg (by omega)]
     omega
  | j+1,g1=>cases g1
 ·left
  obtain rfl:m=ρ.len 651:=by omega
  have u:J.ok F XD:=fR (show(0:Int)<=F.i 720 by omega) (J.av (decide_eq_false (by show ¬F.i 720<(F.len 651:Int);omega)) (J.bq _))
  refine⟨iP,?_⟩
  rcases gD mixed cR aP (a1.nil _ _ _ _) XH u apa with h | ⟨j,C,_,g1,_⟩
  ·exact h
  ·simp at g1
noncomputable def O' (g:Nat):List bf:=if Nat.beq g 114=true then [Cx]else []
noncomputable def O9:cj:=⟨bd [] O',[],[]⟩
theorem ao9:iw (aN O9 114 [o9] [(.lt (.lit 6) (.len 651),false)]) (.ret (.agg (vi 660 9)))=true:=by kernel_rfl
theorem ao8 {ρ:aa} (h:bW Tryz.prog ρ Tryz.f114.ntmps v7 Cx):∀g i,eB g gb=some i->a1 Tryz.prog ρ i.ntmps (O' g) i.body:=fun g i hi=>by
 unfold O'
 split
 ·rename_i hf
  have hf:=Nat.eq_of_beq_eq_true hf
  subst hf
  have gc:jk Tryz.prog 114 i:=mT (114,i) (jV _ _ (jU hi))
  refine ov gc Tryz.func114 ?_
  exact kv (c:=Tryz.f114.body.getD .skip) [0] (by kernel_rfl) (List.forall_mem_cons.2 ⟨ku (L:=Cx) (c:=v7) (by kernel_rfl) h,List.forall_mem_nil _⟩)
 ·exact a1.nil _ _ _ _
theorem aoG {ρ:aa} (n6:ρ.len 651<=6) (hE:∀r,r<ρ.len 651->UF 2 (se ρ r) 0=1):Cy 114 (X.af ρ [o9]) (.agg ((List.range 9).map fun k => .sc (.int .i64 (mB ρ k (ρ.len 651))))):=by
 obtain⟨am,ah,hq,hL⟩:=ao7 n6 hE
 have H:bZ Tryz.prog am O9.c:=hl (List.forall_mem_nil _) (ao8 hL)
 have u:J.ok am [(.lt (.lit 6) (.len 651),false)]:=j0 (show(am.len 651:Int)<=6 by rw[<-ah.len 651 (by decide)];omega) (J.bq _)
 have q:=ef H (List.forall_mem_nil _) u (show(aN O9 114 [o9] [(.lt (.lit 6) (.len 651),false)]).aq am=some _ by rw[p6 ao9];rfl)
 have e1:X.af ρ [o9]=X.af am [o9]:=X.fZ ah _ (by kernel_rfl)
 have e2:X.I am (.agg (vi 660 9)) = .agg ((List.range 9).map fun k => .sc (.int .i64 (mB ρ k (ρ.len 651)))):=by
  show AV.agg (X.af am ((List.range 9).map fun j=>xi (660+j)))=_
  rw[X.l5,List.map_map]
  congr 1
  refine List.map_congr_left fun j O => ?_
  show AV.sc (.int .i64 (am.i (660+j)))=_
  rw[hq j (List.mem_range.1 O)]
 rw[e1,<-e2]
 exact q
end Go.Proofs.YtpdfmnhgocpkcaaGreat
namespace Go.Proofs.YtpdfmnhgocpkcaaGreat
open Go Go.Proofs.Aw Go.Proofs.Xw
set_option maxRecDepth 100000
noncomputable def uS (ρ:aa) (k:Nat) (l:List Nat):Int:=l.foldl (fun a (v:Nat)=>max (max 0 a) (UF 3 (k5 ρ (v:Int)) k)) 0
theorem T_ (ρ:aa) (k:Nat) (l:List Nat) (v:Nat):uS ρ k (l++[v])=max (max 0 (uS ρ k l)) (UF 3 (k5 ρ (v:Int)) k):=by
 unfold uS
 rw[List.foldl_append]
 rfl
theorem Kq {ρ:aa} {k:Nat} (H:0<=ρ.i (405+k)):∀m,ia ρ k m=max (ρ.i (405+k)) (uS ρ k (dZ ρ m))
 | 0=>by
  show ρ.i (405+k)=max (ρ.i (405+k)) 0
  omega
 | m+1=>by
  have ih:=Kq H m
  show(if ρ.cb 625 1 m=true then max (max 0 (ia ρ k m)) (UF 3 (k5 ρ m) k)else ia ρ k m)=_
  rw[TU]
  by_cases h:ρ.cb 625 1 m=true
  ·rw[if_pos h,if_pos h,T_,ih]
   generalize UF 3 (k5 ρ ((m:Nat):Int)) k=Y
   generalize uS ρ k (dZ ρ m)=aU
   omega
  ·rw[if_neg h,if_neg h,List.append_nil,ih]
theorem Tt {al ρ:aa} {r:Nat} {x:Int} (h:(RL.var 651 fJ).row ρ (r:Int)=dj al x):se ρ r=k5 al x:=by
 have ci:∀k:Nat,aH ((RL.var 651 fJ).row ρ (r:Int))[k]? = aH (dj al x)[k]? := fun k=>by rw[h]
 have cs:∀k:Nat,cellS ((RL.var 651 fJ).row ρ (r:Int))[k]? = cellS (dj al x)[k]? := fun k=>by rw[h]
 have cb:∀k:Nat,dK ((RL.var 651 fJ).row ρ (r:Int))[k]? = dK (dj al x)[k]? := fun k=>by rw[h]
 have i0:ρ.ci 651 0 r=aH (dj al x)[0]? := ci 0
 have i1:ρ.ci 651 1 r=aH (dj al x)[1]? := ci 1
 have oh:ρ.ci 651 2 r=aH (dj al x)[2]? := ci 2
 have vk:ρ.ci 651 3 r=aH (dj al x)[3]? := ci 3
 have jy:ρ.ci 651 4 r=aH (dj al x)[4]? := ci 4
 have MS:ρ.ci 651 5 r=aH (dj al x)[5]? := ci 5
 have YN:ρ.cs 651 6 r=cellS (dj al x)[6]? := cs 6
 have YO:ρ.cs 651 7 r=cellS (dj al x)[7]? := cs 7
 have act:ρ.cb 651 8 r=dK (dj al x)[8]? := cb 8
 have agE:ρ.ci 651 9 r=aH (dj al x)[9]? := ci 9
 have i10:ρ.ci 651 10 r=aH (dj al x)[10]? := ci 10
 have i11:ρ.ci 651 11 r=aH (dj al x)[11]? := ci 11
 have i12:ρ.ci 651 12 r=aH (dj al x)[12]? := ci 12
 have i13:ρ.ci 651 13 r=aH (dj al x)[13]? := ci 13
 have i14:ρ.ci 651 14 r=aH (dj al x)[14]? := ci 14
 have i15:ρ.ci 651 15 r=aH (dj al x)[15]? := ci 15
 have i16:ρ.ci 651 16 r=aH (dj al x)[16]? := ci 16
 have i17:ρ.ci 651 17 r=aH (dj al x)[17]? := ci 17
 have i18:ρ.ci 651 18 r=aH (dj al x)[18]? := ci 18
 have i19:ρ.ci 651 19 r=aH (dj al x)[19]? := ci 19
 show [Value.int .i64 (ρ.ci 651 0 r),.int .i64 (ρ.ci 651 1 r),.int .i64 (ρ.ci 651 2 r),.int .i64 (ρ.ci 651 3 r),.int .i64 (ρ.ci 651 4 r),.int .i64 (ρ.ci 651 5 r),.string (ρ.cs 651 6 r),.string (ρ.cs 651 7 r),.bool (ρ.cb 651 8 r),.int .i64 (ρ.ci 651 9 r),.int .i64 (ρ.ci 651 10 r),.int .i64 (ρ.ci 651 11 r),.int .i64 (ρ.ci 651 12 r),.int .i64 (ρ.ci 651 13 r),.int .i64 (ρ.ci 651 14 r),.int .i64 (ρ.ci 651 15 r),.int .i64 (ρ.ci 651 16 r),.int .i64 (ρ.ci 651 17 r),.int .i64 (ρ.ci 651 18 r),.int .i64 (ρ.ci 651 19 r)]=_
 rw[i0,i1,oh,vk,jy,MS,YN,YO,act,agE,i10,i11,i12,i13,i14,i15,i16,i17,i18,i19]
 rfl
theorem Xy {al ρ:aa} {k:Nat} {l:List Nat} (h:∀(r v:Nat),l[r]? = some v->(RL.var 651 fJ).row ρ (r:Int)=dj al (v:Int)):∀r,r<=l.length->mB ρ k r=uS al k (l.take r)
 | 0,_=>rfl
 | r+1,hr=>by
  have ih:=Xy (k:=k) h r (by omega)
  obtain⟨v,R⟩:∃v,l[r]? = some v:=⟨_,List.getElem?_eq_getElem (by omega)⟩
  rw[List.take_add_one,R]
  show max (max 0 (mB ρ k r)) (UF 3 (se ρ r) k)=uS al k (l.take r++[v])
  rw[T_,ih,Tt (h r v R)]
theorem adU {al ρ:aa} {k n:Nat} (H:0<=al.i (405+k)) (M:ρ.len 651=(dZ al n).length) (h:∀(r v:Nat),(dZ al n)[r]? = some v->(RL.var 651 fJ).row ρ (r:Int)=dj al (v:Int)):ia al k n=max (max 0 (al.i (405+k))) (mB ρ k (ρ.len 651)):=by
 rw[Kq H,Xy (k:=k) h _ (by omega),M,List.take_length]
 omega
theorem adT {al:aa} {k n:Nat} (H:0<=al.i (405+k)) (h:dZ al n=[]):ia al k n=max (max 0 (al.i (405+k))) 0:=by
 rw[Kq H,h]
 show max (al.i (405+k)) 0=_
 omega
end Go.Proofs.YtpdfmnhgocpkcaaGreat
namespace Go.Proofs.YtpdfmnhgocpkcaaGreat
open Go Go.Proofs.Aw Go.Proofs.Xw
set_option maxRecDepth 100000
def nY (i:U):BE := .lt (.cl 625 22 i) (rA 681 i)
def qq (i:U):BE := .lt (.cl 625 23 i) (rA 684 i)
def uG (i:U):BE := .lt (.cl 625 24 i) (rA 687 i)
def l7 (i:U):BE := .or (nY i) (.or (qq i) (uG i))
def t3C (dM:List X):List X:=[xi 1,aY (0,1) 1 (.len 470),aY (0,2) 25 (.len 470),fy false,xn 1]++dM++[xl false,xn 0]
def t3K (s:Bool):au:=if s=true then [((73,0),[.rows 20 (.len 651) (.var 651 fJ)])]else []
def Ir (s:Bool) (dM:List X):au:=[((0,0),t3C dM),((0,1),kR),((0,2),[.rows 25 (.len 470) c5]),((0,3),oR)]++t3K s
def ar6:ba:=([1,3,4,5,7,11,12,13,14,15,16,17,24,25,26]++(List.range 54).map (29 + ·)++(List.range 10).map (114 + ·)).map fun k=>(k,.top)
def C8 (s:Bool) (i td:X):ba:=(9,i)::(8,td)::(6,if s=true then tO else pA)::(0,.ptr (0,0) [] 0)::ar6
def Zu:X := .slv (133,0) 1 (.lit 0) (.len 690) true
def EA (s:Bool) (k:Nat):U := .op .max .i64 (.op .max .i64 (.lit 0) (.var (405+k))) (if s=true then .var (671+k)else .lit 0)
def cuX (s:Bool):List X:=(List.range 9).map fun k => .sc (.i .i64 (EA s k))
def tL (s:Bool):XS:=⟨C8 s (xn 0) pA,Ir s (cuX s),133⟩
def Zt (s:Bool):au:=Ir s (vi 681 9)++[((133,0),[.rows 1 (.len 690) (.var 690 [.i .i64])])]
def ny (s again:Bool):XS:=if again=true then⟨C8 s (xi 710) Zu,Zt s,134⟩else⟨C8 s (xi 710) pA,Ir s (vi 681 9),133⟩
def Qq (s again:Bool):XS:=if again=true then⟨C8 s .top Zu,Zt s,200⟩else⟨C8 s .top pA,Ir s (vi 681 9),200⟩
noncomputable def rJ:Code:=(dP (Tryz.f115.body.getD .skip))[1]?.getD .skip
def BU:List Nat:=[681,682,683,684,685,686,687,688,689]
def Qp (s:Bool):List dm:=[⟨ny s false,[],[⟨0,BU,[690],[],[],[(l7 c7,false)]⟩]⟩,⟨ny s true,[],[⟨0,BU,[],[],[(690,.lit 1,.one [ec c7])],[(l7 c7,true)]⟩,⟨1,BU,[690],[],[],[(l7 c7,false)]⟩,⟨1,BU,[],[],[(690,.op .cW .i64 (.len 690) (.lit 1),.app (.len 690) (.var 690 [.i .i64]) (.one [ec c7]))],[(l7 c7,true)]⟩]⟩]
def C5:J:=[(.lt (.var 710) (.lit 0),false),(.lt (.var 710) (.len 470),true),(.lt (.len 470) q7,false),(.lt q7 (.lit 0),false),(.lt (.lit 16) (.cB (.cl 470 0 (.var 710))),false),(.lt (.lit 6) (.len 690),false),uK]++(fP++(oU++dh))
def zl:J:=[(.lt (.var 710) (.lit 0),false),(.lt (.var 710) (.len 470),false)]++fP
noncomputable def Zv (s again:Bool) (B:J):T (XE×XS):=(ck g9.c.ti (eC g9 12) ((g9.c.hD 115).elim [] (·.ms)) 2 [] 1000 rJ B (ny s again)).map (dV ((ny s again).t.map (·.1)))
noncomputable def gZ (s again:Bool) (B:J):Bool:=dC 2 680 710 [] (0,[]) (if again=true then 1 else 0) (Qp s) (Qq s again) .normal B (Zv s again B)
noncomputable def C9 (s again:Bool) (B:J):Bool:=dC 2 680 710 [] (0,[]) 0 [] (Qq s again) (.exit 2) B (Zv s again B)
def A2:J:=(nY c7,true)::C5
def A3:J:=(qq c7,true)::(nY c7,false)::C5
def A4:J:=(uG c7,true)::(qq c7,false)::(nY c7,false)::C5
def A1:J:=(uG c7,false)::(qq c7,false)::(nY c7,false)::C5
theorem asa:(gZ false false A2&&(gZ false false A3&&(gZ false false A4&&(gZ false false A1&&C9 false false zl))))=true:=by kernel_rfl
theorem asb:(gZ false true A2&&(gZ false true A3&&(gZ false true A4&&(gZ false true A1&&C9 false true zl))))=true:=by kernel_rfl
theorem asd:(gZ true false A2&&(gZ true false A3&&(gZ true false A4&&(gZ true false A1&&C9 true false zl))))=true:=by kernel_rfl
theorem ase:(gZ true true A2&&(gZ true true A3&&(gZ true true A4&&(gZ true true A1&&C9 true true zl))))=true:=by kernel_rfl
theorem ar9 (s a:Bool):gZ s a A2=true/\gZ s a A3=true/\gZ s a A4=true/\gZ s a A1=true/\C9 s a zl=true:=by
 cases s<;>cases a
 ·have:=asa
  simpa only[Bool.and_eq_true]using this
 ·have:=asb
  simpa only[Bool.and_eq_true]using this
 ·have:=asd
  simpa only[Bool.and_eq_true]using this
 ·have:=ase
  simpa only[Bool.and_eq_true]using this
theorem C_:da Tryz.f115.ntmps rJ=true:=by kernel_rfl
theorem ar7:((tL true).ar 680&&(tL false).ar 680)=true:=by kernel_rfl
def C7 (s:Bool):Bind:=⟨(710,.lit 0)::(List.range 9).map (fun k=>(681+k,EA s k)),[],[],[(690,.lit 0,.one [])]⟩
theorem asf:(ff 2 680 (C7 true) [] (ny true false) (tL true)&&ff 2 680 (C7 false) [] (ny false false) (tL false))=true:=by kernel_rfl
theorem ar8 (s:Bool):(tL s).ar 680=true:=by
 have:=ar7
 simp only[Bool.and_eq_true]at this
 cases s
 ·exact this.2
 ·exact this.1
theorem asg (s:Bool):ff 2 680 (C7 s) [] (ny s false) (tL s)=true:=by
 have:=asf
 simp only[Bool.and_eq_true]at this
 cases s
 ·exact this.2
 ·exact this.1
noncomputable def C6 (s again:Bool):bf:=⟨(du rJ).getD 0,2,680,tL s,gj,[],.ret (.exit 2,Qq s again)⟩
noncomputable def Ky (ρ:aa) (x:Int):Bool:=(l7 (.var 0)).I (gN ρ x)
theorem ad6 (ρ:aa):(l7 c7).I ρ=Ky ρ (ρ.i 710):=rfl
theorem P3 {ρ F:aa} {k l:Nat} {x:Int} (hu:(tb (.var 0)).I (gN ρ x)=(tb (.var 0)).I (gN F x)) (u:k≠0/\l≠0) (h0:ρ.i k=F.i l) (A:ρ.i (k+1)=F.i (l+1)) (E:ρ.i (k+2)=F.i (l+2)):(rA k (.var 0)).I (gN ρ x)=(rA l (.var 0)).I (gN F x):=by
 have nL:(U.var k).I (gN ρ x)=(U.var l).I (gN F x):=by
  show(if k=0 then x else ρ.i k)=if l=0 then x else F.i l
  rw[if_neg u.1,if_neg u.2,h0]
 have bm:(U.var (k+1)).I (gN ρ x)=(U.var (l+1)).I (gN F x):=by
  show(if k+1=0 then x else ρ.i (k+1))=if l+1=0 then x else F.i (l+1)
  rw[if_neg (by omega),if_neg (by omega),A]
 have bl:(U.var (k+2)).I (gN ρ x)=(U.var (l+2)).I (gN F x):=by
  show(if k+2=0 then x else ρ.i (k+2))=if l+2=0 then x else F.i (l+2)
  rw[if_neg (by omega),if_neg (by omega),E]
 have d:∀(ρ:aa) (k:Nat),(rA k (.var 0)).I ρ=if((tb (.var 0)).I ρ==0)=true then(U.var k).I ρ else if((tb (.var 0)).I ρ==1)=true then(U.var (k+1)).I ρ else(U.var (k+2)).I ρ:=fun _ _=>rfl
 rw[d,d,hu,nL,bm,bl]
theorem ad7 {ρ F:aa} (ah:az 630 ρ F) (H:∀k,k<9->F.i (681+k)=ρ.i (640+k)) (x:Int):Ky F x=l3 ρ x:=by
 have hu:(tb (.var 0)).I (gN F x)=(tb (.var 0)).I (gN ρ x):=(U.aT (n:=630) (ρ:=gN ρ x) (F:=gN F x) ⟨fun k u=>by show(if k=0 then x else ρ.i k)=if k=0 then x else F.i k;rw[ah.i k u],ah.b,ah.s,ah.len,ah.ci,ah.cb,ah.cs,ah.ct⟩ _ (by kernel_rfl)).symm
 have s1:=P3 (k:=681) (l:=640) hu ⟨by decide,by decide⟩ (H 0 (by omega)) (H 1 (by omega)) (H 2 (by omega))
 have s2:=P3 (k:=684) (l:=643) hu ⟨by decide,by decide⟩ (H 3 (by omega)) (H 4 (by omega)) (H 5 (by omega))
 have s3:=P3 (k:=687) (l:=646) hu ⟨by decide,by decide⟩ (H 6 (by omega)) (H 7 (by omega)) (H 8 (by omega))
 have d:∀(k:Nat),(U.cl 625 k (.var 0)).I (gN F x)=(U.cl 625 k (.var 0)).I (gN ρ x):=fun k=>by
  show F.ci 625 k _=ρ.ci 625 k _
  rw[ah.ci 625 (by decide)]
  rfl
 unfold Ky l3 l7 lZ nY qq uG nX qn uE
 simp only[BE.I,s1,s2,s3,d]
end Go.Proofs.YtpdfmnhgocpkcaaGreat
namespace Go.Proofs.YtpdfmnhgocpkcaaGreat
open Go Go.Proofs.Aw Go.Proofs.Xw
set_option maxRecDepth 100000
structure Jp (al:aa) (m:Nat) (i:Nat) (ρ:aa):Prop where
 z:i=0->bO al m=[]
 b:i≠0->i=1/\bO al m≠[]/\ρ.len 690=(bO al m).length/\∀(r v:Nat),(bO al m)[r]? = some v->ρ.ci 690 0 r=(v:Int)
structure RO (b5 al ρ:aa) (i:Nat):Prop where
 ah:az 680 al ρ
 dM:∀k,k<9->ρ.i (681+k)=b5.i (640+k)
 l6:ρ.len 690<=6
 m:∃m:Nat,m<=al.len 470/\ρ.i 710=m/\Jp b5 m i ρ
theorem F5 {a:Alt} {ρ ax:aa} (h:gI a ρ ax) (e:a.ki=BU:=by rfl) (k:Nat) (u:k<9):ax.i (681+k)=ρ.i (681+k) :=
 h.2.1.1 (681+k) (by
  rw[e]
  rcases(show k=0\/k=1\/k=2\/k=3\/k=4\/k=5\/k=6\/k=7\/k=8 by omega)with rfl | rfl | rfl | rfl | rfl | rfl | rfl | rfl | rfl<;>decide)
theorem adq {ρ:aa} {bx:Prop} {aU:J} (u:J.ok ρ aU) (A:J.ok ρ ((nY c7,true)::aU)->bx) (E:J.ok ρ ((qq c7,true)::(nY c7,false)::aU)->bx) (h3:J.ok ρ ((uG c7,true)::(qq c7,false)::(nY c7,false)::aU)->bx) (h0:J.ok ρ ((uG c7,false)::(qq c7,false)::(nY c7,false)::aU)->bx):bx:=by
 rcases kV (nY c7) ρ with a | a
 ·exact A (J.av a u)
 ·rcases kV (qq c7) ρ with b | b
  ·exact E (J.av b (J.av a u))
  ·rcases kV (uG c7) ρ with c | c
   ·exact h3 (J.av c (J.av b (J.av a u)))
   ·exact h0 (J.av c (J.av b (J.av a u)))
theorem asp {s:Bool} {al ρ ax:aa} {m i j:Nat} {bM:dm} (hm:m<6) (hR:Jp al m i ρ) (h7:ρ.i 710=m) (H:(l7 c7).I ρ=l3 al m) (M:ρ.len 690<=6) (O:(Qp s)[j]? = some bM) (ha:bM.di=[]\/∃a∈bM.di,a.fr=i/\gI a ρ ax):(j=0\/j=1)/\Jp al (m+1) j ax/\ax.len 690<=6/\∀k,k<9->ax.i (681+k)=ρ.i (681+k):=by
 have hs:=ZJ al m
 have hlen:=QC al (m+1)
 match j,O with
 | 0,O =>
  cases O
  simp only[List.cons_ne_nil,false_or,List.mem_cons,List.not_mem_nil,or_false]at ha
  obtain⟨a,rfl,d3,a2⟩:=ha
  have h0:0=i:=d3
  have cn:(l7 c7).I ρ=false:=a2.1 _ List.mem_cons_self
  have hz:=hR.z h0.symm
  have kc:=(a2.2.1.2 690 List.mem_cons_self).1
  refine⟨.inl rfl,⟨fun _ => ?_,fun h=>absurd rfl h⟩,by rw[kc];exact M,F5 a2⟩
  rw[hs,hz,if_neg (by rw[<-H,cn];decide)];rfl
 | 1,O =>
  cases O
  simp only[List.cons_ne_nil,false_or,List.mem_cons,List.not_mem_nil,or_false]at ha
  obtain⟨a,hq,d3,a2⟩:=ha
  rcases hq with rfl | rfl | rfl
  ·have h0:0=i:=d3
   have cn:(l7 c7).I ρ=true:=a2.1 _ List.mem_cons_self
   have hz:=hR.z h0.symm
   have e:bO al (m+1)=[m]:=by rw[hs,hz,if_pos (by rw[<-H,cn])];rfl
   obtain⟨l,ci,_,_⟩:=a2.2.2.2 _ List.mem_cons_self
   have l:ax.len 690=1:=l
   refine⟨.inr rfl,⟨fun h=>by omega,fun _=>⟨rfl,by rw[e];simp,by rw[e,l];rfl,fun r v R => ?_⟩⟩,by omega,F5 a2⟩
   rw[e]at R
   have hr:r=0:=by
    have:=(List.getElem?_eq_some_iff.1 R).1
    simpa using this
   subst hr
   have R:m=v:=by simpa using R
   have c0:ax.ci 690 0 0=ρ.i 710:=ci 0 0
   rw[c0,h7,R]
  ·have h0:1=i:=d3
   have cn:(l7 c7).I ρ=false:=a2.1 _ List.mem_cons_self
   obtain⟨_,b2,dt,fg⟩:=hR.b (by omega)
   have e:bO al (m+1)=bO al m:=by rw[hs,if_neg (by rw[<-H,cn];decide),List.append_nil]
   obtain⟨l,c,_,_⟩:=a2.2.1.2 690 List.mem_cons_self
   refine⟨.inr rfl,⟨fun h=>by omega,fun _=>⟨rfl,by rw[e];exact b2,by rw[e,l];exact dt,fun r v R => ?_⟩⟩,by omega,F5 a2⟩
   rw[e]at R
   rw[c];exact fg r v R
  ·have h0:1=i:=d3
   have cn:(l7 c7).I ρ=true:=a2.1 _ List.mem_cons_self
   obtain⟨_,b2,dt,fg⟩:=hR.b (by omega)
   have e:bO al (m+1)=bO al m++[m]:=by rw[hs,if_pos (by rw[<-H,cn])]
   obtain⟨l,ci,_,_⟩:=a2.2.2.2 _ List.mem_cons_self
   have l:ax.len 690=(((ρ.len 690:Nat):Int)+1).toNat:=l
   have l:ax.len 690=ρ.len 690+1:=by omega
   rw[e,List.length_append,List.length_singleton]at hlen
   refine⟨.inr rfl,⟨fun h=>by omega,fun _=>⟨rfl,by rw[e];simp,by rw[e,List.length_append,List.length_singleton,l,dt],fun r v R => ?_⟩⟩,by omega,F5 a2⟩
   rw[e]at R
   have c0:=ci 0 r
   by_cases hr:r<ρ.len 690
   ·have e9:(RL.app (.len 690) (.var 690 [.i .i64]) (.one [ec c7])).row ρ ((r:Nat):Int)=(RL.var 690 [.i .i64]).row ρ (r:Int):=by
     show(if(r:Int)<(ρ.len 690:Int)then _ else _)=_
     rw[if_pos (by omega)]
    rw[e9]at c0
    have c0:ax.ci 690 0 r=ρ.ci 690 0 r:=c0
    rw[List.getElem?_append_left (by omega)]at R
    rw[c0];exact fg r v R
   ·have e9:(RL.app (.len 690) (.var 690 [.i .i64]) (.one [ec c7])).row ρ ((r:Nat):Int)=[AV.sc (.int .i64 (ρ.i 710))]:=by
     show(if(r:Int)<(ρ.len 690:Int)then _ else _)=_
     rw[if_neg (by omega)];rfl
    rw[e9]at c0
    have c0:ax.ci 690 0 r=ρ.i 710:=c0
    rw[List.getElem?_append_right (by omega)]at R
    have qH:r-(bO al m).length=0:=by
     have:=(List.getElem?_eq_some_iff.1 R).1
     simpa using this
    rw[qH]at R
    have R:m=v:=by simpa using R
    rw[c0,h7,R]
 | j+2,O=>cases O
theorem Zw (s:Bool):(C7 s).ge 680=true:=by
 cases s<;>kernel_rfl
theorem ash (hS:∀s∈h2,c4 Tryz.prog s) {ρ b5:aa} (M:J.ok ρ dh) (hT:TI ρ) (dq:ρ.i 443=1) (jR:az 630 b5 ρ) (s again:Bool) (a9:∀k,k<9->(EA s k).I ρ=b5.i (640+k)) (ha:again = !(bO b5 (ρ.len 470)).isEmpty):∃am,az 680 ρ am/\((∀k,k<9->am.i (681+k)=b5.i (640+k))/\(again=true->am.len 690=(bO b5 (ρ.len 470)).length/\∀(r v:Nat),(bO b5 (ρ.len 470))[r]? = some v->am.ci 690 0 r=(v:Int)))/\bW Tryz.prog am Tryz.f115.ntmps rJ (C6 s again):=by
 have A:=hT.n1
 have h6:=hT.n6
 have H:∀F,bZ Tryz.prog F g9.c:=fun F=>kW (List.forall_mem_nil _)
 refine ou (P:=Tryz.prog) (N:=Tryz.f115.ntmps) (body:=rJ) (k0:=2) (n:=680) (S0:=(tL s)) (ρ:=ρ) (ar8 s) (fun i=>ny s (if i=0 then false else true)) (C6 s again) ⟨rfl,rfl,rfl⟩ (fun i F=>(i=0\/i=1)/\RO b5 ρ F i) (fun am=>(∀k,k<9->am.i (681+k)=b5.i (640+k))/\(again=true->am.len 690=(bO b5 (ρ.len 470)).length/\∀(r v:Nat),(bO b5 (ρ.len 470))[r]? = some v->am.ci 690 0 r=(v:Int))) (fun F=>ρ.len 470-(F.i 710).toNat) (fun i F hR => ?_) ⟨0,(C7 s).ap ρ,Bind.bt (Zw s) ρ,⟨.inl rfl,Bind.bt (Zw s) ρ,nine (a9 0 (by omega)) (a9 1 (by omega)) (a9 2 (by omega)) (a9 3 (by omega)) (a9 4 (by omega)) (a9 5 (by omega)) (a9 6 (by omega)) (a9 7 (by omega)) (a9 8 (by omega)),Nat.zero_le _,0,Nat.zero_le _,rfl,fun _=>rfl,fun h=>absurd rfl h⟩,fun ac _ bI=>jF bI (asg s) ρ⟩
 obtain⟨hi,hR⟩:=hR
 have ah:=hR.ah
 obtain⟨m,hm,h7,lb⟩:=hR.m
 have l4:F.len 470=ρ.len 470:=(ah.len 470 (by decide)).symm
 have aP:=eU (c:=g9) (H F) hS 12
 have j_:J.ok F fP:=yV (by rw[<-ah.i 443 (by decide)];exact dq) (by omega) (by omega)
 have pc:=hT.bt (ah.le (by decide))
 obtain⟨r1,r2,r3,r0,rx⟩:=ar9 s (if i=0 then false else true)
 by_cases aQ:m<ρ.len 470
 ·right
  have hq:q7.I F=m+1:=by
   refine(show q7.I F=IntKind.i64.wrap (F.i 710+1)from rfl).trans ?_
   rw[h7];exact cc _ (by omega) (by omega)
  have hky:=(pc.ky m (by omega)).2
  have sd:(F.i 710).toNat=m:=by omega
  have dH:(uK.1).I F=true:=by
   show((F.len 474:Int)==F.i 440+F.i 443)=true
   rw[pc.rn];exact beq_self_eq_true _
  have dO:J.ok F (fP++(oU++dh)):=dY j_ (dY pc.tr (gR (n:=600) (ah.le (by decide)) (by kernel_rfl) M))
  have u:J.ok F C5:=by
   refine fR (show(0:Int)<=F.i 710 by omega) (J.av (decide_eq_true (by show F.i 710<(F.len 470:Int);omega)) (fF (show q7.I F<=(F.len 470:Int)by rw[hq];omega) (fR (by rw[hq];omega) (j0 ?_ (j0 (show(F.len 690:Int)<=6 by have:=hR.l6;omega) (J.av dH dO))))))
   show((F.cs 470 0 (F.i 710).toNat).size:Int)<=16
   rw[sd];omega
  have cn:(l7 c7).I F=l3 b5 (m:Int):=by rw[ad6,h7,ad7 (jR.trans (ah.le (by decide))) hR.dM]
  have is:(∃(j:Nat) (C:dm) (ax:aa),(Qp s)[j]? = some C/\ea Tryz.prog Tryz.f115.ntmps rJ 2 (ny s (if i=0 then false else true)) C.S F ax/\J.ok ax C.bS/\ax.i 710=IntKind.i64.wrap (F.i 710+1)/\az 680 F ax/\(dX 0 [] F->dX 0 [] ax)/\(C.di=[]\/∃a∈C.di,a.fr=(if(if i=0 then false else true)=true then 1 else 0)/\gI a F ax))->∃i' ax,ea Tryz.prog Tryz.f115.ntmps rJ 2 (ny s (if i=0 then false else true)) (ny s (if i'=0 then false else true)) F ax/\((i'=0\/i'=1)/\RO b5 ρ ax i')/\ρ.len 470-(ax.i 710).toNat<ρ.len 470-(F.i 710).toNat/\az 680 F ax:=fun⟨j,C,ax,g1,g2,_,g4,g5,_,g7⟩=>by
   have e4:ax.i 710=m+1:=by rw[g4,h7];exact cc _ (by omega) (by omega)
   have t9:(if(if i=0 then false else true)=true then 1 else 0)=i:=by rcases hi with rfl | rfl<;>rfl
   rw[t9]at g7
   obtain⟨q1,q2,q3,q4⟩:=asp (by omega) lb h7 cn hR.l6 g1 g7
   have Aq:C.S=ny s (if j=0 then false else true):=by
    rcases q1 with rfl | rfl<;>(cases g1;rfl)
   rw[Aq]at g2
   exact⟨j,ax,g2,⟨q1,ah.trans g5,fun k kb=>by rw[q4 k kb,hR.dM k kb],q3,m+1,by omega,by omega,q2⟩,by omega,g5⟩
  exact adq u (fun h=>is (kL mixed cR aP (a1.nil _ _ _ _) C_ h r1)) (fun h=>is (kL mixed cR aP (a1.nil _ _ _ _) C_ h r2)) (fun h=>is (kL mixed cR aP (a1.nil _ _ _ _) C_ h r3)) (fun h=>is (kL mixed cR aP (a1.nil _ _ _ _) C_ h r0))
 ·left
  obtain rfl:m=ρ.len 470:=by omega
  have u:J.ok F zl:=fR (show(0:Int)<=F.i 710 by omega) (J.av (decide_eq_false (by show ¬F.i 710<(F.len 470:Int);omega)) j_)
  have ib:again=(if i=0 then false else true):=by
   rcases hi with rfl | rfl
   ·rw[ha,lb.z rfl];rfl
   ·obtain⟨_,b2,_⟩:=lb.b (by decide)
    rw[ha]
    cases hq:bO b5 (ρ.len 470)with
    | nil=>exact absurd hq b2
    | cons _ _=>rfl
  refine⟨⟨hR.dM,fun cf => ?_⟩,?_⟩
  ·have:i≠0:=fun h=>by rw[ib,if_pos h]at cf;cases cf
   obtain⟨_,_,dt,fg⟩:=lb.b this
   exact⟨dt,fg⟩
  ·rw[ib]
   rcases gD mixed cR aP (a1.nil _ _ _ _) C_ u rx with h | ⟨j,C,_,g1,_⟩
   ·exact h
   ·simp at g1
end Go.Proofs.YtpdfmnhgocpkcaaGreat
namespace Go.Proofs.YtpdfmnhgocpkcaaGreat
open Go Go.Proofs.Aw Go.Proofs.Xw
set_option maxRecDepth 100000
def zQ (ag:Bool):List X:=[.ptr (0,0) [] 0,.agg ((mK ag).map .sc)]
def Iu (ag again:Bool):J:=(if again=true then [(.lt (.len 690) (.lit 1),false)]else [])++(qw ag++((bU 47,ag)::uK::(fP++(oU++(ko g8++dh)))))
noncomputable def Qy (ag s again:Bool) (g:Nat):List bf:=if Nat.beq g 115=true then [oP ag s,C6 s again]else []
noncomputable def ZC (s:Bool):=if s=true then [(114,[o9],X.agg (vi 671 9))]else []
noncomputable def Is (ag s again:Bool):cj:=⟨bd (ZC s) (Qy ag s again),h2,[10119,10114]⟩
def Iw (again:Bool):aL:=d4 ([xi 1,aY (0,1) 1 (.len 470),aY (0,2) 25 (.len 470),(if again=true then .slv (1,0) 1 (.lit 0) (.len 690) true else .k (.slice none 0 0)),xn (if again=true then 2 else 1)]++vi 681 9++[xl (!again),xn 0]) kR [.rows 25 (.len 470) c5] oR++(if again=true then [((1,0),some [.rows 1 (.len 690) (.var 690 [.i .i64])])]else [])
def FU (d:aL):T (X×aL)->Bool
 | .ret (r,e)=>X.beq r (xn 0)&&po.rW e d
 | _=>false
theorem agX {d:aL} {t:T (X×aL)} (h:FU d t=true):t = .ret (xn 0,d):=by
 cases t with
 | ret p =>
  obtain⟨r,e⟩:=p
  simp only[FU,Bool.and_eq_true]at h
  rw[X.beq_eq _ _ h.1,Ee h.2]
 | br _ _ _=>cases h
 | cL _ _=>cases h
 | fail _=>cases h
def g0 (ag s again:Bool):Prop:=FU (Iw again) (fC (Is ag s again) 115 (zQ ag) uU (Iu ag again))=true
theorem asJ:g0 false false false:=by unfold g0;kernel_rfl
theorem asK:g0 false false true:=by unfold g0;kernel_rfl
theorem asL:g0 false true false:=by unfold g0;kernel_rfl
theorem asM:g0 false true true:=by unfold g0;kernel_rfl
theorem asN:g0 true false false:=by unfold g0;kernel_rfl
theorem asO:g0 true false true:=by unfold g0;kernel_rfl
theorem asP:g0 true true false:=by unfold g0;kernel_rfl
theorem asQ:g0 true true true:=by unfold g0;kernel_rfl
theorem asS (ag s again:Bool):FU (Iw again) (fC (Is ag s again) 115 (zQ ag) uU (Iu ag again))=true:=by
 cases ag<;>cases s<;>cases again
 ·exact asJ
 ·exact asK
 ·exact asL
 ·exact asM
 ·exact asN
 ·exact asO
 ·exact asP
 ·exact asQ
theorem asH (ag s again:Bool) {ρ:aa} (A:bW Tryz.prog ρ Tryz.f115.ntmps oO (oP ag s)) (E:bW Tryz.prog ρ Tryz.f115.ntmps rJ (C6 s again)):∀g i,eB g gb=some i->a1 Tryz.prog ρ i.ntmps (Qy ag s again g) i.body:=fun g i hi=>by
 unfold Qy
 split
 ·rename_i hf
  have hf:=Nat.eq_of_beq_eq_true hf
  subst hf
  have gc:jk Tryz.prog 115 i:=mT (115,i) (jV _ _ (jU hi))
  refine ov gc Tryz.func115 ?_
  exact kv (c:=Tryz.f115.body.getD .skip) [0,1] (by cases ag<;>cases s<;>cases again<;>kernel_rfl) (List.forall_mem_cons.2 ⟨ku (L:=oP ag s) (c:=oO) (by cases ag<;>cases s<;>cases again<;>kernel_rfl) A,List.forall_mem_cons.2 ⟨ku (L:=C6 s again) (c:=rJ) (by cases ag<;>cases s<;>cases again<;>kernel_rfl) E,List.forall_mem_nil _⟩⟩)
 ·exact a1.nil _ _ _ _
end Go.Proofs.YtpdfmnhgocpkcaaGreat
namespace Go.Proofs.YtpdfmnhgocpkcaaGreat
open Go Go.Proofs.Aw Go.Proofs.Xw
set_option maxRecDepth 100000
theorem asu (s:Bool):(XS.mk (rK s).t (rK s).h (rK s).nx).ar 660=true:=by cases s<;>kernel_rfl
theorem asv (ag:Bool):(tP ag).ar 630=true:=List.all_eq_true.1 ZG ag (by cases ag<;>simp)
theorem ast {ag s:Bool} {ρ F:aa} (ah:az 660 ρ F) (h:bW Tryz.prog ρ Tryz.f115.ntmps oO (oP ag s)):bW Tryz.prog F Tryz.f115.ntmps oO (oP ag s):=by
 intro ac hE bI
 have:=h ac hE bI
 have e0:(oP ag s).S.I ((oP ag s).init.ap ρ)=(oP ag s).S.I ((oP ag s).init.ap F):=XS.aT (n:=630) (ah.le (by decide)) (tP ag) (asv ag)
 rw[e0]at this
 refine dE (fun e V hq => ?_) this
 obtain⟨e',t,q1,q2,q3⟩:=hq
 have q1:some (XE.exit 0,rK s)=some (e',t):=q1
 cases q1
 exact⟨.exit 0,rK s,rfl,q2,by rw[<-XS.aT ah (rK s) (asu s)];exact q3⟩
theorem aeU {ρ:aa} {n r v:Nat} (h:(dZ ρ n)[r]? = some v):v<n/\ρ.cb 625 1 v=true:=by
 have:=List.mem_of_getElem? h
 unfold dZ at this
 simp only[List.mem_filter,List.mem_range]at this
 exact this
noncomputable def kH (ρ:aa):aa:={ ρ with i:=fun k=>if 671<=k/\k<680 then mB ρ (k-671) (ρ.len 651)else ρ.i k }
theorem apy (ρ:aa):az 671 ρ (kH ρ):=⟨fun k u=>by show _=if _ then _ else _;rw[if_neg (by omega)],fun _ _=>rfl,fun _ _=>rfl,fun _ _=>rfl,fun _ _=>rfl,fun _ _=>rfl,fun _ _=>rfl,fun _ _=>rfl⟩
theorem apz (ρ:aa) {k:Nat} (u:k<9):(kH ρ).i (671+k)=mB ρ k (ρ.len 651):=by
 show(if _ then _ else _)=_
 rw[if_pos (by omega),Nat.add_sub_cancel_left]
theorem apA (ρ:aa):X.I (kH ρ) (.agg (vi 671 9)) = .agg ((List.range 9).map fun k => .sc (.int .i64 (mB ρ k (ρ.len 651)))):=by
 show AV.agg (X.af (kH ρ) ((List.range 9).map fun j=>xi (671+j)))=_
 rw[X.l5,List.map_map]
 congr 1
theorem afI {ρ:aa} {ag:Bool} (hb:(bU 47).I ρ=ag) (hu:ag=true->(BE.eq (.uf 2 0 dr) (.lit 1)).I ρ=true):J.ok ρ (qw ag):=by
 cases ag with
 | true=>exact J.av (hu rfl) (J.bq _)
 | false=>exact J.av hb (J.bq _)
theorem asz (hS:∀s∈h2,c4 Tryz.prog s) {ρ b5:aa} (ag:Bool) (M:J.ok ρ dh) (hT:TI ρ) (dq:ρ.i 443=1) (hb:(bU 47).I ρ=ag) (hu:ag=true->(BE.eq (.uf 2 0 dr) (.lit 1)).I ρ=true)
  (jR:az 630 (bK ρ ag) b5) (iP:∀k,k<9->b5.i (640+k)=ia (bK ρ ag) k (ρ.len 470)) (again:Bool) (cf:again = !(bO b5 (ρ.len 470)).isEmpty) :
  ∃fV,az 630 (bK ρ ag) fV/\(∀k,k<9->fV.i (681+k)=b5.i (640+k))/\(again=true->fV.len 690=(bO b5 (ρ.len 470)).length/\∀(r v:Nat),(bO b5 (ρ.len 470))[r]? = some v->fV.ci 690 0 r=(v:Int))/\c' Tryz.prog fV ⟨115,zQ ag,uU,xn 0,Iw again⟩:=by
 have qa:=yW ρ ag
 have hE:=fun j O hq=>KJ hT hb hu j O hq
 have n6:=hT.n6
 obtain⟨am,rt,hM,pb⟩:=asG hS ag hT dq hb hu _ rfl
 generalize hs:(!(dZ (bK ρ ag) (ρ.len 470)).isEmpty)=s at hM pb
 have hlen:=TT (bK ρ ag) (ρ.len 470)
 have g1:=apy am
 have he:az 630 (bK ρ ag) (kH am):=rt.trans (g1.le (by decide))
 have nM:az 600 ρ (kH am):=(qa.le (by decide)).trans (he.le (by decide))
 have hTg:=hT.bt nM
 have hlg:J.ok (kH am) dh:=gR (n:=600) nM (by kernel_rfl) M
 have af1:(kH am).i 443=1:=by rw[<-nM.i 443 (by decide)];exact dq
 have VX:(kH am).len 470=ρ.len 470:=(nM.len 470 (by decide)).symm
 have c0:∀k,k<9->0<=(bK ρ ag).i (405+k):=fun k u=>hT.dM k u
 have Td:∀k,k<9->(kH am).i (405+k)=(bK ρ ag).i (405+k):=fun k u=>(he.i (405+k) (by omega)).symm
 have a9:∀k,k<9->(EA s k).I (kH am)=b5.i (640+k):=fun k u=>by
  rw[iP k u]
  cases m_:s with
  | true =>
   obtain⟨q1,q2⟩:=hM m_
   rw[adU (c0 k u) q1 q2]
   show max (max 0 ((kH am).i (405+k))) ((kH am).i (671+k))=_
   rw[apz am u,Td k u]
  | false =>
   have hn:dZ (bK ρ ag) (ρ.len 470)=[]:=by
    rw[m_]at hs
    cases hq:dZ (bK ρ ag) (ρ.len 470)with
    | nil=>rfl
    | cons _ _=>rw[hq]at hs;cases hs
   rw[adT (c0 k u) hn]
   show max (max 0 ((kH am).i (405+k))) 0=_
   rw[Td k u]
 obtain⟨fV,t5,⟨afQ,ig⟩,LN⟩:=ash hS hlg hTg af1 (jR.symm.trans he) s again a9 (by rw[VX];exact cf)
 rw[VX]at ig
 have iA:az 600 ρ fV:=nM.trans (t5.le (by decide))
 have A_:=hT.bt iA
 have pb:=ast (F:=fV) ((g1.le (by decide)).trans (t5.le (by decide))) pb
 have Mh:∀p∈ZC s,b_ Tryz.prog p.1=true/\∀n h,CY Tryz.prog n p.1 (X.af fV p.2.1) h (p.2.2.I fV) []:=fun p hp=>by
  cases m_:s with
  | false=>rw[m_]at hp;cases hp
  | true =>
   rw[m_]at hp
   have hp:p∈[(114,[o9],X.agg (vi 671 9))]:=hp
   obtain rfl:=List.mem_singleton.1 hp
   obtain⟨q1,q2⟩:=hM m_
   have q:=aoG (ρ:=am) (by omega) (fun r hr=>by
    obtain⟨v,R⟩:∃v,(dZ (bK ρ ag) (ρ.len 470))[r]? = some v:=⟨_,List.getElem?_eq_getElem (by omega)⟩
    obtain⟨v1,v2⟩:=aeU R
    rw[Tt (q2 r v R)]
    exact hE v v1 v2)
   have e1:X.af am [o9]=X.af fV [o9]:=X.fZ (n:=660) ((g1.le (by decide)).trans (t5.le (by decide))) _ (by kernel_rfl)
   have e2:X.I (kH am) (.agg (vi 671 9))=X.I fV (.agg (vi 671 9)):=X.aT (n:=680) t5 _ (by kernel_rfl)
   rw[e1,<-apA,e2]at q
   exact q
 have H:bZ Tryz.prog fV (Is ag s again).c:=hl Mh (asH ag s again pb LN)
 have hbh:(bU 47).I fV=ag:=by rw[<-hb];exact(BE.aT iA _ (by kernel_rfl)).symm
 have hfa:J.ok fV (qw ag):=gR (n:=600) iA (by cases ag<;>kernel_rfl) (afI hb hu)
 have eN:J.ok fV (qw ag++((bU 47,ag)::uK::(fP++(oU++(ko g8++dh))))) :=
  dY hfa (J.av hbh (J.av (by show((fV.len 474:Int)==fV.i 440+fV.i 443)=true;rw[A_.rn];exact beq_self_eq_true _) (dY (yV (by rw[<-iA.i 443 (by decide)];exact dq) A_.n1 A_.n6) (dY A_.tr (dY A_.VN (gR (n:=600) iA (by kernel_rfl) M))))))
 have u:J.ok fV (Iu ag again):=by
  cases UM:again with
  | false=>exact eN
  | true =>
   obtain⟨q1,_⟩:=ig UM
   rw[UM]at cf
   have A:1<=(bO b5 (ρ.len 470)).length:=by
    cases hq:bO b5 (ρ.len 470)with
    | nil=>rw[hq]at cf;cases cf
    | cons _ _=>simp
   exact fF (a := .len 690) (b := .lit 1) (show(1:Int)<=(fV.len 690:Int)by omega) eN
 exact⟨fV,he.trans (t5.le (by decide)),afQ,ig,uq H hS u (show(fC (Is ag s again) 115 (zQ ag) uU (Iu ag again)).aq fV=some (xn 0,Iw again)by rw[agX (asS ag s again)];rfl)⟩
end Go.Proofs.YtpdfmnhgocpkcaaGreat
namespace Go.Proofs.YtpdfmnhgocpkcaaGreat
open Go Go.Proofs.Aw Go.Proofs.Xw
set_option maxRecDepth 100000
theorem acr (ag:Bool):X.jo 600 (zQ ag)=true:=by cases ag<;>kernel_rfl
theorem afh:(XS.mk [] uU 0).ar 600=true:=by kernel_rfl
theorem asB (hS:∀s∈h2,c4 Tryz.prog s) {ρ b5:aa} (ag:Bool) (M:J.ok ρ dh) (hT:TI ρ) (dq:ρ.i 443=1) (hb:(bU 47).I ρ=ag) (hu:ag=true->(BE.eq (.uf 2 0 dr) (.lit 1)).I ρ=true)
  (jR:az 630 (bK ρ ag) b5) (iP:∀k,k<9->b5.i (640+k)=ia (bK ρ ag) k (ρ.len 470)) {F:aa} (im:ui ρ F (fun k=>ia (bK ρ ag) k (ρ.len 470)) (bO b5 (ρ.len 470))):c' Tryz.prog F (ic ag (!(bO b5 (ρ.len 470)).isEmpty)):=by
 generalize cf:(!(bO b5 (ρ.len 470)).isEmpty)=again
 obtain⟨bv,D0,a9,ig,g⟩:=asz hS ag M hT dq hb hu jR iP again cf.symm
 have nM:az 600 ρ bv:=((yW ρ ag).le (by decide)).trans (D0.le (by decide))
 have iA:az 600 bv F:=nM.symm.trans im.ah
 have xo:aA bv [.rows 25 (.len 470) c5]=aA F [.rows 25 (.len 470) (b9 ag)]:=(RV ag D0).trans (RX ag im.ah)
 have n3:X.af bv (vi 681 9)=X.af F (vi 600 9):=by
  show [_,_,_,_,_,_,_,_,_]=[_,_,_,_,_,_,_,_,_]
  have q:∀k,k<9->bv.i (681+k)=F.i (600+k):=fun k u=>by rw[a9 k u,iP k u,im.dM k u]
  have w:∀k,k<9->(xi (681+k)).I bv=(xi (600+k)).I F:=fun k u=>by
   show AV.sc (.int .i64 (bv.i (681+k)))=AV.sc (.int .i64 (F.i (600+k)))
   rw[q k u]
  exact congr (congr rfl (w 0 (by omega))) (congr (congr rfl (w 1 (by omega))) (congr (congr rfl (w 2 (by omega))) (congr (congr rfl (w 3 (by omega))) (congr (congr rfl (w 4 (by omega))) (congr (congr rfl (w 5 (by omega))) (congr (congr rfl (w 6 (by omega))) (congr (congr rfl (w 7 (by omega))) (congr (congr rfl (w 8 (by omega))) rfl))))))))
 have ww:∀cs:List X,(XS.mk [] [((0,0),cs)] 0).ar 600=true->aA bv cs=aA F cs:=fun cs aI=>by
  have:=r8 iA [((0,0),cs)] aI
  exact(Prod.mk.inj (List.cons.inj this).1).2
 have H1:X.af bv [xi 1,aY (0,1) 1 (.len 470),aY (0,2) 25 (.len 470)]=X.af F [xi 1,aY (0,1) 1 (.len 470),aY (0,2) 25 (.len 470)]:=X.fZ iA _ (by kernel_rfl)
 have yK:=ww kR (by kernel_rfl)
 have Cn:=ww oR (by kernel_rfl)
 have cell:∀(td pW:X) (rd:Int) (b:Bool),td.I bv=pW.I F->aA bv ([xi 1,aY (0,1) 1 (.len 470),aY (0,2) 25 (.len 470),td,xn rd]++vi 681 9++[xl b,xn 0])=aA F ([xi 1,aY (0,1) 1 (.len 470),aY (0,2) 25 (.len 470),pW,xn rd]++vi 600 9++[xl b,xn 0]):=fun td pW rd b Mx=>by
  have p1:X.af bv [xi 1,aY (0,1) 1 (.len 470),aY (0,2) 25 (.len 470),td,xn rd]=X.af F [xi 1,aY (0,1) 1 (.len 470),aY (0,2) 25 (.len 470),pW,xn rd]:=by
   show X.af bv [xi 1,aY (0,1) 1 (.len 470),aY (0,2) 25 (.len 470)]++(td.I bv::X.af bv [xn rd])=X.af F [xi 1,aY (0,1) 1 (.len 470),aY (0,2) 25 (.len 470)]++(pW.I F::X.af F [xn rd])
   rw[H1,Mx]
   rfl
  have GE:X.af bv [xl b,xn 0]=X.af F [xl b,xn 0]:=rfl
  rw[cP rfl,cP rfl,X.gq (m:=[xl b,xn 0]),X.gq (m:=[xl b,xn 0]),X.gq (m:=vi 681 9),X.gq (m:=vi 600 9),n3,p1,GE]
 refine Ur g (X.fZ iA _ (acr ag)) (r8 iA uU afh) rfl ?_
 cases again with
 | false =>
  have e:=cell (.k (.slice none 0 0)) (.k (.slice none 0 0)) 1 true rfl
  have this:([((0,0),some (aA bv ([xi 1,aY (0,1) 1 (.len 470),aY (0,2) 25 (.len 470),.k (.slice none 0 0),xn 1]++vi 681 9++[xl true,xn 0]))),((0,1),some (aA bv kR)),((0,2),some (aA bv [.rows 25 (.len 470) c5])),((0,3),some (aA bv oR))]:Dl)=[((0,0),some (aA F ([xi 1,aY (0,1) 1 (.len 470),aY (0,2) 25 (.len 470),.k (.slice none 0 0),xn 1]++vi 600 9++[xl true,xn 0]))),((0,1),some (aA F kR)),((0,2),some (aA F [.rows 25 (.len 470) (b9 ag)])),((0,3),some (aA F oR))]:=by
   rw[e,yK,xo,Cn]
  exact this
 | true =>
  obtain⟨q1,q2⟩:=ig rfl
  have hlen:bv.len 690=F.len 610:=by rw[q1,im.pv]
  have e:=cell (.slv (1,0) 1 (.lit 0) (.len 690) true) (.slv (1,0) 1 (.lit 0) (.len 610) true) 2 false (by
   simp only[X.I,U.I,hlen])
  have e9:aA bv [.rows 1 (.len 690) (.var 690 [.i .i64])]=aA F [.rows 1 (.len 610) (.var 610 [.i .i64])]:=by
   show(aV bv (.len 690) (.var 690 [.i .i64])).flatten=(aV F (.len 610) (.var 610 [.i .i64])).flatten
   congr 1
   unfold aV
   have A:((U.len 690).I bv).toNat=(bO b5 (ρ.len 470)).length:=by show((bv.len 690:Nat):Int).toNat=_;rw[q1];exact Int.toNat_natCast _
   have E:((U.len 610).I F).toNat=(bO b5 (ρ.len 470)).length:=by show((F.len 610:Nat):Int).toNat=_;rw[im.pv];exact Int.toNat_natCast _
   rw[A,E]
   refine List.map_congr_left fun j O => ?_
   have O:=List.mem_range.1 O
   obtain⟨v,R⟩:∃v,(bO b5 (ρ.len 470))[j]? = some v:=⟨_,List.getElem?_eq_getElem O⟩
   show [AV.sc (.int .i64 (bv.ci 690 0 ((j:Int)).toNat))]=[AV.sc (.int .i64 (F.ci 610 0 ((j:Int)).toNat))]
   rw[Int.toNat_natCast,q2 j v R,im.ce j v R]
  have this:([((0,0),some (aA bv ([xi 1,aY (0,1) 1 (.len 470),aY (0,2) 25 (.len 470),.slv (1,0) 1 (.lit 0) (.len 690) true,xn 2]++vi 681 9++[xl false,xn 0]))),((0,1),some (aA bv kR)),((0,2),some (aA bv [.rows 25 (.len 470) c5])),((0,3),some (aA bv oR)),((1,0),some (aA bv [.rows 1 (.len 690) (.var 690 [.i .i64])]))]:Dl)=[((0,0),some (aA F ([xi 1,aY (0,1) 1 (.len 470),aY (0,2) 25 (.len 470),.slv (1,0) 1 (.lit 0) (.len 610) true,xn 2]++vi 600 9++[xl false,xn 0]))),((0,1),some (aA F kR)),((0,2),some (aA F [.rows 25 (.len 470) (b9 ag)])),((0,3),some (aA F oR)),((1,0),some (aA F [.rows 1 (.len 610) (.var 610 [.i .i64])]))]:=by
   rw[e,yK,xo,Cn,e9]
  exact this
end Go.Proofs.YtpdfmnhgocpkcaaGreat
