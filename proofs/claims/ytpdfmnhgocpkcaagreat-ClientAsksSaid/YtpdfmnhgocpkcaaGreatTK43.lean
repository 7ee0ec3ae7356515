/- Parts of the proof, one behind the other. -/
import Derived.Test.YtpdfmnhgocpkcaaGreatTK42
import Derived.Test.YtpdfmnhgocpkcaaGreatTK19
namespace Go.Proofs.YtpdfmnhgocpkcaaGreat
open Go Go.Proofs.Aw Go.Proofs.Xw
set_option maxRecDepth 100000
def po:X := .rl 20 (.len 651) (.var 651 fN) false
def aaR:List X:=List.replicate 9 (xn 0)
def Pq (i:X):bf:=[(4,i),(3,.ptr (1,0) [] 0),(2,.ptr (0,0) [] 0),(0,po)]
def Pn (v:List X):av:=[((0,0),aaR),((1,0),v)]
def HL:XS:=⟨Pq (xn 0),Pn aaR,3⟩
def CT:XS:=⟨Pq (xi 720),Pn (vi 660 9),3⟩
def Pp:XS:=⟨Pq .top,Pn (vi 660 9),40⟩
noncomputable def wz:Code:=(ef (Tryz.f114.body.getD .skip))[0]?.getD .skip
def DH:U := .op .add .i64 (.var 720) (.lit 1)
def jC (k:Nat):U := .cl 651 k (.var 720)
def CR (c k:Nat):U:=if Nat.beq k c=true then .op .max .i64 (.op .max .i64 (.op .max .i64 (.lit 0) (.var (660+k))) (jC (9+k))) (jC 2)else .op .max .i64 (.op .max .i64 (.lit 0) (.var (660+k))) (jC (9+k))
def m3 (a b:Nat):J:=[(.eq (jC 0) (.lit a),true),(.eq (jC 1) (.lit b),true)]
def ic (a b:Nat):Alt:=⟨0,[],[],(List.range 9).map (fun k=>(660+k,CR (3*a+b) k)),[],m3 a b⟩
def aoG:List dq:=[⟨CT,[],[ic 0 0,ic 0 1,ic 0 2,ic 1 0,ic 1 1,ic 1 2,ic 2 0,ic 2 1,ic 2 2]⟩]
def ny:J:=[(.lt (.var 720) (.lit 0),false),(.lt (.var 720) (.len 651),true),(.lt (.len 651) DH,false),(.lt DH (.lit 0),false),(.lt (.lit 6) (.len 651),false)]
def XX:J:=[(.lt (.var 720) (.lit 0),false),(.lt (.var 720) (.len 651),false)]
noncomputable def CQ:cr:=⟨bg [] (fun _=>[]),[],[]⟩
noncomputable def XZ (B:J):T (XE×XS):=(cz CQ.c.ti (eT CQ 12) ((CQ.c.hV 114).elim [] (·.ms)) 0 [] 1000 wz B CT).map (eu (CT.t.map (·.1)))
noncomputable def p5 (B:J):Bool:=dX 0 655 720 [] (0,[]) 0 aoG Pp .normal B (XZ B)
noncomputable def psX (B:J):Bool:=dX 0 655 720 [] (0,[]) 0 [] Pp (.exit 0) B (XZ B)
theorem aoI:p5 (m3 0 0++ny)=true:=by kernel_rfl
theorem aoJ:p5 (m3 0 1++ny)=true:=by kernel_rfl
theorem aoK:p5 (m3 0 2++ny)=true:=by kernel_rfl
theorem aoL:p5 (m3 1 0++ny)=true:=by kernel_rfl
theorem aoM:p5 (m3 1 1++ny)=true:=by kernel_rfl
theorem aoN:p5 (m3 1 2++ny)=true:=by kernel_rfl
theorem aoO:p5 (m3 2 0++ny)=true:=by kernel_rfl
theorem aoP:p5 (m3 2 1++ny)=true:=by kernel_rfl
theorem aoQ:p5 (m3 2 2++ny)=true:=by kernel_rfl
theorem aoX:psX XX=true:=by kernel_rfl
theorem aoR {a b:Nat} (ha:a<3) (hb:b<3):p5 (m3 a b++ny)=true:=by
 rcases(show a=0\/a=1\/a=2 by omega)with rfl | rfl | rfl<;>rcases(show b=0\/b=1\/b=2 by omega)with rfl | rfl | rfl
 ·exact aoI
 ·exact aoJ
 ·exact aoK
 ·exact aoL
 ·exact aoM
 ·exact aoN
 ·exact aoO
 ·exact aoP
 ·exact aoQ
noncomputable def H5 (ρ:aa) (r:Nat):aa:={ ρ with i:=fun k=>ρ.ci 651 k r,s:=fun k=>ρ.cs 651 k r,b:=fun k=>ρ.cb 651 k r }
noncomputable def sI (ρ:aa) (r:Nat):List Value:=(kZ 0).I (H5 ρ r)
noncomputable def mI (ρ:aa) (k:Nat):Nat->Int
 | 0=>0
 | r+1=>max (max 0 (mI ρ k r)) (UF 3 (sI ρ r) k)
theorem aot {ρ:aa} {r:Nat} (h:UF 2 (sI ρ r) 0=1):(0<=ρ.ci 651 0 r/\ρ.ci 651 0 r<=2)/\(0<=ρ.ci 651 1 r/\ρ.ci 651 1 r<=2)/\1<=ρ.ci 651 2 r/\∀k:Nat,k<9->0<=ρ.ci 651 (9+k) r/\UF 3 (sI ρ r) k=max (max 0 (ρ.ci 651 (9+k) r)) (if ρ.ci 651 0 r*3+ρ.ci 651 1 r=k then ρ.ci 651 2 r else 0):=by
 obtain⟨g2,hg2⟩:=QV (H5 ρ r)
 obtain⟨rx,q1,q2,q3⟩:=(gT hg2).pr h
 obtain⟨g3,hg3⟩:=aay (ρ:=H5 ρ r) h
 have q4:=(gT hg3).pr
 have xG:∀k:Nat,k<9->vI ((kZ 0).I (H5 ρ r)) (9+k)=ρ.ci 651 (9+k) r:=fun k u=>by
  rcases(show k=0\/k=1\/k=2\/k=3\/k=4\/k=5\/k=6\/k=7\/k=8 by omega)with rfl | rfl | rfl | rfl | rfl | rfl | rfl | rfl | rfl<;>rfl
 refine⟨rx,q1,q2.1,fun k u=>⟨?_,?_⟩⟩
 ·have:=(q3 k u).1
  rw[xG k u]at this
  exact this
 ·have:=q4 k u
  unfold wx at this
  rw[xG k u]at this
  exact this
end Go.Proofs.YtpdfmnhgocpkcaaGreat
namespace Go.Proofs.YtpdfmnhgocpkcaaGreat
open Go Go.Proofs.Aw Go.Proofs.Xw
set_option maxRecDepth 100000
theorem X0:dp Tryz.f114.ntmps wz=true:=by kernel_rfl
theorem aoS:HL.au 655=true:=by kernel_rfl
def XY:Bind:=⟨(720,.lit 0)::(List.range 9).map (fun k=>(660+k,.lit 0)),[],[],[]⟩
theorem aoT:gp 0 655 XY [] CT HL=true:=by kernel_rfl
noncomputable def CS:bo:=⟨(dF wz).getD 0,0,655,HL,gJ,[],.ret (.exit 0,Pp)⟩
structure PsI (al ρ:aa):Prop where
 ah:aA 655 al ρ
 m:∃m:Nat,m<=al.len 651/\ρ.i 720=m/\∀k,k<9->ρ.i (660+k)=mI al k m
theorem aoH {ρ:aa} {m:Nat} (hm:ρ.i 720=m) (c k:Nat):(CR c k).I ρ=if k=c then max (max (max 0 (ρ.i (660+k))) (ρ.ci 651 (9+k) m)) (ρ.ci 651 2 m)else max (max 0 (ρ.i (660+k))) (ρ.ci 651 (9+k) m):=by
 have e:∀q,(jC q).I ρ=ρ.ci 651 q m:=fun q=>by
  show ρ.ci 651 q (ρ.i 720).toNat=_
  rw[hm,Int.toNat_natCast]
 unfold CR
 by_cases h:k=c
 ·subst h
  rw[if_pos (Nat.beq_refl k),if_pos rfl]
  show max (max (max 0 (ρ.i (660+k))) ((jC (9+k)).I ρ)) ((jC 2).I ρ)=_
  rw[e,e]
 ·rw[if_neg (by simpa using h),if_neg h]
  show max (max 0 (ρ.i (660+k))) ((jC (9+k)).I ρ)=_
  rw[e]
theorem acS {a:Alt} (h:a∈[ic 0 0,ic 0 1,ic 0 2,ic 1 0,ic 1 1,ic 1 2,ic 2 0,ic 2 1,ic 2 2]):∃x y:Nat,a=ic x y:=by
 simp only[List.mem_cons,List.not_mem_nil,or_false]at h
 rcases h with rfl | rfl | rfl | rfl | rfl | rfl | rfl | rfl | rfl<;>exact⟨_,_,rfl⟩
theorem aoU {ρ:aa} (n6:ρ.len 651<=6) (hE:∀r,r<ρ.len 651->UF 2 (sI ρ r) 0=1):∃ar,aA 655 ρ ar/\(∀k,k<9->ar.i (660+k)=mI ρ k (ρ.len 651))/\b8 Tryz.prog ar Tryz.f114.ntmps wz CS:=by
 have H:∀G,cf Tryz.prog G CQ.c:=fun G=>lb (List.forall_mem_nil _)
 refine rz (P:=Tryz.prog) (N:=Tryz.f114.ntmps) (body:=wz) (k0:=0) (n:=655) (S0:=HL) (ρ:=ρ) aoS (fun _=>CT) CS ⟨rfl,rfl,rfl⟩ (fun _ G=>PsI ρ G) (fun G=>∀k,k<9->G.i (660+k)=mI ρ k (ρ.len 651)) (fun G=>ρ.len 651-(G.i 720).toNat) (fun _ G hR => ?_) ⟨0,XY.ap ρ,Bind.bC (by kernel_rfl) ρ,⟨Bind.bC (by kernel_rfl) ρ,0,Nat.zero_le _,rfl,nine rfl rfl rfl rfl rfl rfl rfl rfl rfl⟩,fun ac _ bM=>lL bM aoT ρ⟩
 have ah:=hR.ah
 obtain⟨m,hm,hi,i4⟩:=hR.m
 have l4:G.len 651=ρ.len 651:=(ah.len 651 (by decide)).symm
 have aO:=ft (c:=CQ) (H G) (List.forall_mem_nil _) 12
 have t9:∀q r,G.ci 651 q r=ρ.ci 651 q r:=fun q r=>by rw[<-ah.ci 651 (by decide)]
 by_cases aT:m<ρ.len 651
 ·right
  obtain⟨av9,p1,p2,GE⟩:=aot (hE m aT)
  have hp:DH.I G=m+1:=by
   refine(show DH.I G=IntKind.i64.wrap (G.i 720+1)from rfl).trans ?_
   rw[hi];exact cp _ (by omega) (by omega)
  have u:J.ok G ny:=fR (show(0:Int)<=G.i 720 by omega) (J.aw (decide_eq_true (by show G.i 720<(G.len 651:Int);omega)) (fF (show DH.I G<=(G.len 651:Int)by rw[hp];omega) (fR (by rw[hp];omega) (kj (show(G.len 651:Int)<=6 by omega) (J.bq _)))))
  have e65d:∀q,(jC q).I G=ρ.ci 651 q m:=fun q=>by
   show G.ci 651 q (G.i 720).toNat=_
   rw[hi,Int.toNat_natCast,t9]
  obtain⟨a,b,ha,hb,iw,K3⟩:∃a b:Nat,a<3/\b<3/\ρ.ci 651 0 m=a/\ρ.ci 651 1 m=b:=⟨(ρ.ci 651 0 m).toNat,(ρ.ci 651 1 m).toNat,by omega,by omega,by omega,by omega⟩
  have hd:J.ok G (m3 a b++ny):=J.aw (by show((jC 0).I G==(a:Int))=true;rw[e65d,iw];exact beq_self_eq_true _) (J.aw (by show((jC 1).I G==(b:Int))=true;rw[e65d,K3];exact beq_self_eq_true _) u)
  obtain⟨j,C,ax,g1,g2,_,g4,g5,_,g7⟩:=jZ mixed dj aO (a5.nil _ _ _ _) X0 hd (aoR ha hb)
  have e4:ax.i 720=m+1:=by rw[g4,hi];exact cp _ (by omega) (by omega)
  match j,g1 with
  | 0,g1 =>
   cases g1
   refine⟨0,ax,g2,⟨ah.trans g5,m+1,by omega,by omega,fun k kx => ?_⟩,by omega,g5⟩
   rcases g7 with g7 | ⟨dm,FG,_,a2⟩
   ·cases g7
   ·obtain⟨x,y,rfl⟩:=acS FG
    have hx:(jC 0).I G=x:=by
     have:=a2.1 _ List.mem_cons_self
     exact eq_of_beq (show((jC 0).I G==(x:Int))=true from this)
    have hy:(jC 1).I G=y:=by
     have:=a2.1 _ (List.mem_cons_of_mem _ List.mem_cons_self)
     exact eq_of_beq (show((jC 1).I G==(y:Int))=true from this)
    rw[e65d]at hx hy
    have R:ax.i (660+k)=(CR (3*x+y) k).I G:=a2.2.2.1 (660+k,CR (3*x+y) k) (List.mem_map.2 ⟨k,List.mem_range.2 kx,rfl⟩)
    rw[R,aoH hi,i4 k kx,t9,t9]
    obtain⟨d0,d1⟩:=GE k kx
    show _=max (max 0 (mI ρ k m)) (UF 3 (sI ρ m) k)
    rw[d1]
    by_cases pB:k=3*x+y
    ·rw[if_pos pB,if_pos (by omega)]
     omega
    ·rw[if_neg pB,if_neg (by omega)]
     omega
  | j+1,g1=>cases g1
 ·left
  obtain rfl:m=ρ.len 651:=by omega
  have u:J.ok G XX:=fR (show(0:Int)<=G.i 720 by omega) (J.aw (decide_eq_false (by show ¬G.i 720<(G.len 651:Int);omega)) (J.bq _))
  refine⟨i4,?_⟩
  rcases ij mixed dj aO (a5.nil _ _ _ _) X0 u aoX with h | ⟨j,C,_,g1,_⟩
  ·exact h
  ·simp at g1
noncomputable def Po (g:Nat):List bo:=if Nat.beq g 114=true then [CS]else []
noncomputable def Pm:cr:=⟨bg [] Po,[],[]⟩
theorem aoW:iK (aS Pm 114 [po] [(.lt (.lit 6) (.len 651),false)]) (.ret (.agg (vi 660 9)))=true:=by kernel_rfl
theorem aoV {ρ:aa} (h:b8 Tryz.prog ρ Tryz.f114.ntmps wz CS):∀g i,eS g gA=some i->a5 Tryz.prog ρ i.ntmps (Po g) i.body:=fun g i hi=>by
 unfold Po
 split
 ·rename_i hf
  have hf:=Nat.eq_of_beq_eq_true hf
  subst hf
  have g0:j6 Tryz.prog 114 i:=oc (114,i) (k8 _ _ (k7 hi))
  refine pN g0 Tryz.func114 ?_
  exact lE (c:=Tryz.f114.body.getD .skip) [0] (by kernel_rfl) (List.forall_mem_cons.2 ⟨lD (L:=CS) (c:=wz) (by kernel_rfl) h,List.forall_mem_nil _⟩)
 ·exact a5.nil _ _ _ _
theorem aos {ρ:aa} (n6:ρ.len 651<=6) (hE:∀r,r<ρ.len 651->UF 2 (sI ρ r) 0=1):Cy 114 (X.af ρ [po]) (.agg ((List.range 9).map fun k => .sc (.int .i64 (mI ρ k (ρ.len 651))))):=by
 obtain⟨ar,ah,hq,hL⟩:=aoU n6 hE
 have H:cf Tryz.prog ar Pm.c:=jz (List.forall_mem_nil _) (aoV hL)
 have u:J.ok ar [(.lt (.lit 6) (.len 651),false)]:=kj (show(ar.len 651:Int)<=6 by rw[<-ah.len 651 (by decide)];omega) (J.bq _)
 have q:=eG H (List.forall_mem_nil _) u (show(aS Pm 114 [po] [(.lt (.lit 6) (.len 651),false)]).aq ar=some _ by rw[qp aoW];rfl)
 have e1:X.af ρ [po]=X.af ar [po]:=X.fI ah _ (by kernel_rfl)
 have e2:X.I ar (.agg (vi 660 9)) = .agg ((List.range 9).map fun k => .sc (.int .i64 (mI ρ k (ρ.len 651)))):=by
  show AV.agg (X.af ar ((List.range 9).map fun j=>xi (660+j)))=_
  rw[X.mh,List.map_map]
  congr 1
  refine List.map_congr_left fun j M => ?_
  show AV.sc (.int .i64 (ar.i (660+j)))=_
  rw[hq j (List.mem_range.1 M)]
 rw[e1,<-e2]
 exact q
end Go.Proofs.YtpdfmnhgocpkcaaGreat
namespace Go.Proofs.YtpdfmnhgocpkcaaGreat
open Go Go.Proofs.Aw Go.Proofs.Xw
set_option maxRecDepth 100000
noncomputable def u_ (ρ:aa) (k:Nat) (l:List Nat):Int:=l.foldl (fun a (v:Nat)=>max (max 0 a) (UF 3 (lj ρ (v:Int)) k)) 0
theorem Ui (ρ:aa) (k:Nat) (l:List Nat) (v:Nat):u_ ρ k (l++[v])=max (max 0 (u_ ρ k l)) (UF 3 (lj ρ (v:Int)) k):=by
 unfold u_
 rw[List.foldl_append]
 rfl
theorem KI {ρ:aa} {k:Nat} (H:0<=ρ.i (405+k)):∀m,iv ρ k m=max (ρ.i (405+k)) (u_ ρ k (eb ρ m))
 | 0=>by
  show ρ.i (405+k)=max (ρ.i (405+k)) 0
  omega
 | m+1=>by
  have ih:=KI H m
  show(if ρ.cb 625 1 m=true then max (max 0 (iv ρ k m)) (UF 3 (lj ρ m) k)else iv ρ k m)=_
  rw[T4]
  by_cases h:ρ.cb 625 1 m=true
  ·rw[if_pos h,if_pos h,Ui,ih]
   generalize UF 3 (lj ρ ((m:Nat):Int)) k=Y
   generalize u_ ρ k (eb ρ m)=aU
   omega
  ·rw[if_neg h,if_neg h,List.append_nil,ih]
theorem TL {al ρ:aa} {r:Nat} {x:Int} (h:(RL.var 651 fN).row ρ (r:Int)=dn al x):sI ρ r=lj al x:=by
 have ci:∀k:Nat,aH ((RL.var 651 fN).row ρ (r:Int))[k]? = aH (dn al x)[k]? := fun k=>by rw[h]
 have cs:∀k:Nat,cellS ((RL.var 651 fN).row ρ (r:Int))[k]? = cellS (dn al x)[k]? := fun k=>by rw[h]
 have cb:∀k:Nat,dS ((RL.var 651 fN).row ρ (r:Int))[k]? = dS (dn al x)[k]? := fun k=>by rw[h]
 have i0:ρ.ci 651 0 r=aH (dn al x)[0]? := ci 0
 have i1:ρ.ci 651 1 r=aH (dn al x)[1]? := ci 1
 have ot:ρ.ci 651 2 r=aH (dn al x)[2]? := ci 2
 have vE:ρ.ci 651 3 r=aH (dn al x)[3]? := ci 3
 have jK:ρ.ci 651 4 r=aH (dn al x)[4]? := ci 4
 have M6:ρ.ci 651 5 r=aH (dn al x)[5]? := ci 5
 have Y7:ρ.cs 651 6 r=cellS (dn al x)[6]? := cs 6
 have Y8:ρ.cs 651 7 r=cellS (dn al x)[7]? := cs 7
 have acl:ρ.cb 651 8 r=dS (dn al x)[8]? := cb 8
 have agU:ρ.ci 651 9 r=aH (dn al x)[9]? := ci 9
 have i10:ρ.ci 651 10 r=aH (dn al x)[10]? := ci 10
 have i11:ρ.ci 651 11 r=aH (dn al x)[11]? := ci 11
 have i12:ρ.ci 651 12 r=aH (dn al x)[12]? := ci 12
 have i13:ρ.ci 651 13 r=aH (dn al x)[13]? := ci 13
 have i14:ρ.ci 651 14 r=aH (dn al x)[14]? := ci 14
 have i15:ρ.ci 651 15 r=aH (dn al x)[15]? := ci 15
 have i16:ρ.ci 651 16 r=aH (dn al x)[16]? := ci 16
 have i17:ρ.ci 651 17 r=aH (dn al x)[17]? := ci 17
 have i18:ρ.ci 651 18 r=aH (dn al x)[18]? := ci 18
 have i19:ρ.ci 651 19 r=aH (dn al x)[19]? := ci 19
 show [Value.int .i64 (ρ.ci 651 0 r),.int .i64 (ρ.ci 651 1 r),.int .i64 (ρ.ci 651 2 r),.int .i64 (ρ.ci 651 3 r),.int .i64 (ρ.ci 651 4 r),.int .i64 (ρ.ci 651 5 r),.string (ρ.cs 651 6 r),.string (ρ.cs 651 7 r),.bool (ρ.cb 651 8 r),.int .i64 (ρ.ci 651 9 r),.int .i64 (ρ.ci 651 10 r),.int .i64 (ρ.ci 651 11 r),.int .i64 (ρ.ci 651 12 r),.int .i64 (ρ.ci 651 13 r),.int .i64 (ρ.ci 651 14 r),.int .i64 (ρ.ci 651 15 r),.int .i64 (ρ.ci 651 16 r),.int .i64 (ρ.ci 651 17 r),.int .i64 (ρ.ci 651 18 r),.int .i64 (ρ.ci 651 19 r)]=_
 rw[i0,i1,ot,vE,jK,M6,Y7,Y8,acl,agU,i10,i11,i12,i13,i14,i15,i16,i17,i18,i19]
 rfl
theorem XQ {al ρ:aa} {k:Nat} {l:List Nat} (h:∀(r v:Nat),l[r]? = some v->(RL.var 651 fN).row ρ (r:Int)=dn al (v:Int)):∀r,r<=l.length->mI ρ k r=u_ al k (l.take r)
 | 0,_=>rfl
 | r+1,hr=>by
  have ih:=XQ (k:=k) h r (by omega)
  obtain⟨v,R⟩:∃v,l[r]? = some v:=⟨_,List.getElem?_eq_getElem (by omega)⟩
  rw[List.take_add_one,R]
  show max (max 0 (mI ρ k r)) (UF 3 (sI ρ r) k)=u_ al k (l.take r++[v])
  rw[Ui,ih,TL (h r v R)]
theorem ael {al ρ:aa} {k n:Nat} (H:0<=al.i (405+k)) (O:ρ.len 651=(eb al n).length) (h:∀(r v:Nat),(eb al n)[r]? = some v->(RL.var 651 fN).row ρ (r:Int)=dn al (v:Int)):iv al k n=max (max 0 (al.i (405+k))) (mI ρ k (ρ.len 651)):=by
 rw[KI H,XQ (k:=k) h _ (by omega),O,List.take_length]
 omega
theorem aek {al:aa} {k n:Nat} (H:0<=al.i (405+k)) (h:eb al n=[]):iv al k n=max (max 0 (al.i (405+k))) 0:=by
 rw[KI H,h]
 show max (al.i (405+k)) 0=_
 omega
end Go.Proofs.YtpdfmnhgocpkcaaGreat
namespace Go.Proofs.YtpdfmnhgocpkcaaGreat
open Go Go.Proofs.Aw Go.Proofs.Xw
set_option maxRecDepth 100000
def n5 (i:U):BE := .lt (.cl 625 22 i) (r4 681 i)
def qN (i:U):BE := .lt (.cl 625 23 i) (r4 684 i)
def uZ (i:U):BE := .lt (.cl 625 24 i) (r4 687 i)
def mi (i:U):BE := .or (n5 i) (.or (qN i) (uZ i))
def t3C (dT:List X):List X:=[xi 1,aZ (0,1) 1 (.len 470),aZ (0,2) 25 (.len 470),fD false,xn 1]++dT++[xl false,xn 0]
def t3K (s:Bool):av:=if s=true then [((73,0),[.rows 20 (.len 651) (.var 651 fN)])]else []
def IL (s:Bool) (dT:List X):av:=[((0,0),t3C dT),((0,1),kR),((0,2),[.rows 25 (.len 470) c_]),((0,3),oR)]++t3K s
def arR:bf:=([1,3,4,5,7,11,12,13,14,15,16,17,24,25,26]++(List.range 54).map (29 + ·)++(List.range 10).map (114 + ·)).map fun k=>(k,.top)
def Dw (s:Bool) (i td:X):bf:=(9,i)::(8,td)::(6,if s=true then ug else pT)::(0,.ptr (0,0) [] 0)::arR
def ZO:X := .slv (133,0) 1 (.lit 0) (.len 690) true
def EY (s:Bool) (k:Nat):U := .op .max .i64 (.op .max .i64 (.lit 0) (.var (405+k))) (if s=true then .var (671+k)else .lit 0)
def cuX (s:Bool):List X:=(List.range 9).map fun k => .sc (.i .i64 (EY s k))
def uc (s:Bool):XS:=⟨Dw s (xn 0) pT,IL s (cuX s),133⟩
def ZN (s:Bool):av:=IL s (vi 681 9)++[((133,0),[.rows 1 (.len 690) (.var 690 [.i .i64])])]
def nG (s again:Bool):XS:=if again=true then⟨Dw s (xi 710) ZO,ZN s,134⟩else⟨Dw s (xi 710) pT,IL s (vi 681 9),133⟩
def Qz (s again:Bool):XS:=if again=true then⟨Dw s .top ZO,ZN s,200⟩else⟨Dw s .top pT,IL s (vi 681 9),200⟩
noncomputable def sb:Code:=(ef (Tryz.f115.body.getD .skip))[1]?.getD .skip
def B7:List Nat:=[681,682,683,684,685,686,687,688,689]
def Qy (s:Bool):List dq:=[⟨nG s false,[],[⟨0,B7,[690],[],[],[(mi c7,false)]⟩]⟩,⟨nG s true,[],[⟨0,B7,[],[],[(690,.lit 1,.one [eo c7])],[(mi c7,true)]⟩,⟨1,B7,[690],[],[],[(mi c7,false)]⟩,⟨1,B7,[],[],[(690,.op .cY .i64 (.len 690) (.lit 1),.app (.len 690) (.var 690 [.i .i64]) (.one [eo c7]))],[(mi c7,true)]⟩]⟩]
def Dt:J:=[(.lt (.var 710) (.lit 0),false),(.lt (.var 710) (.len 470),true),(.lt (.len 470) q7,false),(.lt q7 (.lit 0),false),(.lt (.lit 16) (.cm (.cl 470 0 (.var 710))),false),(.lt (.lit 6) (.len 690),false),u3]++(fU++(o6++di))
def zu:J:=[(.lt (.var 710) (.lit 0),false),(.lt (.var 710) (.len 470),false)]++fU
noncomputable def ZP (s again:Bool) (B:J):T (XE×XS):=(cz hD.c.ti (eT hD 12) ((hD.c.hV 115).elim [] (·.ms)) 2 [] 1000 sb B (nG s again)).map (eu ((nG s again).t.map (·.1)))
noncomputable def hk (s again:Bool) (B:J):Bool:=dX 2 680 710 [] (0,[]) (if again=true then 1 else 0) (Qy s) (Qz s again) .normal B (ZP s again B)
noncomputable def Dx (s again:Bool) (B:J):Bool:=dX 2 680 710 [] (0,[]) 0 [] (Qz s again) (.exit 2) B (ZP s again B)
def Bg:J:=(n5 c7,true)::Dt
def Bh:J:=(qN c7,true)::(n5 c7,false)::Dt
def Bi:J:=(uZ c7,true)::(qN c7,false)::(n5 c7,false)::Dt
def Bf:J:=(uZ c7,false)::(qN c7,false)::(n5 c7,false)::Dt
theorem arV:(hk false false Bg&&(hk false false Bh&&(hk false false Bi&&(hk false false Bf&&Dx false false zu))))=true:=by kernel_rfl
theorem arW:(hk false true Bg&&(hk false true Bh&&(hk false true Bi&&(hk false true Bf&&Dx false true zu))))=true:=by kernel_rfl
theorem arX:(hk true false Bg&&(hk true false Bh&&(hk true false Bi&&(hk true false Bf&&Dx true false zu))))=true:=by kernel_rfl
theorem arY:(hk true true Bg&&(hk true true Bh&&(hk true true Bi&&(hk true true Bf&&Dx true true zu))))=true:=by kernel_rfl
theorem arU (s a:Bool):hk s a Bg=true/\hk s a Bh=true/\hk s a Bi=true/\hk s a Bf=true/\Dx s a zu=true:=by
 cases s<;>cases a
 ·have:=arV
  simpa only[Bool.and_eq_true]using this
 ·have:=arW
  simpa only[Bool.and_eq_true]using this
 ·have:=arX
  simpa only[Bool.and_eq_true]using this
 ·have:=arY
  simpa only[Bool.and_eq_true]using this
theorem Dy:dp Tryz.f115.ntmps sb=true:=by kernel_rfl
theorem arS:((uc true).au 680&&(uc false).au 680)=true:=by kernel_rfl
def Dv (s:Bool):Bind:=⟨(710,.lit 0)::(List.range 9).map (fun k=>(681+k,EY s k)),[],[],[(690,.lit 0,.one [])]⟩
theorem arZ:(gp 2 680 (Dv true) [] (nG true false) (uc true)&&gp 2 680 (Dv false) [] (nG false false) (uc false))=true:=by kernel_rfl
theorem arT (s:Bool):(uc s).au 680=true:=by
 have:=arS
 simp only[Bool.and_eq_true]at this
 cases s
 ·exact this.2
 ·exact this.1
theorem ar0 (s:Bool):gp 2 680 (Dv s) [] (nG s false) (uc s)=true:=by
 have:=arZ
 simp only[Bool.and_eq_true]at this
 cases s
 ·exact this.2
 ·exact this.1
noncomputable def Du (s again:Bool):bo:=⟨(dF sb).getD 0,2,680,uc s,gJ,[],.ret (.exit 2,Qz s again)⟩
noncomputable def KP (ρ:aa) (x:Int):Bool:=(mi (.var 0)).I (gW ρ x)
theorem aey (ρ:aa):(mi c7).I ρ=KP ρ (ρ.i 710):=rfl
theorem Qb {ρ G:aa} {k l:Nat} {x:Int} (hu:(tD (.var 0)).I (gW ρ x)=(tD (.var 0)).I (gW G x)) (u:k≠0/\l≠0) (h0:ρ.i k=G.i l) (A:ρ.i (k+1)=G.i (l+1)) (E:ρ.i (k+2)=G.i (l+2)):(r4 k (.var 0)).I (gW ρ x)=(r4 l (.var 0)).I (gW G x):=by
 have mQ:(U.var k).I (gW ρ x)=(U.var l).I (gW G x):=by
  show(if k=0 then x else ρ.i k)=if l=0 then x else G.i l
  rw[if_neg u.1,if_neg u.2,h0]
 have bp:(U.var (k+1)).I (gW ρ x)=(U.var (l+1)).I (gW G x):=by
  show(if k+1=0 then x else ρ.i (k+1))=if l+1=0 then x else G.i (l+1)
  rw[if_neg (by omega),if_neg (by omega),A]
 have bj:(U.var (k+2)).I (gW ρ x)=(U.var (l+2)).I (gW G x):=by
  show(if k+2=0 then x else ρ.i (k+2))=if l+2=0 then x else G.i (l+2)
  rw[if_neg (by omega),if_neg (by omega),E]
 have d:∀(ρ:aa) (k:Nat),(r4 k (.var 0)).I ρ=if((tD (.var 0)).I ρ==0)=true then(U.var k).I ρ else if((tD (.var 0)).I ρ==1)=true then(U.var (k+1)).I ρ else(U.var (k+2)).I ρ:=fun _ _=>rfl
 rw[d,d,hu,mQ,bp,bj]
theorem aez {ρ G:aa} (ah:aA 630 ρ G) (H:∀k,k<9->G.i (681+k)=ρ.i (640+k)) (x:Int):KP G x=mg ρ x:=by
 have hu:(tD (.var 0)).I (gW G x)=(tD (.var 0)).I (gW ρ x):=(U.aP (n:=630) (ρ:=gW ρ x) (G:=gW G x) ⟨fun k u=>by show(if k=0 then x else ρ.i k)=if k=0 then x else G.i k;rw[ah.i k u],ah.b,ah.s,ah.len,ah.ci,ah.cb,ah.cs,ah.ct⟩ _ (by kernel_rfl)).symm
 have s1:=Qb (k:=681) (l:=640) hu ⟨by decide,by decide⟩ (H 0 (by omega)) (H 1 (by omega)) (H 2 (by omega))
 have s2:=Qb (k:=684) (l:=643) hu ⟨by decide,by decide⟩ (H 3 (by omega)) (H 4 (by omega)) (H 5 (by omega))
 have s3:=Qb (k:=687) (l:=646) hu ⟨by decide,by decide⟩ (H 6 (by omega)) (H 7 (by omega)) (H 8 (by omega))
 have d:∀(k:Nat),(U.cl 625 k (.var 0)).I (gW G x)=(U.cl 625 k (.var 0)).I (gW ρ x):=fun k=>by
  show G.ci 625 k _=ρ.ci 625 k _
  rw[ah.ci 625 (by decide)]
  rfl
 unfold KP mg mi mf n5 qN uZ n4 qJ uW
 simp only[BE.I,s1,s2,s3,d]
end Go.Proofs.YtpdfmnhgocpkcaaGreat
namespace Go.Proofs.YtpdfmnhgocpkcaaGreat
open Go Go.Proofs.Aw Go.Proofs.Xw
set_option maxRecDepth 100000
structure JL (al:aa) (m:Nat) (i:Nat) (ρ:aa):Prop where
 z:i=0->bS al m=[]
 b:i≠0->i=1/\bS al m≠[]/\ρ.len 690=(bS al m).length/\∀(r v:Nat),(bS al m)[r]? = some v->ρ.ci 690 0 r=(v:Int)
structure RZ (b7 al ρ:aa) (i:Nat):Prop where
 ah:aA 680 al ρ
 dT:∀k,k<9->ρ.i (681+k)=b7.i (640+k)
 l6:ρ.len 690<=6
 m:∃m:Nat,m<=al.len 470/\ρ.i 710=m/\JL b7 m i ρ
theorem Gs {a:Alt} {ρ ax:aa} (h:gR a ρ ax) (e:a.ki=B7:=by rfl) (k:Nat) (u:k<9):ax.i (681+k)=ρ.i (681+k) :=
 h.2.1.1 (681+k) (by
  rw[e]
  rcases(show k=0\/k=1\/k=2\/k=3\/k=4\/k=5\/k=6\/k=7\/k=8 by omega)with rfl | rfl | rfl | rfl | rfl | rfl | rfl | rfl | rfl<;>decide)
theorem adS {ρ:aa} {bx:Prop} {aU:J} (u:J.ok ρ aU) (A:J.ok ρ ((n5 c7,true)::aU)->bx) (E:J.ok ρ ((qN c7,true)::(n5 c7,false)::aU)->bx) (h3:J.ok ρ ((uZ c7,true)::(qN c7,false)::(n5 c7,false)::aU)->bx) (h0:J.ok ρ ((uZ c7,false)::(qN c7,false)::(n5 c7,false)::aU)->bx):bx:=by
 rcases k_ (n5 c7) ρ with a | a
 ·exact A (J.aw a u)
 ·rcases k_ (qN c7) ρ with b | b
  ·exact E (J.aw b (J.aw a u))
  ·rcases k_ (uZ c7) ρ with c | c
   ·exact h3 (J.aw c (J.aw b (J.aw a u)))
   ·exact h0 (J.aw c (J.aw b (J.aw a u)))
theorem ar8 {s:Bool} {al ρ ax:aa} {m i j:Nat} {bO:dq} (hm:m<6) (hR:JL al m i ρ) (h7:ρ.i 710=m) (H:(mi c7).I ρ=mg al m) (O:ρ.len 690<=6) (M:(Qy s)[j]? = some bO) (ha:bO.dm=[]\/∃a∈bO.dm,a.fr=i/\gR a ρ ax):(j=0\/j=1)/\JL al (m+1) j ax/\ax.len 690<=6/\∀k,k<9->ax.i (681+k)=ρ.i (681+k):=by
 have hs:=Z2 al m
 have hlen:=QM al (m+1)
 match j,M with
 | 0,M =>
  cases M
  simp only[List.cons_ne_nil,false_or,List.mem_cons,List.not_mem_nil,or_false]at ha
  obtain⟨a,rfl,d5,a2⟩:=ha
  have h0:0=i:=d5
  have co:(mi c7).I ρ=false:=a2.1 _ List.mem_cons_self
  have hz:=hR.z h0.symm
  have kz:=(a2.2.1.2 690 List.mem_cons_self).1
  refine⟨.inl rfl,⟨fun _ => ?_,fun h=>absurd rfl h⟩,by rw[kz];exact O,Gs a2⟩
  rw[hs,hz,if_neg (by rw[<-H,co];decide)];rfl
 | 1,M =>
  cases M
  simp only[List.cons_ne_nil,false_or,List.mem_cons,List.not_mem_nil,or_false]at ha
  obtain⟨a,hq,d5,a2⟩:=ha
  rcases hq with rfl | rfl | rfl
  ·have h0:0=i:=d5
   have co:(mi c7).I ρ=true:=a2.1 _ List.mem_cons_self
   have hz:=hR.z h0.symm
   have e:bS al (m+1)=[m]:=by rw[hs,hz,if_pos (by rw[<-H,co])];rfl
   obtain⟨l,ci,_,_⟩:=a2.2.2.2 _ List.mem_cons_self
   have l:ax.len 690=1:=l
   refine⟨.inr rfl,⟨fun h=>by omega,fun _=>⟨rfl,by rw[e];simp,by rw[e,l];rfl,fun r v R => ?_⟩⟩,by omega,Gs a2⟩
   rw[e]at R
   have hr:r=0:=by
    have:=(List.getElem?_eq_some_iff.1 R).1
    simpa using this
   subst hr
   have R:m=v:=by simpa using R
   have c0:ax.ci 690 0 0=ρ.i 710:=ci 0 0
   rw[c0,h7,R]
  ·have h0:1=i:=d5
   have co:(mi c7).I ρ=false:=a2.1 _ List.mem_cons_self
   obtain⟨_,b2,de,fq⟩:=hR.b (by omega)
   have e:bS al (m+1)=bS al m:=by rw[hs,if_neg (by rw[<-H,co];decide),List.append_nil]
   obtain⟨l,c,_,_⟩:=a2.2.1.2 690 List.mem_cons_self
   refine⟨.inr rfl,⟨fun h=>by omega,fun _=>⟨rfl,by rw[e];exact b2,by rw[e,l];exact de,fun r v R => ?_⟩⟩,by omega,Gs a2⟩
   rw[e]at R
   rw[c];exact fq r v R
  ·have h0:1=i:=d5
   have co:(mi c7).I ρ=true:=a2.1 _ List.mem_cons_self
   obtain⟨_,b2,de,fq⟩:=hR.b (by omega)
   have e:bS al (m+1)=bS al m++[m]:=by rw[hs,if_pos (by rw[<-H,co])]
   obtain⟨l,ci,_,_⟩:=a2.2.2.2 _ List.mem_cons_self
   have l:ax.len 690=(((ρ.len 690:Nat):Int)+1).toNat:=l
   have l:ax.len 690=ρ.len 690+1:=by omega
   rw[e,List.length_append,List.length_singleton]at hlen
   refine⟨.inr rfl,⟨fun h=>by omega,fun _=>⟨rfl,by rw[e];simp,by rw[e,List.length_append,List.length_singleton,l,de],fun r v R => ?_⟩⟩,by omega,Gs a2⟩
   rw[e]at R
   have c0:=ci 0 r
   by_cases hr:r<ρ.len 690
   ·have fe:(RL.app (.len 690) (.var 690 [.i .i64]) (.one [eo c7])).row ρ ((r:Nat):Int)=(RL.var 690 [.i .i64]).row ρ (r:Int):=by
     show(if(r:Int)<(ρ.len 690:Int)then _ else _)=_
     rw[if_pos (by omega)]
    rw[fe]at c0
    have c0:ax.ci 690 0 r=ρ.ci 690 0 r:=c0
    rw[List.getElem?_append_left (by omega)]at R
    rw[c0];exact fq r v R
   ·have fe:(RL.app (.len 690) (.var 690 [.i .i64]) (.one [eo c7])).row ρ ((r:Nat):Int)=[AV.sc (.int .i64 (ρ.i 710))]:=by
     show(if(r:Int)<(ρ.len 690:Int)then _ else _)=_
     rw[if_neg (by omega)];rfl
    rw[fe]at c0
    have c0:ax.ci 690 0 r=ρ.i 710:=c0
    rw[List.getElem?_append_right (by omega)]at R
    have mp:r-(bS al m).length=0:=by
     have:=(List.getElem?_eq_some_iff.1 R).1
     simpa using this
    rw[mp]at R
    have R:m=v:=by simpa using R
    rw[c0,h7,R]
 | j+2,M=>cases M
theorem ZQ (s:Bool):(Dv s).ge 680=true:=by
 cases s<;>kernel_rfl
theorem ar1 (hS:∀s∈hj,c9 Tryz.prog s) {ρ b7:aa} (O:J.ok ρ di) (hT:TI ρ) (dv:ρ.i 443=1) (j9:aA 630 b7 ρ) (s again:Bool) (a':∀k,k<9->(EY s k).I ρ=b7.i (640+k)) (ha:again = !(bS b7 (ρ.len 470)).isEmpty):∃ar,aA 680 ρ ar/\((∀k,k<9->ar.i (681+k)=b7.i (640+k))/\(again=true->ar.len 690=(bS b7 (ρ.len 470)).length/\∀(r v:Nat),(bS b7 (ρ.len 470))[r]? = some v->ar.ci 690 0 r=(v:Int)))/\b8 Tryz.prog ar Tryz.f115.ntmps sb (Du s again):=by
 have A:=hT.n1
 have h6:=hT.n6
 have H:∀G,cf Tryz.prog G hD.c:=fun G=>lb (List.forall_mem_nil _)
 refine rz (P:=Tryz.prog) (N:=Tryz.f115.ntmps) (body:=sb) (k0:=2) (n:=680) (S0:=(uc s)) (ρ:=ρ) (arT s) (fun i=>nG s (if i=0 then false else true)) (Du s again) ⟨rfl,rfl,rfl⟩ (fun i G=>(i=0\/i=1)/\RZ b7 ρ G i) (fun ar=>(∀k,k<9->ar.i (681+k)=b7.i (640+k))/\(again=true->ar.len 690=(bS b7 (ρ.len 470)).length/\∀(r v:Nat),(bS b7 (ρ.len 470))[r]? = some v->ar.ci 690 0 r=(v:Int))) (fun G=>ρ.len 470-(G.i 710).toNat) (fun i G hR => ?_) ⟨0,(Dv s).ap ρ,Bind.bC (ZQ s) ρ,⟨.inl rfl,Bind.bC (ZQ s) ρ,nine (a' 0 (by omega)) (a' 1 (by omega)) (a' 2 (by omega)) (a' 3 (by omega)) (a' 4 (by omega)) (a' 5 (by omega)) (a' 6 (by omega)) (a' 7 (by omega)) (a' 8 (by omega)),Nat.zero_le _,0,Nat.zero_le _,rfl,fun _=>rfl,fun h=>absurd rfl h⟩,fun ac _ bM=>lL bM (ar0 s) ρ⟩
 obtain⟨hi,hR⟩:=hR
 have ah:=hR.ah
 obtain⟨m,hm,h7,li⟩:=hR.m
 have l4:G.len 470=ρ.len 470:=(ah.len 470 (by decide)).symm
 have aO:=ft (c:=hD) (H G) hS 12
 have kv:J.ok G fU:=y4 (by rw[<-ah.i 443 (by decide)];exact dv) (by omega) (by omega)
 have pp:=hT.bC (ah.le (by decide))
 obtain⟨r1,r2,r3,r0,rW⟩:=arU s (if i=0 then false else true)
 by_cases aT:m<ρ.len 470
 ·right
  have hq:q7.I G=m+1:=by
   refine(show q7.I G=IntKind.i64.wrap (G.i 710+1)from rfl).trans ?_
   rw[h7];exact cp _ (by omega) (by omega)
  have hky:=(pp.ky m (by omega)).2
  have sH:(G.i 710).toNat=m:=by omega
  have dN:(u3.1).I G=true:=by
   show((G.len 474:Int)==G.i 440+G.i 443)=true
   rw[pp.rn];exact beq_self_eq_true _
  have dV:J.ok G (fU++(o6++di)):=dZ kv (dZ pp.tr (gz (n:=600) (ah.le (by decide)) (by kernel_rfl) O))
  have u:J.ok G Dt:=by
   refine fR (show(0:Int)<=G.i 710 by omega) (J.aw (decide_eq_true (by show G.i 710<(G.len 470:Int);omega)) (fF (show q7.I G<=(G.len 470:Int)by rw[hq];omega) (fR (by rw[hq];omega) (kj ?_ (kj (show(G.len 690:Int)<=6 by have:=hR.l6;omega) (J.aw dN dV))))))
   show((G.cs 470 0 (G.i 710).toNat).size:Int)<=16
   rw[sH];omega
  have co:(mi c7).I G=mg b7 (m:Int):=by rw[aey,h7,aez (j9.trans (ah.le (by decide))) hR.dT]
  have iH:(∃(j:Nat) (C:dq) (ax:aa),(Qy s)[j]? = some C/\ei Tryz.prog Tryz.f115.ntmps sb 2 (nG s (if i=0 then false else true)) C.S G ax/\J.ok ax C.b6/\ax.i 710=IntKind.i64.wrap (G.i 710+1)/\aA 680 G ax/\(eP 0 [] G->eP 0 [] ax)/\(C.dm=[]\/∃a∈C.dm,a.fr=(if(if i=0 then false else true)=true then 1 else 0)/\gR a G ax))->∃i' ax,ei Tryz.prog Tryz.f115.ntmps sb 2 (nG s (if i=0 then false else true)) (nG s (if i'=0 then false else true)) G ax/\((i'=0\/i'=1)/\RZ b7 ρ ax i')/\ρ.len 470-(ax.i 710).toNat<ρ.len 470-(G.i 710).toNat/\aA 680 G ax:=fun⟨j,C,ax,g1,g2,_,g4,g5,_,g7⟩=>by
   have e4:ax.i 710=m+1:=by rw[g4,h7];exact cp _ (by omega) (by omega)
   have qP:(if(if i=0 then false else true)=true then 1 else 0)=i:=by rcases hi with rfl | rfl<;>rfl
   rw[qP]at g7
   obtain⟨q1,q2,q3,q4⟩:=ar8 (by omega) li h7 co hR.l6 g1 g7
   have pn:C.S=nG s (if j=0 then false else true):=by
    rcases q1 with rfl | rfl<;>(cases g1;rfl)
   rw[pn]at g2
   exact⟨j,ax,g2,⟨q1,ah.trans g5,fun k kx=>by rw[q4 k kx,hR.dT k kx],q3,m+1,by omega,by omega,q2⟩,by omega,g5⟩
  exact adS u (fun h=>iH (jZ mixed dj aO (a5.nil _ _ _ _) Dy h r1)) (fun h=>iH (jZ mixed dj aO (a5.nil _ _ _ _) Dy h r2)) (fun h=>iH (jZ mixed dj aO (a5.nil _ _ _ _) Dy h r3)) (fun h=>iH (jZ mixed dj aO (a5.nil _ _ _ _) Dy h r0))
 ·left
  obtain rfl:m=ρ.len 470:=by omega
  have u:J.ok G zu:=fR (show(0:Int)<=G.i 710 by omega) (J.aw (decide_eq_false (by show ¬G.i 710<(G.len 470:Int);omega)) kv)
  have iw:again=(if i=0 then false else true):=by
   rcases hi with rfl | rfl
   ·rw[ha,li.z rfl];rfl
   ·obtain⟨_,b2,_⟩:=li.b (by decide)
    rw[ha]
    cases hq:bS b7 (ρ.len 470)with
    | nil=>exact absurd hq b2
    | cons _ _=>rfl
  refine⟨⟨hR.dT,fun ch => ?_⟩,?_⟩
  ·have:i≠0:=fun h=>by rw[iw,if_pos h]at ch;cases ch
   obtain⟨_,_,de,fq⟩:=li.b this
   exact⟨de,fq⟩
  ·rw[iw]
   rcases ij mixed dj aO (a5.nil _ _ _ _) Dy u rW with h | ⟨j,C,_,g1,_⟩
   ·exact h
   ·simp at g1
end Go.Proofs.YtpdfmnhgocpkcaaGreat
namespace Go.Proofs.YtpdfmnhgocpkcaaGreat
open Go Go.Proofs.Aw Go.Proofs.Xw
set_option maxRecDepth 100000
def z2 (ag:Bool):List X:=[.ptr (0,0) [] 0,.agg ((mV ag).map .sc)]
def IP (ag again:Bool):J:=(if again=true then [(.lt (.len 690) (.lit 1),false)]else [])++(qU ag++((bV 47,ag)::u3::(fU++(o6++(kH hv++di)))))
noncomputable def QH (ag s again:Bool) (g:Nat):List bo:=if Nat.beq g 115=true then [o3 ag s,Du s again]else []
noncomputable def ZW (s:Bool):=if s=true then [(114,[po],X.agg (vi 671 9))]else []
noncomputable def IM (ag s again:Bool):cr:=⟨bg (ZW s) (QH ag s again),hj,[10119,10114]⟩
def IQ (again:Bool):aN:=d4 ([xi 1,aZ (0,1) 1 (.len 470),aZ (0,2) 25 (.len 470),(if again=true then .slv (1,0) 1 (.lit 0) (.len 690) true else .k (.slice none 0 0)),xn (if again=true then 2 else 1)]++vi 681 9++[xl (!again),xn 0]) kR [.rows 25 (.len 470) c_] oR++(if again=true then [((1,0),some [.rows 1 (.len 690) (.var 690 [.i .i64])])]else [])
def Gf (d:aN):T (X×aN)->Bool
 | .ret (r,e)=>X.beq r (xn 0)&&pG.sx e d
 | _=>false
theorem ahd {d:aN} {t:T (X×aN)} (h:Gf d t=true):t = .ret (xn 0,d):=by
 cases t with
 | ret p =>
  obtain⟨r,e⟩:=p
  simp only[Gf,Bool.and_eq_true]at h
  rw[X.beq_eq _ _ h.1,EB h.2]
 | br _ _ _=>cases h
 | cT _ _=>cases h
 | fail _=>cases h
def hl (ag s again:Bool):Prop:=Gf (IQ again) (fH (IM ag s again) 115 (z2 ag) vc (IP ag again))=true
theorem ass:hl false false false:=by unfold hl;kernel_rfl
theorem ast:hl false false true:=by unfold hl;kernel_rfl
theorem asu:hl false true false:=by unfold hl;kernel_rfl
theorem asv:hl false true true:=by unfold hl;kernel_rfl
theorem asw:hl true false false:=by unfold hl;kernel_rfl
theorem asx:hl true false true:=by unfold hl;kernel_rfl
theorem asy:hl true true false:=by unfold hl;kernel_rfl
theorem asz:hl true true true:=by unfold hl;kernel_rfl
theorem asB (ag s again:Bool):Gf (IQ again) (fH (IM ag s again) 115 (z2 ag) vc (IP ag again))=true:=by
 cases ag<;>cases s<;>cases again
 ·exact ass
 ·exact ast
 ·exact asu
 ·exact asv
 ·exact asw
 ·exact asx
 ·exact asy
 ·exact asz
theorem asq (ag s again:Bool) {ρ:aa} (A:b8 Tryz.prog ρ Tryz.f115.ntmps o1 (o3 ag s)) (E:b8 Tryz.prog ρ Tryz.f115.ntmps sb (Du s again)):∀g i,eS g gA=some i->a5 Tryz.prog ρ i.ntmps (QH ag s again g) i.body:=fun g i hi=>by
 unfold QH
 split
 ·rename_i hf
  have hf:=Nat.eq_of_beq_eq_true hf
  subst hf
  have g0:j6 Tryz.prog 115 i:=oc (115,i) (k8 _ _ (k7 hi))
  refine pN g0 Tryz.func115 ?_
  exact lE (c:=Tryz.f115.body.getD .skip) [0,1] (by cases ag<;>cases s<;>cases again<;>kernel_rfl) (List.forall_mem_cons.2 ⟨lD (L:=o3 ag s) (c:=o1) (by cases ag<;>cases s<;>cases again<;>kernel_rfl) A,List.forall_mem_cons.2 ⟨lD (L:=Du s again) (c:=sb) (by cases ag<;>cases s<;>cases again<;>kernel_rfl) E,List.forall_mem_nil _⟩⟩)
 ·exact a5.nil _ _ _ _
end Go.Proofs.YtpdfmnhgocpkcaaGreat
namespace Go.Proofs.YtpdfmnhgocpkcaaGreat
open Go Go.Proofs.Aw Go.Proofs.Xw
set_option maxRecDepth 100000
theorem ase (s:Bool):(XS.mk (sd s).t (sd s).h (sd s).nx).au 660=true:=by cases s<;>kernel_rfl
theorem asf (ag:Bool):(uh ag).au 630=true:=List.all_eq_true.1 ZZ ag (by cases ag<;>simp)
theorem asd {ag s:Bool} {ρ G:aa} (ah:aA 660 ρ G) (h:b8 Tryz.prog ρ Tryz.f115.ntmps o1 (o3 ag s)):b8 Tryz.prog G Tryz.f115.ntmps o1 (o3 ag s):=by
 intro ac hE bM
 have:=h ac hE bM
 have e0:(o3 ag s).S.I ((o3 ag s).init.ap ρ)=(o3 ag s).S.I ((o3 ag s).init.ap G):=XS.aP (n:=630) (ah.le (by decide)) (uh ag) (asf ag)
 rw[e0]at this
 refine dB (fun e V hq => ?_) this
 obtain⟨e',t,q1,q2,q3⟩:=hq
 have q1:some (XE.exit 0,sd s)=some (e',t):=q1
 cases q1
 exact⟨.exit 0,sd s,rfl,q2,by rw[<-XS.aP ah (sd s) (ase s)];exact q3⟩
theorem afb {ρ:aa} {n r v:Nat} (h:(eb ρ n)[r]? = some v):v<n/\ρ.cb 625 1 v=true:=by
 have:=List.mem_of_getElem? h
 unfold eb at this
 simp only[List.mem_filter,List.mem_range]at this
 exact this
noncomputable def kV (ρ:aa):aa:={ ρ with i:=fun k=>if 671<=k/\k<680 then mI ρ (k-671) (ρ.len 651)else ρ.i k }
theorem apk (ρ:aa):aA 671 ρ (kV ρ):=⟨fun k u=>by show _=if _ then _ else _;rw[if_neg (by omega)],fun _ _=>rfl,fun _ _=>rfl,fun _ _=>rfl,fun _ _=>rfl,fun _ _=>rfl,fun _ _=>rfl,fun _ _=>rfl⟩
theorem apl (ρ:aa) {k:Nat} (u:k<9):(kV ρ).i (671+k)=mI ρ k (ρ.len 651):=by
 show(if _ then _ else _)=_
 rw[if_pos (by omega),Nat.add_sub_cancel_left]
theorem apm (ρ:aa):X.I (kV ρ) (.agg (vi 671 9)) = .agg ((List.range 9).map fun k => .sc (.int .i64 (mI ρ k (ρ.len 651)))):=by
 show AV.agg (X.af (kV ρ) ((List.range 9).map fun j=>xi (671+j)))=_
 rw[X.mh,List.map_map]
 congr 1
theorem af0 {ρ:aa} {ag:Bool} (hb:(bV 47).I ρ=ag) (hu:ag=true->(BE.eq (.uf 2 0 dw) (.lit 1)).I ρ=true):J.ok ρ (qU ag):=by
 cases ag with
 | true=>exact J.aw (hu rfl) (J.bq _)
 | false=>exact J.aw hb (J.bq _)
theorem ash (hS:∀s∈hj,c9 Tryz.prog s) {ρ b7:aa} (ag:Bool) (O:J.ok ρ di) (hT:TI ρ) (dv:ρ.i 443=1) (hb:(bV 47).I ρ=ag) (hu:ag=true->(BE.eq (.uf 2 0 dw) (.lit 1)).I ρ=true)
  (j9:aA 630 (bK ρ ag) b7) (i4:∀k,k<9->b7.i (640+k)=iv (bK ρ ag) k (ρ.len 470)) (again:Bool) (ch:again = !(bS b7 (ρ.len 470)).isEmpty) :
  ∃f_,aA 630 (bK ρ ag) f_/\(∀k,k<9->f_.i (681+k)=b7.i (640+k))/\(again=true->f_.len 690=(bS b7 (ρ.len 470)).length/\∀(r v:Nat),(bS b7 (ρ.len 470))[r]? = some v->f_.ci 690 0 r=(v:Int))/\cy Tryz.prog f_ ⟨115,z2 ag,vc,xn 0,IQ again⟩:=by
 have qr:=y5 ρ ag
 have hE:=fun j M hq=>K4 hT hb hu j M hq
 have n6:=hT.n6
 obtain⟨ar,sr,gH,pm⟩:=asp hS ag hT dv hb hu _ rfl
 generalize hs:(!(eb (bK ρ ag) (ρ.len 470)).isEmpty)=s at gH pm
 have hlen:=T3 (bK ρ ag) (ρ.len 470)
 have g1:=apk ar
 have l5:aA 630 (bK ρ ag) (kV ar):=sr.trans (g1.le (by decide))
 have nT:aA 600 ρ (kV ar):=(qr.le (by decide)).trans (l5.le (by decide))
 have hTg:=hT.bC nT
 have hlg:J.ok (kV ar) di:=gz (n:=600) nT (by kernel_rfl) O
 have agk:(kV ar).i 443=1:=by rw[<-nT.i 443 (by decide)];exact dv
 have Wa:(kV ar).len 470=ρ.len 470:=(nT.len 470 (by decide)).symm
 have c0:∀k,k<9->0<=(bK ρ ag).i (405+k):=fun k u=>hT.dT k u
 have Tv:∀k,k<9->(kV ar).i (405+k)=(bK ρ ag).i (405+k):=fun k u=>(l5.i (405+k) (by omega)).symm
 have a':∀k,k<9->(EY s k).I (kV ar)=b7.i (640+k):=fun k u=>by
  rw[i4 k u]
  cases nh:s with
  | true =>
   obtain⟨q1,q2⟩:=gH nh
   rw[ael (c0 k u) q1 q2]
   show max (max 0 ((kV ar).i (405+k))) ((kV ar).i (671+k))=_
   rw[apl ar u,Tv k u]
  | false =>
   have hn:eb (bK ρ ag) (ρ.len 470)=[]:=by
    rw[nh]at hs
    cases hq:eb (bK ρ ag) (ρ.len 470)with
    | nil=>rfl
    | cons _ _=>rw[hq]at hs;cases hs
   rw[aek (c0 k u) hn]
   show max (max 0 ((kV ar).i (405+k))) 0=_
   rw[Tv k u]
 obtain⟨f_,t7,⟨af8,ii⟩,L4⟩:=ar1 hS hlg hTg agk (j9.symm.trans l5) s again a' (by rw[Wa];exact ch)
 rw[Wa]at ii
 have iN:aA 600 ρ f_:=nT.trans (t7.le (by decide))
 have Bn:=hT.bC iN
 have pm:=asd (G:=f_) ((g1.le (by decide)).trans (t7.le (by decide))) pm
 have Mw:∀p∈ZW s,cj Tryz.prog p.1=true/\∀n h,CY Tryz.prog n p.1 (X.af f_ p.2.1) h (p.2.2.I f_) []:=fun p hp=>by
  cases nh:s with
  | false=>rw[nh]at hp;cases hp
  | true =>
   rw[nh]at hp
   have hp:p∈[(114,[po],X.agg (vi 671 9))]:=hp
   obtain rfl:=List.mem_singleton.1 hp
   obtain⟨q1,q2⟩:=gH nh
   have q:=aos (ρ:=ar) (by omega) (fun r hr=>by
    obtain⟨v,R⟩:∃v,(eb (bK ρ ag) (ρ.len 470))[r]? = some v:=⟨_,List.getElem?_eq_getElem (by omega)⟩
    obtain⟨v1,v2⟩:=afb R
    rw[TL (q2 r v R)]
    exact hE v v1 v2)
   have e1:X.af ar [po]=X.af f_ [po]:=X.fI (n:=660) ((g1.le (by decide)).trans (t7.le (by decide))) _ (by kernel_rfl)
   have e2:X.I (kV ar) (.agg (vi 671 9))=X.I f_ (.agg (vi 671 9)):=X.aP (n:=680) t7 _ (by kernel_rfl)
   rw[e1,<-apm,e2]at q
   exact q
 have H:cf Tryz.prog f_ (IM ag s again).c:=jz Mw (asq ag s again pm L4)
 have hbh:(bV 47).I f_=ag:=by rw[<-hb];exact(BE.aP iN _ (by kernel_rfl)).symm
 have hfa:J.ok f_ (qU ag):=gz (n:=600) iN (by cases ag<;>kernel_rfl) (af0 hb hu)
 have eV:J.ok f_ (qU ag++((bV 47,ag)::u3::(fU++(o6++(kH hv++di))))) :=
  dZ hfa (J.aw hbh (J.aw (by show((f_.len 474:Int)==f_.i 440+f_.i 443)=true;rw[Bn.rn];exact beq_self_eq_true _) (dZ (y4 (by rw[<-iN.i 443 (by decide)];exact dv) Bn.n1 Bn.n6) (dZ Bn.tr (dZ Bn.V1 (gz (n:=600) iN (by kernel_rfl) O))))))
 have u:J.ok f_ (IP ag again):=by
  cases UV:again with
  | false=>exact eV
  | true =>
   obtain⟨q1,_⟩:=ii UV
   rw[UV]at ch
   have A:1<=(bS b7 (ρ.len 470)).length:=by
    cases hq:bS b7 (ρ.len 470)with
    | nil=>rw[hq]at ch;cases ch
    | cons _ _=>simp
   exact fF (a := .len 690) (b := .lit 1) (show(1:Int)<=(f_.len 690:Int)by omega) eV
 exact⟨f_,l5.trans (t7.le (by decide)),af8,ii,uL H hS u (show(fH (IM ag s again) 115 (z2 ag) vc (IP ag again)).aq f_=some (xn 0,IQ again)by rw[ahd (asB ag s again)];rfl)⟩
end Go.Proofs.YtpdfmnhgocpkcaaGreat
namespace Go.Proofs.YtpdfmnhgocpkcaaGreat
open Go Go.Proofs.Aw Go.Proofs.Xw
set_option maxRecDepth 100000
theorem acL (ag:Bool):X.jw 600 (z2 ag)=true:=by cases ag<;>kernel_rfl
theorem afy:(XS.mk [] vc 0).au 600=true:=by kernel_rfl
theorem asj (hS:∀s∈hj,c9 Tryz.prog s) {ρ b7:aa} (ag:Bool) (O:J.ok ρ di) (hT:TI ρ) (dv:ρ.i 443=1) (hb:(bV 47).I ρ=ag) (hu:ag=true->(BE.eq (.uf 2 0 dw) (.lit 1)).I ρ=true)
  (j9:aA 630 (bK ρ ag) b7) (i4:∀k,k<9->b7.i (640+k)=iv (bK ρ ag) k (ρ.len 470)) {G:aa} (iD:uE ρ G (fun k=>iv (bK ρ ag) k (ρ.len 470)) (bS b7 (ρ.len 470))):cy Tryz.prog G (ix ag (!(bS b7 (ρ.len 470)).isEmpty)):=by
 generalize ch:(!(bS b7 (ρ.len 470)).isEmpty)=again
 obtain⟨bv,Ek,a',ii,g⟩:=ash hS ag O hT dv hb hu j9 i4 again ch.symm
 have nT:aA 600 ρ bv:=((y5 ρ ag).le (by decide)).trans (Ek.le (by decide))
 have iN:aA 600 bv G:=nT.symm.trans iD.ah
 have xH:aB bv [.rows 25 (.len 470) c_]=aB G [.rows 25 (.len 470) (cc ag)]:=(R7 ag Ek).trans (R9 ag iD.ah)
 have n8:X.af bv (vi 681 9)=X.af G (vi 600 9):=by
  show [_,_,_,_,_,_,_,_,_]=[_,_,_,_,_,_,_,_,_]
  have q:∀k,k<9->bv.i (681+k)=G.i (600+k):=fun k u=>by rw[a' k u,i4 k u,iD.dT k u]
  have w:∀k,k<9->(xi (681+k)).I bv=(xi (600+k)).I G:=fun k u=>by
   show AV.sc (.int .i64 (bv.i (681+k)))=AV.sc (.int .i64 (G.i (600+k)))
   rw[q k u]
  exact congr (congr rfl (w 0 (by omega))) (congr (congr rfl (w 1 (by omega))) (congr (congr rfl (w 2 (by omega))) (congr (congr rfl (w 3 (by omega))) (congr (congr rfl (w 4 (by omega))) (congr (congr rfl (w 5 (by omega))) (congr (congr rfl (w 6 (by omega))) (congr (congr rfl (w 7 (by omega))) (congr (congr rfl (w 8 (by omega))) rfl))))))))
 have ww:∀cs:List X,(XS.mk [] [((0,0),cs)] 0).au 600=true->aB bv cs=aB G cs:=fun cs aI=>by
  have:=sD iN [((0,0),cs)] aI
  exact(Prod.mk.inj (List.cons.inj this).1).2
 have H1:X.af bv [xi 1,aZ (0,1) 1 (.len 470),aZ (0,2) 25 (.len 470)]=X.af G [xi 1,aZ (0,1) 1 (.len 470),aZ (0,2) 25 (.len 470)]:=X.fI iN _ (by kernel_rfl)
 have yQ:=ww kR (by kernel_rfl)
 have CG:=ww oR (by kernel_rfl)
 have cell:∀(td qh:X) (rd:Int) (b:Bool),td.I bv=qh.I G->aB bv ([xi 1,aZ (0,1) 1 (.len 470),aZ (0,2) 25 (.len 470),td,xn rd]++vi 681 9++[xl b,xn 0])=aB G ([xi 1,aZ (0,1) 1 (.len 470),aZ (0,2) 25 (.len 470),qh,xn rd]++vi 600 9++[xl b,xn 0]):=fun td qh rd b MN=>by
  have p1:X.af bv [xi 1,aZ (0,1) 1 (.len 470),aZ (0,2) 25 (.len 470),td,xn rd]=X.af G [xi 1,aZ (0,1) 1 (.len 470),aZ (0,2) 25 (.len 470),qh,xn rd]:=by
   show X.af bv [xi 1,aZ (0,1) 1 (.len 470),aZ (0,2) 25 (.len 470)]++(td.I bv::X.af bv [xn rd])=X.af G [xi 1,aZ (0,1) 1 (.len 470),aZ (0,2) 25 (.len 470)]++(qh.I G::X.af G [xn rd])
   rw[H1,MN]
   rfl
  have GE:X.af bv [xl b,xn 0]=X.af G [xl b,xn 0]:=rfl
  rw[cR rfl,cR rfl,X.gf (m:=[xl b,xn 0]),X.gf (m:=[xl b,xn 0]),X.gf (m:=vi 681 9),X.gf (m:=vi 600 9),n8,p1,GE]
 refine UB g (X.fI iN _ (acL ag)) (sD iN vc afy) rfl ?_
 cases again with
 | false =>
  have e:=cell (.k (.slice none 0 0)) (.k (.slice none 0 0)) 1 true rfl
  have this:([((0,0),some (aB bv ([xi 1,aZ (0,1) 1 (.len 470),aZ (0,2) 25 (.len 470),.k (.slice none 0 0),xn 1]++vi 681 9++[xl true,xn 0]))),((0,1),some (aB bv kR)),((0,2),some (aB bv [.rows 25 (.len 470) c_])),((0,3),some (aB bv oR))]:Dl)=[((0,0),some (aB G ([xi 1,aZ (0,1) 1 (.len 470),aZ (0,2) 25 (.len 470),.k (.slice none 0 0),xn 1]++vi 600 9++[xl true,xn 0]))),((0,1),some (aB G kR)),((0,2),some (aB G [.rows 25 (.len 470) (cc ag)])),((0,3),some (aB G oR))]:=by
   rw[e,yQ,xH,CG]
  exact this
 | true =>
  obtain⟨q1,q2⟩:=ii rfl
  have hlen:bv.len 690=G.len 610:=by rw[q1,iD.pK]
  have e:=cell (.slv (1,0) 1 (.lit 0) (.len 690) true) (.slv (1,0) 1 (.lit 0) (.len 610) true) 2 false (by
   simp only[X.I,U.I,hlen])
  have fe:aB bv [.rows 1 (.len 690) (.var 690 [.i .i64])]=aB G [.rows 1 (.len 610) (.var 610 [.i .i64])]:=by
   show(aX bv (.len 690) (.var 690 [.i .i64])).flatten=(aX G (.len 610) (.var 610 [.i .i64])).flatten
   congr 1
   unfold aX
   have A:((U.len 690).I bv).toNat=(bS b7 (ρ.len 470)).length:=by show((bv.len 690:Nat):Int).toNat=_;rw[q1];exact Int.toNat_natCast _
   have E:((U.len 610).I G).toNat=(bS b7 (ρ.len 470)).length:=by show((G.len 610:Nat):Int).toNat=_;rw[iD.pK];exact Int.toNat_natCast _
   rw[A,E]
   refine List.map_congr_left fun j M => ?_
   have M:=List.mem_range.1 M
   obtain⟨v,R⟩:∃v,(bS b7 (ρ.len 470))[j]? = some v:=⟨_,List.getElem?_eq_getElem M⟩
   show [AV.sc (.int .i64 (bv.ci 690 0 ((j:Int)).toNat))]=[AV.sc (.int .i64 (G.ci 610 0 ((j:Int)).toNat))]
   rw[Int.toNat_natCast,q2 j v R,iD.ce j v R]
  have this:([((0,0),some (aB bv ([xi 1,aZ (0,1) 1 (.len 470),aZ (0,2) 25 (.len 470),.slv (1,0) 1 (.lit 0) (.len 690) true,xn 2]++vi 681 9++[xl false,xn 0]))),((0,1),some (aB bv kR)),((0,2),some (aB bv [.rows 25 (.len 470) c_])),((0,3),some (aB bv oR)),((1,0),some (aB bv [.rows 1 (.len 690) (.var 690 [.i .i64])]))]:Dl)=[((0,0),some (aB G ([xi 1,aZ (0,1) 1 (.len 470),aZ (0,2) 25 (.len 470),.slv (1,0) 1 (.lit 0) (.len 610) true,xn 2]++vi 600 9++[xl false,xn 0]))),((0,1),some (aB G kR)),((0,2),some (aB G [.rows 25 (.len 470) (cc ag)])),((0,3),some (aB G oR)),((1,0),some (aB G [.rows 1 (.len 610) (.var 610 [.i .i64])]))]:=by
   rw[e,yQ,xH,CG,fe]
  exact this
end Go.Proofs.YtpdfmnhgocpkcaaGreat
