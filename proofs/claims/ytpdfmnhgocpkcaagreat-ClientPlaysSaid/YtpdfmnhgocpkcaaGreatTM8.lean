/- Parts of the proof, one behind the other. -/
import Derived.Test.YtpdfmnhgocpkcaaGreatTM4
import Derived.Test.YtpdfmnhgocpkcaaGreatTM5
import Derived.Test.YtpdfmnhgocpkcaaGreatXwM3
import Derived.Test.YtpdfmnhgocpkcaaGreatTM2
import Derived.Test.YtpdfmnhgocpkcaaGreatTM3
import Derived.Test.YtpdfmnhgocpkcaaGreatXwM1
namespace Go.Proofs.YtpdfmnhgocpkcaaGreat
open Go Go.Proofs.Aw Go.Proofs.Xw
abbrev mE:U := .lit 1099511627776
abbrev aaD:BE := .or (.or (.not (.and (.and (.and (.not (.lt (.var 0) (.lit 0))) (.lt (.var 0) (.lit 3))) (.not (.lt (.var 1) (.lit 0)))) (.lt (.var 1) (.lit 3)))) (.lt (.var 2) (.lit 1))) (.lt mE (.var 2))
abbrev aaN:BE := .not (.and (.and (.and (.and (.and (.not (.lt (.var 3) (.lit 1))) (.not (.lt mE (.var 3)))) (.not (.lt (.var 4) (.lit 0)))) (.lt (.var 4) (.lit 3))) (.not (.lt (.var 5) (.lit 0)))) (.lt (.var 5) (.lit 3)))
abbrev aaX:BE := .or (.or (.or (.lt (.cB (.var 6)) (.lit 1)) (.lt (.lit 16) (.cB (.var 6)))) (.lt (.lit 32) (.cB (.var 7)))) (.and (.var 8) (.not (.seq (.var 7) (.lit ⟨#[]⟩))))
abbrev aaY:BE := .or (.or (.or (.lt (.var 9) (.lit 0)) (.lt mE (.var 9))) (.or (.or (.lt (.var 10) (.lit 0)) (.lt mE (.var 10))) (.or (.lt (.var 11) (.lit 0)) (.lt mE (.var 11))))) (.or (.or (.or (.lt (.var 12) (.lit 0)) (.lt mE (.var 12))) (.or (.or (.lt (.var 13) (.lit 0)) (.lt mE (.var 13))) (.or (.lt (.var 14) (.lit 0)) (.lt mE (.var 14))))) (.or (.or (.lt (.var 15) (.lit 0)) (.lt mE (.var 15))) (.or (.or (.lt (.var 16) (.lit 0)) (.lt mE (.var 16))) (.or (.lt (.var 17) (.lit 0)) (.lt mE (.var 17))))))
abbrev Rm:BE := .eq (.var 0) (.lit 0)
abbrev Rn:BE := .eq (.var 1) (.lit 0)
abbrev Rp:BE := .eq (.var 1) (.lit 1)
abbrev Rq:BE := .eq (.var 0) (.lit 1)
abbrev aaZ:BE := .eq (.ite (.and Rm Rn) (.var 9) (.ite (.and Rm Rp) (.var 10) (.ite Rm (.var 11) (.ite (.and Rq Rn) (.var 12) (.ite (.and Rq Rp) (.var 13) (.ite Rq (.var 14) (.ite Rn (.var 15) (.ite Rp (.var 16) (.var 17))))))))) (.op .sub .i64 (.var 2) (.lit 1))
abbrev aaE:U := .op .fO .i64 (.var 0) (.var 2)
abbrev aaF:U := .op .fO .i64 (.var 1) (.var 3)
abbrev aaG:U := .op .sub .i64 (.var 0) (.var 2)
abbrev aaH:U := .op .sub .i64 (.var 1) (.var 3)
abbrev aaI:X := .sc (.i .i64 (.cB (.var 0)))
abbrev zH:X := .sc (.s (.var 0))
abbrev aaJ:X := .sc (.c (.lit 0) (.lit false) (.lit 0) (.lit false))
abbrev aaK:ba:=[(9,(.sc (.i .i64 (.var 100)))),(8,aaI),(7,zH),(3,(.sc (.i .u64 (.var 101)))),(2,aaJ),(0,zH)]
abbrev aaL:U := .op .add .i64 (.var 100) (.lit 1)
abbrev aaM:U := .op .mul .u64 (.op .xor .u64 (.var 101) (.op .conv .u64 (.fD (.var 0) (.var 100)) (.lit 0))) (.lit 1099511628211)
abbrev aaO:BE := .lt (.var 100) (.cB (.var 0))
abbrev I8:X := .sc (.i .i64 (.lit 0))
abbrev aaP:ba:=[(5,(.sc (.i .i64 (.var 140)))),(4,(.sc (.i .u64 (.var 141)))),(3,I8),(2,I8),(0,zH)]
abbrev aaQ:U := .op .add .i64 (.var 140) (.lit 1)
abbrev aaR:U := .op .mul .u64 (.op .xor .u64 (.var 141) (.op .conv .u64 (.fD (.var 0) (.var 140)) (.lit 0))) (.lit 1099511628211)
abbrev aaS:BE := .lt (.var 140) (.cB (.var 0))
abbrev aaT:U := .op .mul .u64 (.op .xor .u64 (.var 141) (.op .shr .u64 (.var 141) (.lit 32))) (.lit 11400714819323198485)
abbrev aaU:U := .op .xor .u64 aaT (.op .shr .u64 aaT (.lit 29))
abbrev aaV:U := .op .sub .i64 (.op .conv .i64 (.op .and .u64 aaU (.lit 1048575)) (.lit 0)) (.lit 524288)
abbrev aaW:U := .op .sub .i64 (.op .conv .i64 (.op .and .u64 (.op .shr .u64 aaU (.lit 20)) (.lit 1048575)) (.lit 0)) (.lit 524288)
set_option maxRecDepth 100000
def Tc:BE:=(.and (.not (.or aaD (.or (.or (.or aaN (.not (.eq (.var 4) (.var 0)))) (.not (.eq (.var 5) (.var 1)))) (.or aaX (.or aaY (.not aaZ)))))) (.and (.and (.and (.not (.lt (.var 18) (.lit 0))) (.lt (.var 18) (.lit 4))) (.not (.lt (.var 19) (.lit 1)))) (.not (.lt mE (.var 19)))))
theorem apr:aN (cU []) 28 [.agg (qt 0)] [] = .ret (.sc (.b Tc)):=by kernel_rfl
def EF:BE:=(.and (.not (.or (.or (.or aaD aaN) (.not (.eq (.var 4) (.var 0)))) (.not (.eq (.var 5) (.var 1))))) (.and (.not aaX) (.and (.and (.and (.and (.and (.not aaY) aaZ) (.not (.lt (.var 18) (.lit 0)))) (.lt (.var 18) (.lit 4))) (.not (.lt (.var 19) (.lit 1)))) (.not (.lt mE (.var 19))))))
theorem apB:aN (cU []) 81 [.agg (qt 0)] [] = .ret (.sc (.b EF)):=by kernel_rfl
theorem v_w (ρ:aa):(Tc).I ρ=(EF).I ρ:=tM (w:=false) (n:=300) (hs:=[]) (by kernel_rfl) ρ
def R_:List BE:=[iX (.var 0) 0 2,iX (.var 1) 0 2,iX (.var 2) 1 1099511627776]++(List.range 9).map fun k=>iX (.var (9+k)) 0 1099511627776
theorem b_w (ρ:aa) (h:(EF).I ρ=true):∀c∈R_,c.I ρ=true:=sS (hs:=[]) h (by kernel_rfl)
end Go.Proofs.YtpdfmnhgocpkcaaGreat
namespace Go.Proofs.YtpdfmnhgocpkcaaGreat
open Go Go.Proofs.Aw Go.Proofs.Xw
set_option maxRecDepth 100000
theorem km {ρ:aa} {e:U} {lo hi:Int} (h:(iX e lo hi).I ρ=true):lo<=e.I ρ/\e.I ρ<=hi:=by
 have h:((!decide (e.I ρ<lo)) && !decide (hi<e.I ρ))=true:=h
 simp only[Bool.and_eq_true,Bool.not_eq_true',decide_eq_false_iff_not]at h
 omega
theorem aqt (ρ:aa):∃b:Bool,Cy 28 (X.af ρ [.agg (qt 0)]) (.sc (.bool b))/\Cy 81 (X.af ρ [.agg (qt 0)]) (.sc (.bool b))/\(b=true->∀c∈R_,c.I ρ=true):=by
 have bm:=ef (jW ρ) (List.forall_mem_nil _) (J.bq ρ) (show(aN (cU []) 28 [.agg (qt 0)] []).aq ρ=some _ by rw[apr];rfl)
 have bl:=ef (jW ρ) (List.forall_mem_nil _) (J.bq ρ) (show(aN (cU []) 81 [.agg (qt 0)] []).aq ρ=some _ by rw[apB];rfl)
 refine⟨(EF).I ρ,?_,bl,b_w ρ⟩
 rw[<-v_w];exact bm
theorem QL (ρ:aa):∃g,jQ 2 ((kP 0).I ρ) g:=by
 obtain⟨b,A,E,h3⟩:=aqt ρ
 refine⟨fun _=>if b=true then 1 else 0,⟨fun f hf n h => ?_,fun j => ?_,fun Z => ?_⟩⟩
 ·have e:II 2 (fun _=>if b=true then 1 else 0) = .sc (.bool b):=by cases b<;>rfl
  rw[e]
  simp only[eJ,List.mem_cons,List.not_mem_nil,or_false]at hf
  rcases hf with rfl | rfl
  ·exact A.2 n h
  ·exact E.2 n h
 ·simp only[jg];split<;>omega
 ·have hb:b=true:=by cases b<;>simp_all
  have g:=h3 hb
  have q:∀k:Nat,k<9->vI ((kP 0).I ρ) (9+k)=ρ.i (9+k):=fun k u=>by
   rcases(show k=0\/k=1\/k=2\/k=3\/k=4\/k=5\/k=6\/k=7\/k=8 by omega)with rfl | rfl | rfl | rfl | rfl | rfl | rfl | rfl | rfl<;>rfl
  refine⟨km (g _ List.mem_cons_self),km (g _ (List.mem_cons_of_mem _ List.mem_cons_self)),km (g _ (List.mem_cons_of_mem _ (List.mem_cons_of_mem _ List.mem_cons_self))),fun k u => ?_⟩
  rw[q k u]
  exact km (g _ (List.mem_append_right _ (List.mem_map.2 ⟨k,List.mem_range.2 u,rfl⟩)))
theorem YX (f:Nat) (hf:f∈eJ 2):c4 Tryz.prog (PU f):=⟨pd f (by simp only[eJ,List.mem_cons,List.not_mem_nil,or_false]at hf;rcases hf with rfl | rfl<;>decide),fun ρ n h _=>by
 obtain⟨g,Z⟩:=QL ρ
 exact(iz Z).qo f hf n h⟩
def Dn:X->Option (Nat×List U)
 | .sc (.i .i64 e)=>some (0,[e])
 | .sc (.c a (.lit false) b (.lit false))=>some (1,[a,b])
 | .agg [.sc (.i .i64 a),.sc (.i .i64 b),.sc (.i .i64 c),.sc (.i .i64 d),.sc (.i .i64 e),.sc (.i .i64 f),.sc (.i .i64 g),.sc (.i .i64 h),.sc (.i .i64 i)]=>some (2,[a,b,c,d,e,f,g,h,i])
 | _=>none
def Pk (t:Nat) (g:Nat->Int):AV:=match t with
 | 0 => .sc (.int .i64 (g 0))
 | 1=>w6 (g 0) (g 1)
 | _ => .agg ((List.range 9).map fun j => .sc (.int .i64 (g j)))
noncomputable def mV (ρ:aa) (d:Int) (l:List U) (j:Nat):Int:=match l[j]? with
 | some e=>e.I ρ
 | none=>d
theorem aan {ρ:aa} {x:X} {t:Nat} {l:List U} (h:Dn x=some (t,l)) (d:Int):x.I ρ=Pk t (mV ρ d l):=by
 unfold Dn at h
 split at h
 ·cases h;rfl
 ·cases h;rfl
 ·cases h;rfl
 ·cases h
def H9 (B:J):List U->List U->Bool
 | [],[]=>true
 | a::l,b::m=>sT (fu B (.eq a b))&&H9 B l m
 | _,_=>false
theorem YZ {ρ:aa} {B:J} (u:J.ok ρ B) (d:Int):∀{l m:List U},H9 B l m=true->mV ρ d l=mV ρ d m
 | [],[],_=>rfl
 | a::l,b::m,h=>by
  simp only[H9,Bool.and_eq_true]at h
  have A:=w5 u h.1
  simp only[BE.I,beq_iff_eq]at A
  have E:=YZ u d h.2
  funext j
  cases j with
  | zero=>exact A
  | succ j=>exact congrFun E j
 | [],_::_,h=>by cases h
 | _::_,[],h=>by cases h
def vo (B:J) (lo hi:Int):U->Bool
 | .ite _ a b=>vo B lo hi a&&vo B lo hi b
 | .op .max _ a b=>vo B lo hi a&&vo B lo hi b
 | e=>sT (fu B (.not (.lt e (.lit lo))))&&sT (fu B (.not (.lt (.lit hi) e)))
theorem agJ {ρ:aa} {B:J} (u:J.ok ρ B) {lo hi:Int} (e:U):vo B lo hi e=true->lo<=e.I ρ/\e.I ρ<=hi:=by
 fun_induction vo B lo hi e with
 | case1 c a b el es =>
  intro h
  rw[Bool.and_eq_true]at h
  cases H:c.I ρ with
  | true=>rw[BN H];exact el h.1
  | false=>rw[FW H];exact es h.2
 | case2 k a b el es =>
  intro h
  rw[Bool.and_eq_true]at h
  have A:=el h.1
  have E:=es h.2
  show lo<=Max.max (a.I ρ) (b.I ρ)/\Max.max (a.I ρ) (b.I ρ)<=hi
  omega
 | case3 e n1 n2 =>
  intro h
  rw[Bool.and_eq_true]at h
  have A:¬e.I ρ<lo:=yw (w5 u h.1)
  have E:¬hi<e.I ρ:=yw (w5 u h.2)
  omega
def Vv (B:J) (lo hi:Int) (l:List U):Bool:=l.all fun e=>vo B lo hi e
theorem agK {ρ:aa} {B:J} (u:J.ok ρ B) {lo hi d:Int} (hd:lo<=d/\d<=hi) {l:List U} (h:Vv B lo hi l=true) (j:Nat):lo<=mV ρ d l j/\mV ρ d l j<=hi:=by
 unfold mV
 split
 ·rename_i e G
  exact agJ u e (List.all_eq_true.1 h e (List.mem_of_getElem? G))
 ·exact hd
def pF (B:J) (t:Nat) (lo hi:Int):T X->T X->Bool
 | .ret x,.ret y=>(match Dn x,Dn y with
  | some (a,l),some (b,m)=>Nat.beq a t&&(Nat.beq b t&&(H9 B l m&&Vv B lo hi l))
  | _,_=>false)
 | _,_=>false
theorem Xm {sm:List Sm} (m9:∀s∈sm,c4 Tryz.prog s) {f f':Nat} {p:List X} {B:J} {t:Nat} {lo hi:Int} (hd:lo<=hi) (h:pF B t lo hi (aN (cU sm) f p B) (aN (cU sm) f' p B)=true) {ρ:aa} (u:J.ok ρ B) :
  ∃l:List U,(∃x,aN (cU sm) f p B = .ret x/\Dn x=some (t,l))/\Cy f (X.af ρ p) (Pk t (mV ρ lo l))/\Cy f' (X.af ρ p) (Pk t (mV ρ lo l))/\∀j,lo<=mV ρ lo l j/\mV ρ lo l j<=hi:=by
 unfold pF at h
 split at h
 ·rename_i x y e1 e2
  split at h
  ·rename_i a l b m v1 v2
   simp only[Bool.and_eq_true]at h
   obtain⟨A,E,h3,h4⟩:=h
   have A:=Nat.eq_of_beq_eq_true A
   have E:=Nat.eq_of_beq_eq_true E
   subst A E
   have q1:=ef (jW ρ) m9 u (show(aN (cU sm) f p B).aq ρ=some _ by rw[e1];rfl)
   have q2:=ef (jW ρ) m9 u (show(aN (cU sm) f' p B).aq ρ=some _ by rw[e2];rfl)
   rw[aan v1 lo]at q1
   rw[aan v2 lo,<-YZ u lo h3]at q2
   exact⟨l,⟨x,e1,v1⟩,q1,q2,agK u ⟨Int.le_refl _,hd⟩ h4⟩
  ·cases h
 ·cases h
theorem Gt:∀s∈[H5,H8],c4 Tryz.prog s:=by
 have go:∀(f:Nat) (p:List X),iw (aN (cU []) f p []) (.ret Gs)=true->c4 Tryz.prog ⟨f,p,Gs,.lit true⟩:=fun f p h=>by
  unfold iw at h
  split at h
  ·rename_i x y e1 e2
   cases e2
   have:=X.beq_eq _ _ h
   subst this
   exact arG (c:=cU []) (fun ρ=>jW ρ) (List.forall_mem_nil _) e1
  ·cases h
 exact List.forall_mem_cons.2 ⟨go 29 _ (by kernel_rfl),List.forall_mem_cons.2 ⟨go 113 _ (by kernel_rfl),List.forall_mem_nil _⟩⟩
def hj (k:Nat) (lo hi:Int):J:=[(.lt (.var k) (.lit lo),false),(.lt (.lit hi) (.var k),false)]
theorem h_ {ρ:aa} {k:Nat} {lo hi:Int} (h:lo<=ρ.i k/\ρ.i k<=hi) {B:J} (u:J.ok ρ B):J.ok ρ (hj k lo hi++B) :=
 J.av (b' (show ¬ρ.i k<lo by omega)) (J.av (b' (show ¬hi<ρ.i k by omega)) u)
def Q4:J:=hj 2 1 1099511627776++(hj 9 0 1099511627776++(hj 10 0 1099511627776++(hj 11 0 1099511627776++(hj 12 0 1099511627776++(hj 13 0 1099511627776++(hj 14 0 1099511627776++(hj 15 0 1099511627776++(hj 16 0 1099511627776++(hj 17 0 1099511627776++[])))))))))
def Hh (a b:Int):List X:=[.ro 20 [[xn a,xn b]++(qt 0).drop 2] false]
def yQ (c k:Nat):U:=if Nat.beq k c=true then .op .max .i64 (.op .max .i64 (.lit 0) (.var (9+k))) (.var 2)else .op .max .i64 (.lit 0) (.var (9+k))
def O0 (c:Nat):X := .agg ((List.range 9).map fun k => .sc (.i .i64 (yQ c k)))
noncomputable def oE (a b:Nat):Bool:=iw (aN (cU [H5,H8]) 24 (Hh a b) Q4) (.ret (O0 (3*a+b)))&&iw (aN (cU [H5,H8]) 114 (Hh a b) Q4) (.ret (O0 (3*a+b)))
theorem aow:oE 0 0=true:=by kernel_rfl
theorem aox:oE 0 1=true:=by kernel_rfl
theorem aoy:oE 0 2=true:=by kernel_rfl
theorem aoz:oE 1 0=true:=by kernel_rfl
theorem aoA:oE 1 1=true:=by kernel_rfl
theorem aoB:oE 1 2=true:=by kernel_rfl
theorem aoC:oE 2 0=true:=by kernel_rfl
theorem aoD:oE 2 1=true:=by kernel_rfl
theorem aoE:oE 2 2=true:=by kernel_rfl
theorem aoF {a b:Nat} (ha:a<3) (hb:b<3):oE a b=true:=by
 rcases(show a=0\/a=1\/a=2 by omega)with rfl | rfl | rfl<;>rcases(show b=0\/b=1\/b=2 by omega)with rfl | rfl | rfl
 ·exact aow
 ·exact aox
 ·exact aoy
 ·exact aoz
 ·exact aoA
 ·exact aoB
 ·exact aoC
 ·exact aoD
 ·exact aoE
theorem ZT {t:T X} {x:X} (h:iw t (.ret x)=true):t = .ret x:=by
 cases t with
 | ret y=>exact congrArg T.ret (X.beq_eq _ _ h)
 | br _ _ _=>cases h
 | cL _ _=>cases h
 | fail _=>cases h
theorem SQ {sm:List Sm} (m9:∀s∈sm,c4 Tryz.prog s) {ρ:aa} {f:Nat} {p:List X} {B:J} {x:X} (u:J.ok ρ B) (h:aN (cU sm) f p B = .ret x):Cy f (X.af ρ p) (x.I ρ):=ef (jW ρ) m9 u (by rw[h];rfl)
theorem aov (ρ:aa) (c k:Nat):(yQ c k).I ρ=max (max 0 (ρ.i (9+k))) (if(c:Int)=k then ρ.i 2 else 0)\/ρ.i 2<0:=by
 unfold yQ
 by_cases h:k=c
 ·left
  subst h
  rw[if_pos (Nat.beq_refl k),if_pos rfl]
  rfl
 ·left
  rw[if_neg (by simpa using h),if_neg (by omega)]
  show max 0 (ρ.i (9+k))=_
  omega
theorem aaf {ρ:aa} (h:UF 2 ((kP 0).I ρ) 0=1):∃g,jQ 3 ((kP 0).I ρ) g:=by
 obtain⟨g2,Z⟩:=QL ρ
 obtain⟨v0,q1,q2,q3⟩:=(iz Z).tg h
 have v0:0<=ρ.i 0/\ρ.i 0<=2:=v0
 have q1:0<=ρ.i 1/\ρ.i 1<=2:=q1
 have q2:1<=ρ.i 2/\ρ.i 2<=1099511627776:=q2
 have xm:∀k:Nat,k<9->vI ((kP 0).I ρ) (9+k)=ρ.i (9+k):=fun k u=>by
  rcases(show k=0\/k=1\/k=2\/k=3\/k=4\/k=5\/k=6\/k=7\/k=8 by omega)with rfl | rfl | rfl | rfl | rfl | rfl | rfl | rfl | rfl<;>rfl
 have q3:∀k:Nat,k<9->0<=ρ.i (9+k)/\ρ.i (9+k)<=1099511627776:=fun k u=>by have:=q3 k u;rw[xm k u]at this;exact this
 have u:J.ok ρ Q4:=h_ q2 (h_ (q3 0 (by omega)) (h_ (q3 1 (by omega)) (h_ (q3 2 (by omega)) (h_ (q3 3 (by omega)) (h_ (q3 4 (by omega)) (h_ (q3 5 (by omega)) (h_ (q3 6 (by omega)) (h_ (q3 7 (by omega)) (h_ (q3 8 (by omega)) (J.bq ρ))))))))))
 obtain⟨a,b,ha,hb,ib,KI⟩:∃a b:Nat,a<3/\b<3/\ρ.i 0=a/\ρ.i 1=b:=⟨(ρ.i 0).toNat,(ρ.i 1).toNat,by omega,by omega,by omega,by omega⟩
 have hr:=aoF ha hb
 unfold oE at hr
 rw[Bool.and_eq_true]at hr
 have r1:=SQ Gt u (ZT hr.1)
 have r2:=SQ Gt u (ZT hr.2)
 have ed:Dj 3 ((kP 0).I ρ)=X.af ρ (Hh a b):=by
  show X.af ρ (Hh (ρ.i 0) (ρ.i 1))=_
  rw[ib,KI]
 have D:ρ.i 0*3+ρ.i 1=((3*a+b:Nat):Int):=by omega
 let g:Nat->Int:=fun k=>if k<9 then vZ ((kP 0).I ρ) k else 0
 have afk:∀k,k<9->g k=(yQ (3*a+b) k).I ρ:=fun k kb=>by
  show(if k<9 then vZ ((kP 0).I ρ) k else 0)=_
  rw[if_pos kb]
  unfold vZ
  rw[xm k kb]
  show max (max 0 (ρ.i (9+k))) (if ρ.i 0*3+ρ.i 1=k then ρ.i 2 else 0)=_
  rw[D]
  rcases aov ρ (3*a+b) k with h | h
  ·exact h.symm
  ·omega
 have e9:II 3 g=X.I ρ (O0 (3*a+b)):=by
  show AV.agg ((List.range 9).map fun j => .sc (.int .i64 (g j)))=AV.agg (X.af ρ ((List.range 9).map fun k => .sc (.i .i64 (yQ (3*a+b) k))))
  rw[X.l5,List.map_map]
  congr 1
  refine List.map_congr_left fun j O => ?_
  show AV.sc (.int .i64 (g j))=AV.sc (.int .i64 ((yQ (3*a+b) j).I ρ))
  rw[afk j (List.mem_range.1 O)]
 refine⟨g,⟨fun f hf n hp => ?_,fun j => ?_,fun k kb=>if_pos kb⟩⟩
 ·rw[ed,e9]
  simp only[eJ,List.mem_cons,List.not_mem_nil,or_false]at hf
  rcases hf with rfl | rfl
  ·exact r1.2 n hp
  ·exact r2.2 n hp
 ·show(0:Int)<=g j/\g j<=1099511627776
  by_cases O:j<9
  ·have A:=q3 j O
   have:g j=vZ ((kP 0).I ρ) j:=if_pos O
   rw[this]
   unfold vZ
   rw[xm j O]
   show(0:Int)<=max (max 0 (ρ.i (9+j))) (if ρ.i 0*3+ρ.i 1=j then ρ.i 2 else 0)/\max (max 0 (ρ.i (9+j))) (if ρ.i 0*3+ρ.i 1=j then ρ.i 2 else 0)<=1099511627776
   split<;>omega
  ·have:g j=0:=if_neg O
   omega
theorem l8 {ρ:aa} {k:Nat} {a:AL} (h:(BE.eq (.uf k 0 a) (.lit 1)).I ρ=true):UF k (a.I ρ) 0=1:=by simpa [BE.I,U.I]using h
theorem YW (f:Nat) (hf:f∈eJ 3):c4 Tryz.prog (PS f):=⟨pd f (by simp only[eJ,List.mem_cons,List.not_mem_nil,or_false]at hf;rcases hf with rfl | rfl<;>decide),fun ρ n h hp=>by
 obtain⟨g,Z⟩:=aaf (l8 hp)
 exact(iz Z).qo f hf n h⟩
def my (_:Int):J:=hj 1 0 2++(hj 2 0 3++[])
def me:J:=hj 1 0 3++[]
theorem ai1:pF (my 0) 1 (-16384) 16384 (aN (cU []) 36 [xn 0,xi 1,xi 2] (my 0)) (aN (cU []) 108 [xn 0,xi 1,xi 2] (my 0))=true:=by kernel_rfl
theorem ai2:pF (my 0) 1 (-16384) 16384 (aN (cU []) 36 [xn 1,xi 1,xi 2] (my 0)) (aN (cU []) 108 [xn 1,xi 1,xi 2] (my 0))=true:=by kernel_rfl
theorem ai3:pF (my 0) 1 (-16384) 16384 (aN (cU []) 36 [xn 2,xi 1,xi 2] (my 0)) (aN (cU []) 108 [xn 2,xi 1,xi 2] (my 0))=true:=by kernel_rfl
theorem agk:pF me 1 (-16384) 16384 (aN (cU []) 34 [xn 0,xi 1] me) (aN (cU []) 110 [xn 0,xi 1] me)=true:=by kernel_rfl
theorem agl:pF me 1 (-16384) 16384 (aN (cU []) 34 [xn 1,xi 1] me) (aN (cU []) 110 [xn 1,xi 1] me)=true:=by kernel_rfl
theorem agm:pF me 1 (-16384) 16384 (aN (cU []) 34 [xn 2,xi 1] me) (aN (cU []) 110 [xn 2,xi 1] me)=true:=by kernel_rfl
theorem aty {ρ:aa} (h0:0<=ρ.i 0/\ρ.i 0<=2) (A:0<=ρ.i 1/\ρ.i 1<=2) (E:0<=ρ.i 2/\ρ.i 2<=3):∃g,jQ 4 ((fB 0 3 .nil).I ρ) g:=by
 have u:J.ok ρ (my 0):=h_ A (h_ E (J.bq ρ))
 have go:∀d:Int,ρ.i 0=d->pF (my 0) 1 (-16384) 16384 (aN (cU []) 36 [xn d,xi 1,xi 2] (my 0)) (aN (cU []) 108 [xn d,xi 1,xi 2] (my 0))=true->∃g,jQ 4 ((fB 0 3 .nil).I ρ) g:=fun d hd hr=>by
  obtain⟨l,_,A,E,h3⟩:=Xm (List.forall_mem_nil _) (by decide) hr u
  have e:Dj 4 ((fB 0 3 .nil).I ρ)=X.af ρ [xn d,xi 1,xi 2]:=by rw[<-hd];rfl
  refine⟨mV ρ (-16384) l,⟨fun f hf n h => ?_,h3,trivial⟩⟩
  rw[e]
  simp only[eJ,List.mem_cons,List.not_mem_nil,or_false]at hf
  rcases hf with rfl | rfl
  ·exact A.2 n h
  ·exact E.2 n h
 rcases(show ρ.i 0=0\/ρ.i 0=1\/ρ.i 0=2 by omega)with h | h | h
 ·exact go 0 h ai1
 ·exact go 1 h ai2
 ·exact go 2 h ai3
theorem atz {ρ:aa} (h0:0<=ρ.i 0/\ρ.i 0<=2) (A:0<=ρ.i 1/\ρ.i 1<=3):∃g,jQ 5 ((fB 0 2 .nil).I ρ) g:=by
 have u:J.ok ρ me:=h_ A (J.bq ρ)
 have go:∀d:Int,ρ.i 0=d->pF me 1 (-16384) 16384 (aN (cU []) 34 [xn d,xi 1] me) (aN (cU []) 110 [xn d,xi 1] me)=true->∃g,jQ 5 ((fB 0 2 .nil).I ρ) g:=fun d hd hr=>by
  obtain⟨l,_,A,E,h3⟩:=Xm (List.forall_mem_nil _) (by decide) hr u
  have e:Dj 5 ((fB 0 2 .nil).I ρ)=X.af ρ [xn d,xi 1]:=by rw[<-hd];rfl
  refine⟨mV ρ (-16384) l,⟨fun f hf n h => ?_,h3,trivial⟩⟩
  rw[e]
  simp only[eJ,List.mem_cons,List.not_mem_nil,or_false]at hf
  rcases hf with rfl | rfl
  ·exact A.2 n h
  ·exact E.2 n h
 rcases(show ρ.i 0=0\/ρ.i 0=1\/ρ.i 0=2 by omega)with h | h | h
 ·exact go 0 h agk
 ·exact go 1 h agl
 ·exact go 2 h agm
theorem ll {ρ:aa} {a b:BE} (h:(BE.and a b).I ρ=true):a.I ρ=true/\b.I ρ=true:=by
 have h:(a.I ρ&&b.I ρ)=true:=h
 simpa using h
theorem YU (f:Nat) (hf:f∈eJ 4):c4 Tryz.prog (PQ f):=⟨pd f (by simp only[eJ,List.mem_cons,List.not_mem_nil,or_false]at hf;rcases hf with rfl | rfl<;>decide),fun ρ n h hp=>by
 obtain⟨A,E⟩:=ll hp
 obtain⟨E,h3⟩:=ll E
 obtain⟨g,Z⟩:=aty (km A) (km E) (km h3)
 exact(iz Z).qo f hf n h⟩
theorem YR (f:Nat) (hf:f∈eJ 5):c4 Tryz.prog (PM f):=⟨pd f (by simp only[eJ,List.mem_cons,List.not_mem_nil,or_false]at hf;rcases hf with rfl | rfl<;>decide),fun ρ n h hp=>by
 obtain⟨A,E⟩:=ll hp
 obtain⟨g,Z⟩:=atz (km A) (km E)
 exact(iz Z).qo f hf n h⟩
end Go.Proofs.YtpdfmnhgocpkcaaGreat
namespace Go.Proofs.YtpdfmnhgocpkcaaGreat
open Go Go.Proofs.Aw Go.Proofs.Xw
set_option maxRecDepth 100000
def xA:List X:=[tf 0 1,tf 2 3]
def AK:J:=hj 0 (-16384) 16384++(hj 1 (-16384) 16384++(hj 2 (-16384) 16384++(hj 3 (-16384) 16384++[])))
def E2:U:=(.op .add .i64 (.op .mul .i64 aaE aaE) (.op .mul .i64 aaF aaF))
def E1:U:=(.op .add .i64 (.op .mul .i64 aaG aaG) (.op .mul .i64 aaH aaH))
theorem aeR:iw (aN (cU []) 35 xA AK) (.ret (.sc (.i .i64 E2)))=true:=by kernel_rfl
theorem aeQ:iw (aN (cU []) 135 xA AK) (.ret (.sc (.i .i64 E1)))=true:=by kernel_rfl
theorem p6 {t:T X} {x:X} (h:iw t (.ret x)=true):t = .ret x:=by
 cases t with
 | ret y=>exact congrArg T.ret (X.beq_eq _ _ h)
 | br _ _ _=>cases h
 | cL _ _=>cases h
 | fail _=>cases h
theorem Ze {x:Int} (A : -32768<=x) (E:x<=32768):0<=x*x/\x*x<=1073741824:=by
 have e:x*x=(x.natAbs:Int)*x.natAbs:=by rw[<-Int.natAbs_mul_self' x]
 have h:x.natAbs*x.natAbs<=32768*32768:=Nat.mul_le_mul (by omega) (by omega)
 rw[e]
 generalize x.natAbs=n at h
 constructor
 ·exact Int.mul_nonneg (by omega) (by omega)
 ·have:((n*n:Nat):Int)<=1073741824:=by omega
  rwa[Int.natCast_mul]at this
def xB (ρ:aa):Int:=(ρ.i 0-ρ.i 2)*(ρ.i 0-ρ.i 2)+(ρ.i 1-ρ.i 3)*(ρ.i 1-ρ.i 3)
theorem aeP {ρ:aa} (h:∀k,k<4 -> -16384<=ρ.i k/\ρ.i k<=16384):E2.I ρ=xB ρ/\E1.I ρ=xB ρ/\0<=xB ρ/\xB ρ<=2147483648:=by
 have h0:=h 0 (by omega);have A:=h 1 (by omega);have E:=h 2 (by omega);have h3:=h 3 (by omega)
 have e1:E2.I ρ=IntKind.i64.wrap (IntKind.i64.wrap ((ρ.i 0-ρ.i 2)*(ρ.i 0-ρ.i 2))+IntKind.i64.wrap ((ρ.i 1-ρ.i 3)*(ρ.i 1-ρ.i 3))):=rfl
 have e2:E1.I ρ=IntKind.i64.wrap (IntKind.i64.wrap (IntKind.i64.wrap (ρ.i 0-ρ.i 2)*IntKind.i64.wrap (ρ.i 0-ρ.i 2))+IntKind.i64.wrap (IntKind.i64.wrap (ρ.i 1-ρ.i 3)*IntKind.i64.wrap (ρ.i 1-ρ.i 3))):=rfl
 rw[e1,e2,cc (ρ.i 0-ρ.i 2) (by omega) (by omega),cc (ρ.i 1-ρ.i 3) (by omega) (by omega)]
 have a:=Ze (x:=ρ.i 0-ρ.i 2) (by omega) (by omega)
 have b:=Ze (x:=ρ.i 1-ρ.i 3) (by omega) (by omega)
 unfold xB
 generalize (ρ.i 0-ρ.i 2)*(ρ.i 0-ρ.i 2)=p at a ⊢
 generalize (ρ.i 1-ρ.i 3)*(ρ.i 1-ρ.i 3)=q at b ⊢
 rw[cc p (by omega) (by omega),cc q (by omega) (by omega),cc _ (by omega) (by omega)]
 omega
theorem aag {ρ:aa} (h:∀k,k<4 -> -16384<=ρ.i k/\ρ.i k<=16384):∃g,jQ 6 ((fB 0 4 .nil).I ρ) g:=by
 have u:J.ok ρ AK:=h_ (h 0 (by omega)) (h_ (h 1 (by omega)) (h_ (h 2 (by omega)) (h_ (h 3 (by omega)) (J.bq ρ))))
 obtain⟨d1,d2,SR,d4⟩:=aeP h
 have q1:=ef (jW ρ) (List.forall_mem_nil _) u (show(aN (cU []) 35 xA AK).aq ρ=some _ by rw[p6 aeR];rfl)
 have q2:=ef (jW ρ) (List.forall_mem_nil _) u (show(aN (cU []) 135 xA AK).aq ρ=some _ by rw[p6 aeQ];rfl)
 have q1:Cy 35 (X.af ρ xA) (.sc (.int .i64 (E2.I ρ))):=q1
 have q2:Cy 135 (X.af ρ xA) (.sc (.int .i64 (E1.I ρ))):=q2
 rw[d1]at q1
 rw[d2]at q2
 refine⟨fun _=>xB ρ,⟨fun f hf n hp => ?_,fun j => ?_,rfl⟩⟩
 ·simp only[eJ,List.mem_cons,List.not_mem_nil,or_false]at hf
  rcases hf with rfl | rfl
  ·exact q1.2 n hp
  ·exact q2.2 n hp
 ·simp only[jg];omega
theorem H3 (f:Nat) (hf:f∈eJ 6):c4 Tryz.prog (CP f):=⟨pd f (by simp only[eJ,List.mem_cons,List.not_mem_nil,or_false]at hf;rcases hf with rfl | rfl<;>decide),fun ρ n h hp=>by
 obtain⟨h0,A⟩:=ll hp
 obtain⟨A,E⟩:=ll A
 obtain⟨E,h3⟩:=ll E
 obtain⟨g,Z⟩:=aag (ρ:=ρ) fun k u=>by
  rcases(show k=0\/k=1\/k=2\/k=3 by omega)with rfl | rfl | rfl | rfl
  ·exact km h0
  ·exact km A
  ·exact km E
  ·exact km h3
 exact(iz Z).qo f hf n h⟩
def CU:List Sm:=[CP 35,CP 135]
theorem Zb:∀s∈CU,c4 Tryz.prog s:=List.forall_mem_cons.2 ⟨H3 35 (by decide),List.forall_mem_cons.2 ⟨H3 135 (by decide),List.forall_mem_nil _⟩⟩
def q0 (n:Nat):List X:=[tf 0 1,.ro 1 ((List.range n).map fun k=>[tf (2*k+2) (2*k+3)]) false]
def vF:Nat->J
 | 0=>[]
 | n+1=>hj n (-16384) 16384++vF n
theorem WE {ρ:aa}:∀{n:Nat},(∀k,k<n -> -16384<=ρ.i k/\ρ.i k<=16384)->J.ok ρ (vF n)
 | 0,_=>J.bq ρ
 | n+1,h=>h_ (h n (by omega)) (WE fun k u=>h k (by omega))
def jt (j:Nat):U := .uf 6 0 (.i (.var 0) (.i (.var 1) (.i (.var (2*j+2)) (.i (.var (2*j+3)) .nil))))
noncomputable def qY (n:Nat):Nat->Nat->Nat->J->Bool
 | 0,_,m,B=>iw (aN (cU CU) 92 (q0 n) B) (.ret (xn m))&&iw (aN (cU CU) 109 (q0 n) B) (.ret (xn m))
 | r+1,j,m,B=>qY n r (j+1) j ((.lt (jt j) (jt m),true)::B)&&qY n r (j+1) m ((.lt (jt j) (jt m),false)::B)
theorem yG {ρ:aa} {n:Nat}:∀(r j m:Nat) (B:J),qY n r j m B=true->J.ok ρ B->m<j->(∀k,k<j->(jt m).I ρ<=(jt k).I ρ) ->
  ∃m':Nat,m'<j+r/\Cy 92 (X.af ρ (q0 n)) (.sc (.int .i64 m'))/\Cy 109 (X.af ρ (q0 n)) (.sc (.int .i64 m'))/\∀k,k<j+r->(jt m').I ρ<=(jt k).I ρ
 | 0,j,m,B,h,u,hm,hd=>by
  simp only[qY,Bool.and_eq_true]at h
  have e1:=p6 h.1
  have e2:=p6 h.2
  have q1:=ef (jW ρ) Zb u (show(aN (cU CU) 92 (q0 n) B).aq ρ=some (xn m)by rw[e1];rfl)
  have q2:=ef (jW ρ) Zb u (show(aN (cU CU) 109 (q0 n) B).aq ρ=some (xn m)by rw[e2];rfl)
  exact⟨m,hm,q1,q2,hd⟩
 | r+1,j,m,B,h,u,hm,hd=>by
  simp only[qY,Bool.and_eq_true]at h
  have e:j+(r+1)=j+1+r:=by omega
  rw[e]
  by_cases H:(jt j).I ρ<(jt m).I ρ
  ·refine yG r (j+1) j _ h.1 (J.av (mr H) u) (by omega) fun k aM => ?_
   by_cases O:k=j
   ·rw[O];exact Int.le_refl _
   ·have:=hd k (by omega);omega
  ·refine yG r (j+1) m _ h.2 (J.av (b' H) u) (by omega) fun k aM => ?_
   by_cases O:k=j
   ·rw[O];omega
   ·exact hd k (by omega)
theorem mn1:qY 1 0 1 0 (vF 4)=true:=by kernel_rfl
theorem mn2:qY 2 1 1 0 (vF 6)=true:=by kernel_rfl
theorem mn3:qY 3 2 1 0 (vF 8)=true:=by kernel_rfl
theorem mn4:qY 4 3 1 0 (vF 10)=true:=by kernel_rfl
theorem Jr (ρ:aa) {n:Nat} (hn:n=1\/n=2\/n=3\/n=4):((fB 0 (2*n+2) .nil).I ρ).length=2*n+2:=by
 rcases hn with rfl | rfl | rfl | rfl<;>rfl
theorem D4 (ρ:aa) {n:Nat} (hn:n=1\/n=2\/n=3\/n=4) {i:Nat} (hi:i<2*n+2):vI ((fB 0 (2*n+2) .nil).I ρ) i=ρ.i i:=by
 have h:i=0\/i=1\/i=2\/i=3\/i=4\/i=5\/i=6\/i=7\/i=8\/i=9:=by omega
 rcases hn with rfl | rfl | rfl | rfl<;>rcases h with rfl | rfl | rfl | rfl | rfl | rfl | rfl | rfl | rfl | rfl<;>first | rfl | omega
theorem WG (ρ:aa) {n:Nat} (hn:n=1\/n=2\/n=3\/n=4):X.af ρ (q0 n)=Dj 8 ((fB 0 (2*n+2) .nil).I ρ):=by
 rcases hn with rfl | rfl | rfl | rfl<;>kernel_rfl
theorem adZ {ρ:aa} {n j:Nat} (O:j<n) (h:∀k,k<2*n+2 -> -16384<=ρ.i k/\ρ.i k<=16384):(jt j).I ρ=(ρ.i 0-ρ.i (2*j+2))*(ρ.i 0-ρ.i (2*j+2))+(ρ.i 1-ρ.i (2*j+3))*(ρ.i 1-ρ.i (2*j+3)):=by
 let F:aa:={ ρ with i:=fun k=>if k=2 then ρ.i (2*j+2)else if k=3 then ρ.i (2*j+3)else ρ.i k }
 obtain⟨g,Z⟩:=aag (ρ:=F) fun k u=>by
  rcases(show k=0\/k=1\/k=2\/k=3 by omega)with rfl | rfl | rfl | rfl
  ·exact h 0 (by omega)
  ·exact h 1 (by omega)
  ·exact h (2*j+2) (by omega)
  ·exact h (2*j+3) (by omega)
 exact(iz Z).tg
theorem aah {ρ:aa} {n:Nat} (hn:n=1\/n=2\/n=3\/n=4) (h:∀k,k<2*n+2 -> -16384<=ρ.i k/\ρ.i k<=16384):∃g,jQ 8 ((fB 0 (2*n+2) .nil).I ρ) g:=by
 have u:J.ok ρ (vF (2*n+2)):=WE h
 have key:∃m':Nat,m'<n/\Cy 92 (X.af ρ (q0 n)) (.sc (.int .i64 m'))/\Cy 109 (X.af ρ (q0 n)) (.sc (.int .i64 m'))/\∀k,k<n->(jt m').I ρ<=(jt k).I ρ:=by
  have z:∀k,k<1->(jt 0).I ρ<=(jt k).I ρ:=fun k u=>by
   obtain rfl:k=0:=by omega
   exact Int.le_refl _
  rcases hn with rfl | rfl | rfl | rfl
  ·exact yG 0 1 0 _ mn1 u (by omega) z
  ·exact yG 1 1 0 _ mn2 u (by omega) z
  ·exact yG 2 1 0 _ mn3 u (by omega) z
  ·exact yG 3 1 0 _ mn4 u (by omega) z
 obtain⟨m,hm,A,E,h3⟩:=key
 rw[WG ρ hn]at A E
 have ST:∀k,k<n->dst ((fB 0 (2*n+2) .nil).I ρ) 0 (2*k+2)=(jt k).I ρ:=fun k u=>by
  unfold dst
  rw[adZ u h,D4 ρ hn (i:=0) (by omega),D4 ρ hn (i:=0+1) (by omega),D4 ρ hn (i:=2*k+2) (by omega),D4 ρ hn (i:=2*k+2+1) (by omega)]
 have M:((fB 0 (2*n+2) .nil).I ρ).length / 2-1=n:=by rw[Jr ρ hn];omega
 refine⟨fun _=>m,⟨fun f hf n hp => ?_,fun j => ?_,?_⟩⟩
 ·simp only[eJ,List.mem_cons,List.not_mem_nil,or_false]at hf
  rcases hf with rfl | rfl
  ·exact A.2 n hp
  ·exact E.2 n hp
 ·simp only[jg];omega
 ·refine⟨show(m:Int)<_ by rw[show((((fB 0 (2*n+2) .nil).I ρ).length:Int) / 2-1)=n by rw[Jr ρ hn];omega];omega,fun k u => ?_⟩
  rw[M]at u
  have e:((m:Int)).toNat=m:=Int.toNat_natCast m
  simp only[e]
  rw[ST m hm,ST k u]
  exact h3 k u
theorem aoO {ρ:aa} {n:Nat} (h:(XC n).I ρ=true):∀k,k<2*n+2 -> -16384<=ρ.i k/\ρ.i k<=16384:=by
 have go:∀(l:List Nat),(l.foldr (fun k b=>BE.and (iX (.var k) (-16384) 16384) b) (.lit true)).I ρ=true->∀k∈l,-16384<=ρ.i k/\ρ.i k<=16384:=fun l=>by
  induction l with
  | nil=>intro _ k u;cases u
  | cons a l ih =>
   intro M k u
   obtain⟨g1,g2⟩:=ll M
   rcases List.mem_cons.1 u with rfl | u
   ·exact km g1
   ·exact ih g2 k u
 exact fun k u=>go _ h k (List.mem_range.2 u)
theorem tH (f n:Nat) (hf:f∈eJ 8) (hn:n=1\/n=2\/n=3\/n=4):c4 Tryz.prog (PO f n):=⟨pd f (by simp only[eJ,List.mem_cons,List.not_mem_nil,or_false]at hf;rcases hf with rfl | rfl<;>decide),fun ρ m h hp=>by
 obtain⟨g,Z⟩:=aah hn (aoO hp)
 have:=(iz Z).qo f hf m h
 rw[<-WG ρ hn]at this
 exact this⟩
def Ih:List Sm:=[CQ 97,CQ 105]
theorem Zc:∀s∈Ih,c4 Tryz.prog s:=List.forall_mem_cons.2 ⟨H6 97 (by decide),List.forall_mem_cons.2 ⟨H6 105 (by decide),List.forall_mem_nil _⟩⟩
def Js (n:Int) (j:Bool):AL := .i (.var 0) (.i (.lit n) (fB 2 8 (.b (.lit j) (.i (.var 11) (.i (.var 12) .nil)))))
theorem acx (ρ:aa):(h9 0).I ρ=(Js (ρ.i 1) (ρ.b 10)).I ρ:=rfl
def PH (n:Nat) (j:Bool):J:=[(.eq (.uf 1 0 (Js n j)) (.lit 1),true)]
def Yz:J:=[(.eq (.uf 1 0 (h9 0)) (.lit 1),false)]
noncomputable def rv (f n:Nat) (j:Bool) (k:Nat):Bool:=iw (aN (cU Ih) f (fj n j) (PH n j)) (.ret (xi k))
noncomputable def runN (f:Nat):Bool:=iw (aN (cU Ih) f [.agg (iF 0)] Yz) (.ret (xn (-1)))
noncomputable def wV (f:Nat) (k:Nat->Nat):Bool:=runN f&&(rv f 1 false (k 1)&&(rv f 1 true (k 1)&&(rv f 2 false (k 2)&&(rv f 2 true (k 2)&&(rv f 3 false (k 3)&&(rv f 3 true (k 3)&&(rv f 4 false (k 4)&&rv f 4 true (k 4))))))))
theorem D5 {f:Nat} {k:Nat->Nat} (h:wV f k=true) (ρ:aa):Cy f (X.af ρ [.agg (iF 0)]) (.sc (.int .i64 (if UF 1 ((h9 0).I ρ) 0=1 then ρ.i (k (ρ.i 1).toNat)else -1))):=by
 simp only[wV,Bool.and_eq_true]at h
 obtain⟨h0,A,E,h3,h4,h5,h6,h7,ul⟩:=h
 by_cases hr:UF 1 ((h9 0).I ρ) 0=1
 ·rw[if_pos hr]
  obtain⟨g,Z⟩:=IJ ρ
  obtain⟨b1,b2,_⟩:=(iz Z).tg hr
  have b1:1<=ρ.i 1:=b1
  have b2:ρ.i 1<=4:=b2
  have go:∀(n:Nat) (j:Bool),ρ.i 1=n->ρ.b 10=j->rv f n j (k n)=true->Cy f (X.af ρ [.agg (iF 0)]) (.sc (.int .i64 (ρ.i (k (ρ.i 1).toNat)))):=fun n j hn O H=>by
   have e:=p6 H
   have u:J.ok ρ (PH n j):=J.av (by
    have:UF 1 ((Js n j).I ρ) 0=1:=by rw[<-hr,acx,hn,O]
    simpa [BE.I,U.I]using this) (J.bq ρ)
   have q:=ef (jW ρ) Zc u (show(aN (cU Ih) f (fj n j) (PH n j)).aq ρ=some _ by rw[e];rfl)
   have ed:X.af ρ [.agg (iF 0)]=X.af ρ (fj n j):=by rw[Sl,hn,O];rfl
   rw[ed,hn]
   exact q
  have hn:ρ.i 1=1\/ρ.i 1=2\/ρ.i 1=3\/ρ.i 1=4:=by omega
  cases O:ρ.b 10<;>rcases hn with hn | hn | hn | hn
  ·exact go 1 false hn O A
  ·exact go 2 false hn O h3
  ·exact go 3 false hn O h5
  ·exact go 4 false hn O h7
  ·exact go 1 true hn O E
  ·exact go 2 true hn O h4
  ·exact go 3 true hn O h6
  ·exact go 4 true hn O ul
 ·rw[if_neg hr]
  have e:=p6 h0
  have u:J.ok ρ Yz:=J.av (by simpa [BE.I,U.I]using hr) (J.bq ρ)
  exact ef (jW ρ) Zc u (by rw[e];rfl)
theorem ahC:wV 94 (fun n=>2*n)=true:=by kernel_rfl
theorem ahB:wV 107 (fun n=>2*n)=true:=by kernel_rfl
theorem afR:wV 27 (fun _=>2)=true:=by kernel_rfl
theorem afS:wV 77 (fun _=>2)=true:=by kernel_rfl
theorem atA (ρ:aa):∃g,jQ 7 ((h9 0).I ρ) g:=by
 refine⟨fun _=>if UF 1 ((h9 0).I ρ) 0=1 then ρ.i (2*(ρ.i 1).toNat)else -1,⟨fun f hf n hp => ?_,fun j => ?_,trivial⟩⟩
 ·simp only[eJ,List.mem_cons,List.not_mem_nil,or_false]at hf
  rcases hf with rfl | rfl
  ·exact(D5 ahC ρ).2 n hp
  ·exact(D5 ahB ρ).2 n hp
 ·simp only[jg]
  split
  ·rename_i hr
   obtain⟨g,Z⟩:=IJ ρ
   obtain⟨b1,b2,dt⟩:=(iz Z).tg hr
   have b1:1<=ρ.i 1:=b1
   have b2:ρ.i 1<=4:=b2
   have fg:=dt ((ρ.i 1).toNat-1) (by show(((ρ.i 1).toNat-1:Nat):Int)<ρ.i 1;omega)
   have e:2+2*((ρ.i 1).toNat-1)=2*(ρ.i 1).toNat:=by omega
   rw[e]at fg
   have q:vI ((h9 0).I ρ) (2*(ρ.i 1).toNat)=ρ.i (2*(ρ.i 1).toNat):=by
    have:ρ.i 1=1\/ρ.i 1=2\/ρ.i 1=3\/ρ.i 1=4:=by omega
    rcases this with h | h | h | h<;>rw[h]<;>rfl
   rw[q]at fg
   omega
  ·omega
theorem YS (f:Nat) (hf:f∈eJ 7):c4 Tryz.prog (PN f):=⟨pd f (by simp only[eJ,List.mem_cons,List.not_mem_nil,or_false]at hf;rcases hf with rfl | rfl<;>decide),fun ρ n h _=>by
 obtain⟨g,Z⟩:=atA ρ
 exact(iz Z).qo f hf n h⟩
theorem YQ (f:Nat) (hf:f∈[27,77]):c4 Tryz.prog (H4 f):=⟨pd f (by simp only[List.mem_cons,List.not_mem_nil,or_false]at hf;rcases hf with rfl | rfl<;>decide),fun ρ n h _=>by
 have e:X.I ρ (H4 f).r = .sc (.int .i64 (if UF 1 ((h9 0).I ρ) 0=1 then ρ.i 2 else -1)):=by
  show AV.sc (.int .i64 ((U.ite (.eq (.uf 1 0 (h9 0)) (.lit 1)) (.var 2) (.lit (-1))).I ρ))=_
  by_cases hr:UF 1 ((h9 0).I ρ) 0=1
  ·rw[if_pos hr,BN (by simpa [BE.I,U.I]using hr)];rfl
  ·rw[if_neg hr,FW (by simpa [BE.I,U.I]using hr)];rfl
 rw[e]
 simp only[List.mem_cons,List.not_mem_nil,or_false]at hf
 rcases hf with rfl | rfl
 ·exact(D5 afR ρ).2 n h
 ·exact(D5 afS ρ).2 n h⟩
end Go.Proofs.YtpdfmnhgocpkcaaGreat
namespace Go.Proofs.YtpdfmnhgocpkcaaGreat
open Go Go.Proofs.Aw Go.Proofs.Xw
def ym:X := .sc (.s (.var 0))
noncomputable def wB:Code:=(dP (Tryz.f68.body.getD .skip))[0]?.getD .skip
def aao:XS:=⟨aaK,[],5⟩
def atW:J:=[(.lt (.var 100) (.lit 0),false)]
def lK:Bind:=⟨[(100,aaL),(101,aaM)],[],[],[]⟩
def jh:Bind:=⟨[(100,(.lit 0)),(101,(.lit 14695981039346656037))],[],[],[]⟩
def IK:T (XE×XS):=(.br aaO (.ret (.normal,⟨[(9,(.sc (.i .i64 aaL))),(8,aaI),(7,zH),(3,(.sc (.i .u64 aaM))),(2,aaJ),(0,zH)],[],18⟩)) (.ret ((.exit 0),⟨aaK,[],6⟩)))
noncomputable def wP:bf:=⟨((du wB).getD 0),0,100,aao,jh,[],IK.outs⟩
theorem atU:(ck (bd ([]) (fun _=>[])).ti (eC ⟨(bd ([]) (fun _=>[])),[],[]⟩ 12) (((bd ([]) (fun _=>[])).hD 68).elim [] (·.ms)) wP.k0 ((fun _=>[]) 68) 1000 wB atW wP.S).map (dV (aao.t.map (·.1)))=IK:=by kernel_rfl
theorem atO:IK.gB (ff wP.k0 wP.n lK [] wP.S)=true:=by kernel_rfl
theorem atP:IK.outs.lT 102=true:=by kernel_rfl
theorem atS:jh.ar 100=true:=by kernel_rfl
theorem QS:jh.ge 100=true:=by kernel_rfl
theorem QR:lK.ge 100=true:=by kernel_rfl
theorem atV:jh.same lK=true:=by kernel_rfl
theorem atQ:da Tryz.f68.ntmps wB=true:=by kernel_rfl
noncomputable def wC:Code:=(dP (Tryz.f145.body.getD .skip))[0]?.getD .skip
def aap:XS:=⟨aaP,[],4⟩
def at4:J:=[(.lt (.var 140) (.lit 0),false)]
def lL:Bind:=⟨[(140,aaQ),(141,aaR)],[],[],[]⟩
def ji:Bind:=⟨[(140,(.lit 0)),(141,(.lit 14695981039346656037))],[],[],[]⟩
def IL:T (XE×XS):=(.br aaS (.ret (.normal,⟨[(5,(.sc (.i .i64 aaQ))),(4,(.sc (.i .u64 aaR))),(3,I8),(2,I8),(0,zH)],[],19⟩)) (.ret ((.exit 0),⟨aaP,[],8⟩)))
noncomputable def wQ:bf:=⟨((du wC).getD 0),0,140,aap,ji,[],IL.outs⟩
theorem at2:(ck (bd ([]) (fun _=>[])).ti (eC ⟨(bd ([]) (fun _=>[])),[],[]⟩ 12) (((bd ([]) (fun _=>[])).hD 145).elim [] (·.ms)) wQ.k0 ((fun _=>[]) 145) 1000 wC at4 wQ.S).map (dV (aap.t.map (·.1)))=IL:=by kernel_rfl
theorem atX:IL.gB (ff wQ.k0 wQ.n lL [] wQ.S)=true:=by kernel_rfl
theorem atY:IL.outs.lT 142=true:=by kernel_rfl
theorem at0:ji.ar 140=true:=by kernel_rfl
theorem QU:ji.ge 140=true:=by kernel_rfl
theorem QT:lL.ge 140=true:=by kernel_rfl
theorem at3:ji.same lL=true:=by kernel_rfl
theorem atZ:da Tryz.f145.ntmps wC=true:=by kernel_rfl
end Go.Proofs.YtpdfmnhgocpkcaaGreat
namespace Go.Proofs.YtpdfmnhgocpkcaaGreat
open Go Go.Proofs.Aw Go.Proofs.Xw
set_option maxRecDepth 100000
noncomputable def Gk (f:Nat):List bf:=if Nat.beq f 68=true then [wP]else []
theorem ah2:vU [wP] [0] 0 (dP (Tryz.f68.body.getD .skip))=true:=by kernel_rfl
theorem ah1 {ρ:aa} (LT:bW Tryz.prog ρ Tryz.f68.ntmps wB wP):a1 Tryz.prog ρ Tryz.f68.ntmps [wP] (Tryz.f68.body.getD .skip) :=
 kv [0] ah2 (List.forall_mem_cons.2 ⟨V5 (c:=wB) (Ls:=[wP]) (by kernel_rfl) (List.forall_mem_cons.2 ⟨LT,List.forall_mem_nil _⟩),List.forall_mem_nil _⟩)
theorem ah3 {ρ:aa} (LT:bW Tryz.prog ρ Tryz.f68.ntmps wB wP):∀f i,eB f gb=some i->a1 Tryz.prog ρ i.ntmps (Gk f) i.body:=by
 intro f i h
 have hi:=mT (f,i) (jV _ _ (jU h))
 unfold Gk
 split
 ·rename_i hf
  have hf:=Nat.eq_of_beq_eq_true hf
  subst hf
  exact ov hi Tryz.func68 (ah1 LT)
 ·exact a1.nil _ _ _ _
noncomputable def Gl (f:Nat):List bf:=if Nat.beq f 145=true then [wQ]else []
theorem ah5:vU [wQ] [0] 0 (dP (Tryz.f145.body.getD .skip))=true:=by kernel_rfl
theorem ah4 {ρ:aa} (LU:bW Tryz.prog ρ Tryz.f145.ntmps wC wQ):a1 Tryz.prog ρ Tryz.f145.ntmps [wQ] (Tryz.f145.body.getD .skip) :=
 kv [0] ah5 (List.forall_mem_cons.2 ⟨V5 (c:=wC) (Ls:=[wQ]) (by kernel_rfl) (List.forall_mem_cons.2 ⟨LU,List.forall_mem_nil _⟩),List.forall_mem_nil _⟩)
theorem ah6 {ρ:aa} (LU:bW Tryz.prog ρ Tryz.f145.ntmps wC wQ):∀f i,eB f gb=some i->a1 Tryz.prog ρ i.ntmps (Gl f) i.body:=by
 intro f i h
 have hi:=mT (f,i) (jV _ _ (jU h))
 unfold Gl
 split
 ·rename_i hf
  have hf:=Nat.eq_of_beq_eq_true hf
  subst hf
  exact ov hi Tryz.func145 (ah4 LU)
 ·exact a1.nil _ _ _ _
def O7:T X:=(.cL (.not aaO) (.ret (.sc (.c (.ite (.and (.eq (.op .cW .i64 (.op .and .u64 (.op .xor .u64 (.op .mul .u64 (.op .xor .u64 (.var 101) (.op .shr .u64 (.var 101) (.lit 32))) (.lit 11400714819323198485)) (.op .shr .u64 (.op .mul .u64 (.op .xor .u64 (.var 101) (.op .shr .u64 (.var 101) (.lit 32))) (.lit 11400714819323198485)) (.lit 29))) (.lit 1048575)) (.lit (-524288))) (.lit 0)) (.eq (.op .cW .i64 (.op .and .u64 (.op .shr .u64 (.op .xor .u64 (.op .mul .u64 (.op .xor .u64 (.var 101) (.op .shr .u64 (.var 101) (.lit 32))) (.lit 11400714819323198485)) (.op .shr .u64 (.op .mul .u64 (.op .xor .u64 (.var 101) (.op .shr .u64 (.var 101) (.lit 32))) (.lit 11400714819323198485)) (.lit 29))) (.lit 20)) (.lit 1048575)) (.lit (-524288))) (.lit 0))) (.lit 1) (.op .cW .i64 (.op .and .u64 (.op .xor .u64 (.op .mul .u64 (.op .xor .u64 (.var 101) (.op .shr .u64 (.var 101) (.lit 32))) (.lit 11400714819323198485)) (.op .shr .u64 (.op .mul .u64 (.op .xor .u64 (.var 101) (.op .shr .u64 (.var 101) (.lit 32))) (.lit 11400714819323198485)) (.lit 29))) (.lit 1048575)) (.lit (-524288)))) (.lit false) (.ite (.and (.eq (.op .cW .i64 (.op .and .u64 (.op .xor .u64 (.op .mul .u64 (.op .xor .u64 (.var 101) (.op .shr .u64 (.var 101) (.lit 32))) (.lit 11400714819323198485)) (.op .shr .u64 (.op .mul .u64 (.op .xor .u64 (.var 101) (.op .shr .u64 (.var 101) (.lit 32))) (.lit 11400714819323198485)) (.lit 29))) (.lit 1048575)) (.lit (-524288))) (.lit 0)) (.eq (.op .cW .i64 (.op .and .u64 (.op .shr .u64 (.op .xor .u64 (.op .mul .u64 (.op .xor .u64 (.var 101) (.op .shr .u64 (.var 101) (.lit 32))) (.lit 11400714819323198485)) (.op .shr .u64 (.op .mul .u64 (.op .xor .u64 (.var 101) (.op .shr .u64 (.var 101) (.lit 32))) (.lit 11400714819323198485)) (.lit 29))) (.lit 20)) (.lit 1048575)) (.lit (-524288))) (.lit 0))) (.lit 0) (.op .cW .i64 (.op .and .u64 (.op .shr .u64 (.op .xor .u64 (.op .mul .u64 (.op .xor .u64 (.var 101) (.op .shr .u64 (.var 101) (.lit 32))) (.lit 11400714819323198485)) (.op .shr .u64 (.op .mul .u64 (.op .xor .u64 (.var 101) (.op .shr .u64 (.var 101) (.lit 32))) (.lit 11400714819323198485)) (.lit 29))) (.lit 20)) (.lit 1048575)) (.lit (-524288)))) (.lit false)))))
theorem aoN:aN ⟨bd [] Gk,[],[]⟩ 68 ([ym]) []=O7:=by kernel_rfl
def PC:T X:=(.cL (.not aaS) (.ret (.tup [(.sc (.i .i64 (.ite (.and (.eq aaV (.lit 0)) (.eq aaW (.lit 0))) (.lit 1) aaV))),(.sc (.i .i64 aaW))])))
theorem aqU:aN ⟨bd [] Gl,[],[]⟩ 145 ([ym]) []=PC:=by kernel_rfl
end Go.Proofs.YtpdfmnhgocpkcaaGreat
namespace Go.Proofs.Xw
open Go Go.Proofs.Aw
section
variable (ρ:aa)
theorem Ku (a b:U):((BE.lt a b).I ρ=true)=(a.I ρ<b.I ρ):=by simp[BE.I]
theorem mO (a b:U):((BE.lt a b).I ρ=false)=(b.I ρ<=a.I ρ):=by simp[BE.I]
theorem S5 (a b:U):((BE.eq a b).I ρ=true)=(a.I ρ=b.I ρ):=by simp[BE.I]
theorem sa (a b:U):((BE.eq a b).I ρ=false)=¬(a.I ρ=b.I ρ):=by simp[BE.I]
theorem S7 (a:BE):((BE.not a).I ρ=true)=(a.I ρ=false):=by simp[BE.I]
theorem SU (a b:BE):((BE.and a b).I ρ=false)=(a.I ρ=false\/b.I ρ=false):=by simp only[BE.I];cases BE.I ρ a<;>cases BE.I ρ b<;>simp
end
end Go.Proofs.Xw
