/- Parts of the proof, one behind the other. -/
import Derived.Test.YtpdfmnhgocpkcaaGreatTM5
import Derived.Test.YtpdfmnhgocpkcaaGreatTM6
import Derived.Test.YtpdfmnhgocpkcaaGreatXwM3
import Derived.Test.YtpdfmnhgocpkcaaGreatTM2
import Derived.Test.YtpdfmnhgocpkcaaGreatTM3
import Derived.Test.YtpdfmnhgocpkcaaGreatXwM1
namespace Go.Proofs.YtpdfmnhgocpkcaaGreat
open Go Go.Proofs.Aw Go.Proofs.Xw
abbrev mE:U := .lit 1099511627776
abbrev aaB:BE := .or (.or (.not (.and (.and (.and (.not (.lt (.var 0) (.lit 0))) (.lt (.var 0) (.lit 3))) (.not (.lt (.var 1) (.lit 0)))) (.lt (.var 1) (.lit 3)))) (.lt (.var 2) (.lit 1))) (.lt mE (.var 2))
abbrev aaL:BE := .not (.and (.and (.and (.and (.and (.not (.lt (.var 3) (.lit 1))) (.not (.lt mE (.var 3)))) (.not (.lt (.var 4) (.lit 0)))) (.lt (.var 4) (.lit 3))) (.not (.lt (.var 5) (.lit 0)))) (.lt (.var 5) (.lit 3)))
abbrev aaV:BE := .or (.or (.or (.lt (.ch (.var 6)) (.lit 1)) (.lt (.lit 16) (.ch (.var 6)))) (.lt (.lit 32) (.ch (.var 7)))) (.and (.var 8) (.not (.seq (.var 7) (.lit ⟨#[]⟩))))
abbrev aaW:BE := .or (.or (.or (.lt (.var 9) (.lit 0)) (.lt mE (.var 9))) (.or (.or (.lt (.var 10) (.lit 0)) (.lt mE (.var 10))) (.or (.lt (.var 11) (.lit 0)) (.lt mE (.var 11))))) (.or (.or (.or (.lt (.var 12) (.lit 0)) (.lt mE (.var 12))) (.or (.or (.lt (.var 13) (.lit 0)) (.lt mE (.var 13))) (.or (.lt (.var 14) (.lit 0)) (.lt mE (.var 14))))) (.or (.or (.lt (.var 15) (.lit 0)) (.lt mE (.var 15))) (.or (.or (.lt (.var 16) (.lit 0)) (.lt mE (.var 16))) (.or (.lt (.var 17) (.lit 0)) (.lt mE (.var 17))))))
abbrev Rl:BE := .eq (.var 0) (.lit 0)
abbrev Rm:BE := .eq (.var 1) (.lit 0)
abbrev Rn:BE := .eq (.var 1) (.lit 1)
abbrev Rp:BE := .eq (.var 0) (.lit 1)
abbrev aaX:BE := .eq (.ite (.and Rl Rm) (.var 9) (.ite (.and Rl Rn) (.var 10) (.ite Rl (.var 11) (.ite (.and Rp Rm) (.var 12) (.ite (.and Rp Rn) (.var 13) (.ite Rp (.var 14) (.ite Rm (.var 15) (.ite Rn (.var 16) (.var 17))))))))) (.op .sub .i64 (.var 2) (.lit 1))
abbrev aaC:U := .op .fN .i64 (.var 0) (.var 2)
abbrev aaD:U := .op .fN .i64 (.var 1) (.var 3)
abbrev aaE:U := .op .sub .i64 (.var 0) (.var 2)
abbrev aaF:U := .op .sub .i64 (.var 1) (.var 3)
abbrev aaG:X := .sc (.i .i64 (.ch (.var 0)))
abbrev zI:X := .sc (.s (.var 0))
abbrev aaH:X := .sc (.c (.lit 0) (.lit false) (.lit 0) (.lit false))
abbrev aaI:ba:=[(9,(.sc (.i .i64 (.var 100)))),(8,aaG),(7,zI),(3,(.sc (.i .u64 (.var 101)))),(2,aaH),(0,zI)]
abbrev aaJ:U := .op .add .i64 (.var 100) (.lit 1)
abbrev aaK:U := .op .mul .u64 (.op .xor .u64 (.var 101) (.op .conv .u64 (.fC (.var 0) (.var 100)) (.lit 0))) (.lit 1099511628211)
abbrev aaM:BE := .lt (.var 100) (.ch (.var 0))
abbrev I9:X := .sc (.i .i64 (.lit 0))
abbrev aaN:ba:=[(5,(.sc (.i .i64 (.var 140)))),(4,(.sc (.i .u64 (.var 141)))),(3,I9),(2,I9),(0,zI)]
abbrev aaO:U := .op .add .i64 (.var 140) (.lit 1)
abbrev aaP:U := .op .mul .u64 (.op .xor .u64 (.var 141) (.op .conv .u64 (.fC (.var 0) (.var 140)) (.lit 0))) (.lit 1099511628211)
abbrev aaQ:BE := .lt (.var 140) (.ch (.var 0))
abbrev aaR:U := .op .mul .u64 (.op .xor .u64 (.var 141) (.op .shr .u64 (.var 141) (.lit 32))) (.lit 11400714819323198485)
abbrev aaS:U := .op .xor .u64 aaR (.op .shr .u64 aaR (.lit 29))
abbrev aaT:U := .op .sub .i64 (.op .conv .i64 (.op .and .u64 aaS (.lit 1048575)) (.lit 0)) (.lit 524288)
abbrev aaU:U := .op .sub .i64 (.op .conv .i64 (.op .and .u64 (.op .shr .u64 aaS (.lit 20)) (.lit 1048575)) (.lit 0)) (.lit 524288)
set_option maxRecDepth 100000
def Ta:BE:=(.and (.not (.or aaB (.or (.or (.or aaL (.not (.eq (.var 4) (.var 0)))) (.not (.eq (.var 5) (.var 1)))) (.or aaV (.or aaW (.not aaX)))))) (.and (.and (.and (.not (.lt (.var 18) (.lit 0))) (.lt (.var 18) (.lit 4))) (.not (.lt (.var 19) (.lit 1)))) (.not (.lt mE (.var 19)))))
theorem aoW:aM (cU []) 28 [.agg (qt 0)] [] = .ret (.sc (.b Ta)):=by kernel_rfl
def EI:BE:=(.and (.not (.or (.or (.or aaB aaL) (.not (.eq (.var 4) (.var 0)))) (.not (.eq (.var 5) (.var 1))))) (.and (.not aaV) (.and (.and (.and (.and (.and (.not aaW) aaX) (.not (.lt (.var 18) (.lit 0)))) (.lt (.var 18) (.lit 4))) (.not (.lt (.var 19) (.lit 1)))) (.not (.lt mE (.var 19))))))
theorem ao6:aM (cU []) 81 [.agg (qt 0)] [] = .ret (.sc (.b EI)):=by kernel_rfl
theorem v_w (ρ:aa):(Ta).I ρ=(EI).I ρ:=tM (w:=false) (n:=300) (hs:=[]) (by kernel_rfl) ρ
def R9:List BE:=[iW (.var 0) 0 2,iW (.var 1) 0 2,iW (.var 2) 1 1099511627776]++(List.range 9).map fun k=>iW (.var (9+k)) 0 1099511627776
theorem b_w (ρ:aa) (h:(EI).I ρ=true):∀c∈R9,c.I ρ=true:=sT (hs:=[]) h (by kernel_rfl)
end Go.Proofs.YtpdfmnhgocpkcaaGreat
namespace Go.Proofs.YtpdfmnhgocpkcaaGreat
open Go Go.Proofs.Aw Go.Proofs.Xw
set_option maxRecDepth 100000
theorem km {ρ:aa} {e:U} {lo hi:Int} (h:(iW e lo hi).I ρ=true):lo<=e.I ρ/\e.I ρ<=hi:=by
 have h:((!decide (e.I ρ<lo)) && !decide (hi<e.I ρ))=true:=h
 simp only[Bool.and_eq_true,Bool.not_eq_true',decide_eq_false_iff_not]at h
 omega
theorem apZ (ρ:aa):∃b:Bool,Cy 28 (X.af ρ [.agg (qt 0)]) (.sc (.bool b))/\Cy 81 (X.af ρ [.agg (qt 0)]) (.sc (.bool b))/\(b=true->∀c∈R9,c.I ρ=true):=by
 have bm:=ec (jX ρ) (List.forall_mem_nil _) (J.bt ρ) (show(aM (cU []) 28 [.agg (qt 0)] []).aq ρ=some _ by rw[aoW];rfl)
 have bl:=ec (jX ρ) (List.forall_mem_nil _) (J.bt ρ) (show(aM (cU []) 81 [.agg (qt 0)] []).aq ρ=some _ by rw[ao6];rfl)
 refine⟨(EI).I ρ,?_,bl,b_w ρ⟩
 rw[<-v_w];exact bm
theorem QK (ρ:aa):∃g,jR 2 ((kP 0).I ρ) g:=by
 obtain⟨b,A,E,h3⟩:=apZ ρ
 refine⟨fun _=>if b=true then 1 else 0,⟨fun f hf n h => ?_,fun j => ?_,fun Z => ?_⟩⟩
 ·have e:IJ 2 (fun _=>if b=true then 1 else 0) = .sc (.bool b):=by cases b<;>rfl
  rw[e]
  simp only[eK,List.mem_cons,List.not_mem_nil,or_false]at hf
  rcases hf with rfl | rfl
  ·exact A.2 n h
  ·exact E.2 n h
 ·simp only[jf];split<;>omega
 ·have hb:b=true:=by cases b<;>simp_all
  have g:=h3 hb
  have q:∀k:Nat,k<9->vI ((kP 0).I ρ) (9+k)=ρ.i (9+k):=fun k u=>by
   rcases(show k=0\/k=1\/k=2\/k=3\/k=4\/k=5\/k=6\/k=7\/k=8 by omega)with rfl | rfl | rfl | rfl | rfl | rfl | rfl | rfl | rfl<;>rfl
  refine⟨km (g _ List.mem_cons_self),km (g _ (List.mem_cons_of_mem _ List.mem_cons_self)),km (g _ (List.mem_cons_of_mem _ (List.mem_cons_of_mem _ List.mem_cons_self))),fun k u => ?_⟩
  rw[q k u]
  exact km (g _ (List.mem_append_right _ (List.mem_map.2 ⟨k,List.mem_range.2 u,rfl⟩)))
theorem YU (f:Nat) (hf:f∈eK 2):c4 Tryz.prog (PU f):=⟨pd f (by simp only[eK,List.mem_cons,List.not_mem_nil,or_false]at hf;rcases hf with rfl | rfl<;>decide),fun ρ n h _=>by
 obtain⟨g,Z⟩:=QK ρ
 exact(iz Z).qp f hf n h⟩
def Dn:X->Option (Nat×List U)
 | .sc (.i .i64 e)=>some (0,[e])
 | .sc (.c a (.lit false) b (.lit false))=>some (1,[a,b])
 | .agg [.sc (.i .i64 a),.sc (.i .i64 b),.sc (.i .i64 c),.sc (.i .i64 d),.sc (.i .i64 e),.sc (.i .i64 f),.sc (.i .i64 g),.sc (.i .i64 h),.sc (.i .i64 i)]=>some (2,[a,b,c,d,e,f,g,h,i])
 | _=>none
def Pk (t:Nat) (g:Nat->Int):AV:=match t with
 | 0 => .sc (.int .i64 (g 0))
 | 1=>w7 (g 0) (g 1)
 | _ => .agg ((List.range 9).map fun j => .sc (.int .i64 (g j)))
noncomputable def mU (ρ:aa) (d:Int) (l:List U) (j:Nat):Int:=match l[j]? with
 | some e=>e.I ρ
 | none=>d
theorem aak {ρ:aa} {x:X} {t:Nat} {l:List U} (h:Dn x=some (t,l)) (d:Int):x.I ρ=Pk t (mU ρ d l):=by
 unfold Dn at h
 split at h
 ·cases h;rfl
 ·cases h;rfl
 ·cases h;rfl
 ·cases h
def H_ (B:J):List U->List U->Bool
 | [],[]=>true
 | a::l,b::m=>sU (fu B (.eq a b))&&H_ B l m
 | _,_=>false
theorem YW {ρ:aa} {B:J} (u:J.ok ρ B) (d:Int):∀{l m:List U},H_ B l m=true->mU ρ d l=mU ρ d m
 | [],[],_=>rfl
 | a::l,b::m,h=>by
  simp only[H_,Bool.and_eq_true]at h
  have A:=w6 u h.1
  simp only[BE.I,beq_iff_eq]at A
  have E:=YW u d h.2
  funext j
  cases j with
  | zero=>exact A
  | succ j=>exact congrFun E j
 | [],_::_,h=>by cases h
 | _::_,[],h=>by cases h
def vq (B:J) (lo hi:Int):U->Bool
 | .ite _ a b=>vq B lo hi a&&vq B lo hi b
 | .op .max _ a b=>vq B lo hi a&&vq B lo hi b
 | e=>sU (fu B (.not (.lt e (.lit lo))))&&sU (fu B (.not (.lt (.lit hi) e)))
theorem agJ {ρ:aa} {B:J} (u:J.ok ρ B) {lo hi:Int} (e:U):vq B lo hi e=true->lo<=e.I ρ/\e.I ρ<=hi:=by
 fun_induction vq B lo hi e with
 | case1 c a b d9 el =>
  intro h
  rw[Bool.and_eq_true]at h
  cases H:c.I ρ with
  | true=>rw[BK H];exact d9 h.1
  | false=>rw[FZ H];exact el h.2
 | case2 k a b d9 el =>
  intro h
  rw[Bool.and_eq_true]at h
  have A:=d9 h.1
  have E:=el h.2
  show lo<=Max.max (a.I ρ) (b.I ρ)/\Max.max (a.I ρ) (b.I ρ)<=hi
  omega
 | case3 e n1 n2 =>
  intro h
  rw[Bool.and_eq_true]at h
  have A:¬e.I ρ<lo:=yw (w6 u h.1)
  have E:¬hi<e.I ρ:=yw (w6 u h.2)
  omega
def Vs (B:J) (lo hi:Int) (l:List U):Bool:=l.all fun e=>vq B lo hi e
theorem agK {ρ:aa} {B:J} (u:J.ok ρ B) {lo hi d:Int} (hd:lo<=d/\d<=hi) {l:List U} (h:Vs B lo hi l=true) (j:Nat):lo<=mU ρ d l j/\mU ρ d l j<=hi:=by
 unfold mU
 split
 ·rename_i e G
  exact agJ u e (List.all_eq_true.1 h e (List.mem_of_getElem? G))
 ·exact hd
def pG (B:J) (t:Nat) (lo hi:Int):T X->T X->Bool
 | .ret x,.ret y=>(match Dn x,Dn y with
  | some (a,l),some (b,m)=>Nat.beq a t&&(Nat.beq b t&&(H_ B l m&&Vs B lo hi l))
  | _,_=>false)
 | _,_=>false
theorem Xj {sm:List Sm} (m7:∀s∈sm,c4 Tryz.prog s) {f f':Nat} {p:List X} {B:J} {t:Nat} {lo hi:Int} (hd:lo<=hi) (h:pG B t lo hi (aM (cU sm) f p B) (aM (cU sm) f' p B)=true) {ρ:aa} (u:J.ok ρ B) :
  ∃l:List U,(∃x,aM (cU sm) f p B = .ret x/\Dn x=some (t,l))/\Cy f (X.af ρ p) (Pk t (mU ρ lo l))/\Cy f' (X.af ρ p) (Pk t (mU ρ lo l))/\∀j,lo<=mU ρ lo l j/\mU ρ lo l j<=hi:=by
 unfold pG at h
 split at h
 ·rename_i x y e1 e2
  split at h
  ·rename_i a l b m v1 v2
   simp only[Bool.and_eq_true]at h
   obtain⟨A,E,h3,h4⟩:=h
   have A:=Nat.eq_of_beq_eq_true A
   have E:=Nat.eq_of_beq_eq_true E
   subst A E
   have q1:=ec (jX ρ) m7 u (show(aM (cU sm) f p B).aq ρ=some _ by rw[e1];rfl)
   have q2:=ec (jX ρ) m7 u (show(aM (cU sm) f' p B).aq ρ=some _ by rw[e2];rfl)
   rw[aak v1 lo]at q1
   rw[aak v2 lo,<-YW u lo h3]at q2
   exact⟨l,⟨x,e1,v1⟩,q1,q2,agK u ⟨Int.le_refl _,hd⟩ h4⟩
  ·cases h
 ·cases h
theorem Gv:∀s∈[H6,H9],c4 Tryz.prog s:=by
 have go:∀(f:Nat) (p:List X),iw (aM (cU []) f p []) (.ret Gu)=true->c4 Tryz.prog ⟨f,p,Gu,.lit true⟩:=fun f p h=>by
  unfold iw at h
  split at h
  ·rename_i x y e1 e2
   cases e2
   have:=X.beq_eq _ _ h
   subst this
   exact ara (c:=cU []) (fun ρ=>jX ρ) (List.forall_mem_nil _) e1
  ·cases h
 exact List.forall_mem_cons.2 ⟨go 29 _ (by kernel_rfl),List.forall_mem_cons.2 ⟨go 113 _ (by kernel_rfl),List.forall_mem_nil _⟩⟩
def hg (k:Nat) (lo hi:Int):J:=[(.lt (.var k) (.lit lo),false),(.lt (.lit hi) (.var k),false)]
theorem h_ {ρ:aa} {k:Nat} {lo hi:Int} (h:lo<=ρ.i k/\ρ.i k<=hi) {B:J} (u:J.ok ρ B):J.ok ρ (hg k lo hi++B) :=
 J.av (b_ (show ¬ρ.i k<lo by omega)) (J.av (b_ (show ¬hi<ρ.i k by omega)) u)
def Q3:J:=hg 2 1 1099511627776++(hg 9 0 1099511627776++(hg 10 0 1099511627776++(hg 11 0 1099511627776++(hg 12 0 1099511627776++(hg 13 0 1099511627776++(hg 14 0 1099511627776++(hg 15 0 1099511627776++(hg 16 0 1099511627776++(hg 17 0 1099511627776++[])))))))))
def Hi (a b:Int):List X:=[.ro 20 [[xn a,xn b]++(qt 0).drop 2] false]
def yR (c k:Nat):U:=if Nat.beq k c=true then .op .max .i64 (.op .max .i64 (.lit 0) (.var (9+k))) (.var 2)else .op .max .i64 (.lit 0) (.var (9+k))
def O0 (c:Nat):X := .agg ((List.range 9).map fun k => .sc (.i .i64 (yR c k)))
noncomputable def oD (a b:Nat):Bool:=iw (aM (cU [H6,H9]) 24 (Hi a b) Q3) (.ret (O0 (3*a+b)))&&iw (aM (cU [H6,H9]) 114 (Hi a b) Q3) (.ret (O0 (3*a+b)))
theorem an3:oD 0 0=true:=by kernel_rfl
theorem an4:oD 0 1=true:=by kernel_rfl
theorem an5:oD 0 2=true:=by kernel_rfl
theorem an6:oD 1 0=true:=by kernel_rfl
theorem an7:oD 1 1=true:=by kernel_rfl
theorem an8:oD 1 2=true:=by kernel_rfl
theorem an9:oD 2 0=true:=by kernel_rfl
theorem aoa:oD 2 1=true:=by kernel_rfl
theorem aob:oD 2 2=true:=by kernel_rfl
theorem aoc {a b:Nat} (ha:a<3) (hb:b<3):oD a b=true:=by
 rcases(show a=0\/a=1\/a=2 by omega)with rfl | rfl | rfl<;>rcases(show b=0\/b=1\/b=2 by omega)with rfl | rfl | rfl
 ·exact an3
 ·exact an4
 ·exact an5
 ·exact an6
 ·exact an7
 ·exact an8
 ·exact an9
 ·exact aoa
 ·exact aob
theorem ZQ {t:T X} {x:X} (h:iw t (.ret x)=true):t = .ret x:=by
 cases t with
 | ret y=>exact congrArg T.ret (X.beq_eq _ _ h)
 | br _ _ _=>cases h
 | cL _ _=>cases h
 | fail _=>cases h
theorem SP {sm:List Sm} (m7:∀s∈sm,c4 Tryz.prog s) {ρ:aa} {f:Nat} {p:List X} {B:J} {x:X} (u:J.ok ρ B) (h:aM (cU sm) f p B = .ret x):Cy f (X.af ρ p) (x.I ρ):=ec (jX ρ) m7 u (by rw[h];rfl)
theorem an2 (ρ:aa) (c k:Nat):(yR c k).I ρ=max (max 0 (ρ.i (9+k))) (if(c:Int)=k then ρ.i 2 else 0)\/ρ.i 2<0:=by
 unfold yR
 by_cases h:k=c
 ·left
  subst h
  rw[if_pos (Nat.beq_refl k),if_pos rfl]
  rfl
 ·left
  rw[if_neg (by simpa using h),if_neg (by omega)]
  show max 0 (ρ.i (9+k))=_
  omega
theorem aac {ρ:aa} (h:UF 2 ((kP 0).I ρ) 0=1):∃g,jR 3 ((kP 0).I ρ) g:=by
 obtain⟨g2,Z⟩:=QK ρ
 obtain⟨v0,q1,q2,q3⟩:=(iz Z).tg h
 have v0:0<=ρ.i 0/\ρ.i 0<=2:=v0
 have q1:0<=ρ.i 1/\ρ.i 1<=2:=q1
 have q2:1<=ρ.i 2/\ρ.i 2<=1099511627776:=q2
 have xo:∀k:Nat,k<9->vI ((kP 0).I ρ) (9+k)=ρ.i (9+k):=fun k u=>by
  rcases(show k=0\/k=1\/k=2\/k=3\/k=4\/k=5\/k=6\/k=7\/k=8 by omega)with rfl | rfl | rfl | rfl | rfl | rfl | rfl | rfl | rfl<;>rfl
 have q3:∀k:Nat,k<9->0<=ρ.i (9+k)/\ρ.i (9+k)<=1099511627776:=fun k u=>by have:=q3 k u;rw[xo k u]at this;exact this
 have u:J.ok ρ Q3:=h_ q2 (h_ (q3 0 (by omega)) (h_ (q3 1 (by omega)) (h_ (q3 2 (by omega)) (h_ (q3 3 (by omega)) (h_ (q3 4 (by omega)) (h_ (q3 5 (by omega)) (h_ (q3 6 (by omega)) (h_ (q3 7 (by omega)) (h_ (q3 8 (by omega)) (J.bt ρ))))))))))
 obtain⟨a,b,ha,hb,i3,KH⟩:∃a b:Nat,a<3/\b<3/\ρ.i 0=a/\ρ.i 1=b:=⟨(ρ.i 0).toNat,(ρ.i 1).toNat,by omega,by omega,by omega,by omega⟩
 have hr:=aoc ha hb
 unfold oD at hr
 rw[Bool.and_eq_true]at hr
 have r1:=SP Gv u (ZQ hr.1)
 have r2:=SP Gv u (ZQ hr.2)
 have ed:Dh 3 ((kP 0).I ρ)=X.af ρ (Hi a b):=by
  show X.af ρ (Hi (ρ.i 0) (ρ.i 1))=_
  rw[i3,KH]
 have D:ρ.i 0*3+ρ.i 1=((3*a+b:Nat):Int):=by omega
 let g:Nat->Int:=fun k=>if k<9 then v5 ((kP 0).I ρ) k else 0
 have afj:∀k,k<9->g k=(yR (3*a+b) k).I ρ:=fun k kb=>by
  show(if k<9 then v5 ((kP 0).I ρ) k else 0)=_
  rw[if_pos kb]
  unfold v5
  rw[xo k kb]
  show max (max 0 (ρ.i (9+k))) (if ρ.i 0*3+ρ.i 1=k then ρ.i 2 else 0)=_
  rw[D]
  rcases an2 ρ (3*a+b) k with h | h
  ·exact h.symm
  ·omega
 have e8:IJ 3 g=X.I ρ (O0 (3*a+b)):=by
  show AV.agg ((List.range 9).map fun j => .sc (.int .i64 (g j)))=AV.agg (X.af ρ ((List.range 9).map fun k => .sc (.i .i64 (yR (3*a+b) k))))
  rw[X.l5,List.map_map]
  congr 1
  refine List.map_congr_left fun j O => ?_
  show AV.sc (.int .i64 (g j))=AV.sc (.int .i64 ((yR (3*a+b) j).I ρ))
  rw[afj j (List.mem_range.1 O)]
 refine⟨g,⟨fun f hf n hp => ?_,fun j => ?_,fun k kb=>if_pos kb⟩⟩
 ·rw[ed,e8]
  simp only[eK,List.mem_cons,List.not_mem_nil,or_false]at hf
  rcases hf with rfl | rfl
  ·exact r1.2 n hp
  ·exact r2.2 n hp
 ·show(0:Int)<=g j/\g j<=1099511627776
  by_cases O:j<9
  ·have A:=q3 j O
   have:g j=v5 ((kP 0).I ρ) j:=if_pos O
   rw[this]
   unfold v5
   rw[xo j O]
   show(0:Int)<=max (max 0 (ρ.i (9+j))) (if ρ.i 0*3+ρ.i 1=j then ρ.i 2 else 0)/\max (max 0 (ρ.i (9+j))) (if ρ.i 0*3+ρ.i 1=j then ρ.i 2 else 0)<=1099511627776
   split<;>omega
  ·have:g j=0:=if_neg O
   omega
theorem l8 {ρ:aa} {k:Nat} {a:AL} (h:(BE.eq (.uf k 0 a) (.lit 1)).I ρ=true):UF k (a.I ρ) 0=1:=by simpa [BE.I,U.I]using h
theorem YT (f:Nat) (hf:f∈eK 3):c4 Tryz.prog (PS f):=⟨pd f (by simp only[eK,List.mem_cons,List.not_mem_nil,or_false]at hf;rcases hf with rfl | rfl<;>decide),fun ρ n h hp=>by
 obtain⟨g,Z⟩:=aac (l8 hp)
 exact(iz Z).qp f hf n h⟩
def my (_:Int):J:=hg 1 0 2++(hg 2 0 3++[])
def mf:J:=hg 1 0 3++[]
theorem ai4:pG (my 0) 1 (-16384) 16384 (aM (cU []) 36 [xn 0,xi 1,xi 2] (my 0)) (aM (cU []) 108 [xn 0,xi 1,xi 2] (my 0))=true:=by kernel_rfl
theorem ai5:pG (my 0) 1 (-16384) 16384 (aM (cU []) 36 [xn 1,xi 1,xi 2] (my 0)) (aM (cU []) 108 [xn 1,xi 1,xi 2] (my 0))=true:=by kernel_rfl
theorem ai6:pG (my 0) 1 (-16384) 16384 (aM (cU []) 36 [xn 2,xi 1,xi 2] (my 0)) (aM (cU []) 108 [xn 2,xi 1,xi 2] (my 0))=true:=by kernel_rfl
theorem agk:pG mf 1 (-16384) 16384 (aM (cU []) 34 [xn 0,xi 1] mf) (aM (cU []) 110 [xn 0,xi 1] mf)=true:=by kernel_rfl
theorem agl:pG mf 1 (-16384) 16384 (aM (cU []) 34 [xn 1,xi 1] mf) (aM (cU []) 110 [xn 1,xi 1] mf)=true:=by kernel_rfl
theorem agm:pG mf 1 (-16384) 16384 (aM (cU []) 34 [xn 2,xi 1] mf) (aM (cU []) 110 [xn 2,xi 1] mf)=true:=by kernel_rfl
theorem as5 {ρ:aa} (h0:0<=ρ.i 0/\ρ.i 0<=2) (A:0<=ρ.i 1/\ρ.i 1<=2) (E:0<=ρ.i 2/\ρ.i 2<=3):∃g,jR 4 ((fA 0 3 .nil).I ρ) g:=by
 have u:J.ok ρ (my 0):=h_ A (h_ E (J.bt ρ))
 have go:∀d:Int,ρ.i 0=d->pG (my 0) 1 (-16384) 16384 (aM (cU []) 36 [xn d,xi 1,xi 2] (my 0)) (aM (cU []) 108 [xn d,xi 1,xi 2] (my 0))=true->∃g,jR 4 ((fA 0 3 .nil).I ρ) g:=fun d hd hr=>by
  obtain⟨l,_,A,E,h3⟩:=Xj (List.forall_mem_nil _) (by decide) hr u
  have e:Dh 4 ((fA 0 3 .nil).I ρ)=X.af ρ [xn d,xi 1,xi 2]:=by rw[<-hd];rfl
  refine⟨mU ρ (-16384) l,⟨fun f hf n h => ?_,h3,trivial⟩⟩
  rw[e]
  simp only[eK,List.mem_cons,List.not_mem_nil,or_false]at hf
  rcases hf with rfl | rfl
  ·exact A.2 n h
  ·exact E.2 n h
 rcases(show ρ.i 0=0\/ρ.i 0=1\/ρ.i 0=2 by omega)with h | h | h
 ·exact go 0 h ai4
 ·exact go 1 h ai5
 ·exact go 2 h ai6
theorem as6 {ρ:aa} (h0:0<=ρ.i 0/\ρ.i 0<=2) (A:0<=ρ.i 1/\ρ.i 1<=3):∃g,jR 5 ((fA 0 2 .nil).I ρ) g:=by
 have u:J.ok ρ mf:=h_ A (J.bt ρ)
 have go:∀d:Int,ρ.i 0=d->pG mf 1 (-16384) 16384 (aM (cU []) 34 [xn d,xi 1] mf) (aM (cU []) 110 [xn d,xi 1] mf)=true->∃g,jR 5 ((fA 0 2 .nil).I ρ) g:=fun d hd hr=>by
  obtain⟨l,_,A,E,h3⟩:=Xj (List.forall_mem_nil _) (by decide) hr u
  have e:Dh 5 ((fA 0 2 .nil).I ρ)=X.af ρ [xn d,xi 1]:=by rw[<-hd];rfl
  refine⟨mU ρ (-16384) l,⟨fun f hf n h => ?_,h3,trivial⟩⟩
  rw[e]
  simp only[eK,List.mem_cons,List.not_mem_nil,or_false]at hf
  rcases hf with rfl | rfl
  ·exact A.2 n h
  ·exact E.2 n h
 rcases(show ρ.i 0=0\/ρ.i 0=1\/ρ.i 0=2 by omega)with h | h | h
 ·exact go 0 h agk
 ·exact go 1 h agl
 ·exact go 2 h agm
theorem ll {ρ:aa} {a b:BE} (h:(BE.and a b).I ρ=true):a.I ρ=true/\b.I ρ=true:=by
 have h:(a.I ρ&&b.I ρ)=true:=h
 simpa using h
theorem YR (f:Nat) (hf:f∈eK 4):c4 Tryz.prog (PQ f):=⟨pd f (by simp only[eK,List.mem_cons,List.not_mem_nil,or_false]at hf;rcases hf with rfl | rfl<;>decide),fun ρ n h hp=>by
 obtain⟨A,E⟩:=ll hp
 obtain⟨E,h3⟩:=ll E
 obtain⟨g,Z⟩:=as5 (km A) (km E) (km h3)
 exact(iz Z).qp f hf n h⟩
theorem YO (f:Nat) (hf:f∈eK 5):c4 Tryz.prog (PM f):=⟨pd f (by simp only[eK,List.mem_cons,List.not_mem_nil,or_false]at hf;rcases hf with rfl | rfl<;>decide),fun ρ n h hp=>by
 obtain⟨A,E⟩:=ll hp
 obtain⟨g,Z⟩:=as6 (km A) (km E)
 exact(iz Z).qp f hf n h⟩
end Go.Proofs.YtpdfmnhgocpkcaaGreat
namespace Go.Proofs.YtpdfmnhgocpkcaaGreat
open Go Go.Proofs.Aw Go.Proofs.Xw
set_option maxRecDepth 100000
def xA:List X:=[tf 0 1,tf 2 3]
def AI:J:=hg 0 (-16384) 16384++(hg 1 (-16384) 16384++(hg 2 (-16384) 16384++(hg 3 (-16384) 16384++[])))
def E5:U:=(.op .add .i64 (.op .mul .i64 aaC aaC) (.op .mul .i64 aaD aaD))
def E4:U:=(.op .add .i64 (.op .mul .i64 aaE aaE) (.op .mul .i64 aaF aaF))
theorem aeQ:iw (aM (cU []) 35 xA AI) (.ret (.sc (.i .i64 E5)))=true:=by kernel_rfl
theorem aeP:iw (aM (cU []) 135 xA AI) (.ret (.sc (.i .i64 E4)))=true:=by kernel_rfl
theorem p8 {t:T X} {x:X} (h:iw t (.ret x)=true):t = .ret x:=by
 cases t with
 | ret y=>exact congrArg T.ret (X.beq_eq _ _ h)
 | br _ _ _=>cases h
 | cL _ _=>cases h
 | fail _=>cases h
theorem Zb {x:Int} (A : -32768<=x) (E:x<=32768):0<=x*x/\x*x<=1073741824:=by
 have e:x*x=(x.natAbs:Int)*x.natAbs:=by rw[<-Int.natAbs_mul_self' x]
 have h:x.natAbs*x.natAbs<=32768*32768:=Nat.mul_le_mul (by omega) (by omega)
 rw[e]
 generalize x.natAbs=n at h
 constructor
 ·exact Int.mul_nonneg (by omega) (by omega)
 ·have:((n*n:Nat):Int)<=1073741824:=by omega
  rwa[Int.natCast_mul]at this
def xB (ρ:aa):Int:=(ρ.i 0-ρ.i 2)*(ρ.i 0-ρ.i 2)+(ρ.i 1-ρ.i 3)*(ρ.i 1-ρ.i 3)
theorem aeO {ρ:aa} (h:∀k,k<4 -> -16384<=ρ.i k/\ρ.i k<=16384):E5.I ρ=xB ρ/\E4.I ρ=xB ρ/\0<=xB ρ/\xB ρ<=2147483648:=by
 have h0:=h 0 (by omega);have A:=h 1 (by omega);have E:=h 2 (by omega);have h3:=h 3 (by omega)
 have e1:E5.I ρ=IntKind.i64.wrap (IntKind.i64.wrap ((ρ.i 0-ρ.i 2)*(ρ.i 0-ρ.i 2))+IntKind.i64.wrap ((ρ.i 1-ρ.i 3)*(ρ.i 1-ρ.i 3))):=rfl
 have e2:E4.I ρ=IntKind.i64.wrap (IntKind.i64.wrap (IntKind.i64.wrap (ρ.i 0-ρ.i 2)*IntKind.i64.wrap (ρ.i 0-ρ.i 2))+IntKind.i64.wrap (IntKind.i64.wrap (ρ.i 1-ρ.i 3)*IntKind.i64.wrap (ρ.i 1-ρ.i 3))):=rfl
 rw[e1,e2,ca (ρ.i 0-ρ.i 2) (by omega) (by omega),ca (ρ.i 1-ρ.i 3) (by omega) (by omega)]
 have a:=Zb (x:=ρ.i 0-ρ.i 2) (by omega) (by omega)
 have b:=Zb (x:=ρ.i 1-ρ.i 3) (by omega) (by omega)
 unfold xB
 generalize (ρ.i 0-ρ.i 2)*(ρ.i 0-ρ.i 2)=p at a ⊢
 generalize (ρ.i 1-ρ.i 3)*(ρ.i 1-ρ.i 3)=q at b ⊢
 rw[ca p (by omega) (by omega),ca q (by omega) (by omega),ca _ (by omega) (by omega)]
 omega
theorem aad {ρ:aa} (h:∀k,k<4 -> -16384<=ρ.i k/\ρ.i k<=16384):∃g,jR 6 ((fA 0 4 .nil).I ρ) g:=by
 have u:J.ok ρ AI:=h_ (h 0 (by omega)) (h_ (h 1 (by omega)) (h_ (h 2 (by omega)) (h_ (h 3 (by omega)) (J.bt ρ))))
 obtain⟨d1,d2,adV,d4⟩:=aeO h
 have q1:=ec (jX ρ) (List.forall_mem_nil _) u (show(aM (cU []) 35 xA AI).aq ρ=some _ by rw[p8 aeQ];rfl)
 have q2:=ec (jX ρ) (List.forall_mem_nil _) u (show(aM (cU []) 135 xA AI).aq ρ=some _ by rw[p8 aeP];rfl)
 have q1:Cy 35 (X.af ρ xA) (.sc (.int .i64 (E5.I ρ))):=q1
 have q2:Cy 135 (X.af ρ xA) (.sc (.int .i64 (E4.I ρ))):=q2
 rw[d1]at q1
 rw[d2]at q2
 refine⟨fun _=>xB ρ,⟨fun f hf n hp => ?_,fun j => ?_,rfl⟩⟩
 ·simp only[eK,List.mem_cons,List.not_mem_nil,or_false]at hf
  rcases hf with rfl | rfl
  ·exact q1.2 n hp
  ·exact q2.2 n hp
 ·simp only[jf];omega
theorem H4 (f:Nat) (hf:f∈eK 6):c4 Tryz.prog (CN f):=⟨pd f (by simp only[eK,List.mem_cons,List.not_mem_nil,or_false]at hf;rcases hf with rfl | rfl<;>decide),fun ρ n h hp=>by
 obtain⟨h0,A⟩:=ll hp
 obtain⟨A,E⟩:=ll A
 obtain⟨E,h3⟩:=ll E
 obtain⟨g,Z⟩:=aad (ρ:=ρ) fun k u=>by
  rcases(show k=0\/k=1\/k=2\/k=3 by omega)with rfl | rfl | rfl | rfl
  ·exact km h0
  ·exact km A
  ·exact km E
  ·exact km h3
 exact(iz Z).qp f hf n h⟩
def CS:List Sm:=[CN 35,CN 135]
theorem Y_:∀s∈CS,c4 Tryz.prog s:=List.forall_mem_cons.2 ⟨H4 35 (by decide),List.forall_mem_cons.2 ⟨H4 135 (by decide),List.forall_mem_nil _⟩⟩
def q0 (n:Nat):List X:=[tf 0 1,.ro 1 ((List.range n).map fun k=>[tf (2*k+2) (2*k+3)]) false]
def vH:Nat->J
 | 0=>[]
 | n+1=>hg n (-16384) 16384++vH n
theorem WB {ρ:aa}:∀{n:Nat},(∀k,k<n -> -16384<=ρ.i k/\ρ.i k<=16384)->J.ok ρ (vH n)
 | 0,_=>J.bt ρ
 | n+1,h=>h_ (h n (by omega)) (WB fun k u=>h k (by omega))
def jr (j:Nat):U := .uf 6 0 (.i (.var 0) (.i (.var 1) (.i (.var (2*j+2)) (.i (.var (2*j+3)) .nil))))
noncomputable def qY (n:Nat):Nat->Nat->Nat->J->Bool
 | 0,_,m,B=>iw (aM (cU CS) 92 (q0 n) B) (.ret (xn m))&&iw (aM (cU CS) 109 (q0 n) B) (.ret (xn m))
 | r+1,j,m,B=>qY n r (j+1) j ((.lt (jr j) (jr m),true)::B)&&qY n r (j+1) m ((.lt (jr j) (jr m),false)::B)
theorem yG {ρ:aa} {n:Nat}:∀(r j m:Nat) (B:J),qY n r j m B=true->J.ok ρ B->m<j->(∀k,k<j->(jr m).I ρ<=(jr k).I ρ) ->
  ∃m':Nat,m'<j+r/\Cy 92 (X.af ρ (q0 n)) (.sc (.int .i64 m'))/\Cy 109 (X.af ρ (q0 n)) (.sc (.int .i64 m'))/\∀k,k<j+r->(jr m').I ρ<=(jr k).I ρ
 | 0,j,m,B,h,u,hm,hd=>by
  simp only[qY,Bool.and_eq_true]at h
  have e1:=p8 h.1
  have e2:=p8 h.2
  have q1:=ec (jX ρ) Y_ u (show(aM (cU CS) 92 (q0 n) B).aq ρ=some (xn m)by rw[e1];rfl)
  have q2:=ec (jX ρ) Y_ u (show(aM (cU CS) 109 (q0 n) B).aq ρ=some (xn m)by rw[e2];rfl)
  exact⟨m,hm,q1,q2,hd⟩
 | r+1,j,m,B,h,u,hm,hd=>by
  simp only[qY,Bool.and_eq_true]at h
  have e:j+(r+1)=j+1+r:=by omega
  rw[e]
  by_cases H:(jr j).I ρ<(jr m).I ρ
  ·refine yG r (j+1) j _ h.1 (J.av (mr H) u) (by omega) fun k aO => ?_
   by_cases O:k=j
   ·rw[O];exact Int.le_refl _
   ·have:=hd k (by omega);omega
  ·refine yG r (j+1) m _ h.2 (J.av (b_ H) u) (by omega) fun k aO => ?_
   by_cases O:k=j
   ·rw[O];omega
   ·exact hd k (by omega)
theorem mn1:qY 1 0 1 0 (vH 4)=true:=by kernel_rfl
theorem mn2:qY 2 1 1 0 (vH 6)=true:=by kernel_rfl
theorem mn3:qY 3 2 1 0 (vH 8)=true:=by kernel_rfl
theorem mn4:qY 4 3 1 0 (vH 10)=true:=by kernel_rfl
theorem Js (ρ:aa) {n:Nat} (hn:n=1\/n=2\/n=3\/n=4):((fA 0 (2*n+2) .nil).I ρ).length=2*n+2:=by
 rcases hn with rfl | rfl | rfl | rfl<;>rfl
theorem D5 (ρ:aa) {n:Nat} (hn:n=1\/n=2\/n=3\/n=4) {i:Nat} (hi:i<2*n+2):vI ((fA 0 (2*n+2) .nil).I ρ) i=ρ.i i:=by
 have h:i=0\/i=1\/i=2\/i=3\/i=4\/i=5\/i=6\/i=7\/i=8\/i=9:=by omega
 rcases hn with rfl | rfl | rfl | rfl<;>rcases h with rfl | rfl | rfl | rfl | rfl | rfl | rfl | rfl | rfl | rfl<;>first | rfl | omega
theorem WC (ρ:aa) {n:Nat} (hn:n=1\/n=2\/n=3\/n=4):X.af ρ (q0 n)=Dh 8 ((fA 0 (2*n+2) .nil).I ρ):=by
 rcases hn with rfl | rfl | rfl | rfl<;>kernel_rfl
theorem adY {ρ:aa} {n j:Nat} (O:j<n) (h:∀k,k<2*n+2 -> -16384<=ρ.i k/\ρ.i k<=16384):(jr j).I ρ=(ρ.i 0-ρ.i (2*j+2))*(ρ.i 0-ρ.i (2*j+2))+(ρ.i 1-ρ.i (2*j+3))*(ρ.i 1-ρ.i (2*j+3)):=by
 let F:aa:={ ρ with i:=fun k=>if k=2 then ρ.i (2*j+2)else if k=3 then ρ.i (2*j+3)else ρ.i k }
 obtain⟨g,Z⟩:=aad (ρ:=F) fun k u=>by
  rcases(show k=0\/k=1\/k=2\/k=3 by omega)with rfl | rfl | rfl | rfl
  ·exact h 0 (by omega)
  ·exact h 1 (by omega)
  ·exact h (2*j+2) (by omega)
  ·exact h (2*j+3) (by omega)
 exact(iz Z).tg
theorem aae {ρ:aa} {n:Nat} (hn:n=1\/n=2\/n=3\/n=4) (h:∀k,k<2*n+2 -> -16384<=ρ.i k/\ρ.i k<=16384):∃g,jR 8 ((fA 0 (2*n+2) .nil).I ρ) g:=by
 have u:J.ok ρ (vH (2*n+2)):=WB h
 have key:∃m':Nat,m'<n/\Cy 92 (X.af ρ (q0 n)) (.sc (.int .i64 m'))/\Cy 109 (X.af ρ (q0 n)) (.sc (.int .i64 m'))/\∀k,k<n->(jr m').I ρ<=(jr k).I ρ:=by
  have z:∀k,k<1->(jr 0).I ρ<=(jr k).I ρ:=fun k u=>by
   obtain rfl:k=0:=by omega
   exact Int.le_refl _
  rcases hn with rfl | rfl | rfl | rfl
  ·exact yG 0 1 0 _ mn1 u (by omega) z
  ·exact yG 1 1 0 _ mn2 u (by omega) z
  ·exact yG 2 1 0 _ mn3 u (by omega) z
  ·exact yG 3 1 0 _ mn4 u (by omega) z
 obtain⟨m,hm,A,E,h3⟩:=key
 rw[WC ρ hn]at A E
 have SS:∀k,k<n->dst ((fA 0 (2*n+2) .nil).I ρ) 0 (2*k+2)=(jr k).I ρ:=fun k u=>by
  unfold dst
  rw[adY u h,D5 ρ hn (i:=0) (by omega),D5 ρ hn (i:=0+1) (by omega),D5 ρ hn (i:=2*k+2) (by omega),D5 ρ hn (i:=2*k+2+1) (by omega)]
 have M:((fA 0 (2*n+2) .nil).I ρ).length / 2-1=n:=by rw[Js ρ hn];omega
 refine⟨fun _=>m,⟨fun f hf n hp => ?_,fun j => ?_,?_⟩⟩
 ·simp only[eK,List.mem_cons,List.not_mem_nil,or_false]at hf
  rcases hf with rfl | rfl
  ·exact A.2 n hp
  ·exact E.2 n hp
 ·simp only[jf];omega
 ·refine⟨show(m:Int)<_ by rw[show((((fA 0 (2*n+2) .nil).I ρ).length:Int) / 2-1)=n by rw[Js ρ hn];omega];omega,fun k u => ?_⟩
  rw[M]at u
  have e:((m:Int)).toNat=m:=Int.toNat_natCast m
  simp only[e]
  rw[SS m hm,SS k u]
  exact h3 k u
theorem aok {ρ:aa} {n:Nat} (h:(Xz n).I ρ=true):∀k,k<2*n+2 -> -16384<=ρ.i k/\ρ.i k<=16384:=by
 have go:∀(l:List Nat),(l.foldr (fun k b=>BE.and (iW (.var k) (-16384) 16384) b) (.lit true)).I ρ=true->∀k∈l,-16384<=ρ.i k/\ρ.i k<=16384:=fun l=>by
  induction l with
  | nil=>intro _ k u;cases u
  | cons a l ih =>
   intro M k u
   obtain⟨g1,g2⟩:=ll M
   rcases List.mem_cons.1 u with rfl | u
   ·exact km g1
   ·exact ih g2 k u
 exact fun k u=>go _ h k (List.mem_range.2 u)
theorem tH (f n:Nat) (hf:f∈eK 8) (hn:n=1\/n=2\/n=3\/n=4):c4 Tryz.prog (PO f n):=⟨pd f (by simp only[eK,List.mem_cons,List.not_mem_nil,or_false]at hf;rcases hf with rfl | rfl<;>decide),fun ρ m h hp=>by
 obtain⟨g,Z⟩:=aae hn (aok hp)
 have:=(iz Z).qp f hf m h
 rw[<-WC ρ hn]at this
 exact this⟩
def Ii:List Sm:=[CO 97,CO 105]
theorem Y':∀s∈Ii,c4 Tryz.prog s:=List.forall_mem_cons.2 ⟨H7 97 (by decide),List.forall_mem_cons.2 ⟨H7 105 (by decide),List.forall_mem_nil _⟩⟩
def Jt (n:Int) (j:Bool):AL := .i (.var 0) (.i (.lit n) (fA 2 8 (.b (.lit j) (.i (.var 11) (.i (.var 12) .nil)))))
theorem acv (ρ:aa):(h9 0).I ρ=(Jt (ρ.i 1) (ρ.b 10)).I ρ:=rfl
def PH (n:Nat) (j:Bool):J:=[(.eq (.uf 1 0 (Jt n j)) (.lit 1),true)]
def Yw:J:=[(.eq (.uf 1 0 (h9 0)) (.lit 1),false)]
noncomputable def ry (f n:Nat) (j:Bool) (k:Nat):Bool:=iw (aM (cU Ii) f (fj n j) (PH n j)) (.ret (xi k))
noncomputable def runN (f:Nat):Bool:=iw (aM (cU Ii) f [.agg (iE 0)] Yw) (.ret (xn (-1)))
noncomputable def wV (f:Nat) (k:Nat->Nat):Bool:=runN f&&(ry f 1 false (k 1)&&(ry f 1 true (k 1)&&(ry f 2 false (k 2)&&(ry f 2 true (k 2)&&(ry f 3 false (k 3)&&(ry f 3 true (k 3)&&(ry f 4 false (k 4)&&ry f 4 true (k 4))))))))
theorem D6 {f:Nat} {k:Nat->Nat} (h:wV f k=true) (ρ:aa):Cy f (X.af ρ [.agg (iE 0)]) (.sc (.int .i64 (if UF 1 ((h9 0).I ρ) 0=1 then ρ.i (k (ρ.i 1).toNat)else -1))):=by
 simp only[wV,Bool.and_eq_true]at h
 obtain⟨h0,A,E,h3,h4,h5,h6,h7,un⟩:=h
 by_cases hr:UF 1 ((h9 0).I ρ) 0=1
 ·rw[if_pos hr]
  obtain⟨g,Z⟩:=IK ρ
  obtain⟨b1,b2,_⟩:=(iz Z).tg hr
  have b1:1<=ρ.i 1:=b1
  have b2:ρ.i 1<=4:=b2
  have go:∀(n:Nat) (j:Bool),ρ.i 1=n->ρ.b 10=j->ry f n j (k n)=true->Cy f (X.af ρ [.agg (iE 0)]) (.sc (.int .i64 (ρ.i (k (ρ.i 1).toNat)))):=fun n j hn O H=>by
   have e:=p8 H
   have u:J.ok ρ (PH n j):=J.av (by
    have:UF 1 ((Jt n j).I ρ) 0=1:=by rw[<-hr,acv,hn,O]
    simpa [BE.I,U.I]using this) (J.bt ρ)
   have q:=ec (jX ρ) Y' u (show(aM (cU Ii) f (fj n j) (PH n j)).aq ρ=some _ by rw[e];rfl)
   have ed:X.af ρ [.agg (iE 0)]=X.af ρ (fj n j):=by rw[Sk,hn,O];rfl
   rw[ed,hn]
   exact q
  have hn:ρ.i 1=1\/ρ.i 1=2\/ρ.i 1=3\/ρ.i 1=4:=by omega
  cases O:ρ.b 10<;>rcases hn with hn | hn | hn | hn
  ·exact go 1 false hn O A
  ·exact go 2 false hn O h3
  ·exact go 3 false hn O h5
  ·exact go 4 false hn O h7
  ·exact go 1 true hn O E
  ·exact go 2 true hn O h4
  ·exact go 3 true hn O h6
  ·exact go 4 true hn O un
 ·rw[if_neg hr]
  have e:=p8 h0
  have u:J.ok ρ Yw:=J.av (by simpa [BE.I,U.I]using hr) (J.bt ρ)
  exact ec (jX ρ) Y' u (by rw[e];rfl)
theorem ahC:wV 94 (fun n=>2*n)=true:=by kernel_rfl
theorem ahB:wV 107 (fun n=>2*n)=true:=by kernel_rfl
theorem afR:wV 27 (fun _=>2)=true:=by kernel_rfl
theorem afS:wV 77 (fun _=>2)=true:=by kernel_rfl
theorem as7 (ρ:aa):∃g,jR 7 ((h9 0).I ρ) g:=by
 refine⟨fun _=>if UF 1 ((h9 0).I ρ) 0=1 then ρ.i (2*(ρ.i 1).toNat)else -1,⟨fun f hf n hp => ?_,fun j => ?_,trivial⟩⟩
 ·simp only[eK,List.mem_cons,List.not_mem_nil,or_false]at hf
  rcases hf with rfl | rfl
  ·exact(D6 ahC ρ).2 n hp
  ·exact(D6 ahB ρ).2 n hp
 ·simp only[jf]
  split
  ·rename_i hr
   obtain⟨g,Z⟩:=IK ρ
   obtain⟨b1,b2,dr⟩:=(iz Z).tg hr
   have b1:1<=ρ.i 1:=b1
   have b2:ρ.i 1<=4:=b2
   have fg:=dr ((ρ.i 1).toNat-1) (by show(((ρ.i 1).toNat-1:Nat):Int)<ρ.i 1;omega)
   have e:2+2*((ρ.i 1).toNat-1)=2*(ρ.i 1).toNat:=by omega
   rw[e]at fg
   have q:vI ((h9 0).I ρ) (2*(ρ.i 1).toNat)=ρ.i (2*(ρ.i 1).toNat):=by
    have:ρ.i 1=1\/ρ.i 1=2\/ρ.i 1=3\/ρ.i 1=4:=by omega
    rcases this with h | h | h | h<;>rw[h]<;>rfl
   rw[q]at fg
   omega
  ·omega
theorem YP (f:Nat) (hf:f∈eK 7):c4 Tryz.prog (PN f):=⟨pd f (by simp only[eK,List.mem_cons,List.not_mem_nil,or_false]at hf;rcases hf with rfl | rfl<;>decide),fun ρ n h _=>by
 obtain⟨g,Z⟩:=as7 ρ
 exact(iz Z).qp f hf n h⟩
theorem YN (f:Nat) (hf:f∈[27,77]):c4 Tryz.prog (H5 f):=⟨pd f (by simp only[List.mem_cons,List.not_mem_nil,or_false]at hf;rcases hf with rfl | rfl<;>decide),fun ρ n h _=>by
 have e:X.I ρ (H5 f).r = .sc (.int .i64 (if UF 1 ((h9 0).I ρ) 0=1 then ρ.i 2 else -1)):=by
  show AV.sc (.int .i64 ((U.ite (.eq (.uf 1 0 (h9 0)) (.lit 1)) (.var 2) (.lit (-1))).I ρ))=_
  by_cases hr:UF 1 ((h9 0).I ρ) 0=1
  ·rw[if_pos hr,BK (by simpa [BE.I,U.I]using hr)];rfl
  ·rw[if_neg hr,FZ (by simpa [BE.I,U.I]using hr)];rfl
 rw[e]
 simp only[List.mem_cons,List.not_mem_nil,or_false]at hf
 rcases hf with rfl | rfl
 ·exact(D6 afR ρ).2 n h
 ·exact(D6 afS ρ).2 n h⟩
end Go.Proofs.YtpdfmnhgocpkcaaGreat
namespace Go.Proofs.YtpdfmnhgocpkcaaGreat
open Go Go.Proofs.Aw Go.Proofs.Xw
def ym:X := .sc (.s (.var 0))
noncomputable def wB:Code:=(dP (Tryz.f68.body.getD .skip))[0]?.getD .skip
def aal:XS:=⟨aaI,[],5⟩
def ats:J:=[(.lt (.var 100) (.lit 0),false)]
def lK:Bind:=⟨[(100,aaJ),(101,aaK)],[],[],[]⟩
def jg:Bind:=⟨[(100,(.lit 0)),(101,(.lit 14695981039346656037))],[],[],[]⟩
def IL:T (XE×XS):=(.br aaM (.ret (.normal,⟨[(9,(.sc (.i .i64 aaJ))),(8,aaG),(7,zI),(3,(.sc (.i .u64 aaK))),(2,aaH),(0,zI)],[],18⟩)) (.ret ((.exit 0),⟨aaI,[],6⟩)))
noncomputable def wP:bj:=⟨((dt wB).getD 0),0,100,aal,jg,[],IL.outs⟩
theorem atq:(ck (bd ([]) (fun _=>[])).ti (eD ⟨(bd ([]) (fun _=>[])),[],[]⟩ 12) (((bd ([]) (fun _=>[])).hv 68).elim [] (·.ms)) wP.k0 ((fun _=>[]) 68) 1000 wB ats wP.S).map (dV (aal.t.map (·.1)))=IL:=by kernel_rfl
theorem atl:IL.gA (ff wP.k0 wP.n lK [] wP.S)=true:=by kernel_rfl
theorem atm:IL.outs.lT 102=true:=by kernel_rfl
theorem ato:jg.ar 100=true:=by kernel_rfl
theorem QR:jg.ge 100=true:=by kernel_rfl
theorem QQ:lK.ge 100=true:=by kernel_rfl
theorem atr:jg.same lK=true:=by kernel_rfl
theorem atn:da Tryz.f68.ntmps wB=true:=by kernel_rfl
noncomputable def wC:Code:=(dP (Tryz.f145.body.getD .skip))[0]?.getD .skip
def aam:XS:=⟨aaN,[],4⟩
def atA:J:=[(.lt (.var 140) (.lit 0),false)]
def lL:Bind:=⟨[(140,aaO),(141,aaP)],[],[],[]⟩
def jh:Bind:=⟨[(140,(.lit 0)),(141,(.lit 14695981039346656037))],[],[],[]⟩
def IM:T (XE×XS):=(.br aaQ (.ret (.normal,⟨[(5,(.sc (.i .i64 aaO))),(4,(.sc (.i .u64 aaP))),(3,I9),(2,I9),(0,zI)],[],19⟩)) (.ret ((.exit 0),⟨aaN,[],8⟩)))
noncomputable def wQ:bj:=⟨((dt wC).getD 0),0,140,aam,jh,[],IM.outs⟩
theorem aty:(ck (bd ([]) (fun _=>[])).ti (eD ⟨(bd ([]) (fun _=>[])),[],[]⟩ 12) (((bd ([]) (fun _=>[])).hv 145).elim [] (·.ms)) wQ.k0 ((fun _=>[]) 145) 1000 wC atA wQ.S).map (dV (aam.t.map (·.1)))=IM:=by kernel_rfl
theorem att:IM.gA (ff wQ.k0 wQ.n lL [] wQ.S)=true:=by kernel_rfl
theorem atu:IM.outs.lT 142=true:=by kernel_rfl
theorem atw:jh.ar 140=true:=by kernel_rfl
theorem QT:jh.ge 140=true:=by kernel_rfl
theorem QS:lL.ge 140=true:=by kernel_rfl
theorem atz:jh.same lL=true:=by kernel_rfl
theorem atv:da Tryz.f145.ntmps wC=true:=by kernel_rfl
end Go.Proofs.YtpdfmnhgocpkcaaGreat
namespace Go.Proofs.YtpdfmnhgocpkcaaGreat
open Go Go.Proofs.Aw Go.Proofs.Xw
set_option maxRecDepth 100000
noncomputable def Gm (f:Nat):List bj:=if Nat.beq f 68=true then [wP]else []
theorem ah2:vW [wP] [0] 0 (dP (Tryz.f68.body.getD .skip))=true:=by kernel_rfl
theorem ah1 {ρ:aa} (LS:bY Tryz.prog ρ Tryz.f68.ntmps wB wP):a1 Tryz.prog ρ Tryz.f68.ntmps [wP] (Tryz.f68.body.getD .skip) :=
 kv [0] ah2 (List.forall_mem_cons.2 ⟨V1 (c:=wB) (Ls:=[wP]) (by kernel_rfl) (List.forall_mem_cons.2 ⟨LS,List.forall_mem_nil _⟩),List.forall_mem_nil _⟩)
theorem ah3 {ρ:aa} (LS:bY Tryz.prog ρ Tryz.f68.ntmps wB wP):∀f i,eC f gb=some i->a1 Tryz.prog ρ i.ntmps (Gm f) i.body:=by
 intro f i h
 have hi:=mS (f,i) (jW _ _ (jV h))
 unfold Gm
 split
 ·rename_i hf
  have hf:=Nat.eq_of_beq_eq_true hf
  subst hf
  exact ou hi Tryz.func68 (ah1 LS)
 ·exact a1.nil _ _ _ _
noncomputable def Gn (f:Nat):List bj:=if Nat.beq f 145=true then [wQ]else []
theorem ah5:vW [wQ] [0] 0 (dP (Tryz.f145.body.getD .skip))=true:=by kernel_rfl
theorem ah4 {ρ:aa} (LT:bY Tryz.prog ρ Tryz.f145.ntmps wC wQ):a1 Tryz.prog ρ Tryz.f145.ntmps [wQ] (Tryz.f145.body.getD .skip) :=
 kv [0] ah5 (List.forall_mem_cons.2 ⟨V1 (c:=wC) (Ls:=[wQ]) (by kernel_rfl) (List.forall_mem_cons.2 ⟨LT,List.forall_mem_nil _⟩),List.forall_mem_nil _⟩)
theorem ah6 {ρ:aa} (LT:bY Tryz.prog ρ Tryz.f145.ntmps wC wQ):∀f i,eC f gb=some i->a1 Tryz.prog ρ i.ntmps (Gn f) i.body:=by
 intro f i h
 have hi:=mS (f,i) (jW _ _ (jV h))
 unfold Gn
 split
 ·rename_i hf
  have hf:=Nat.eq_of_beq_eq_true hf
  subst hf
  exact ou hi Tryz.func145 (ah4 LT)
 ·exact a1.nil _ _ _ _
def O7:T X:=(.cL (.not aaM) (.ret (.sc (.c (.ite (.and (.eq (.op .cV .i64 (.op .and .u64 (.op .xor .u64 (.op .mul .u64 (.op .xor .u64 (.var 101) (.op .shr .u64 (.var 101) (.lit 32))) (.lit 11400714819323198485)) (.op .shr .u64 (.op .mul .u64 (.op .xor .u64 (.var 101) (.op .shr .u64 (.var 101) (.lit 32))) (.lit 11400714819323198485)) (.lit 29))) (.lit 1048575)) (.lit (-524288))) (.lit 0)) (.eq (.op .cV .i64 (.op .and .u64 (.op .shr .u64 (.op .xor .u64 (.op .mul .u64 (.op .xor .u64 (.var 101) (.op .shr .u64 (.var 101) (.lit 32))) (.lit 11400714819323198485)) (.op .shr .u64 (.op .mul .u64 (.op .xor .u64 (.var 101) (.op .shr .u64 (.var 101) (.lit 32))) (.lit 11400714819323198485)) (.lit 29))) (.lit 20)) (.lit 1048575)) (.lit (-524288))) (.lit 0))) (.lit 1) (.op .cV .i64 (.op .and .u64 (.op .xor .u64 (.op .mul .u64 (.op .xor .u64 (.var 101) (.op .shr .u64 (.var 101) (.lit 32))) (.lit 11400714819323198485)) (.op .shr .u64 (.op .mul .u64 (.op .xor .u64 (.var 101) (.op .shr .u64 (.var 101) (.lit 32))) (.lit 11400714819323198485)) (.lit 29))) (.lit 1048575)) (.lit (-524288)))) (.lit false) (.ite (.and (.eq (.op .cV .i64 (.op .and .u64 (.op .xor .u64 (.op .mul .u64 (.op .xor .u64 (.var 101) (.op .shr .u64 (.var 101) (.lit 32))) (.lit 11400714819323198485)) (.op .shr .u64 (.op .mul .u64 (.op .xor .u64 (.var 101) (.op .shr .u64 (.var 101) (.lit 32))) (.lit 11400714819323198485)) (.lit 29))) (.lit 1048575)) (.lit (-524288))) (.lit 0)) (.eq (.op .cV .i64 (.op .and .u64 (.op .shr .u64 (.op .xor .u64 (.op .mul .u64 (.op .xor .u64 (.var 101) (.op .shr .u64 (.var 101) (.lit 32))) (.lit 11400714819323198485)) (.op .shr .u64 (.op .mul .u64 (.op .xor .u64 (.var 101) (.op .shr .u64 (.var 101) (.lit 32))) (.lit 11400714819323198485)) (.lit 29))) (.lit 20)) (.lit 1048575)) (.lit (-524288))) (.lit 0))) (.lit 0) (.op .cV .i64 (.op .and .u64 (.op .shr .u64 (.op .xor .u64 (.op .mul .u64 (.op .xor .u64 (.var 101) (.op .shr .u64 (.var 101) (.lit 32))) (.lit 11400714819323198485)) (.op .shr .u64 (.op .mul .u64 (.op .xor .u64 (.var 101) (.op .shr .u64 (.var 101) (.lit 32))) (.lit 11400714819323198485)) (.lit 29))) (.lit 20)) (.lit 1048575)) (.lit (-524288)))) (.lit false)))))
theorem aoj:aM ⟨bd [] Gm,[],[]⟩ 68 ([ym]) []=O7:=by kernel_rfl
def PC:T X:=(.cL (.not aaQ) (.ret (.tup [(.sc (.i .i64 (.ite (.and (.eq aaT (.lit 0)) (.eq aaU (.lit 0))) (.lit 1) aaT))),(.sc (.i .i64 aaU))])))
theorem aqq:aM ⟨bd [] Gn,[],[]⟩ 145 ([ym]) []=PC:=by kernel_rfl
end Go.Proofs.YtpdfmnhgocpkcaaGreat
namespace Go.Proofs.Xw
open Go Go.Proofs.Aw
section
variable (ρ:aa)
theorem Kt (a b:U):((BE.lt a b).I ρ=true)=(a.I ρ<b.I ρ):=by simp[BE.I]
theorem mO (a b:U):((BE.lt a b).I ρ=false)=(b.I ρ<=a.I ρ):=by simp[BE.I]
theorem S4 (a b:U):((BE.eq a b).I ρ=true)=(a.I ρ=b.I ρ):=by simp[BE.I]
theorem sb (a b:U):((BE.eq a b).I ρ=false)=¬(a.I ρ=b.I ρ):=by simp[BE.I]
theorem S6 (a:BE):((BE.not a).I ρ=true)=(a.I ρ=false):=by simp[BE.I]
theorem SR (a b:BE):((BE.and a b).I ρ=false)=(a.I ρ=false\/b.I ρ=false):=by simp only[BE.I];cases BE.I ρ a<;>cases BE.I ρ b<;>simp
end
end Go.Proofs.Xw
