/- Parts of the proof, one behind the other. -/
import Derived.Test.YtpdfmnhgocpkcaaGreatTK5
import Derived.Test.YtpdfmnhgocpkcaaGreatTK6
import Derived.Test.YtpdfmnhgocpkcaaGreatXwK3
import Derived.Test.YtpdfmnhgocpkcaaGreatTK3
import Derived.Test.YtpdfmnhgocpkcaaGreatTK7
namespace Go.Proofs.YtpdfmnhgocpkcaaGreat
open Go Go.Proofs.Aw Go.Proofs.Xw
abbrev mM:U := .lit 1099511627776
abbrev aaS:BE := .or (.or (.not (.and (.and (.and (.not (.lt (.var 0) (.lit 0))) (.lt (.var 0) (.lit 3))) (.not (.lt (.var 1) (.lit 0)))) (.lt (.var 1) (.lit 3)))) (.lt (.var 2) (.lit 1))) (.lt mM (.var 2))
abbrev aaX:BE := .not (.and (.and (.and (.and (.and (.not (.lt (.var 3) (.lit 1))) (.not (.lt mM (.var 3)))) (.not (.lt (.var 4) (.lit 0)))) (.lt (.var 4) (.lit 3))) (.not (.lt (.var 5) (.lit 0)))) (.lt (.var 5) (.lit 3)))
abbrev aaY:BE := .or (.or (.or (.lt (.cm (.var 6)) (.lit 1)) (.lt (.lit 16) (.cm (.var 6)))) (.lt (.lit 32) (.cm (.var 7)))) (.and (.var 8) (.not (.seq (.var 7) (.lit ⟨#[]⟩))))
abbrev aaZ:BE := .or (.or (.or (.lt (.var 9) (.lit 0)) (.lt mM (.var 9))) (.or (.or (.lt (.var 10) (.lit 0)) (.lt mM (.var 10))) (.or (.lt (.var 11) (.lit 0)) (.lt mM (.var 11))))) (.or (.or (.or (.lt (.var 12) (.lit 0)) (.lt mM (.var 12))) (.or (.or (.lt (.var 13) (.lit 0)) (.lt mM (.var 13))) (.or (.lt (.var 14) (.lit 0)) (.lt mM (.var 14))))) (.or (.or (.lt (.var 15) (.lit 0)) (.lt mM (.var 15))) (.or (.or (.lt (.var 16) (.lit 0)) (.lt mM (.var 16))) (.or (.lt (.var 17) (.lit 0)) (.lt mM (.var 17))))))
abbrev Rs:BE := .eq (.var 0) (.lit 0)
abbrev Rt:BE := .eq (.var 1) (.lit 0)
abbrev Ru:BE := .eq (.var 1) (.lit 1)
abbrev Rv:BE := .eq (.var 0) (.lit 1)
abbrev aa0:BE := .eq (.ite (.and Rs Rt) (.var 9) (.ite (.and Rs Ru) (.var 10) (.ite Rs (.var 11) (.ite (.and Rv Rt) (.var 12) (.ite (.and Rv Ru) (.var 13) (.ite Rv (.var 14) (.ite Rt (.var 15) (.ite Ru (.var 16) (.var 17))))))))) (.op .sub .i64 (.var 2) (.lit 1))
abbrev aaT:U := .op .fT .i64 (.var 0) (.var 2)
abbrev aaU:U := .op .fT .i64 (.var 1) (.var 3)
abbrev aaV:U := .op .sub .i64 (.var 0) (.var 2)
abbrev aaW:U := .op .sub .i64 (.var 1) (.var 3)
set_option maxRecDepth 100000
def Tu:BE:=(.and (.not (.or aaS (.or (.or (.or aaX (.not (.eq (.var 4) (.var 0)))) (.not (.eq (.var 5) (.var 1)))) (.or aaY (.or aaZ (.not aa0)))))) (.and (.and (.and (.not (.lt (.var 18) (.lit 0))) (.lt (.var 18) (.lit 4))) (.not (.lt (.var 19) (.lit 1)))) (.not (.lt mM (.var 19)))))
theorem apd:aS (cU []) 28 [.agg (qQ 0)] [] = .ret (.sc (.b Tu)):=by kernel_rfl
def E2:BE:=(.and (.not (.or (.or (.or aaS aaX) (.not (.eq (.var 4) (.var 0)))) (.not (.eq (.var 5) (.var 1))))) (.and (.not aaY) (.and (.and (.and (.and (.and (.not aaZ) aa0) (.not (.lt (.var 18) (.lit 0)))) (.lt (.var 18) (.lit 4))) (.not (.lt (.var 19) (.lit 1)))) (.not (.lt mM (.var 19))))))
theorem apo:aS (cU []) 81 [.agg (qQ 0)] [] = .ret (.sc (.b E2)):=by kernel_rfl
theorem v_w (ρ:aa):(Tu).I ρ=(E2).I ρ:=ud (w:=false) (n:=300) (hs:=[]) (by kernel_rfl) ρ
def Sp:List BE:=[jb (.var 0) 0 2,jb (.var 1) 0 2,jb (.var 2) 1 1099511627776]++(List.range 9).map fun k=>jb (.var (9+k)) 0 1099511627776
theorem b_w (ρ:aa) (h:(E2).I ρ=true):∀c∈Sp,c.I ρ=true:=tf (hs:=[]) h (by kernel_rfl)
end Go.Proofs.YtpdfmnhgocpkcaaGreat
namespace Go.Proofs.YtpdfmnhgocpkcaaGreat
open Go Go.Proofs.Aw Go.Proofs.Xw
set_option maxRecDepth 100000
theorem kG {ρ:aa} {e:U} {lo hi:Int} (h:(jb e lo hi).I ρ=true):lo<=e.I ρ/\e.I ρ<=hi:=by
 have h:((!decide (e.I ρ<lo)) && !decide (hi<e.I ρ))=true:=h
 simp only[Bool.and_eq_true,Bool.not_eq_true',decide_eq_false_iff_not]at h
 omega
theorem aqi (ρ:aa):∃b:Bool,Cy 28 (X.af ρ [.agg (qQ 0)]) (.sc (.bool b))/\Cy 81 (X.af ρ [.agg (qQ 0)]) (.sc (.bool b))/\(b=true->∀c∈Sp,c.I ρ=true):=by
 have bp:=eG (kc ρ) (List.forall_mem_nil _) (J.bq ρ) (show(aS (cU []) 28 [.agg (qQ 0)] []).aq ρ=some _ by rw[apd];rfl)
 have bj:=eG (kc ρ) (List.forall_mem_nil _) (J.bq ρ) (show(aS (cU []) 81 [.agg (qQ 0)] []).aq ρ=some _ by rw[apo];rfl)
 refine⟨(E2).I ρ,?_,bj,b_w ρ⟩
 rw[<-v_w];exact bp
theorem QV (ρ:aa):∃g,j8 2 ((kZ 0).I ρ) g:=by
 obtain⟨b,A,E,h3⟩:=aqi ρ
 refine⟨fun _=>if b=true then 1 else 0,⟨fun f hf n h => ?_,fun j => ?_,fun Z => ?_⟩⟩
 ·have e:I3 2 (fun _=>if b=true then 1 else 0) = .sc (.bool b):=by cases b<;>rfl
  rw[e]
  simp only[eM,List.mem_cons,List.not_mem_nil,or_false]at hf
  rcases hf with rfl | rfl
  ·exact A.2 n h
  ·exact E.2 n h
 ·simp only[jn];split<;>omega
 ·have hb:b=true:=by cases b<;>simp_all
  have g:=h3 hb
  have q:∀k:Nat,k<9->vI ((kZ 0).I ρ) (9+k)=ρ.i (9+k):=fun k u=>by
   rcases(show k=0\/k=1\/k=2\/k=3\/k=4\/k=5\/k=6\/k=7\/k=8 by omega)with rfl | rfl | rfl | rfl | rfl | rfl | rfl | rfl | rfl<;>rfl
  refine⟨kG (g _ List.mem_cons_self),kG (g _ (List.mem_cons_of_mem _ List.mem_cons_self)),kG (g _ (List.mem_cons_of_mem _ (List.mem_cons_of_mem _ List.mem_cons_self))),fun k u => ?_⟩
  rw[q k u]
  exact kG (g _ (List.mem_append_right _ (List.mem_map.2 ⟨k,List.mem_range.2 u,rfl⟩)))
theorem Zf (f:Nat) (hf:f∈eM 2):c9 Tryz.prog (P7 f):=⟨px f (by simp only[eM,List.mem_cons,List.not_mem_nil,or_false]at hf;rcases hf with rfl | rfl<;>decide),fun ρ n h _=>by
 obtain⟨g,Z⟩:=QV ρ
 exact(gT Z).qK f hf n h⟩
def DM:X->Option (Nat×List U)
 | .sc (.i .i64 e)=>some (0,[e])
 | .sc (.c a (.lit false) b (.lit false))=>some (1,[a,b])
 | .agg [.sc (.i .i64 a),.sc (.i .i64 b),.sc (.i .i64 c),.sc (.i .i64 d),.sc (.i .i64 e),.sc (.i .i64 f),.sc (.i .i64 g),.sc (.i .i64 h),.sc (.i .i64 i)]=>some (2,[a,b,c,d,e,f,g,h,i])
 | _=>none
def Px (t:Nat) (g:Nat->Int):AV:=match t with
 | 0 => .sc (.int .i64 (g 0))
 | 1=>xr (g 0) (g 1)
 | _ => .agg ((List.range 9).map fun j => .sc (.int .i64 (g j)))
noncomputable def m7 (ρ:aa) (d:Int) (l:List U) (j:Nat):Int:=match l[j]? with
 | some e=>e.I ρ
 | none=>d
theorem aaD {ρ:aa} {x:X} {t:Nat} {l:List U} (h:DM x=some (t,l)) (d:Int):x.I ρ=Px t (m7 ρ d l):=by
 unfold DM at h
 split at h
 ·cases h;rfl
 ·cases h;rfl
 ·cases h;rfl
 ·cases h
def Is (B:J):List U->List U->Bool
 | [],[]=>true
 | a::l,b::m=>tg (fB B (.eq a b))&&Is B l m
 | _,_=>false
theorem Zh {ρ:aa} {B:J} (u:J.ok ρ B) (d:Int):∀{l m:List U},Is B l m=true->m7 ρ d l=m7 ρ d m
 | [],[],_=>rfl
 | a::l,b::m,h=>by
  simp only[Is,Bool.and_eq_true]at h
  have A:=xq u h.1
  simp only[BE.I,beq_iff_eq]at A
  have E:=Zh u d h.2
  funext j
  cases j with
  | zero=>exact A
  | succ j=>exact congrFun E j
 | [],_::_,h=>by cases h
 | _::_,[],h=>by cases h
def vJ (B:J) (lo hi:Int):U->Bool
 | .ite _ a b=>vJ B lo hi a&&vJ B lo hi b
 | .op .max _ a b=>vJ B lo hi a&&vJ B lo hi b
 | e=>tg (fB B (.not (.lt e (.lit lo))))&&tg (fB B (.not (.lt (.lit hi) e)))
theorem agZ {ρ:aa} {B:J} (u:J.ok ρ B) {lo hi:Int} (e:U):vJ B lo hi e=true->lo<=e.I ρ/\e.I ρ<=hi:=by
 fun_induction vJ B lo hi e with
 | case1 c a b es ex =>
  intro h
  rw[Bool.and_eq_true]at h
  cases H:c.I ρ with
  | true=>rw[B1 H];exact es h.1
  | false=>rw[Gh H];exact ex h.2
 | case2 k a b es ex =>
  intro h
  rw[Bool.and_eq_true]at h
  have A:=es h.1
  have E:=ex h.2
  show lo<=Max.max (a.I ρ) (b.I ρ)/\Max.max (a.I ρ) (b.I ρ)<=hi
  omega
 | case3 e n1 n2 =>
  intro h
  rw[Bool.and_eq_true]at h
  have A:¬e.I ρ<lo:=yC (xq u h.1)
  have E:¬hi<e.I ρ:=yC (xq u h.2)
  omega
def VI (B:J) (lo hi:Int) (l:List U):Bool:=l.all fun e=>vJ B lo hi e
theorem ag0 {ρ:aa} {B:J} (u:J.ok ρ B) {lo hi d:Int} (hd:lo<=d/\d<=hi) {l:List U} (h:VI B lo hi l=true) (j:Nat):lo<=m7 ρ d l j/\m7 ρ d l j<=hi:=by
 unfold m7
 split
 ·rename_i e F
  exact agZ u e (List.all_eq_true.1 h e (List.mem_of_getElem? F))
 ·exact hd
def pZ (B:J) (t:Nat) (lo hi:Int):T X->T X->Bool
 | .ret x,.ret y=>(match DM x,DM y with
  | some (a,l),some (b,m)=>Nat.beq a t&&(Nat.beq b t&&(Is B l m&&VI B lo hi l))
  | _,_=>false)
 | _,_=>false
theorem XD {sm:List Sm} (ng:∀s∈sm,c9 Tryz.prog s) {f f':Nat} {p:List X} {B:J} {t:Nat} {lo hi:Int} (hd:lo<=hi) (h:pZ B t lo hi (aS (cU sm) f p B) (aS (cU sm) f' p B)=true) {ρ:aa} (u:J.ok ρ B) :
  ∃l:List U,(∃x,aS (cU sm) f p B = .ret x/\DM x=some (t,l))/\Cy f (X.af ρ p) (Px t (m7 ρ lo l))/\Cy f' (X.af ρ p) (Px t (m7 ρ lo l))/\∀j,lo<=m7 ρ lo l j/\m7 ρ lo l j<=hi:=by
 unfold pZ at h
 split at h
 ·rename_i x y e1 e2
  split at h
  ·rename_i a l b m v1 v2
   simp only[Bool.and_eq_true]at h
   obtain⟨A,E,h3,h4⟩:=h
   have A:=Nat.eq_of_beq_eq_true A
   have E:=Nat.eq_of_beq_eq_true E
   subst A E
   have q1:=eG (kc ρ) ng u (show(aS (cU sm) f p B).aq ρ=some _ by rw[e1];rfl)
   have q2:=eG (kc ρ) ng u (show(aS (cU sm) f' p B).aq ρ=some _ by rw[e2];rfl)
   rw[aaD v1 lo]at q1
   rw[aaD v2 lo,<-Zh u lo h3]at q2
   exact⟨l,⟨x,e1,v1⟩,q1,q2,ag0 u ⟨Int.le_refl _,hd⟩ h4⟩
  ·cases h
 ·cases h
theorem GS:∀s∈[Im,Ir],c9 Tryz.prog s:=by
 have go:∀(f:Nat) (p:List X),iK (aS (cU []) f p []) (.ret GR)=true->c9 Tryz.prog ⟨f,p,GR,.lit true⟩:=fun f p h=>by
  unfold iK at h
  split at h
  ·rename_i x y e1 e2
   cases e2
   have:=X.beq_eq _ _ h
   subst this
   exact ars (c:=cU []) (fun ρ=>kc ρ) (List.forall_mem_nil _) e1
  ·cases h
 exact List.forall_mem_cons.2 ⟨go 29 _ (by kernel_rfl),List.forall_mem_cons.2 ⟨go 113 _ (by kernel_rfl),List.forall_mem_nil _⟩⟩
def hP (k:Nat) (lo hi:Int):J:=[(.lt (.var k) (.lit lo),false),(.lt (.lit hi) (.var k),false)]
theorem iq {ρ:aa} {k:Nat} {lo hi:Int} (h:lo<=ρ.i k/\ρ.i k<=hi) {B:J} (u:J.ok ρ B):J.ok ρ (hP k lo hi++B) :=
 J.aw (cN (show ¬ρ.i k<lo by omega)) (J.aw (cN (show ¬hi<ρ.i k by omega)) u)
def Rf:J:=hP 2 1 1099511627776++(hP 9 0 1099511627776++(hP 10 0 1099511627776++(hP 11 0 1099511627776++(hP 12 0 1099511627776++(hP 13 0 1099511627776++(hP 14 0 1099511627776++(hP 15 0 1099511627776++(hP 16 0 1099511627776++(hP 17 0 1099511627776++[])))))))))
def HF (a b:Int):List X:=[.ro 20 [[xn a,xn b]++(qQ 0).drop 2] false]
def yW (c k:Nat):U:=if Nat.beq k c=true then .op .max .i64 (.op .max .i64 (.lit 0) (.var (9+k))) (.var 2)else .op .max .i64 (.lit 0) (.var (9+k))
def Pc (c:Nat):X := .agg ((List.range 9).map fun k => .sc (.i .i64 (yW c k)))
noncomputable def oP (a b:Nat):Bool:=iK (aS (cU [Im,Ir]) 24 (HF a b) Rf) (.ret (Pc (3*a+b)))&&iK (aS (cU [Im,Ir]) 114 (HF a b) Rf) (.ret (Pc (3*a+b)))
theorem aoi:oP 0 0=true:=by kernel_rfl
theorem aoj:oP 0 1=true:=by kernel_rfl
theorem aok:oP 0 2=true:=by kernel_rfl
theorem aol:oP 1 0=true:=by kernel_rfl
theorem aom:oP 1 1=true:=by kernel_rfl
theorem aon:oP 1 2=true:=by kernel_rfl
theorem aoo:oP 2 0=true:=by kernel_rfl
theorem aop:oP 2 1=true:=by kernel_rfl
theorem aoq:oP 2 2=true:=by kernel_rfl
theorem aor {a b:Nat} (ha:a<3) (hb:b<3):oP a b=true:=by
 rcases(show a=0\/a=1\/a=2 by omega)with rfl | rfl | rfl<;>rcases(show b=0\/b=1\/b=2 by omega)with rfl | rfl | rfl
 ·exact aoi
 ·exact aoj
 ·exact aok
 ·exact aol
 ·exact aom
 ·exact aon
 ·exact aoo
 ·exact aop
 ·exact aoq
theorem aaa {t:T X} {x:X} (h:iK t (.ret x)=true):t = .ret x:=by
 cases t with
 | ret y=>exact congrArg T.ret (X.beq_eq _ _ h)
 | br _ _ _=>cases h
 | cT _ _=>cases h
 | fail _=>cases h
theorem S_ {sm:List Sm} (ng:∀s∈sm,c9 Tryz.prog s) {ρ:aa} {f:Nat} {p:List X} {B:J} {x:X} (u:J.ok ρ B) (h:aS (cU sm) f p B = .ret x):Cy f (X.af ρ p) (x.I ρ):=eG (kc ρ) ng u (by rw[h];rfl)
theorem aoh (ρ:aa) (c k:Nat):(yW c k).I ρ=max (max 0 (ρ.i (9+k))) (if(c:Int)=k then ρ.i 2 else 0)\/ρ.i 2<0:=by
 unfold yW
 by_cases h:k=c
 ·left
  subst h
  rw[if_pos (Nat.beq_refl k),if_pos rfl]
  rfl
 ·left
  rw[if_neg (by simpa using h),if_neg (by omega)]
  show max 0 (ρ.i (9+k))=_
  omega
theorem aay {ρ:aa} (h:UF 2 ((kZ 0).I ρ) 0=1):∃g,j8 3 ((kZ 0).I ρ) g:=by
 obtain⟨g2,Z⟩:=QV ρ
 obtain⟨rx,q1,q2,q3⟩:=(gT Z).pr h
 have rx:0<=ρ.i 0/\ρ.i 0<=2:=rx
 have q1:0<=ρ.i 1/\ρ.i 1<=2:=q1
 have q2:1<=ρ.i 2/\ρ.i 2<=1099511627776:=q2
 have xG:∀k:Nat,k<9->vI ((kZ 0).I ρ) (9+k)=ρ.i (9+k):=fun k u=>by
  rcases(show k=0\/k=1\/k=2\/k=3\/k=4\/k=5\/k=6\/k=7\/k=8 by omega)with rfl | rfl | rfl | rfl | rfl | rfl | rfl | rfl | rfl<;>rfl
 have q3:∀k:Nat,k<9->0<=ρ.i (9+k)/\ρ.i (9+k)<=1099511627776:=fun k u=>by have:=q3 k u;rw[xG k u]at this;exact this
 have u:J.ok ρ Rf:=iq q2 (iq (q3 0 (by omega)) (iq (q3 1 (by omega)) (iq (q3 2 (by omega)) (iq (q3 3 (by omega)) (iq (q3 4 (by omega)) (iq (q3 5 (by omega)) (iq (q3 6 (by omega)) (iq (q3 7 (by omega)) (iq (q3 8 (by omega)) (J.bq ρ))))))))))
 obtain⟨a,b,ha,hb,iw,K3⟩:∃a b:Nat,a<3/\b<3/\ρ.i 0=a/\ρ.i 1=b:=⟨(ρ.i 0).toNat,(ρ.i 1).toNat,by omega,by omega,by omega,by omega⟩
 have hr:=aor ha hb
 unfold oP at hr
 rw[Bool.and_eq_true]at hr
 have r1:=S_ GS u (aaa hr.1)
 have r2:=S_ GS u (aaa hr.2)
 have ed:DI 3 ((kZ 0).I ρ)=X.af ρ (HF a b):=by
  show X.af ρ (HF (ρ.i 0) (ρ.i 1))=_
  rw[iw,K3]
 have D:ρ.i 0*3+ρ.i 1=((3*a+b:Nat):Int):=by omega
 let g:Nat->Int:=fun k=>if k<9 then wx ((kZ 0).I ρ) k else 0
 have afB:∀k,k<9->g k=(yW (3*a+b) k).I ρ:=fun k kx=>by
  show(if k<9 then wx ((kZ 0).I ρ) k else 0)=_
  rw[if_pos kx]
  unfold wx
  rw[xG k kx]
  show max (max 0 (ρ.i (9+k))) (if ρ.i 0*3+ρ.i 1=k then ρ.i 2 else 0)=_
  rw[D]
  rcases aoh ρ (3*a+b) k with h | h
  ·exact h.symm
  ·omega
 have fe:I3 3 g=X.I ρ (Pc (3*a+b)):=by
  show AV.agg ((List.range 9).map fun j => .sc (.int .i64 (g j)))=AV.agg (X.af ρ ((List.range 9).map fun k => .sc (.i .i64 (yW (3*a+b) k))))
  rw[X.mh,List.map_map]
  congr 1
  refine List.map_congr_left fun j M => ?_
  show AV.sc (.int .i64 (g j))=AV.sc (.int .i64 ((yW (3*a+b) j).I ρ))
  rw[afB j (List.mem_range.1 M)]
 refine⟨g,⟨fun f hf n hp => ?_,fun j => ?_,fun k kx=>if_pos kx⟩⟩
 ·rw[ed,fe]
  simp only[eM,List.mem_cons,List.not_mem_nil,or_false]at hf
  rcases hf with rfl | rfl
  ·exact r1.2 n hp
  ·exact r2.2 n hp
 ·show(0:Int)<=g j/\g j<=1099511627776
  by_cases M:j<9
  ·have A:=q3 j M
   have:g j=wx ((kZ 0).I ρ) j:=if_pos M
   rw[this]
   unfold wx
   rw[xG j M]
   show(0:Int)<=max (max 0 (ρ.i (9+j))) (if ρ.i 0*3+ρ.i 1=j then ρ.i 2 else 0)/\max (max 0 (ρ.i (9+j))) (if ρ.i 0*3+ρ.i 1=j then ρ.i 2 else 0)<=1099511627776
   split<;>omega
  ·have:g j=0:=if_neg M
   omega
theorem lk {ρ:aa} {k:Nat} {a:AL} (h:(BE.eq (.uf k 0 a) (.lit 1)).I ρ=true):UF k (a.I ρ) 0=1:=by simpa [BE.I,U.I]using h
theorem Ze (f:Nat) (hf:f∈eM 3):c9 Tryz.prog (P6 f):=⟨px f (by simp only[eM,List.mem_cons,List.not_mem_nil,or_false]at hf;rcases hf with rfl | rfl<;>decide),fun ρ n h hp=>by
 obtain⟨g,Z⟩:=aay (lk hp)
 exact(gT Z).qK f hf n h⟩
def mF (_:Int):J:=hP 1 0 2++(hP 2 0 3++[])
def mn:J:=hP 1 0 3++[]
theorem aji:pZ (mF 0) 1 (-16384) 16384 (aS (cU []) 36 [xn 0,xi 1,xi 2] (mF 0)) (aS (cU []) 108 [xn 0,xi 1,xi 2] (mF 0))=true:=by kernel_rfl
theorem ajj:pZ (mF 0) 1 (-16384) 16384 (aS (cU []) 36 [xn 1,xi 1,xi 2] (mF 0)) (aS (cU []) 108 [xn 1,xi 1,xi 2] (mF 0))=true:=by kernel_rfl
theorem ajk:pZ (mF 0) 1 (-16384) 16384 (aS (cU []) 36 [xn 2,xi 1,xi 2] (mF 0)) (aS (cU []) 108 [xn 2,xi 1,xi 2] (mF 0))=true:=by kernel_rfl
theorem agC:pZ mn 1 (-16384) 16384 (aS (cU []) 34 [xn 0,xi 1] mn) (aS (cU []) 110 [xn 0,xi 1] mn)=true:=by kernel_rfl
theorem agD:pZ mn 1 (-16384) 16384 (aS (cU []) 34 [xn 1,xi 1] mn) (aS (cU []) 110 [xn 1,xi 1] mn)=true:=by kernel_rfl
theorem agE:pZ mn 1 (-16384) 16384 (aS (cU []) 34 [xn 2,xi 1] mn) (aS (cU []) 110 [xn 2,xi 1] mn)=true:=by kernel_rfl
theorem ath {ρ:aa} (h0:0<=ρ.i 0/\ρ.i 0<=2) (A:0<=ρ.i 1/\ρ.i 1<=2) (E:0<=ρ.i 2/\ρ.i 2<=3):∃g,j8 4 ((eQ 0 3 .nil).I ρ) g:=by
 have u:J.ok ρ (mF 0):=iq A (iq E (J.bq ρ))
 have go:∀d:Int,ρ.i 0=d->pZ (mF 0) 1 (-16384) 16384 (aS (cU []) 36 [xn d,xi 1,xi 2] (mF 0)) (aS (cU []) 108 [xn d,xi 1,xi 2] (mF 0))=true->∃g,j8 4 ((eQ 0 3 .nil).I ρ) g:=fun d hd hr=>by
  obtain⟨l,_,A,E,h3⟩:=XD (List.forall_mem_nil _) (by decide) hr u
  have e:DI 4 ((eQ 0 3 .nil).I ρ)=X.af ρ [xn d,xi 1,xi 2]:=by rw[<-hd];rfl
  refine⟨m7 ρ (-16384) l,⟨fun f hf n h => ?_,h3,trivial⟩⟩
  rw[e]
  simp only[eM,List.mem_cons,List.not_mem_nil,or_false]at hf
  rcases hf with rfl | rfl
  ·exact A.2 n h
  ·exact E.2 n h
 rcases(show ρ.i 0=0\/ρ.i 0=1\/ρ.i 0=2 by omega)with h | h | h
 ·exact go 0 h aji
 ·exact go 1 h ajj
 ·exact go 2 h ajk
theorem ati {ρ:aa} (h0:0<=ρ.i 0/\ρ.i 0<=2) (A:0<=ρ.i 1/\ρ.i 1<=3):∃g,j8 5 ((eQ 0 2 .nil).I ρ) g:=by
 have u:J.ok ρ mn:=iq A (J.bq ρ)
 have go:∀d:Int,ρ.i 0=d->pZ mn 1 (-16384) 16384 (aS (cU []) 34 [xn d,xi 1] mn) (aS (cU []) 110 [xn d,xi 1] mn)=true->∃g,j8 5 ((eQ 0 2 .nil).I ρ) g:=fun d hd hr=>by
  obtain⟨l,_,A,E,h3⟩:=XD (List.forall_mem_nil _) (by decide) hr u
  have e:DI 5 ((eQ 0 2 .nil).I ρ)=X.af ρ [xn d,xi 1]:=by rw[<-hd];rfl
  refine⟨m7 ρ (-16384) l,⟨fun f hf n h => ?_,h3,trivial⟩⟩
  rw[e]
  simp only[eM,List.mem_cons,List.not_mem_nil,or_false]at hf
  rcases hf with rfl | rfl
  ·exact A.2 n h
  ·exact E.2 n h
 rcases(show ρ.i 0=0\/ρ.i 0=1\/ρ.i 0=2 by omega)with h | h | h
 ·exact go 0 h agC
 ·exact go 1 h agD
 ·exact go 2 h agE
theorem kF {ρ:aa} {a b:BE} (h:(BE.and a b).I ρ=true):a.I ρ=true/\b.I ρ=true:=by
 have h:(a.I ρ&&b.I ρ)=true:=h
 simpa using h
theorem Zc (f:Nat) (hf:f∈eM 4):c9 Tryz.prog (P4 f):=⟨px f (by simp only[eM,List.mem_cons,List.not_mem_nil,or_false]at hf;rcases hf with rfl | rfl<;>decide),fun ρ n h hp=>by
 obtain⟨A,E⟩:=kF hp
 obtain⟨E,h3⟩:=kF E
 obtain⟨g,Z⟩:=ath (kG A) (kG E) (kG h3)
 exact(gT Z).qK f hf n h⟩
theorem Y' (f:Nat) (hf:f∈eM 5):c9 Tryz.prog (P1 f):=⟨px f (by simp only[eM,List.mem_cons,List.not_mem_nil,or_false]at hf;rcases hf with rfl | rfl<;>decide),fun ρ n h hp=>by
 obtain⟨A,E⟩:=kF hp
 obtain⟨g,Z⟩:=ati (kG A) (kG E)
 exact(gT Z).qK f hf n h⟩
end Go.Proofs.YtpdfmnhgocpkcaaGreat
namespace Go.Proofs.YtpdfmnhgocpkcaaGreat
open Go Go.Proofs.Aw Go.Proofs.Xw
set_option maxRecDepth 100000
def xL:List X:=[tG 0 1,tG 2 3]
def AZ:J:=hP 0 (-16384) 16384++(hP 1 (-16384) 16384++(hP 2 (-16384) 16384++(hP 3 (-16384) 16384++[])))
def Fj:U:=(.op .add .i64 (.op .mul .i64 aaT aaT) (.op .mul .i64 aaU aaU))
def Fi:U:=(.op .add .i64 (.op .mul .i64 aaV aaV) (.op .mul .i64 aaW aaW))
theorem ae9:iK (aS (cU []) 35 xL AZ) (.ret (.sc (.i .i64 Fj)))=true:=by kernel_rfl
theorem ae8:iK (aS (cU []) 135 xL AZ) (.ret (.sc (.i .i64 Fi)))=true:=by kernel_rfl
theorem qp {t:T X} {x:X} (h:iK t (.ret x)=true):t = .ret x:=by
 cases t with
 | ret y=>exact congrArg T.ret (X.beq_eq _ _ h)
 | br _ _ _=>cases h
 | cT _ _=>cases h
 | fail _=>cases h
theorem Zy {x:Int} (A : -32768<=x) (E:x<=32768):0<=x*x/\x*x<=1073741824:=by
 have e:x*x=(x.natAbs:Int)*x.natAbs:=by rw[<-Int.natAbs_mul_self' x]
 have h:x.natAbs*x.natAbs<=32768*32768:=Nat.mul_le_mul (by omega) (by omega)
 rw[e]
 generalize x.natAbs=n at h
 constructor
 ·exact Int.mul_nonneg (by omega) (by omega)
 ·have:((n*n:Nat):Int)<=1073741824:=by omega
  rwa[Int.natCast_mul]at this
def xM (ρ:aa):Int:=(ρ.i 0-ρ.i 2)*(ρ.i 0-ρ.i 2)+(ρ.i 1-ρ.i 3)*(ρ.i 1-ρ.i 3)
theorem ae7 {ρ:aa} (h:∀k,k<4 -> -16384<=ρ.i k/\ρ.i k<=16384):Fj.I ρ=xM ρ/\Fi.I ρ=xM ρ/\0<=xM ρ/\xM ρ<=2147483648:=by
 have h0:=h 0 (by omega);have A:=h 1 (by omega);have E:=h 2 (by omega);have h3:=h 3 (by omega)
 have e1:Fj.I ρ=IntKind.i64.wrap (IntKind.i64.wrap ((ρ.i 0-ρ.i 2)*(ρ.i 0-ρ.i 2))+IntKind.i64.wrap ((ρ.i 1-ρ.i 3)*(ρ.i 1-ρ.i 3))):=rfl
 have e2:Fi.I ρ=IntKind.i64.wrap (IntKind.i64.wrap (IntKind.i64.wrap (ρ.i 0-ρ.i 2)*IntKind.i64.wrap (ρ.i 0-ρ.i 2))+IntKind.i64.wrap (IntKind.i64.wrap (ρ.i 1-ρ.i 3)*IntKind.i64.wrap (ρ.i 1-ρ.i 3))):=rfl
 rw[e1,e2,cp (ρ.i 0-ρ.i 2) (by omega) (by omega),cp (ρ.i 1-ρ.i 3) (by omega) (by omega)]
 have a:=Zy (x:=ρ.i 0-ρ.i 2) (by omega) (by omega)
 have b:=Zy (x:=ρ.i 1-ρ.i 3) (by omega) (by omega)
 unfold xM
 generalize (ρ.i 0-ρ.i 2)*(ρ.i 0-ρ.i 2)=p at a ⊢
 generalize (ρ.i 1-ρ.i 3)*(ρ.i 1-ρ.i 3)=q at b ⊢
 rw[cp p (by omega) (by omega),cp q (by omega) (by omega),cp _ (by omega) (by omega)]
 omega
theorem QW {ρ:aa} (h:∀k,k<4 -> -16384<=ρ.i k/\ρ.i k<=16384):∃g,j8 6 ((eQ 0 4 .nil).I ρ) g:=by
 have u:J.ok ρ AZ:=iq (h 0 (by omega)) (iq (h 1 (by omega)) (iq (h 2 (by omega)) (iq (h 3 (by omega)) (J.bq ρ))))
 obtain⟨d1,d2,aeo,d4⟩:=ae7 h
 have q1:=eG (kc ρ) (List.forall_mem_nil _) u (show(aS (cU []) 35 xL AZ).aq ρ=some _ by rw[qp ae9];rfl)
 have q2:=eG (kc ρ) (List.forall_mem_nil _) u (show(aS (cU []) 135 xL AZ).aq ρ=some _ by rw[qp ae8];rfl)
 have q1:Cy 35 (X.af ρ xL) (.sc (.int .i64 (Fj.I ρ))):=q1
 have q2:Cy 135 (X.af ρ xL) (.sc (.int .i64 (Fi.I ρ))):=q2
 rw[d1]at q1
 rw[d2]at q2
 refine⟨fun _=>xM ρ,⟨fun f hf n hp => ?_,fun j => ?_,rfl⟩⟩
 ·simp only[eM,List.mem_cons,List.not_mem_nil,or_false]at hf
  rcases hf with rfl | rfl
  ·exact q1.2 n hp
  ·exact q2.2 n hp
 ·simp only[jn];omega
theorem Ik (f:Nat) (hf:f∈eM 6):c9 Tryz.prog (Dd f):=⟨px f (by simp only[eM,List.mem_cons,List.not_mem_nil,or_false]at hf;rcases hf with rfl | rfl<;>decide),fun ρ n h hp=>by
 obtain⟨h0,A⟩:=kF hp
 obtain⟨A,E⟩:=kF A
 obtain⟨E,h3⟩:=kF E
 obtain⟨g,Z⟩:=QW (ρ:=ρ) fun k u=>by
  rcases(show k=0\/k=1\/k=2\/k=3 by omega)with rfl | rfl | rfl | rfl
  ·exact kG h0
  ·exact kG A
  ·exact kG E
  ·exact kG h3
 exact(gT Z).qK f hf n h⟩
def Dj:List Sm:=[Dd 35,Dd 135]
theorem Zv:∀s∈Dj,c9 Tryz.prog s:=List.forall_mem_cons.2 ⟨Ik 35 (by decide),List.forall_mem_cons.2 ⟨Ik 135 (by decide),List.forall_mem_nil _⟩⟩
def rD (n:Nat):List X:=[tG 0 1,.ro 1 ((List.range n).map fun k=>[tG (2*k+2) (2*k+3)]) false]
def v7:Nat->J
 | 0=>[]
 | n+1=>hP n (-16384) 16384++v7 n
theorem WV {ρ:aa}:∀{n:Nat},(∀k,k<n -> -16384<=ρ.i k/\ρ.i k<=16384)->J.ok ρ (v7 n)
 | 0,_=>J.bq ρ
 | n+1,h=>iq (h n (by omega)) (WV fun k u=>h k (by omega))
def jB (j:Nat):U := .uf 6 0 (.i (.var 0) (.i (.var 1) (.i (.var (2*j+2)) (.i (.var (2*j+3)) .nil))))
noncomputable def rB (n:Nat):Nat->Nat->Nat->J->Bool
 | 0,_,m,B=>iK (aS (cU Dj) 92 (rD n) B) (.ret (xn m))&&iK (aS (cU Dj) 109 (rD n) B) (.ret (xn m))
 | r+1,j,m,B=>rB n r (j+1) j ((.lt (jB j) (jB m),true)::B)&&rB n r (j+1) m ((.lt (jB j) (jB m),false)::B)
theorem yM {ρ:aa} {n:Nat}:∀(r j m:Nat) (B:J),rB n r j m B=true->J.ok ρ B->m<j->(∀k,k<j->(jB m).I ρ<=(jB k).I ρ) ->
  ∃m':Nat,m'<j+r/\Cy 92 (X.af ρ (rD n)) (.sc (.int .i64 m'))/\Cy 109 (X.af ρ (rD n)) (.sc (.int .i64 m'))/\∀k,k<j+r->(jB m').I ρ<=(jB k).I ρ
 | 0,j,m,B,h,u,hm,hd=>by
  simp only[rB,Bool.and_eq_true]at h
  have e1:=qp h.1
  have e2:=qp h.2
  have q1:=eG (kc ρ) Zv u (show(aS (cU Dj) 92 (rD n) B).aq ρ=some (xn m)by rw[e1];rfl)
  have q2:=eG (kc ρ) Zv u (show(aS (cU Dj) 109 (rD n) B).aq ρ=some (xn m)by rw[e2];rfl)
  exact⟨m,hm,q1,q2,hd⟩
 | r+1,j,m,B,h,u,hm,hd=>by
  simp only[rB,Bool.and_eq_true]at h
  have e:j+(r+1)=j+1+r:=by omega
  rw[e]
  by_cases H:(jB j).I ρ<(jB m).I ρ
  ·refine yM r (j+1) j _ h.1 (J.aw (oE H) u) (by omega) fun k aJ => ?_
   by_cases M:k=j
   ·rw[M];exact Int.le_refl _
   ·have:=hd k (by omega);omega
  ·refine yM r (j+1) m _ h.2 (J.aw (cN H) u) (by omega) fun k aJ => ?_
   by_cases M:k=j
   ·rw[M];omega
   ·exact hd k (by omega)
theorem mn1:rB 1 0 1 0 (v7 4)=true:=by kernel_rfl
theorem mn2:rB 2 1 1 0 (v7 6)=true:=by kernel_rfl
theorem mn3:rB 3 2 1 0 (v7 8)=true:=by kernel_rfl
theorem mn4:rB 4 3 1 0 (v7 10)=true:=by kernel_rfl
theorem Er (ρ:aa) {n:Nat} (hn:n=1\/n=2\/n=3\/n=4):((eQ 0 (2*n+2) .nil).I ρ).length=2*n+2:=by
 rcases hn with rfl | rfl | rfl | rfl<;>rfl
theorem Ep (ρ:aa) {n:Nat} (hn:n=1\/n=2\/n=3\/n=4) {i:Nat} (hi:i<2*n+2):vI ((eQ 0 (2*n+2) .nil).I ρ) i=ρ.i i:=by
 have h:i=0\/i=1\/i=2\/i=3\/i=4\/i=5\/i=6\/i=7\/i=8\/i=9:=by omega
 rcases hn with rfl | rfl | rfl | rfl<;>rcases h with rfl | rfl | rfl | rfl | rfl | rfl | rfl | rfl | rfl | rfl<;>first | rfl | omega
theorem WW (ρ:aa) {n:Nat} (hn:n=1\/n=2\/n=3\/n=4):X.af ρ (rD n)=DI 8 ((eQ 0 (2*n+2) .nil).I ρ):=by
 rcases hn with rfl | rfl | rfl | rfl<;>kernel_rfl
theorem aer {ρ:aa} {n j:Nat} (M:j<n) (h:∀k,k<2*n+2 -> -16384<=ρ.i k/\ρ.i k<=16384):(jB j).I ρ=(ρ.i 0-ρ.i (2*j+2))*(ρ.i 0-ρ.i (2*j+2))+(ρ.i 1-ρ.i (2*j+3))*(ρ.i 1-ρ.i (2*j+3)):=by
 let G:aa:={ ρ with i:=fun k=>if k=2 then ρ.i (2*j+2)else if k=3 then ρ.i (2*j+3)else ρ.i k }
 obtain⟨g,Z⟩:=QW (ρ:=G) fun k u=>by
  rcases(show k=0\/k=1\/k=2\/k=3 by omega)with rfl | rfl | rfl | rfl
  ·exact h 0 (by omega)
  ·exact h 1 (by omega)
  ·exact h (2*j+2) (by omega)
  ·exact h (2*j+3) (by omega)
 exact(gT Z).pr
theorem QX {ρ:aa} {n:Nat} (hn:n=1\/n=2\/n=3\/n=4) (h:∀k,k<2*n+2 -> -16384<=ρ.i k/\ρ.i k<=16384):∃g,j8 8 ((eQ 0 (2*n+2) .nil).I ρ) g:=by
 have u:J.ok ρ (v7 (2*n+2)):=WV h
 have key:∃m':Nat,m'<n/\Cy 92 (X.af ρ (rD n)) (.sc (.int .i64 m'))/\Cy 109 (X.af ρ (rD n)) (.sc (.int .i64 m'))/\∀k,k<n->(jB m').I ρ<=(jB k).I ρ:=by
  have z:∀k,k<1->(jB 0).I ρ<=(jB k).I ρ:=fun k u=>by
   obtain rfl:k=0:=by omega
   exact Int.le_refl _
  rcases hn with rfl | rfl | rfl | rfl
  ·exact yM 0 1 0 _ mn1 u (by omega) z
  ·exact yM 1 1 0 _ mn2 u (by omega) z
  ·exact yM 2 1 0 _ mn3 u (by omega) z
  ·exact yM 3 1 0 _ mn4 u (by omega) z
 obtain⟨m,hm,A,E,h3⟩:=key
 rw[WW ρ hn]at A E
 have ST:∀k,k<n->dst ((eQ 0 (2*n+2) .nil).I ρ) 0 (2*k+2)=(jB k).I ρ:=fun k u=>by
  unfold dst
  rw[aer u h,Ep ρ hn (i:=0) (by omega),Ep ρ hn (i:=0+1) (by omega),Ep ρ hn (i:=2*k+2) (by omega),Ep ρ hn (i:=2*k+2+1) (by omega)]
 have O:((eQ 0 (2*n+2) .nil).I ρ).length / 2-1=n:=by rw[Er ρ hn];omega
 refine⟨fun _=>m,⟨fun f hf n hp => ?_,fun j => ?_,?_⟩⟩
 ·simp only[eM,List.mem_cons,List.not_mem_nil,or_false]at hf
  rcases hf with rfl | rfl
  ·exact A.2 n hp
  ·exact E.2 n hp
 ·simp only[jn];omega
 ·refine⟨show(m:Int)<_ by rw[show((((eQ 0 (2*n+2) .nil).I ρ).length:Int) / 2-1)=n by rw[Er ρ hn];omega];omega,fun k u => ?_⟩
  rw[O]at u
  have e:((m:Int)).toNat=m:=Int.toNat_natCast m
  simp only[e]
  rw[ST m hm,ST k u]
  exact h3 k u
theorem aoz {ρ:aa} {n:Nat} (h:(XW n).I ρ=true):∀k,k<2*n+2 -> -16384<=ρ.i k/\ρ.i k<=16384:=by
 have go:∀(l:List Nat),(l.foldr (fun k b=>BE.and (jb (.var k) (-16384) 16384) b) (.lit true)).I ρ=true->∀k∈l,-16384<=ρ.i k/\ρ.i k<=16384:=fun l=>by
  induction l with
  | nil=>intro _ k u;cases u
  | cons a l ih =>
   intro O k u
   obtain⟨g1,g2⟩:=kF O
   rcases List.mem_cons.1 u with rfl | u
   ·exact kG g1
   ·exact ih g2 k u
 exact fun k u=>go _ h k (List.mem_range.2 u)
theorem tZ (f n:Nat) (hf:f∈eM 8) (hn:n=1\/n=2\/n=3\/n=4):c9 Tryz.prog (P3 f n):=⟨px f (by simp only[eM,List.mem_cons,List.not_mem_nil,or_false]at hf;rcases hf with rfl | rfl<;>decide),fun ρ m h hp=>by
 obtain⟨g,Z⟩:=QX hn (aoz hp)
 have:=(gT Z).qK f hf m h
 rw[<-WW ρ hn]at this
 exact this⟩
def ID:List Sm:=[De 97,De 105]
theorem Zw:∀s∈ID,c9 Tryz.prog s:=List.forall_mem_cons.2 ⟨Ip 97 (by decide),List.forall_mem_cons.2 ⟨Ip 105 (by decide),List.forall_mem_nil _⟩⟩
def JN (n:Int) (j:Bool):AL := .i (.var 0) (.i (.lit n) (eQ 2 8 (.b (.lit j) (.i (.var 11) (.i (.var 12) .nil)))))
theorem acR (ρ:aa):(gV 0).I ρ=(JN (ρ.i 1) (ρ.b 10)).I ρ:=rfl
def PW (n:Nat) (j:Bool):J:=[(.eq (.uf 1 0 (JN n j)) (.lit 1),true)]
def YS:J:=[(.eq (.uf 1 0 (gV 0)) (.lit 1),false)]
noncomputable def rV (f n:Nat) (j:Bool) (k:Nat):Bool:=iK (aS (cU ID) f (fu n j) (PW n j)) (.ret (xi k))
noncomputable def runN (f:Nat):Bool:=iK (aS (cU ID) f [.agg (iT 0)] YS) (.ret (xn (-1)))
noncomputable def xd (f:Nat) (k:Nat->Nat):Bool:=runN f&&(rV f 1 false (k 1)&&(rV f 1 true (k 1)&&(rV f 2 false (k 2)&&(rV f 2 true (k 2)&&(rV f 3 false (k 3)&&(rV f 3 true (k 3)&&(rV f 4 false (k 4)&&rV f 4 true (k 4))))))))
theorem Es {f:Nat} {k:Nat->Nat} (h:xd f k=true) (ρ:aa):Cy f (X.af ρ [.agg (iT 0)]) (.sc (.int .i64 (if UF 1 ((gV 0).I ρ) 0=1 then ρ.i (k (ρ.i 1).toNat)else -1))):=by
 simp only[xd,Bool.and_eq_true]at h
 obtain⟨h0,A,E,h3,h4,h5,h6,h7,Fd⟩:=h
 by_cases hr:UF 1 ((gV 0).I ρ) 0=1
 ·rw[if_pos hr]
  obtain⟨g,Z⟩:=DJ ρ
  obtain⟨b1,b2,_⟩:=(gT Z).pr hr
  have b1:1<=ρ.i 1:=b1
  have b2:ρ.i 1<=4:=b2
  have go:∀(n:Nat) (j:Bool),ρ.i 1=n->ρ.b 10=j->rV f n j (k n)=true->Cy f (X.af ρ [.agg (iT 0)]) (.sc (.int .i64 (ρ.i (k (ρ.i 1).toNat)))):=fun n j hn M H=>by
   have e:=qp H
   have u:J.ok ρ (PW n j):=J.aw (by
    have:UF 1 ((JN n j).I ρ) 0=1:=by rw[<-hr,acR,hn,M]
    simpa [BE.I,U.I]using this) (J.bq ρ)
   have q:=eG (kc ρ) Zw u (show(aS (cU ID) f (fu n j) (PW n j)).aq ρ=some _ by rw[e];rfl)
   have ed:X.af ρ [.agg (iT 0)]=X.af ρ (fu n j):=by rw[SG,hn,M];rfl
   rw[ed,hn]
   exact q
  have hn:ρ.i 1=1\/ρ.i 1=2\/ρ.i 1=3\/ρ.i 1=4:=by omega
  cases M:ρ.b 10<;>rcases hn with hn | hn | hn | hn
  ·exact go 1 false hn M A
  ·exact go 2 false hn M h3
  ·exact go 3 false hn M h5
  ·exact go 4 false hn M h7
  ·exact go 1 true hn M E
  ·exact go 2 true hn M h4
  ·exact go 3 true hn M h6
  ·exact go 4 true hn M Fd
 ·rw[if_neg hr]
  have e:=qp h0
  have u:J.ok ρ YS:=J.aw (by simpa [BE.I,U.I]using hr) (J.bq ρ)
  exact eG (kc ρ) Zw u (by rw[e];rfl)
theorem ahT:xd 94 (fun n=>2*n)=true:=by kernel_rfl
theorem ahS:xd 107 (fun n=>2*n)=true:=by kernel_rfl
theorem af9:xd 27 (fun _=>2)=true:=by kernel_rfl
theorem aga:xd 77 (fun _=>2)=true:=by kernel_rfl
theorem atj (ρ:aa):∃g,j8 7 ((gV 0).I ρ) g:=by
 refine⟨fun _=>if UF 1 ((gV 0).I ρ) 0=1 then ρ.i (2*(ρ.i 1).toNat)else -1,⟨fun f hf n hp => ?_,fun j => ?_,trivial⟩⟩
 ·simp only[eM,List.mem_cons,List.not_mem_nil,or_false]at hf
  rcases hf with rfl | rfl
  ·exact(Es ahT ρ).2 n hp
  ·exact(Es ahS ρ).2 n hp
 ·simp only[jn]
  split
  ·rename_i hr
   obtain⟨g,Z⟩:=DJ ρ
   obtain⟨b1,b2,de⟩:=(gT Z).pr hr
   have b1:1<=ρ.i 1:=b1
   have b2:ρ.i 1<=4:=b2
   have fq:=de ((ρ.i 1).toNat-1) (by show(((ρ.i 1).toNat-1:Nat):Int)<ρ.i 1;omega)
   have e:2+2*((ρ.i 1).toNat-1)=2*(ρ.i 1).toNat:=by omega
   rw[e]at fq
   have q:vI ((gV 0).I ρ) (2*(ρ.i 1).toNat)=ρ.i (2*(ρ.i 1).toNat):=by
    have:ρ.i 1=1\/ρ.i 1=2\/ρ.i 1=3\/ρ.i 1=4:=by omega
    rcases this with h | h | h | h<;>rw[h]<;>rfl
   rw[q]at fq
   omega
  ·omega
theorem Za (f:Nat) (hf:f∈eM 7):c9 Tryz.prog (P2 f):=⟨px f (by simp only[eM,List.mem_cons,List.not_mem_nil,or_false]at hf;rcases hf with rfl | rfl<;>decide),fun ρ n h _=>by
 obtain⟨g,Z⟩:=atj ρ
 exact(gT Z).qK f hf n h⟩
theorem Y_ (f:Nat) (hf:f∈[27,77]):c9 Tryz.prog (Il f):=⟨px f (by simp only[List.mem_cons,List.not_mem_nil,or_false]at hf;rcases hf with rfl | rfl<;>decide),fun ρ n h _=>by
 have e:X.I ρ (Il f).r = .sc (.int .i64 (if UF 1 ((gV 0).I ρ) 0=1 then ρ.i 2 else -1)):=by
  show AV.sc (.int .i64 ((U.ite (.eq (.uf 1 0 (gV 0)) (.lit 1)) (.var 2) (.lit (-1))).I ρ))=_
  by_cases hr:UF 1 ((gV 0).I ρ) 0=1
  ·rw[if_pos hr,B1 (by simpa [BE.I,U.I]using hr)];rfl
  ·rw[if_neg hr,Gh (by simpa [BE.I,U.I]using hr)];rfl
 rw[e]
 simp only[List.mem_cons,List.not_mem_nil,or_false]at hf
 rcases hf with rfl | rfl
 ·exact(Es af9 ρ).2 n h
 ·exact(Es aga ρ).2 n h⟩
end Go.Proofs.YtpdfmnhgocpkcaaGreat
namespace Go.Proofs.YtpdfmnhgocpkcaaGreat
open Go Go.Proofs.Aw Go.Proofs.Xw
set_option maxRecDepth 100000
theorem pU (ρ:aa):J.ok ρ []:=J.bq ρ
theorem GM {ρ:aa} {a b:U} (h:(BE.not (.lt a b)).I ρ=true):b.I ρ<=a.I ρ:=by have:=yC h;omega
theorem Wn {ρ:aa} {a b:U} (h:(BE.lt a b).I ρ=true):a.I ρ<b.I ρ:=of_decide_eq_true h
theorem iW {ρ:aa} {a b:U} (h:b.I ρ<=a.I ρ) {B:J} (u:J.ok ρ B):J.ok ρ ((.lt a b,false)::B):=J.aw (cN (by omega)) u
theorem Ur {ρ:aa} {a b:U} (h:a.I ρ<b.I ρ) {B:J} (u:J.ok ρ B):J.ok ρ ((.lt a b,true)::B):=J.aw (oE h) u
noncomputable def Pw (ρ:aa):aa:={ ρ with i:=fun k=>(gM k).I ρ,b:=fun _=>(bV 24).I ρ }
theorem apy (ρ:aa):(gV 0).I (Pw ρ)=mS.I ρ:=rfl
theorem SJ {ρ:aa} (h:(BE.eq (.uf 1 0 mS) (.lit 1)).I ρ=true):1<=(gM 1).I ρ/\(gM 1).I ρ<=4/\∀k:Nat,(k:Int)<(gM 1).I ρ->0<=(gM (2+2*k)).I ρ/\(gM (2+2*k)).I ρ<=3:=by
 have h:=lk h
 rw[<-apy]at h
 obtain⟨g,Z⟩:=DJ (Pw ρ)
 obtain⟨b1,b2,de⟩:=(gT Z).pr h
 refine⟨b1,b2,fun k u => ?_⟩
 have E:(gM 1).I ρ<=4:=b2
 have:=de k u
 have q:vI ((gV 0).I (Pw ρ)) (2+2*k)=(gM (2+2*k)).I ρ:=by
  rcases(show k=0\/k=1\/k=2\/k=3 by omega)with rfl | rfl | rfl | rfl<;>rfl
 rw[q]at this
 exact this
theorem afP (ρ:aa) (h:(yg mS gM).1.I ρ=true):J.ok ρ (yg mS gM).2:=by
 obtain⟨A,E,h3⟩:=SJ h
 have h4:=h3 0 (by show(0:Int)<_;omega)
 exact iW (show(U.lit 1).I ρ<=_ from A) (iW (show _<=(U.lit 4).I ρ from E) (iW (show(U.lit 0).I ρ<=_ from h4.1) (iW (show _<=(U.lit 3).I ρ from h4.2) (pU ρ))))
theorem K6 {ρ:aa} {a:U} {n:Int} (h:(BE.eq a (.lit n)).I ρ=true):a.I ρ=n:=by
 have h:(a.I ρ==n)=true:=h
 exact eq_of_beq h
theorem FB (ρ:aa) (n:Nat) (h:(nj mS gM n).1.I ρ=true):J.ok ρ (nj mS gM n).2:=by
 obtain⟨ha,hb⟩:=kF h
 obtain⟨_,_,h3⟩:=SJ ha
 have hn:=K6 hb
 intro p hp
 obtain⟨k,u,hp⟩:=List.mem_flatMap.1 hp
 have u:=List.mem_range.1 u
 have h4:=h3 k (by omega)
 rcases List.mem_cons.1 hp with rfl | hp
 ·exact cN (by have:=h4.1;show ¬(gM (2+2*k)).I ρ<0;omega)
 ·rcases List.mem_cons.1 hp with rfl | hp
  ·exact cN (by have:=h4.2;show ¬3<(gM (2+2*k)).I ρ;omega)
  ·cases hp
theorem WY {n:Nat} (hn:n=1\/n=2\/n=3\/n=4) (vs:List Value) (w:Nat->Int) (R:vs=(eQ 0 (2*n+2) .nil).I { (⟨fun _=>0,fun _=>false,fun _=>⟨#[]⟩,fun _=>0,fun _ _ _=>0,fun _ _ _=>false,fun _ _ _=>⟨#[]⟩,kN⟩:aa)with i:=w }) (hb:∀k,k<2*n+2 -> -16384<=w k/\w k<=16384):UF 8 vs 0<=(n:Int)-1:=by
 obtain⟨g,Z⟩:=QX (ρ:={ (⟨fun _=>0,fun _=>false,fun _=>⟨#[]⟩,fun _=>0,fun _ _ _=>0,fun _ _ _=>false,fun _ _ _=>⟨#[]⟩,kN⟩:aa)with i:=w }) hn hb
 have h:=(gT Z).pr
 rw[<-R]at h
 obtain⟨h,_⟩:=h
 have O:vs.length=2*n+2:=by rw[R];exact Er _ hn
 rw[O]at h
 omega
theorem m_ (fV:U) {n:Nat} (hn:n=1\/n=2\/n=3\/n=4) (ρ:aa):J.ok ρ (mv fV n).2:=by
 refine iW ?_ (pU ρ)
 show(tB fV n).I ρ<=(n:Int)-1
 have fq:∀vs j,-16384<=UF 4 vs j/\UF 4 vs j<=16384:=fun vs j=>uF 4 vs j
 have Sk:∀vs j,-16384<=UF 5 vs j/\UF 5 vs j<=16384:=fun vs j=>uF 5 vs j
 let hA:AL := .i (.var 401) (.i (.var 4) .nil)
 let Pa:Nat->AL:=fun k => .i (.var 401) (.i fV (.i (gM (2+2*k)) .nil))
 let w:Nat->Int:=fun k=>if k=0 then UF 5 (hA.I ρ) 0 else if k=1 then UF 5 (hA.I ρ) 1 else UF 4 ((Pa (k / 2-1)).I ρ) (k % 2)
 refine WY hn _ w ?_ fun k _ => ?_
 ·rcases hn with rfl | rfl | rfl | rfl<;>rfl
 ·show -16384<=(if k=0 then UF 5 (hA.I ρ) 0 else if k=1 then UF 5 (hA.I ρ) 1 else UF 4 ((Pa (k / 2-1)).I ρ) (k % 2))/\(if k=0 then UF 5 (hA.I ρ) 0 else if k=1 then UF 5 (hA.I ρ) 1 else UF 4 ((Pa (k / 2-1)).I ρ) (k % 2))<=16384
  split
  ·exact Sk _ _
  ·split
   ·exact Sk _ _
   ·exact fq _ _
theorem UR (ρ:aa) (h:MZ.1.I ρ=true):J.ok ρ MZ.2:=by
 refine iW ?_ (pU ρ)
 have h:((lV.I ρ).toList==(⟨#[]⟩:ByteArray).toList)=true:=h
 have h:=eq_of_beq h
 show((lV.I ρ).size:Int)<=32
 generalize lV.I ρ=s at h
 have E:s.data.toList=[]:=by rw[ByteArray.toList_eq,ByteArray.toList_eq]at h;exact h
 have h3:s.size=0:=by
  show s.data.size=0
  rw[<-Array.length_toList,E];rfl
 omega
theorem upD (ρ:aa) (k:Nat):(up k).I ρ=IntKind.i64.wrap (ρ.i k+1):=rfl
theorem afS (ρ:aa) (h:MY.1.I ρ=true):J.ok ρ MY.2:=by
 obtain⟨A,E⟩:=kF h
 obtain⟨E,h3⟩:=kF E
 obtain⟨E,h4⟩:=kF E
 have bj:ρ.i 431<ρ.i 1:=Wn E
 have Ej:0<=ρ.i 431:=GM h4
 have gU:ρ.i 1<=3:=GM h3
 have e:(up 431).I ρ=ρ.i 431+1:=by rw[upD];exact cp _ (by omega) (by omega)
 have bp:¬(up 431).I ρ=ρ.i 1:=fun W=>by
  have A:(!((up 431).I ρ==ρ.i 1))=true:=A
  rw[W]at A;simp at A
 have em:(mkAdd (.var 431) (.lit 1)).I ρ=ρ.i 431+1:=by rw[fo];rfl
 exact Ur (by rw[e];show _<ρ.i 1;omega) (iW (by rw[e];show _<=(2:Int);omega) (Ur (by rw[em];show _<ρ.i 1;omega) (iW (by rw[em];show _<=(2:Int);omega) (iW (by rw[em];show(0:Int)<=_;omega) (pU ρ)))))
theorem afR (ρ:aa) (h:MX.1.I ρ=true):J.ok ρ MX.2:=by
 have h:((up 431).I ρ==ρ.i 1)=true:=h
 exact iW (by rw[eq_of_beq h];exact Int.le_refl _) (pU ρ)
theorem UK (ρ:aa) (h:F7.1.I ρ=true):J.ok ρ F7.2:=by
 obtain⟨A,E⟩:=kF h
 have bp:(cA 4).I ρ<ρ.i 0:=Wn A
 have bj:ρ.i 0<=3:=GM E
 exact iW (by show(cA 4).I ρ<=2;omega) (pU ρ)
theorem afU (ρ:aa) (h:pF.1.I ρ=true):J.ok ρ pF.2:=by
 obtain⟨A,E⟩:=kF h
 have bj:1<=ρ.i 443:=GM E
 have bp:¬ρ.i 443=1:=fun W=>by
  have A:(!(ρ.i 443==1))=true:=A
  rw[W]at A;simp at A
 exact iW (by show(2:Int)<=ρ.i 443;omega) (pU ρ)
theorem agL:sq bc:=by
 intro p hp ρ h
 simp only[bc,hyps,List.cons_append,List.nil_append,List.mem_cons,List.not_mem_nil,or_false]at hp
 rcases hp with rfl | rfl | rfl | rfl | rfl | rfl | rfl | rfl | rfl | rfl | rfl | rfl | rfl | rfl | rfl | rfl | rfl | rfl | rfl | rfl | rfl | rfl
 ·exact UR ρ h
 ·exact afP ρ h
 ·exact FB ρ 1 h
 ·exact FB ρ 2 h
 ·exact FB ρ 3 h
 ·exact FB ρ 4 h
 ·exact afS ρ h
 ·exact afR ρ h
 ·exact m_ _ (by omega) ρ
 ·exact m_ _ (by omega) ρ
 ·exact m_ _ (by omega) ρ
 ·exact m_ _ (by omega) ρ
 ·exact m_ _ (by omega) ρ
 ·exact m_ _ (by omega) ρ
 ·exact m_ _ (by omega) ρ
 ·exact m_ _ (by omega) ρ
 ·exact UK ρ h
 ·exact m_ _ (by omega) ρ
 ·exact m_ _ (by omega) ρ
 ·exact m_ _ (by omega) ρ
 ·exact m_ _ (by omega) ρ
 ·exact afU ρ h
end Go.Proofs.YtpdfmnhgocpkcaaGreat
namespace Go.Proofs.YtpdfmnhgocpkcaaGreat
open Go Go.Proofs.Aw Go.Proofs.Xw
set_option maxRecDepth 100000
noncomputable def Py (ρ:aa):aa:={ ρ with i:=fun k=>if k<10 then ρ.i (5+k)else ρ.i (4+k),b:=fun _=>ρ.b 0 }
theorem apz (ρ:aa):(gV 0).I (Py ρ)=mT.I ρ:=rfl
theorem SK {ρ:aa} (h:(BE.eq (.uf 1 0 mT) (.lit 1)).I ρ=true):1<=(gZ 1).I ρ/\(gZ 1).I ρ<=4/\∀k:Nat,(k:Int)<(gZ 1).I ρ->0<=(gZ (2+2*k)).I ρ/\(gZ (2+2*k)).I ρ<=3:=by
 have h:=lk h
 rw[<-apz]at h
 obtain⟨g,Z⟩:=DJ (Py ρ)
 obtain⟨b1,b2,de⟩:=(gT Z).pr h
 refine⟨b1,b2,fun k u => ?_⟩
 have E:(gZ 1).I ρ<=4:=b2
 have:=de k u
 have q:vI ((gV 0).I (Py ρ)) (2+2*k)=(gZ (2+2*k)).I ρ:=by
  rcases(show k=0\/k=1\/k=2\/k=3 by omega)with rfl | rfl | rfl | rfl<;>rfl
 rw[q]at this
 exact this
theorem afO {ρ:aa} (h:(yg mT gZ).1.I ρ=true):J.ok ρ (yg mT gZ).2:=by
 obtain⟨A,E,h3⟩:=SK h
 have h4:=h3 0 (by show(0:Int)<_;omega)
 exact iW (show(U.lit 1).I ρ<=_ from A) (iW (show _<=(U.lit 4).I ρ from E) (iW (show(U.lit 0).I ρ<=_ from h4.1) (iW (show _<=(U.lit 3).I ρ from h4.2) (pU ρ))))
theorem FA {ρ:aa} (n:Nat) (h:(nj mT gZ n).1.I ρ=true):J.ok ρ (nj mT gZ n).2:=by
 obtain⟨ha,hb⟩:=kF h
 obtain⟨_,_,h3⟩:=SK ha
 have hn:=K6 hb
 intro p hp
 obtain⟨k,u,hp⟩:=List.mem_flatMap.1 hp
 have u:=List.mem_range.1 u
 have h4:=h3 k (by omega)
 rcases List.mem_cons.1 hp with rfl | hp
 ·exact cN (by have:=h4.1;show ¬(gZ (2+2*k)).I ρ<0;omega)
 ·rcases List.mem_cons.1 hp with rfl | hp
  ·exact cN (by have:=h4.2;show ¬3<(gZ (2+2*k)).I ρ;omega)
  ·cases hp
def C5 (w:Nat->Int):aa:=⟨w,fun _=>false,fun _=>⟨#[]⟩,fun _=>0,fun _ _ _=>0,fun _ _ _=>false,fun _ _ _=>⟨#[]⟩,kN⟩
noncomputable def wZ (g:Nat) (ρ:aa) (k:Nat):Int:=if k=0 then UF 5 ((s9 g).I ρ) 0 else if k=1 then UF 5 ((s9 g).I ρ) 1 else UF 4 ((rP g (k / 2-1)).I ρ) (k % 2)
theorem I7 (g:Nat) (ρ:aa) (k:Nat) : -16384<=wZ g ρ k/\wZ g ρ k<=16384:=by
 unfold wZ
 split
 ·exact uF 5 _ _
 ·split
  ·exact uF 5 _ _
  ·exact uF 4 _ _
theorem WX (g:Nat) (ρ:aa) {n:Nat} (hn:n=1\/n=2\/n=3\/n=4):(Cw g n).I ρ=UF 8 ((eQ 0 (2*n+2) .nil).I (C5 (wZ g ρ))) 0:=by
 rcases hn with rfl | rfl | rfl | rfl<;>rfl
theorem FE (g:Nat) {n:Nat} (hn:n=1\/n=2\/n=3\/n=4) (ρ:aa):J.ok ρ (BW g n).2:=by
 refine iW ?_ (pU ρ)
 show(Cw g n).I ρ<=(n:Int)-1
 rw[WX g ρ hn]
 exact WY hn _ (wZ g ρ) rfl fun k _=>I7 g ρ k
theorem T1 (g k:Nat) (ρ:aa):(LF g k).I ρ=(wZ g ρ 0-wZ g ρ (2*k+2))*(wZ g ρ 0-wZ g ρ (2*k+2))+(wZ g ρ 1-wZ g ρ (2*k+3))*(wZ g ρ 1-wZ g ρ (2*k+3)):=by
 let w:Nat->Int:=fun j=>if j<2 then wZ g ρ j else wZ g ρ (2*k+j)
 obtain⟨Y,hu⟩:=QW (ρ:=C5 w) fun j _=>by
  show -16384<=(if j<2 then wZ g ρ j else wZ g ρ (2*k+j))/\(if j<2 then wZ g ρ j else wZ g ρ (2*k+j))<=16384
  split
  ·exact I7 g ρ _
  ·exact I7 g ρ _
 have h:=(gT hu).pr
 have e2:wZ g ρ (2*k+2)=UF 4 ((rP g k).I ρ) 0:=by
  unfold wZ
  rw[if_neg (by omega),if_neg (by omega),show(2*k+2) / 2-1=k by omega,show(2*k+2) % 2=0 by omega]
 have e3:wZ g ρ (2*k+3)=UF 4 ((rP g k).I ρ) 1:=by
  unfold wZ
  rw[if_neg (by omega),if_neg (by omega),show(2*k+3) / 2-1=k by omega,show(2*k+3) % 2=1 by omega]
 have ev:(eQ 0 4 .nil).I (C5 w)=[.int .i64 (UF 5 ((s9 g).I ρ) 0),.int .i64 (UF 5 ((s9 g).I ρ) 1),.int .i64 (UF 4 ((rP g k).I ρ) 0),.int .i64 (UF 4 ((rP g k).I ρ) 1)]:=by
  rw[<-e2,<-e3];rfl
 rw[ev]at h
 rw[e2,e3]
 exact h
theorem zD (w:Nat->Int) {n:Nat} (hn:n=1\/n=2\/n=3\/n=4) {k:Nat} (u:k<2*n+2):vI ((eQ 0 (2*n+2) .nil).I (C5 w)) k=w k:=by
 rcases hn with rfl | rfl | rfl | rfl
 ·rcases(show k=0\/k=1\/k=2\/k=3 by omega)with rfl | rfl | rfl | rfl<;>rfl
 ·rcases(show k=0\/k=1\/k=2\/k=3\/k=4\/k=5 by omega)with rfl | rfl | rfl | rfl | rfl | rfl<;>rfl
 ·rcases(show k=0\/k=1\/k=2\/k=3\/k=4\/k=5\/k=6\/k=7 by omega)with rfl | rfl | rfl | rfl | rfl | rfl | rfl | rfl<;>rfl
 ·rcases(show k=0\/k=1\/k=2\/k=3\/k=4\/k=5\/k=6\/k=7\/k=8\/k=9 by omega)with rfl | rfl | rfl | rfl | rfl | rfl | rfl | rfl | rfl | rfl<;>rfl
theorem pw (g:Nat) {n j:Nat} (hn:n=1\/n=2\/n=3\/n=4) (M:j<n) (ρ:aa) (h:(nk g n j).1.I ρ=true):J.ok ρ (nk g n j).2:=by
 have h:=K6 h
 rw[WX g ρ hn]at h
 obtain⟨Y,hu⟩:=QX (ρ:=C5 (wZ g ρ)) hn fun k _=>I7 g ρ k
 have m:=(gT hu).pr.2
 intro p hp
 obtain⟨i,hi,rfl⟩:=List.mem_map.1 hp
 have hi:=List.mem_range.1 (List.mem_filter.1 hi).1
 refine cN ?_
 rw[T1,T1]
 have:=m i (by rw[Er _ hn];omega)
 rw[h]at this
 simp only[dst,Int.toNat_natCast,zD _ hn (show 0<2*n+2 by omega),zD _ hn (show 1<2*n+2 by omega),zD _ hn (show 2*j+2<2*n+2 by omega),zD _ hn (show 2*j+2+1<2*n+2 by omega),zD _ hn (show 2*i+2<2*n+2 by omega),zD _ hn (show 2*i+2+1<2*n+2 by omega),Nat.zero_add]at this
 rw[show 2*i+2+1=2*i+3 from rfl,show 2*j+2+1=2*j+3 from rfl]at this
 omega
theorem afV (ρ:aa) (h:M0.1.I ρ=true):J.ok ρ M0.2:=by
 have A:=UR ρ h
 refine J.aw (A _ List.mem_cons_self) (J.aw ?_ (pU ρ))
 have h:((lV.I ρ).toList==(⟨#[]⟩:ByteArray).toList)=true:=h
 show((⟨#[]⟩:ByteArray).toList==(lV.I ρ).toList)=true
 rw[eq_of_beq h]
 exact beq_self_eq_true _
theorem Vz (g:Nat):sq (F8 g):=by
 intro p hp ρ h
 simp only[F8,List.mem_cons,List.not_mem_nil,or_false]at hp
 rcases hp with rfl | rfl | rfl | rfl | rfl | rfl | rfl | rfl | rfl | rfl | rfl | rfl | rfl | rfl
 ·exact FE g (by omega) ρ
 ·exact FE g (by omega) ρ
 ·exact FE g (by omega) ρ
 ·exact FE g (by omega) ρ
 ·exact pw g (by omega) (by omega) ρ h
 ·exact pw g (by omega) (by omega) ρ h
 ·exact pw g (by omega) (by omega) ρ h
 ·exact pw g (by omega) (by omega) ρ h
 ·exact pw g (by omega) (by omega) ρ h
 ·exact pw g (by omega) (by omega) ρ h
 ·exact pw g (by omega) (by omega) ρ h
 ·exact pw g (by omega) (by omega) ρ h
 ·exact pw g (by omega) (by omega) ρ h
 ·exact pw g (by omega) (by omega) ρ h
theorem M1:sq gI:=by
 intro p hp ρ h
 rcases List.mem_append.1 hp with hp | hp
 ·simp only[List.mem_cons,List.not_mem_nil,or_false]at hp
  rcases hp with rfl | rfl | rfl | rfl | rfl | rfl | rfl
  ·exact afV ρ h
  ·exact afO h
  ·exact FA 1 h
  ·exact FA 2 h
  ·exact FA 3 h
  ·exact FA 4 h
  ·exact UK ρ h
 ·rcases List.mem_append.1 hp with hp | hp
  ·exact Vz 0 p hp ρ h
  ·exact Vz 1 p hp ρ h
end Go.Proofs.YtpdfmnhgocpkcaaGreat
