/- Parts of the proof, one behind the other. -/
import Derived.Test.YtpdfmnhgocpkcaaGreatTM6
import Derived.Test.YtpdfmnhgocpkcaaGreatTM5
import Derived.Test.YtpdfmnhgocpkcaaGreatXwM3
import Derived.Test.YtpdfmnhgocpkcaaGreatTM2
import Derived.Test.YtpdfmnhgocpkcaaGreatTM3
import Derived.Test.YtpdfmnhgocpkcaaGreatXwM1
namespace Go.Proofs.YtpdfmnhgocpkcaaGreat
open Go Go.Proofs.Aw Go.Proofs.Xw
set_option maxRecDepth 100000
theorem zt2:vM 2 (wY 2)=true:=by kernel_rfl
theorem zt3:vM 3 (wY 3)=true:=by kernel_rfl
theorem zt4:vM 4 (wY 4)=true:=by kernel_rfl
theorem zt5:vM 5 (wY 5)=true:=by kernel_rfl
theorem zt6:vM 6 (wY 6)=true:=by kernel_rfl
theorem zt7:vM 7 (wY 7)=true:=by kernel_rfl
theorem zt8:vM 8 (wY 8)=true:=by kernel_rfl
theorem zt9:vM 9 (wY 9)=true:=by kernel_rfl
theorem a95:Uh bD2 [(.lt (.lit 250) (.len 2),false)]=true:=by kernel_rfl
theorem ZZ:aB6 true []=true:=by kernel_rfl
end Go.Proofs.YtpdfmnhgocpkcaaGreat
namespace Go.Proofs.YtpdfmnhgocpkcaaGreat
open Go Go.Proofs.Aw Go.Proofs.Xw
abbrev lS:IE := .lit 1099511627776
abbrev YJ:BE := .or (.or (.not (.and (.and (.and (.not (.lt (.var 0) (.lit 0))) (.lt (.var 0) (.lit 3))) (.not (.lt (.var 1) (.lit 0)))) (.lt (.var 1) (.lit 3)))) (.lt (.var 2) (.lit 1))) (.lt lS (.var 2))
abbrev YI:BE := .not (.and (.and (.and (.and (.and (.not (.lt (.var 3) (.lit 1))) (.not (.lt lS (.var 3)))) (.not (.lt (.var 4) (.lit 0)))) (.lt (.var 4) (.lit 3))) (.not (.lt (.var 5) (.lit 0)))) (.lt (.var 5) (.lit 3)))
abbrev YH:BE := .or (.or (.or (.lt (.slen (.var 6)) (.lit 1)) (.lt (.lit 16) (.slen (.var 6)))) (.lt (.lit 32) (.slen (.var 7)))) (.and (.var 8) (.not (.seq (.var 7) (.lit ⟨#[]⟩))))
abbrev YG:BE := .or (.or (.or (.lt (.var 9) (.lit 0)) (.lt lS (.var 9))) (.or (.or (.lt (.var 10) (.lit 0)) (.lt lS (.var 10))) (.or (.lt (.var 11) (.lit 0)) (.lt lS (.var 11))))) (.or (.or (.or (.lt (.var 12) (.lit 0)) (.lt lS (.var 12))) (.or (.or (.lt (.var 13) (.lit 0)) (.lt lS (.var 13))) (.or (.lt (.var 14) (.lit 0)) (.lt lS (.var 14))))) (.or (.or (.lt (.var 15) (.lit 0)) (.lt lS (.var 15))) (.or (.or (.lt (.var 16) (.lit 0)) (.lt lS (.var 16))) (.or (.lt (.var 17) (.lit 0)) (.lt lS (.var 17))))))
abbrev P6:BE := .eq (.var 0) (.lit 0)
abbrev P5:BE := .eq (.var 1) (.lit 0)
abbrev PZ:BE := .eq (.var 1) (.lit 1)
abbrev PY:BE := .eq (.var 0) (.lit 1)
abbrev YF:BE := .eq (.ite (.and P6 P5) (.var 9) (.ite (.and P6 PZ) (.var 10) (.ite P6 (.var 11) (.ite (.and PY P5) (.var 12) (.ite (.and PY PZ) (.var 13) (.ite PY (.var 14) (.ite P5 (.var 15) (.ite PZ (.var 16) (.var 17))))))))) (.op .sub .i64 (.var 2) (.lit 1))
abbrev Tq:IE := .op .psub .i64 (.var 0) (.var 2)
abbrev Tn:IE := .op .psub .i64 (.var 1) (.var 3)
abbrev Tm:IE := .op .sub .i64 (.var 0) (.var 2)
abbrev Tj:IE := .op .sub .i64 (.var 1) (.var 3)
abbrev Ti:X := .sc (.i .i64 (.slen (.var 0)))
abbrev vC:X := .sc (.s (.var 0))
abbrev Tf:X := .sc (.c (.lit 0) (.lit false) (.lit 0) (.lit false))
abbrev Td:ig:=[(9,(.sc (.i .i64 (.var 100)))),(8,Ti),(7,vC),(3,(.sc (.i .u64 (.var 101)))),(2,Tf),(0,vC)]
abbrev Tc:IE := .op .add .i64 (.var 100) (.lit 1)
abbrev S9:IE := .op .mul .u64 (.op .xor .u64 (.var 101) (.op .conv .u64 (.byt (.var 0) (.var 100)) (.lit 0))) (.lit 1099511628211)
abbrev SY:BE := .lt (.var 100) (.slen (.var 0))
abbrev C9:X := .sc (.i .i64 (.lit 0))
abbrev SX:ig:=[(5,(.sc (.i .i64 (.var 140)))),(4,(.sc (.i .u64 (.var 141)))),(3,C9),(2,C9),(0,vC)]
abbrev SV:IE := .op .add .i64 (.var 140) (.lit 1)
abbrev SS:IE := .op .mul .u64 (.op .xor .u64 (.var 141) (.op .conv .u64 (.byt (.var 0) (.var 140)) (.lit 0))) (.lit 1099511628211)
abbrev SQ:BE := .lt (.var 140) (.slen (.var 0))
abbrev SN:IE := .op .mul .u64 (.op .xor .u64 (.var 141) (.op .shr .u64 (.var 141) (.lit 32))) (.lit 11400714819323198485)
abbrev SL:IE := .op .xor .u64 SN (.op .shr .u64 SN (.lit 29))
abbrev SK:IE := .op .sub .i64 (.op .conv .i64 (.op .and .u64 SL (.lit 1048575)) (.lit 0)) (.lit 524288)
abbrev SI:IE := .op .sub .i64 (.op .conv .i64 (.op .and .u64 (.op .shr .u64 SL (.lit 20)) (.lit 1048575)) (.lit 0)) (.lit 524288)
set_option maxRecDepth 100000
def aS5:BE:=(.and (.not (.or YJ (.or (.or (.or YI (.not (.eq (.var 4) (.var 0)))) (.not (.eq (.var 5) (.var 1)))) (.or YH (.or YG (.not YF)))))) (.and (.and (.and (.not (.lt (.var 18) (.lit 0))) (.lt (.var 18) (.lit 4))) (.not (.lt (.var 19) (.lit 1)))) (.not (.lt lS (.var 19)))))
theorem bB3:aU (cU []) 28 [.agg (enX 0)] [] = .ret (.sc (.b aS5)):=by kernel_rfl
def Vh:BE:=(.and (.not (.or (.or (.or YJ YI) (.not (.eq (.var 4) (.var 0)))) (.not (.eq (.var 5) (.var 1))))) (.and (.not YH) (.and (.and (.and (.and (.and (.not YG) YF) (.not (.lt (.var 18) (.lit 0)))) (.lt (.var 18) (.lit 4))) (.not (.lt (.var 19) (.lit 1)))) (.not (.lt lS (.var 19))))))
theorem bA9:aU (cU []) 81 [.agg (enX 0)] [] = .ret (.sc (.b Vh)):=by kernel_rfl
theorem v_w (J:Rho):(aS5).den J=(Vh).den J:=mP (w:=false) (n:=300) (hs:=[]) (by kernel_rfl) J
def bdW:List BE:=[ib (.var 0) 0 2,ib (.var 1) 0 2,ib (.var 2) 1 1099511627776]++(List.range 9).map fun k=>ib (.var (9+k)) 0 1099511627776
theorem b_w (J:Rho) (h:(Vh).den J=true):∀c∈bdW,c.den J=true:=qh (hs:=[]) h (by kernel_rfl)
end Go.Proofs.YtpdfmnhgocpkcaaGreat
namespace Go.Proofs.YtpdfmnhgocpkcaaGreat
open Go Go.Proofs.Aw Go.Proofs.Xw
set_option maxRecDepth 100000
theorem QZ {J:Rho} {e:IE} {lo hi:Int} (h:(ib e lo hi).den J=true):lo<=e.den J/\e.den J<=hi:=by
 have h:((!decide (e.den J<lo)) && !decide (hi<e.den J))=true:=h
 simp only[Bool.and_eq_true,Bool.not_eq_true',decide_eq_false_iff_not]at h
 omega
theorem bA7 (J:Rho):∃b:Bool,Cy 28 (X.denL J [.agg (enX 0)]) (.sc (.bool b))/\Cy 81 (X.denL J [.agg (enX 0)]) (.sc (.bool b))/\(b=true->∀c∈bdW,c.den J=true):=by
 have a1:=dM (pJ J) (List.forall_mem_nil _) (Facts.ok_nil J) (show(aU (cU []) 28 [.agg (enX 0)] []).sel J=some _ by rw[bB3];rfl)
 have a2:=dM (pJ J) (List.forall_mem_nil _) (Facts.ok_nil J) (show(aU (cU []) 81 [.agg (enX 0)] []).sel J=some _ by rw[bA9];rfl)
 refine⟨(Vh).den J,?_,a2,b_w J⟩
 rw[<-v_w];exact a1
theorem aU9 (J:Rho):∃g,Ufs 2 ((VB 0).den J) g:=by
 obtain⟨b,h1,h2,h3⟩:=bA7 J
 refine⟨fun _=>if b=true then 1 else 0,⟨fun f hf n h => ?_,fun j => ?_,fun hg => ?_⟩⟩
 ·have e:ufR 2 (fun _=>if b=true then 1 else 0) = .sc (.bool b):=by cases b<;>rfl
  rw[e]
  simp only[zW,List.mem_cons,List.not_mem_nil,or_false]at hf
  rcases hf with rfl | rfl
  ·exact h1.2 n h
  ·exact h2.2 n h
 ·simp only[MK];split<;>omega
 ·have hb:b=true:=by cases b<;>simp_all
  have g:=h3 hb
  have q:∀k:Nat,k<9->vI ((VB 0).den J) (9+k)=J.i (9+k):=fun k hk=>by
   rcases(show k=0\/k=1\/k=2\/k=3\/k=4\/k=5\/k=6\/k=7\/k=8 by omega)with rfl | rfl | rfl | rfl | rfl | rfl | rfl | rfl | rfl<;>rfl
  refine⟨QZ (g _ List.mem_cons_self),QZ (g _ (List.mem_cons_of_mem _ List.mem_cons_self)),QZ (g _ (List.mem_cons_of_mem _ (List.mem_cons_of_mem _ List.mem_cons_self))),fun k hk => ?_⟩
  rw[q k hk]
  exact QZ (g _ (List.mem_append_right _ (List.mem_map.2 ⟨k,List.mem_range.2 hk,rfl⟩)))
theorem Zx (f:Nat) (hf:f∈zW 2):iF Tryz.prog (sRe f):=⟨qy f (by simp only[zW,List.mem_cons,List.not_mem_nil,or_false]at hf;rcases hf with rfl | rfl<;>decide),fun J n h _=>by
 obtain⟨g,hg⟩:=aU9 J
 exact(lQ hg).cy f hf n h⟩
def YW:X->Option (Nat×List IE)
 | .sc (.i .i64 e)=>some (0,[e])
 | .sc (.c a (.lit false) b (.lit false))=>some (1,[a,b])
 | .agg [.sc (.i .i64 a),.sc (.i .i64 b),.sc (.i .i64 c),.sc (.i .i64 d),.sc (.i .i64 e),.sc (.i .i64 f),.sc (.i .i64 g),.sc (.i .i64 h),.sc (.i .i64 i)]=>some (2,[a,b,c,d,e,f,g,h,i])
 | _=>none
def rV (t:Nat) (g:Nat->Int):AV:=match t with
 | 0 => .sc (.int .i64 (g 0))
 | 1=>cV (g 0) (g 1)
 | _ => .agg ((List.range 9).map fun j => .sc (.int .i64 (g j)))
noncomputable def gV (J:Rho) (d:Int) (l:List IE) (j:Nat):Int:=match l[j]? with
 | some e=>e.den J
 | none=>d
theorem MJ {J:Rho} {x:X} {t:Nat} {l:List IE} (h:YW x=some (t,l)) (d:Int):x.den J=rV t (gV J d l):=by
 unfold YW at h
 split at h
 ·cases h;rfl
 ·cases h;rfl
 ·cases h;rfl
 ·cases h
def TT (Φ:Facts):List IE->List IE->Bool
 | [],[]=>true
 | a::l,b::m=>isT (nR Φ (.eq a b))&&TT Φ l m
 | _,_=>false
theorem Nc {J:Rho} {Φ:Facts} (hk:Facts.ok J Φ) (d:Int):∀{l m:List IE},TT Φ l m=true->gV J d l=gV J d m
 | [],[],_=>rfl
 | a::l,b::m,h=>by
  simp only[TT,Bool.and_eq_true]at h
  have h1:=wM hk h.1
  simp only[BE.den,beq_iff_eq]at h1
  have h2:=Nc hk d h.2
  funext j
  cases j with
  | zero=>exact h1
  | succ j=>exact congrFun h2 j
 | [],_::_,h=>by cases h
 | _::_,[],h=>by cases h
def inI (Φ:Facts) (lo hi:Int):IE->Bool
 | .ite _ a b=>inI Φ lo hi a&&inI Φ lo hi b
 | .op .max _ a b=>inI Φ lo hi a&&inI Φ lo hi b
 | e=>isT (nR Φ (.not (.lt e (.lit lo))))&&isT (nR Φ (.not (.lt (.lit hi) e)))
theorem bg0 {J:Rho} {Φ:Facts} (hk:Facts.ok J Φ) {lo hi:Int} (e:IE):inI Φ lo hi e=true->lo<=e.den J/\e.den J<=hi:=by
 fun_induction inI Φ lo hi e with
 | case1 c a b ih1 ih2 =>
  intro h
  rw[Bool.and_eq_true]at h
  cases hc:c.den J with
  | true=>rw[Ff hc];exact ih1 h.1
  | false=>rw[KN hc];exact ih2 h.2
 | case2 k a b ih1 ih2 =>
  intro h
  rw[Bool.and_eq_true]at h
  have h1:=ih1 h.1
  have h2:=ih2 h.2
  show lo<=Max.max (a.den J) (b.den J)/\Max.max (a.den J) (b.den J)<=hi
  omega
 | case3 e n1 n2 =>
  intro h
  rw[Bool.and_eq_true]at h
  have h1:¬e.den J<lo:=ltN (wM hk h.1)
  have h2:¬hi<e.den J:=ltN (wM hk h.2)
  omega
def inV (Φ:Facts) (lo hi:Int) (l:List IE):Bool:=l.all fun e=>inI Φ lo hi e
theorem bf9 {J:Rho} {Φ:Facts} (hk:Facts.ok J Φ) {lo hi d:Int} (hd:lo<=d/\d<=hi) {l:List IE} (h:inV Φ lo hi l=true) (j:Nat):lo<=gV J d l j/\gV J d l j<=hi:=by
 unfold gV
 split
 ·rename_i e he
  exact bg0 hk e (List.all_eq_true.1 h e (List.mem_of_getElem? he))
 ·exact hd
def BRq (Φ:Facts) (t:Nat) (lo hi:Int):T X->T X->Bool
 | .ret x,.ret y=>(match YW x,YW y with
  | some (a,l),some (b,m)=>Nat.beq a t&&(Nat.beq b t&&(TT Φ l m&&inV Φ lo hi l))
  | _,_=>false)
 | _,_=>false
theorem aa9 {sm:List Sm} (hsm:∀s∈sm,iF Tryz.prog s) {f f':Nat} {p:List X} {Φ:Facts} {t:Nat} {lo hi:Int} (hd:lo<=hi) (h:BRq Φ t lo hi (aU (cU sm) f p Φ) (aU (cU sm) f' p Φ)=true) {J:Rho} (hk:Facts.ok J Φ) :
  ∃l:List IE,(∃x,aU (cU sm) f p Φ = .ret x/\YW x=some (t,l))/\Cy f (X.denL J p) (rV t (gV J lo l))/\Cy f' (X.denL J p) (rV t (gV J lo l))/\∀j,lo<=gV J lo l j/\gV J lo l j<=hi:=by
 unfold BRq at h
 split at h
 ·rename_i x y e1 e2
  split at h
  ·rename_i a l b m v1 v2
   simp only[Bool.and_eq_true]at h
   obtain⟨h1,h2,h3,h4⟩:=h
   have h1:=Nat.eq_of_beq_eq_true h1
   have h2:=Nat.eq_of_beq_eq_true h2
   subst h1 h2
   have q1:=dM (pJ J) hsm hk (show(aU (cU sm) f p Φ).sel J=some _ by rw[e1];rfl)
   have q2:=dM (pJ J) hsm hk (show(aU (cU sm) f' p Φ).sel J=some _ by rw[e2];rfl)
   rw[MJ v1 lo]at q1
   rw[MJ v2 lo,<-Nc hk lo h3]at q2
   exact⟨l,⟨x,e1,v1⟩,q1,q2,bf9 hk ⟨Int.le_refl _,hd⟩ h4⟩
  ·cases h
 ·cases h
theorem UH:∀s∈[sMg,sTw],iF Tryz.prog s:=by
 have go:∀(f:Nat) (p:List X),tY (aU (cU []) f p []) (.ret mgR)=true->iF Tryz.prog ⟨f,p,mgR,.lit true⟩:=fun f p h=>by
  unfold tY at h
  split at h
  ·rename_i x y e1 e2
   cases e2
   have:=X.beq_eq _ _ h
   subst this
   exact ci0 (c:=cU []) (fun J=>pJ J) (List.forall_mem_nil _) e1
  ·cases h
 exact List.forall_mem_cons.2 ⟨go 29 _ (by kernel_rfl),List.forall_mem_cons.2 ⟨go 113 _ (by kernel_rfl),List.forall_mem_nil _⟩⟩
def LQ (k:Nat) (lo hi:Int):Facts:=[(.lt (.var k) (.lit lo),false),(.lt (.lit hi) (.var k),false)]
theorem ji {J:Rho} {k:Nat} {lo hi:Int} (h:lo<=J.i k/\J.i k<=hi) {Φ:Facts} (hk:Facts.ok J Φ):Facts.ok J (LQ k lo hi++Φ) :=
 Facts.ok_cons (nH (show ¬J.i k<lo by omega)) (Facts.ok_cons (nH (show ¬hi<J.i k by omega)) hk)
def wrF:Facts:=LQ 2 1 1099511627776++(LQ 9 0 1099511627776++(LQ 10 0 1099511627776++(LQ 11 0 1099511627776++(LQ 12 0 1099511627776++(LQ 13 0 1099511627776++(LQ 14 0 1099511627776++(LQ 15 0 1099511627776++(LQ 16 0 1099511627776++(LQ 17 0 1099511627776++[])))))))))
def paE (a b:Int):List X:=[.ro 20 [[xn a,xn b]++(enX 0).drop 2] false]
def paI (c k:Nat):IE:=if Nat.beq k c=true then .op .max .i64 (.op .max .i64 (.lit 0) (.var (9+k))) (.var 2)else .op .max .i64 (.lit 0) (.var (9+k))
def paX (c:Nat):X := .agg ((List.range 9).map fun k => .sc (.i .i64 (paI c k)))
noncomputable def paR (a b:Nat):Bool:=tY (aU (cU [sMg,sTw]) 24 (paE a b) wrF) (.ret (paX (3*a+b)))&&tY (aU (cU [sMg,sTw]) 114 (paE a b) wrF) (.ret (paX (3*a+b)))
theorem bE2:paR 0 0=true:=by kernel_rfl
theorem bE1:paR 0 1=true:=by kernel_rfl
theorem bE0:paR 0 2=true:=by kernel_rfl
theorem bD9:paR 1 0=true:=by kernel_rfl
theorem bD8:paR 1 1=true:=by kernel_rfl
theorem bD7:paR 1 2=true:=by kernel_rfl
theorem bD6:paR 2 0=true:=by kernel_rfl
theorem bD5:paR 2 1=true:=by kernel_rfl
theorem bD4:paR 2 2=true:=by kernel_rfl
theorem bD3 {a b:Nat} (ha:a<3) (hb:b<3):paR a b=true:=by
 rcases(show a=0\/a=1\/a=2 by omega)with rfl | rfl | rfl<;>rcases(show b=0\/b=1\/b=2 by omega)with rfl | rfl | rfl
 ·exact bE2
 ·exact bE1
 ·exact bE0
 ·exact bD9
 ·exact bD8
 ·exact bD7
 ·exact bD6
 ·exact bD5
 ·exact bD4
theorem TC {t:T X} {x:X} (h:tY t (.ret x)=true):t = .ret x:=by
 cases t with
 | ret y=>exact congrArg T.ret (X.beq_eq _ _ h)
 | br _ _ _=>cases h
 | need _ _=>cases h
 | fail _=>cases h
theorem cyU {sm:List Sm} (hsm:∀s∈sm,iF Tryz.prog s) {J:Rho} {f:Nat} {p:List X} {Φ:Facts} {x:X} (hk:Facts.ok J Φ) (h:aU (cU sm) f p Φ = .ret x):Cy f (X.denL J p) (x.den J):=dM (pJ J) hsm hk (by rw[h];rfl)
theorem aC1 (J:Rho) (c k:Nat):(paI c k).den J=max (max 0 (J.i (9+k))) (if(c:Int)=k then J.i 2 else 0)\/J.i 2<0:=by
 unfold paI
 by_cases h:k=c
 ·left
  subst h
  rw[if_pos (Nat.beq_refl k),if_pos rfl]
  rfl
 ·left
  rw[if_neg (by simpa using h),if_neg (by omega)]
  show max 0 (J.i (9+k))=_
  omega
theorem bs3 {J:Rho} (h:UF 2 ((VB 0).den J) 0=1):∃g,Ufs 3 ((VB 0).den J) g:=by
 obtain⟨g2,hg⟩:=aU9 J
 obtain⟨q0,q1,q2,q3⟩:=(lQ hg).pr h
 have q0:0<=J.i 0/\J.i 0<=2:=q0
 have q1:0<=J.i 1/\J.i 1<=2:=q1
 have q2:1<=J.i 2/\J.i 2<=1099511627776:=q2
 have e9:∀k:Nat,k<9->vI ((VB 0).den J) (9+k)=J.i (9+k):=fun k hk=>by
  rcases(show k=0\/k=1\/k=2\/k=3\/k=4\/k=5\/k=6\/k=7\/k=8 by omega)with rfl | rfl | rfl | rfl | rfl | rfl | rfl | rfl | rfl<;>rfl
 have q3:∀k:Nat,k<9->0<=J.i (9+k)/\J.i (9+k)<=1099511627776:=fun k hk=>by have:=q3 k hk;rw[e9 k hk]at this;exact this
 have hk:Facts.ok J wrF:=ji q2 (ji (q3 0 (by omega)) (ji (q3 1 (by omega)) (ji (q3 2 (by omega)) (ji (q3 3 (by omega)) (ji (q3 4 (by omega)) (ji (q3 5 (by omega)) (ji (q3 6 (by omega)) (ji (q3 7 (by omega)) (ji (q3 8 (by omega)) (Facts.ok_nil J))))))))))
 obtain⟨a,b,ha,hb,ea,eb⟩:∃a b:Nat,a<3/\b<3/\J.i 0=a/\J.i 1=b:=⟨(J.i 0).toNat,(J.i 1).toNat,by omega,by omega,by omega,by omega⟩
 have hr:=bD3 ha hb
 unfold paR at hr
 rw[Bool.and_eq_true]at hr
 have r1:=cyU UH hk (TC hr.1)
 have r2:=cyU UH hk (TC hr.2)
 have ed:ufA 3 ((VB 0).den J)=X.denL J (paE a b):=by
  show X.denL J (paE (J.i 0) (J.i 1))=_
  rw[ea,eb]
 have es:J.i 0*3+J.i 1=((3*a+b:Nat):Int):=by omega
 let g:Nat->Int:=fun k=>if k<9 then EG ((VB 0).den J) k else 0
 have gk:∀k,k<9->g k=(paI (3*a+b) k).den J:=fun k hk9=>by
  show(if k<9 then EG ((VB 0).den J) k else 0)=_
  rw[if_pos hk9]
  unfold EG
  rw[e9 k hk9]
  show max (max 0 (J.i (9+k))) (if J.i 0*3+J.i 1=k then J.i 2 else 0)=_
  rw[es]
  rcases aC1 J (3*a+b) k with h | h
  ·exact h.symm
  ·omega
 have er:ufR 3 g=X.den J (paX (3*a+b)):=by
  show AV.agg ((List.range 9).map fun j => .sc (.int .i64 (g j)))=AV.agg (X.denL J ((List.range 9).map fun k => .sc (.i .i64 (paI (3*a+b) k))))
  rw[X.denL_eq,List.map_map]
  congr 1
  refine List.map_congr_left fun j hj => ?_
  show AV.sc (.int .i64 (g j))=AV.sc (.int .i64 ((paI (3*a+b) j).den J))
  rw[gk j (List.mem_range.1 hj)]
 refine⟨g,⟨fun f hf n hp => ?_,fun j => ?_,fun k hk9=>if_pos hk9⟩⟩
 ·rw[ed,er]
  simp only[zW,List.mem_cons,List.not_mem_nil,or_false]at hf
  rcases hf with rfl | rfl
  ·exact r1.2 n hp
  ·exact r2.2 n hp
 ·show(0:Int)<=g j/\g j<=1099511627776
  by_cases hj:j<9
  ·have h1:=q3 j hj
   have:g j=EG ((VB 0).den J) j:=if_pos hj
   rw[this]
   unfold EG
   rw[e9 j hj]
   show(0:Int)<=max (max 0 (J.i (9+j))) (if J.i 0*3+J.i 1=j then J.i 2 else 0)/\max (max 0 (J.i (9+j))) (if J.i 0*3+J.i 1=j then J.i 2 else 0)<=1099511627776
   split<;>omega
  ·have:g j=0:=if_neg hj
   omega
theorem Ve {J:Rho} {k:Nat} {a:AL} (h:(BE.eq (.uf k 0 a) (.lit 1)).den J=true):UF k (a.den J) 0=1:=by simpa [BE.den,IE.den]using h
theorem Zy (f:Nat) (hf:f∈zW 3):iF Tryz.prog (sPa f):=⟨qy f (by simp only[zW,List.mem_cons,List.not_mem_nil,or_false]at hf;rcases hf with rfl | rfl<;>decide),fun J n h hp=>by
 obtain⟨g,hg⟩:=bs3 (Ve hp)
 exact(lQ hg).cy f hf n h⟩
def Xj (_:Int):Facts:=LQ 1 0 2++(LQ 2 0 3++[])
def XP:Facts:=LQ 1 0 3++[]
theorem aE2:BRq (Xj 0) 1 (-16384) 16384 (aU (cU []) 36 [xn 0,xi 1,xi 2] (Xj 0)) (aU (cU []) 108 [xn 0,xi 1,xi 2] (Xj 0))=true:=by kernel_rfl
theorem aE1:BRq (Xj 0) 1 (-16384) 16384 (aU (cU []) 36 [xn 1,xi 1,xi 2] (Xj 0)) (aU (cU []) 108 [xn 1,xi 1,xi 2] (Xj 0))=true:=by kernel_rfl
theorem aE0:BRq (Xj 0) 1 (-16384) 16384 (aU (cU []) 36 [xn 2,xi 1,xi 2] (Xj 0)) (aU (cU []) 108 [xn 2,xi 1,xi 2] (Xj 0))=true:=by kernel_rfl
theorem aH6:BRq XP 1 (-16384) 16384 (aU (cU []) 34 [xn 0,xi 1] XP) (aU (cU []) 110 [xn 0,xi 1] XP)=true:=by kernel_rfl
theorem aH5:BRq XP 1 (-16384) 16384 (aU (cU []) 34 [xn 1,xi 1] XP) (aU (cU []) 110 [xn 1,xi 1] XP)=true:=by kernel_rfl
theorem aH4:BRq XP 1 (-16384) 16384 (aU (cU []) 34 [xn 2,xi 1] XP) (aU (cU []) 110 [xn 2,xi 1] XP)=true:=by kernel_rfl
theorem cf2 {J:Rho} (h0:0<=J.i 0/\J.i 0<=2) (h1:0<=J.i 1/\J.i 1<=2) (h2:0<=J.i 2/\J.i 2<=3):∃g,Ufs 4 ((CG 0 3 .nil).den J) g:=by
 have hk:Facts.ok J (Xj 0):=ji h1 (ji h2 (Facts.ok_nil J))
 have go:∀d:Int,J.i 0=d->BRq (Xj 0) 1 (-16384) 16384 (aU (cU []) 36 [xn d,xi 1,xi 2] (Xj 0)) (aU (cU []) 108 [xn d,xi 1,xi 2] (Xj 0))=true->∃g,Ufs 4 ((CG 0 3 .nil).den J) g:=fun d hd hr=>by
  obtain⟨l,_,h1,h2,h3⟩:=aa9 (List.forall_mem_nil _) (by decide) hr hk
  have e:ufA 4 ((CG 0 3 .nil).den J)=X.denL J [xn d,xi 1,xi 2]:=by rw[<-hd];rfl
  refine⟨gV J (-16384) l,⟨fun f hf n h => ?_,h3,trivial⟩⟩
  rw[e]
  simp only[zW,List.mem_cons,List.not_mem_nil,or_false]at hf
  rcases hf with rfl | rfl
  ·exact h1.2 n h
  ·exact h2.2 n h
 rcases(show J.i 0=0\/J.i 0=1\/J.i 0=2 by omega)with h | h | h
 ·exact go 0 h aE2
 ·exact go 1 h aE1
 ·exact go 2 h aE0
theorem cf0 {J:Rho} (h0:0<=J.i 0/\J.i 0<=2) (h1:0<=J.i 1/\J.i 1<=3):∃g,Ufs 5 ((CG 0 2 .nil).den J) g:=by
 have hk:Facts.ok J XP:=ji h1 (Facts.ok_nil J)
 have go:∀d:Int,J.i 0=d->BRq XP 1 (-16384) 16384 (aU (cU []) 34 [xn d,xi 1] XP) (aU (cU []) 110 [xn d,xi 1] XP)=true->∃g,Ufs 5 ((CG 0 2 .nil).den J) g:=fun d hd hr=>by
  obtain⟨l,_,h1,h2,h3⟩:=aa9 (List.forall_mem_nil _) (by decide) hr hk
  have e:ufA 5 ((CG 0 2 .nil).den J)=X.denL J [xn d,xi 1]:=by rw[<-hd];rfl
  refine⟨gV J (-16384) l,⟨fun f hf n h => ?_,h3,trivial⟩⟩
  rw[e]
  simp only[zW,List.mem_cons,List.not_mem_nil,or_false]at hf
  rcases hf with rfl | rfl
  ·exact h1.2 n h
  ·exact h2.2 n h
 rcases(show J.i 0=0\/J.i 0=1\/J.i 0=2 by omega)with h | h | h
 ·exact go 0 h aH6
 ·exact go 1 h aH5
 ·exact go 2 h aH4
theorem ib2 {J:Rho} {a b:BE} (h:(BE.and a b).den J=true):a.den J=true/\b.den J=true:=by
 have h:(a.den J&&b.den J)=true:=h
 simpa using h
theorem ZA (f:Nat) (hf:f∈zW 4):iF Tryz.prog (sNo f):=⟨qy f (by simp only[zW,List.mem_cons,List.not_mem_nil,or_false]at hf;rcases hf with rfl | rfl<;>decide),fun J n h hp=>by
 obtain⟨h1,h2⟩:=ib2 hp
 obtain⟨h2,h3⟩:=ib2 h2
 obtain⟨g,hg⟩:=cf2 (QZ h1) (QZ h2) (QZ h3)
 exact(lQ hg).cy f hf n h⟩
theorem ZC (f:Nat) (hf:f∈zW 5):iF Tryz.prog (sHo f):=⟨qy f (by simp only[zW,List.mem_cons,List.not_mem_nil,or_false]at hf;rcases hf with rfl | rfl<;>decide),fun J n h hp=>by
 obtain⟨h1,h2⟩:=ib2 hp
 obtain⟨g,hg⟩:=cf0 (QZ h1) (QZ h2)
 exact(lQ hg).cy f hf n h⟩
end Go.Proofs.YtpdfmnhgocpkcaaGreat
namespace Go.Proofs.YtpdfmnhgocpkcaaGreat
open Go Go.Proofs.Aw Go.Proofs.Xw
set_option maxRecDepth 100000
def faP:List X:=[plX 0 1,plX 2 3]
def faF:Facts:=LQ 0 (-16384) 16384++(LQ 1 (-16384) 16384++(LQ 2 (-16384) 16384++(LQ 3 (-16384) 16384++[])))
def faE:IE:=(.op .add .i64 (.op .mul .i64 Tq Tq) (.op .mul .i64 Tn Tn))
def faD:IE:=(.op .add .i64 (.op .mul .i64 Tm Tm) (.op .mul .i64 Tj Tj))
theorem bi9:tY (aU (cU []) 35 faP faF) (.ret (.sc (.i .i64 faE)))=true:=by kernel_rfl
theorem bj0:tY (aU (cU []) 135 faP faF) (.ret (.sc (.i .i64 faD)))=true:=by kernel_rfl
theorem mG {t:T X} {x:X} (h:tY t (.ret x)=true):t = .ret x:=by
 cases t with
 | ret y=>exact congrArg T.ret (X.beq_eq _ _ h)
 | br _ _ _=>cases h
 | need _ _=>cases h
 | fail _=>cases h
theorem aP5 {x:Int} (h1 : -32768<=x) (h2:x<=32768):0<=x*x/\x*x<=1073741824:=by
 have e:x*x=(x.natAbs:Int)*x.natAbs:=by rw[<-Int.natAbs_mul_self' x]
 have h:x.natAbs*x.natAbs<=32768*32768:=Nat.mul_le_mul (by omega) (by omega)
 rw[e]
 generalize x.natAbs=n at h
 constructor
 ·exact Int.mul_nonneg (by omega) (by omega)
 ·have:((n*n:Nat):Int)<=1073741824:=by omega
  rwa[Int.natCast_mul]at this
def faV (J:Rho):Int:=(J.i 0-J.i 2)*(J.i 0-J.i 2)+(J.i 1-J.i 3)*(J.i 1-J.i 3)
theorem aI8 {J:Rho} (h:∀k,k<4 -> -16384<=J.i k/\J.i k<=16384):faE.den J=faV J/\faD.den J=faV J/\0<=faV J/\faV J<=2147483648:=by
 have h0:=h 0 (by omega);have h1:=h 1 (by omega);have h2:=h 2 (by omega);have h3:=h 3 (by omega)
 have e1:faE.den J=IntKind.i64.wrap (IntKind.i64.wrap ((J.i 0-J.i 2)*(J.i 0-J.i 2))+IntKind.i64.wrap ((J.i 1-J.i 3)*(J.i 1-J.i 3))):=rfl
 have e2:faD.den J=IntKind.i64.wrap (IntKind.i64.wrap (IntKind.i64.wrap (J.i 0-J.i 2)*IntKind.i64.wrap (J.i 0-J.i 2))+IntKind.i64.wrap (IntKind.i64.wrap (J.i 1-J.i 3)*IntKind.i64.wrap (J.i 1-J.i 3))):=rfl
 rw[e1,e2,aP (J.i 0-J.i 2) (by omega) (by omega),aP (J.i 1-J.i 3) (by omega) (by omega)]
 have a:=aP5 (x:=J.i 0-J.i 2) (by omega) (by omega)
 have b:=aP5 (x:=J.i 1-J.i 3) (by omega) (by omega)
 unfold faV
 generalize (J.i 0-J.i 2)*(J.i 0-J.i 2)=p at a ⊢
 generalize (J.i 1-J.i 3)*(J.i 1-J.i 3)=q at b ⊢
 rw[aP p (by omega) (by omega),aP q (by omega) (by omega),aP _ (by omega) (by omega)]
 omega
theorem bs2 {J:Rho} (h:∀k,k<4 -> -16384<=J.i k/\J.i k<=16384):∃g,Ufs 6 ((CG 0 4 .nil).den J) g:=by
 have hk:Facts.ok J faF:=ji (h 0 (by omega)) (ji (h 1 (by omega)) (ji (h 2 (by omega)) (ji (h 3 (by omega)) (Facts.ok_nil J))))
 obtain⟨d1,d2,d3,d4⟩:=aI8 h
 have q1:=dM (pJ J) (List.forall_mem_nil _) hk (show(aU (cU []) 35 faP faF).sel J=some _ by rw[mG bi9];rfl)
 have q2:=dM (pJ J) (List.forall_mem_nil _) hk (show(aU (cU []) 135 faP faF).sel J=some _ by rw[mG bj0];rfl)
 have q1:Cy 35 (X.denL J faP) (.sc (.int .i64 (faE.den J))):=q1
 have q2:Cy 135 (X.denL J faP) (.sc (.int .i64 (faD.den J))):=q2
 rw[d1]at q1
 rw[d2]at q2
 refine⟨fun _=>faV J,⟨fun f hf n hp => ?_,fun j => ?_,rfl⟩⟩
 ·simp only[zW,List.mem_cons,List.not_mem_nil,or_false]at hf
  rcases hf with rfl | rfl
  ·exact q1.2 n hp
  ·exact q2.2 n hp
 ·simp only[MK];omega
theorem JX (f:Nat) (hf:f∈zW 6):iF Tryz.prog (sFa f):=⟨qy f (by simp only[zW,List.mem_cons,List.not_mem_nil,or_false]at hf;rcases hf with rfl | rfl<;>decide),fun J n h hp=>by
 obtain⟨h0,h1⟩:=ib2 hp
 obtain⟨h1,h2⟩:=ib2 h1
 obtain⟨h2,h3⟩:=ib2 h2
 obtain⟨g,hg⟩:=bs2 (J:=J) fun k hk=>by
  rcases(show k=0\/k=1\/k=2\/k=3 by omega)with rfl | rfl | rfl | rfl
  ·exact QZ h0
  ·exact QZ h1
  ·exact QZ h2
  ·exact QZ h3
 exact(lQ hg).cy f hf n h⟩
def smF:List Sm:=[sFa 35,sFa 135]
theorem Zq:∀s∈smF,iF Tryz.prog s:=List.forall_mem_cons.2 ⟨JX 35 (by decide),List.forall_mem_cons.2 ⟨JX 135 (by decide),List.forall_mem_nil _⟩⟩
def neP (n:Nat):List X:=[plX 0 1,.ro 1 ((List.range n).map fun k=>[plX (2*k+2) (2*k+3)]) false]
def neF:Nat->Facts
 | 0=>[]
 | n+1=>LQ n (-16384) 16384++neF n
theorem ac8 {J:Rho}:∀{n:Nat},(∀k,k<n -> -16384<=J.i k/\J.i k<=16384)->Facts.ok J (neF n)
 | 0,_=>Facts.ok_nil J
 | n+1,h=>ji (h n (by omega)) (ac8 fun k hk=>h k (by omega))
def dE (j:Nat):IE := .uf 6 0 (.i (.var 0) (.i (.var 1) (.i (.var (2*j+2)) (.i (.var (2*j+3)) .nil))))
noncomputable def mnT (n:Nat):Nat->Nat->Nat->Facts->Bool
 | 0,_,m,Φ=>tY (aU (cU smF) 92 (neP n) Φ) (.ret (xn m))&&tY (aU (cU smF) 109 (neP n) Φ) (.ret (xn m))
 | r+1,j,m,Φ=>mnT n r (j+1) j ((.lt (dE j) (dE m),true)::Φ)&&mnT n r (j+1) m ((.lt (dE j) (dE m),false)::Φ)
theorem Iy {J:Rho} {n:Nat}:∀(r j m:Nat) (Φ:Facts),mnT n r j m Φ=true->Facts.ok J Φ->m<j->(∀k,k<j->(dE m).den J<=(dE k).den J) ->
  ∃m':Nat,m'<j+r/\Cy 92 (X.denL J (neP n)) (.sc (.int .i64 m'))/\Cy 109 (X.denL J (neP n)) (.sc (.int .i64 m'))/\∀k,k<j+r->(dE m').den J<=(dE k).den J
 | 0,j,m,Φ,h,hk,hm,hd=>by
  simp only[mnT,Bool.and_eq_true]at h
  have e1:=mG h.1
  have e2:=mG h.2
  have q1:=dM (pJ J) Zq hk (show(aU (cU smF) 92 (neP n) Φ).sel J=some (xn m)by rw[e1];rfl)
  have q2:=dM (pJ J) Zq hk (show(aU (cU smF) 109 (neP n) Φ).sel J=some (xn m)by rw[e2];rfl)
  exact⟨m,hm,q1,q2,hd⟩
 | r+1,j,m,Φ,h,hk,hm,hd=>by
  simp only[mnT,Bool.and_eq_true]at h
  have e:j+(r+1)=j+1+r:=by omega
  rw[e]
  by_cases hc:(dE j).den J<(dE m).den J
  ·refine Iy r (j+1) j _ h.1 (Facts.ok_cons (UI hc) hk) (by omega) fun k hk' => ?_
   by_cases hj:k=j
   ·rw[hj];exact Int.le_refl _
   ·have:=hd k (by omega);omega
  ·refine Iy r (j+1) m _ h.2 (Facts.ok_cons (nH hc) hk) (by omega) fun k hk' => ?_
   by_cases hj:k=j
   ·rw[hj];omega
   ·exact hd k (by omega)
theorem mn1:mnT 1 0 1 0 (neF 4)=true:=by kernel_rfl
theorem mn2:mnT 2 1 1 0 (neF 6)=true:=by kernel_rfl
theorem mn3:mnT 3 2 1 0 (neF 8)=true:=by kernel_rfl
theorem mn4:mnT 4 3 1 0 (neF 10)=true:=by kernel_rfl
theorem LV (J:Rho) {n:Nat} (hn:n=1\/n=2\/n=3\/n=4):((CG 0 (2*n+2) .nil).den J).length=2*n+2:=by
 rcases hn with rfl | rfl | rfl | rfl<;>rfl
theorem D5 (J:Rho) {n:Nat} (hn:n=1\/n=2\/n=3\/n=4) {i:Nat} (hi:i<2*n+2):vI ((CG 0 (2*n+2) .nil).den J) i=J.i i:=by
 have h:i=0\/i=1\/i=2\/i=3\/i=4\/i=5\/i=6\/i=7\/i=8\/i=9:=by omega
 rcases hn with rfl | rfl | rfl | rfl<;>rcases h with rfl | rfl | rfl | rfl | rfl | rfl | rfl | rfl | rfl | rfl<;>first | rfl | omega
theorem UA (J:Rho) {n:Nat} (hn:n=1\/n=2\/n=3\/n=4):X.denL J (neP n)=ufA 8 ((CG 0 (2*n+2) .nil).den J):=by
 rcases hn with rfl | rfl | rfl | rfl<;>kernel_rfl
theorem bl2 {J:Rho} {n j:Nat} (hj:j<n) (h:∀k,k<2*n+2 -> -16384<=J.i k/\J.i k<=16384):(dE j).den J=(J.i 0-J.i (2*j+2))*(J.i 0-J.i (2*j+2))+(J.i 1-J.i (2*j+3))*(J.i 1-J.i (2*j+3)):=by
 let J':Rho:={ J with i:=fun k=>if k=2 then J.i (2*j+2)else if k=3 then J.i (2*j+3)else J.i k }
 obtain⟨g,hg⟩:=bs2 (J:=J') fun k hk=>by
  rcases(show k=0\/k=1\/k=2\/k=3 by omega)with rfl | rfl | rfl | rfl
  ·exact h 0 (by omega)
  ·exact h 1 (by omega)
  ·exact h (2*j+2) (by omega)
  ·exact h (2*j+3) (by omega)
 exact(lQ hg).pr
theorem bs1 {J:Rho} {n:Nat} (hn:n=1\/n=2\/n=3\/n=4) (h:∀k,k<2*n+2 -> -16384<=J.i k/\J.i k<=16384):∃g,Ufs 8 ((CG 0 (2*n+2) .nil).den J) g:=by
 have hk:Facts.ok J (neF (2*n+2)):=ac8 h
 have key:∃m':Nat,m'<n/\Cy 92 (X.denL J (neP n)) (.sc (.int .i64 m'))/\Cy 109 (X.denL J (neP n)) (.sc (.int .i64 m'))/\∀k,k<n->(dE m').den J<=(dE k).den J:=by
  have z:∀k,k<1->(dE 0).den J<=(dE k).den J:=fun k hk=>by
   obtain rfl:k=0:=by omega
   exact Int.le_refl _
  rcases hn with rfl | rfl | rfl | rfl
  ·exact Iy 0 1 0 _ mn1 hk (by omega) z
  ·exact Iy 1 1 0 _ mn2 hk (by omega) z
  ·exact Iy 2 1 0 _ mn3 hk (by omega) z
  ·exact Iy 3 1 0 _ mn4 hk (by omega) z
 obtain⟨m,hm,h1,h2,h3⟩:=key
 rw[UA J hn]at h1 h2
 have dd:∀k,k<n->dst ((CG 0 (2*n+2) .nil).den J) 0 (2*k+2)=(dE k).den J:=fun k hk=>by
  unfold dst
  rw[bl2 hk h,D5 J hn (i:=0) (by omega),D5 J hn (i:=0+1) (by omega),D5 J hn (i:=2*k+2) (by omega),D5 J hn (i:=2*k+2+1) (by omega)]
 have hl:((CG 0 (2*n+2) .nil).den J).length / 2-1=n:=by rw[LV J hn];omega
 refine⟨fun _=>m,⟨fun f hf n hp => ?_,fun j => ?_,?_⟩⟩
 ·simp only[zW,List.mem_cons,List.not_mem_nil,or_false]at hf
  rcases hf with rfl | rfl
  ·exact h1.2 n hp
  ·exact h2.2 n hp
 ·simp only[MK];omega
 ·refine⟨show(m:Int)<_ by rw[show((((CG 0 (2*n+2) .nil).den J).length:Int) / 2-1)=n by rw[LV J hn];omega];omega,fun k hk => ?_⟩
  rw[hl]at hk
  have e:((m:Int)).toNat=m:=Int.toNat_natCast m
  simp only[e]
  rw[dd m hm,dd k hk]
  exact h3 k hk
theorem aB5 {J:Rho} {n:Nat} (h:(bD1 n).den J=true):∀k,k<2*n+2 -> -16384<=J.i k/\J.i k<=16384:=by
 have go:∀(l:List Nat),(l.foldr (fun k b=>BE.and (ib (.var k) (-16384) 16384) b) (.lit true)).den J=true->∀k∈l,-16384<=J.i k/\J.i k<=16384:=fun l=>by
  induction l with
  | nil=>intro _ k hk;cases hk
  | cons a l ih =>
   intro hl k hk
   obtain⟨g1,g2⟩:=ib2 hl
   rcases List.mem_cons.1 hk with rfl | hk
   ·exact QZ g1
   ·exact ih g2 k hk
 exact fun k hk=>go _ h k (List.mem_range.2 hk)
theorem uq (f n:Nat) (hf:f∈zW 8) (hn:n=1\/n=2\/n=3\/n=4):iF Tryz.prog (sNe f n):=⟨qy f (by simp only[zW,List.mem_cons,List.not_mem_nil,or_false]at hf;rcases hf with rfl | rfl<;>decide),fun J m h hp=>by
 obtain⟨g,hg⟩:=bs1 hn (aB5 hp)
 have:=(lQ hg).cy f hf m h
 rw[<-UA J hn]at this
 exact this⟩
def smR:List Sm:=[sRt 97,sRt 105]
theorem Zp:∀s∈smR,iF Tryz.prog s:=List.forall_mem_cons.2 ⟨JW 97 (by decide),List.forall_mem_cons.2 ⟨JW 105 (by decide),List.forall_mem_nil _⟩⟩
def bn7 (n:Int) (j:Bool):AL := .i (.var 0) (.i (.lit n) (CG 2 8 (.b (.lit j) (.i (.var 11) (.i (.var 12) .nil)))))
theorem ap6 (J:Rho):(Jq 0).den J=(bn7 (J.i 1) (J.b 10)).den J:=rfl
def rtT (n:Nat) (j:Bool):Facts:=[(.eq (.uf 1 0 (bn7 n j)) (.lit 1),true)]
def rtN:Facts:=[(.eq (.uf 1 0 (Jq 0)) (.lit 1),false)]
noncomputable def J3 (f n:Nat) (j:Bool) (k:Nat):Bool:=tY (aU (cU smR) f (DV n j) (rtT n j)) (.ret (xi k))
noncomputable def runN (f:Nat):Bool:=tY (aU (cU smR) f [.agg (Pe 0)] rtN) (.ret (xn (-1)))
noncomputable def Yi (f:Nat) (k:Nat->Nat):Bool:=runN f&&(J3 f 1 false (k 1)&&(J3 f 1 true (k 1)&&(J3 f 2 false (k 2)&&(J3 f 2 true (k 2)&&(J3 f 3 false (k 3)&&(J3 f 3 true (k 3)&&(J3 f 4 false (k 4)&&J3 f 4 true (k 4))))))))
theorem DZ {f:Nat} {k:Nat->Nat} (h:Yi f k=true) (J:Rho):Cy f (X.denL J [.agg (Pe 0)]) (.sc (.int .i64 (if UF 1 ((Jq 0).den J) 0=1 then J.i (k (J.i 1).toNat)else -1))):=by
 simp only[Yi,Bool.and_eq_true]at h
 obtain⟨h0,h1,h2,h3,h4,h5,h6,h7,h8⟩:=h
 by_cases hr:UF 1 ((Jq 0).den J) 0=1
 ·rw[if_pos hr]
  obtain⟨g,hg⟩:=Y0 J
  obtain⟨b1,b2,_⟩:=(lQ hg).pr hr
  have b1:1<=J.i 1:=b1
  have b2:J.i 1<=4:=b2
  have go:∀(n:Nat) (j:Bool),J.i 1=n->J.b 10=j->J3 f n j (k n)=true->Cy f (X.denL J [.agg (Pe 0)]) (.sc (.int .i64 (J.i (k (J.i 1).toNat)))):=fun n j hn hj hc=>by
   have e:=mG hc
   have hk:Facts.ok J (rtT n j):=Facts.ok_cons (by
    have:UF 1 ((bn7 n j).den J) 0=1:=by rw[<-hr,ap6,hn,hj]
    simpa [BE.den,IE.den]using this) (Facts.ok_nil J)
   have q:=dM (pJ J) Zp hk (show(aU (cU smR) f (DV n j) (rtT n j)).sel J=some _ by rw[e];rfl)
   have ed:X.denL J [.agg (Pe 0)]=X.denL J (DV n j):=by rw[Vo,hn,hj];rfl
   rw[ed,hn]
   exact q
  have hn:J.i 1=1\/J.i 1=2\/J.i 1=3\/J.i 1=4:=by omega
  cases hj:J.b 10<;>rcases hn with hn | hn | hn | hn
  ·exact go 1 false hn hj h1
  ·exact go 2 false hn hj h3
  ·exact go 3 false hn hj h5
  ·exact go 4 false hn hj h7
  ·exact go 1 true hn hj h2
  ·exact go 2 true hn hj h4
  ·exact go 3 true hn hj h6
  ·exact go 4 true hn hj h8
 ·rw[if_neg hr]
  have e:=mG h0
  have hk:Facts.ok J rtN:=Facts.ok_cons (by simpa [BE.den,IE.den]using hr) (Facts.ok_nil J)
  exact dM (pJ J) Zp hk (by rw[e];rfl)
theorem cA2:Yi 94 (fun n=>2*n)=true:=by kernel_rfl
theorem bU8:Yi 107 (fun n=>2*n)=true:=by kernel_rfl
theorem hd27:Yi 27 (fun _=>2)=true:=by kernel_rfl
theorem cB7:Yi 77 (fun _=>2)=true:=by kernel_rfl
theorem ce9 (J:Rho):∃g,Ufs 7 ((Jq 0).den J) g:=by
 refine⟨fun _=>if UF 1 ((Jq 0).den J) 0=1 then J.i (2*(J.i 1).toNat)else -1,⟨fun f hf n hp => ?_,fun j => ?_,trivial⟩⟩
 ·simp only[zW,List.mem_cons,List.not_mem_nil,or_false]at hf
  rcases hf with rfl | rfl
  ·exact(DZ cA2 J).2 n hp
  ·exact(DZ bU8 J).2 n hp
 ·simp only[MK]
  split
  ·rename_i hr
   obtain⟨g,hg⟩:=Y0 J
   obtain⟨b1,b2,b3⟩:=(lQ hg).pr hr
   have b1:1<=J.i 1:=b1
   have b2:J.i 1<=4:=b2
   have b4:=b3 ((J.i 1).toNat-1) (by show(((J.i 1).toNat-1:Nat):Int)<J.i 1;omega)
   have e:2+2*((J.i 1).toNat-1)=2*(J.i 1).toNat:=by omega
   rw[e]at b4
   have q:vI ((Jq 0).den J) (2*(J.i 1).toNat)=J.i (2*(J.i 1).toNat):=by
    have:J.i 1=1\/J.i 1=2\/J.i 1=3\/J.i 1=4:=by omega
    rcases this with h | h | h | h<;>rw[h]<;>rfl
   rw[q]at b4
   omega
  ·omega
theorem ZB (f:Nat) (hf:f∈zW 7):iF Tryz.prog (sLa f):=⟨qy f (by simp only[zW,List.mem_cons,List.not_mem_nil,or_false]at hf;rcases hf with rfl | rfl<;>decide),fun J n h _=>by
 obtain⟨g,hg⟩:=ce9 J
 exact(lQ hg).cy f hf n h⟩
theorem ZE (f:Nat) (hf:f∈[27,77]):iF Tryz.prog (sHd f):=⟨qy f (by simp only[List.mem_cons,List.not_mem_nil,or_false]at hf;rcases hf with rfl | rfl<;>decide),fun J n h _=>by
 have e:X.den J (sHd f).r = .sc (.int .i64 (if UF 1 ((Jq 0).den J) 0=1 then J.i 2 else -1)):=by
  show AV.sc (.int .i64 ((IE.ite (.eq (.uf 1 0 (Jq 0)) (.lit 1)) (.var 2) (.lit (-1))).den J))=_
  by_cases hr:UF 1 ((Jq 0).den J) 0=1
  ·rw[if_pos hr,Ff (by simpa [BE.den,IE.den]using hr)];rfl
  ·rw[if_neg hr,KN (by simpa [BE.den,IE.den]using hr)];rfl
 rw[e]
 simp only[List.mem_cons,List.not_mem_nil,or_false]at hf
 rcases hf with rfl | rfl
 ·exact(DZ hd27 J).2 n h
 ·exact(DZ cB7 J).2 n h⟩
end Go.Proofs.YtpdfmnhgocpkcaaGreat
namespace Go.Proofs.YtpdfmnhgocpkcaaGreat
open Go Go.Proofs.Aw Go.Proofs.Xw
def XG:X := .sc (.s (.var 0))
noncomputable def P8:Code:=(dw (Tryz.f68.body.getD .skip))[0]?.getD .skip
def wP_S:XS:=⟨Td,[],5⟩
def br7:Facts:=[(.lt (.var 100) (.lit 0),false)]
def wP_b:Bind:=⟨[(100,Tc),(101,S9)],[],[],[]⟩
def wP_i:Bind:=⟨[(100,(.lit 0)),(101,(.lit 14695981039346656037))],[],[],[]⟩
def wP_t:T (XE×XS):=(.br SY (.ret (.normal,⟨[(9,(.sc (.i .i64 Tc))),(8,Ti),(7,vC),(3,(.sc (.i .u64 S9))),(2,Tf),(0,vC)],[],18⟩)) (.ret ((.exit 0),⟨Td,[],6⟩)))
noncomputable def wP:LoopX:=⟨((bW P8).getD 0),0,100,wP_S,wP_i,[],wP_t.outs⟩
theorem aU5:(dG (bU ([]) (fun _=>[])).ti (iK ⟨(bU ([]) (fun _=>[])),[],[]⟩ 12) (((bU ([]) (fun _=>[])).ft 68).elim [] (·.ms)) wP.k0 ((fun _=>[]) 68) 1000 P8 br7 wP.S).map (yC (wP_S.t.map (·.1)))=wP_t:=by kernel_rfl
theorem au6:wP_t.nrm (okS wP.k0 wP.n wP_b [] wP.S)=true:=by kernel_rfl
theorem aU6:wP_t.outs.belX 102=true:=by kernel_rfl
theorem br9:wP_i.bel 100=true:=by kernel_rfl
theorem YU:wP_i.ge 100=true:=by kernel_rfl
theorem YV:wP_b.ge 100=true:=by kernel_rfl
theorem au4:wP_i.same wP_b=true:=by kernel_rfl
theorem au5:fD Tryz.f68.ntmps P8=true:=by kernel_rfl
noncomputable def P7:Code:=(dw (Tryz.f145.body.getD .skip))[0]?.getD .skip
def wQ_S:XS:=⟨SX,[],4⟩
def br4:Facts:=[(.lt (.var 140) (.lit 0),false)]
def wQ_b:Bind:=⟨[(140,SV),(141,SS)],[],[],[]⟩
def wQ_i:Bind:=⟨[(140,(.lit 0)),(141,(.lit 14695981039346656037))],[],[],[]⟩
def wQ_t:T (XE×XS):=(.br SQ (.ret (.normal,⟨[(5,(.sc (.i .i64 SV))),(4,(.sc (.i .u64 SS))),(3,C9),(2,C9),(0,vC)],[],19⟩)) (.ret ((.exit 0),⟨SX,[],8⟩)))
noncomputable def wQ:LoopX:=⟨((bW P7).getD 0),0,140,wQ_S,wQ_i,[],wQ_t.outs⟩
theorem aU3:(dG (bU ([]) (fun _=>[])).ti (iK ⟨(bU ([]) (fun _=>[])),[],[]⟩ 12) (((bU ([]) (fun _=>[])).ft 145).elim [] (·.ms)) wQ.k0 ((fun _=>[]) 145) 1000 P7 br4 wQ.S).map (yC (wQ_S.t.map (·.1)))=wQ_t:=by kernel_rfl
theorem au3:wQ_t.nrm (okS wQ.k0 wQ.n wQ_b [] wQ.S)=true:=by kernel_rfl
theorem aU4:wQ_t.outs.belX 142=true:=by kernel_rfl
theorem br6:wQ_i.bel 140=true:=by kernel_rfl
theorem YS:wQ_i.ge 140=true:=by kernel_rfl
theorem YT:wQ_b.ge 140=true:=by kernel_rfl
theorem au1:wQ_i.same wQ_b=true:=by kernel_rfl
theorem au2:fD Tryz.f145.ntmps P7=true:=by kernel_rfl
end Go.Proofs.YtpdfmnhgocpkcaaGreat
namespace Go.Proofs.YtpdfmnhgocpkcaaGreat
open Go Go.Proofs.Aw Go.Proofs.Xw
set_option maxRecDepth 100000
noncomputable def aG3 (f:Nat):List LoopX:=if Nat.beq f 68=true then [wP]else []
theorem ae4:rO [wP] [0] 0 (dw (Tryz.f68.body.getD .skip))=true:=by kernel_rfl
theorem aG2 {J:Rho} (h_wP:LoopOk Tryz.prog J Tryz.f68.ntmps P8 wP):LpsOk Tryz.prog J Tryz.f68.ntmps [wP] (Tryz.f68.body.getD .skip) :=
 jP [0] ae4 (List.forall_mem_cons.2 ⟨II (c:=P8) (Ls:=[wP]) (by kernel_rfl) (List.forall_mem_cons.2 ⟨h_wP,List.forall_mem_nil _⟩),List.forall_mem_nil _⟩)
theorem aG1 {J:Rho} (h_wP:LoopOk Tryz.prog J Tryz.f68.ntmps P8 wP):∀f i,fO f su=some i->LpsOk Tryz.prog J i.ntmps (aG3 f) i.body:=by
 intro f i h
 have hi:=qA (f,i) (gK _ _ (fG h))
 unfold aG3
 split
 ·rename_i hf
  have hf:=Nat.eq_of_beq_eq_true hf
  subst hf
  exact nV hi Tryz.func68 (aG2 h_wP)
 ·exact LpsOk.nil _ _ _ _
noncomputable def aG0 (f:Nat):List LoopX:=if Nat.beq f 145=true then [wQ]else []
theorem Xx:rO [wQ] [0] 0 (dw (Tryz.f145.body.getD .skip))=true:=by kernel_rfl
theorem ae3 {J:Rho} (h_wQ:LoopOk Tryz.prog J Tryz.f145.ntmps P7 wQ):LpsOk Tryz.prog J Tryz.f145.ntmps [wQ] (Tryz.f145.body.getD .skip) :=
 jP [0] Xx (List.forall_mem_cons.2 ⟨II (c:=P7) (Ls:=[wQ]) (by kernel_rfl) (List.forall_mem_cons.2 ⟨h_wQ,List.forall_mem_nil _⟩),List.forall_mem_nil _⟩)
theorem aF9 {J:Rho} (h_wQ:LoopOk Tryz.prog J Tryz.f145.ntmps P7 wQ):∀f i,fO f su=some i->LpsOk Tryz.prog J i.ntmps (aG0 f) i.body:=by
 intro f i h
 have hi:=qA (f,i) (gK _ _ (fG h))
 unfold aG0
 split
 ·rename_i hf
  have hf:=Nat.eq_of_beq_eq_true hf
  subst hf
  exact nV hi Tryz.func145 (ae3 h_wQ)
 ·exact LpsOk.nil _ _ _ _
def pnt:T X:=(.need (.not SY) (.ret (.sc (.c (.ite (.and (.eq (.op .padd .i64 (.op .and .u64 (.op .xor .u64 (.op .mul .u64 (.op .xor .u64 (.var 101) (.op .shr .u64 (.var 101) (.lit 32))) (.lit 11400714819323198485)) (.op .shr .u64 (.op .mul .u64 (.op .xor .u64 (.var 101) (.op .shr .u64 (.var 101) (.lit 32))) (.lit 11400714819323198485)) (.lit 29))) (.lit 1048575)) (.lit (-524288))) (.lit 0)) (.eq (.op .padd .i64 (.op .and .u64 (.op .shr .u64 (.op .xor .u64 (.op .mul .u64 (.op .xor .u64 (.var 101) (.op .shr .u64 (.var 101) (.lit 32))) (.lit 11400714819323198485)) (.op .shr .u64 (.op .mul .u64 (.op .xor .u64 (.var 101) (.op .shr .u64 (.var 101) (.lit 32))) (.lit 11400714819323198485)) (.lit 29))) (.lit 20)) (.lit 1048575)) (.lit (-524288))) (.lit 0))) (.lit 1) (.op .padd .i64 (.op .and .u64 (.op .xor .u64 (.op .mul .u64 (.op .xor .u64 (.var 101) (.op .shr .u64 (.var 101) (.lit 32))) (.lit 11400714819323198485)) (.op .shr .u64 (.op .mul .u64 (.op .xor .u64 (.var 101) (.op .shr .u64 (.var 101) (.lit 32))) (.lit 11400714819323198485)) (.lit 29))) (.lit 1048575)) (.lit (-524288)))) (.lit false) (.ite (.and (.eq (.op .padd .i64 (.op .and .u64 (.op .xor .u64 (.op .mul .u64 (.op .xor .u64 (.var 101) (.op .shr .u64 (.var 101) (.lit 32))) (.lit 11400714819323198485)) (.op .shr .u64 (.op .mul .u64 (.op .xor .u64 (.var 101) (.op .shr .u64 (.var 101) (.lit 32))) (.lit 11400714819323198485)) (.lit 29))) (.lit 1048575)) (.lit (-524288))) (.lit 0)) (.eq (.op .padd .i64 (.op .and .u64 (.op .shr .u64 (.op .xor .u64 (.op .mul .u64 (.op .xor .u64 (.var 101) (.op .shr .u64 (.var 101) (.lit 32))) (.lit 11400714819323198485)) (.op .shr .u64 (.op .mul .u64 (.op .xor .u64 (.var 101) (.op .shr .u64 (.var 101) (.lit 32))) (.lit 11400714819323198485)) (.lit 29))) (.lit 20)) (.lit 1048575)) (.lit (-524288))) (.lit 0))) (.lit 0) (.op .padd .i64 (.op .and .u64 (.op .shr .u64 (.op .xor .u64 (.op .mul .u64 (.op .xor .u64 (.var 101) (.op .shr .u64 (.var 101) (.lit 32))) (.lit 11400714819323198485)) (.op .shr .u64 (.op .mul .u64 (.op .xor .u64 (.var 101) (.op .shr .u64 (.var 101) (.lit 32))) (.lit 11400714819323198485)) (.lit 29))) (.lit 20)) (.lit 1048575)) (.lit (-524288)))) (.lit false)))))
theorem aB7:aU ⟨bU [] aG3,[],[]⟩ 68 ([XG]) []=pnt:=by kernel_rfl
def rpt:T X:=(.need (.not SQ) (.ret (.tup [(.sc (.i .i64 (.ite (.and (.eq SK (.lit 0)) (.eq SI (.lit 0))) (.lit 1) SK))),(.sc (.i .i64 SI))])))
theorem az1:aU ⟨bU [] aG0,[],[]⟩ 145 ([XG]) []=rpt:=by kernel_rfl
end Go.Proofs.YtpdfmnhgocpkcaaGreat
namespace Go.Proofs.Xw
open Go Go.Proofs.Aw
section
variable (J:Rho)
theorem am1 (a b:IE):((BE.lt a b).den J=true)=(a.den J<b.den J):=by simp[BE.den]
theorem tX (a b:IE):((BE.lt a b).den J=false)=(b.den J<=a.den J):=by simp[BE.den]
theorem aS6 (a b:IE):((BE.eq a b).den J=true)=(a.den J=b.den J):=by simp[BE.den]
theorem Cm (a b:IE):((BE.eq a b).den J=false)=¬(a.den J=b.den J):=by simp[BE.den]
theorem am0 (a:BE):((BE.not a).den J=true)=(a.den J=false):=by simp[BE.den]
theorem am3 (a b:BE):((BE.and a b).den J=false)=(a.den J=false\/b.den J=false):=by simp only[BE.den];cases BE.den J a<;>cases BE.den J b<;>simp
end
end Go.Proofs.Xw
