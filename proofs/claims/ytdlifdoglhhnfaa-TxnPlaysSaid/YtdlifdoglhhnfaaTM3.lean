/- Parts of the proof, one behind the other. -/
import Derived.Test.YtdlifdoglhhnfaaXwM1
import Derived.Test.YtdlifdoglhhnfaaTM2
import Derived.Test.YtdlifdoglhhnfaaXwM2
import Derived.Test.YtdlifdoglhhnfaaXwM3
import Derived.Test.YtdlifdoglhhnfaaTM1
import Init
namespace Go.Proofs.Xw
open Go Go.Proofs.Aw
section
variable (ρ:Rho)
theorem dlt_t (a b:IE):((BE.lt a b).den ρ=true)=(a.den ρ<b.den ρ):=by simp[BE.den]
theorem dlt_f (a b:IE):((BE.lt a b).den ρ=false)=(b.den ρ≤a.den ρ):=by simp[BE.den]
theorem deq_t (a b:IE):((BE.eq a b).den ρ=true)=(a.den ρ=b.den ρ):=by simp[BE.den]
theorem deq_f (a b:IE):((BE.eq a b).den ρ=false)=¬(a.den ρ=b.den ρ):=by simp[BE.den]
theorem dnot_t (a:BE):((BE.not a).den ρ=true)=(a.den ρ=false):=by simp[BE.den]
theorem dnot_f (a:BE):((BE.not a).den ρ=false)=(a.den ρ=true):=by simp[BE.den]
theorem dand_t (a b:BE):((BE.and a b).den ρ=true)=(a.den ρ=true∧b.den ρ=true):=by simp[BE.den]
theorem dand_f (a b:BE):((BE.and a b).den ρ=false)=(a.den ρ=false∨b.den ρ=false):=by simp only[BE.den];cases BE.den ρ a<;>cases BE.den ρ b<;>simp
theorem dor_t (a b:BE):((BE.or a b).den ρ=true)=(a.den ρ=true∨b.den ρ=true):=by simp[BE.den]
theorem dor_f (a b:BE):((BE.or a b).den ρ=false)=(a.den ρ=false∧b.den ρ=false):=by simp[BE.den]
end
end Go.Proofs.Xw
namespace Go.Proofs.Ytdlifdoglhhnfaa
open Go Go.Proofs.Aw Go.Proofs.Xw
set_option maxRecDepth 100000
theorem call0:∀ρ,CallOk Try.prog ρ (callS ⟨cfgL [] (fun _=>[]),l_able,[]⟩ 12):=fun _=>callS_ok (c:=⟨cfgL [] (fun _=>[]),l_able,[]⟩) (cfgL_ok (List.forall_mem_nil _) (fun _ _ _=>LpsOk.nil _ _ _ _)) l_able_ok 12
def stR (ρ:Rho) (l:Nat):Nat→ByteArray:=fun k=>ρ.cs l 0 k
theorem agree_st {n:Nat} {ρ ρ':Rho} (h:Agree n ρ ρ') {l:Nat} (hl:l<n):stR ρ' l=stR ρ l:=by
 funext k;show ρ'.cs l 0 k=ρ.cs l 0 k;rw[h.cs l hl]
theorem ap_i {β:Bind} {ρ:Rho} {k:Nat} {e:IE} (h:lassoc k β.i=some e):(β.ap ρ).i k=e.den ρ:=by simp only[Bind.ap,h]
theorem ap_len {β:Bind} {ρ:Rho} {k:Nat} {m:IE} {r:RL} (h:lassoc k β.r=some (m,r)):(β.ap ρ).len k=(m.den ρ).toNat:=by simp only[Bind.ap,h]
end Go.Proofs.Ytdlifdoglhhnfaa
namespace Go.Proofs.Ytdlifdoglhhnfaa
open Go Go.Proofs.Aw Go.Proofs.Xw
set_option maxRecDepth 100000
theorem wP_ok (ρ:Rho) (h:(ρ.s 0).size<9223372036854775808):LoopOk Try.prog (wP_b.it (wP_i.ap ρ) (ρ.s 0).size) Try.f39.ntmps wP_c wP :=
 loopOk_cntE mixed tis_ok wP_run wP_fits wP_back rfl 102 wP_bel wP_ib wP_bg wP_same (I:=100) (e := .slen (.var 0)) rfl (by intro h;cases h) rfl rfl (by kernel_rfl) (Φ0:=[]) rfl (by kernel_rfl) (Facts.ok_nil _) wP_ig call0 (fun _=>LpsOk.nil _ _ _ _) _ h rfl
theorem wQ_ok (ρ:Rho) (h:(ρ.s 0).size<9223372036854775808):LoopOk Try.prog (wQ_b.it (wQ_i.ap ρ) (ρ.s 0).size) Try.f69.ntmps wQ_c wQ :=
 loopOk_cntE mixed tis_ok wQ_run wQ_fits wQ_back rfl 142 wQ_bel wQ_ib wQ_bg wQ_same (I:=140) (e := .slen (.var 0)) rfl (by intro h;cases h) rfl rfl (by kernel_rfl) (Φ0:=[]) rfl (by kernel_rfl) (Facts.ok_nil _) wQ_ig call0 (fun _=>LpsOk.nil _ _ _ _) _ h rfl
theorem same (ρ:Rho):∀j:Nat,(wP_b.it (wP_i.ap ρ) j).i 100=(wQ_b.it (wQ_i.ap ρ) j).i 140∧(wP_b.it (wP_i.ap ρ) j).i 101=(wQ_b.it (wQ_i.ap ρ) j).i 141
 | 0=>⟨rfl,rfl⟩
 | j+1=>by
  obtain⟨h1,h2⟩:=same ρ j
  have s1:(wP_b.it (wP_i.ap ρ) j).s 0=ρ.s 0:=(((Bind.agree wP_ig ρ).trans (Bind.it_agree wP_bg (wP_i.ap ρ) j)).s 0 (by decide)).symm
  have s2:(wQ_b.it (wQ_i.ap ρ) j).s 0=ρ.s 0:=(((Bind.agree wQ_ig ρ).trans (Bind.it_agree wQ_bg (wQ_i.ap ρ) j)).s 0 (by decide)).symm
  have e1:(wP_b.it (wP_i.ap ρ) (j+1)).i 100=IOp.den .add .i64 ((wP_b.it (wP_i.ap ρ) j).i 100) 1:=by kernel_rfl
  have e2:(wQ_b.it (wQ_i.ap ρ) (j+1)).i 140=IOp.den .add .i64 ((wQ_b.it (wQ_i.ap ρ) j).i 140) 1:=by kernel_rfl
  have e3:(wP_b.it (wP_i.ap ρ) (j+1)).i 101=IOp.den .mul .u64 (IOp.den .xor .u64 ((wP_b.it (wP_i.ap ρ) j).i 101) (IOp.den .conv .u64 (((((wP_b.it (wP_i.ap ρ) j).s 0)[((wP_b.it (wP_i.ap ρ) j).i 100).toNat]?).getD 0).toNat:Int) 0)) 1099511628211:=by kernel_rfl
  have e4:(wQ_b.it (wQ_i.ap ρ) (j+1)).i 141=IOp.den .mul .u64 (IOp.den .xor .u64 ((wQ_b.it (wQ_i.ap ρ) j).i 141) (IOp.den .conv .u64 (((((wQ_b.it (wQ_i.ap ρ) j).s 0)[((wQ_b.it (wQ_i.ap ρ) j).i 140).toNat]?).getD 0).toNat:Int) 0)) 1099511628211:=by kernel_rfl
  rw[e1,e2,e3,e4,s1,s2,h1,h2]
  exact⟨rfl,rfl⟩
def mxI (h:Int):Int:=IOp.den .xor .u64 (IOp.den .mul .u64 (IOp.den .xor .u64 h (IOp.den .shr .u64 h 32)) 11400714819323198485) (IOp.den .shr .u64 (IOp.den .mul .u64 (IOp.den .xor .u64 h (IOp.den .shr .u64 h 32)) 11400714819323198485) 29)
def axI (h:Int):Int:=bits .and .u64 (mxI h) 1048575 + -524288
def ayI (h:Int):Int:=bits .and .u64 (IOp.den .shr .u64 (mxI h) 20) 1048575 + -524288
theorem axI_b (h:Int) : -524288≤axI h∧axI h≤524287:=by
 have:=mask_le .u64 (.inr rfl) (mxI h) 1048575 (by decide) (by decide)
 unfold axI;omega
theorem ayI_b (h:Int) : -524288≤ayI h∧ayI h≤524287:=by
 have:=mask_le .u64 (.inr rfl) (IOp.den .shr .u64 (mxI h) 20) 1048575 (by decide) (by decide)
 unfold ayI;omega
theorem sub_w (m:Int) (h:0≤m∧m≤1048575):IOp.den .sub .i64 (IOp.den .conv .i64 m 0) 524288=m + -524288:=by
 simp only[IOp.den]
 rw[wrap_id m (by omega) (by omega),wrap_id _ (by omega) (by omega)]
 omega
theorem pnt_cy (ρ:Rho) (h:(ρ.s 0).size<9223372036854775808):∃x y:Int,(-524288≤x∧x≤524287)∧(-524288≤y∧y≤524287)∧¬(x=0∧y=0) ∧
  (hasBody Try.prog 39=true∧∀n h,CY Try.prog n 39 (X.denL ρ [keyX]) h (.sc (.complex .f64 (fv x false) (fv y false))) []) ∧
  (hasBody Try.prog 69=true∧∀n h,CY Try.prog n 69 (X.denL ρ [keyX]) h (.tup [.sc (.int .i64 x),.sc (.int .i64 y)]) []):=by
 generalize e1:wP_b.it (wP_i.ap ρ) (ρ.s 0).size=ρ1
 generalize e2:wQ_b.it (wQ_i.ap ρ) (ρ.s 0).size=ρ2
 have l1:=wP_ok ρ h
 have l2:=wQ_ok ρ h
 have ag1:Agree 100 ρ ρ1:=by rw[←e1];exact(Bind.agree wP_ig ρ).trans (Bind.it_agree wP_bg (wP_i.ap ρ) _)
 have ag2:Agree 140 ρ ρ2:=by rw[←e2];exact(Bind.agree wQ_ig ρ).trans (Bind.it_agree wQ_bg (wQ_i.ap ρ) _)
 have c1:ρ1.i 100=(ρ.s 0).size:=by rw[←e1];exact it_count (e := .lit 0) rfl (by rfl) _ h
 have c2:ρ2.i 140=(ρ.s 0).size:=by rw[←e2];exact it_count (e := .lit 0) rfl (by rfl) _ h
 have sm:ρ1.i 101=ρ2.i 141:=by rw[←e1,←e2];exact(same ρ _).2
 rw[e1]at l1
 rw[e2]at l2
 have n1:(BE.not (.lt (.var 100) (.slen (.var 0)))).den ρ1=true:=by
  rw[dnot_t,dlt_f]
  simp only[IE.den,TE.den,c1,←ag1.s 0 (by decide)]
  omega
 have n2:(BE.not (.lt (.var 140) (.slen (.var 0)))).den ρ2=true:=by
  rw[dnot_t,dlt_f]
  simp only[IE.den,TE.den,c2,←ag2.s 0 (by decide)]
  omega
 have g1:=fun r (hr:pnt.sel ρ1=some r)=>askF_ok (c:=⟨cfgL [] lpyP,l_able,[]⟩) (cfgL_ok (List.forall_mem_nil _) (lpyP_ok l1)) l_able_ok (Facts.ok_nil ρ1) (by rw[pnt_run];exact hr)
 have g2:=fun r (hr:rpt.sel ρ2=some r)=>askF_ok (c:=⟨cfgL [] lpyQ,l_able,[]⟩) (cfgL_ok (List.forall_mem_nil _) (lpyQ_ok l2)) l_able_ok (Facts.ok_nil ρ2) (by rw[rpt_run];exact hr)
 have g1:=g1 _ (by unfold pnt;rw[T.sel,if_pos n1];rfl)
 have g2:=g2 _ (by unfold rpt;rw[T.sel,if_pos n2];rfl)
 rw[←X.belL_den ag1 [keyX] (by kernel_rfl)]at g1
 rw[←X.belL_den ag2 [keyX] (by kernel_rfl)]at g2
 have ax:=axI_b (ρ1.i 101)
 have ay:=ayI_b (ρ1.i 101)
 generalize hh:ρ1.i 101=hv at ax ay sm
 refine⟨if axI hv=0∧ayI hv=0 then 1 else axI hv,ayI hv,?_,ay,?_,?_,?_⟩
 ·split<;>omega
 ·split<;>omega
 ·refine⟨g1.1,fun n hp => ?_⟩
  have g:=g1.2 n hp
  simp only[X.den,Sc.den,IE.den,BE.den,IOp.den,hh]at g
  have a1:bits .and .u64 (mxI hv) 1048575 + -524288=axI hv:=rfl
  have a2:bits .and .u64 (IOp.den .shr .u64 (mxI hv) 20) 1048575 + -524288=ayI hv:=rfl
  simp only[mxI,IOp.den]at a1 a2
  rw[a1,a2]at g
  have b:(axI hv==0&&ayI hv==0)=decide (axI hv=0∧ayI hv=0):=by rw[Bool.eq_iff_iff];simp
  rw[b]at g
  by_cases hc:axI hv=0∧ayI hv=0
  ·simp only[hc,and_self,decide_true,if_true]at g ⊢
   exact g
  ·simp only[hc,decide_false,Bool.false_eq_true,if_false]at g ⊢
   exact g
 ·refine⟨g2.1,fun n hp => ?_⟩
  have g:=g2.2 n hp
  have a1:=sub_w _ (mask_le .u64 (.inr rfl) (mxI hv) 1048575 (by decide) (by decide))
  have a2:=sub_w _ (mask_le .u64 (.inr rfl) (IOp.den .shr .u64 (mxI hv) 20) 1048575 (by decide) (by decide))
  simp only[X.den,X.denL,Sc.den,IE.den,BE.den,IOp.den,←sm]at g
  have a3:bits .and .u64 (mxI hv) 1048575 + -524288=axI hv:=rfl
  have a4:bits .and .u64 (IOp.den .shr .u64 (mxI hv) 20) 1048575 + -524288=ayI hv:=rfl
  rw[a3]at a1
  rw[a4]at a2
  simp only[mxI,IOp.den]at a1 a2
  rw[a1,a2]at g
  have b:(axI hv==0&&ayI hv==0)=decide (axI hv=0∧ayI hv=0):=by rw[Bool.eq_iff_iff];simp
  rw[b]at g
  by_cases hc:axI hv=0∧ayI hv=0
  ·simp only[hc,and_self,decide_true,if_true]at g ⊢
   exact g
  ·simp only[hc,decide_false,Bool.false_eq_true,if_false]at g ⊢
   exact g
end Go.Proofs.Ytdlifdoglhhnfaa
namespace Go.Proofs.Ytdlifdoglhhnfaa
open Go Go.Proofs.Aw Go.Proofs.Xw
def sX (k:Nat):X := .sc (.s (.var k))
def iV (k:Nat):X := .sc (.i .i64 (.var k))
def cpX (a b:Nat):X := .sc (.c (.var a) (.lit false) (.var b) (.lit false))
def ptX (a b:Nat):X := .tup [iV a,iV b]
def bnd (k:Nat):Facts:=[(.lt (.var k) (.lit (-524288)),false),(.lt (.lit 524288) (.var k),false)]
def ksF:List (Nat×List X×X):=[(39,[sX 0],cpX 300 301),(69,[sX 0],ptX 300 301)]
def fF:Facts:=bnd 300++bnd 301++[(.and (.eq (.var 300) (.lit 0)) (.eq (.var 301) (.lit 0)),false)]
def lX (n:Int):X := .sc (.i .i64 (.lit n))
def sA (a b:Int):IE := .op .sub .i64 (.op .mul .i64 (.lit a) (.var 301)) (.op .mul .i64 (.lit b) (.var 300))
def sB (a b:Int):IE := .op .sub .i64 (.op .mul .i64 (.var 300) (.lit a)) (.op .mul .i64 (.var 301) (.lit b))
def wA (a b:Int):IE := .op .psub .i64 (.op .pmul .i64 (.lit a) (.var 300)) (.op .pmul .i64 (.lit b) (.var 301))
def zr (e:IE):Facts:=[(.eq e (.lit 0),true),(.lt (.lit 0) e,false)]
def ps (e:IE):Facts:=[(.eq e (.lit 0),false),(.lt (.lit 0) e,true)]
def ng (e:IE):Facts:=[(.eq e (.lit 0),false),(.lt (.lit 0) e,false)]
def fA3:Facts:=fF++(ps (sA 1 0)++ps (sB 2 (-1)))
def fB3:Facts:=fF++(zr (sA 1 0)++(ps (.var 300)++ps (sB 2 (-1))))
def fC3:Facts:=fF++(ps (sA 1 0)++(zr (sB 2 (-1))++(zr (sA (-1) 2)++(ps (wA (-1) (-2))++ps (sB (-2) (-1))))))
def fD3:Facts:=fF++(ps (sA 1 0)++(ng (sB 2 (-1))++(ps (sA (-1) 2)++ps (sB (-2) (-1)))))
def fE3:Facts:=fF++(zr (sA 1 0)++(ng (.var 300)++(ps (sA (-1) 2)++ps (sB (-2) (-1)))))
def fF3:Facts:=fF++(ng (sA 1 0)++(ps (sA (-1) 2)++ps (sB (-2) (-1))))
def fG3:Facts:=fF++(ng (sA 1 0)++(ps (sA (-1) 2)++(zr (sB (-2) (-1))++(zr (sA (-1) (-2))++(ps (wA (-1) 2)++ps (sB 0 1))))))
def fH3:Facts:=fF++(ng (sA 1 0)++(ps (sA (-1) 2)++(ng (sB (-2) (-1))++(ps (sA (-1) (-2))++ps (sB 0 1)))))
def fI3:Facts:=fF++(ng (sA 1 0)++(zr (sA (-1) 2)++(ng (wA (-1) (-2))++(ng (sB (-2) (-1))++(ps (sA (-1) (-2))++ps (sB 0 1))))))
def fJ3:Facts:=fF++(ng (sA 1 0)++(ng (sA (-1) 2)++(ng (sB (-2) (-1))++(ps (sA (-1) (-2))++ps (sB 0 1)))))
def fA2:Facts:=fF++ps (sA 1 0)
def fB2:Facts:=fF++(zr (sA 1 0)++ps (.var 300))
def fC2:Facts:=fF++(zr (sA 1 0)++(ng (.var 300)++(zr (sB 0 (-1))++(zr (sA (-1) 0)++(ps (.op .pmul .i64 (.lit (-1)) (.var 300))++zr (sB 0 1))))))
def fD2:Facts:=fF++(ng (sA 1 0)++(ng (sB 0 (-1))++(ps (sA (-1) 0)++ps (sB 0 1))))
def of1:T X:=(.ret (.sc (.i .i64 (.lit 0))))
theorem of1_run:askF ⟨cfgL ksF (fun _=>[]),l_able,[37,58]⟩ 17 ([sX 0,lX 1]) fF=of1:=by kernel_rfl
def ofA3:T X:=(.ret (.sc (.i .i64 (.lit 0))))
theorem ofA3_run:askF ⟨cfgL ksF (fun _=>[]),l_able,[37,58]⟩ 17 ([sX 0,lX 3]) fA3=ofA3:=by kernel_rfl
def ofB3:T X:=(.ret (.sc (.i .i64 (.lit 0))))
theorem ofB3_run:askF ⟨cfgL ksF (fun _=>[]),l_able,[37,58]⟩ 17 ([sX 0,lX 3]) fB3=ofB3:=by kernel_rfl
def ofC3:T X:=(.ret (.sc (.i .i64 (.lit 1))))
theorem ofC3_run:askF ⟨cfgL ksF (fun _=>[]),l_able,[37,58]⟩ 17 ([sX 0,lX 3]) fC3=ofC3:=by kernel_rfl
def ofD3:T X:=(.ret (.sc (.i .i64 (.lit 1))))
theorem ofD3_run:askF ⟨cfgL ksF (fun _=>[]),l_able,[37,58]⟩ 17 ([sX 0,lX 3]) fD3=ofD3:=by kernel_rfl
def ofE3:T X:=(.ret (.sc (.i .i64 (.lit 1))))
theorem ofE3_run:askF ⟨cfgL ksF (fun _=>[]),l_able,[37,58]⟩ 17 ([sX 0,lX 3]) fE3=ofE3:=by kernel_rfl
def ofF3:T X:=(.ret (.sc (.i .i64 (.lit 1))))
theorem ofF3_run:askF ⟨cfgL ksF (fun _=>[]),l_able,[37,58]⟩ 17 ([sX 0,lX 3]) fF3=ofF3:=by kernel_rfl
def ofG3:T X:=(.ret (.sc (.i .i64 (.lit 2))))
theorem ofG3_run:askF ⟨cfgL ksF (fun _=>[]),l_able,[37,58]⟩ 17 ([sX 0,lX 3]) fG3=ofG3:=by kernel_rfl
def ofH3:T X:=(.ret (.sc (.i .i64 (.lit 2))))
theorem ofH3_run:askF ⟨cfgL ksF (fun _=>[]),l_able,[37,58]⟩ 17 ([sX 0,lX 3]) fH3=ofH3:=by kernel_rfl
def ofI3:T X:=(.ret (.sc (.i .i64 (.lit 2))))
theorem ofI3_run:askF ⟨cfgL ksF (fun _=>[]),l_able,[37,58]⟩ 17 ([sX 0,lX 3]) fI3=ofI3:=by kernel_rfl
def ofJ3:T X:=(.ret (.sc (.i .i64 (.lit 2))))
theorem ofJ3_run:askF ⟨cfgL ksF (fun _=>[]),l_able,[37,58]⟩ 17 ([sX 0,lX 3]) fJ3=ofJ3:=by kernel_rfl
def ofA2:T X:=(.ret (.sc (.i .i64 (.lit 0))))
theorem ofA2_run:askF ⟨cfgL ksF (fun _=>[]),l_able,[37,58]⟩ 17 ([sX 0,lX 2]) fA2=ofA2:=by kernel_rfl
def ofB2:T X:=(.ret (.sc (.i .i64 (.lit 0))))
theorem ofB2_run:askF ⟨cfgL ksF (fun _=>[]),l_able,[37,58]⟩ 17 ([sX 0,lX 2]) fB2=ofB2:=by kernel_rfl
def ofC2:T X:=(.ret (.sc (.i .i64 (.lit 1))))
theorem ofC2_run:askF ⟨cfgL ksF (fun _=>[]),l_able,[37,58]⟩ 17 ([sX 0,lX 2]) fC2=ofC2:=by kernel_rfl
def ofD2:T X:=(.ret (.sc (.i .i64 (.lit 1))))
theorem ofD2_run:askF ⟨cfgL ksF (fun _=>[]),l_able,[37,58]⟩ 17 ([sX 0,lX 2]) fD2=ofD2:=by kernel_rfl
end Go.Proofs.Ytdlifdoglhhnfaa
namespace Go.Proofs.Sr
end Go.Proofs.Sr
namespace Go.Proofs.Sr
abbrev Pt:=Int×Int
def half (p:Pt):Bool:=decide (0<p.2)||(decide (p.2=0)&&decide (0<p.1))
def cross (p q:Pt):Int:=p.1*q.2-p.2*q.1
def Up (p:Pt):Prop:=0<p.2∨(p.2=0∧0<p.1)
theorem half_t {p:Pt}:half p=true↔Up p:=by simp[half,Up]
def cmpP (p q:Pt):Int:=if half p=half q then-cross p q else if half p=true then -1 else 1
theorem cmp_lt {p q:Pt}:cmpP p q<0↔(half p=true∧half q=false)∨(half p=half q∧0<cross p q):=by
 unfold cmpP
 split
 ·rename_i h;rw[h];cases half q<;>simp
 ·rename_i h
  cases hp:half p<;>cases hq:half q<;>simp_all
end Go.Proofs.Sr
namespace Go.Proofs.Ytdlifdoglhhnfaa
open Go Go.Proofs.Aw Go.Proofs.Xw Go.Proofs.Sr
set_option maxRecDepth 100000
theorem pt_ex (b:ByteArray) (h:b.size<9223372036854775808):∃p:Pt,(-524288≤p.1∧p.1≤524287)∧(-524288≤p.2∧p.2≤524287)∧p≠(0,0) ∧
  (hasBody Try.prog 39=true∧∀n h,CY Try.prog n 39 [.sc (.string b)] h (.sc (.complex .f64 (fv p.1 false) (fv p.2 false))) []) ∧
  (hasBody Try.prog 69=true∧∀n h,CY Try.prog n 69 [.sc (.string b)] h (.tup [.sc (.int .i64 p.1),.sc (.int .i64 p.2)]) []):=by
 obtain⟨x,y,hx,hy,hz,k1,k2⟩:=pnt_cy ⟨fun _=>0,fun _=>false,fun _=>b,fun _=>0,fun _ _ _=>0,fun _ _ _=>false,fun _ _ _=>⟨#[]⟩⟩ h
 exact⟨(x,y),hx,hy,fun e=>hz ⟨congrArg Prod.fst e,congrArg Prod.snd e⟩,k1,k2⟩
noncomputable def pt (b:ByteArray):Pt:=if h:b.size<9223372036854775808 then Classical.choose (pt_ex b h)else(1,0)
theorem pt_ok {b:ByteArray} (h:b.size<9223372036854775808):(-524288≤(pt b).1∧(pt b).1≤524287)∧(-524288≤(pt b).2∧(pt b).2≤524287)∧pt b≠(0,0) ∧
  (hasBody Try.prog 39=true∧∀n h,CY Try.prog n 39 [.sc (.string b)] h (.sc (.complex .f64 (fv (pt b).1 false) (fv (pt b).2 false))) []) ∧
  (hasBody Try.prog 69=true∧∀n h,CY Try.prog n 69 [.sc (.string b)] h (.tup [.sc (.int .i64 (pt b).1),.sc (.int .i64 (pt b).2)]) []):=by
 have e:pt b=Classical.choose (pt_ex b h):=by unfold pt;rw[dif_pos h]
 rw[e];exact Classical.choose_spec (pt_ex b h)
def Bd (z:Int):Prop := -524288≤z∧z≤524288
theorem mul_bd {a b:Int} (ha:Bd a) (hb:Bd b) : -274877906944≤a*b∧a*b≤274877906944:=by
 have h1:(a*b).natAbs=a.natAbs*b.natAbs:=Int.natAbs_mul a b
 have h2:a.natAbs*b.natAbs≤524288*524288:=Nat.mul_le_mul (by have:=ha.1;have:=ha.2;omega) (by have:=hb.1;have:=hb.2;omega)
 omega
theorem all_ok {ρ:Rho} {Φ Ψ:Facts} (h:Facts.ok ρ Φ) (k:Facts.ok ρ Ψ):Facts.ok ρ (Φ++Ψ):=fun p hp=>(List.mem_append.1 hp).elim (h p) (k p)
def sec (m:Int) (p:Pt):Int:=if m=1 then 0 else if m=2 then(if cmpP p (-1,0)<0 then 0 else 1)else if cmpP p (-1,2)<0 then 0 else if cmpP p (-1,-2)<0 then 1 else 2
theorem hf_t {p:Pt}:half p=true↔0<p.2∨(p.2=0∧0<p.1):=half_t
theorem hf_f {p:Pt}:half p=false↔¬(0<p.2∨(p.2=0∧0<p.1)):=by rw[←hf_t];cases half p<;>simp
theorem cut_10 {p:Pt}:cmpP p (-1,0)<0↔0<p.2∨(p.2=0∧0<p.1):=by
 rw[Sr.cmp_lt,hf_t,show half (-1,0)=false from rfl,hf_f]
 simp only[cross,and_true]
 omega
theorem cut_12 {p:Pt}:cmpP p (-1,2)<0↔(0<p.2∨(p.2=0∧0<p.1))∧0<2*p.1+p.2:=by
 rw[Sr.cmp_lt,show half (-1,2)=true from rfl,hf_t]
 simp only[cross]
 constructor
 ·rintro(h | h)
  ·cases h.2
  ·exact⟨h.1,by omega⟩
 ·exact fun h => .inr ⟨h.1,by omega⟩
theorem cut_m2 {p:Pt}:cmpP p (-1,-2)<0↔(0<p.2∨(p.2=0∧0<p.1))∨0<p.2-2*p.1:=by
 rw[Sr.cmp_lt,show half (-1,-2)=false from rfl,hf_t,hf_f]
 simp only[cross,and_true]
 omega
theorem s3_0 {p:Pt} (h:(0<p.2∨(p.2=0∧0<p.1))∧0<2*p.1+p.2):sec 3 p=0:=by
 unfold sec
 rw[if_neg (by decide),if_neg (by decide),if_pos (cut_12.2 h)]
theorem s3_1 {p:Pt} (h:¬((0<p.2∨(p.2=0∧0<p.1))∧0<2*p.1+p.2)) (k:(0<p.2∨(p.2=0∧0<p.1))∨0<p.2-2*p.1):sec 3 p=1:=by
 unfold sec
 rw[if_neg (by decide),if_neg (by decide),if_neg (mt cut_12.1 h),if_pos (cut_m2.2 k)]
theorem s3_2 {p:Pt} (h:¬((0<p.2∨(p.2=0∧0<p.1))∧0<2*p.1+p.2)) (k:¬((0<p.2∨(p.2=0∧0<p.1))∨0<p.2-2*p.1)):sec 3 p=2:=by
 unfold sec
 rw[if_neg (by decide),if_neg (by decide),if_neg (mt cut_12.1 h),if_neg (mt cut_m2.1 k)]
theorem s2_0 {p:Pt} (h:0<p.2∨(p.2=0∧0<p.1)):sec 2 p=0:=by
 unfold sec
 rw[if_neg (by decide),if_pos rfl,if_pos (cut_10.2 h)]
theorem s2_1 {p:Pt} (h:¬(0<p.2∨(p.2=0∧0<p.1))):sec 2 p=1:=by
 unfold sec
 rw[if_neg (by decide),if_pos rfl,if_neg (mt cut_10.1 h)]
theorem sA_den {ρ:Rho} {a b:Int} (ha:Bd a) (hb:Bd b) (h0:Bd (ρ.i 300)) (h1:Bd (ρ.i 301)):(sA a b).den ρ=a*ρ.i 301-b*ρ.i 300:=by
 have p:=mul_bd ha h1
 have q:=mul_bd hb h0
 show IOp.den .sub .i64 (IOp.den .mul .i64 a (ρ.i 301)) (IOp.den .mul .i64 b (ρ.i 300))=_
 simp only[IOp.den]
 rw[wrap_id (a*ρ.i 301) (by omega) (by omega),wrap_id (b*ρ.i 300) (by omega) (by omega),wrap_id _ (by omega) (by omega)]
theorem sB_den {ρ:Rho} {a b:Int} (ha:Bd a) (hb:Bd b) (h0:Bd (ρ.i 300)) (h1:Bd (ρ.i 301)):(sB a b).den ρ=ρ.i 300*a-ρ.i 301*b:=by
 have p:=mul_bd h0 ha
 have q:=mul_bd h1 hb
 show IOp.den .sub .i64 (IOp.den .mul .i64 (ρ.i 300) a) (IOp.den .mul .i64 (ρ.i 301) b)=_
 simp only[IOp.den]
 rw[wrap_id (ρ.i 300*a) (by omega) (by omega),wrap_id (ρ.i 301*b) (by omega) (by omega),wrap_id _ (by omega) (by omega)]
theorem wA_den {ρ:Rho} {a b:Int}:(wA a b).den ρ=a*ρ.i 300-b*ρ.i 301:=rfl
theorem zr_ok {ρ:Rho} {e:IE} {z:Int} (h:e.den ρ=z) (k:z=0):Facts.ok ρ (zr e) :=
 Facts.ok_cons (by rw[deq_t,h];exact k) (Facts.ok_cons (by rw[dlt_f,h];show z≤0;omega) (Facts.ok_nil _))
theorem ps_ok {ρ:Rho} {e:IE} {z:Int} (h:e.den ρ=z) (k:0<z):Facts.ok ρ (ps e) :=
 Facts.ok_cons (by rw[deq_f,h];show ¬z=0;omega) (Facts.ok_cons (by rw[dlt_t,h];exact k) (Facts.ok_nil _))
theorem ng_ok {ρ:Rho} {e:IE} {z:Int} (h:e.den ρ=z) (k:z<0):Facts.ok ρ (ng e) :=
 Facts.ok_cons (by rw[deq_f,h];show ¬z=0;omega) (Facts.ok_cons (by rw[dlt_f,h];show z≤0;omega) (Facts.ok_nil _))
def OfG (x:ByteArray) (m:Int):Prop:=hasBody Try.prog 17=true∧∀n h,CY Try.prog n 17 [.sc (.string x),.sc (.int .i64 m)] h (.sc (.int .i64 (sec m (pt x)))) []
theorem of_base (x:ByteArray) (hx:x.size<9223372036854775808):∃ρ:Rho,ρ.i 300=(pt x).1∧ρ.i 301=(pt x).2∧Bd (ρ.i 300)∧Bd (ρ.i 301)∧pt x≠(0,0)∧Facts.ok ρ fF ∧
  ∀{m k:Int} {Φ:Facts} {t:T X},askF ⟨cfgL ksF (fun _=>[]),l_able,[37,58]⟩ 17 [sX 0,lX m] Φ=t→t = .ret (.sc (.i .i64 (.lit k)))→Facts.ok ρ Φ→sec m (pt x)=k→OfG x m:=by
 obtain⟨x1,x2,x3,x4,x5⟩:=pt_ok hx
 let ρ:Rho:=⟨fun k=>if k=300 then(pt x).1 else if k=301 then(pt x).2 else 0,fun _=>false,fun _=>x,fun _=>0,fun _ _ _=>0,fun _ _ _=>false,fun _ _ _=>⟨#[]⟩⟩
 have b0:Bd (ρ.i 300):=⟨x1.1,by show(pt x).1≤_;omega⟩
 have b1:Bd (ρ.i 301):=⟨x2.1,by show(pt x).2≤_;omega⟩
 have bk:∀k,Bd (ρ.i k)→Facts.ok ρ (bnd k):=fun k h=>Facts.ok_cons (by rw[dlt_f];exact h.1) (Facts.ok_cons (by rw[dlt_f];exact h.2) (Facts.ok_nil _))
 have nz:¬(ρ.i 300=0∧ρ.i 301=0):=fun h=>x3 (Prod.ext h.1 h.2)
 have fk:Facts.ok ρ fF:=all_ok (all_ok (bk 300 b0) (bk 301 b1)) (Facts.ok_cons (by rw[dand_f,deq_f,deq_f];simp only[IE.den];omega) (Facts.ok_nil _))
 have k1:hasBody Try.prog 39=true∧∀n h,CY Try.prog n 39 (X.denL ρ [sX 0]) h (X.den ρ (cpX 300 301)) []:=x4
 have k2:hasBody Try.prog 69=true∧∀n h,CY Try.prog n 69 (X.denL ρ [sX 0]) h (X.den ρ (ptX 300 301)) []:=x5
 have cok:CfgOk Try.prog ρ (cfgL ksF (fun _=>[])):=cfgL_ok (List.forall_mem_cons.2 ⟨k1,List.forall_mem_cons.2 ⟨k2,List.forall_mem_nil _⟩⟩) (fun _ _ _=>LpsOk.nil _ _ _ _)
 refine⟨ρ,rfl,rfl,b0,b1,x3,fk,?_⟩
 intro m k Φ t h1 h2 h3 h4
 unfold OfG
 rw[h4]
 exact askF_ok (c:=⟨cfgL ksF (fun _=>[]),l_able,[37,58]⟩) cok l_able_ok h3 (r := .sc (.i .i64 (.lit k))) (by rw[h1,h2];rfl)
theorem bd1:Bd 1∧Bd 0∧Bd 2∧Bd (-1)∧Bd (-2):=by unfold Bd;decide
theorem of_1 (x:ByteArray) (hx:x.size<9223372036854775808):OfG x 1:=by
 obtain⟨ρ,_,_,_,_,_,fk,run⟩:=of_base x hx
 exact run of1_run rfl fk rfl
theorem of_2 (x:ByteArray) (hx:x.size<9223372036854775808):OfG x 2:=by
 obtain⟨ρ,e0,e1,b0,b1,nz,fk,run⟩:=of_base x hx
 obtain⟨d1,d0,_,n1,_⟩:=bd1
 have A:=fun a b (ha:Bd a) (hb:Bd b)=>sA_den (ρ:=ρ) ha hb b0 b1
 have B:=fun a b (ha:Bd a) (hb:Bd b)=>sB_den (ρ:=ρ) ha hb b0 b1
 generalize hp:pt x=p at e0 e1 nz run
 obtain⟨u,v⟩:=p
 simp only at e0 e1
 have nz:¬(u=0∧v=0):=fun h=>nz (Prod.ext h.1 h.2)
 rw[e0,e1]at A B
 clear b0 b1
 have dx:∀_:Unit,(IE.var 300).den ρ=u:=fun _=>e0
 have wc:∀_:Unit,(IE.op .pmul .i64 (.lit (-1)) (.var 300)).den ρ = -1*u:=fun _=>by rw[←e0];rfl
 clear e0 e1
 rcases Int.lt_trichotomy 0 v with c | c | c
 ·exact run ofA2_run rfl (all_ok fk (ps_ok (A 1 0 d1 d0) (by omega))) (s2_0 (.inl c))
 ·by_cases d:0<u
  ·exact run ofB2_run rfl (all_ok fk (all_ok (zr_ok (A 1 0 d1 d0) (by omega)) (ps_ok (dx ()) d))) (s2_0 (.inr ⟨c.symm,d⟩))
  ·exact run ofC2_run rfl (all_ok fk (all_ok (zr_ok (A 1 0 d1 d0) (by omega)) (all_ok (ng_ok (dx ()) (by omega)) (all_ok (zr_ok (B 0 (-1) d0 n1) (by omega)) (all_ok (zr_ok (A (-1) 0 n1 d0) (by omega)) (all_ok (ps_ok (wc ()) (by omega)) (zr_ok (B 0 1 d0 d1) (by omega)))))))) (s2_1 (by simp only;omega))
 ·exact run ofD2_run rfl (all_ok fk (all_ok (ng_ok (A 1 0 d1 d0) (by omega)) (all_ok (ng_ok (B 0 (-1) d0 n1) (by omega)) (all_ok (ps_ok (A (-1) 0 n1 d0) (by omega)) (ps_ok (B 0 1 d0 d1) (by omega)))))) (s2_1 (by simp only;omega))
theorem of_3 (x:ByteArray) (hx:x.size<9223372036854775808):OfG x 3:=by
 obtain⟨ρ,e0,e1,b0,b1,nz,fk,run⟩:=of_base x hx
 obtain⟨d1,d0,d2,n1,n2⟩:=bd1
 have A:=fun a b (ha:Bd a) (hb:Bd b)=>sA_den (ρ:=ρ) ha hb b0 b1
 have B:=fun a b (ha:Bd a) (hb:Bd b)=>sB_den (ρ:=ρ) ha hb b0 b1
 have W:=fun a b=>wA_den (ρ:=ρ) (a:=a) (b:=b)
 generalize hp:pt x=p at e0 e1 nz run
 obtain⟨u,v⟩:=p
 simp only at e0 e1
 have nz:¬(u=0∧v=0):=fun h=>nz (Prod.ext h.1 h.2)
 rw[e0,e1]at A B W
 clear b0 b1
 have dx:∀_:Unit,(IE.var 300).den ρ=u:=fun _=>e0
 clear e0 e1
 rcases Int.lt_trichotomy 0 v with c | c | c
 ·rcases Int.lt_trichotomy 0 (2*u+v)with d | d | d
  ·exact run ofA3_run rfl (all_ok fk (all_ok (ps_ok (A 1 0 d1 d0) (by omega)) (ps_ok (B 2 (-1) d2 n1) (by omega)))) (s3_0 (by simp only;omega))
  ·exact run ofC3_run rfl (all_ok fk (all_ok (ps_ok (A 1 0 d1 d0) (by omega)) (all_ok (zr_ok (B 2 (-1) d2 n1) (by omega)) (all_ok (zr_ok (A (-1) 2 n1 d2) (by omega)) (all_ok (ps_ok (W (-1) (-2)) (by omega)) (ps_ok (B (-2) (-1) n2 n1) (by omega))))))) (s3_1 (by simp only;omega) (by simp only;omega))
  ·exact run ofD3_run rfl (all_ok fk (all_ok (ps_ok (A 1 0 d1 d0) (by omega)) (all_ok (ng_ok (B 2 (-1) d2 n1) (by omega)) (all_ok (ps_ok (A (-1) 2 n1 d2) (by omega)) (ps_ok (B (-2) (-1) n2 n1) (by omega)))))) (s3_1 (by simp only;omega) (by simp only;omega))
 ·by_cases d:0<u
  ·exact run ofB3_run rfl (all_ok fk (all_ok (zr_ok (A 1 0 d1 d0) (by omega)) (all_ok (ps_ok (dx ()) d) (ps_ok (B 2 (-1) d2 n1) (by omega))))) (s3_0 (by simp only;omega))
  ·exact run ofE3_run rfl (all_ok fk (all_ok (zr_ok (A 1 0 d1 d0) (by omega)) (all_ok (ng_ok (dx ()) (by omega)) (all_ok (ps_ok (A (-1) 2 n1 d2) (by omega)) (ps_ok (B (-2) (-1) n2 n1) (by omega)))))) (s3_1 (by simp only;omega) (by simp only;omega))
 ·rcases Int.lt_trichotomy 0 (v-2*u)with d | d | d
  ·exact run ofF3_run rfl (all_ok fk (all_ok (ng_ok (A 1 0 d1 d0) (by omega)) (all_ok (ps_ok (A (-1) 2 n1 d2) (by omega)) (ps_ok (B (-2) (-1) n2 n1) (by omega))))) (s3_1 (by simp only;omega) (by simp only;omega))
  ·exact run ofG3_run rfl (all_ok fk (all_ok (ng_ok (A 1 0 d1 d0) (by omega)) (all_ok (ps_ok (A (-1) 2 n1 d2) (by omega)) (all_ok (zr_ok (B (-2) (-1) n2 n1) (by omega)) (all_ok (zr_ok (A (-1) (-2) n1 n2) (by omega)) (all_ok (ps_ok (W (-1) 2) (by omega)) (ps_ok (B 0 1 d0 d1) (by omega)))))))) (s3_2 (by simp only;omega) (by simp only;omega))
  ·rcases Int.lt_trichotomy 0 (2*u+v)with e | e | e
   ·exact run ofJ3_run rfl (all_ok fk (all_ok (ng_ok (A 1 0 d1 d0) (by omega)) (all_ok (ng_ok (A (-1) 2 n1 d2) (by omega)) (all_ok (ng_ok (B (-2) (-1) n2 n1) (by omega)) (all_ok (ps_ok (A (-1) (-2) n1 n2) (by omega)) (ps_ok (B 0 1 d0 d1) (by omega))))))) (s3_2 (by simp only;omega) (by simp only;omega))
   ·exact run ofI3_run rfl (all_ok fk (all_ok (ng_ok (A 1 0 d1 d0) (by omega)) (all_ok (zr_ok (A (-1) 2 n1 d2) (by omega)) (all_ok (ng_ok (W (-1) (-2)) (by omega)) (all_ok (ng_ok (B (-2) (-1) n2 n1) (by omega)) (all_ok (ps_ok (A (-1) (-2) n1 n2) (by omega)) (ps_ok (B 0 1 d0 d1) (by omega)))))))) (s3_2 (by simp only;omega) (by simp only;omega))
   ·exact run ofH3_run rfl (all_ok fk (all_ok (ng_ok (A 1 0 d1 d0) (by omega)) (all_ok (ps_ok (A (-1) 2 n1 d2) (by omega)) (all_ok (ng_ok (B (-2) (-1) n2 n1) (by omega)) (all_ok (ps_ok (A (-1) (-2) n1 n2) (by omega)) (ps_ok (B 0 1 d0 d1) (by omega))))))) (s3_2 (by simp only;omega) (by simp only;omega))
theorem of_cy (x:ByteArray) (hx:x.size<9223372036854775808) (m:Int) (hm:1≤m∧m≤3):OfG x m:=by
 have hm3:m=1∨m=2∨m=3:=by omega
 rcases hm3 with rfl | rfl | rfl
 ·exact of_1 x hx
 ·exact of_2 x hx
 ·exact of_3 x hx
end Go.Proofs.Ytdlifdoglhhnfaa
namespace Go.Proofs.Ytdlifdoglhhnfaa
open Go Go.Proofs.Aw Go.Proofs.Xw
def ke:List Kd:=List.replicate 6 (.i .i64)++[.s,.s,.b]++List.replicate 11 (.i .i64)
def ka:List Kd:=[.i .i64,.b]++ke++List.replicate 3 (.i .i64)
def kyR:X := .rl 1 (.len 2) (.var 2 [.s]) false
def anR:X := .rl 25 (.len 3) (.var 3 ka) false
def ixA:List X:=[.rl 1 (.var 0) (.var 1 [.s]) false,.sc (.s (.var 0))]
noncomputable def ix_c:Code:=(loopsOf (Try.f62.body.getD .skip))[0]?.getD .skip
abbrev zTM3_0:X := .sc (.i .i64 (.var 400))
abbrev zTM3_1:X := .sc (.i .i64 (.var 0))
abbrev zTM3_2:X := .rl 1 (.var 0) (.var 1 [.s]) false
abbrev zTM3_3:X := .sc (.s (.var 0))
abbrev zTM3_4:XTp:=[(8,zTM3_0),(7,zTM3_1),(6,zTM3_2),(4,(.sc (.i .i64 (.lit 0)))),(0,zTM3_2),(1,zTM3_3)]
abbrev zTM3_5:BE := .seq (.var 0) (.cl 1 0 (.var 400))
abbrev zTM3_6:X := .sc (.i .i64 (.op .add .i64 (.len 2) (.len 3)))
abbrev zTM3_7:X := .rl 25 (.len 3) (.var 3 [(.i .i64),.b,(.i .i64),(.i .i64),(.i .i64),(.i .i64),(.i .i64),(.i .i64),.s,.s,.b,(.i .i64),(.i .i64),(.i .i64),(.i .i64),(.i .i64),(.i .i64),(.i .i64),(.i .i64),(.i .i64),(.i .i64),(.i .i64),(.i .i64),(.i .i64),(.i .i64)]) false
abbrev zTM3_8:X := .rl 1 (.len 2) (.var 2 [.s]) false
abbrev zTM3_9:XTp:=[(6,(.sc (.i .i64 (.var 410)))),(5,(.sc (.i .i64 (.var 411)))),(11,zTM3_6),(10,(.sc (.i .i64 (.len 3)))),(9,zTM3_7),(8,(.sc (.i .i64 (.len 2)))),(7,zTM3_8),(4,(.sc (.b (.lit false)))),(0,zTM3_8),(1,zTM3_7)]
abbrev zTM3_10:IE := .op .add .i64 (.var 410) (.lit 1)
abbrev zTM3_11:IE := .op .add .i64 (.var 411) (.op .quo .i64 (.slen (.cl 2 0 (.var 410))) (.lit 20))
abbrev zTM3_12:BE := .and (.lt (.var 410) (.len 2)) (.not (.lt (.lit 500) (.var 411)))
abbrev zTM3_13:BE := .not (.lt (.var 400) (.var 0))
def ix_S:XS:=⟨zTM3_4,[],4⟩
def ix_Φ:Facts:=[(.lt (.var 400) (.lit 0),false),(.lt (.var 0) (.lit 0),false)]
def ix_b:Bind:=⟨[(400,(.op .add .i64 (.var 400) (.lit 1)))],[],[],[]⟩
def ix_i:Bind:=⟨[(400,(.lit 0))],[],[],[]⟩
def ix_t:T (XE×XS):=(.br (.lt (.var 400) (.var 0)) (.br zTM3_5 (.ret (.ret,⟨[(8,zTM3_0),(7,zTM3_1),(6,zTM3_2),(4,zTM3_0),(0,zTM3_2),(1,zTM3_3)],[],15⟩)) (.ret (.normal,⟨[(8,(.sc (.i .i64 (.op .add .i64 (.var 400) (.lit 1))))),(7,zTM3_1),(6,zTM3_2),(4,(.sc (.i .i64 (.lit 0)))),(0,zTM3_2),(1,zTM3_3)],[],15⟩))) (.ret ((.exit 0),⟨zTM3_4,[],5⟩)))
noncomputable def ix:LoopX:=⟨((codeKey ix_c).getD 0),0,400,ix_S,ix_i,[],ix_t.outs⟩
theorem ix_run:(codeX (cfgL ([]) (fun _=>[])).ti (callS ⟨(cfgL ([]) (fun _=>[])),l_able,[]⟩ 12) (((cfgL ([]) (fun _=>[])).ft 62).elim [] (·.ms)) ix.k0 ((fun _=>[]) 62) 1000 ix_c ix_Φ ix.S).map (sqz (ix_S.t.map (·.1)))=ix_t:=by kernel_rfl
theorem ix_back:ix_t.nrm (okS ix.k0 ix.n ix_b [] ix.S)=true:=by kernel_rfl
theorem ix_bel:ix_t.outs.belX 401=true:=by kernel_rfl
theorem ix_ib:ix_i.bel 400=true:=by kernel_rfl
theorem ix_ig:ix_i.ge 400=true:=by kernel_rfl
theorem ix_bg:ix_b.ge 400=true:=by kernel_rfl
theorem ix_same:ix_i.same ix_b=true:=by kernel_rfl
theorem ix_fits:fitsC Try.f62.ntmps ix_c=true:=by kernel_rfl
noncomputable def mu_c:Code:=(loopsOf (Try.f8.body.getD .skip))[0]?.getD .skip
def mu_S:XS:=⟨zTM3_9,[],8⟩
def mu_Φ:Facts:=[(.lt (.var 410) (.lit 0),false)]
def mu_b:Bind:=⟨[(410,zTM3_10),(411,zTM3_11)],[],[],[]⟩
def mu_i:Bind:=⟨[(410,(.lit 0)),(411,(.op .add .i64 (.len 2) (.len 3)))],[],[],[]⟩
def mu_t:T (XE×XS):=(.br zTM3_12 (.ret (.normal,⟨[(6,(.sc (.i .i64 zTM3_10))),(5,(.sc (.i .i64 zTM3_11))),(11,zTM3_6),(10,(.sc (.i .i64 (.len 3)))),(9,zTM3_7),(8,(.sc (.i .i64 (.len 2)))),(7,zTM3_8),(4,(.sc (.b (.lit false)))),(0,zTM3_8),(1,zTM3_7)],[],28⟩)) (.ret ((.exit 0),⟨zTM3_9,[],16⟩)))
noncomputable def mu:LoopX:=⟨((codeKey mu_c).getD 0),0,410,mu_S,mu_i,[],mu_t.outs⟩
theorem mu_run:(codeX (cfgL ([]) (fun _=>[])).ti (callS ⟨(cfgL ([]) (fun _=>[])),l_able,[]⟩ 12) (((cfgL ([]) (fun _=>[])).ft 8).elim [] (·.ms)) mu.k0 ((fun _=>[]) 8) 1000 mu_c mu_Φ mu.S).map (sqz (mu_S.t.map (·.1)))=mu_t:=by kernel_rfl
theorem mu_back:mu_t.nrm (okS mu.k0 mu.n mu_b [] mu.S)=true:=by kernel_rfl
theorem mu_bel:mu_t.outs.belX 412=true:=by kernel_rfl
theorem mu_ib:mu_i.bel 410=true:=by kernel_rfl
theorem mu_ig:mu_i.ge 410=true:=by kernel_rfl
theorem mu_bg:mu_b.ge 410=true:=by kernel_rfl
theorem mu_same:mu_i.same mu_b=true:=by kernel_rfl
theorem mu_fits:fitsC Try.f8.ntmps mu_c=true:=by kernel_rfl
end Go.Proofs.Ytdlifdoglhhnfaa
namespace Go.Proofs.Ytdlifdoglhhnfaa
open Go Go.Proofs.Aw Go.Proofs.Xw
noncomputable def lpIx (f:Nat):List LoopX:=if Nat.beq f 62=true then [ix]else []
theorem lpIx_62o:othersB [ix] [0] 0 (loopsOf (Try.f62.body.getD .skip))=true:=by kernel_rfl
theorem lpIx_62 {ρ:Rho} (h_ix:LoopOk Try.prog ρ Try.f62.ntmps ix_c ix):LpsOk Try.prog ρ Try.f62.ntmps [ix] (Try.f62.body.getD .skip) :=
 lps_idx [0] lpIx_62o (List.forall_mem_cons.2 ⟨look_list (c:=ix_c) (Ls:=[ix]) (by kernel_rfl) (List.forall_mem_cons.2 ⟨h_ix,List.forall_mem_nil _⟩),List.forall_mem_nil _⟩)
theorem lpIx_ok {ρ:Rho} (h_ix:LoopOk Try.prog ρ Try.f62.ntmps ix_c ix):∀f i,btLook f ftsT=some i→LpsOk Try.prog ρ i.ntmps (lpIx f) i.body:=by
 intro f i h
 have hi:=fts_ok (f,i) (bt_of_mem _ _ (btLook_mem h))
 unfold lpIx
 split
 ·rename_i hf
  have hf:=Nat.eq_of_beq_eq_true hf
  subst hf
  exact lps_row hi Try.func62 (lpIx_62 h_ix)
 ·exact LpsOk.nil _ _ _ _
noncomputable def lpMu (f:Nat):List LoopX:=if Nat.beq f 8=true then [mu]else []
theorem lpMu_8o:othersB [mu] [0] 0 (loopsOf (Try.f8.body.getD .skip))=true:=by kernel_rfl
theorem lpMu_8 {ρ:Rho} (h_mu:LoopOk Try.prog ρ Try.f8.ntmps mu_c mu):LpsOk Try.prog ρ Try.f8.ntmps [mu] (Try.f8.body.getD .skip) :=
 lps_idx [0] lpMu_8o (List.forall_mem_cons.2 ⟨look_list (c:=mu_c) (Ls:=[mu]) (by kernel_rfl) (List.forall_mem_cons.2 ⟨h_mu,List.forall_mem_nil _⟩),List.forall_mem_nil _⟩)
theorem lpMu_ok {ρ:Rho} (h_mu:LoopOk Try.prog ρ Try.f8.ntmps mu_c mu):∀f i,btLook f ftsT=some i→LpsOk Try.prog ρ i.ntmps (lpMu f) i.body:=by
 intro f i h
 have hi:=fts_ok (f,i) (bt_of_mem _ _ (btLook_mem h))
 unfold lpMu
 split
 ·rename_i hf
  have hf:=Nat.eq_of_beq_eq_true hf
  subst hf
  exact lps_row hi Try.func8 (lpMu_8 h_mu)
 ·exact LpsOk.nil _ _ _ _
def ctR:T X:=(.need (.or zTM3_13 zTM3_5) (.ret (.sc (.b (.not (.or zTM3_13 (.lt (.var 400) (.lit 0))))))))
theorem ctR_run:askF ⟨cfgL [] lpIx,l_able,[]⟩ 53 (ixA) [(.lt (.var 0) (.lit 0),false)]=ctR:=by kernel_rfl
def muR:T X:=(.need (.not zTM3_12) (.ret (.sc (.b (.lt (.lit 500) (.var 411))))))
theorem muR_run:askF ⟨cfgL [] lpMu,l_able,[]⟩ 8 ([kyR,anR]) []=muR:=by kernel_rfl
end Go.Proofs.Ytdlifdoglhhnfaa
