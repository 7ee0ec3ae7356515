/- What functions answer, run over letters, where something is known; each shown by running it. -/
import Derived.Test.YtonefailiekemaaXT
import Derived.Test.YtonefailiekemaaXLP3
import Derived.Test.YtonefailiekemaaXwM3
namespace Go.Proofs.Ytonefailiekemaa
open Go Go.Proofs.Aw Go.Proofs.Xw
set_option maxRecDepth 100000
noncomputable def lyC (f : Nat) : List LoopX := if Nat.beq f 22 = true then [kC] else []
theorem lyC_22o : othersB [kC] [0] 0 (loopsOf (Try.f22.body.getD .skip)) = true := by kernel_rfl
theorem lyC_22 {ρ : Rho} (h_kC : LoopOk Try.prog ρ Try.f22.ntmps kC_c kC) : LpsOk Try.prog ρ Try.f22.ntmps [kC] (Try.f22.body.getD .skip) :=
  lps_idx [0] lyC_22o (List.forall_mem_cons.2 ⟨look_list (c := kC_c) (Ls := [kC]) (by kernel_rfl) (List.forall_mem_cons.2 ⟨h_kC, List.forall_mem_nil _⟩), List.forall_mem_nil _⟩)
theorem lyC_ok {ρ : Rho} (h_kC : LoopOk Try.prog ρ Try.f22.ntmps kC_c kC) : ∀ f i, btLook f ftsT = some i → LpsOk Try.prog ρ i.ntmps (lyC f) i.body := by
  intro f i h
  have hi := fts_ok (f, i) (bt_of_mem _ _ (btLook_mem h))
  unfold lyC
  split
  · rename_i hf
    have hf := Nat.eq_of_beq_eq_true hf
    subst hf
    exact lps_row hi Try.func22 (lyC_22 h_kC)
  · exact LpsOk.nil _ _ _ _
noncomputable def lyP (f : Nat) : List LoopX := if Nat.beq f 50 = true then [pA, pB] else []
theorem lyP_50o : othersB [pA, pB] [0, 1] 0 (loopsOf (Try.f50.body.getD .skip)) = true := by kernel_rfl
theorem lyP_50 {ρ : Rho} (h_pA : LoopOk Try.prog ρ Try.f50.ntmps pA_c pA) (h_pB : LoopOk Try.prog ρ Try.f50.ntmps pB_c pB) : LpsOk Try.prog ρ Try.f50.ntmps [pA, pB] (Try.f50.body.getD .skip) :=
  lps_idx [0, 1] lyP_50o (List.forall_mem_cons.2 ⟨look_list (c := pA_c) (Ls := [pA]) (by kernel_rfl) (List.forall_mem_cons.2 ⟨h_pA, List.forall_mem_nil _⟩), List.forall_mem_cons.2 ⟨look_list (c := pB_c) (Ls := [pB]) (by kernel_rfl) (List.forall_mem_cons.2 ⟨h_pB, List.forall_mem_nil _⟩), List.forall_mem_nil _⟩⟩)
theorem lyP_ok {ρ : Rho} (h_pA : LoopOk Try.prog ρ Try.f50.ntmps pA_c pA) (h_pB : LoopOk Try.prog ρ Try.f50.ntmps pB_c pB) : ∀ f i, btLook f ftsT = some i → LpsOk Try.prog ρ i.ntmps (lyP f) i.body := by
  intro f i h
  have hi := fts_ok (f, i) (bt_of_mem _ _ (btLook_mem h))
  unfold lyP
  split
  · rename_i hf
    have hf := Nat.eq_of_beq_eq_true hf
    subst hf
    exact lps_row hi Try.func50 (lyP_50 h_pA h_pB)
  · exact LpsOk.nil _ _ _ _
noncomputable def lyN (f : Nat) : List LoopX := if Nat.beq f 46 = true then [nX] else []
theorem lyN_46o : othersB [nX] [0] 0 (loopsOf (Try.f46.body.getD .skip)) = true := by kernel_rfl
theorem lyN_46 {ρ : Rho} (h_nX : LoopOk Try.prog ρ Try.f46.ntmps nX_c nX) : LpsOk Try.prog ρ Try.f46.ntmps [nX] (Try.f46.body.getD .skip) :=
  lps_idx [0] lyN_46o (List.forall_mem_cons.2 ⟨look_list (c := nX_c) (Ls := [nX]) (by kernel_rfl) (List.forall_mem_cons.2 ⟨h_nX, List.forall_mem_nil _⟩), List.forall_mem_nil _⟩)
theorem lyN_ok {ρ : Rho} (h_nX : LoopOk Try.prog ρ Try.f46.ntmps nX_c nX) : ∀ f i, btLook f ftsT = some i → LpsOk Try.prog ρ i.ntmps (lyN f) i.body := by
  intro f i h
  have hi := fts_ok (f, i) (bt_of_mem _ _ (btLook_mem h))
  unfold lyN
  split
  · rename_i hf
    have hf := Nat.eq_of_beq_eq_true hf
    subst hf
    exact lps_row hi Try.func46 (lyN_46 h_nX)
  · exact LpsOk.nil _ _ _ _
noncomputable def lyM (f : Nat) : List LoopX := if Nat.beq f 10 = true then [mX] else []
theorem lyM_10o : othersB [mX] [0] 0 (loopsOf (Try.f10.body.getD .skip)) = true := by kernel_rfl
theorem lyM_10 {ρ : Rho} (h_mX : LoopOk Try.prog ρ Try.f10.ntmps mX_c mX) : LpsOk Try.prog ρ Try.f10.ntmps [mX] (Try.f10.body.getD .skip) :=
  lps_idx [0] lyM_10o (List.forall_mem_cons.2 ⟨look_list (c := mX_c) (Ls := [mX]) (by kernel_rfl) (List.forall_mem_cons.2 ⟨h_mX, List.forall_mem_nil _⟩), List.forall_mem_nil _⟩)
theorem lyM_ok {ρ : Rho} (h_mX : LoopOk Try.prog ρ Try.f10.ntmps mX_c mX) : ∀ f i, btLook f ftsT = some i → LpsOk Try.prog ρ i.ntmps (lyM f) i.body := by
  intro f i h
  have hi := fts_ok (f, i) (bt_of_mem _ _ (btLook_mem h))
  unfold lyM
  split
  · rename_i hf
    have hf := Nat.eq_of_beq_eq_true hf
    subst hf
    exact lps_row hi Try.func10 (lyM_10 h_mX)
  · exact LpsOk.nil _ _ _ _
noncomputable def lyF (f : Nat) : List LoopX := if Nat.beq f 85 = true then [fX] else []
theorem lyF_85o : othersB [fX] [0] 0 (loopsOf (Try.f85.body.getD .skip)) = true := by kernel_rfl
theorem lyF_85 {ρ : Rho} (h_fX : LoopOk Try.prog ρ Try.f85.ntmps fX_c fX) : LpsOk Try.prog ρ Try.f85.ntmps [fX] (Try.f85.body.getD .skip) :=
  lps_idx [0] lyF_85o (List.forall_mem_cons.2 ⟨look_list (c := fX_c) (Ls := [fX]) (by kernel_rfl) (List.forall_mem_cons.2 ⟨h_fX, List.forall_mem_nil _⟩), List.forall_mem_nil _⟩)
theorem lyF_ok {ρ : Rho} (h_fX : LoopOk Try.prog ρ Try.f85.ntmps fX_c fX) : ∀ f i, btLook f ftsT = some i → LpsOk Try.prog ρ i.ntmps (lyF f) i.body := by
  intro f i h
  have hi := fts_ok (f, i) (bt_of_mem _ _ (btLook_mem h))
  unfold lyF
  split
  · rename_i hf
    have hf := Nat.eq_of_beq_eq_true hf
    subst hf
    exact lps_row hi Try.func85 (lyF_85 h_fX)
  · exact LpsOk.nil _ _ _ _

abbrev zXL1_0 : BE := .lt (.var 100) (.len 0)
abbrev zXL1_1 : IE := .op .add .i64 (.op .min .i64 (.var 101) (.lit 1099511627776)) (.lit 1)
abbrev zXL1_2 : BE := .and (.not (.lt zXL1_1 (.lit 1))) (.not (.lt (.lit 1099511627776) zXL1_1))
def colR : T X := (.need (.not zXL1_0) (.ret (.agg [(.sc (.i .i64 (.var 101))), (.sc (.i .i64 (.var 102))), (.sc (.i .i64 (.var 103)))])))
theorem colR_run : askF ⟨cfgL [] lyC, l_able, []⟩ 22 ([iC 0, esR]) [] = colR := by kernel_rfl
def pastR : T X := (.need (.and (.not zXL1_0) (.not (.lt (.var 120) (.len 0)))) (.ret (.agg [(.sc (.i .i64 (.var 121))), (.sc (.i .i64 (.var 122))), (.sc (.i .i64 (.var 123))), (.sc (.i .i64 (.var 124))), (.sc (.i .i64 (.var 125))), (.sc (.i .i64 (.var 126))), (.sc (.i .i64 (.var 127))), (.sc (.i .i64 (.var 128))), (.sc (.i .i64 (.var 129)))])))
theorem pastR_run : askF ⟨cfgL [] lyP, l_able, []⟩ 50 ([esR]) [] = pastR := by kernel_rfl
def nextR : T X := (.need (.not zXL1_0) (.ret (.tup [(.agg [(.sc (.i .i64 (.ite (.not zXL1_2) (.lit 0) zXL1_1))), (.sc (.i .i64 (.lit 0))), (.sc (.i .i64 (.lit 0)))]), (.sc (.b zXL1_2))])))
theorem nextR_run : askF ⟨cfgL [] lyN, l_able, []⟩ 46 ([iC 0, iC 0, isR]) [] = nextR := by kernel_rfl
def muchR : T X := (.need (.not (.and zXL1_0 (.not (.lt (.lit 400) (.var 101))))) (.ret (.sc (.b (.lt (.lit 400) (.var 101))))))
theorem muchR_run : askF ⟨cfgL [] lyM, l_able, []⟩ 10 ([puR]) [] = muchR := by kernel_rfl
def findR : T X := (.need (.or (.not zXL1_0) (.and (.eq (.cl 0 18 (.var 100)) (.var 0)) (.eq (.cl 0 19 (.var 100)) (.var 1)))) (.ret (.sc (.i .i64 (.ite zXL1_0 (.var 100) (.lit (-1)))))))
theorem findR_run : askF ⟨cfgL [] lyF, l_able, []⟩ 85 ([esR, fnX]) [] = findR := by kernel_rfl
end Go.Proofs.Ytonefailiekemaa
