/- What functions answer, run over letters, where something is known; each shown by running it. -/
import Derived.Test.YtonefailiekemaaXT
import Derived.Test.YtonefailiekemaaXN1
import Derived.Test.YtonefailiekemaaXL1
import Derived.Test.YtonefailiekemaaXwM3
namespace Go.Proofs.Ytonefailiekemaa
open Go Go.Proofs.Aw Go.Proofs.Xw
set_option maxRecDepth 100000
noncomputable def lyK (f : Nat) : List LoopX := if Nat.beq f 22 = true then [kD] else []
theorem lyK_22o : othersB [kD] [0] 0 (loopsOf (Try.f22.body.getD .skip)) = true := by kernel_rfl
theorem lyK_22 {ρ : Rho} (h_kD : LoopOk Try.prog ρ Try.f22.ntmps kD_c kD) : LpsOk Try.prog ρ Try.f22.ntmps [kD] (Try.f22.body.getD .skip) :=
  lps_idx [0] lyK_22o (List.forall_mem_cons.2 ⟨look_list (c := kD_c) (Ls := [kD]) (by kernel_rfl) (List.forall_mem_cons.2 ⟨h_kD, List.forall_mem_nil _⟩), List.forall_mem_nil _⟩)
theorem lyK_ok {ρ : Rho} (h_kD : LoopOk Try.prog ρ Try.f22.ntmps kD_c kD) : ∀ f i, btLook f ftsT = some i → LpsOk Try.prog ρ i.ntmps (lyK f) i.body := by
  intro f i h
  have hi := fts_ok (f, i) (bt_of_mem _ _ (btLook_mem h))
  unfold lyK
  split
  · rename_i hf
    have hf := Nat.eq_of_beq_eq_true hf
    subst hf
    exact lps_row hi Try.func22 (lyK_22 h_kD)
  · exact LpsOk.nil _ _ _ _
noncomputable def lyY (f : Nat) : List LoopX := if Nat.beq f 46 = true then [nY] else []
theorem lyY_46o : othersB [nY] [0] 0 (loopsOf (Try.f46.body.getD .skip)) = true := by kernel_rfl
theorem lyY_46 {ρ : Rho} (h_nY : LoopOk Try.prog ρ Try.f46.ntmps nY_c nY) : LpsOk Try.prog ρ Try.f46.ntmps [nY] (Try.f46.body.getD .skip) :=
  lps_idx [0] lyY_46o (List.forall_mem_cons.2 ⟨look_list (c := nY_c) (Ls := [nY]) (by kernel_rfl) (List.forall_mem_cons.2 ⟨h_nY, List.forall_mem_nil _⟩), List.forall_mem_nil _⟩)
theorem lyY_ok {ρ : Rho} (h_nY : LoopOk Try.prog ρ Try.f46.ntmps nY_c nY) : ∀ f i, btLook f ftsT = some i → LpsOk Try.prog ρ i.ntmps (lyY f) i.body := by
  intro f i h
  have hi := fts_ok (f, i) (bt_of_mem _ _ (btLook_mem h))
  unfold lyY
  split
  · rename_i hf
    have hf := Nat.eq_of_beq_eq_true hf
    subst hf
    exact lps_row hi Try.func46 (lyY_46 h_nY)
  · exact LpsOk.nil _ _ _ _

abbrev zXN2_0 : BE := .not (.lt (.var 100) (.len 0))
abbrev zXN2_1 : IE := .op .add .i64 (.op .min .i64 (.var 101) (.lit 1099511627776)) (.lit 1)
abbrev zXN2_2 : BE := .and (.and (.and (.and (.and (.not (.lt zXN2_1 (.lit 1))) (.not (.lt (.lit 1099511627776) zXN2_1))) (.not (.lt (.var 0) (.lit 0)))) (.lt (.var 0) (.lit 3))) (.not (.lt (.var 1) (.lit 0)))) (.lt (.var 1) (.lit 3))
def colD : T X := (.need zXN2_0 (.ret (.agg [(.sc (.i .i64 (.var 101))), (.sc (.i .i64 (.var 102))), (.sc (.i .i64 (.var 103)))])))
theorem colD_run : askF ⟨cfgL [] lyK, l_able, []⟩ 22 ([iV 1, esR]) [] = colD := by kernel_rfl
def nextD : T X := (.need zXN2_0 (.ret (.tup [(.agg [(.sc (.i .i64 (.ite (.not zXN2_2) (.lit 0) zXN2_1))), (.sc (.i .i64 (.ite (.not zXN2_2) (.lit 0) (.var 0)))), (.sc (.i .i64 (.ite (.not zXN2_2) (.lit 0) (.var 1))))]), (.sc (.b zXN2_2))])))
theorem nextD_run : askF ⟨cfgL [] lyY, l_able, []⟩ 46 ([iV 0, iV 1, isR]) [] = nextD := by kernel_rfl
end Go.Proofs.Ytonefailiekemaa
