/- The truth that the law VecOrder answers is true, whatever the letters stand for. -/
import Derived.Test.YtcllappmhdfffaaXL1
import Derived.Test.YtcllappmhdfffaaXP
namespace Go.Proofs.Ytcllappmhdfffaa
open Go Go.Proofs.Aw Go.Proofs.Xw
set_option linter.unusedSimpArgs false
set_option maxRecDepth 100000
def orderSh : List Sh := [shVec, shVec, shVec]
theorem pnot_t (ρ : Rho) (a : BE) : ((BE.not a).den ρ = true) = ¬ (a.den ρ = true) := by simp [BE.den]
theorem pfalse (b : Bool) : (b = false) = ¬ (b = true) := by simp
theorem pite_t (ρ : Rho) (c a b : BE) : ((BE.ite c a b).den ρ = true) = ((c.den ρ = true → a.den ρ = true) ∧ (¬ c.den ρ = true → b.den ρ = true)) := by simp only [BE.den]; cases BE.den ρ c <;> simp
theorem eq_swap (ρ : Rho) : (ρ.i 9 = ρ.i 0 ∧ ρ.i 10 = ρ.i 1 ∧ ρ.i 11 = ρ.i 2 ∧ ρ.i 12 = ρ.i 3 ∧ ρ.i 13 = ρ.i 4 ∧ ρ.i 14 = ρ.i 5 ∧ ρ.i 15 = ρ.i 6 ∧ ρ.i 16 = ρ.i 7 ∧ ρ.i 17 = ρ.i 8) = (ρ.i 0 = ρ.i 9 ∧ ρ.i 1 = ρ.i 10 ∧ ρ.i 2 = ρ.i 11 ∧ ρ.i 3 = ρ.i 12 ∧ ρ.i 4 = ρ.i 13 ∧ ρ.i 5 = ρ.i 14 ∧ ρ.i 6 = ρ.i 15 ∧ ρ.i 7 = ρ.i 16 ∧ ρ.i 8 = ρ.i 17) := by
  apply propext; constructor <;> intro h <;> (repeat' apply And.intro) <;> omega
theorem eq_cov (ρ : Rho) : (ρ.i 0 = ρ.i 9 ∧ ρ.i 1 = ρ.i 10 ∧ ρ.i 2 = ρ.i 11 ∧ ρ.i 3 = ρ.i 12 ∧ ρ.i 4 = ρ.i 13 ∧ ρ.i 5 = ρ.i 14 ∧ ρ.i 6 = ρ.i 15 ∧ ρ.i 7 = ρ.i 16 ∧ ρ.i 8 = ρ.i 17) ↔ ¬ ((ρ.i 9 < ρ.i 0 ∨ ρ.i 10 < ρ.i 1 ∨ ρ.i 11 < ρ.i 2) ∨ (ρ.i 12 < ρ.i 3 ∨ ρ.i 13 < ρ.i 4 ∨ ρ.i 14 < ρ.i 5) ∨ (ρ.i 15 < ρ.i 6 ∨ ρ.i 16 < ρ.i 7 ∨ ρ.i 17 < ρ.i 8)) ∧ ¬ ((ρ.i 0 < ρ.i 9 ∨ ρ.i 1 < ρ.i 10 ∨ ρ.i 2 < ρ.i 11) ∨ (ρ.i 3 < ρ.i 12 ∨ ρ.i 4 < ρ.i 13 ∨ ρ.i 5 < ρ.i 14) ∨ (ρ.i 6 < ρ.i 15 ∨ ρ.i 7 < ρ.i 16 ∨ ρ.i 8 < ρ.i 17)) := by
  constructor
  · intro h; constructor <;> (intro g; omega)
  · intro h; simp only [not_or, Int.not_lt] at h; (repeat' apply And.intro) <;> omega
theorem cov_trans (ρ : Rho) : (((ρ.i 0 < ρ.i 9 ∨ ρ.i 1 < ρ.i 10 ∨ ρ.i 2 < ρ.i 11) ∨ (ρ.i 3 < ρ.i 12 ∨ ρ.i 4 < ρ.i 13 ∨ ρ.i 5 < ρ.i 14) ∨ (ρ.i 6 < ρ.i 15 ∨ ρ.i 7 < ρ.i 16 ∨ ρ.i 8 < ρ.i 17)) ∨ ((ρ.i 9 < ρ.i 18 ∨ ρ.i 10 < ρ.i 19 ∨ ρ.i 11 < ρ.i 20) ∨ (ρ.i 12 < ρ.i 21 ∨ ρ.i 13 < ρ.i 22 ∨ ρ.i 14 < ρ.i 23) ∨ (ρ.i 15 < ρ.i 24 ∨ ρ.i 16 < ρ.i 25 ∨ ρ.i 17 < ρ.i 26))) ∨ ¬ ((ρ.i 0 < ρ.i 18 ∨ ρ.i 1 < ρ.i 19 ∨ ρ.i 2 < ρ.i 20) ∨ (ρ.i 3 < ρ.i 21 ∨ ρ.i 4 < ρ.i 22 ∨ ρ.i 5 < ρ.i 23) ∨ (ρ.i 6 < ρ.i 24 ∨ ρ.i 7 < ρ.i 25 ∨ ρ.i 8 < ρ.i 26)) := by
  apply Classical.or_iff_not_imp_left.2
  intro h
  simp only [not_or, Int.not_lt] at h ⊢
  (repeat' apply And.intro) <;> omega
theorem order_true (ρ : Rho) : order.r.be.den ρ = true := by
  have h1 := eq_cov ρ
  have h2 := cov_trans ρ
  simp only [order, X.be, dl_t, dlt_t, deq_t, pnot_t, pfalse, dand_t, dor_t, pite_t, IE.den, IOp.den]
  simp only [eq_swap ρ]
  refine ⟨?_, ?_⟩
  · clear h2
    by_cases hA : ((ρ.i 9 < ρ.i 0 ∨ ρ.i 10 < ρ.i 1 ∨ ρ.i 11 < ρ.i 2) ∨ (ρ.i 12 < ρ.i 3 ∨ ρ.i 13 < ρ.i 4 ∨ ρ.i 14 < ρ.i 5) ∨ (ρ.i 15 < ρ.i 6 ∨ ρ.i 16 < ρ.i 7 ∨ ρ.i 17 < ρ.i 8)) <;> by_cases hB : ((ρ.i 0 < ρ.i 9 ∨ ρ.i 1 < ρ.i 10 ∨ ρ.i 2 < ρ.i 11) ∨ (ρ.i 3 < ρ.i 12 ∨ ρ.i 4 < ρ.i 13 ∨ ρ.i 5 < ρ.i 14) ∨ (ρ.i 6 < ρ.i 15 ∨ ρ.i 7 < ρ.i 16 ∨ ρ.i 8 < ρ.i 17)) <;> simp only [hA, hB, not_true_eq_false, not_false_eq_true, and_true, and_false, iff_true, iff_false] at h1 <;> simp only [hA, hB, h1] <;> simp <;> first | rfl | decide | trace_state
  · exact h2


theorem order_den (ρ : Rho) : X.den ρ order.r = .sc (.bool true) := congrArg (fun b => AV.sc (.bool b)) (order_true ρ)
end Go.Proofs.Ytcllappmhdfffaa
