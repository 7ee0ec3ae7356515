/- The truth that the law VecTells answers is true, whatever the letters stand for. -/
import Derived.Test.YtcllappmhdfffaaXL2
import Derived.Test.YtcllappmhdfffaaXP
namespace Go.Proofs.Ytcllappmhdfffaa
open Go Go.Proofs.Aw Go.Proofs.Xw
set_option linter.unusedSimpArgs false
set_option maxRecDepth 100000
def tellsSh : List Sh := [shVec, shVec, shEnt, shDot]
theorem eq_both (ρ : Rho) : (ρ.i 0 = ρ.i 9 ∧ ρ.i 1 = ρ.i 10 ∧ ρ.i 2 = ρ.i 11 ∧ ρ.i 3 = ρ.i 12 ∧ ρ.i 4 = ρ.i 13 ∧ ρ.i 5 = ρ.i 14 ∧ ρ.i 6 = ρ.i 15 ∧ ρ.i 7 = ρ.i 16 ∧ ρ.i 8 = ρ.i 17) = ((ρ.i 9 ≤ ρ.i 0 ∧ ρ.i 10 ≤ ρ.i 1 ∧ ρ.i 11 ≤ ρ.i 2 ∧ ρ.i 12 ≤ ρ.i 3 ∧ ρ.i 13 ≤ ρ.i 4 ∧ ρ.i 14 ≤ ρ.i 5 ∧ ρ.i 15 ≤ ρ.i 6 ∧ ρ.i 16 ≤ ρ.i 7 ∧ ρ.i 17 ≤ ρ.i 8) ∧ ρ.i 0 ≤ ρ.i 9 ∧ ρ.i 1 ≤ ρ.i 10 ∧ ρ.i 2 ≤ ρ.i 11 ∧ ρ.i 3 ≤ ρ.i 12 ∧ ρ.i 4 ≤ ρ.i 13 ∧ ρ.i 5 ≤ ρ.i 14 ∧ ρ.i 6 ≤ ρ.i 15 ∧ ρ.i 7 ≤ ρ.i 16 ∧ ρ.i 8 ≤ ρ.i 17) := by
  apply propext; constructor
  · intro h; (repeat' apply And.intro) <;> omega
  · intro h; (repeat' apply And.intro) <;> omega
theorem flat_both (ρ : Rho) : (ρ.i 9 ≤ ρ.i 0 ∧ ρ.i 10 ≤ ρ.i 1 ∧ ρ.i 11 ≤ ρ.i 2 ∧ ρ.i 12 ≤ ρ.i 3 ∧ ρ.i 13 ≤ ρ.i 4 ∧ ρ.i 14 ≤ ρ.i 5 ∧ ρ.i 15 ≤ ρ.i 6 ∧ ρ.i 16 ≤ ρ.i 7 ∧ ρ.i 17 ≤ ρ.i 8 ∧ ρ.i 0 ≤ ρ.i 9 ∧ ρ.i 1 ≤ ρ.i 10 ∧ ρ.i 2 ≤ ρ.i 11 ∧ ρ.i 3 ≤ ρ.i 12 ∧ ρ.i 4 ≤ ρ.i 13 ∧ ρ.i 5 ≤ ρ.i 14 ∧ ρ.i 6 ≤ ρ.i 15 ∧ ρ.i 7 ≤ ρ.i 16 ∧ ρ.i 8 ≤ ρ.i 17) = ((ρ.i 9 ≤ ρ.i 0 ∧ ρ.i 10 ≤ ρ.i 1 ∧ ρ.i 11 ≤ ρ.i 2 ∧ ρ.i 12 ≤ ρ.i 3 ∧ ρ.i 13 ≤ ρ.i 4 ∧ ρ.i 14 ≤ ρ.i 5 ∧ ρ.i 15 ≤ ρ.i 6 ∧ ρ.i 16 ≤ ρ.i 7 ∧ ρ.i 17 ≤ ρ.i 8) ∧ ρ.i 0 ≤ ρ.i 9 ∧ ρ.i 1 ≤ ρ.i 10 ∧ ρ.i 2 ≤ ρ.i 11 ∧ ρ.i 3 ≤ ρ.i 12 ∧ ρ.i 4 ≤ ρ.i 13 ∧ ρ.i 5 ≤ ρ.i 14 ∧ ρ.i 6 ≤ ρ.i 15 ∧ ρ.i 7 ≤ ρ.i 16 ∧ ρ.i 8 ≤ ρ.i 17) := by simp only [and_assoc]
theorem tells_true (ρ : Rho) : tells.r.be.den ρ = true := by
  simp only [tells, X.be, dl_t, dl_f, dlt_t, dlt_f, deq_t, deq_f, dnot_t, dnot_f, dand_t, dand_f, dor_t, dor_f, dite_t, dite_f, IE.den, IOp.den, and_assoc, or_assoc, imp_self, and_true, true_and]
  simp only [eq_both ρ, flat_both ρ]

theorem tells_den (ρ : Rho) : X.den ρ tells.r = .sc (.bool true) := congrArg (fun b => AV.sc (.bool b)) (tells_true ρ)
end Go.Proofs.Ytcllappmhdfffaa
