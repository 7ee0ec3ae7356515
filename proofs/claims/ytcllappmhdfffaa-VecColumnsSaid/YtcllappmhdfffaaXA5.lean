/- The truth that the law VecColumns answers is true, whatever the letters stand for. -/
import Derived.Test.YtcllappmhdfffaaXL1
import Derived.Test.YtcllappmhdfffaaXP
namespace Go.Proofs.Ytcllappmhdfffaa
open Go Go.Proofs.Aw Go.Proofs.Xw
set_option linter.unusedSimpArgs false
set_option maxRecDepth 100000
def columnsSh : List Sh := [shVec, shInt, shDot]
set_option maxHeartbeats 4000000 in
theorem columns_true (ρ : Rho) : columns.r.be.den ρ = true := by
  simp only [columns, X.be, dl_t, dl_f, dlt_t, dlt_f, deq_t, deq_f, dnot_t, dnot_f, dand_t, dand_f, dor_t, dor_f, dite_t, dite_f, IE.den, IOp.den]
  generalize h9 : ρ.i 9 = c
  rcases (by omega : c < 0 ∨ c = 0 ∨ c = 1 ∨ c = 2 ∨ 3 ≤ c) with h | h | h | h | h
  · simp [Int.not_le.2 h, h]
  · subst h; simp
    apply Classical.or_iff_not_imp_left.2
    intro hh
    simp only [not_or, Int.not_lt] at hh
    repeat' apply And.intro
    all_goals omega
  · subst h; simp
    apply Classical.or_iff_not_imp_left.2
    intro hh
    simp only [not_or, Int.not_lt] at hh
    repeat' apply And.intro
    all_goals omega
  · subst h; simp
    apply Classical.or_iff_not_imp_left.2
    intro hh
    simp only [not_or, Int.not_lt] at hh
    repeat' apply And.intro
    all_goals omega
  · simp [Int.not_lt.2 h, h]
    intro _ _
    exfalso
    omega
theorem columns_den (ρ : Rho) : X.den ρ columns.r = .sc (.bool true) := congrArg (fun b => AV.sc (.bool b)) (columns_true ρ)
end Go.Proofs.Ytcllappmhdfffaa
