/- The truth that the law VecHas answers is true, whatever the letters stand for. -/
import Derived.Test.YtcllappmhdfffaaXL1
import Derived.Test.YtcllappmhdfffaaXP
namespace Go.Proofs.Ytcllappmhdfffaa
open Go Go.Proofs.Aw Go.Proofs.Xw
set_option linter.unusedSimpArgs false
set_option maxRecDepth 100000
def hasLSh : List Sh := [shVec, shVec, shDot, shDot]
set_option maxHeartbeats 4000000 in
theorem hasL_true (ρ : Rho) : hasL.r.be.den ρ = true := by
  simp only [hasL, X.be, dl_t, dl_f, dlt_t, dlt_f, deq_t, deq_f, dnot_t, dnot_f, dand_t, dand_f, dor_t, dor_f, dite_t, dite_f, IE.den, IOp.den]
  generalize h18 : ρ.i 18 = r
  generalize h19 : ρ.i 19 = s
  generalize h21 : ρ.i 21 = r'
  generalize h22 : ρ.i 22 = s'
  by_cases hr : ((0 ≤ r ∧ r < 3) ∧ 0 ≤ s) ∧ s < 3
  · by_cases hq : r' = r ∧ s' = s
    · obtain ⟨rfl, rfl⟩ := hq
      rcases (by omega : r' = 0 ∨ r' = 1 ∨ r' = 2) with h | h | h <;> rcases (by omega : s' = 0 ∨ s' = 1 ∨ s' = 2) with g | g | g <;> simp only [h, g] <;> simp
      all_goals omega
    · rcases (by omega : r = 0 ∨ r = 1 ∨ r = 2) with h | h | h <;> rcases (by omega : s = 0 ∨ s = 1 ∨ s = 2) with g | g | g <;> subst h <;> subst g <;> simp [hq]
      all_goals omega
  · rcases (by omega : r < 0 ∨ 3 ≤ r ∨ s < 0 ∨ 3 ≤ s) with h | h | h | h
    · have := Int.not_le.2 h
      simp [h, this]
      all_goals omega
    · have := Int.not_lt.2 h
      simp [h, this]
      all_goals omega
    · have := Int.not_le.2 h
      simp [h, this]
      all_goals omega
    · have := Int.not_lt.2 h
      simp [h, this]
      all_goals omega

theorem hasL_den (ρ : Rho) : X.den ρ hasL.r = .sc (.bool true) := congrArg (fun b => AV.sc (.bool b)) (hasL_true ρ)
end Go.Proofs.Ytcllappmhdfffaa
