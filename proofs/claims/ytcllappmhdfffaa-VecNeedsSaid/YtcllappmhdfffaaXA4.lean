/- The truth that the law VecNeeds answers is true, whatever the letters stand for. -/
import Derived.Test.YtcllappmhdfffaaXL1
import Derived.Test.YtcllappmhdfffaaXP
namespace Go.Proofs.Ytcllappmhdfffaa
open Go Go.Proofs.Aw Go.Proofs.Xw
set_option linter.unusedSimpArgs false
set_option maxRecDepth 100000
def needsSh : List Sh := [shVec, shVec]
theorem needs_true (ρ : Rho) : needs.r.be.den ρ = true := by
  simp only [needs, X.be, dl_t, dl_f, dlt_t, dlt_f, deq_t, deq_f, dnot_t, dnot_f, dand_t, dand_f, dor_t, dor_f, dite_t, dite_f, IE.den, IOp.den]
  apply Classical.or_iff_not_imp_left.2
  intro hh
  simp only [not_or, Int.not_lt] at hh
  obtain ⟨h1, h2⟩ := hh
  repeat' apply And.intro
  all_goals omega
theorem needs_den (ρ : Rho) : X.den ρ needs.r = .sc (.bool true) := congrArg (fun b => AV.sc (.bool b)) (needs_true ρ)
end Go.Proofs.Ytcllappmhdfffaa
