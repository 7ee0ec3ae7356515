/- The truth that the law VecParts answers is true, whatever the letters stand for. -/
import Derived.Test.YtcllappmhdfffaaXL1
import Derived.Test.YtcllappmhdfffaaXP
namespace Go.Proofs.Ytcllappmhdfffaa
open Go Go.Proofs.Aw Go.Proofs.Xw
set_option linter.unusedSimpArgs false
set_option maxRecDepth 100000
def partsSh : List Sh := [shVec, shVec, shInt, shDot, shDot]
theorem parts_true (ρ : Rho) : parts.r.be.den ρ = true := by
  simp only [parts, X.be, dl_t, dl_f, dlt_t, dlt_f, deq_t, deq_f, dnot_t, dnot_f, dand_t, dand_f, dor_t, dor_f, dite_t, dite_f, IE.den, IOp.den]
  omega
theorem parts_den (ρ : Rho) : X.den ρ parts.r = .sc (.bool true) := congrArg (fun b => AV.sc (.bool b)) (parts_true ρ)
end Go.Proofs.Ytcllappmhdfffaa
