/- The truth that the law VecLattice answers is true. -/
import Derived.Test.YtcllappmhdfffaaXL1
import Derived.Test.YtcllappmhdfffaaXP
namespace Go.Proofs.Ytcllappmhdfffaa
open Go Go.Proofs.Aw Go.Proofs.Xw
def latticeSh : List Sh := [shVec, shVec, shVec]
set_option maxRecDepth 100000 in
theorem lattice_true (ρ : Rho) : lattice.r.be.den ρ = true := by
  simp only [X.be, lattice, dl_t, dl_f, dlt_t, dlt_f, deq_t, deq_f, dnot_t, dnot_f, dand_t, dand_f, dor_t, dor_f, dite_t, dite_f, IE.den, IOp.den]
  repeat' apply And.intro
  all_goals omega
theorem lattice_den (ρ : Rho) : X.den ρ lattice.r = .sc (.bool true) := congrArg (fun b => AV.sc (.bool b)) (lattice_true ρ)
end Go.Proofs.Ytcllappmhdfffaa
