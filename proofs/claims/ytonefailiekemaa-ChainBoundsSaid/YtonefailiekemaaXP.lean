/- When a truth over letters is true, said without the letters' tree. -/
import Derived.Test.YtonefailiekemaaXwM1
namespace Go.Proofs.Xw
open Go Go.Proofs.Aw
section
variable (ρ : Rho)
theorem dl_t (b : Bool) : ((BE.lit b).den ρ = true) = (b = true) := rfl
theorem dl_f (b : Bool) : ((BE.lit b).den ρ = false) = (b = false) := rfl
theorem dlt_t (a b : IE) : ((BE.lt a b).den ρ = true) = (a.den ρ < b.den ρ) := by simp [BE.den]
theorem dlt_f (a b : IE) : ((BE.lt a b).den ρ = false) = (b.den ρ ≤ a.den ρ) := by simp [BE.den]
theorem deq_t (a b : IE) : ((BE.eq a b).den ρ = true) = (a.den ρ = b.den ρ) := by simp [BE.den]
theorem deq_f (a b : IE) : ((BE.eq a b).den ρ = false) = ¬ (a.den ρ = b.den ρ) := by simp [BE.den]
theorem dnot_t (a : BE) : ((BE.not a).den ρ = true) = (a.den ρ = false) := by simp [BE.den]
theorem dnot_f (a : BE) : ((BE.not a).den ρ = false) = (a.den ρ = true) := by simp [BE.den]
theorem dand_t (a b : BE) : ((BE.and a b).den ρ = true) = (a.den ρ = true ∧ b.den ρ = true) := by simp [BE.den]
theorem dand_f (a b : BE) : ((BE.and a b).den ρ = false) = (a.den ρ = false ∨ b.den ρ = false) := by simp only [BE.den]; cases BE.den ρ a <;> cases BE.den ρ b <;> simp
theorem dor_t (a b : BE) : ((BE.or a b).den ρ = true) = (a.den ρ = true ∨ b.den ρ = true) := by simp [BE.den]
theorem dor_f (a b : BE) : ((BE.or a b).den ρ = false) = (a.den ρ = false ∧ b.den ρ = false) := by simp [BE.den]
theorem dite_t (c a b : BE) : ((BE.ite c a b).den ρ = true) = ((c.den ρ = true → a.den ρ = true) ∧ (c.den ρ = false → b.den ρ = true)) := by simp only [BE.den]; cases BE.den ρ c <;> simp
theorem dite_f (c a b : BE) : ((BE.ite c a b).den ρ = false) = ((c.den ρ = true → a.den ρ = false) ∧ (c.den ρ = false → b.den ρ = false)) := by simp only [BE.den]; cases BE.den ρ c <;> simp
end
/-- The truth that a summary answers. -/
def X.be : X → BE
  | .sc (.b e) => e
  | _ => .lit false
end Go.Proofs.Xw
