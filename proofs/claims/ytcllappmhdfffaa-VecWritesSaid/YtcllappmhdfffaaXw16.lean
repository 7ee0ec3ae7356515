/- Symbolic runs, part 16: runs under facts about the letters. -/
import Derived.Test.YtcllappmhdfffaaXw15
namespace Go.Proofs.Xw
open Go Go.Proofs.Aw

/-- A run over letters of which something is known. -/
def askF (c : Cfg2) (f : Nat) (args : List X) (Φ : Facts) : T X := (stepS c (callS c 12) 0 f args [] Φ).map (·.1)
theorem askF_ok {P : Program} {ρ : Rho} {c : Cfg2} (hc : CfgOk P ρ c.c) (hs : ∀ s ∈ c.sm, SmOk P s) {f : Nat} {args : List X} {Φ : Facts} {r : X} (hk : Facts.ok ρ Φ) (h : (askF c f args Φ).sel ρ = some r) : hasBody P f = true ∧ ∀ n h, CY P n f (X.denL ρ args) h (r.den ρ) [] := by
  obtain ⟨p, h1, rfl⟩ := T.sel_map _ h
  obtain ⟨r, d⟩ := p
  exact ⟨(stepS_ok (n := 0) (hp := []) (_h := []) hc hs (callS_ok hc hs 12) hk h1).2.1, fun n hp => (stepS_ok (_h := []) hc hs (callS_ok hc hs 12) hk h1).2.2⟩
/-- What is shown of one function, where the facts hold. -/
theorem runF {P : Program} {c : Cfg2} (hc : ∀ ρ, CfgOk P ρ c.c) (hs : ∀ s ∈ c.sm, SmOk P s) {f : Nat} {args : List X} {Φ : Facts} {r : X} (h : askF c f args Φ = .ret r) {ρ : Rho} (hk : Facts.ok ρ Φ) (n : Nat) (hp : Hp) : CY P n f (X.denL ρ args) hp (r.den ρ) [] :=
  (askF_ok (hc ρ) hs hk (by rw [h]; rfl)).2 n hp
end Go.Proofs.Xw
