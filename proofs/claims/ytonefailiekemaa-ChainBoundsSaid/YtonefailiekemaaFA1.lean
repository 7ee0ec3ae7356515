/- Chains: the program's test of a roster says what the document's says. -/
import Derived.Test.YtonefailiekemaaFS1
import Derived.Test.YtonefailiekemaaXwM3
import Derived.Test.YtonefailiekemaaXP
namespace Go.Proofs.Ytonefailiekemaa
open Go Go.Proofs.Aw Go.Proofs.Xw
set_option maxRecDepth 100000
def hnt (l z : List Nat) : List BE := [.lt (.var 0) (.lit 1), .lt (.lit 1099511627776) (.var 0)] ++ z.map (fun k => .eq (.var k) (.lit 0)) ++ l.flatMap (fun k => [.lt (.var (k + 1)) (.lit 1), .lt (.var 0) (.var (k + 1))]) ++ l.flatMap fun k => [.lt (.var k) (.lit 0), .lt (.var k) (.lit 4), .lt (.var k) (.lit 1), .lt (.var k) (.lit 2), .lt (.var k) (.lit 3)]
def rg_1t : BE := bOf r89_1t.r
theorem eqv_1t (ρ : Rho) : (bOf r42_1t.r).den ρ = rg_1t.den ρ := taut_iff (w := false) (n := 300) (hs := hnt [2, 11] [4, 5, 6, 7, 8, 9]) (by kernel_rfl) ρ
def rg_1f : BE := bOf r89_1f.r
theorem eqv_1f (ρ : Rho) : (bOf r42_1f.r).den ρ = rg_1f.den ρ := taut_iff (w := false) (n := 300) (hs := hnt [2] [4, 5, 6, 7, 8, 9, 11, 12]) (by kernel_rfl) ρ
def rg_2t : BE := bOf r89_2t.r
theorem eqv_2t (ρ : Rho) : (bOf r42_2t.r).den ρ = rg_2t.den ρ := taut_iff (w := false) (n := 300) (hs := hnt [2, 4, 11] [6, 7, 8, 9]) (by kernel_rfl) ρ
def rg_2f : BE := bOf r89_2f.r
theorem eqv_2f (ρ : Rho) : (bOf r42_2f.r).den ρ = rg_2f.den ρ := taut_iff (w := false) (n := 300) (hs := hnt [2, 4] [6, 7, 8, 9, 11, 12]) (by kernel_rfl) ρ
def rg_3t : BE := bOf r89_3t.r
theorem eqv_3t (ρ : Rho) : (bOf r42_3t.r).den ρ = rg_3t.den ρ := taut_iff (w := false) (n := 300) (hs := hnt [2, 4, 6, 11] [8, 9]) (by kernel_rfl) ρ
def rg_3f : BE := bOf r89_3f.r
theorem eqv_3f (ρ : Rho) : (bOf r42_3f.r).den ρ = rg_3f.den ρ := taut_iff (w := false) (n := 300) (hs := hnt [2, 4, 6] [8, 9, 11, 12]) (by kernel_rfl) ρ
def rg_4t : BE := bOf r89_4t.r
theorem no_4t (ρ : Rho) : (rg_4t).den ρ = false := by
  have := taut_ok (ρ := ρ) (w := true) 300 [] (hnt [2, 4, 6, 8, 11] []) (.not (rg_4t)) (by kernel_rfl) (Facts.ok_nil ρ)
  simpa only [BE.den, Bool.not_eq_true'] using this
theorem no42_4t (ρ : Rho) : (bOf r42_4t.r).den ρ = false := by
  have := taut_ok (ρ := ρ) (w := false) 300 [] (hnt [2, 4, 6, 8, 11] []) (.not (bOf r42_4t.r)) (by kernel_rfl) (Facts.ok_nil ρ)
  simpa only [BE.den, Bool.not_eq_true'] using this
theorem eqv_4t (ρ : Rho) : (bOf r42_4t.r).den ρ = rg_4t.den ρ := (no42_4t ρ).trans (no_4t ρ).symm
def rg_4f : BE := bOf r89_4f.r
theorem eqv_4f (ρ : Rho) : (bOf r42_4f.r).den ρ = rg_4f.den ρ := taut_iff (w := false) (n := 300) (hs := hnt [2, 4, 6, 8] [11, 12]) (by kernel_rfl) ρ
/-- The test of a chain, as one truth. -/
def rgB : BE := (.ite (.lt (.var 1) (.lit 1)) (.lit false) (.ite (.lt (.lit 4) (.var 1)) (.lit false) (.ite (.eq (.var 1) (.lit 1)) (.ite (.var 10) rg_1t rg_1f) (.ite (.eq (.var 1) (.lit 2)) (.ite (.var 10) rg_2t rg_2f) (.ite (.eq (.var 1) (.lit 3)) (.ite (.var 10) rg_3t rg_3f) (.ite (.var 10) rg_4t rg_4f))))))
/-- The last full member's node. -/
def lsE : IE := .ite (.eq (.var 1) (.lit 1)) (.var 2) (.ite (.eq (.var 1) (.lit 2)) (.var 4) (.ite (.eq (.var 1) (.lit 3)) (.var 6) (.var 8)))
end Go.Proofs.Ytonefailiekemaa
