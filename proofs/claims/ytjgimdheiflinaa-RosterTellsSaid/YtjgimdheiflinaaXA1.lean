/- Roster: the program's test of a chain says what the document's says. -/
import Derived.Test.YtjgimdheiflinaaXS1
import Derived.Test.YtjgimdheiflinaaXwM2
namespace Go.Proofs.Ytjgimdheiflinaa
open Go Go.Proofs.Aw Go.Proofs.Xw
set_option maxRecDepth 100000
def hnt (l z : List Nat) : List BE := [.lt (.var 0) (.lit 1), .lt (.lit 1099511627776) (.var 0)] ++ z.map (fun k => .eq (.var k) (.lit 0)) ++ l.flatMap (fun k => [.lt (.var (k + 1)) (.lit 1), .lt (.var 0) (.var (k + 1))]) ++ l.flatMap fun k => [.lt (.var k) (.lit 0), .lt (.var k) (.lit 4), .lt (.var k) (.lit 1), .lt (.var k) (.lit 2), .lt (.var k) (.lit 3)]
def rg_1t : BE := bOf r26_1t.r
theorem eqv_1t (ρ : Rho) : (bOf r17_1t.r).den ρ = rg_1t.den ρ := taut_iff (w := false) (n := 300) (hs := hnt [2, 11] [4, 5, 6, 7, 8, 9]) (by kernel_rfl) ρ 
def rr_1t : Sm := ⟨17, [cfgN 1 true 0], .sc (.b rg_1t)⟩
theorem rr_1t_ok : SmOk Try.prog rr_1t := ⟨r17_1t_ok.1, fun ρ n h => by
  have e : X.den ρ rr_1t.r = X.den ρ r17_1t.r := congrArg (fun b => AV.sc (.bool b)) (eqv_1t ρ).symm
  rw [e]; exact r17_1t_ok.2 ρ n h⟩
def rg_1f : BE := bOf r26_1f.r
theorem eqv_1f (ρ : Rho) : (bOf r17_1f.r).den ρ = rg_1f.den ρ := taut_iff (w := false) (n := 300) (hs := hnt [2] [4, 5, 6, 7, 8, 9, 11, 12]) (by kernel_rfl) ρ 
def rr_1f : Sm := ⟨17, [cfgN 1 false 0], .sc (.b rg_1f)⟩
theorem rr_1f_ok : SmOk Try.prog rr_1f := ⟨r17_1f_ok.1, fun ρ n h => by
  have e : X.den ρ rr_1f.r = X.den ρ r17_1f.r := congrArg (fun b => AV.sc (.bool b)) (eqv_1f ρ).symm
  rw [e]; exact r17_1f_ok.2 ρ n h⟩
def rg_2t : BE := bOf r26_2t.r
theorem eqv_2t (ρ : Rho) : (bOf r17_2t.r).den ρ = rg_2t.den ρ := taut_iff (w := false) (n := 300) (hs := hnt [2, 4, 11] [6, 7, 8, 9]) (by kernel_rfl) ρ 
def rr_2t : Sm := ⟨17, [cfgN 2 true 0], .sc (.b rg_2t)⟩
theorem rr_2t_ok : SmOk Try.prog rr_2t := ⟨r17_2t_ok.1, fun ρ n h => by
  have e : X.den ρ rr_2t.r = X.den ρ r17_2t.r := congrArg (fun b => AV.sc (.bool b)) (eqv_2t ρ).symm
  rw [e]; exact r17_2t_ok.2 ρ n h⟩
def rg_2f : BE := bOf r26_2f.r
theorem eqv_2f (ρ : Rho) : (bOf r17_2f.r).den ρ = rg_2f.den ρ := taut_iff (w := false) (n := 300) (hs := hnt [2, 4] [6, 7, 8, 9, 11, 12]) (by kernel_rfl) ρ 
def rr_2f : Sm := ⟨17, [cfgN 2 false 0], .sc (.b rg_2f)⟩
theorem rr_2f_ok : SmOk Try.prog rr_2f := ⟨r17_2f_ok.1, fun ρ n h => by
  have e : X.den ρ rr_2f.r = X.den ρ r17_2f.r := congrArg (fun b => AV.sc (.bool b)) (eqv_2f ρ).symm
  rw [e]; exact r17_2f_ok.2 ρ n h⟩
def rg_3t : BE := bOf r26_3t.r
theorem eqv_3t (ρ : Rho) : (bOf r17_3t.r).den ρ = rg_3t.den ρ := taut_iff (w := false) (n := 300) (hs := hnt [2, 4, 6, 11] [8, 9]) (by kernel_rfl) ρ 
def rr_3t : Sm := ⟨17, [cfgN 3 true 0], .sc (.b rg_3t)⟩
theorem rr_3t_ok : SmOk Try.prog rr_3t := ⟨r17_3t_ok.1, fun ρ n h => by
  have e : X.den ρ rr_3t.r = X.den ρ r17_3t.r := congrArg (fun b => AV.sc (.bool b)) (eqv_3t ρ).symm
  rw [e]; exact r17_3t_ok.2 ρ n h⟩
def rg_3f : BE := bOf r26_3f.r
theorem eqv_3f (ρ : Rho) : (bOf r17_3f.r).den ρ = rg_3f.den ρ := taut_iff (w := false) (n := 300) (hs := hnt [2, 4, 6] [8, 9, 11, 12]) (by kernel_rfl) ρ 
def rr_3f : Sm := ⟨17, [cfgN 3 false 0], .sc (.b rg_3f)⟩
theorem rr_3f_ok : SmOk Try.prog rr_3f := ⟨r17_3f_ok.1, fun ρ n h => by
  have e : X.den ρ rr_3f.r = X.den ρ r17_3f.r := congrArg (fun b => AV.sc (.bool b)) (eqv_3f ρ).symm
  rw [e]; exact r17_3f_ok.2 ρ n h⟩
def rg_4t : BE := bOf r26_4t.r
theorem no_4t (ρ : Rho) : (rg_4t).den ρ = false := by
  have := taut_ok (ρ := ρ) (w := true) 300 [] (hnt [2, 4, 6, 8, 11] []) (.not (rg_4t)) (by kernel_rfl) (Facts.ok_nil ρ)
  simpa only [BE.den, Bool.not_eq_true'] using this
theorem no17_4t (ρ : Rho) : (bOf r17_4t.r).den ρ = false := by
  have := taut_ok (ρ := ρ) (w := false) 300 [] (hnt [2, 4, 6, 8, 11] []) (.not (bOf r17_4t.r)) (by kernel_rfl) (Facts.ok_nil ρ)
  simpa only [BE.den, Bool.not_eq_true'] using this
theorem eqv_4t (ρ : Rho) : (bOf r17_4t.r).den ρ = rg_4t.den ρ := (no17_4t ρ).trans (no_4t ρ).symm 
def rr_4t : Sm := ⟨17, [cfgN 4 true 0], .sc (.b rg_4t)⟩
theorem rr_4t_ok : SmOk Try.prog rr_4t := ⟨r17_4t_ok.1, fun ρ n h => by
  have e : X.den ρ rr_4t.r = X.den ρ r17_4t.r := congrArg (fun b => AV.sc (.bool b)) (eqv_4t ρ).symm
  rw [e]; exact r17_4t_ok.2 ρ n h⟩
def rg_4f : BE := bOf r26_4f.r
theorem eqv_4f (ρ : Rho) : (bOf r17_4f.r).den ρ = rg_4f.den ρ := taut_iff (w := false) (n := 300) (hs := hnt [2, 4, 6, 8] [11, 12]) (by kernel_rfl) ρ 
def rr_4f : Sm := ⟨17, [cfgN 4 false 0], .sc (.b rg_4f)⟩
theorem rr_4f_ok : SmOk Try.prog rr_4f := ⟨r17_4f_ok.1, fun ρ n h => by
  have e : X.den ρ rr_4f.r = X.den ρ r17_4f.r := congrArg (fun b => AV.sc (.bool b)) (eqv_4f ρ).symm
  rw [e]; exact r17_4f_ok.2 ρ n h⟩
def l_R : List Sm := [rr_4f, rr_4t, rr_3f, rr_3t, rr_2f, rr_2t, rr_1f, rr_1t, able]
theorem l_R_ok : ∀ s ∈ l_R, SmOk Try.prog s := List.forall_mem_cons.2 ⟨rr_4f_ok, List.forall_mem_cons.2 ⟨rr_4t_ok, List.forall_mem_cons.2 ⟨rr_3f_ok, List.forall_mem_cons.2 ⟨rr_3t_ok, List.forall_mem_cons.2 ⟨rr_2f_ok, List.forall_mem_cons.2 ⟨rr_2t_ok, List.forall_mem_cons.2 ⟨rr_1f_ok, List.forall_mem_cons.2 ⟨rr_1t_ok, List.forall_mem_cons.2 ⟨able_ok, List.forall_mem_nil _⟩⟩⟩⟩⟩⟩⟩⟩⟩
end Go.Proofs.Ytjgimdheiflinaa
