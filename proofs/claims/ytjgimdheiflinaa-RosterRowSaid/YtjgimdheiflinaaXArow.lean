/- Roster: whatever the chain, the call of row returns true. -/
import Derived.Test.YtjgimdheiflinaaXA2
import Derived.Test.YtjgimdheiflinaaXLrow
import Derived.Test.YtjgimdheiflinaaXwM2
namespace Go.Proofs.Ytjgimdheiflinaa
open Go Go.Proofs.Aw Go.Proofs.Xw
set_option maxRecDepth 100000
theorem row_1t {ρ : Rho} (h : Facts.ok ρ [(.eq (.var 1) (.lit 1), true), (.var 10, true)]) : CY Try.prog 0 7 (X.denL ρ ([cfgV 0])) [] (.sc (.bool true)) [] := by
  cases hg : rg_1t.den ρ with
  | false => exact serves h (cfgL_ok (ksN_1t hg) (fun _ _ _ => LpsOk.nil _ _ _ _)) l_R_ok row1tN_run (by kernel_rfl) (by kernel_rfl) 0 []
  | true =>
    have h := assume_ok rg_1t true _ hg h
    have c := cfgL_ok (ksR_1t h (by kernel_rfl) hg) (fun _ _ _ => LpsOk.nil _ _ _ _)
    exact serves h c l_R_ok row1tR_run (by kernel_rfl) (by kernel_rfl) 0 []
theorem row_1f {ρ : Rho} (h : Facts.ok ρ [(.eq (.var 1) (.lit 1), true), (.var 10, false)]) : CY Try.prog 0 7 (X.denL ρ ([cfgV 0])) [] (.sc (.bool true)) [] := by
  cases hg : rg_1f.den ρ with
  | false => exact serves h (cfgL_ok (ksN_1f hg) (fun _ _ _ => LpsOk.nil _ _ _ _)) l_R_ok row1fN_run (by kernel_rfl) (by kernel_rfl) 0 []
  | true =>
    have h := assume_ok rg_1f true _ hg h
    have c := cfgL_ok (ksR_1f h (by kernel_rfl) hg) (fun _ _ _ => LpsOk.nil _ _ _ _)
    exact serves h c l_R_ok row1fR_run (by kernel_rfl) (by kernel_rfl) 0 []
theorem row_2t {ρ : Rho} (h : Facts.ok ρ [(.eq (.var 1) (.lit 2), true), (.var 10, true)]) : CY Try.prog 0 7 (X.denL ρ ([cfgV 0])) [] (.sc (.bool true)) [] := by
  cases hg : rg_2t.den ρ with
  | false => exact serves h (cfgL_ok (ksN_2t hg) (fun _ _ _ => LpsOk.nil _ _ _ _)) l_R_ok row2tN_run (by kernel_rfl) (by kernel_rfl) 0 []
  | true =>
    have h := assume_ok rg_2t true _ hg h
    have c := cfgL_ok (ksR_2t h (by kernel_rfl) hg) (fun _ _ _ => LpsOk.nil _ _ _ _)
    exact serves h c l_R_ok row2tR_run (by kernel_rfl) (by kernel_rfl) 0 []
theorem row_2f {ρ : Rho} (h : Facts.ok ρ [(.eq (.var 1) (.lit 2), true), (.var 10, false)]) : CY Try.prog 0 7 (X.denL ρ ([cfgV 0])) [] (.sc (.bool true)) [] := by
  cases hg : rg_2f.den ρ with
  | false => exact serves h (cfgL_ok (ksN_2f hg) (fun _ _ _ => LpsOk.nil _ _ _ _)) l_R_ok row2fN_run (by kernel_rfl) (by kernel_rfl) 0 []
  | true =>
    have h := assume_ok rg_2f true _ hg h
    have c := cfgL_ok (ksR_2f h (by kernel_rfl) hg) (fun _ _ _ => LpsOk.nil _ _ _ _)
    exact serves h c l_R_ok row2fR_run (by kernel_rfl) (by kernel_rfl) 0 []
theorem row_3t {ρ : Rho} (h : Facts.ok ρ [(.eq (.var 1) (.lit 3), true), (.var 10, true)]) : CY Try.prog 0 7 (X.denL ρ ([cfgV 0])) [] (.sc (.bool true)) [] := by
  cases hg : rg_3t.den ρ with
  | false => exact serves h (cfgL_ok (ksN_3t hg) (fun _ _ _ => LpsOk.nil _ _ _ _)) l_R_ok row3tN_run (by kernel_rfl) (by kernel_rfl) 0 []
  | true =>
    have h := assume_ok rg_3t true _ hg h
    have c := cfgL_ok (ksR_3t h (by kernel_rfl) hg) (fun _ _ _ => LpsOk.nil _ _ _ _)
    exact serves h c l_R_ok row3tR_run (by kernel_rfl) (by kernel_rfl) 0 []
theorem row_3f {ρ : Rho} (h : Facts.ok ρ [(.eq (.var 1) (.lit 3), true), (.var 10, false)]) : CY Try.prog 0 7 (X.denL ρ ([cfgV 0])) [] (.sc (.bool true)) [] := by
  cases hg : rg_3f.den ρ with
  | false => exact serves h (cfgL_ok (ksN_3f hg) (fun _ _ _ => LpsOk.nil _ _ _ _)) l_R_ok row3fN_run (by kernel_rfl) (by kernel_rfl) 0 []
  | true =>
    have h := assume_ok rg_3f true _ hg h
    have c := cfgL_ok (ksR_3f h (by kernel_rfl) hg) (fun _ _ _ => LpsOk.nil _ _ _ _)
    exact serves h c l_R_ok row3fR_run (by kernel_rfl) (by kernel_rfl) 0 []
theorem row_4t {ρ : Rho} (h : Facts.ok ρ [(.eq (.var 1) (.lit 4), true), (.var 10, true)]) : CY Try.prog 0 7 (X.denL ρ ([cfgV 0])) [] (.sc (.bool true)) [] := by
  cases hg : rg_4t.den ρ with
  | false => exact serves h (cfgL_ok (ksN_4t hg) (fun _ _ _ => LpsOk.nil _ _ _ _)) l_R_ok row4tN_run (by kernel_rfl) (by kernel_rfl) 0 []
  | true => exact absurd hg (by rw [no_4t]; simp)
theorem row_4f {ρ : Rho} (h : Facts.ok ρ [(.eq (.var 1) (.lit 4), true), (.var 10, false)]) : CY Try.prog 0 7 (X.denL ρ ([cfgV 0])) [] (.sc (.bool true)) [] := by
  cases hg : rg_4f.den ρ with
  | false => exact serves h (cfgL_ok (ksN_4f hg) (fun _ _ _ => LpsOk.nil _ _ _ _)) l_R_ok row4fN_run (by kernel_rfl) (by kernel_rfl) 0 []
  | true =>
    have h := assume_ok rg_4f true _ hg h
    have c := cfgL_ok (ksR_4f h (by kernel_rfl) hg) (fun _ _ _ => LpsOk.nil _ _ _ _)
    exact serves h c l_R_ok row4fR_run (by kernel_rfl) (by kernel_rfl) 0 []
theorem row_cy (ρ : Rho) : CY Try.prog 0 7 (X.denL ρ ([cfgV 0])) [] (.sc (.bool true)) [] :=
  spl (.lt (.var 1) (.lit 1)) (Facts.ok_nil ρ) (fun h => serves h (cfg_ok (List.forall_mem_nil _)) l_R_ok row0_run (by kernel_rfl) (by kernel_rfl) 0 []) fun h => spl (.lt (.lit 4) (.var 1)) h (fun h => serves h (cfg_ok (List.forall_mem_nil _)) l_R_ok row5_run (by kernel_rfl) (by kernel_rfl) 0 []) fun h =>
  spl (.lt (.var 1) (.lit 2)) h (fun h => spl (.var 10) h (fun h => row_1t (seesAll h (by kernel_rfl))) (fun h => row_1f (seesAll h (by kernel_rfl)))) fun h => spl (.lt (.var 1) (.lit 3)) h (fun h => spl (.var 10) h (fun h => row_2t (seesAll h (by kernel_rfl))) (fun h => row_2f (seesAll h (by kernel_rfl)))) fun h => spl (.lt (.var 1) (.lit 4)) h (fun h => spl (.var 10) h (fun h => row_3t (seesAll h (by kernel_rfl))) (fun h => row_3f (seesAll h (by kernel_rfl)))) fun h => spl (.var 10) h (fun h => row_4t (seesAll h (by kernel_rfl))) (fun h => row_4f (seesAll h (by kernel_rfl)))
def rowSh : List Sh := [.flat ((List.replicate 10 (.i .i64)) ++ [.b, .i .i64, .i .i64]) true]
theorem row_pats : pats 0 0 rowSh = [cfgV 0] := by kernel_rfl
end Go.Proofs.Ytjgimdheiflinaa
