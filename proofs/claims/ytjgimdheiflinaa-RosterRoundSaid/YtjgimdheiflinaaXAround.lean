/- Roster: whatever the chain, the call of round returns true. -/
import Derived.Test.YtjgimdheiflinaaXA2
import Derived.Test.YtjgimdheiflinaaXLround
import Derived.Test.YtjgimdheiflinaaXwM2
namespace Go.Proofs.Ytjgimdheiflinaa
open Go Go.Proofs.Aw Go.Proofs.Xw
set_option maxRecDepth 100000
theorem round_1t {ρ : Rho} (h : Facts.ok ρ [(.eq (.var 1) (.lit 1), true), (.var 10, true)]) : CY Try.prog 0 4 (X.denL ρ ([cfgV 0, iV 13])) [] (.sc (.bool true)) [] := by
  cases hg : rg_1t.den ρ with
  | false => exact serves h (cfgL_ok (ksN_1t hg) (fun _ _ _ => LpsOk.nil _ _ _ _)) l_R_ok round1tN_run (by kernel_rfl) (by kernel_rfl) 0 []
  | true =>
    have h := assume_ok rg_1t true _ hg h
    have c := cfgL_ok (ksR_1t h (by kernel_rfl) hg) (fun _ _ _ => LpsOk.nil _ _ _ _)
    exact serves h c l_R_ok round1tR_run (by kernel_rfl) (by kernel_rfl) 0 []
theorem round_1f {ρ : Rho} (h : Facts.ok ρ [(.eq (.var 1) (.lit 1), true), (.var 10, false)]) : CY Try.prog 0 4 (X.denL ρ ([cfgV 0, iV 13])) [] (.sc (.bool true)) [] := by
  cases hg : rg_1f.den ρ with
  | false => exact serves h (cfgL_ok (ksN_1f hg) (fun _ _ _ => LpsOk.nil _ _ _ _)) l_R_ok round1fN_run (by kernel_rfl) (by kernel_rfl) 0 []
  | true =>
    have h := assume_ok rg_1f true _ hg h
    have c := cfgL_ok (ksR_1f h (by kernel_rfl) hg) (fun _ _ _ => LpsOk.nil _ _ _ _)
    exact serves h c l_R_ok round1fR_run (by kernel_rfl) (by kernel_rfl) 0 []
theorem round_2t {ρ : Rho} (h : Facts.ok ρ [(.eq (.var 1) (.lit 2), true), (.var 10, true)]) : CY Try.prog 0 4 (X.denL ρ ([cfgV 0, iV 13])) [] (.sc (.bool true)) [] := by
  cases hg : rg_2t.den ρ with
  | false => exact serves h (cfgL_ok (ksN_2t hg) (fun _ _ _ => LpsOk.nil _ _ _ _)) l_R_ok round2tN_run (by kernel_rfl) (by kernel_rfl) 0 []
  | true =>
    have h := assume_ok rg_2t true _ hg h
    have c := cfgL_ok (ksR_2t h (by kernel_rfl) hg) (fun _ _ _ => LpsOk.nil _ _ _ _)
    exact serves h c l_R_ok round2tR_run (by kernel_rfl) (by kernel_rfl) 0 []
theorem round_2f {ρ : Rho} (h : Facts.ok ρ [(.eq (.var 1) (.lit 2), true), (.var 10, false)]) : CY Try.prog 0 4 (X.denL ρ ([cfgV 0, iV 13])) [] (.sc (.bool true)) [] := by
  cases hg : rg_2f.den ρ with
  | false => exact serves h (cfgL_ok (ksN_2f hg) (fun _ _ _ => LpsOk.nil _ _ _ _)) l_R_ok round2fN_run (by kernel_rfl) (by kernel_rfl) 0 []
  | true =>
    have h := assume_ok rg_2f true _ hg h
    have c := cfgL_ok (ksR_2f h (by kernel_rfl) hg) (fun _ _ _ => LpsOk.nil _ _ _ _)
    exact spl (.lt (.lit 1073741824) (.var 0)) h (fun h => (spl (.eq (.var 13) (.var 2)) h (fun h => serves h c l_R_ok round2fR2b_run (by kernel_rfl) (by kernel_rfl) 0 []) (fun h => (spl (.eq (.var 13) (.var 4)) h (fun h => serves h c l_R_ok round2fR4b_run (by kernel_rfl) (by kernel_rfl) 0 []) (fun h => serves h c l_R_ok round2fRXb_run (by kernel_rfl) (by kernel_rfl) 0 []))))) (fun h => (spl (.eq (.var 13) (.var 2)) h (fun h => serves h c l_R_ok round2fR2s_run (by kernel_rfl) (by kernel_rfl) 0 []) (fun h => (spl (.eq (.var 13) (.var 4)) h (fun h => serves h c l_R_ok round2fR4s_run (by kernel_rfl) (by kernel_rfl) 0 []) (fun h => serves h c l_R_ok round2fRXs_run (by kernel_rfl) (by kernel_rfl) 0 [])))))
theorem round_3t {ρ : Rho} (h : Facts.ok ρ [(.eq (.var 1) (.lit 3), true), (.var 10, true)]) : CY Try.prog 0 4 (X.denL ρ ([cfgV 0, iV 13])) [] (.sc (.bool true)) [] := by
  cases hg : rg_3t.den ρ with
  | false => exact serves h (cfgL_ok (ksN_3t hg) (fun _ _ _ => LpsOk.nil _ _ _ _)) l_R_ok round3tN_run (by kernel_rfl) (by kernel_rfl) 0 []
  | true =>
    have h := assume_ok rg_3t true _ hg h
    have c := cfgL_ok (ksR_3t h (by kernel_rfl) hg) (fun _ _ _ => LpsOk.nil _ _ _ _)
    exact serves h c l_R_ok round3tR_run (by kernel_rfl) (by kernel_rfl) 0 []
theorem round_3f {ρ : Rho} (h : Facts.ok ρ [(.eq (.var 1) (.lit 3), true), (.var 10, false)]) : CY Try.prog 0 4 (X.denL ρ ([cfgV 0, iV 13])) [] (.sc (.bool true)) [] := by
  cases hg : rg_3f.den ρ with
  | false => exact serves h (cfgL_ok (ksN_3f hg) (fun _ _ _ => LpsOk.nil _ _ _ _)) l_R_ok round3fN_run (by kernel_rfl) (by kernel_rfl) 0 []
  | true =>
    have h := assume_ok rg_3f true _ hg h
    have c := cfgL_ok (ksR_3f h (by kernel_rfl) hg) (fun _ _ _ => LpsOk.nil _ _ _ _)
    exact spl (.lt (.lit 1073741824) (.var 0)) h (fun h => (spl (.eq (.var 13) (.var 2)) h (fun h => serves h c l_R_ok round3fR2b_run (by kernel_rfl) (by kernel_rfl) 0 []) (fun h => (spl (.eq (.var 13) (.var 4)) h (fun h => serves h c l_R_ok round3fR4b_run (by kernel_rfl) (by kernel_rfl) 0 []) (fun h => (spl (.eq (.var 13) (.var 6)) h (fun h => serves h c l_R_ok round3fR6b_run (by kernel_rfl) (by kernel_rfl) 0 []) (fun h => serves h c l_R_ok round3fRXb_run (by kernel_rfl) (by kernel_rfl) 0 []))))))) (fun h => (spl (.eq (.var 13) (.var 2)) h (fun h => serves h c l_R_ok round3fR2s_run (by kernel_rfl) (by kernel_rfl) 0 []) (fun h => (spl (.eq (.var 13) (.var 4)) h (fun h => serves h c l_R_ok round3fR4s_run (by kernel_rfl) (by kernel_rfl) 0 []) (fun h => (spl (.eq (.var 13) (.var 6)) h (fun h => serves h c l_R_ok round3fR6s_run (by kernel_rfl) (by kernel_rfl) 0 []) (fun h => serves h c l_R_ok round3fRXs_run (by kernel_rfl) (by kernel_rfl) 0 [])))))))
theorem round_4t {ρ : Rho} (h : Facts.ok ρ [(.eq (.var 1) (.lit 4), true), (.var 10, true)]) : CY Try.prog 0 4 (X.denL ρ ([cfgV 0, iV 13])) [] (.sc (.bool true)) [] := by
  cases hg : rg_4t.den ρ with
  | false => exact serves h (cfgL_ok (ksN_4t hg) (fun _ _ _ => LpsOk.nil _ _ _ _)) l_R_ok round4tN_run (by kernel_rfl) (by kernel_rfl) 0 []
  | true => exact absurd hg (by rw [no_4t]; simp)
theorem round_4f {ρ : Rho} (h : Facts.ok ρ [(.eq (.var 1) (.lit 4), true), (.var 10, false)]) : CY Try.prog 0 4 (X.denL ρ ([cfgV 0, iV 13])) [] (.sc (.bool true)) [] := by
  cases hg : rg_4f.den ρ with
  | false => exact serves h (cfgL_ok (ksN_4f hg) (fun _ _ _ => LpsOk.nil _ _ _ _)) l_R_ok round4fN_run (by kernel_rfl) (by kernel_rfl) 0 []
  | true =>
    have h := assume_ok rg_4f true _ hg h
    have c := cfgL_ok (ksR_4f h (by kernel_rfl) hg) (fun _ _ _ => LpsOk.nil _ _ _ _)
    exact spl (.lt (.lit 1073741824) (.var 0)) h (fun h => (spl (.eq (.var 13) (.var 2)) h (fun h => serves h c l_R_ok round4fR2b_run (by kernel_rfl) (by kernel_rfl) 0 []) (fun h => (spl (.eq (.var 13) (.var 4)) h (fun h => serves h c l_R_ok round4fR4b_run (by kernel_rfl) (by kernel_rfl) 0 []) (fun h => (spl (.eq (.var 13) (.var 6)) h (fun h => serves h c l_R_ok round4fR6b_run (by kernel_rfl) (by kernel_rfl) 0 []) (fun h => (spl (.eq (.var 13) (.var 8)) h (fun h => serves h c l_R_ok round4fR8b_run (by kernel_rfl) (by kernel_rfl) 0 []) (fun h => serves h c l_R_ok round4fRXb_run (by kernel_rfl) (by kernel_rfl) 0 []))))))))) (fun h => (spl (.eq (.var 13) (.var 2)) h (fun h => serves h c l_R_ok round4fR2s_run (by kernel_rfl) (by kernel_rfl) 0 []) (fun h => (spl (.eq (.var 13) (.var 4)) h (fun h => serves h c l_R_ok round4fR4s_run (by kernel_rfl) (by kernel_rfl) 0 []) (fun h => (spl (.eq (.var 13) (.var 6)) h (fun h => serves h c l_R_ok round4fR6s_run (by kernel_rfl) (by kernel_rfl) 0 []) (fun h => (spl (.eq (.var 13) (.var 8)) h (fun h => serves h c l_R_ok round4fR8s_run (by kernel_rfl) (by kernel_rfl) 0 []) (fun h => serves h c l_R_ok round4fRXs_run (by kernel_rfl) (by kernel_rfl) 0 [])))))))))
theorem round_cy (ρ : Rho) : CY Try.prog 0 4 (X.denL ρ ([cfgV 0, iV 13])) [] (.sc (.bool true)) [] :=
  spl (.lt (.var 1) (.lit 1)) (Facts.ok_nil ρ) (fun h => serves h (cfg_ok (List.forall_mem_nil _)) l_R_ok round0_run (by kernel_rfl) (by kernel_rfl) 0 []) fun h => spl (.lt (.lit 4) (.var 1)) h (fun h => serves h (cfg_ok (List.forall_mem_nil _)) l_R_ok round5_run (by kernel_rfl) (by kernel_rfl) 0 []) fun h =>
  spl (.lt (.var 1) (.lit 2)) h (fun h => spl (.var 10) h (fun h => round_1t (seesAll h (by kernel_rfl))) (fun h => round_1f (seesAll h (by kernel_rfl)))) fun h => spl (.lt (.var 1) (.lit 3)) h (fun h => spl (.var 10) h (fun h => round_2t (seesAll h (by kernel_rfl))) (fun h => round_2f (seesAll h (by kernel_rfl)))) fun h => spl (.lt (.var 1) (.lit 4)) h (fun h => spl (.var 10) h (fun h => round_3t (seesAll h (by kernel_rfl))) (fun h => round_3f (seesAll h (by kernel_rfl)))) fun h => spl (.var 10) h (fun h => round_4t (seesAll h (by kernel_rfl))) (fun h => round_4f (seesAll h (by kernel_rfl)))
def roundSh : List Sh := [.flat ((List.replicate 10 (.i .i64)) ++ [.b, .i .i64, .i .i64]) true, .flat [.i .i64] false]
theorem round_pats : pats 0 0 roundSh = [cfgV 0, iV 13] := by kernel_rfl
end Go.Proofs.Ytjgimdheiflinaa
