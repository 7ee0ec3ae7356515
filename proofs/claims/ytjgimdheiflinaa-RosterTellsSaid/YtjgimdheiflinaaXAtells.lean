/- Roster: whatever the chain, the call of tells returns true. -/
import Derived.Test.YtjgimdheiflinaaXA2
import Derived.Test.YtjgimdheiflinaaXLtells
import Derived.Test.YtjgimdheiflinaaXwM2
namespace Go.Proofs.Ytjgimdheiflinaa
open Go Go.Proofs.Aw Go.Proofs.Xw
set_option maxRecDepth 100000
theorem tells_1t {ρ : Rho} (h : Facts.ok ρ [(.eq (.var 1) (.lit 1), true), (.var 10, true)]) : CY Try.prog 0 6 (X.denL ρ ([cfgV 0, iV 13])) [] (.sc (.bool true)) [] := by
  cases hg : rg_1t.den ρ with
  | false => exact serves h (cfgL_ok (ksN_1t hg) (fun _ _ _ => LpsOk.nil _ _ _ _)) l_R_ok tells1tN_run (by kernel_rfl) (by kernel_rfl) 0 []
  | true =>
    have h := assume_ok rg_1t true _ hg h
    have c := cfgL_ok (ksR_1t h (by kernel_rfl) hg) (fun _ _ _ => LpsOk.nil _ _ _ _)
    exact (spl (.eq (.var 13) (.var 2)) h (fun h => serves h c l_R_ok tells1tR2_run (by kernel_rfl) (by kernel_rfl) 0 []) (fun h => (spl (.eq (.var 13) (.var 11)) h (fun h => serves h c l_R_ok tells1tR11_run (by kernel_rfl) (by kernel_rfl) 0 []) (fun h => serves h c l_R_ok tells1tRX_run (by kernel_rfl) (by kernel_rfl) 0 []))))
theorem tells_1f {ρ : Rho} (h : Facts.ok ρ [(.eq (.var 1) (.lit 1), true), (.var 10, false)]) : CY Try.prog 0 6 (X.denL ρ ([cfgV 0, iV 13])) [] (.sc (.bool true)) [] := by
  cases hg : rg_1f.den ρ with
  | false => exact serves h (cfgL_ok (ksN_1f hg) (fun _ _ _ => LpsOk.nil _ _ _ _)) l_R_ok tells1fN_run (by kernel_rfl) (by kernel_rfl) 0 []
  | true =>
    have h := assume_ok rg_1f true _ hg h
    have c := cfgL_ok (ksR_1f h (by kernel_rfl) hg) (fun _ _ _ => LpsOk.nil _ _ _ _)
    exact (spl (.eq (.var 13) (.var 2)) h (fun h => serves h c l_R_ok tells1fR2_run (by kernel_rfl) (by kernel_rfl) 0 []) (fun h => serves h c l_R_ok tells1fRX_run (by kernel_rfl) (by kernel_rfl) 0 []))
theorem tells_2t {ρ : Rho} (h : Facts.ok ρ [(.eq (.var 1) (.lit 2), true), (.var 10, true)]) : CY Try.prog 0 6 (X.denL ρ ([cfgV 0, iV 13])) [] (.sc (.bool true)) [] := by
  cases hg : rg_2t.den ρ with
  | false => exact serves h (cfgL_ok (ksN_2t hg) (fun _ _ _ => LpsOk.nil _ _ _ _)) l_R_ok tells2tN_run (by kernel_rfl) (by kernel_rfl) 0 []
  | true =>
    have h := assume_ok rg_2t true _ hg h
    have c := cfgL_ok (ksR_2t h (by kernel_rfl) hg) (fun _ _ _ => LpsOk.nil _ _ _ _)
    exact (spl (.eq (.var 13) (.var 2)) h (fun h => serves h c l_R_ok tells2tR2_run (by kernel_rfl) (by kernel_rfl) 0 []) (fun h => (spl (.eq (.var 13) (.var 4)) h (fun h => serves h c l_R_ok tells2tR4_run (by kernel_rfl) (by kernel_rfl) 0 []) (fun h => (spl (.eq (.var 13) (.var 11)) h (fun h => serves h c l_R_ok tells2tR11_run (by kernel_rfl) (by kernel_rfl) 0 []) (fun h => serves h c l_R_ok tells2tRX_run (by kernel_rfl) (by kernel_rfl) 0 []))))))
theorem tells_2f {ρ : Rho} (h : Facts.ok ρ [(.eq (.var 1) (.lit 2), true), (.var 10, false)]) : CY Try.prog 0 6 (X.denL ρ ([cfgV 0, iV 13])) [] (.sc (.bool true)) [] := by
  cases hg : rg_2f.den ρ with
  | false => exact serves h (cfgL_ok (ksN_2f hg) (fun _ _ _ => LpsOk.nil _ _ _ _)) l_R_ok tells2fN_run (by kernel_rfl) (by kernel_rfl) 0 []
  | true =>
    have h := assume_ok rg_2f true _ hg h
    have c := cfgL_ok (ksR_2f h (by kernel_rfl) hg) (fun _ _ _ => LpsOk.nil _ _ _ _)
    exact (spl (.eq (.var 13) (.var 2)) h (fun h => serves h c l_R_ok tells2fR2_run (by kernel_rfl) (by kernel_rfl) 0 []) (fun h => (spl (.eq (.var 13) (.var 4)) h (fun h => serves h c l_R_ok tells2fR4_run (by kernel_rfl) (by kernel_rfl) 0 []) (fun h => serves h c l_R_ok tells2fRX_run (by kernel_rfl) (by kernel_rfl) 0 []))))
theorem tells_3t {ρ : Rho} (h : Facts.ok ρ [(.eq (.var 1) (.lit 3), true), (.var 10, true)]) : CY Try.prog 0 6 (X.denL ρ ([cfgV 0, iV 13])) [] (.sc (.bool true)) [] := by
  cases hg : rg_3t.den ρ with
  | false => exact serves h (cfgL_ok (ksN_3t hg) (fun _ _ _ => LpsOk.nil _ _ _ _)) l_R_ok tells3tN_run (by kernel_rfl) (by kernel_rfl) 0 []
  | true =>
    have h := assume_ok rg_3t true _ hg h
    have c := cfgL_ok (ksR_3t h (by kernel_rfl) hg) (fun _ _ _ => LpsOk.nil _ _ _ _)
    exact (spl (.eq (.var 13) (.var 2)) h (fun h => serves h c l_R_ok tells3tR2_run (by kernel_rfl) (by kernel_rfl) 0 []) (fun h => (spl (.eq (.var 13) (.var 4)) h (fun h => serves h c l_R_ok tells3tR4_run (by kernel_rfl) (by kernel_rfl) 0 []) (fun h => (spl (.eq (.var 13) (.var 6)) h (fun h => serves h c l_R_ok tells3tR6_run (by kernel_rfl) (by kernel_rfl) 0 []) (fun h => (spl (.eq (.var 13) (.var 11)) h (fun h => serves h c l_R_ok tells3tR11_run (by kernel_rfl) (by kernel_rfl) 0 []) (fun h => serves h c l_R_ok tells3tRX_run (by kernel_rfl) (by kernel_rfl) 0 []))))))))
theorem tells_3f {ρ : Rho} (h : Facts.ok ρ [(.eq (.var 1) (.lit 3), true), (.var 10, false)]) : CY Try.prog 0 6 (X.denL ρ ([cfgV 0, iV 13])) [] (.sc (.bool true)) [] := by
  cases hg : rg_3f.den ρ with
  | false => exact serves h (cfgL_ok (ksN_3f hg) (fun _ _ _ => LpsOk.nil _ _ _ _)) l_R_ok tells3fN_run (by kernel_rfl) (by kernel_rfl) 0 []
  | true =>
    have h := assume_ok rg_3f true _ hg h
    have c := cfgL_ok (ksR_3f h (by kernel_rfl) hg) (fun _ _ _ => LpsOk.nil _ _ _ _)
    exact (spl (.eq (.var 13) (.var 2)) h (fun h => serves h c l_R_ok tells3fR2_run (by kernel_rfl) (by kernel_rfl) 0 []) (fun h => (spl (.eq (.var 13) (.var 4)) h (fun h => serves h c l_R_ok tells3fR4_run (by kernel_rfl) (by kernel_rfl) 0 []) (fun h => (spl (.eq (.var 13) (.var 6)) h (fun h => serves h c l_R_ok tells3fR6_run (by kernel_rfl) (by kernel_rfl) 0 []) (fun h => serves h c l_R_ok tells3fRX_run (by kernel_rfl) (by kernel_rfl) 0 []))))))
theorem tells_4t {ρ : Rho} (h : Facts.ok ρ [(.eq (.var 1) (.lit 4), true), (.var 10, true)]) : CY Try.prog 0 6 (X.denL ρ ([cfgV 0, iV 13])) [] (.sc (.bool true)) [] := by
  cases hg : rg_4t.den ρ with
  | false => exact serves h (cfgL_ok (ksN_4t hg) (fun _ _ _ => LpsOk.nil _ _ _ _)) l_R_ok tells4tN_run (by kernel_rfl) (by kernel_rfl) 0 []
  | true => exact absurd hg (by rw [no_4t]; simp)
theorem tells_4f {ρ : Rho} (h : Facts.ok ρ [(.eq (.var 1) (.lit 4), true), (.var 10, false)]) : CY Try.prog 0 6 (X.denL ρ ([cfgV 0, iV 13])) [] (.sc (.bool true)) [] := by
  cases hg : rg_4f.den ρ with
  | false => exact serves h (cfgL_ok (ksN_4f hg) (fun _ _ _ => LpsOk.nil _ _ _ _)) l_R_ok tells4fN_run (by kernel_rfl) (by kernel_rfl) 0 []
  | true =>
    have h := assume_ok rg_4f true _ hg h
    have c := cfgL_ok (ksR_4f h (by kernel_rfl) hg) (fun _ _ _ => LpsOk.nil _ _ _ _)
    exact (spl (.eq (.var 13) (.var 2)) h (fun h => serves h c l_R_ok tells4fR2_run (by kernel_rfl) (by kernel_rfl) 0 []) (fun h => (spl (.eq (.var 13) (.var 4)) h (fun h => serves h c l_R_ok tells4fR4_run (by kernel_rfl) (by kernel_rfl) 0 []) (fun h => (spl (.eq (.var 13) (.var 6)) h (fun h => serves h c l_R_ok tells4fR6_run (by kernel_rfl) (by kernel_rfl) 0 []) (fun h => (spl (.eq (.var 13) (.var 8)) h (fun h => serves h c l_R_ok tells4fR8_run (by kernel_rfl) (by kernel_rfl) 0 []) (fun h => serves h c l_R_ok tells4fRX_run (by kernel_rfl) (by kernel_rfl) 0 []))))))))
theorem tells_cy (ρ : Rho) : CY Try.prog 0 6 (X.denL ρ ([cfgV 0, iV 13])) [] (.sc (.bool true)) [] :=
  spl (.lt (.var 1) (.lit 1)) (Facts.ok_nil ρ) (fun h => serves h (cfg_ok (List.forall_mem_nil _)) l_R_ok tells0_run (by kernel_rfl) (by kernel_rfl) 0 []) fun h => spl (.lt (.lit 4) (.var 1)) h (fun h => serves h (cfg_ok (List.forall_mem_nil _)) l_R_ok tells5_run (by kernel_rfl) (by kernel_rfl) 0 []) fun h =>
  spl (.lt (.var 1) (.lit 2)) h (fun h => spl (.var 10) h (fun h => tells_1t (seesAll h (by kernel_rfl))) (fun h => tells_1f (seesAll h (by kernel_rfl)))) fun h => spl (.lt (.var 1) (.lit 3)) h (fun h => spl (.var 10) h (fun h => tells_2t (seesAll h (by kernel_rfl))) (fun h => tells_2f (seesAll h (by kernel_rfl)))) fun h => spl (.lt (.var 1) (.lit 4)) h (fun h => spl (.var 10) h (fun h => tells_3t (seesAll h (by kernel_rfl))) (fun h => tells_3f (seesAll h (by kernel_rfl)))) fun h => spl (.var 10) h (fun h => tells_4t (seesAll h (by kernel_rfl))) (fun h => tells_4f (seesAll h (by kernel_rfl)))
def tellsSh : List Sh := [.flat ((List.replicate 10 (.i .i64)) ++ [.b, .i .i64, .i .i64]) true, .flat [.i .i64] false]
theorem tells_pats : pats 0 0 tellsSh = [cfgV 0, iV 13] := by kernel_rfl
end Go.Proofs.Ytjgimdheiflinaa
