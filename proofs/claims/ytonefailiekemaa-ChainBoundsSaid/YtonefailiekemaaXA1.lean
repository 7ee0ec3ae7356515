/- Chain: what functions over a log come to: some numbers, some truth; where a write of an operation stands. -/
import Derived.Test.YtonefailiekemaaXL1
import Derived.Test.YtonefailiekemaaXP
import Derived.Test.YtonefailiekemaaXwM2
import Derived.Test.YtonefailiekemaaXwM3
namespace Go.Proofs.Ytonefailiekemaa
open Go Go.Proofs.Aw Go.Proofs.Xw
set_option maxRecDepth 100000
def HFL : List Nat := [105, 82, 106, 84, 51, 11, 31, 10014, 10024, 10025, 10026, 10028, 10032, 10033, 10035, 10038, 10039, 10040, 10041, 10045, 10047, 10048, 10065, 10066, 10067, 10071, 10064, 10068, 10069, 10070, 10072, 10073, 10092, 10085]
theorem callC (hf : List Nat) : ∀ ρ, CallOk Try.prog ρ (callS ⟨cfgL [] (fun _ => []), l_able, hf⟩ 12) := fun _ => callS_ok (c := ⟨cfgL [] (fun _ => []), l_able, hf⟩) (cfgL_ok (List.forall_mem_nil _) (fun _ _ _ => LpsOk.nil _ _ _ _)) l_able_ok 12
/-- The first number at which something ends. -/
theorem first_stop (c : Nat → Bool) : ∀ N : Nat, c N = false → ∃ n, n ≤ N ∧ c n = false ∧ ∀ j, j < n → c j = true := by
  intro N
  induction N using Nat.strongRecOn with
  | _ N ih =>
    intro hN
    by_cases h : ∃ j, j < N ∧ c j = false
    · obtain ⟨j, hj, hc⟩ := h
      obtain ⟨n, h1, h2, h3⟩ := ih j hj hc
      exact ⟨n, by omega, h2, h3⟩
    · refine ⟨N, Nat.le_refl _, hN, fun j hj => ?_⟩
      cases hc : c j with
      | true => rfl
      | false => exact absurd ⟨j, hj, hc⟩ h
theorem kC_ok (ρ : Rho) (h : ρ.len 0 < 4611686018427387904) : LoopOk Try.prog (kC_b.it (kC_i.ap ρ) (ρ.len 0)) Try.f22.ntmps kC_c kC :=
  loopOk_cntE mixed tis_ok kC_run kC_fits kC_back rfl 104 kC_bel kC_ib kC_bg kC_same (I := 100) (e := .len 0) rfl (by intro h; cases h) rfl rfl (by kernel_rfl) (Φ0 := []) rfl (by kernel_rfl) (Facts.ok_nil _) kC_ig (callC _) (fun _ => LpsOk.nil _ _ _ _) _ h rfl
theorem pA_ok (ρ : Rho) (h : ρ.len 0 < 4611686018427387904) : LoopOk Try.prog (pA_b.it (pA_i.ap ρ) (ρ.len 0)) Try.f50.ntmps pA_c pA :=
  loopOk_cntE mixed tis_ok pA_run pA_fits pA_back rfl 110 pA_bel pA_ib pA_bg pA_same (I := 100) (e := .len 0) rfl (by intro h; cases h) rfl rfl (by kernel_rfl) (Φ0 := []) rfl (by kernel_rfl) (Facts.ok_nil _) pA_ig (callC _) (fun _ => LpsOk.nil _ _ _ _) _ h rfl
theorem pB_ok (ρ : Rho) (h : ρ.len 0 < 4611686018427387904) : LoopOk Try.prog (pB_b.it (pB_i.ap ρ) (ρ.len 0)) Try.f50.ntmps pB_c pB :=
  loopOk_cntE mixed tis_ok pB_run pB_fits pB_back rfl 130 pB_bel pB_ib pB_bg pB_same (I := 120) (e := .len 0) rfl (by intro h; cases h) rfl rfl (by kernel_rfl) (Φ0 := []) rfl (by kernel_rfl) (Facts.ok_nil _) pB_ig (callC _) (fun _ => LpsOk.nil _ _ _ _) _ h rfl
theorem nX_ok (ρ : Rho) (h : ρ.len 0 < 4611686018427387904) : LoopOk Try.prog (nX_b.it (nX_i.ap ρ) (ρ.len 0)) Try.f46.ntmps nX_c nX :=
  loopOk_cntE mixed tis_ok nX_run nX_fits nX_back rfl 102 nX_bel nX_ib nX_bg nX_same (I := 100) (e := .len 0) rfl (by intro h; cases h) rfl rfl (by kernel_rfl) (Φ0 := []) rfl (by kernel_rfl) (Facts.ok_nil _) nX_ig (callC _) (fun _ => LpsOk.nil _ _ _ _) _ h rfl
/-- Columns: three numbers. -/
theorem col_cy (ρ : Rho) (h : ρ.len 0 < 4611686018427387904) : ∃ a b c : Int, hasBody Try.prog 22 = true ∧ ∀ n hp, CY Try.prog n 22 (X.denL ρ [iC 0, esR]) hp (.agg [.sc (.int .i64 a), .sc (.int .i64 b), .sc (.int .i64 c)]) [] := by
  generalize e1 : kC_b.it (kC_i.ap ρ) (ρ.len 0) = ρ1
  have l1 := kC_ok ρ h
  have ag : Agree 100 ρ ρ1 := by rw [← e1]; exact (Bind.agree kC_ig ρ).trans (Bind.it_agree kC_bg (kC_i.ap ρ) _)
  have c1 : ρ1.i 100 = ρ.len 0 := by rw [← e1]; exact it_count (e := .lit 0) rfl (by rfl) _ h
  rw [e1] at l1
  have n1 : (BE.not (.lt (.var 100) (.len 0))).den ρ1 = true := by
    rw [dnot_t, dlt_f]
    simp only [IE.den, c1, ← ag.len 0 (by decide)]
    omega
  have g := fun r (hr : colR.sel ρ1 = some r) => askF_ok (c := ⟨cfgL [] lyC, l_able, []⟩) (cfgL_ok (List.forall_mem_nil _) (lyC_ok l1)) l_able_ok (Facts.ok_nil ρ1) (by rw [colR_run]; exact hr)
  have g := g _ (by unfold colR; rw [T.sel, if_pos n1]; rfl)
  rw [← X.belL_den ag [iC 0, esR] (by kernel_rfl)] at g
  exact ⟨ρ1.i 101, ρ1.i 102, ρ1.i 103, g⟩
/-- All that writes stand on: nine numbers. -/
theorem past_cy (ρ : Rho) (h : ρ.len 0 < 4611686018427387904) : ∃ p : Nat → Int, hasBody Try.prog 50 = true ∧ ∀ n hp, CY Try.prog n 50 (X.denL ρ [esR]) hp (.agg [.sc (.int .i64 (p 0)), .sc (.int .i64 (p 1)), .sc (.int .i64 (p 2)), .sc (.int .i64 (p 3)), .sc (.int .i64 (p 4)), .sc (.int .i64 (p 5)), .sc (.int .i64 (p 6)), .sc (.int .i64 (p 7)), .sc (.int .i64 (p 8))]) [] := by
  generalize e1 : pA_b.it (pA_i.ap ρ) (ρ.len 0) = ρ1
  have l1 := pA_ok ρ h
  have ag : Agree 100 ρ ρ1 := by rw [← e1]; exact (Bind.agree pA_ig ρ).trans (Bind.it_agree pA_bg (pA_i.ap ρ) _)
  have c1 : ρ1.i 100 = ρ.len 0 := by rw [← e1]; exact it_count (e := .lit 0) rfl (by rfl) _ h
  have hl1 : ρ1.len 0 = ρ.len 0 := (ag.len 0 (by decide)).symm
  rw [e1] at l1
  have l2 := pB_ok ρ1 (by rw [hl1]; exact h)
  generalize e2 : pB_b.it (pB_i.ap ρ1) (ρ1.len 0) = ρ2
  have ag2 : Agree 120 ρ1 ρ2 := by rw [← e2]; exact (Bind.agree pB_ig ρ1).trans (Bind.it_agree pB_bg (pB_i.ap ρ1) _)
  have c2 : ρ2.i 120 = ρ1.len 0 := by rw [← e2]; exact it_count (e := .lit 0) rfl (by rfl) _ (by rw [hl1]; exact h)
  rw [e2] at l2
  have l1' : LoopOk Try.prog ρ2 Try.f50.ntmps pA_c pA := LoopOk.agree (B := 110) (by kernel_rfl) (by kernel_rfl) pA_bel (ag2.le (by decide)) l1
  have n1 : (BE.and (.not (.lt (.var 100) (.len 0))) (.not (.lt (.var 120) (.len 0)))).den ρ2 = true := by
    rw [dand_t, dnot_t, dlt_f, dnot_t, dlt_f]
    simp only [IE.den, c2, ← ag2.len 0 (by decide), ← ag2.i 100 (by decide), c1, hl1]
    omega
  have g := fun r (hr : pastR.sel ρ2 = some r) => askF_ok (c := ⟨cfgL [] lyP, l_able, []⟩) (cfgL_ok (List.forall_mem_nil _) (lyP_ok l1' l2)) l_able_ok (Facts.ok_nil ρ2) (by rw [pastR_run]; exact hr)
  have g := g _ (by unfold pastR; rw [T.sel, if_pos n1]; rfl)
  rw [← X.belL_den ((ag.trans (ag2.le (by decide))) : Agree 100 ρ ρ2) [esR] (by kernel_rfl)] at g
  exact ⟨fun k => ρ2.i (121 + k), g⟩
/-- A stamp: three numbers, and a truth. -/
theorem next_cy (ρ : Rho) (h : ρ.len 0 < 4611686018427387904) : ∃ (a b c : Int) (ok : Bool), hasBody Try.prog 46 = true ∧ ∀ n hp, CY Try.prog n 46 (X.denL ρ [iC 0, iC 0, isR]) hp (.tup [.agg [.sc (.int .i64 a), .sc (.int .i64 b), .sc (.int .i64 c)], .sc (.bool ok)]) [] := by
  generalize e1 : nX_b.it (nX_i.ap ρ) (ρ.len 0) = ρ1
  have l1 := nX_ok ρ h
  have ag : Agree 100 ρ ρ1 := by rw [← e1]; exact (Bind.agree nX_ig ρ).trans (Bind.it_agree nX_bg (nX_i.ap ρ) _)
  have c1 : ρ1.i 100 = ρ.len 0 := by rw [← e1]; exact it_count (e := .lit 0) rfl (by rfl) _ h
  rw [e1] at l1
  have n1 : (BE.not (.lt (.var 100) (.len 0))).den ρ1 = true := by
    rw [dnot_t, dlt_f]
    simp only [IE.den, c1, ← ag.len 0 (by decide)]
    omega
  have g := fun r (hr : nextR.sel ρ1 = some r) => askF_ok (c := ⟨cfgL [] lyN, l_able, []⟩) (cfgL_ok (List.forall_mem_nil _) (lyN_ok l1)) l_able_ok (Facts.ok_nil ρ1) (by rw [nextR_run]; exact hr)
  have g := g _ (by unfold nextR; rw [T.sel, if_pos n1]; rfl)
  rw [← X.belL_den ag [iC 0, iC 0, isR] (by kernel_rfl)] at g
  exact ⟨_, _, _, _, g⟩
/-- Whether a script is too long. -/
theorem mX_ok (ρ : Rho) (h : ρ.len 0 < 4611686018427387904) : ∃ ρ1, Agree 100 ρ ρ1 ∧ (BE.and (.lt (.var 100) (.len 0)) (.not (.lt (.lit 400) (.var 101)))).den ρ1 = false ∧ LoopOk Try.prog ρ1 Try.f10.ntmps mX_c mX := by
  have cnt := fun j => it_count (e := .lit 0) (I := 100) (β := mX_b) rfl (ρ := mX_i.ap ρ) (by rfl) j
  have ag := fun j => (Bind.agree mX_ig ρ).trans (Bind.it_agree mX_bg (mX_i.ap ρ) j)
  have hN : (BE.and (.lt (.var 100) (.len 0)) (.not (.lt (.lit 400) (.var 101)))).den (mX_b.it (mX_i.ap ρ) (ρ.len 0)) = false := by
    rw [dand_f, dlt_f]
    left
    simp only [IE.den, cnt _ h, ← (ag (ρ.len 0)).len 0 (by decide)]
    omega
  obtain ⟨n, hn, hs, hgo⟩ := first_stop (fun j => (BE.and (.lt (.var 100) (.len 0)) (.not (.lt (.lit 400) (.var 101)))).den (mX_b.it (mX_i.ap ρ) j)) (ρ.len 0) hN
  refine ⟨_, ag n, hs, loopOk_it mixed tis_ok mX_run mX_fits mX_back rfl 102 mX_bel mX_ib mX_bg mX_same n fun j hj => ⟨callC _ _, LpsOk.nil _ _ _ _, Facts.ok_cons ?_ (Facts.ok_nil _), ?_⟩⟩
  · rw [show mX.init = mX_i from rfl]
    simp only [BE.den, IE.den, cnt j (by omega)]
    exact decide_eq_false (by omega)
  · rw [show mX.init = mX_i from rfl]
    by_cases hjn : j < n
    · rw [if_pos hjn]
      exact ⟨_, by unfold mX_t; rw [T.sel, if_pos (show BE.den _ (BE.and _ _) = true from hgo j hjn)]; rfl⟩
    · obtain rfl : j = n := by omega
      rw [if_neg hjn]
      exact ⟨.exit 0, _, (fun h => nomatch h), by unfold mX_t; rw [T.sel, if_neg (show ¬ BE.den _ (BE.and _ _) = true by rw [hs]; simp)]; rfl⟩
theorem much_cy (ρ : Rho) (h : ρ.len 0 < 4611686018427387904) : ∃ b : Bool, hasBody Try.prog 10 = true ∧ ∀ n hp, CY Try.prog n 10 (X.denL ρ [puR]) hp (.sc (.bool b)) [] := by
  obtain ⟨ρ1, ag, hs, l1⟩ := mX_ok ρ h
  have n1 : (BE.not (.and (.lt (.var 100) (.len 0)) (.not (.lt (.lit 400) (.var 101))))).den ρ1 = true := by rw [dnot_t]; exact hs
  have g := fun r (hr : muchR.sel ρ1 = some r) => askF_ok (c := ⟨cfgL [] lyM, l_able, []⟩) (cfgL_ok (List.forall_mem_nil _) (lyM_ok l1)) l_able_ok (Facts.ok_nil ρ1) (by rw [muchR_run]; exact hr)
  have g := g _ (by unfold muchR; rw [T.sel, if_pos n1]; rfl)
  rw [← X.belL_den ag [puR] (by kernel_rfl)] at g
  exact ⟨_, g⟩
/-- Whether the j-th write is of that operation. -/
def hit (ρ : Rho) (j : Nat) : Bool := ρ.ci 0 18 j == ρ.i 0 && ρ.ci 0 19 j == ρ.i 1
theorem fX_ok (ρ : Rho) (h : ρ.len 0 < 4611686018427387904) : ∃ ρ1 n, Agree 100 ρ ρ1 ∧ n ≤ ρ.len 0 ∧ ρ1.i 100 = (n : Nat) ∧ (∀ j, j < n → hit ρ j = false) ∧ (n < ρ.len 0 → hit ρ n = true) ∧ LoopOk Try.prog ρ1 Try.f85.ntmps fX_c fX := by
  have cnt := fun j => it_count (e := .lit 0) (I := 100) (β := fX_b) rfl (ρ := fX_i.ap ρ) (by rfl) j
  have ag := fun j => (Bind.agree fX_ig ρ).trans (Bind.it_agree fX_bg (fX_i.ap ρ) j)
  obtain ⟨n, hn, hs, hgo⟩ := first_stop (fun j => decide (j < ρ.len 0) && !hit ρ j) (ρ.len 0) (by simp)
  have lt : ∀ j, j ≤ ρ.len 0 → (BE.lt (.var 100) (.len 0)).den (fX_b.it (fX_i.ap ρ) j) = decide (j < ρ.len 0) := fun j hj => by
    simp only [BE.den, IE.den, cnt j (by omega), ← (ag j).len 0 (by decide)]
    exact decide_eq_decide.2 (by omega)
  have mt : ∀ j, j ≤ ρ.len 0 → (BE.and (.eq (.cl 0 18 (.var 100)) (.var 0)) (.eq (.cl 0 19 (.var 100)) (.var 1))).den (fX_b.it (fX_i.ap ρ) j) = hit ρ j := fun j hj => by
    simp only [BE.den, IE.den, cnt j (by omega), ← (ag j).ci 0 (by decide), ← (ag j).i 0 (by decide), ← (ag j).i 1 (by decide), Int.toNat_natCast]
    rfl
  refine ⟨_, n, ag n, hn, cnt n (by omega), fun j hj => ?_, fun hl => ?_, loopOk_it mixed tis_ok fX_run fX_fits fX_back rfl 101 fX_bel fX_ib fX_bg fX_same n fun j hj => ⟨callC _ _, LpsOk.nil _ _ _ _, Facts.ok_cons ?_ (Facts.ok_nil _), ?_⟩⟩
  · have := hgo j hj
    simp only [Bool.and_eq_true, Bool.not_eq_true'] at this
    exact this.2
  · simp only [Bool.and_eq_false_iff, decide_eq_false_iff_not, Bool.not_eq_false'] at hs
    exact hs.resolve_left (by omega)
  · rw [show fX.init = fX_i from rfl]
    simp only [BE.den, IE.den, cnt j (by omega)]
    exact decide_eq_false (by omega)
  · rw [show fX.init = fX_i from rfl]
    by_cases hjn : j < n
    · rw [if_pos hjn]
      have := hgo j hjn
      simp only [Bool.and_eq_true, Bool.not_eq_true'] at this
      exact ⟨_, by unfold fX_t; rw [T.sel, if_pos (by rw [lt j (by omega)]; exact this.1), T.sel, if_neg (by rw [mt j (by omega), this.2]; simp)]; rfl⟩
    · obtain rfl : j = n := by omega
      rw [if_neg hjn]
      by_cases hl : j < ρ.len 0
      · have hh : hit ρ j = true := by
          simp only [Bool.and_eq_false_iff, decide_eq_false_iff_not, Bool.not_eq_false'] at hs
          exact hs.resolve_left (by omega)
        exact ⟨.ret, _, (fun h => nomatch h), by unfold fX_t; rw [T.sel, if_pos (by rw [lt j hn]; exact decide_eq_true hl), T.sel, if_pos (by rw [mt j hn]; exact hh)]; rfl⟩
      · exact ⟨.exit 0, _, (fun h => nomatch h), by unfold fX_t; rw [T.sel, if_neg (by rw [lt j hn]; simpa using hl)]; rfl⟩
/-- Where a write of that operation stands: the first one's number, or -1. -/
theorem find_cy (ρ : Rho) (h : ρ.len 0 < 4611686018427387904) : ∃ r : Int, ((0 ≤ r ∧ r < ρ.len 0) ∨ (r = -1 ∧ ∀ j, j < ρ.len 0 → hit ρ j = false)) ∧ hasBody Try.prog 85 = true ∧ ∀ n hp, CY Try.prog n 85 (X.denL ρ [esR, fnX]) hp (.sc (.int .i64 r)) [] := by
  obtain ⟨ρ1, n, ag, hn, c1, hno, hyes, l1⟩ := fX_ok ρ h
  have hl : ρ1.len 0 = ρ.len 0 := (ag.len 0 (by decide)).symm
  have n1 : (BE.or (.not (.lt (.var 100) (.len 0))) (.and (.eq (.cl 0 18 (.var 100)) (.var 0)) (.eq (.cl 0 19 (.var 100)) (.var 1)))).den ρ1 = true := by
    rw [dor_t]
    by_cases hlt : n < ρ.len 0
    · right
      have hh := hyes hlt
      simp only [BE.den, IE.den, c1, ← ag.ci 0 (by decide), ← ag.i 0 (by decide), ← ag.i 1 (by decide), Int.toNat_natCast]
      exact hh
    · left
      rw [dnot_t, dlt_f]
      simp only [IE.den, c1, hl]
      omega
  have g := fun r (hr : findR.sel ρ1 = some r) => askF_ok (c := ⟨cfgL [] lyF, l_able, []⟩) (cfgL_ok (List.forall_mem_nil _) (lyF_ok l1)) l_able_ok (Facts.ok_nil ρ1) (by rw [findR_run]; exact hr)
  have g := g _ (by unfold findR; rw [T.sel, if_pos n1]; rfl)
  rw [← X.belL_den ag [esR, fnX] (by kernel_rfl)] at g
  refine ⟨_, ?_, g⟩
  simp only [IE.den, BE.den, c1, hl]
  by_cases hlt : n < ρ.len 0
  · rw [if_pos (decide_eq_true (by omega))]
    exact .inl ⟨by omega, by omega⟩
  · rw [if_neg (by simp; omega)]
    exact .inr ⟨rfl, fun j hj => hno j (by omega)⟩
end Go.Proofs.Ytonefailiekemaa
