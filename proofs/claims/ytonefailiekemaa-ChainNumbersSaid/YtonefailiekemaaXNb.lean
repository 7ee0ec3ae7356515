/- ChainNumbers: what functions over a log come to: the column, the past, the next stamp, whether a write is right. -/
import Derived.Test.YtonefailiekemaaXNa
import Derived.Test.YtonefailiekemaaXA1
namespace Go.Proofs.Ytonefailiekemaa
open Go Go.Proofs.Aw Go.Proofs.Xw
set_option maxRecDepth 100000
theorem ap_i {β : Bind} {ρ : Rho} {k : Nat} {e : IE} (h : lassoc k β.i = some e) : (β.ap ρ).i k = e.den ρ := by simp only [Bind.ap, h]
theorem ap_b {β : Bind} {ρ : Rho} {k : Nat} {e : BE} (h : lassoc k β.b = some e) : (β.ap ρ).b k = e.den ρ := by simp only [Bind.ap, h]
theorem ap_len {β : Bind} {ρ : Rho} {k : Nat} {m : IE} {r : RL} (h : lassoc k β.r = some (m, r)) : (β.ap ρ).len k = (m.den ρ).toNat := by simp only [Bind.ap, h]
theorem ap_ci {β : Bind} {ρ : Rho} {k : Nat} {m : IE} {r : RL} (h : lassoc k β.r = some (m, r)) (c j : Nat) : (β.ap ρ).ci k c j = cellI (r.row ρ j)[c]? := by simp only [Bind.ap, h]
theorem iden_ite (ρ : Rho) (c : BE) (a b : IE) : (IE.ite c a b).den ρ = if c.den ρ = true then a.den ρ else b.den ρ := rfl
theorem kD_ok (ρ : Rho) (h : ρ.len 0 < 4611686018427387904) : LoopOk Try.prog (kD_b.it (kD_i.ap ρ) (ρ.len 0)) Try.f22.ntmps kD_c kD :=
  loopOk_cntE mixed tis_ok kD_run kD_fits kD_back rfl 104 kD_bel kD_ib kD_bg kD_same (I := 100) (e := .len 0) rfl (by intro h; cases h) rfl rfl (by kernel_rfl) (Φ0 := []) rfl (by kernel_rfl) (Facts.ok_nil _) kD_ig (callC _) (fun _ => LpsOk.nil _ _ _ _) _ h rfl
theorem nY_ok (ρ : Rho) (h : ρ.len 0 < 4611686018427387904) : LoopOk Try.prog (nY_b.it (nY_i.ap ρ) (ρ.len 0)) Try.f46.ntmps nY_c nY :=
  loopOk_cntE mixed tis_ok nY_run nY_fits nY_back rfl 102 nY_bel nY_ib nY_bg nY_same (I := 100) (e := .len 0) rfl (by intro h; cases h) rfl rfl (by kernel_rfl) (Φ0 := []) rfl (by kernel_rfl) (Facts.ok_nil _) nY_ig (callC _) (fun _ => LpsOk.nil _ _ _ _) _ h rfl

/-! ### The column -/
theorem kD_step (ρ : Rho) (j : Nat) (hj : ρ.i 100 = j) (hd : 0 ≤ ρ.ci 0 0 j ∧ ρ.ci 0 0 j < 3) (hR : ρ.ci 0 1 j = ρ.i 1) (hr : 0 ≤ ρ.i 1 ∧ ρ.i 1 < 3) (k : Nat) (hk : k < 3) :
    (kD_b.ap ρ).i (101 + k) = if ρ.ci 0 0 j = k then max (ρ.i (101 + k)) (ρ.ci 0 2 j) else ρ.i (101 + k) := by
  have hjn : (ρ.i 100).toNat = j := by omega
  obtain rfl | rfl | rfl : k = 0 ∨ k = 1 ∨ k = 2 := by omega
  · rw [ap_i kD_b101]
    simp only [dand_t, dnot_t, dlt_f, dlt_t, deq_t, IE.den, IOp.den, hjn]
    rw [if_pos ⟨hR, ⟨⟨⟨hd.1, hd.2⟩, hr.1⟩, hr.2⟩⟩]
    by_cases h0 : ρ.ci 0 0 j = 0
    · rw [if_pos h0, if_pos h0, if_pos (c := ρ.ci 0 0 j = ((0 : Nat) : Int)) h0]
    · rw [if_neg h0, if_neg (c := ρ.ci 0 0 j = ((0 : Nat) : Int)) h0]
  · rw [ap_i kD_b102]
    simp only [dand_t, dnot_t, dlt_f, dlt_t, deq_t, IE.den, IOp.den, hjn]
    rw [if_pos ⟨hR, ⟨⟨⟨hd.1, hd.2⟩, hr.1⟩, hr.2⟩⟩]
    by_cases h1 : ρ.ci 0 0 j = 1
    · have h0 : ¬ ρ.ci 0 0 j = 0 := by omega
      simp only [h1, if_true, show ¬ (1 : Int) = 0 by decide, if_false]
      rfl
    · rw [if_neg (c := ρ.ci 0 0 j = ((1 : Nat) : Int)) h1, if_neg (c := ρ.ci 0 0 j = 1) h1]
      split <;> rfl
  · rw [ap_i kD_b103]
    simp only [dand_t, dnot_t, dlt_f, dlt_t, deq_t, IE.den, IOp.den, hjn]
    rw [if_pos ⟨hR, ⟨⟨⟨hd.1, hd.2⟩, hr.1⟩, hr.2⟩⟩]
    by_cases h2 : ρ.ci 0 0 j = 2
    · simp only [h2, show ¬ (2 : Int) = 0 by decide, show ¬ (2 : Int) = 1 by decide, if_false]
      rfl
    · rw [if_neg (c := ρ.ci 0 0 j = ((2 : Nat) : Int)) h2]
      by_cases h0 : ρ.ci 0 0 j = 0
      · rw [if_pos h0]
      · rw [if_neg h0, if_pos (by omega)]
theorem kD_fold (ρ : Rho) (h : ρ.len 0 < 4611686018427387904) (hd : ∀ j, j < ρ.len 0 → 0 ≤ ρ.ci 0 0 j ∧ ρ.ci 0 0 j < 3) (hR : ∀ j, j < ρ.len 0 → ρ.ci 0 1 j = ρ.i 1) (hr : 0 ≤ ρ.i 1 ∧ ρ.i 1 < 3) (k : Nat) (hk : k < 3) :
    ∀ j : Nat, j ≤ ρ.len 0 → (kD_b.it (kD_i.ap ρ) j).i (101 + k) = colN (ρ.ci 0 0) (ρ.ci 0 2) k j
  | 0, _ => by
    obtain rfl | rfl | rfl : k = 0 ∨ k = 1 ∨ k = 2 := by omega
    all_goals rfl
  | j + 1, hj => by
    have ih := kD_fold ρ h hd hR hr k hk j (by omega)
    have cnt := it_count (e := .lit 0) (I := 100) (β := kD_b) rfl (ρ := kD_i.ap ρ) (by rfl) j (by omega)
    have ag := (Bind.agree kD_ig ρ).trans (Bind.it_agree kD_bg (kD_i.ap ρ) j)
    simp only [Bind.it]
    rw [kD_step _ j cnt (by rw [← ag.ci 0 (by decide)]; exact hd j (by omega)) (by rw [← ag.ci 0 (by decide), ← ag.i 1 (by decide)]; exact hR j (by omega)) (by rw [← ag.i 1 (by decide)]; exact hr) k hk, ih]
    simp only [← ag.ci 0 (by decide), colN]
theorem colD_cy (ρ : Rho) (h : ρ.len 0 < 4611686018427387904) (hd : ∀ j, j < ρ.len 0 → 0 ≤ ρ.ci 0 0 j ∧ ρ.ci 0 0 j < 3) (hR : ∀ j, j < ρ.len 0 → ρ.ci 0 1 j = ρ.i 1) (hr : 0 ≤ ρ.i 1 ∧ ρ.i 1 < 3) :
    ∃ p : Nat → Int, (∀ k : Nat, k < 3 → p k = colN (ρ.ci 0 0) (ρ.ci 0 2) k (ρ.len 0)) ∧ hasBody Try.prog 22 = true ∧ ∀ n hp, CY Try.prog n 22 (X.denL ρ [iV 1, esR]) hp (.agg [.sc (.int .i64 (p 0)), .sc (.int .i64 (p 1)), .sc (.int .i64 (p 2))]) [] := by
  have hf := fun k hk => kD_fold ρ h hd hR hr k hk (ρ.len 0) (Nat.le_refl _)
  generalize e1 : kD_b.it (kD_i.ap ρ) (ρ.len 0) = ρ1 at hf
  have l1 := kD_ok ρ h
  have ag : Agree 100 ρ ρ1 := by rw [← e1]; exact (Bind.agree kD_ig ρ).trans (Bind.it_agree kD_bg (kD_i.ap ρ) _)
  have c1 : ρ1.i 100 = ρ.len 0 := by rw [← e1]; exact it_count (e := .lit 0) rfl (by rfl) _ h
  rw [e1] at l1
  have n1 : (BE.not (.lt (.var 100) (.len 0))).den ρ1 = true := by
    rw [dnot_t, dlt_f]
    simp only [IE.den, c1, ← ag.len 0 (by decide)]
    omega
  have g := fun r (hr : colD.sel ρ1 = some r) => askF_ok (c := ⟨cfgL [] lyK, l_able, []⟩) (cfgL_ok (List.forall_mem_nil _) (lyK_ok l1)) l_able_ok (Facts.ok_nil ρ1) (by rw [colD_run]; exact hr)
  have g := g _ (by unfold colD; rw [T.sel, if_pos n1]; rfl)
  rw [← X.belL_den ag [iV 1, esR] (by kernel_rfl)] at g
  exact ⟨fun k => ρ1.i (101 + k), hf, g⟩

/-! ### The past -/
theorem pA_step (ρ : Rho) (j : Nat) (hj : ρ.i 100 = j) (m : Nat) (hm : m < 9) : (pA_b.ap ρ).i (101 + m) = max (max 0 (ρ.i (101 + m))) (ρ.ci 0 (9 + m) j) := by
  have hjn : (ρ.i 100).toNat = j := by omega
  obtain rfl | rfl | rfl | rfl | rfl | rfl | rfl | rfl | rfl : m = 0 ∨ m = 1 ∨ m = 2 ∨ m = 3 ∨ m = 4 ∨ m = 5 ∨ m = 6 ∨ m = 7 ∨ m = 8 := by omega
  · rw [ap_i pA_b101]; simp only [IE.den, IOp.den, hjn]
  · rw [ap_i pA_b102]; simp only [IE.den, IOp.den, hjn]
  · rw [ap_i pA_b103]; simp only [IE.den, IOp.den, hjn]
  · rw [ap_i pA_b104]; simp only [IE.den, IOp.den, hjn]
  · rw [ap_i pA_b105]; simp only [IE.den, IOp.den, hjn]
  · rw [ap_i pA_b106]; simp only [IE.den, IOp.den, hjn]
  · rw [ap_i pA_b107]; simp only [IE.den, IOp.den, hjn]
  · rw [ap_i pA_b108]; simp only [IE.den, IOp.den, hjn]
  · rw [ap_i pA_b109]; simp only [IE.den, IOp.den, hjn]
theorem pA_fold (ρ : Rho) (h : ρ.len 0 < 4611686018427387904) (m : Nat) (hm : m < 9) : ∀ j : Nat, j ≤ ρ.len 0 → (pA_b.it (pA_i.ap ρ) j).i (101 + m) = fA (ρ.ci 0 (9 + m)) j
  | 0, _ => by
    obtain rfl | rfl | rfl | rfl | rfl | rfl | rfl | rfl | rfl : m = 0 ∨ m = 1 ∨ m = 2 ∨ m = 3 ∨ m = 4 ∨ m = 5 ∨ m = 6 ∨ m = 7 ∨ m = 8 := by omega
    all_goals rfl
  | j + 1, hj => by
    have ih := pA_fold ρ h m hm j (by omega)
    have cnt := it_count (e := .lit 0) (I := 100) (β := pA_b) rfl (ρ := pA_i.ap ρ) (by rfl) j (by omega)
    have ag := (Bind.agree pA_ig ρ).trans (Bind.it_agree pA_bg (pA_i.ap ρ) j)
    simp only [Bind.it]
    rw [pA_step _ j cnt m hm, ih]
    simp only [← ag.ci 0 (by decide), fA]
theorem pB_step (ρ : Rho) (j : Nat) (hj : ρ.i 120 = j) (hd : 0 ≤ ρ.ci 0 0 j ∧ ρ.ci 0 0 j < 3) (hr : 0 ≤ ρ.ci 0 1 j ∧ ρ.ci 0 1 j < 3) (k r : Nat) (hk : k < 3) (hr3 : r < 3) :
    (pB_b.ap ρ).i (121 + (3 * k + r)) = if ρ.ci 0 0 j = k ∧ ρ.ci 0 1 j = r then max (ρ.i (121 + (3 * k + r))) (ρ.ci 0 2 j) else ρ.i (121 + (3 * k + r)) := by
  have hjn : (ρ.i 120).toNat = j := by omega
  obtain ⟨⟨hd0, hd1⟩, hr0, hr1⟩ := And.intro hd hr
  generalize ed : ρ.ci 0 0 j = d at hd0 hd1
  generalize er : ρ.ci 0 1 j = e at hr0 hr1
  obtain rfl | rfl | rfl : k = 0 ∨ k = 1 ∨ k = 2 := by omega
  all_goals (obtain rfl | rfl | rfl : r = 0 ∨ r = 1 ∨ r = 2 := by omega)
  · rw [ap_i pB_b121]; simp only [dand_t, dnot_t, dlt_f, dlt_t, deq_t, IE.den, IOp.den, hjn, ed, er]
    obtain rfl | rfl | rfl : d = 0 ∨ d = 1 ∨ d = 2 := by omega
    all_goals (obtain rfl | rfl | rfl : e = 0 ∨ e = 1 ∨ e = 2 := by omega)
    all_goals simp
  · rw [ap_i pB_b122]; simp only [dand_t, dnot_t, dlt_f, dlt_t, deq_t, IE.den, IOp.den, hjn, ed, er]
    obtain rfl | rfl | rfl : d = 0 ∨ d = 1 ∨ d = 2 := by omega
    all_goals (obtain rfl | rfl | rfl : e = 0 ∨ e = 1 ∨ e = 2 := by omega)
    all_goals simp
  · rw [ap_i pB_b123]; simp only [dand_t, dnot_t, dlt_f, dlt_t, deq_t, IE.den, IOp.den, hjn, ed, er]
    obtain rfl | rfl | rfl : d = 0 ∨ d = 1 ∨ d = 2 := by omega
    all_goals (obtain rfl | rfl | rfl : e = 0 ∨ e = 1 ∨ e = 2 := by omega)
    all_goals simp
  · rw [ap_i pB_b124]; simp only [dand_t, dnot_t, dlt_f, dlt_t, deq_t, IE.den, IOp.den, hjn, ed, er]
    obtain rfl | rfl | rfl : d = 0 ∨ d = 1 ∨ d = 2 := by omega
    all_goals (obtain rfl | rfl | rfl : e = 0 ∨ e = 1 ∨ e = 2 := by omega)
    all_goals simp
  · rw [ap_i pB_b125]; simp only [dand_t, dnot_t, dlt_f, dlt_t, deq_t, IE.den, IOp.den, hjn, ed, er]
    obtain rfl | rfl | rfl : d = 0 ∨ d = 1 ∨ d = 2 := by omega
    all_goals (obtain rfl | rfl | rfl : e = 0 ∨ e = 1 ∨ e = 2 := by omega)
    all_goals simp
  · rw [ap_i pB_b126]; simp only [dand_t, dnot_t, dlt_f, dlt_t, deq_t, IE.den, IOp.den, hjn, ed, er]
    obtain rfl | rfl | rfl : d = 0 ∨ d = 1 ∨ d = 2 := by omega
    all_goals (obtain rfl | rfl | rfl : e = 0 ∨ e = 1 ∨ e = 2 := by omega)
    all_goals simp
  · rw [ap_i pB_b127]; simp only [dand_t, dnot_t, dlt_f, dlt_t, deq_t, IE.den, IOp.den, hjn, ed, er]
    obtain rfl | rfl | rfl : d = 0 ∨ d = 1 ∨ d = 2 := by omega
    all_goals (obtain rfl | rfl | rfl : e = 0 ∨ e = 1 ∨ e = 2 := by omega)
    all_goals simp
  · rw [ap_i pB_b128]; simp only [dand_t, dnot_t, dlt_f, dlt_t, deq_t, IE.den, IOp.den, hjn, ed, er]
    obtain rfl | rfl | rfl : d = 0 ∨ d = 1 ∨ d = 2 := by omega
    all_goals (obtain rfl | rfl | rfl : e = 0 ∨ e = 1 ∨ e = 2 := by omega)
    all_goals simp
  · rw [ap_i pB_b129]; simp only [dand_t, dnot_t, dlt_f, dlt_t, deq_t, IE.den, IOp.den, hjn, ed, er]
    obtain rfl | rfl | rfl : d = 0 ∨ d = 1 ∨ d = 2 := by omega
    all_goals (obtain rfl | rfl | rfl : e = 0 ∨ e = 1 ∨ e = 2 := by omega)
    all_goals simp
theorem pB_fold (ρ : Rho) (h : ρ.len 0 < 4611686018427387904) (hd : ∀ j, j < ρ.len 0 → 0 ≤ ρ.ci 0 0 j ∧ ρ.ci 0 0 j < 3) (hr : ∀ j, j < ρ.len 0 → 0 ≤ ρ.ci 0 1 j ∧ ρ.ci 0 1 j < 3) (k r : Nat) (hk : k < 3) (hr3 : r < 3) :
    ∀ j : Nat, j ≤ ρ.len 0 → (pB_b.it (pB_i.ap ρ) j).i (121 + (3 * k + r)) = fB (ρ.ci 0 0) (ρ.ci 0 1) (ρ.ci 0 2) k r (ρ.i (101 + (3 * k + r))) j
  | 0, _ => by
    obtain rfl | rfl | rfl : k = 0 ∨ k = 1 ∨ k = 2 := by omega
    all_goals (obtain rfl | rfl | rfl : r = 0 ∨ r = 1 ∨ r = 2 := by omega)
    all_goals rfl
  | j + 1, hj => by
    have ih := pB_fold ρ h hd hr k r hk hr3 j (by omega)
    have cnt := it_count (e := .lit 0) (I := 120) (β := pB_b) rfl (ρ := pB_i.ap ρ) (by rfl) j (by omega)
    have ag := (Bind.agree pB_ig ρ).trans (Bind.it_agree pB_bg (pB_i.ap ρ) j)
    simp only [Bind.it]
    rw [pB_step _ j cnt (by rw [← ag.ci 0 (by decide)]; exact hd j (by omega)) (by rw [← ag.ci 0 (by decide)]; exact hr j (by omega)) k r hk hr3, ih]
    simp only [← ag.ci 0 (by decide), fB]
theorem pastD_cy (ρ : Rho) (h : ρ.len 0 < 4611686018427387904) (hd : ∀ j, j < ρ.len 0 → 0 ≤ ρ.ci 0 0 j ∧ ρ.ci 0 0 j < 3) (hr : ∀ j, j < ρ.len 0 → 0 ≤ ρ.ci 0 1 j ∧ ρ.ci 0 1 j < 3) :
    ∃ p : Nat → Int, (∀ k r : Nat, k < 3 → r < 3 → p (3 * k + r) = fB (ρ.ci 0 0) (ρ.ci 0 1) (ρ.ci 0 2) k r (fA (ρ.ci 0 (9 + (3 * k + r))) (ρ.len 0)) (ρ.len 0)) ∧
      hasBody Try.prog 50 = true ∧ ∀ n hp, CY Try.prog n 50 (X.denL ρ [esR]) hp (.agg [.sc (.int .i64 (p 0)), .sc (.int .i64 (p 1)), .sc (.int .i64 (p 2)), .sc (.int .i64 (p 3)), .sc (.int .i64 (p 4)), .sc (.int .i64 (p 5)), .sc (.int .i64 (p 6)), .sc (.int .i64 (p 7)), .sc (.int .i64 (p 8))]) [] := by
  have hf1 := fun m hm => pA_fold ρ h m hm (ρ.len 0) (Nat.le_refl _)
  generalize e1 : pA_b.it (pA_i.ap ρ) (ρ.len 0) = ρ1 at hf1
  have l1 := pA_ok ρ h
  have ag : Agree 100 ρ ρ1 := by rw [← e1]; exact (Bind.agree pA_ig ρ).trans (Bind.it_agree pA_bg (pA_i.ap ρ) _)
  have c1 : ρ1.i 100 = ρ.len 0 := by rw [← e1]; exact it_count (e := .lit 0) rfl (by rfl) _ h
  have hl1 : ρ1.len 0 = ρ.len 0 := (ag.len 0 (by decide)).symm
  rw [e1] at l1
  have l2 := pB_ok ρ1 (by rw [hl1]; exact h)
  have hf2 := fun k r hk hr3 => pB_fold ρ1 (by rw [hl1]; exact h) (fun j hj => by rw [← ag.ci 0 (by decide)]; exact hd j (by omega)) (fun j hj => by rw [← ag.ci 0 (by decide)]; exact hr j (by omega)) k r hk hr3 (ρ1.len 0) (Nat.le_refl _)
  generalize e2 : pB_b.it (pB_i.ap ρ1) (ρ1.len 0) = ρ2 at hf2
  have ag2 : Agree 120 ρ1 ρ2 := by rw [← e2]; exact (Bind.agree pB_ig ρ1).trans (Bind.it_agree pB_bg (pB_i.ap ρ1) _)
  have c2 : ρ2.i 120 = ρ1.len 0 := by rw [← e2]; exact it_count (e := .lit 0) rfl (by rfl) _ (by rw [hl1]; exact h)
  rw [e2] at l2
  have l1' : LoopOk Try.prog ρ2 Try.f50.ntmps pA_c pA := LoopOk.agree (B := 110) (by kernel_rfl) (by kernel_rfl) pA_bel (ag2.le (by decide)) l1
  have n1 : (BE.and (.not (.lt (.var 100) (.len 0))) (.not (.lt (.var 120) (.len 0)))).den ρ2 = true := by
    rw [dand_t, dnot_t, dlt_f, dnot_t, dlt_f]
    simp only [IE.den, c2, ← ag2.len 0 (by decide), ← ag2.i 100 (by decide), c1, hl1]
    omega
  have g := fun r (hr : pastR.sel ρ2 = some r) => askF_ok (c := ⟨cfgL [] lyP, l_able, []⟩) (cfgL_ok (List.forall_mem_nil _) (lyP_ok l1' l2)) l_able_ok (Facts.ok_nil ρ2) (by rw [pastR_run]; exact hr)
  have g := g _ (by unfold pastR; rw [T.sel, if_pos n1]; rfl)
  rw [← X.belL_den ((ag.trans (ag2.le (by decide))) : Agree 100 ρ ρ2) [esR] (by kernel_rfl)] at g
  refine ⟨fun k => ρ2.i (121 + k), fun k r hk hr3 => ?_, g⟩
  have := hf2 k r hk hr3
  rw [hf1 _ (by omega), hl1, ← ag.ci 0 (by decide)] at this
  exact this

/-! ### The next stamp -/
theorem nY_fold (ρ : Rho) (h : ρ.len 0 < 4611686018427387904) : ∀ j : Nat, j ≤ ρ.len 0 → (nY_b.it (nY_i.ap ρ) j).i 101 = mx (ρ.ci 0 0) j
  | 0, _ => rfl
  | j + 1, hj => by
    have ih := nY_fold ρ h j (by omega)
    have cnt := it_count (e := .lit 0) (I := 100) (β := nY_b) rfl (ρ := nY_i.ap ρ) (by rfl) j (by omega)
    have ag := (Bind.agree nY_ig ρ).trans (Bind.it_agree nY_bg (nY_i.ap ρ) j)
    simp only [Bind.it]
    rw [ap_i nY_b101]
    simp only [IE.den, IOp.den, cnt, ih, Int.toNat_natCast, ← ag.ci 0 (by decide), mx]
theorem sN_den (ρ : Rho) (h : 0 ≤ ρ.i 101) : sN.den ρ = min (ρ.i 101) 1099511627776 + 1 := by
  unfold sN
  simp only [IE.den, IOp.den]
  exact wrap_id _ (by omega) (by omega)
theorem nextD_cy (ρ : Rho) (h : ρ.len 0 < 4611686018427387904) : (∃ a : Int, (0 ≤ ρ.i 0 ∧ ρ.i 0 < 3) ∧ (0 ≤ ρ.i 1 ∧ ρ.i 1 < 3) ∧ 0 < a ∧ (∀ j, j < ρ.len 0 → ρ.ci 0 0 j < a) ∧
      hasBody Try.prog 46 = true ∧ ∀ n hp, CY Try.prog n 46 (X.denL ρ [iV 0, iV 1, isR]) hp (.tup [.agg [.sc (.int .i64 a), .sc (.int .i64 (ρ.i 0)), .sc (.int .i64 (ρ.i 1))], .sc (.bool true)]) []) ∨
    (hasBody Try.prog 46 = true ∧ ∀ n hp, CY Try.prog n 46 (X.denL ρ [iV 0, iV 1, isR]) hp (.tup [.agg [.sc (.int .i64 0), .sc (.int .i64 0), .sc (.int .i64 0)], .sc (.bool false)]) []) := by
  have hf := nY_fold ρ h (ρ.len 0) (Nat.le_refl _)
  generalize e1 : nY_b.it (nY_i.ap ρ) (ρ.len 0) = ρ1 at hf
  have l1 := nY_ok ρ h
  have ag : Agree 100 ρ ρ1 := by rw [← e1]; exact (Bind.agree nY_ig ρ).trans (Bind.it_agree nY_bg (nY_i.ap ρ) _)
  have c1 : ρ1.i 100 = ρ.len 0 := by rw [← e1]; exact it_count (e := .lit 0) rfl (by rfl) _ h
  rw [e1] at l1
  have n1 : (BE.not (.lt (.var 100) (.len 0))).den ρ1 = true := by
    rw [dnot_t, dlt_f]
    simp only [IE.den, c1, ← ag.len 0 (by decide)]
    omega
  have g := fun r (hr : nextD.sel ρ1 = some r) => askF_ok (c := ⟨cfgL [] lyY, l_able, []⟩) (cfgL_ok (List.forall_mem_nil _) (lyY_ok l1)) l_able_ok (Facts.ok_nil ρ1) (by rw [nextD_run]; exact hr)
  have g := g _ (by rw [nextD_eq, T.sel, if_pos n1]; rfl)
  rw [← X.belL_den ag [iV 0, iV 1, isR] (by kernel_rfl)] at g
  have hm := mx_nn (ρ.ci 0 0) (ρ.len 0)
  have hs := sN_den ρ1 (by omega)
  simp only [X.den, X.denL, Sc.den, IE.den, dnot_t] at g
  cases hok : okN.den ρ1 with
  | false =>
    right
    simp only [hok, if_true] at g
    exact g
  | true =>
    left
    simp only [hok, Bool.true_eq_false, if_false] at g
    have hok2 := hok
    unfold okN at hok2
    rw [dand_t, dand_t, dand_t, dand_t, dand_t, dnot_t, dlt_f, dnot_t, dlt_f, dnot_t, dlt_f, dlt_t, dnot_t, dlt_f, dlt_t] at hok2
    obtain ⟨⟨⟨⟨⟨q1, q2⟩, q3⟩, q4⟩, q5⟩, q6⟩ := hok2
    have q1 : (1 : Int) ≤ sN.den ρ1 := q1
    have q2 : sN.den ρ1 ≤ 1099511627776 := q2
    have q3 : 0 ≤ ρ1.i 0 := q3
    have q4 : ρ1.i 0 < 3 := q4
    have q5 : 0 ≤ ρ1.i 1 := q5
    have q6 : ρ1.i 1 < 3 := q6
    have a0 := ag.i 0 (by decide)
    have a1 := ag.i 1 (by decide)
    refine ⟨sN.den ρ1, by omega, by omega, by omega, fun j hj => ?_, g.1, fun n hp => ?_⟩
    · have := mx_ge (ρ.ci 0 0) (ρ.len 0) j hj
      omega
    · have := g.2 n hp
      rw [a0, a1]
      exact this

/-! ### Whether a write is right -/
theorem reE_dot {ρ : Rho} (h : reE.den ρ = true) : (0 ≤ ρ.i 0 ∧ ρ.i 0 < 3) ∧ (0 ≤ ρ.i 1 ∧ ρ.i 1 < 3) := by
  unfold reE at h
  rw [dand_t, dnot_t, dor_f, dor_f, dor_f, dnot_f, dand_t, dand_t, dand_t, dnot_t, dlt_f, dlt_t, dnot_t, dlt_f, dlt_t] at h
  obtain ⟨⟨⟨⟨⟨⟨⟨q1, q2⟩, q3⟩, q4⟩, _⟩, _⟩, _⟩, _⟩ := h
  exact ⟨⟨q1, q2⟩, q3, q4⟩
theorem re_cy (ρ : Rho) : hasBody Try.prog 18 = true ∧ ∀ n hp, CY Try.prog n 18 (X.denL ρ [eP]) hp (.sc (.bool (reE.den ρ))) [] := by
  have g := fun r (hr : (T.ret (X.sc (.b reE))).sel ρ = some r) => askF_ok (c := ⟨cfg [], l_able, HFL⟩) (cfg_ok (List.forall_mem_nil _)) l_able_ok (Facts.ok_nil ρ) (by rw [re_run]; exact hr)
  exact g _ rfl
end Go.Proofs.Ytonefailiekemaa
