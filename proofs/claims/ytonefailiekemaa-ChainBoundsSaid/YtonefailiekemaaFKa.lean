/- ChainFresh, ChainBounds: what the program's and the document's functions over a log come to, alike. -/
import Derived.Test.YtonefailiekemaaFL7
import Derived.Test.YtonefailiekemaaFC
namespace Go.Proofs.Ytonefailiekemaa
open Go Go.Proofs.Aw Go.Proofs.Xw
set_option maxRecDepth 100000
theorem ap_i {β : Bind} {ρ : Rho} {k : Nat} {e : IE} (h : lassoc k β.i = some e) : (β.ap ρ).i k = e.den ρ := by simp only [Bind.ap, h]
theorem ap_b {β : Bind} {ρ : Rho} {k : Nat} {e : BE} (h : lassoc k β.b = some e) : (β.ap ρ).b k = e.den ρ := by simp only [Bind.ap, h]
theorem ap_len {β : Bind} {ρ : Rho} {k : Nat} {m : IE} {r : RL} (h : lassoc k β.r = some (m, r)) : (β.ap ρ).len k = (m.den ρ).toNat := by simp only [Bind.ap, h]
theorem ap_ci {β : Bind} {ρ : Rho} {k : Nat} {m : IE} {r : RL} (h : lassoc k β.r = some (m, r)) (c j : Nat) : (β.ap ρ).ci k c j = cellI (r.row ρ j)[c]? := by simp only [Bind.ap, h]
def mx (C : Nat → Int) : Nat → Int
  | 0 => 0
  | n + 1 => max (mx C n) (C n)
theorem mx_nn (C : Nat → Int) : ∀ n, 0 ≤ mx C n
  | 0 => Int.le_refl 0
  | n + 1 => by have := mx_nn C n; simp only [mx]; omega
def fA (W : Nat → Int) : Nat → Int
  | 0 => 0
  | n + 1 => max (max 0 (fA W n)) (W n)
def fB (D R S : Nat → Int) (d r a : Int) : Nat → Int
  | 0 => a
  | n + 1 => if D n = d ∧ R n = r then max (fB D R S d r a n) (S n) else fB D R S d r a n
def fC (D R S W : Nat → Int) (d r : Int) : Nat → Int
  | 0 => 0
  | n + 1 => if D n = d ∧ R n = r then max (max (max 0 (fC D R S W d r n)) (W n)) (S n) else max (max 0 (fC D R S W d r n)) (W n)
theorem fB_max (D R S : Nat → Int) (d r a b : Int) : ∀ n, fB D R S d r (max a b) n = max (fB D R S d r a n) b
  | 0 => rfl
  | n + 1 => by
    simp only [fB, fB_max D R S d r a b n]
    split <;> omega
theorem fC_eq (D R S W : Nat → Int) (d r : Int) : ∀ n, fC D R S W d r n = fB D R S d r (fA W n) n
  | 0 => rfl
  | n + 1 => by
    have h1 : fB D R S d r (max (max 0 (fA W n)) (W n)) n = max (max 0 (fB D R S d r (fA W n) n)) (W n) := by
      rw [fB_max, Int.max_comm 0 (fA W n), fB_max, Int.max_comm _ 0]
    simp only [fC, fB, fA, fC_eq D R S W d r n, h1]

/-! ### The loops -/
theorem kD_ok (ρ : Rho) (h : ρ.len 0 < 4611686018427387904) : LoopOk Try.prog (kD_b.it (kD_i.ap ρ) (ρ.len 0)) Try.f22.ntmps kD_c kD :=
  loopOk_cntE mixed tis_ok kD_run kD_fits kD_back rfl 104 kD_bel kD_ib kD_bg kD_same (I := 100) (e := .len 0) rfl (by intro h; cases h) rfl rfl (by kernel_rfl) (Φ0 := []) rfl (by kernel_rfl) (Facts.ok_nil _) kD_ig (callC _) (fun _ => LpsOk.nil _ _ _ _) _ h rfl
theorem nY_ok (ρ : Rho) (h : ρ.len 0 < 4611686018427387904) : LoopOk Try.prog (nY_b.it (nY_i.ap ρ) (ρ.len 0)) Try.f46.ntmps nY_c nY :=
  loopOk_cntE mixed tis_ok nY_run nY_fits nY_back rfl 102 nY_bel nY_ib nY_bg nY_same (I := 100) (e := .len 0) rfl (by intro h; cases h) rfl rfl (by kernel_rfl) (Φ0 := []) rfl (by kernel_rfl) (Facts.ok_nil _) nY_ig (callC _) (fun _ => LpsOk.nil _ _ _ _) _ h rfl
theorem kE_ok (ρ : Rho) (h : ρ.len 0 < 4611686018427387904) : LoopOk Try.prog (kE_b.it (kE_i.ap ρ) (ρ.len 0)) Try.f108.ntmps kE_c kE :=
  loopOk_cntE mixed tis_ok kE_run kE_fits kE_back rfl 104 kE_bel kE_ib kE_bg kE_same (I := 100) (e := .len 0) rfl (by intro h; cases h) rfl rfl (by kernel_rfl) (Φ0 := []) rfl (by kernel_rfl) (Facts.ok_nil _) kE_ig (callC _) (fun _ => LpsOk.nil _ _ _ _) _ h rfl
theorem pC_ok (ρ : Rho) (h : ρ.len 0 < 4611686018427387904) : LoopOk Try.prog (pC_b.it (pC_i.ap ρ) (ρ.len 0)) Try.f97.ntmps pC_c pC :=
  loopOk_cntE mixed tis_ok pC_run pC_fits pC_back rfl 110 pC_bel pC_ib pC_bg pC_same (I := 100) (e := .len 0) rfl (by intro h; cases h) rfl rfl (by kernel_rfl) (Φ0 := []) rfl (by kernel_rfl) (Facts.ok_nil _) pC_ig (callC _) (fun _ => LpsOk.nil _ _ _ _) _ h rfl
theorem nZ_ok (ρ : Rho) (h : ρ.len 0 < 4611686018427387904) : LoopOk Try.prog (nZ_b.it (nZ_i.ap ρ) (ρ.len 0)) Try.f95.ntmps nZ_c nZ :=
  loopOk_cntE mixed tis_ok nZ_run nZ_fits nZ_back rfl 102 nZ_bel nZ_ib nZ_bg nZ_same (I := 100) (e := .len 0) rfl (by intro h; cases h) rfl rfl (by kernel_rfl) (Φ0 := []) rfl (by kernel_rfl) (Facts.ok_nil _) nZ_ig (callC _) (fun _ => LpsOk.nil _ _ _ _) _ h rfl
theorem one3 {d : Int} (h : 0 ≤ d ∧ d < 3) : d = 0 ∨ d = 1 ∨ d = 2 := by omega
theorem three {P : Nat → Prop} (h0 : P 0) (h1 : P 1) (h2 : P 2) : ∀ k : Nat, k < 3 → P k := fun k hk => by
  obtain rfl | rfl | rfl : k = 0 ∨ k = 1 ∨ k = 2 := by omega
  · exact h0
  · exact h1
  · exact h2
/-! ### The column -/
theorem col_step (ρ ρ' : Rho) (j : Nat) (hj : ρ.i 100 = j) (hj' : ρ'.i 100 = j) (hc : ρ.ci 0 = ρ'.ci 0) (hr : ρ.i 1 = ρ'.i 1) (ih : ∀ k : Nat, k < 3 → ρ.i (101 + k) = ρ'.i (101 + k)) (k : Nat) (hk : k < 3) : (kD_b.ap ρ).i (101 + k) = (kE_b.ap ρ').i (101 + k) := by
  have e1 : (ρ.i 100).toNat = j := by omega
  have e2 : (ρ'.i 100).toNat = j := by omega
  have i0 : ρ.i 101 = ρ'.i 101 := ih 0 (by decide)
  have i1 : ρ.i 102 = ρ'.i 102 := ih 1 (by decide)
  have i2 : ρ.i 103 = ρ'.i 103 := ih 2 (by decide)
  obtain rfl | rfl | rfl : k = 0 ∨ k = 1 ∨ k = 2 := by omega
  · rw [ap_i kD_b101, ap_i kE_b101]
    simp only [dand_t, dnot_t, dlt_f, dlt_t, deq_t, IE.den, IOp.den, e1, e2, hc, hr, i0, i1, i2]
    by_cases h : ρ'.ci 0 1 j = ρ'.i 1
    · simp only [h]
    · rw [if_neg (fun g => h g.1), if_neg (fun g => h g.1)]
  · rw [ap_i kD_b102, ap_i kE_b102]
    simp only [dand_t, dnot_t, dlt_f, dlt_t, deq_t, IE.den, IOp.den, e1, e2, hc, hr, i0, i1, i2]
    by_cases h : ρ'.ci 0 1 j = ρ'.i 1
    · simp only [h]
    · rw [if_neg (fun g => h g.1), if_neg (fun g => h g.1)]
  · rw [ap_i kD_b103, ap_i kE_b103]
    simp only [dand_t, dnot_t, dlt_f, dlt_t, deq_t, IE.den, IOp.den, e1, e2, hc, hr, i0, i1, i2]
    by_cases h : ρ'.ci 0 1 j = ρ'.i 1
    · simp only [h]
    · rw [if_neg (fun g => h g.1), if_neg (fun g => h g.1)]
theorem col_fold (ρ : Rho) (h : ρ.len 0 < 4611686018427387904) : ∀ j : Nat, j ≤ ρ.len 0 → ∀ k : Nat, k < 3 → (kD_b.it (kD_i.ap ρ) j).i (101 + k) = (kE_b.it (kE_i.ap ρ) j).i (101 + k)
  | 0, _ => three rfl rfl rfl
  | j + 1, hj => fun k hk => by
    have ih := col_fold ρ h j (by omega)
    have n1 := it_count (e := .lit 0) (I := 100) (β := kD_b) rfl (ρ := kD_i.ap ρ) (by rfl) j (by omega)
    have n2 := it_count (e := .lit 0) (I := 100) (β := kE_b) rfl (ρ := kE_i.ap ρ) (by rfl) j (by omega)
    have a1 := (Bind.agree kD_ig ρ).trans (Bind.it_agree kD_bg (kD_i.ap ρ) j)
    have a2 := (Bind.agree kE_ig ρ).trans (Bind.it_agree kE_bg (kE_i.ap ρ) j)
    simp only [Bind.it]
    exact col_step _ _ j n1 n2 (by rw [← a1.ci 0 (by decide), ← a2.ci 0 (by decide)]) (by rw [← a1.i 1 (by decide), ← a2.i 1 (by decide)]) ih k hk
theorem col_nn (ρ : Rho) (h : ∀ k : Nat, k < 3 → 0 ≤ ρ.i (101 + k)) : ∀ k : Nat, k < 3 → 0 ≤ (kD_b.ap ρ).i (101 + k) := by
  have i0 : 0 ≤ ρ.i 101 := h 0 (by decide)
  have i1 : 0 ≤ ρ.i 102 := h 1 (by decide)
  have i2 : 0 ≤ ρ.i 103 := h 2 (by decide)
  refine three ?_ ?_ ?_
  · rw [ap_i kD_b101]; simp only [IE.den, IOp.den]; (repeat' split) <;> omega
  · rw [ap_i kD_b102]; simp only [IE.den, IOp.den]; (repeat' split) <;> omega
  · rw [ap_i kD_b103]; simp only [IE.den, IOp.den]; (repeat' split) <;> omega
theorem col_nns (ρ : Rho) : ∀ j : Nat, ∀ k : Nat, k < 3 → 0 ≤ (kD_b.it (kD_i.ap ρ) j).i (101 + k)
  | 0 => three (Int.le_refl 0) (Int.le_refl 0) (Int.le_refl 0)
  | j + 1 => by
    simp only [Bind.it]
    exact col_nn _ (col_nns ρ j)
/-- Both columns: three numbers. -/
theorem col2_cy (ρ : Rho) (h : ρ.len 0 < 4611686018427387904) : ∃ p : Nat → Int, (∀ k : Nat, k < 3 → 0 ≤ p k) ∧ ∀ f ∈ [22, 108], Kc f (X.denL ρ [iV 1, esR]) (.agg [.sc (.int .i64 (p 0)), .sc (.int .i64 (p 1)), .sc (.int .i64 (p 2))]) := by
  have hf := col_fold ρ h (ρ.len 0) (Nat.le_refl _)
  have hn := col_nns ρ (ρ.len 0)
  generalize e1 : kD_b.it (kD_i.ap ρ) (ρ.len 0) = ρ1 at hf hn
  generalize e2 : kE_b.it (kE_i.ap ρ) (ρ.len 0) = ρ2 at hf
  have l1 := kD_ok ρ h
  have l2 := kE_ok ρ h
  have a1 : Agree 100 ρ ρ1 := by rw [← e1]; exact (Bind.agree kD_ig ρ).trans (Bind.it_agree kD_bg (kD_i.ap ρ) _)
  have a2 : Agree 100 ρ ρ2 := by rw [← e2]; exact (Bind.agree kE_ig ρ).trans (Bind.it_agree kE_bg (kE_i.ap ρ) _)
  have c1 : ρ1.i 100 = ρ.len 0 := by rw [← e1]; exact it_count (e := .lit 0) rfl (by rfl) _ h
  have c2 : ρ2.i 100 = ρ.len 0 := by rw [← e2]; exact it_count (e := .lit 0) rfl (by rfl) _ h
  rw [e1] at l1
  rw [e2] at l2
  have n1 : (BE.not (.lt (.var 100) (.len 0))).den ρ1 = true := by
    rw [dnot_t, dlt_f]; simp only [IE.den, c1, ← a1.len 0 (by decide)]; omega
  have n2 : (BE.not (.lt (.var 100) (.len 0))).den ρ2 = true := by
    rw [dnot_t, dlt_f]; simp only [IE.den, c2, ← a2.len 0 (by decide)]; omega
  have g1 := fun r (hr : colD.sel ρ1 = some r) => askF_ok (c := ⟨cfgL [] lyK, l_able, []⟩) (cfgL_ok (List.forall_mem_nil _) (lyK_ok l1)) l_able_ok (Facts.ok_nil ρ1) (by rw [colD_run]; exact hr)
  have g1 := g1 _ (by unfold colD; rw [T.sel, if_pos n1]; rfl)
  rw [← X.belL_den a1 [iV 1, esR] (by kernel_rfl)] at g1
  have g2 := fun r (hr : colE0.sel ρ2 = some r) => askF_ok (c := ⟨cfgL [] lyE, l_able, HFL⟩) (f := 108) (args := [iV 1, esR]) (cfgL_ok (List.forall_mem_nil _) (lyE_ok l2)) l_able_ok (Facts.ok_nil ρ2) ((congrArg (T.sel ρ2) colE0_run).trans hr)
  have g2 := g2 _ (by unfold colE0; rw [T.sel, if_pos n2]; rfl)
  rw [← X.belL_den a2 [iV 1, esR] (by kernel_rfl)] at g2
  refine ⟨fun k => ρ1.i (101 + k), hn, List.forall_mem_cons.2 ⟨g1, List.forall_mem_cons.2 ⟨?_, List.forall_mem_nil _⟩⟩⟩
  simp only [hf 0 (by decide), hf 1 (by decide), hf 2 (by decide)]
  exact g2

/-! ### The past -/
theorem pA_step (ρ : Rho) (j : Nat) (hj : ρ.i 100 = j) (m : Nat) (hm : m < 9) : (pA_b.ap ρ).i (101 + m) = max (max 0 (ρ.i (101 + m))) (ρ.ci 0 (9 + m) j) := by
  have hjn : (ρ.i 100).toNat = j := by omega
  obtain rfl | rfl | rfl | rfl | rfl | rfl | rfl | rfl | rfl : m = 0 ∨ m = 1 ∨ m = 2 ∨ m = 3 ∨ m = 4 ∨ m = 5 ∨ m = 6 ∨ m = 7 ∨ m = 8 := by omega
  · rw [ap_i pA_b101]; simp only [IE.den, IOp.den, hjn]
  · rw [ap_i pA_b102]; simp only [IE.den, IOp.den, hjn]
  · rw [ap_i pA_b103]; simp only [IE.den, IOp.den, hjn]
  · rw [ap_i pA_b104]; simp only [IE.den, IOp.den, hjn]
  · rw [ap_i pA_b105]; simp only [IE.den, IOp.den, hjn]
  · rw [ap_i pA_b106]; simp only [IE.den, IOp.den, hjn]
  · rw [ap_i pA_b107]; simp only [IE.den, IOp.den, hjn]
  · rw [ap_i pA_b108]; simp only [IE.den, IOp.den, hjn]
  · rw [ap_i pA_b109]; simp only [IE.den, IOp.den, hjn]
theorem pA_fold (ρ : Rho) (h : ρ.len 0 < 4611686018427387904) (m : Nat) (hm : m < 9) : ∀ j : Nat, j ≤ ρ.len 0 → (pA_b.it (pA_i.ap ρ) j).i (101 + m) = fA (ρ.ci 0 (9 + m)) j
  | 0, _ => by
    obtain rfl | rfl | rfl | rfl | rfl | rfl | rfl | rfl | rfl : m = 0 ∨ m = 1 ∨ m = 2 ∨ m = 3 ∨ m = 4 ∨ m = 5 ∨ m = 6 ∨ m = 7 ∨ m = 8 := by omega
    all_goals rfl
  | j + 1, hj => by
    have ih := pA_fold ρ h m hm j (by omega)
    have cnt := it_count (e := .lit 0) (I := 100) (β := pA_b) rfl (ρ := pA_i.ap ρ) (by rfl) j (by omega)
    have ag := (Bind.agree pA_ig ρ).trans (Bind.it_agree pA_bg (pA_i.ap ρ) j)
    simp only [Bind.it]
    rw [pA_step _ j cnt m hm, ih]
    simp only [← ag.ci 0 (by decide), fA]
theorem pB_step (ρ : Rho) (j : Nat) (hj : ρ.i 120 = j) (k r : Nat) (hk : k < 3) (hr3 : r < 3) :
    (pB_b.ap ρ).i (121 + (3 * k + r)) = if ρ.ci 0 0 j = k ∧ ρ.ci 0 1 j = r then max (ρ.i (121 + (3 * k + r))) (ρ.ci 0 2 j) else ρ.i (121 + (3 * k + r)) := by
  have hjn : (ρ.i 120).toNat = j := by omega
  generalize ed : ρ.ci 0 0 j = d
  generalize er : ρ.ci 0 1 j = e
  obtain rfl | rfl | rfl : k = 0 ∨ k = 1 ∨ k = 2 := by omega
  all_goals (obtain rfl | rfl | rfl : r = 0 ∨ r = 1 ∨ r = 2 := by omega)
  · rw [ap_i pB_b121]; simp only [dand_t, dnot_t, dlt_f, dlt_t, deq_t, IE.den, IOp.den, hjn, ed, er]
    by_cases hd : (((0 ≤ d ∧ d < 3) ∧ 0 ≤ e) ∧ e < 3)
    · rw [if_pos hd]
      obtain ⟨⟨hd1, he0⟩, he1⟩ := hd
      obtain rfl | rfl | rfl := one3 hd1
      all_goals (obtain rfl | rfl | rfl := one3 ⟨he0, he1⟩)
      all_goals simp
    · rw [if_neg hd, if_neg (by omega)]
  · rw [ap_i pB_b122]; simp only [dand_t, dnot_t, dlt_f, dlt_t, deq_t, IE.den, IOp.den, hjn, ed, er]
    by_cases hd : (((0 ≤ d ∧ d < 3) ∧ 0 ≤ e) ∧ e < 3)
    · rw [if_pos hd]
      obtain ⟨⟨hd1, he0⟩, he1⟩ := hd
      obtain rfl | rfl | rfl := one3 hd1
      all_goals (obtain rfl | rfl | rfl := one3 ⟨he0, he1⟩)
      all_goals simp
    · rw [if_neg hd, if_neg (by omega)]
  · rw [ap_i pB_b123]; simp only [dand_t, dnot_t, dlt_f, dlt_t, deq_t, IE.den, IOp.den, hjn, ed, er]
    by_cases hd : (((0 ≤ d ∧ d < 3) ∧ 0 ≤ e) ∧ e < 3)
    · rw [if_pos hd]
      obtain ⟨⟨hd1, he0⟩, he1⟩ := hd
      obtain rfl | rfl | rfl := one3 hd1
      all_goals (obtain rfl | rfl | rfl := one3 ⟨he0, he1⟩)
      all_goals simp
    · rw [if_neg hd, if_neg (by omega)]
  · rw [ap_i pB_b124]; simp only [dand_t, dnot_t, dlt_f, dlt_t, deq_t, IE.den, IOp.den, hjn, ed, er]
    by_cases hd : (((0 ≤ d ∧ d < 3) ∧ 0 ≤ e) ∧ e < 3)
    · rw [if_pos hd]
      obtain ⟨⟨hd1, he0⟩, he1⟩ := hd
      obtain rfl | rfl | rfl := one3 hd1
      all_goals (obtain rfl | rfl | rfl := one3 ⟨he0, he1⟩)
      all_goals simp
    · rw [if_neg hd, if_neg (by omega)]
  · rw [ap_i pB_b125]; simp only [dand_t, dnot_t, dlt_f, dlt_t, deq_t, IE.den, IOp.den, hjn, ed, er]
    by_cases hd : (((0 ≤ d ∧ d < 3) ∧ 0 ≤ e) ∧ e < 3)
    · rw [if_pos hd]
      obtain ⟨⟨hd1, he0⟩, he1⟩ := hd
      obtain rfl | rfl | rfl := one3 hd1
      all_goals (obtain rfl | rfl | rfl := one3 ⟨he0, he1⟩)
      all_goals simp
    · rw [if_neg hd, if_neg (by omega)]
  · rw [ap_i pB_b126]; simp only [dand_t, dnot_t, dlt_f, dlt_t, deq_t, IE.den, IOp.den, hjn, ed, er]
    by_cases hd : (((0 ≤ d ∧ d < 3) ∧ 0 ≤ e) ∧ e < 3)
    · rw [if_pos hd]
      obtain ⟨⟨hd1, he0⟩, he1⟩ := hd
      obtain rfl | rfl | rfl := one3 hd1
      all_goals (obtain rfl | rfl | rfl := one3 ⟨he0, he1⟩)
      all_goals simp
    · rw [if_neg hd, if_neg (by omega)]
  · rw [ap_i pB_b127]; simp only [dand_t, dnot_t, dlt_f, dlt_t, deq_t, IE.den, IOp.den, hjn, ed, er]
    by_cases hd : (((0 ≤ d ∧ d < 3) ∧ 0 ≤ e) ∧ e < 3)
    · rw [if_pos hd]
      obtain ⟨⟨hd1, he0⟩, he1⟩ := hd
      obtain rfl | rfl | rfl := one3 hd1
      all_goals (obtain rfl | rfl | rfl := one3 ⟨he0, he1⟩)
      all_goals simp
    · rw [if_neg hd, if_neg (by omega)]
  · rw [ap_i pB_b128]; simp only [dand_t, dnot_t, dlt_f, dlt_t, deq_t, IE.den, IOp.den, hjn, ed, er]
    by_cases hd : (((0 ≤ d ∧ d < 3) ∧ 0 ≤ e) ∧ e < 3)
    · rw [if_pos hd]
      obtain ⟨⟨hd1, he0⟩, he1⟩ := hd
      obtain rfl | rfl | rfl := one3 hd1
      all_goals (obtain rfl | rfl | rfl := one3 ⟨he0, he1⟩)
      all_goals simp
    · rw [if_neg hd, if_neg (by omega)]
  · rw [ap_i pB_b129]; simp only [dand_t, dnot_t, dlt_f, dlt_t, deq_t, IE.den, IOp.den, hjn, ed, er]
    by_cases hd : (((0 ≤ d ∧ d < 3) ∧ 0 ≤ e) ∧ e < 3)
    · rw [if_pos hd]
      obtain ⟨⟨hd1, he0⟩, he1⟩ := hd
      obtain rfl | rfl | rfl := one3 hd1
      all_goals (obtain rfl | rfl | rfl := one3 ⟨he0, he1⟩)
      all_goals simp
    · rw [if_neg hd, if_neg (by omega)]
theorem pB_fold (ρ : Rho) (h : ρ.len 0 < 4611686018427387904) (k r : Nat) (hk : k < 3) (hr3 : r < 3) :
    ∀ j : Nat, j ≤ ρ.len 0 → (pB_b.it (pB_i.ap ρ) j).i (121 + (3 * k + r)) = fB (ρ.ci 0 0) (ρ.ci 0 1) (ρ.ci 0 2) k r (ρ.i (101 + (3 * k + r))) j
  | 0, _ => by
    obtain rfl | rfl | rfl : k = 0 ∨ k = 1 ∨ k = 2 := by omega
    all_goals (obtain rfl | rfl | rfl : r = 0 ∨ r = 1 ∨ r = 2 := by omega)
    all_goals rfl
  | j + 1, hj => by
    have ih := pB_fold ρ h k r hk hr3 j (by omega)
    have cnt := it_count (e := .lit 0) (I := 120) (β := pB_b) rfl (ρ := pB_i.ap ρ) (by rfl) j (by omega)
    have ag := (Bind.agree pB_ig ρ).trans (Bind.it_agree pB_bg (pB_i.ap ρ) j)
    simp only [Bind.it]
    rw [pB_step _ j cnt k r hk hr3, ih]
    simp only [← ag.ci 0 (by decide), fB]
theorem pC_step (ρ : Rho) (j : Nat) (hj : ρ.i 100 = j) (k r : Nat) (hk : k < 3) (hr3 : r < 3) :
    (pC_b.ap ρ).i (101 + (3 * k + r)) = if ρ.ci 0 0 j = k ∧ ρ.ci 0 1 j = r then max (max (max 0 (ρ.i (101 + (3 * k + r)))) (ρ.ci 0 (9 + (3 * k + r)) j)) (ρ.ci 0 2 j) else max (max 0 (ρ.i (101 + (3 * k + r)))) (ρ.ci 0 (9 + (3 * k + r)) j) := by
  have hjn : (ρ.i 100).toNat = j := by omega
  generalize ed : ρ.ci 0 0 j = d
  generalize er : ρ.ci 0 1 j = e
  obtain rfl | rfl | rfl : k = 0 ∨ k = 1 ∨ k = 2 := by omega
  all_goals (obtain rfl | rfl | rfl : r = 0 ∨ r = 1 ∨ r = 2 := by omega)
  · rw [ap_i pC_b101]; simp only [dand_t, dnot_t, dlt_f, dlt_t, deq_t, IE.den, IOp.den, hjn, ed, er]
    by_cases hd : (((0 ≤ d ∧ d < 3) ∧ 0 ≤ e) ∧ e < 3)
    · rw [if_pos hd]
      obtain ⟨⟨hd1, he0⟩, he1⟩ := hd
      obtain rfl | rfl | rfl := one3 hd1
      all_goals (obtain rfl | rfl | rfl := one3 ⟨he0, he1⟩)
      all_goals simp
    · rw [if_neg hd, if_neg (by omega)]
  · rw [ap_i pC_b102]; simp only [dand_t, dnot_t, dlt_f, dlt_t, deq_t, IE.den, IOp.den, hjn, ed, er]
    by_cases hd : (((0 ≤ d ∧ d < 3) ∧ 0 ≤ e) ∧ e < 3)
    · rw [if_pos hd]
      obtain ⟨⟨hd1, he0⟩, he1⟩ := hd
      obtain rfl | rfl | rfl := one3 hd1
      all_goals (obtain rfl | rfl | rfl := one3 ⟨he0, he1⟩)
      all_goals simp
    · rw [if_neg hd, if_neg (by omega)]
  · rw [ap_i pC_b103]; simp only [dand_t, dnot_t, dlt_f, dlt_t, deq_t, IE.den, IOp.den, hjn, ed, er]
    by_cases hd : (((0 ≤ d ∧ d < 3) ∧ 0 ≤ e) ∧ e < 3)
    · rw [if_pos hd]
      obtain ⟨⟨hd1, he0⟩, he1⟩ := hd
      obtain rfl | rfl | rfl := one3 hd1
      all_goals (obtain rfl | rfl | rfl := one3 ⟨he0, he1⟩)
      all_goals simp
    · rw [if_neg hd, if_neg (by omega)]
  · rw [ap_i pC_b104]; simp only [dand_t, dnot_t, dlt_f, dlt_t, deq_t, IE.den, IOp.den, hjn, ed, er]
    by_cases hd : (((0 ≤ d ∧ d < 3) ∧ 0 ≤ e) ∧ e < 3)
    · rw [if_pos hd]
      obtain ⟨⟨hd1, he0⟩, he1⟩ := hd
      obtain rfl | rfl | rfl := one3 hd1
      all_goals (obtain rfl | rfl | rfl := one3 ⟨he0, he1⟩)
      all_goals simp
    · rw [if_neg hd, if_neg (by omega)]
  · rw [ap_i pC_b105]; simp only [dand_t, dnot_t, dlt_f, dlt_t, deq_t, IE.den, IOp.den, hjn, ed, er]
    by_cases hd : (((0 ≤ d ∧ d < 3) ∧ 0 ≤ e) ∧ e < 3)
    · rw [if_pos hd]
      obtain ⟨⟨hd1, he0⟩, he1⟩ := hd
      obtain rfl | rfl | rfl := one3 hd1
      all_goals (obtain rfl | rfl | rfl := one3 ⟨he0, he1⟩)
      all_goals simp
    · rw [if_neg hd, if_neg (by omega)]
  · rw [ap_i pC_b106]; simp only [dand_t, dnot_t, dlt_f, dlt_t, deq_t, IE.den, IOp.den, hjn, ed, er]
    by_cases hd : (((0 ≤ d ∧ d < 3) ∧ 0 ≤ e) ∧ e < 3)
    · rw [if_pos hd]
      obtain ⟨⟨hd1, he0⟩, he1⟩ := hd
      obtain rfl | rfl | rfl := one3 hd1
      all_goals (obtain rfl | rfl | rfl := one3 ⟨he0, he1⟩)
      all_goals simp
    · rw [if_neg hd, if_neg (by omega)]
  · rw [ap_i pC_b107]; simp only [dand_t, dnot_t, dlt_f, dlt_t, deq_t, IE.den, IOp.den, hjn, ed, er]
    by_cases hd : (((0 ≤ d ∧ d < 3) ∧ 0 ≤ e) ∧ e < 3)
    · rw [if_pos hd]
      obtain ⟨⟨hd1, he0⟩, he1⟩ := hd
      obtain rfl | rfl | rfl := one3 hd1
      all_goals (obtain rfl | rfl | rfl := one3 ⟨he0, he1⟩)
      all_goals simp
    · rw [if_neg hd, if_neg (by omega)]
  · rw [ap_i pC_b108]; simp only [dand_t, dnot_t, dlt_f, dlt_t, deq_t, IE.den, IOp.den, hjn, ed, er]
    by_cases hd : (((0 ≤ d ∧ d < 3) ∧ 0 ≤ e) ∧ e < 3)
    · rw [if_pos hd]
      obtain ⟨⟨hd1, he0⟩, he1⟩ := hd
      obtain rfl | rfl | rfl := one3 hd1
      all_goals (obtain rfl | rfl | rfl := one3 ⟨he0, he1⟩)
      all_goals simp
    · rw [if_neg hd, if_neg (by omega)]
  · rw [ap_i pC_b109]; simp only [dand_t, dnot_t, dlt_f, dlt_t, deq_t, IE.den, IOp.den, hjn, ed, er]
    by_cases hd : (((0 ≤ d ∧ d < 3) ∧ 0 ≤ e) ∧ e < 3)
    · rw [if_pos hd]
      obtain ⟨⟨hd1, he0⟩, he1⟩ := hd
      obtain rfl | rfl | rfl := one3 hd1
      all_goals (obtain rfl | rfl | rfl := one3 ⟨he0, he1⟩)
      all_goals simp
    · rw [if_neg hd, if_neg (by omega)]
theorem pC_fold (ρ : Rho) (h : ρ.len 0 < 4611686018427387904) (k r : Nat) (hk : k < 3) (hr3 : r < 3) :
    ∀ j : Nat, j ≤ ρ.len 0 → (pC_b.it (pC_i.ap ρ) j).i (101 + (3 * k + r)) = fC (ρ.ci 0 0) (ρ.ci 0 1) (ρ.ci 0 2) (ρ.ci 0 (9 + (3 * k + r))) k r j
  | 0, _ => by
    obtain rfl | rfl | rfl : k = 0 ∨ k = 1 ∨ k = 2 := by omega
    all_goals (obtain rfl | rfl | rfl : r = 0 ∨ r = 1 ∨ r = 2 := by omega)
    all_goals rfl
  | j + 1, hj => by
    have ih := pC_fold ρ h k r hk hr3 j (by omega)
    have cnt := it_count (e := .lit 0) (I := 100) (β := pC_b) rfl (ρ := pC_i.ap ρ) (by rfl) j (by omega)
    have ag := (Bind.agree pC_ig ρ).trans (Bind.it_agree pC_bg (pC_i.ap ρ) j)
    simp only [Bind.it]
    rw [pC_step _ j cnt k r hk hr3, ih]
    simp only [← ag.ci 0 (by decide), fC]
/-- Both pasts: nine numbers. -/
theorem past2_cy (ρ : Rho) (h : ρ.len 0 < 4611686018427387904) : ∃ p : Nat → Int, ∀ f ∈ [50, 97], Kc f (X.denL ρ [esR]) (.agg [.sc (.int .i64 (p 0)), .sc (.int .i64 (p 1)), .sc (.int .i64 (p 2)), .sc (.int .i64 (p 3)), .sc (.int .i64 (p 4)), .sc (.int .i64 (p 5)), .sc (.int .i64 (p 6)), .sc (.int .i64 (p 7)), .sc (.int .i64 (p 8))]) := by
  have hf1 := fun m hm => pA_fold ρ h m hm (ρ.len 0) (Nat.le_refl _)
  generalize e1 : pA_b.it (pA_i.ap ρ) (ρ.len 0) = ρ1 at hf1
  have l1 := pA_ok ρ h
  have ag : Agree 100 ρ ρ1 := by rw [← e1]; exact (Bind.agree pA_ig ρ).trans (Bind.it_agree pA_bg (pA_i.ap ρ) _)
  have c1 : ρ1.i 100 = ρ.len 0 := by rw [← e1]; exact it_count (e := .lit 0) rfl (by rfl) _ h
  have hl1 : ρ1.len 0 = ρ.len 0 := (ag.len 0 (by decide)).symm
  rw [e1] at l1
  have l2 := pB_ok ρ1 (by rw [hl1]; exact h)
  have hf2 := fun k r hk hr3 => pB_fold ρ1 (by rw [hl1]; exact h) k r hk hr3 (ρ1.len 0) (Nat.le_refl _)
  generalize e2 : pB_b.it (pB_i.ap ρ1) (ρ1.len 0) = ρ2 at hf2
  have ag2 : Agree 120 ρ1 ρ2 := by rw [← e2]; exact (Bind.agree pB_ig ρ1).trans (Bind.it_agree pB_bg (pB_i.ap ρ1) _)
  have c2 : ρ2.i 120 = ρ1.len 0 := by rw [← e2]; exact it_count (e := .lit 0) rfl (by rfl) _ (by rw [hl1]; exact h)
  rw [e2] at l2
  have l1' : LoopOk Try.prog ρ2 Try.f50.ntmps pA_c pA := LoopOk.agree (B := 110) (by kernel_rfl) (by kernel_rfl) pA_bel (ag2.le (by decide)) l1
  have n1 : (BE.and (.not (.lt (.var 100) (.len 0))) (.not (.lt (.var 120) (.len 0)))).den ρ2 = true := by
    rw [dand_t, dnot_t, dlt_f, dnot_t, dlt_f]
    simp only [IE.den, c2, ← ag2.len 0 (by decide), ← ag2.i 100 (by decide), c1, hl1]
    omega
  have g := fun r (hr : pastR.sel ρ2 = some r) => askF_ok (c := ⟨cfgL [] lyP, l_able, []⟩) (cfgL_ok (List.forall_mem_nil _) (lyP_ok l1' l2)) l_able_ok (Facts.ok_nil ρ2) (by rw [pastR_run]; exact hr)
  have g := g _ (by unfold pastR; rw [T.sel, if_pos n1]; rfl)
  rw [← X.belL_den ((ag.trans (ag2.le (by decide))) : Agree 100 ρ ρ2) [esR] (by kernel_rfl)] at g
  have hf3 := fun k r hk hr3 => pC_fold ρ h k r hk hr3 (ρ.len 0) (Nat.le_refl _)
  generalize e3 : pC_b.it (pC_i.ap ρ) (ρ.len 0) = ρ3 at hf3
  have l3 := pC_ok ρ h
  have a3 : Agree 100 ρ ρ3 := by rw [← e3]; exact (Bind.agree pC_ig ρ).trans (Bind.it_agree pC_bg (pC_i.ap ρ) _)
  have c3 : ρ3.i 100 = ρ.len 0 := by rw [← e3]; exact it_count (e := .lit 0) rfl (by rfl) _ h
  rw [e3] at l3
  have n3 : (BE.not (.lt (.var 100) (.len 0))).den ρ3 = true := by
    rw [dnot_t, dlt_f]; simp only [IE.den, c3, ← a3.len 0 (by decide)]; omega
  have g3 := fun r (hr : pastE.sel ρ3 = some r) => askF_ok (c := ⟨cfgL [] lyQ, l_able, HFL⟩) (f := 97) (args := [esR]) (cfgL_ok (List.forall_mem_nil _) (lyQ_ok l3)) l_able_ok (Facts.ok_nil ρ3) ((congrArg (T.sel ρ3) pastE_run).trans hr)
  have g3 := g3 _ (by unfold pastE; rw [T.sel, if_pos n3]; rfl)
  rw [← X.belL_den a3 [esR] (by kernel_rfl)] at g3
  have eq : ∀ k r : Nat, k < 3 → r < 3 → ρ2.i (121 + (3 * k + r)) = ρ3.i (101 + (3 * k + r)) := fun k r hk hr3 => by
    rw [hf2 k r hk hr3, hf3 k r hk hr3, hf1 _ (by omega), hl1, fC_eq, ← ag.ci 0 (by decide)]
  refine ⟨fun k => ρ2.i (121 + k), List.forall_mem_cons.2 ⟨g, List.forall_mem_cons.2 ⟨?_, List.forall_mem_nil _⟩⟩⟩
  simp only [eq 0 0 (by decide) (by decide), eq 0 1 (by decide) (by decide), eq 0 2 (by decide) (by decide), eq 1 0 (by decide) (by decide), eq 1 1 (by decide) (by decide), eq 1 2 (by decide) (by decide), eq 2 0 (by decide) (by decide), eq 2 1 (by decide) (by decide), eq 2 2 (by decide) (by decide)]
  exact g3
end Go.Proofs.Ytonefailiekemaa
