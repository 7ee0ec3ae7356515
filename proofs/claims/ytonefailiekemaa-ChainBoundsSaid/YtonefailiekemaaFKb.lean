/- ChainFresh, ChainBounds: next stamps, tests of writes, parts, what columns cover: the program's and the document's alike. -/
import Derived.Test.YtonefailiekemaaFKa
namespace Go.Proofs.Ytonefailiekemaa
open Go Go.Proofs.Aw Go.Proofs.Xw
set_option maxRecDepth 100000
theorem nY_fold (ρ : Rho) (h : ρ.len 0 < 4611686018427387904) : ∀ j : Nat, j ≤ ρ.len 0 → (nY_b.it (nY_i.ap ρ) j).i 101 = mx (ρ.ci 0 0) j
  | 0, _ => rfl
  | j + 1, hj => by
    have ih := nY_fold ρ h j (by omega)
    have cnt := it_count (e := .lit 0) (I := 100) (β := nY_b) rfl (ρ := nY_i.ap ρ) (by rfl) j (by omega)
    have ag := (Bind.agree nY_ig ρ).trans (Bind.it_agree nY_bg (nY_i.ap ρ) j)
    simp only [Bind.it]
    rw [ap_i nY_b101]
    simp only [IE.den, IOp.den, cnt, ih, Int.toNat_natCast, ← ag.ci 0 (by decide), mx]
theorem nZ_fold (ρ : Rho) (h : ρ.len 0 < 4611686018427387904) : ∀ j : Nat, j ≤ ρ.len 0 → (nZ_b.it (nZ_i.ap ρ) j).i 101 = mx (ρ.ci 0 0) j
  | 0, _ => rfl
  | j + 1, hj => by
    have ih := nZ_fold ρ h j (by omega)
    have cnt := it_count (e := .lit 0) (I := 100) (β := nZ_b) rfl (ρ := nZ_i.ap ρ) (by rfl) j (by omega)
    have ag := (Bind.agree nZ_ig ρ).trans (Bind.it_agree nZ_bg (nZ_i.ap ρ) j)
    simp only [Bind.it]
    rw [ap_i nZ_b101]
    simp only [IE.den, IOp.den, cnt, ih, Int.toNat_natCast, ← ag.ci 0 (by decide), mx]
/-- There is a next stamp. -/
def Nxt (m dc rng : Int) : Prop := m < 1099511627776 ∧ (0 ≤ dc ∧ dc < 3) ∧ (0 ≤ rng ∧ rng < 3)
def tupY (a dc rng : Int) : AV := .tup [.agg [.sc (.int .i64 a), .sc (.int .i64 dc), .sc (.int .i64 rng)], .sc (.bool true)]
def tupZ : AV := .tup [.agg [.sc (.int .i64 0), .sc (.int .i64 0), .sc (.int .i64 0)], .sc (.bool false)]
theorem next46 (ρ : Rho) (h : ρ.len 0 < 4611686018427387904) : (Nxt (mx (ρ.ci 0 0) (ρ.len 0)) (ρ.i 0) (ρ.i 1) → Kc 46 (X.denL ρ [iV 0, iV 1, isR]) (tupY (mx (ρ.ci 0 0) (ρ.len 0) + 1) (ρ.i 0) (ρ.i 1))) ∧
    (¬ Nxt (mx (ρ.ci 0 0) (ρ.len 0)) (ρ.i 0) (ρ.i 1) → Kc 46 (X.denL ρ [iV 0, iV 1, isR]) tupZ) := by
  have hf := nY_fold ρ h (ρ.len 0) (Nat.le_refl _)
  have hm := mx_nn (ρ.ci 0 0) (ρ.len 0)
  generalize mx (ρ.ci 0 0) (ρ.len 0) = m at hf hm
  generalize e1 : nY_b.it (nY_i.ap ρ) (ρ.len 0) = ρ1 at hf
  have l1 := nY_ok ρ h
  have ag : Agree 100 ρ ρ1 := by rw [← e1]; exact (Bind.agree nY_ig ρ).trans (Bind.it_agree nY_bg (nY_i.ap ρ) _)
  have c1 : ρ1.i 100 = ρ.len 0 := by rw [← e1]; exact it_count (e := .lit 0) rfl (by rfl) _ h
  rw [e1] at l1
  have n1 : (BE.not (.lt (.var 100) (.len 0))).den ρ1 = true := by
    rw [dnot_t, dlt_f]
    simp only [IE.den, c1, ← ag.len 0 (by decide)]
    omega
  have g := fun r (hr : nextD.sel ρ1 = some r) => askF_ok (c := ⟨cfgL [] lyY, l_able, []⟩) (f := 46) (args := [iV 0, iV 1, isR]) (cfgL_ok (List.forall_mem_nil _) (lyY_ok l1)) l_able_ok (Facts.ok_nil ρ1) ((congrArg (T.sel ρ1) nextD_run).trans hr)
  have g := g _ (by rw [nextD_eq, T.sel, if_pos n1]; rfl)
  rw [← X.belL_den ag [iV 0, iV 1, isR] (by kernel_rfl)] at g
  have hs : sN.den ρ1 = min (ρ1.i 101) 1099511627776 + 1 := by
    unfold sN
    simp only [IE.den, IOp.den]
    exact wrap_id _ (by omega) (by omega)
  have hok : okN.den ρ1 = true ↔ Nxt m (ρ.i 0) (ρ.i 1) := by
    unfold okN Nxt
    rw [dand_t, dand_t, dand_t, dand_t, dand_t, dnot_t, dlt_f, dnot_t, dlt_f, dnot_t, dlt_f, dlt_t, dnot_t, dlt_f, dlt_t]
    show ((((((1 : Int) ≤ sN.den ρ1 ∧ sN.den ρ1 ≤ 1099511627776) ∧ 0 ≤ ρ1.i 0) ∧ ρ1.i 0 < 3) ∧ 0 ≤ ρ1.i 1) ∧ ρ1.i 1 < 3) ↔ _
    rw [hs, hf, ← ag.i 0 (by decide), ← ag.i 1 (by decide)]
    omega
  simp only [X.den, X.denL, Sc.den, IE.den, dnot_t] at g
  refine ⟨fun hy => ?_, fun hn => ?_⟩
  · have ht := hok.2 hy
    simp only [ht, Bool.true_eq_false, if_false] at g
    have e : sN.den ρ1 = m + 1 := by rw [hs, hf]; have := hy.1; omega
    rw [e, ← ag.i 0 (by decide), ← ag.i 1 (by decide)] at g
    exact g
  · have ht : okN.den ρ1 = false := by
      cases hb : okN.den ρ1 with
      | false => rfl
      | true => exact absurd (hok.1 hb) hn
    simp only [ht, if_true] at g
    exact g
theorem next95 (ρ : Rho) (h : ρ.len 0 < 4611686018427387904) : (Nxt (mx (ρ.ci 0 0) (ρ.len 0)) (ρ.i 0) (ρ.i 1) → Kc 95 (X.denL ρ [iV 0, iV 1, isR]) (tupY (mx (ρ.ci 0 0) (ρ.len 0) + 1) (ρ.i 0) (ρ.i 1))) ∧
    (¬ Nxt (mx (ρ.ci 0 0) (ρ.len 0)) (ρ.i 0) (ρ.i 1) → Kc 95 (X.denL ρ [iV 0, iV 1, isR]) tupZ) := by
  have hf := nZ_fold ρ h (ρ.len 0) (Nat.le_refl _)
  have hm := mx_nn (ρ.ci 0 0) (ρ.len 0)
  generalize mx (ρ.ci 0 0) (ρ.len 0) = m at hf hm
  generalize e1 : nZ_b.it (nZ_i.ap ρ) (ρ.len 0) = ρ1 at hf
  have l1 := nZ_ok ρ h
  have ag : Agree 100 ρ ρ1 := by rw [← e1]; exact (Bind.agree nZ_ig ρ).trans (Bind.it_agree nZ_bg (nZ_i.ap ρ) _)
  have c1 : ρ1.i 100 = ρ.len 0 := by rw [← e1]; exact it_count (e := .lit 0) rfl (by rfl) _ h
  rw [e1] at l1
  have n1 : (BE.not (.lt (.var 100) (.len 0))).den ρ1 = true := by
    rw [dnot_t, dlt_f]
    simp only [IE.den, c1, ← ag.len 0 (by decide)]
    omega
  have g := fun r (hr : nextE.sel ρ1 = some r) => askF_ok (c := ⟨cfgL [] lyZ, l_able, HFL⟩) (f := 95) (args := [iV 0, iV 1, isR]) (cfgL_ok (List.forall_mem_nil _) (lyZ_ok l1)) l_able_ok (Facts.ok_nil ρ1) ((congrArg (T.sel ρ1) nextE_run).trans hr)
  have g := g _ (by rw [nextE_eq, T.sel, if_pos n1]; rfl)
  rw [← X.belL_den ag [iV 0, iV 1, isR] (by kernel_rfl)] at g
  have a0 := ag.i 0 (by decide)
  have a1 := ag.i 1 (by decide)
  have k1 : cM1.den ρ1 = true ↔ ¬ m < 1099511627776 := by
    unfold cM1
    rw [dnot_t, dlt_f]
    simp only [IE.den, hf]
    omega
  have hs : m < 1099511627776 → sM.den ρ1 = m + 1 := fun h => by
    unfold sM
    simp only [IE.den, IOp.den, hf]
    exact wrap_id _ (by omega) (by omega)
  have k2 : m < 1099511627776 → (cM2.den ρ1 = true ↔ ¬ ((0 ≤ ρ.i 0 ∧ ρ.i 0 < 3) ∧ (0 ≤ ρ.i 1 ∧ ρ.i 1 < 3))) := fun h => by
    unfold cM2
    rw [dnot_t, ← Bool.not_eq_true, dand_t, dand_t, dand_t, dand_t, dand_t, dnot_t, dlt_f, dnot_t, dlt_f, dnot_t, dlt_f, dlt_t, dnot_t, dlt_f, dlt_t]
    show ¬ ((((((1 : Int) ≤ sM.den ρ1 ∧ sM.den ρ1 ≤ 1099511627776) ∧ 0 ≤ ρ1.i 0) ∧ ρ1.i 0 < 3) ∧ 0 ≤ ρ1.i 1) ∧ ρ1.i 1 < 3) ↔ _
    rw [hs h, ← a0, ← a1]
    omega
  have hok : okM.den ρ1 = true ↔ Nxt m (ρ.i 0) (ρ.i 1) := by
    have e : okM = .and (.lt (.var 101) (.lit 1099511627776)) (match cM2 with | .not x => x | x => x) := by kernel_rfl
    by_cases hm2 : m < 1099511627776
    · have := k2 hm2
      unfold cM2 at this
      rw [dnot_t, ← Bool.not_eq_true] at this
      rw [e, dand_t]
      unfold Nxt
      constructor
      · intro h
        refine ⟨hm2, ?_⟩
        exact Classical.not_not.1 (fun hc => (this.2 hc) h.2)
      · intro h
        refine ⟨by rw [dlt_t]; simp only [IE.den, hf]; exact hm2, ?_⟩
        exact Classical.not_not.1 (fun hc => (this.1 hc) h.2)
    · rw [e, dand_t, dlt_t]
      simp only [IE.den, hf, Nxt]
      constructor
      · intro h; exact absurd h.1 hm2
      · intro h; exact absurd h.1 hm2
  simp only [X.den, X.denL, Sc.den, IE.den] at g
  refine ⟨fun hy => ?_, fun hn => ?_⟩
  · have h1 : ¬ cM1.den ρ1 = true := fun h => (k1.1 h) hy.1
    have h2 : ¬ cM2.den ρ1 = true := fun h => ((k2 hy.1).1 h) hy.2
    simp only [h1, h2, if_false, hok.2 hy, hs hy.1, ← a0, ← a1] at g
    exact g
  · have ht : okM.den ρ1 = false := by
      cases hb : okM.den ρ1 with
      | false => rfl
      | true => exact absurd (hok.1 hb) hn
    by_cases h1 : cM1.den ρ1 = true
    · simp only [h1, if_true, ht] at g
      exact g
    · have hm2 : m < 1099511627776 := Classical.not_not.1 (fun h => h1 (k1.2 h))
      have h2 : cM2.den ρ1 = true := (k2 hm2).2 (fun h => hn ⟨hm2, h⟩)
      simp only [h1, h2, if_true, ht, if_false] at g
      exact g

/-! ### Tests of a write -/
theorem reE_dot {ρ : Rho} (h : reE.den ρ = true) : (0 ≤ ρ.i 0 ∧ ρ.i 0 < 3) ∧ (0 ≤ ρ.i 1 ∧ ρ.i 1 < 3) ∧ ρ.i 2 ≤ 1099511627776 := by
  unfold reE at h
  rw [dand_t, dnot_t, dor_f, dor_f, dor_f, dnot_f, dand_t, dand_t, dand_t, dnot_t, dlt_f, dlt_t, dnot_t, dlt_f, dlt_t] at h
  obtain ⟨⟨⟨⟨⟨⟨⟨q1, q2⟩, q3⟩, q4⟩, _⟩, q5⟩, _⟩, _⟩ := h
  rw [dlt_f] at q5
  exact ⟨⟨q1, q2⟩, ⟨q3, q4⟩, q5⟩
theorem reE_eq (ρ : Rho) : reE.den ρ = reF.den ρ := by
  rw [Bool.eq_iff_iff]
  unfold reE reF
  simp only [dand_t, dor_t, dnot_t, dor_f, dand_f, dnot_f, dlt_t, dlt_f, deq_t, deq_f, and_assoc, or_assoc]
theorem re2_cy (ρ : Rho) : Kc 18 (X.denL ρ [eP]) (.sc (.bool (reE.den ρ))) ∧ Kc 98 (X.denL ρ [eP]) (.sc (.bool (reE.den ρ))) := by
  have g1 := fun r (hr : reP.sel ρ = some r) => askF_ok (c := ⟨cfg [], l_able, HFL⟩) (f := 18) (args := [eP]) (cfg_ok (List.forall_mem_nil _)) l_able_ok (Facts.ok_nil ρ) ((congrArg (T.sel ρ) reP_run).trans hr)
  have g2 := fun r (hr : reQ.sel ρ = some r) => askF_ok (c := ⟨cfg [], l_able, HFL⟩) (f := 98) (args := [eP]) (cfg_ok (List.forall_mem_nil _)) l_able_ok (Facts.ok_nil ρ) ((congrArg (T.sel ρ) reQ_run).trans hr)
  have g2 := g2 _ (by rw [reQ_eq]; rfl)
  have g1 := g1 _ (by rw [reP_eq]; rfl)
  refine ⟨g1, ?_⟩
  rw [reE_eq]
  exact g2

/-! ### Parts, and what a column covers -/
def lX : X → List X
  | .agg l => l
  | _ => []
def sE1 : X → IE
  | .sc (.i _ e) => e
  | _ => .lit 0
def tX : T X → X
  | .ret x => x
  | _ => .top
theorem pt2_cy (ρ : Rho) : ∃ a b c : Int, ∀ f ∈ [20, 94], Kc f (X.denL ρ [vX, iV 9]) (.agg [.sc (.int .i64 a), .sc (.int .i64 b), .sc (.int .i64 c)]) := by
  have g1 := fun r (hr : ptP.sel ρ = some r) => askF_ok (c := ⟨cfg [], l_able, HFL⟩) (f := 20) (args := [vX, iV 9]) (cfg_ok (List.forall_mem_nil _)) l_able_ok (Facts.ok_nil ρ) ((congrArg (T.sel ρ) ptP_run).trans hr)
  have g2 := fun r (hr : ptD.sel ρ = some r) => askF_ok (c := ⟨cfg [], l_able, HFL⟩) (f := 94) (args := [vX, iV 9]) (cfg_ok (List.forall_mem_nil _)) l_able_ok (Facts.ok_nil ρ) ((congrArg (T.sel ρ) ptD_run).trans hr)
  have g1 := g1 _ (by unfold ptP; rfl)
  have g2 := g2 _ (by unfold ptD; rfl)
  exact ⟨_, _, _, List.forall_mem_cons.2 ⟨g1, List.forall_mem_cons.2 ⟨g2, List.forall_mem_nil _⟩⟩⟩
theorem cv2_cy (ρ : Rho) : ∃ b : Bool, ∀ f ∈ [19, 93], Kc f (X.denL ρ [aX, bX3]) (.sc (.bool b)) := by
  have g1 := fun r (hr : cvP.sel ρ = some r) => askF_ok (c := ⟨cfg [], l_able, HFL⟩) (f := 19) (args := [aX, bX3]) (cfg_ok (List.forall_mem_nil _)) l_able_ok (Facts.ok_nil ρ) ((congrArg (T.sel ρ) cvP_run).trans hr)
  have g2 := fun r (hr : cvD.sel ρ = some r) => askF_ok (c := ⟨cfg [], l_able, HFL⟩) (f := 93) (args := [aX, bX3]) (cfg_ok (List.forall_mem_nil _)) l_able_ok (Facts.ok_nil ρ) ((congrArg (T.sel ρ) cvD_run).trans hr)
  have g1 := g1 _ (by unfold cvP; rfl)
  have g2 := g2 _ (by unfold cvD; rfl)
  have e : (BE.not (.or (.lt (.var 0) (.var 3)) (.or (.lt (.var 1) (.var 4)) (.lt (.var 2) (.var 5))))).den ρ = (BE.and (.and (.not (.lt (.var 0) (.var 3))) (.not (.lt (.var 1) (.var 4)))) (.not (.lt (.var 2) (.var 5)))).den ρ := by
    rw [Bool.eq_iff_iff]
    simp only [dand_t, dnot_t, dor_f, and_assoc]
  refine ⟨_, List.forall_mem_cons.2 ⟨g1, List.forall_mem_cons.2 ⟨?_, List.forall_mem_nil _⟩⟩⟩
  simp only [X.den, Sc.den] at g2 ⊢
  rw [e]
  exact g2
end Go.Proofs.Ytonefailiekemaa
