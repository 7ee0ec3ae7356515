/- ChainFresh, ChainBounds: two rows of like writes are alike. -/
import Derived.Test.YtonefailiekemaaFE2
import Derived.Test.YtonefailiekemaaXP
namespace Go.Proofs.Ytonefailiekemaa
open Go Go.Proofs.Aw Go.Proofs.Xw
set_option maxRecDepth 100000
theorem cells_eq {ρ : Rho} {a b j : Nat} (h : cellsV ρ a 0 ke j = cellsV ρ b 0 ke j) : (∀ c, c < 20 → c ≠ 6 → c ≠ 7 → c ≠ 8 → ρ.ci a c j = ρ.ci b c j) ∧ ρ.cs a 6 j = ρ.cs b 6 j ∧ ρ.cs a 7 j = ρ.cs b 7 j ∧ ρ.cb a 8 j = ρ.cb b 8 j := by
  simp only [ke, List.replicate, List.cons_append, List.nil_append, cellsV, List.cons.injEq, AV.sc.injEq, Value.int.injEq, Value.string.injEq, Value.bool.injEq, true_and, and_true] at h
  obtain ⟨h0, h1, h2, h3, h4, h5, h6, h7, h8, h9, h10, h11, h12, h13, h14, h15, h16, h17, h18, h19⟩ := h
  refine ⟨fun c hc n6 n7 n8 => ?_, h6, h7, h8⟩
  match c, hc, n6, n7, n8 with
  | 0, _, _, _, _ => exact h0
  | 1, _, _, _, _ => exact h1
  | 2, _, _, _, _ => exact h2
  | 3, _, _, _, _ => exact h3
  | 4, _, _, _, _ => exact h4
  | 5, _, _, _, _ => exact h5
  | 6, _, h, _, _ => exact absurd rfl h
  | 7, _, _, h, _ => exact absurd rfl h
  | 8, _, _, _, h => exact absurd rfl h
  | 9, _, _, _, _ => exact h9
  | 10, _, _, _, _ => exact h10
  | 11, _, _, _, _ => exact h11
  | 12, _, _, _, _ => exact h12
  | 13, _, _, _, _ => exact h13
  | 14, _, _, _, _ => exact h14
  | 15, _, _, _, _ => exact h15
  | 16, _, _, _, _ => exact h16
  | 17, _, _, _, _ => exact h17
  | 18, _, _, _, _ => exact h18
  | 19, _, _, _, _ => exact h19
  | c + 20, hc, _, _, _ => exact absurd hc (by omega)
/-- The condition that a write is not the other's. -/
def neB : BE := match eX_t with
  | .br _ (.need _ (.br c _ _)) _ => c
  | _ => .lit true
theorem neB_f {ρ : Rho} {j : Nat} (hj : ρ.i 100 = j) (h : cellsV ρ 0 0 ke j = cellsV ρ 1 0 ke j) : neB.den ρ = false := by
  obtain ⟨hi, h6, h7, h8⟩ := cells_eq h
  have e : ∀ c, c < 20 → c ≠ 6 → c ≠ 7 → c ≠ 8 → (BE.eq (.cl 0 c (.var 100)) (.cl 1 c (.var 100))).den ρ = true := fun c h1 h2 h3 h4 => by
    rw [deq_t]; simp only [IE.den, hj, Int.toNat_natCast]; exact hi c h1 h2 h3 h4
  have s6 : (BE.seq (.cl 0 6 (.var 100)) (.cl 1 6 (.var 100))).den ρ = true := by
    simp only [BE.den, TE.den, IE.den, hj, Int.toNat_natCast, h6, beq_self_eq_true]
  have s7 : (BE.seq (.cl 0 7 (.var 100)) (.cl 1 7 (.var 100))).den ρ = true := by
    simp only [BE.den, TE.den, IE.den, hj, Int.toNat_natCast, h7, beq_self_eq_true]
  have b8 : (BE.ite (.cl 0 8 (.var 100)) (.cl 1 8 (.var 100)) (.not (.cl 1 8 (.var 100)))).den ρ = true := by
    simp only [BE.den, IE.den, hj, Int.toNat_natCast, h8]
    cases ρ.cb 1 8 j <;> rfl
  have dand : ∀ a b : BE, a.den ρ = true → b.den ρ = true → (BE.and a b).den ρ = true := fun a b h1 h2 => (dand_t ρ a b).mpr ⟨h1, h2⟩
  have key : ∀ a : BE, a.den ρ = true → (BE.not a).den ρ = false := fun a h => by rw [dnot_f]; exact h
  refine key _ ?_
  refine dand _ _ (e 0 (by decide) (by decide) (by decide) (by decide)) (dand _ _ (e 1 (by decide) (by decide) (by decide) (by decide)) (dand _ _ (e 2 (by decide) (by decide) (by decide) (by decide)) (dand _ _ (e 3 (by decide) (by decide) (by decide) (by decide)) (dand _ _ (e 4 (by decide) (by decide) (by decide) (by decide)) (dand _ _ (e 5 (by decide) (by decide) (by decide) (by decide)) (dand _ _ s6 (dand _ _ s7 (dand _ _ b8 (dand _ _ (e 9 (by decide) (by decide) (by decide) (by decide)) (dand _ _ (e 10 (by decide) (by decide) (by decide) (by decide)) (dand _ _ (e 11 (by decide) (by decide) (by decide) (by decide)) (dand _ _ (e 12 (by decide) (by decide) (by decide) (by decide)) (dand _ _ (e 13 (by decide) (by decide) (by decide) (by decide)) (dand _ _ (e 14 (by decide) (by decide) (by decide) (by decide)) (dand _ _ (e 15 (by decide) (by decide) (by decide) (by decide)) (dand _ _ (e 16 (by decide) (by decide) (by decide) (by decide)) (dand _ _ (e 17 (by decide) (by decide) (by decide) (by decide)) (dand _ _ (e 18 (by decide) (by decide) (by decide) (by decide)) (e 19 (by decide) (by decide) (by decide) (by decide))))))))))))))))))))
theorem eX_tree : eX_t = .br (.lt (.var 100) (.len 0)) (.need (.lt (.var 100) (.var 0)) (.br neB (match eX_t with | .br _ (.need _ (.br _ a _)) _ => a | t => t) (match eX_t with | .br _ (.need _ (.br _ _ b)) _ => b | t => t))) (match eX_t with | .br _ _ b => b | t => t) := rfl
theorem eX_n : ∃ s, (match eX_t with | .br _ (.need _ (.br _ _ b)) _ => b | t => t) = .ret (.normal, s) := ⟨_, rfl⟩
theorem eX_e : ∃ s, (match eX_t with | .br _ _ b => b | t => t) = .ret (.exit 0, s) := ⟨_, rfl⟩
theorem cells_ag {n : Nat} {ρ ρ' : Rho} (ag : Agree n ρ ρ') (h1 : 1 < n) {m : Nat} (h : ∀ j, j < m → cellsV ρ 0 0 ke j = cellsV ρ 1 0 ke j) (j : Nat) (hj : j < m) : cellsV ρ' 0 0 ke j = cellsV ρ' 1 0 ke j := by
  rw [← cellsV_agree ag (by omega), ← cellsV_agree ag h1]; exact h j hj
theorem entR_tree : ∃ r, entR = .need (BE.and (.not (.lt (.var 0) (.lit 0))) (.or (.not (.lt (.var 100) (.len 0))) r)) (.ret (.sc (.b (.not (.lt (.var 100) (.len 0)))))) := ⟨_, rfl⟩
theorem entries_cy (ρ : Rho) (hl : ρ.len 0 < 1000) (h0 : ρ.i 0 = ρ.len 0) (h : ∀ j, j < ρ.len 0 → cellsV ρ 0 0 ke j = cellsV ρ 1 0 ke j) : hasBody Try.prog 30 = true ∧ ∀ n hp, CY Try.prog n 30 (X.denL ρ enA) hp (.sc (.bool true)) [] := by
  have cnt := fun j => it_count (e := .lit 0) (I := 100) (β := eX_b) rfl (ρ := eX_i.ap ρ) (by rfl) j
  have ag := fun j => (Bind.agree eX_ig ρ).trans (Bind.it_agree eX_bg (eX_i.ap ρ) j)
  have fk : Facts.ok ρ enF := Facts.ok_cons (by rw [deq_t]; exact h0) (Facts.ok_nil _)
  have l1 : LoopOk Try.prog (eX_b.it (eX_i.ap ρ) (ρ.len 0)) Try.f30.ntmps eX_c eX := by
    refine loopOk_cntG mixed tis_ok eX_run eX_fits eX_back rfl 101 eX_bel eX_ib eX_bg eX_same (I := 100) rfl rfl (Φ0 := enF) rfl (by kernel_rfl) fk eX_ig (callC _) (fun _ => LpsOk.nil _ _ _ _) (ρ.len 0) (by omega) (fun j hj hc ha => ?_) (fun hc ha => ?_)
    · obtain ⟨s, hs⟩ := eX_n
      refine ⟨s, ?_⟩
      have hl0 : (eX_b.it (eX.init.ap ρ) j).len 0 = ρ.len 0 := (ha.len 0 (by decide)).symm
      have hi0 : (eX_b.it (eX.init.ap ρ) j).i 0 = ρ.i 0 := (ha.i 0 (by decide)).symm
      rw [eX_tree, T.sel, if_pos (by rw [dlt_t]; simp only [IE.den, hc, hl0]; omega), T.sel, if_pos (by rw [dlt_t]; simp only [IE.den, hc, hi0]; omega), T.sel, if_neg (by rw [neB_f hc (cells_ag ha (by decide) h j hj)]; decide), hs]
      rfl
    · obtain ⟨s, hs⟩ := eX_e
      refine ⟨.exit 0, s, (fun h => nomatch h), ?_⟩
      have hl0 : (eX_b.it (eX.init.ap ρ) (ρ.len 0)).len 0 = ρ.len 0 := (ha.len 0 (by decide)).symm
      rw [eX_tree, T.sel, if_neg (by rw [dlt_t]; simp only [IE.den, hc, hl0]; omega), hs]
      rfl
  have ag := ag (ρ.len 0)
  have cnt := cnt (ρ.len 0) (by omega)
  generalize eX_b.it (eX_i.ap ρ) (ρ.len 0) = ρ1 at l1 ag cnt
  have hl1 : ρ1.len 0 = ρ.len 0 := (ag.len 0 (by decide)).symm
  have hi1 : ρ1.i 0 = ρ.i 0 := (ag.i 0 (by decide)).symm
  have fk1 : Facts.ok ρ1 enF := Facts.ok_cons (by rw [deq_t]; simp only [IE.den]; omega) (Facts.ok_nil _)
  obtain ⟨r, hr⟩ := entR_tree
  have n1 : (BE.and (.not (.lt (.var 0) (.lit 0))) (.or (.not (.lt (.var 100) (.len 0))) r)).den ρ1 = true := by
    rw [dand_t, dnot_t, dlt_f, dor_t, dnot_t, dlt_f]
    simp only [IE.den]
    exact ⟨by omega, .inl (by omega)⟩
  have g := fun r (hr : entR.sel ρ1 = some r) => askF_ok (c := ⟨cfgL [] lyEn, l_able, HFL⟩) (cfgL_ok (List.forall_mem_nil _) (lyEn_ok l1)) l_able_ok fk1 (by rw [entR_run]; exact hr)
  have g := g (.sc (.b (.not (.lt (.var 100) (.len 0))))) (by rw [hr, T.sel, if_pos n1]; rfl)
  have ha : X.den ρ1 (.sc (.b (.not (.lt (.var 100) (.len 0))))) = .sc (.bool true) := by
    have : (BE.not (.lt (.var 100) (.len 0))).den ρ1 = true := by rw [dnot_t, dlt_f]; simp only [IE.den]; omega
    simp only [X.den, Sc.den, this]
  rw [ha] at g
  rw [← X.belL_den ag enA (by kernel_rfl)] at g
  exact g
end Go.Proofs.Ytonefailiekemaa
