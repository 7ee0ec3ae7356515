/- ChainOnce: the main loop is shown. -/
import Derived.Test.YtonefailiekemaaXA3
namespace Go.Proofs.Ytonefailiekemaa
open Go Go.Proofs.Aw Go.Proofs.Xw
set_option maxRecDepth 100000
/-- At the loop's head: no log, or a log of unlike writes. -/
def Rd (s : Nat) (ρ : Rho) : Prop := Lim ρ ∧ ((s = 0 ∧ ρ.b 901 = false) ∨ (s = 1 ∧ ρ.b 901 = true ∧ 1 ≤ ρ.len 0 ∧ 1 ≤ ρ.len 201 ∧ ρ.len 201 ≤ 256 ∧ Un ρ))
def Ss (s : Nat) : XS := match s with
  | 0 => mS0
  | _ => mS1
def Me (_ : Nat) (ρ : Rho) : Nat := ρ.len 0 + ρ.len 1 - (ρ.i 200).toNat
theorem next_lim {β : Bind} (hg : β.ge 200 = true) (hi : lassoc 200 β.i = some (.op .add .i64 (.var 200) (.lit 1))) {ρ : Rho} (hL : Lim ρ) (hlt : ρ.i 200 < ρ.len 0 + ρ.len 1) :
    Lim (β.ap ρ) ∧ (β.ap ρ).len 0 = ρ.len 0 ∧ (∀ a b, Me a (β.ap ρ) < Me b ρ) ∧ Agree 200 ρ (β.ap ρ) := by
  have ag : Agree 200 ρ (β.ap ρ) := Bind.agree hg ρ
  have l0 : (β.ap ρ).len 0 = ρ.len 0 := (ag.len 0 (by decide)).symm
  have l1 : (β.ap ρ).len 1 = ρ.len 1 := (ag.len 1 (by decide)).symm
  have h0 := hL.i0
  have h3 := hL.l0
  have h4 := hL.l1
  have hn : (β.ap ρ).i 200 = ρ.i 200 + 1 := by
    rw [ap_i hi]
    simp only [IE.den, IOp.den]
    exact wrap_id _ (by omega) (by omega)
  refine ⟨hL.agree ag (by omega) (by omega), l0, fun a b => ?_, ag⟩
  simp only [Me, l0, l1, hn]
  omega
theorem need0 {ρ : Rho} (f1 : e1.den ρ = true) (f2 : e2.den ρ = true) : (BE.and e1 e2).den ρ = true := by rw [dand_t]; exact ⟨f1, f2⟩
/-- A round where there is no log yet. -/
theorem step0 {ρ : Rho} (hL : Lim ρ) (h0 : 1 ≤ ρ.len 0) (hi : ρ.i 200 < ρ.len 0 + ρ.len 1) :
    ∃ s' ρ', StepF Try.prog Try.f3.ntmps mC 0 mS0 (Ss s') ρ ρ' ∧ Rd s' ρ' ∧ Me s' ρ' < Me 0 ρ ∧ Agree 200 ρ ρ' := by
  obtain ⟨hk, f1, f2⟩ := kF_ok hL h0 hi
  have hn : r0c0.den ρ = true := need0 f1 f2
  by_cases hc : r0c1.den ρ = true
  · have hs : (mRun c0 [] mS0).sel ρ = some (.normal, sA) := by
      rw [r0_run]; unfold r0; rw [T.sel, if_pos hn, T.sel, if_pos hc]; rfl
    obtain ⟨g1, g2, g3, g4⟩ := next_lim bA_g bA_i hL hi
    exact ⟨0, bA.ap ρ, stepF_of mixed tis_ok (callC HFL ρ) (LpsOk.nil _ _ _ _) m_fits hk rfl hs sA_ok, ⟨g1, .inl ⟨rfl, by rw [ap_b bA_b]; rfl⟩⟩, g3 _ _, g4⟩
  · have hs : (mRun c0 [] mS0).sel ρ = some (.normal, sB) := by
      rw [r0_run]; unfold r0; rw [T.sel, if_pos hn, T.sel, if_neg hc]; rfl
    obtain ⟨g1, g2, g3, g4⟩ := next_lim bB_g bB_i hL hi
    obtain ⟨u1, u2⟩ := one_un bB_r ρ
    exact ⟨1, bB.ap ρ, stepF_of mixed tis_ok (callC HFL ρ) (LpsOk.nil _ _ _ _) m_fits hk rfl hs sB_ok, ⟨g1, .inr ⟨rfl, by rw [ap_b bB_b]; rfl, by omega, by omega, by omega, u2⟩⟩, g3 _ _, g4⟩
theorem mS1_bel : mS1.bel 300 = true := by kernel_rfl
theorem Un.agree {ρ ρ' : Rho} (h : Agree 300 ρ ρ') (k : Un ρ) : Un ρ' := fun a b ha hb => by
  rw [← h.ci 201 (by decide)]
  exact k a b ha (by rw [h.len 201 (by decide)]; exact hb)
theorem hitL_agree {ρ ρ' : Rho} (h : Agree 300 ρ ρ') (j : Nat) : hitL ρ j = hitL ρ' j := by
  unfold hitL
  rw [IE.bel_den h (.cl 0 2 kE) (by kernel_rfl), IE.bel_den h (.cl 0 3 kE) (by kernel_rfl), h.ci 201 (by decide)]
/-- A round behind the first write. -/
theorem step1 {ρ : Rho} (hL : Lim ρ) (h0 : 1 ≤ ρ.len 0) (hi : ρ.i 200 < ρ.len 0 + ρ.len 1) (hl : 1 ≤ ρ.len 201) (hl2 : ρ.len 201 ≤ 256) (hu : Un ρ) :
    ∃ s' ρ', StepF Try.prog Try.f3.ntmps mC 0 mS1 (Ss s') ρ ρ' ∧ Rd s' ρ' ∧ Me s' ρ' < Me 1 ρ ∧ Agree 200 ρ ρ' := by
  obtain ⟨ρ1, ag, n340, hf, cok⟩ := round_ks ρ (by omega)
  have hd : mS1.den ρ = mS1.den ρ1 := XS.bel_den ag mS1 mS1_bel
  have a0 := ag.len 0 (by decide)
  have a1 := ag.len 1 (by decide)
  have a2 := ag.len 201 (by decide)
  have a3 := ag.i 200 (by decide)
  have aM : Me 1 ρ = Me 1 ρ1 := by simp only [Me, a0, a1, a3]
  have hL1 : Lim ρ1 := hL.agree (ag.le (by decide)) (by rw [← a3]; exact hL.i0) (by rw [← a3]; exact hL.i1)
  have hu1 : Un ρ1 := hu.agree ag
  have hno : (∀ j, j < ρ.len 201 → hitL ρ j = false) → ∀ j, j < ρ1.len 201 → hitL ρ1 j = false := fun h j hj => by
    rw [← hitL_agree ag]; exact h j (by omega)
  rw [a2] at n340 hf hl hl2 hno
  rw [a0, a1, a3] at hi
  rw [a0] at h0
  have hcall : CallOk Try.prog ρ1 (callS ⟨cB, l_able, HFL⟩ 12) := callS_ok (c := ⟨cB, l_able, HFL⟩) cok l_able_ok 12
  obtain ⟨hk, f1, f2⟩ := kF_ok hL1 h0 hi
  have ag2 : Agree 200 ρ ρ1 := ag.le (by decide)
  rw [aM]
  rcases hf with ⟨h1, h2⟩ | ⟨h1, h2⟩
  · have hk2 : Facts.ok ρ1 (fdF ++ (kF ++ limC)) := all_ok (Facts.ok_cons (by rw [dlt_f]; exact h1) (Facts.ok_cons (by rw [dlt_t]; exact h2) (Facts.ok_cons (by rw [dlt_f]; simp only [IE.den]; omega) (Facts.ok_cons (by rw [dlt_t]; simp only [IE.den]; omega) (Facts.ok_cons (by rw [dlt_f]; simp only [IE.den]; omega) (Facts.ok_nil _)))))) hk
    have hs : (mRun cB fdF mS1).sel ρ1 = some (.normal, sC) := by
      rw [rF_run]; unfold rF; rw [T.sel, if_pos (show rFc0.den ρ1 = true from need0 f1 f2)]; rfl
    obtain ⟨g1, g2, g3, g4⟩ := next_lim bC_g bC_i hL1 hi
    obtain ⟨u1, u2⟩ := same_un bC_r ρ1
    exact ⟨1, bC.ap ρ1, StepF.from hd (stepF_of mixed tis_ok hcall (LpsOk.nil _ _ _ _) m_fits hk2 rfl hs sC_ok), ⟨g1, .inr ⟨rfl, by rw [ap_b bC_b]; rfl, by omega, by omega, by omega, u2 hu1⟩⟩, g3 _ _, ag2.trans g4⟩
  · have hk2 : Facts.ok ρ1 (nfF ++ (kF ++ limC)) := all_ok (Facts.ok_cons (by rw [deq_t]; exact h1) (Facts.ok_cons (by rw [dlt_t]; simp only [IE.den]; omega) (Facts.ok_cons (by rw [dlt_f]; simp only [IE.den]; omega) (Facts.ok_nil _)))) hk
    have hn : rNc0.den ρ1 = true := by
      show (BE.and e1 (.and e2 (.not (.lt (.var 340) (.len 201))))).den ρ1 = true
      rw [dand_t, dand_t, dnot_t, dlt_f]
      simp only [IE.den]
      exact ⟨f1, f2, by omega⟩
    by_cases hc : rNc1.den ρ1 = true
    · have hs : (mRun cB nfF mS1).sel ρ1 = some (.normal, sD) := by
        rw [rN_run]; unfold rN; rw [T.sel, if_pos hn, T.sel, if_pos hc]; rfl
      obtain ⟨g1, g2, g3, g4⟩ := next_lim bD_g bD_i hL1 hi
      obtain ⟨u1, u2⟩ := same_un bD_r ρ1
      exact ⟨1, bD.ap ρ1, StepF.from hd (stepF_of mixed tis_ok hcall (LpsOk.nil _ _ _ _) m_fits hk2 rfl hs sD_ok), ⟨g1, .inr ⟨rfl, by rw [ap_b bD_b]; rfl, by omega, by omega, by omega, u2 hu1⟩⟩, g3 _ _, ag2.trans g4⟩
    · have hs : (mRun cB nfF mS1).sel ρ1 = some (.normal, sE) := by
        rw [rN_run]; unfold rN; rw [T.sel, if_pos hn, T.sel, if_neg hc]; rfl
      have hc2 : (BE.or (.or _ (.or (.not (.lt (.len 201) (.lit 256))) _)) _).den ρ1 = false := Bool.eq_false_iff.2 hc
      have hlt := ((dor_f ρ1 _ _).mp ((dor_f ρ1 _ _).mp ((dor_f ρ1 _ _).mp hc2).1).2).1
      rw [dnot_f, dlt_t] at hlt
      simp only [IE.den] at hlt
      obtain ⟨g1, g2, g3, g4⟩ := next_lim bE_g bE_i hL1 hi
      obtain ⟨u1, u2⟩ := more_un ρ1 (hno h2) hu1
      exact ⟨1, bE.ap ρ1, StepF.from hd (stepF_of mixed tis_ok hcall (LpsOk.nil _ _ _ _) m_fits hk2 rfl hs sE_ok), ⟨g1, .inr ⟨rfl, by rw [ap_b bE_b]; rfl, by omega, by omega, by omega, u2⟩⟩, g3 _ _, ag2.trans g4⟩
/-- The loop's end. -/
theorem end_of {ρ : Rho} {Φ : Facts} {S s o : XS} (hk : Facts.ok ρ Φ) (hs : xRun Φ S = .ret (.exit 0, s)) (ho : cM.out.sel ρ = some (.exit 0, o)) (h : okS 0 1000 noB [] o s = true) : EndL Try.prog Try.f3.ntmps mC 0 S cM.out ρ := by
  have hsel : (xRun Φ S).sel ρ = some (.exit 0, s) := by rw [hs]; rfl
  exact endF_of (e := .exit 0) mixed tis_ok (callC HFL ρ) (LpsOk.nil _ _ _ _) m_fits hk rfl (fun h => nomatch h) hsel ⟨o, ho, fun E hb => okS_imp hb h ρ⟩
theorem cM_ok (ρ : Rho) (hb : ρ.b 90 = false) (h0 : ρ.len 0 ≤ 400) (h1 : ρ.len 1 ≤ 400) : ∃ i ρf, Agree 200 ρ ρf ∧ Rd i ρf ∧ LoopOk Try.prog ρf Try.f3.ntmps mC cM := by
  refine loopOk_fam (L := cM) rfl mSi_b Ss Rd Me ?_ ⟨0, bI.ap ρ, Bind.agree rfl ρ, ⟨⟨hb, h0, h1, Int.le_refl 0, ?_⟩, .inl ⟨rfl, rfl⟩⟩, fun E _ hE => okS_imp hE mSi_ok ρ⟩
  · rintro i ρ ⟨hL, ⟨rfl, h9⟩ | ⟨rfl, h9, q0, q1, q2, q3⟩⟩
    · have eA : (IE.op .add .i64 (.len 0) (.len 1)).den ρ = ρ.len 0 + ρ.len 1 := by
        have := hL.l0; have := hL.l1
        simp only [IE.den, IOp.den]; exact wrap_id _ (by omega) (by omega)
      have ho : cM.out.sel ρ = some (.exit 0, o0) := by
        show (T.br (.var 901) _ _).sel ρ = _
        rw [T.sel, if_neg (by simp [BE.den, h9])]; rfl
      have hg : Rd 0 ρ := ⟨hL, .inl ⟨rfl, h9⟩⟩
      by_cases hi : ρ.i 200 < ρ.len 0 + ρ.len 1
      · by_cases hl : 1 ≤ ρ.len 0
        · exact .inr (step0 hL hl hi)
        · refine .inl ⟨ρ, Agree.refl _ _, hg, rfl, end_of (Φ := xBF) (Facts.ok_cons ?_ (Facts.ok_cons ?_ (Facts.ok_cons ?_ (Facts.ok_nil _)))) xB_run ho xB_ok⟩
          · rw [deq_t]; simp only [IE.den]; omega
          · rw [dlt_f]; simp only [IE.den]; have := hL.i0; omega
          · rw [dlt_t, eA]; exact hi
      · refine .inl ⟨ρ, Agree.refl _ _, hg, rfl, end_of (Φ := x0F) (Facts.ok_cons ?_ (Facts.ok_nil _)) x0_run ho x0_ok⟩
        rw [dlt_f, eA]; simp only [IE.den]; omega
    · have eA : (IE.op .add .i64 (.len 0) (.len 1)).den ρ = ρ.len 0 + ρ.len 1 := by
        have := hL.l0; have := hL.l1
        simp only [IE.den, IOp.den]; exact wrap_id _ (by omega) (by omega)
      have ho : cM.out.sel ρ = some (.exit 0, o1) := by
        show (T.br (.var 901) _ _).sel ρ = _
        rw [T.sel, if_pos (by simp [BE.den, h9])]; rfl
      by_cases hi : ρ.i 200 < ρ.len 0 + ρ.len 1
      · exact .inr (step1 hL q0 hi q1 q2 q3)
      · refine .inl ⟨ρ, Agree.refl _ _, ⟨hL, .inr ⟨rfl, h9, q0, q1, q2, q3⟩⟩, rfl, end_of (Φ := x0F) (Facts.ok_cons ?_ (Facts.ok_nil _)) x1_run ho x1_ok⟩
        rw [dlt_f, eA]; simp only [IE.den]; omega
  · show (0 : Int) ≤ ρ.len 0 + ρ.len 1
    omega
end Go.Proofs.Ytonefailiekemaa
