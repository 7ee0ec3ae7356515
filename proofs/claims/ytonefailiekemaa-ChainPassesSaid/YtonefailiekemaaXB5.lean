/- ChainPasses: the loop over puts is shown. -/
import Derived.Test.YtonefailiekemaaXB4
namespace Go.Proofs.Ytonefailiekemaa
open Go Go.Proofs.Aw Go.Proofs.Xw
set_option maxRecDepth 100000
structure Lim (ρ : Rho) : Prop where
  b : ρ.b 90 = false
  l0 : ρ.len 0 ≤ 400
  i0 : 0 ≤ ρ.i 200
  i1 : ρ.i 200 ≤ ρ.len 0
theorem Lim.agree {ρ ρ' : Rho} (h : Agree 200 ρ ρ') (k : Lim ρ) (h0 : 0 ≤ ρ'.i 200) (h1 : ρ'.i 200 ≤ ρ.len 0) : Lim ρ' :=
  ⟨by rw [← h.b 90 (by decide)]; exact k.b, by rw [← h.len 0 (by decide)]; exact k.l0, h0, by rw [← h.len 0 (by decide)]; exact h1⟩
/-- The log, where there is one. -/
structure Lg (ρ : Rho) : Prop where
  l1 : 1 ≤ ρ.len 201
  l2 : ρ.len 201 ≤ 256
  d0 : 0 ≤ ρ.i 203
  d1 : ρ.i 203 ≤ ρ.len 201
  re : RE ρ
theorem Lg.agree {ρ ρ' : Rho} (h : Agree 300 ρ ρ') (k : Lg ρ) : Lg ρ' := by
  have a1 := h.len 201 (by decide)
  have a2 := h.i 203 (by decide)
  exact ⟨a1 ▸ k.l1, a1 ▸ k.l2, a2 ▸ k.d0, a1 ▸ a2 ▸ k.d1, k.re.agree h (by decide)⟩
theorem all_ok {ρ : Rho} {Φ Ψ : Facts} (h : Facts.ok ρ Φ) (k : Facts.ok ρ Ψ) : Facts.ok ρ (Φ ++ Ψ) := fun p hp => (List.mem_append.1 hp).elim (h p) (k p)
/-- At the loop's head: no log, or a log of right writes. -/
def Rd (s : Nat) (ρ : Rho) : Prop := Lim ρ ∧ ((s = 0 ∧ ρ.b 901 = false) ∨ (s = 1 ∧ ρ.b 901 = true ∧ Lg ρ))
def Ss (s : Nat) : XS := match s with
  | 0 => mS0
  | _ => mS1
def Me (_ : Nat) (ρ : Rho) : Nat := ρ.len 0 - (ρ.i 200).toNat
theorem kF_ok {ρ : Rho} (h : Lim ρ) (hi : ρ.i 200 < ρ.len 0) : Facts.ok ρ (kF ++ limC) := by
  obtain ⟨hb, l0, i0, _⟩ := h
  refine all_ok (Facts.ok_cons ?_ (Facts.ok_cons ?_ (Facts.ok_nil _))) (Facts.ok_cons hb (Facts.ok_cons ?_ (Facts.ok_nil _)))
  · rw [dlt_f]; exact i0
  · rw [dlt_t]; exact hi
  · rw [dlt_f]; simp only [IE.den]; omega
theorem next_lim {β : Bind} (hg : β.ge 200 = true) (hi : lassoc 200 β.i = some (.op .add .i64 (.var 200) (.lit 1))) {ρ : Rho} (hL : Lim ρ) (hlt : ρ.i 200 < ρ.len 0) :
    Lim (β.ap ρ) ∧ (∀ a b, Me a (β.ap ρ) < Me b ρ) ∧ Agree 200 ρ (β.ap ρ) := by
  have ag : Agree 200 ρ (β.ap ρ) := Bind.agree hg ρ
  have l0 : (β.ap ρ).len 0 = ρ.len 0 := (ag.len 0 (by decide)).symm
  have h0 := hL.i0
  have h3 := hL.l0
  have hn : (β.ap ρ).i 200 = ρ.i 200 + 1 := by
    rw [ap_i hi]
    simp only [IE.den, IOp.den]
    exact wrap_id _ (by omega) (by omega)
  refine ⟨hL.agree ag (by omega) (by omega), fun a b => ?_, ag⟩
  simp only [Me, l0, hn]
  omega
theorem ite_den (ρ : Rho) (c : BE) (a b : IE) : (IE.ite c a b).den ρ = if c.den ρ = true then a.den ρ else b.den ρ := rfl
theorem dur_in {β : Bind} {ρ : Rho} {a b : IE} (h : lassoc 203 β.i = some (.ite (.eq (.var 200) (.var 1)) a b)) {n : Int} (a0 : 0 ≤ a.den ρ) (a1 : a.den ρ ≤ n) (b0 : 0 ≤ b.den ρ) (b1 : b.den ρ ≤ n) : 0 ≤ (β.ap ρ).i 203 ∧ (β.ap ρ).i 203 ≤ n := by
  rw [ap_i h, ite_den]
  split
  · exact ⟨a0, a1⟩
  · exact ⟨b0, b1⟩
/-- A round where there is no log yet. -/
theorem step0 {ρ : Rho} (hL : Lim ρ) (hi : ρ.i 200 < ρ.len 0) :
    ∃ s' ρ', StepF Try.prog Try.f5.ntmps mC 0 mS0 (Ss s') ρ ρ' ∧ Rd s' ρ' ∧ Me s' ρ' < Me 0 ρ ∧ Agree 200 ρ ρ' := by
  obtain ⟨ρ1, ag, kt, cok⟩ := round0_ks ρ
  have hd : mS0.den ρ = mS0.den ρ1 := XS.bel_den ag mS0 (by kernel_rfl)
  have a0 := ag.len 0 (by decide)
  have a3 := ag.i 200 (by decide)
  have aM : Me 0 ρ = Me 0 ρ1 := by simp only [Me, a0, a3]
  have hL1 : Lim ρ1 := hL.agree (ag.le (by decide)) (by rw [← a3]; exact hL.i0) (by rw [← a3]; exact hL.i1)
  rw [a0, a3] at hi
  have ag2 : Agree 200 ρ ρ1 := ag.le (by decide)
  have hcall : CallOk Try.prog ρ1 (callS ⟨c0, l_able, HFL⟩ 12) := callS_ok (c := ⟨c0, l_able, HFL⟩) cok l_able_ok 12
  have hk := kF_ok hL1 hi
  rw [aM]
  by_cases hc : r0c0.den ρ1 = true
  · have hs : (mRun c0 [] mS0).sel ρ1 = some (.normal, sA) := by
      rw [r0_run]; unfold r0; rw [T.sel, if_pos hc]; rfl
    obtain ⟨g1, g3, g4⟩ := next_lim bA_g bA_i hL1 hi
    exact ⟨0, bA.ap ρ1, StepF.from hd (stepF_of mixed tis_ok hcall (LpsOk.nil _ _ _ _) m_fits hk rfl hs sA_ok), ⟨g1, .inl ⟨rfl, by rw [ap_b bA_b]; rfl⟩⟩, g3 _ _, ag2.trans g4⟩
  · have hs : (mRun c0 [] mS0).sel ρ1 = some (.normal, sB) := by
      rw [r0_run]; unfold r0; rw [T.sel, if_neg hc]; rfl
    have hb : ρ1.b 360 = true := by
      have hc2 : (BE.or _ (.not (.var 360))).den ρ1 = false := Bool.eq_false_iff.2 hc
      have := ((dor_f ρ1 _ _).mp hc2).2
      rw [dnot_f] at this
      exact this
    obtain ⟨g1, g3, g4⟩ := next_lim bB_g bB_i hL1 hi
    obtain ⟨u1, u2⟩ := one_re ρ1 kt hb
    obtain ⟨v1, v2⟩ := dur_in (ρ := ρ1) bB_d (n := 1) (show (0:Int) ≤ 1 by decide) (show (1:Int) ≤ 1 by decide) (show (0:Int) ≤ 0 by decide) (show (0:Int) ≤ 1 by decide)
    exact ⟨1, bB.ap ρ1, StepF.from hd (stepF_of mixed tis_ok hcall (LpsOk.nil _ _ _ _) m_fits hk rfl hs sB_ok), ⟨g1, .inr ⟨rfl, by rw [ap_b bB_b]; rfl, by omega, by omega, v1, by omega, u2⟩⟩, g3 _ _, ag2.trans g4⟩
theorem mS1_bel : mS1.bel 300 = true := by kernel_rfl
/-- A round behind the first write. -/
theorem step1 {ρ : Rho} (hL : Lim ρ) (hi : ρ.i 200 < ρ.len 0) (hg : Lg ρ) :
    ∃ s' ρ', StepF Try.prog Try.f5.ntmps mC 0 mS1 (Ss s') ρ ρ' ∧ Rd s' ρ' ∧ Me s' ρ' < Me 1 ρ ∧ Agree 200 ρ ρ' := by
  obtain ⟨ρ1, ag, n340, hf, kt, cok⟩ := round_ks ρ (by have := hg.l2; omega)
  have hd : mS1.den ρ = mS1.den ρ1 := XS.bel_den ag mS1 mS1_bel
  have a0 := ag.len 0 (by decide)
  have a2 := ag.len 201 (by decide)
  have a3 := ag.i 200 (by decide)
  have aM : Me 1 ρ = Me 1 ρ1 := by simp only [Me, a0, a3]
  have hL1 : Lim ρ1 := hL.agree (ag.le (by decide)) (by rw [← a3]; exact hL.i0) (by rw [← a3]; exact hL.i1)
  obtain ⟨hl, hl2, d0, d1, hu1⟩ := hg.agree ag
  rw [a2] at n340 hf
  rw [a0, a3] at hi
  have hcall : CallOk Try.prog ρ1 (callS ⟨cB, l_able, HFL⟩ 12) := callS_ok (c := ⟨cB, l_able, HFL⟩) cok l_able_ok 12
  have hk := kF_ok hL1 hi
  have ag2 : Agree 200 ρ ρ1 := ag.le (by decide)
  have pl : (IE.op .padd .i64 (.len 201) (.lit 1)).den ρ1 = ρ1.len 201 + 1 := by simp only [IE.den, IOp.den]
  have nn : (IE.len 201).den ρ1 = ρ1.len 201 := rfl
  have dd : (IE.var 203).den ρ1 = ρ1.i 203 := rfl
  rw [aM]
  rcases hf with ⟨h1, h2⟩ | h1
  · have hk2 : Facts.ok ρ1 (fdF ++ (kF ++ limC)) := all_ok (Facts.ok_cons (by rw [dlt_f]; exact h1) (Facts.ok_cons (by rw [dlt_t]; exact h2) (Facts.ok_cons (by rw [dlt_f]; simp only [IE.den]; omega) (Facts.ok_cons (by rw [dlt_t]; simp only [IE.den]; omega) (Facts.ok_cons (by rw [dlt_f]; simp only [IE.den]; omega) (Facts.ok_nil _)))))) hk
    have hs : (mRun cB fdF mS1).sel ρ1 = some (.normal, sC) := by
      rw [rF_run]; rfl
    obtain ⟨g1, g3, g4⟩ := next_lim bC_g bC_i hL1 hi
    obtain ⟨u1, u2⟩ := same_re bC_r ρ1
    obtain ⟨v1, v2⟩ := dur_in (ρ := ρ1) bC_d (n := ρ1.len 201) (by omega) (by omega) (by omega) (by omega)
    exact ⟨1, bC.ap ρ1, StepF.from hd (stepF_of mixed tis_ok hcall (LpsOk.nil _ _ _ _) m_fits hk2 rfl hs sC_ok), ⟨g1, .inr ⟨rfl, by rw [ap_b bC_b]; rfl, by omega, by omega, v1, by omega, u2 hu1⟩⟩, g3 _ _, ag2.trans g4⟩
  · have hk2 : Facts.ok ρ1 (nfF ++ (kF ++ limC)) := all_ok (Facts.ok_cons (by rw [deq_t]; exact h1) (Facts.ok_cons (by rw [dlt_t]; simp only [IE.den]; omega) (Facts.ok_cons (by rw [dlt_f]; simp only [IE.den]; omega) (Facts.ok_nil _)))) hk
    have hn : rNc0.den ρ1 = true := by
      show (BE.not (.lt (.var 340) (.len 201))).den ρ1 = true
      rw [dnot_t, dlt_f]
      simp only [IE.den]
      omega
    by_cases hc : rNc1.den ρ1 = true
    · have hs : (mRun cB nfF mS1).sel ρ1 = some (.normal, sD) := by
        rw [rN_run]; unfold rN; rw [T.sel, if_pos hn, T.sel, if_pos hc]; rfl
      obtain ⟨g1, g3, g4⟩ := next_lim bD_g bD_i hL1 hi
      obtain ⟨u1, u2⟩ := same_re bD_r ρ1
      obtain ⟨v1, v2⟩ := dur_in (ρ := ρ1) bD_d (n := ρ1.len 201) (by omega) (by omega) (by omega) (by omega)
      exact ⟨1, bD.ap ρ1, StepF.from hd (stepF_of mixed tis_ok hcall (LpsOk.nil _ _ _ _) m_fits hk2 rfl hs sD_ok), ⟨g1, .inr ⟨rfl, by rw [ap_b bD_b]; rfl, by omega, by omega, v1, by omega, u2 hu1⟩⟩, g3 _ _, ag2.trans g4⟩
    · have hs : (mRun cB nfF mS1).sel ρ1 = some (.normal, sE) := by
        rw [rN_run]; unfold rN; rw [T.sel, if_pos hn, T.sel, if_neg hc]; rfl
      have hc2 : (BE.or (.or _ (.or (.not (.lt (.len 201) (.lit 256))) _)) (.not (.var 360))).den ρ1 = false := Bool.eq_false_iff.2 hc
      have hlt := ((dor_f ρ1 _ _).mp ((dor_f ρ1 _ _).mp ((dor_f ρ1 _ _).mp hc2).1).2).1
      have hb := ((dor_f ρ1 _ _).mp hc2).2
      rw [dnot_f] at hb
      rw [dnot_f, dlt_t] at hlt
      simp only [IE.den] at hlt
      obtain ⟨g1, g3, g4⟩ := next_lim bE_g bE_i hL1 hi
      obtain ⟨u1, u2⟩ := more_re ρ1 kt hb hu1
      obtain ⟨v1, v2⟩ := dur_in (ρ := ρ1) bE_d (n := ρ1.len 201 + 1) (by omega) (by omega) (by omega) (by omega)
      exact ⟨1, bE.ap ρ1, StepF.from hd (stepF_of mixed tis_ok hcall (LpsOk.nil _ _ _ _) m_fits hk2 rfl hs sE_ok), ⟨g1, .inr ⟨rfl, by rw [ap_b bE_b]; rfl, by omega, by omega, v1, by omega, u2⟩⟩, g3 _ _, ag2.trans g4⟩
/-- The loop's end. -/
theorem end_of {ρ : Rho} {Φ : Facts} {S s o : XS} (hk : Facts.ok ρ Φ) (hs : xRun Φ S = .ret (.exit 0, s)) (ho : cM.out.sel ρ = some (.exit 0, o)) (h : okS 0 1000 noB [] o s = true) : EndL Try.prog Try.f5.ntmps mC 0 S cM.out ρ := by
  have hsel : (xRun Φ S).sel ρ = some (.exit 0, s) := by rw [hs]; rfl
  exact endF_of (e := .exit 0) mixed tis_ok (callC HFL ρ) (LpsOk.nil _ _ _ _) m_fits hk rfl (fun h => nomatch h) hsel ⟨o, ho, fun E hb => okS_imp hb h ρ⟩
theorem out0 {ρ : Rho} (h9 : ρ.b 901 = false) : cM.out.sel ρ = some (.exit 0, o0) := by
  show (T.br (.var 901) _ _).sel ρ = _
  rw [T.sel, if_neg (by simp [BE.den, h9])]; rfl
theorem out1 {ρ : Rho} (h9 : ρ.b 901 = true) : cM.out.sel ρ = some (.exit 0, o1) := by
  show (T.br (.var 901) _ _).sel ρ = _
  rw [T.sel, if_pos (by simp [BE.den, h9])]; rfl
theorem cM_ok (ρ : Rho) (hb : ρ.b 90 = false) (h0 : ρ.len 0 ≤ 400) : ∃ i ρf, Agree 200 ρ ρf ∧ Rd i ρf ∧ LoopOk Try.prog ρf Try.f5.ntmps mC cM := by
  refine loopOk_fam (L := cM) rfl mSi_b Ss Rd Me ?_ ⟨0, bI.ap ρ, Bind.agree rfl ρ, ⟨⟨hb, h0, Int.le_refl 0, ?_⟩, .inl ⟨rfl, rfl⟩⟩, fun E _ hE => okS_imp hE mSi_ok ρ⟩
  · have xk : ∀ {ρ : Rho}, ¬ ρ.i 200 < ρ.len 0 → Facts.ok ρ x0F := fun {ρ} hi => Facts.ok_cons (by rw [dlt_f]; simp only [IE.den]; omega) (Facts.ok_nil _)
    rintro i ρ ⟨hL, ⟨rfl, h9⟩ | ⟨rfl, h9, hg⟩⟩
    · by_cases hi : ρ.i 200 < ρ.len 0
      · exact .inr (step0 hL hi)
      · exact .inl ⟨ρ, Agree.refl _ _, ⟨hL, .inl ⟨rfl, h9⟩⟩, rfl, end_of (xk hi) x0_run (out0 h9) x0_ok⟩
    · by_cases hi : ρ.i 200 < ρ.len 0
      · exact .inr (step1 hL hi hg)
      · exact .inl ⟨ρ, Agree.refl _ _, ⟨hL, .inr ⟨rfl, h9, hg⟩⟩, rfl, end_of (xk hi) x1_run (out1 h9) x1_ok⟩
  · show (0 : Int) ≤ ρ.len 0
    omega
end Go.Proofs.Ytonefailiekemaa
