/- ChainBounds: a put's own letters, all of them. -/
import Derived.Test.YtonefailiekemaaGKd
namespace Go.Proofs.Ytonefailiekemaa
open Go Go.Proofs.Aw Go.Proofs.Xw
set_option maxRecDepth 100000
theorem dFr_of {ρ : Rho} (h : LoopOk Try.prog ρ Try.f59.ntmps dF_c dF) (h1 : ρ.i 380 < ρ.len 201) (h2 : hitL ρ (ρ.i 380).toNat = true) : LoopOk Try.prog ρ Try.f59.ntmps dFr_c dFr := by
  intro E hE hk
  have ho : dF.out.sel ρ = dFr.out.sel ρ := by
    have c1 : (BE.lt (.var 380) (.len 201)).den ρ = true := by rw [dlt_t]; exact h1
    have c2 : (BE.and (.eq (.cl 201 18 (.var 380)) (.cl 0 2 (.var 200))) (.eq (.cl 201 19 (.var 380)) (.cl 0 3 (.var 200)))).den ρ = true := h2
    show (dF_t.outs).sel ρ = _
    unfold dF_t
    simp only [T.outs]
    rw [T.sel, if_pos c1]
    first
      | (rw [T.sel, if_pos c2]; rfl)
      | rfl
  have := h E hE hk
  rw [ho] at this
  exact this
theorem dFx_of {ρ : Rho} (h : LoopOk Try.prog ρ Try.f59.ntmps dF_c dF) (h1 : ρ.len 201 ≤ ρ.i 380) : LoopOk Try.prog ρ Try.f59.ntmps dFx_c dFx := by
  intro E hE hk
  have ho : dF.out.sel ρ = dFx.out.sel ρ := by
    have c1 : ¬ (BE.lt (.var 380) (.len 201)).den ρ = true := by rw [dlt_t]; simp only [IE.den]; omega
    show (dF_t.outs).sel ρ = _
    unfold dF_t
    simp only [T.outs]
    rw [T.sel, if_neg c1]
    rfl
  have := h E hE hk
  rw [ho] at this
  exact this
theorem hitL_agree {B : Nat} {ρ ρ' : Rho} (h : Agree B ρ ρ') (hB : 201 < B) (j : Nat) : hitL ρ j = hitL ρ' j := by
  unfold hitL
  simp only [IE.den]
  rw [h.ci 201 hB, h.ci 0 (by omega), h.i 200 (by omega)]
/-- All letters of a put. -/
structure Pk (ρ ρ' : Rho) : Prop where
  ag : Agree 300 ρ ρ'
  rk : Rk ρ ρ'
  kc : ∀ p ∈ ksC, kOk ρ' p
  kp : ∃ v, ∀ p ∈ ksP depX v colX, kOk ρ' p
  n1 : ρ'.i 340 = ρ.len 201
  n2 : ρ'.i 400 = ρ.len 201
  l1 : LoopOk Try.prog ρ' Try.f15.ntmps cX_c cX
  l2 : LoopOk Try.prog ρ' Try.f59.ntmps dS_c dS
  f : (0 ≤ ρ'.i 331 ∧ ρ'.i 331 < ρ.len 201 ∧ LoopOk Try.prog ρ' Try.f59.ntmps dFr_c dFr) ∨ (ρ'.i 331 = -1 ∧ LoopOk Try.prog ρ' Try.f59.ntmps dFx_c dFx)
  nx : ((0 ≤ ρ.i 204 ∧ ρ.i 204 < 3) ∧ (0 ≤ ρ.i 205 ∧ ρ.i 205 < 3) ∧ ∀ p ∈ ksY, kOk ρ' p) ∨ ∀ p ∈ ksZ, kOk ρ' p
theorem Rk.agree {B : Nat} {ρ ρ' ρ2 : Rho} (h : Agree B ρ' ρ2) (hB : 306 ≤ B) (k : Rk ρ ρ') : Rk ρ ρ2 :=
  ⟨ks_agree (h.le hB) ksRos_bel k.ks, k.e, by rw [← h.i 301 (by omega)]; exact k.hd, by rw [← h.i 302 (by omega)]; exact k.ls⟩
theorem put_ks (ρ : Rho) (hc : Cf ρ) (hl : ρ.len 201 ≤ 256) : ∃ ρ', Pk ρ ρ' := by
  obtain ⟨ρ1, a1, r1⟩ := ros_ks ρ hc
  have e1 : ρ1.len 201 = ρ.len 201 := (a1.len 201 (by decide)).symm
  obtain ⟨ρ2, a2, c2⟩ := log_ks ρ1 (by omega)
  have e2 : ρ2.len 201 = ρ.len 201 := by rw [← a2.len 201 (by decide), e1]
  -- the counts
  have x1 := cX_ok ρ2 (by omega)
  have a3 : Agree 340 ρ2 (cX_b.it (cX_i.ap ρ2) (ρ2.len 201)) := (Bind.agree cX_ig ρ2).trans (Bind.it_agree cX_bg (cX_i.ap ρ2) _)
  have x2 : (cX_b.it (cX_i.ap ρ2) (ρ2.len 201)).i 340 = ρ2.len 201 := it_count (e := .lit 0) rfl (by rfl) _ (by omega)
  have x3 := cX_len ρ2 (ρ2.len 201)
  have x4 := cX_cell ρ2 (ρ2.len 201) (by omega)
  generalize cX_b.it (cX_i.ap ρ2) (ρ2.len 201) = ρ3 at x1 a3 x2 x3 x4
  have hn0 : ((bN 341).ap ρ3).len 0 = ρ3.len 341 := by show (IE.den ρ3 (.len 341)).toNat = _; simp only [IE.den, Int.toNat_natCast]
  obtain ⟨y46, z46⟩ := next46 ((bN 341).ap ρ3) (by rw [hn0, x3]; omega)
  have hm : mx (((bN 341).ap ρ3).ci 0 0) (((bN 341).ap ρ3).len 0) = mx (cntV ρ2) (ρ2.len 201 + 1) := by
    rw [hn0, x3]
    exact mx_congr _ fun j hj => x4 j hj
  rw [hm] at y46 z46
  generalize hM : mx (cntV ρ2) (ρ2.len 201 + 1) = m at y46 z46 hm
  let β4 : Bind := ⟨[(351, .lit (m + 1))], [], [], []⟩
  have a4 : Agree 350 ρ3 (β4.ap ρ3) := Bind.agree rfl ρ3
  have v4 : (β4.ap ρ3).i 351 = m + 1 := rfl
  generalize β4.ap ρ3 = ρ4 at a4 v4
  -- the parts
  obtain ⟨ρ5, a5, v, k5⟩ := part_ks ρ4 (e := depX) (c := colX) (k := 21) (x := .var 321) (y := .var 322) (z := .var 323) (by kernel_rfl) (by kernel_rfl) (by kernel_rfl) (by kernel_rfl) (by kernel_rfl)
  have a25 : Agree 340 ρ2 ρ5 := a3.trans ((a4.trans (a5.le (by decide))).le (by decide))
  have e5 : ρ5.len 201 = ρ.len 201 := by rw [← a25.len 201 (by decide), e2]
  -- the search
  obtain ⟨ρ6, n, a6, hn, v6, hno, hyes, f6⟩ := dF_ok ρ5 (by omega)
  have e6 : ρ6.len 201 = ρ.len 201 := by rw [← a6.len 201 (by decide), e5]
  -- the counts once more
  have s1 := dS_ok ρ6 (by omega)
  have a7 : Agree 400 ρ6 (dS_b.it (dS_i.ap ρ6) (ρ6.len 201)) := (Bind.agree dS_ig ρ6).trans (Bind.it_agree dS_bg (dS_i.ap ρ6) _)
  have s2 : (dS_b.it (dS_i.ap ρ6) (ρ6.len 201)).i 400 = ρ6.len 201 := it_count (e := .lit 0) rfl (by rfl) _ (by omega)
  have s3 := dS_len ρ6 (ρ6.len 201)
  have s4 := dS_cell ρ6 (ρ6.len 201) (by omega)
  generalize dS_b.it (dS_i.ap ρ6) (ρ6.len 201) = ρ7 at s1 a7 s2 s3 s4
  have a26 : Agree 340 ρ2 ρ6 := a25.trans (a6.le (by decide))
  have a27 : Agree 340 ρ2 ρ7 := a26.trans (a7.le (by decide))
  have a37 : Agree 350 ρ3 ρ7 := a4.trans ((a5.trans ((a6.trans (a7.le (by decide))).le (by decide))).le (by decide))
  have a47 : Agree 360 ρ4 ρ7 := a5.trans ((a6.trans (a7.le (by decide))).le (by decide))
  have a57 : Agree 380 ρ5 ρ7 := a6.trans (a7.le (by decide))
  have ag : Agree 300 ρ ρ7 := a1.trans ((a2.trans (a27.le (by decide))).le (by decide))
  have v7 : ρ7.i 351 = m + 1 := by rw [← a47.i 351 (by decide), v4]
  have hn7 : ((bN 401).ap ρ7).len 0 = ρ7.len 401 := by show (IE.den ρ7 (.len 401)).toNat = _; simp only [IE.den, Int.toNat_natCast]
  obtain ⟨y95, z95⟩ := next95 ((bN 401).ap ρ7) (by rw [hn7, s3]; omega)
  have hm7 : mx (((bN 401).ap ρ7).ci 0 0) (((bN 401).ap ρ7).len 0) = m := by
    rw [hn7, s3, e6, ← hM, e2]
    refine mx_congr _ fun j hj => ?_
    rw [show ((bN 401).ap ρ7).ci 0 0 j = ρ7.ci 401 0 j from rfl, s4 j (by omega)]
    cases j with
    | zero => simp only [cntV, IE.den]; rw [a26.ci 0 (by decide), a26.i 200 (by decide)]
    | succ j => simp only [cntV]; rw [a26.ci 201 (by decide)]
  rw [hm7] at y95 z95
  have d0 : ((bN 341).ap ρ3).i 0 = ρ.i 204 := by
    show ρ3.i 204 = _
    rw [a37.i 204 (by decide), ← ag.i 204 (by decide)]
  have d1 : ((bN 341).ap ρ3).i 1 = ρ.i 205 := by
    show ρ3.i 205 = _
    rw [a37.i 205 (by decide), ← ag.i 205 (by decide)]
  have d2 : ((bN 401).ap ρ7).i 0 = ρ.i 204 := by
    show ρ7.i 204 = _
    rw [← ag.i 204 (by decide)]
  have d3 : ((bN 401).ap ρ7).i 1 = ρ.i 205 := by
    show ρ7.i 205 = _
    rw [← ag.i 205 (by decide)]
  rw [d0, d1] at y46 z46
  rw [d2, d3] at y95 z95
  refine ⟨ρ7, ag, r1.agree (a2.trans (a27.le (by decide))) (by decide), ks_agree (a27.le (by decide)) ksC_bel c2.ks, ⟨v, ks_agree a57 (by cases v <;> kernel_rfl) k5⟩, ?_, by rw [s2, e6], ?_, s1, ?_, ?_⟩
  · rw [← a37.i 340 (by decide), x2, e2]
  · exact LoopOk.agree (B := 342) cX_Sb (by kernel_rfl) cX_bel (a37.le (by decide)) x1
  · have h331 : ρ7.i 331 = ρ2.i 331 := (a27.i 331 (by decide)).symm
    have f7 : LoopOk Try.prog ρ7 Try.f59.ntmps dF_c dF := LoopOk.agree (B := 381) dF_Sb (by kernel_rfl) dF_bel (a7.le (by decide)) f6
    have v8 : ρ7.i 380 = n := by rw [← a7.i 380 (by decide), v6]
    have e7 : ρ7.len 201 = ρ.len 201 := by rw [← a7.len 201 (by decide), e6]
    have hit5 : ∀ j, hitL ρ1 j = hitL ρ5 j := fun j => hitL_agree (a2.trans (a25.le (by decide)) : Agree 310 ρ1 ρ5) (by decide) j
    rcases c2.f with ⟨g1, g2, g3⟩ | ⟨g1, g2⟩
    · left
      have hlt : n < ρ5.len 201 := by
        rcases Nat.lt_or_ge n (ρ5.len 201) with h | h
        · exact h
        · have := hno (ρ2.i 331).toNat (by omega)
          rw [← hit5, g3] at this; cases this
      refine ⟨by rw [h331]; exact g1, by rw [h331]; omega, dFr_of f7 (by rw [v8]; omega) ?_⟩
      rw [v8, Int.toNat_natCast, ← hitL_agree (a57 : Agree 380 ρ5 ρ7) (by decide)]
      exact hyes hlt
    · right
      refine ⟨by rw [h331]; exact g1, dFx_of f7 ?_⟩
      rw [v8, e7]
      have : ¬ n < ρ5.len 201 := fun hlt => by
        have h1 := hyes hlt
        rw [← hit5, g2 n (by omega)] at h1; cases h1
      omega
  · by_cases hN : Nxt m (ρ.i 204) (ρ.i 205)
    · refine .inl ⟨hN.2.1, hN.2.2, ks_cons ?_ (ks_cons ?_ ks_nil)⟩
      · have := kc_use (e := [iV 204, iV 205, cntX]) (p := [iV 0, iV 1, isR]) (β := bN 341) (by kernel_rfl) (by kernel_rfl) a37 (by kernel_rfl) (y46 hN)
        show Kc 46 _ (tupY (ρ7.i 351) (ρ7.i 204) (ρ7.i 205))
        rw [v7, ← ag.i 204 (by decide), ← ag.i 205 (by decide)]
        exact this
      · have := kc_use (e := [iV 204, iV 205, cntD]) (p := [iV 0, iV 1, isR]) (β := bN 401) (by kernel_rfl) (by kernel_rfl) (Agree.refl 500 ρ7) (by kernel_rfl) (y95 hN)
        show Kc 95 _ (tupY (ρ7.i 351) (ρ7.i 204) (ρ7.i 205))
        rw [v7, ← ag.i 204 (by decide), ← ag.i 205 (by decide)]
        exact this
    · refine .inr (ks_cons ?_ (ks_cons ?_ ks_nil))
      · exact kc_use (e := [iV 204, iV 205, cntX]) (p := [iV 0, iV 1, isR]) (β := bN 341) (by kernel_rfl) (by kernel_rfl) a37 (by kernel_rfl) (z46 hN)
      · exact kc_use (e := [iV 204, iV 205, cntD]) (p := [iV 0, iV 1, isR]) (β := bN 401) (by kernel_rfl) (by kernel_rfl) (Agree.refl 500 ρ7) (by kernel_rfl) (z95 hN)
/-! ### Where there is no log -/
def bO : Bind := ⟨[(0, .var 204), (1, .var 205)], [], [], [(0, .lit 1, .one [.i .i64 (.cl 0 1 (.var 200))])]⟩
theorem oneX_den (ρ : Rho) : X.denL ρ [iV 204, iV 205, oneX] = X.denL (bO.ap ρ) [iV 0, iV 1, isR] := rfl
structure Pn (ρ ρ' : Rho) : Prop where
  ag : Agree 300 ρ ρ'
  rk : Rk ρ ρ'
  kp : ∃ v, ∀ p ∈ ksP depX v col0, kOk ρ' p
  nx : ((0 ≤ ρ.i 204 ∧ ρ.i 204 < 3) ∧ (0 ≤ ρ.i 205 ∧ ρ.i 205 < 3) ∧ ∀ p ∈ ksYN, kOk ρ' p) ∨ ∀ p ∈ ksZN, kOk ρ' p
theorem putN_ks (ρ : Rho) (hc : Cf ρ) : ∃ ρ', Pn ρ ρ' := by
  obtain ⟨ρ1, a1, r1⟩ := ros_ks ρ hc
  obtain ⟨y46, z46⟩ := next46 (bO.ap ρ1) (by show (1 : Nat) < _; omega)
  obtain ⟨y95, z95⟩ := next95 (bO.ap ρ1) (by show (1 : Nat) < _; omega)
  generalize mx ((bO.ap ρ1).ci 0 0) ((bO.ap ρ1).len 0) = m at y46 z46 y95 z95
  let β4 : Bind := ⟨[(351, .lit (m + 1))], [], [], []⟩
  have a4 : Agree 350 ρ1 (β4.ap ρ1) := Bind.agree rfl ρ1
  have v4 : (β4.ap ρ1).i 351 = m + 1 := rfl
  generalize β4.ap ρ1 = ρ4 at a4 v4
  obtain ⟨ρ5, a5, v, k5⟩ := part_ks ρ4 (e := depX) (c := col0) (k := 21) (x := .lit 0) (y := .lit 0) (z := .lit 0) (by kernel_rfl) (by kernel_rfl) (by kernel_rfl) (by kernel_rfl) (by kernel_rfl)
  have a15 : Agree 350 ρ1 ρ5 := a4.trans (a5.le (by decide))
  have ag : Agree 300 ρ ρ5 := a1.trans (a15.le (by decide))
  have v5 : ρ5.i 351 = m + 1 := by rw [← a5.i 351 (by decide), v4]
  have d0 : (bO.ap ρ1).i 0 = ρ.i 204 := (a1.i 204 (by decide)).symm
  have d1 : (bO.ap ρ1).i 1 = ρ.i 205 := (a1.i 205 (by decide)).symm
  rw [d0, d1] at y46 z46 y95 z95
  refine ⟨ρ5, ag, r1.agree a15 (by decide), ⟨v, k5⟩, ?_⟩
  by_cases hN : Nxt m (ρ.i 204) (ρ.i 205)
  · refine .inl ⟨hN.2.1, hN.2.2, ks_cons ?_ (ks_cons ?_ ks_nil)⟩
    · show Kc 46 (X.denL ρ5 [iV 204, iV 205, oneX]) (tupY (ρ5.i 351) (ρ5.i 204) (ρ5.i 205))
      rw [v5, ← ag.i 204 (by decide), ← ag.i 205 (by decide), ← X.belL_den a15 [iV 204, iV 205, oneX] (by kernel_rfl), oneX_den]
      exact y46 hN
    · show Kc 95 (X.denL ρ5 [iV 204, iV 205, oneX]) (tupY (ρ5.i 351) (ρ5.i 204) (ρ5.i 205))
      rw [v5, ← ag.i 204 (by decide), ← ag.i 205 (by decide), ← X.belL_den a15 [iV 204, iV 205, oneX] (by kernel_rfl), oneX_den]
      exact y95 hN
  · refine .inr (ks_cons ?_ (ks_cons ?_ ks_nil))
    · show Kc 46 (X.denL ρ5 [iV 204, iV 205, oneX]) tupZ
      rw [← X.belL_den a15 [iV 204, iV 205, oneX] (by kernel_rfl), oneX_den]
      exact z46 hN
    · show Kc 95 (X.denL ρ5 [iV 204, iV 205, oneX]) tupZ
      rw [← X.belL_den a15 [iV 204, iV 205, oneX] (by kernel_rfl), oneX_den]
      exact z95 hN
/-! ### Writes of elsewhere -/
theorem inj_ks (ρ : Rho) (hc : Cf ρ) (hl : ρ.len 201 ≤ 256) : ∃ ρ', Agree 300 ρ ρ' ∧ Rk ρ ρ' ∧ (∀ p ∈ ksC, kOk ρ' p) ∧ (0 ≤ ρ'.i 321 ∧ 0 ≤ ρ'.i 322 ∧ 0 ≤ ρ'.i 323) ∧ ∃ v, ∀ p ∈ ksP depI v colX, kOk ρ' p := by
  obtain ⟨ρ1, a1, r1⟩ := ros_ks ρ hc
  have e1 : ρ1.len 201 = ρ.len 201 := (a1.len 201 (by decide)).symm
  obtain ⟨ρ2, a2, c2⟩ := log_ks ρ1 (by omega)
  obtain ⟨ρ5, a5, v, k5⟩ := part_ks ρ2 (e := depI) (c := colX) (k := 39) (x := .var 321) (y := .var 322) (z := .var 323) (by kernel_rfl) (by kernel_rfl) (by kernel_rfl) (by kernel_rfl) (by kernel_rfl)
  have a15 : Agree 310 ρ1 ρ5 := a2.trans (a5.le (by decide))
  exact ⟨ρ5, a1.trans (a15.le (by decide)), r1.agree a15 (by decide), ks_agree (a5.le (by decide)) ksC_bel c2.ks, by rw [← a5.i 321 (by decide), ← a5.i 322 (by decide), ← a5.i 323 (by decide)]; exact c2.nn, v, k5⟩
theorem injN_ks (ρ : Rho) (hc : Cf ρ) : ∃ ρ', Agree 300 ρ ρ' ∧ Rk ρ ρ' ∧ ∃ v, ∀ p ∈ ksP depI v col0, kOk ρ' p := by
  obtain ⟨ρ1, a1, r1⟩ := ros_ks ρ hc
  obtain ⟨ρ5, a5, v, k5⟩ := part_ks ρ1 (e := depI) (c := col0) (k := 39) (x := .lit 0) (y := .lit 0) (z := .lit 0) (by kernel_rfl) (by kernel_rfl) (by kernel_rfl) (by kernel_rfl) (by kernel_rfl)
  exact ⟨ρ5, a1.trans (a5.le (by decide)), r1.agree a5 (by decide), v, k5⟩
end Go.Proofs.Ytonefailiekemaa
