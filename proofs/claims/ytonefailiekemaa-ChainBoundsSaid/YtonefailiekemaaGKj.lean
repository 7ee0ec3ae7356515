/- ChainBounds: every act leads on where there is an epoch and no log. -/
import Derived.Test.YtonefailiekemaaGKi
namespace Go.Proofs.Ytonefailiekemaa
open Go Go.Proofs.Aw Go.Proofs.Xw
set_option maxRecDepth 100000
theorem hpN_bel : (mS hpN).bel 300 = true := by kernel_rfl
theorem goM {s' : Nat} {ρ ρ1 : Rho} {c : Cfg} {Ψ Φ : Facts} {β : Bind} {nm : List (Nm × Nm)} {L : XS} {t : T (XE × XS)} (ag : Agree 300 ρ ρ1) (hA : At 0 ρ1) (cok : CfgOk Try.prog ρ1 c) (he : 1 ≤ ρ.i 210) (hk : Facts.ok ρ1 Φ) (hrun : mRun c (Ψ ++ Φ ++ epF) (mS hpN) = t)
    (hs : t.sel ρ1 = some (.normal, L)) (hok : okS 0 200 β nm (Ss s') L = true) (hg : β.ge 200 = true) (hi : lassoc 200 β.i = some (.op .add .i64 (.var 200) (.lit 1))) (hR : To s' β ρ1) (hb : bdOk β Ψ = true := by kernel_rfl) (h0 : s' ≠ 0 := by decide) (hl : lgOk β = true := by kernel_rfl) : Goes 1 ρ :=
  goes (s := 1) (L := L) (Φ := Ψ ++ Φ ++ epF) (XS.bel_den ag (mS hpN) hpN_bel) ag cok (all_ok (all_ok (all_ok (bd_ok hR h0 hl hb) hk) (epF_ok (by rw [← ag.i 210 (by decide)]; exact he))) (kF_ok hA.lim hA.lt)) (by show (mRun c (Ψ ++ Φ ++ epF) (mS hpN)).sel ρ1 = _; rw [hrun]; exact hs) hok hg hi hA.lim hA.lt hR
theorem toNX {ρ : Rho} (h : At 0 ρ) : To 1 bNX ρ := .inr (.inl ⟨rfl, bNX_z, bNX_l, iv_x bNX_c bNX_g h.iv bNX_224 bNX_225 bNX_226 bNX_229⟩)
/-- Nothing is done. -/
theorem goNX {ρ ρ1 : Rho} {c : Cfg} {Φ : Facts} {t : T (XE × XS)} (ag : Agree 300 ρ ρ1) (hA : At 0 ρ1) (cok : CfgOk Try.prog ρ1 c) (he : 1 ≤ ρ.i 210) (hk : Facts.ok ρ1 Φ) (hrun : mRun c (bdNX ++ Φ ++ epF) (mS hpN) = t) (hs : t.sel ρ1 = some (.normal, lS hNX 101)) : Goes 1 ρ :=
  goM ag hA cok he hk hrun hs bNX_ok bNX_g bNX_i (toNX hA)
/-- The log's first write. -/
theorem toA {β : Bind} {sc : List Sc} {ρ : Rho} (h : At 0 ρ) (hz : lassoc 901 β.b = some (.lit true)) (hl' : lassoc 902 β.b = some (.lit true)) (hr : lassoc 201 β.r = some (.lit 1, .one sc))
    (hc : cfgIs β fC0 (.var 220) = true) (hg : β.ge 200 = true) (hb : (β.ap ρ).i 224 = ρ.i 224) (hd : (β.ap ρ).i 225 = ρ.i 225) (hls : ρ.i 302 = lsV ρ) (hs : (β.ap ρ).i 226 = stl (ρ.i 302 = ρ.i 206) (ρ.b 220) (ρ.i 226) (ρ.i 225) (ρ.i 224)) (h9 : (β.ap ρ).i 229 = ρ.i 229) : To 2 β ρ := by
  have hl : (β.ap ρ).len 201 = 1 := by rw [ap_len hr]; rfl
  have iv := h.iv
  have hid : stl (ρ.i 302 = ρ.i 206) (ρ.b 220) (ρ.i 226) (ρ.i 225) (ρ.i 224) = ρ.i 226 := stl_id fun hp => iv.st (by rw [← hls]; exact hp)
  have d1 := iv.d1
  exact .inr (.inr ⟨rfl, hz, hl', by rw [hl]; omega, iv_same hc hg iv (p := ρ.i 302 = ρ.i 206) (by rw [hls]) hb hd hs (by rw [h9, hs, hid]; exact iv.eq) (Int.le_refl _) (by rw [hl]; omega) (Int.le_refl _) iv.s1⟩)
theorem stepN_X {ρ : Rho} (hA : At 0 ρ) (h : ∀ k ∈ ([1, 2, 3, 4, 5, 6, 7, 8] : List Int), (kdE k).den ρ = false) (he : 1 ≤ ρ.i 210) : Goes 1 ρ :=
  goNX (Agree.refl _ _) hA (c0_ok ks_nil) he (kdX_ok h) rNX_run rfl
/-- Sync. -/
theorem stepN_S {ρ : Rho} (hA : At 0 ρ) (hk : (kdE 5).den ρ = true) : Goes 1 ρ := by
  obtain ⟨ρ1, ag, r⟩ := ros_ks ρ hA.iv.cf
  have hl := r.lsE ag hA.iv.cf
  have hA1 := hA.agree ag
  have iv := hA1.iv
  have d1 := iv.d1
  have b0 := iv.b0
  have b1 := iv.b1
  have s1 := iv.s1
  refine goM ag hA1 (c0_ok r.ks) r.e (kd_ok (kd_agree ag hk)) rNS_run rfl bNS_ok bNS_g bNS_i (.inr (.inl ⟨rfl, bNS_z, bNS_l, ?_⟩))
  have e6 : (bNS.ap ρ1).i 226 = stl (ρ1.i 302 = ρ1.i 206) (ρ1.b 220) (ρ1.i 226) 0 (ρ1.i 224) := by rw [ap_i bNS_226, stlC_den r.ls.1]; rfl
  have e9 : (bNS.ap ρ1).i 229 = stl (ρ1.i 302 = ρ1.i 206) (ρ1.b 220) (ρ1.i 229) 0 (ρ1.i 224) := by rw [ap_i bNS_229, stlD_den]; rfl
  exact iv_same bNS_c bNS_g iv (ρ1.i 302 = ρ1.i 206) (by rw [hl]) (ap_i bNS_224) (D := 0) (ap_i bNS_225) e6 (by rw [e9, e6, iv.eq]) d1 (Int.le_refl _) (Int.le_refl _) (by omega)
theorem stepN_H {ρ : Rho} (hA : At 0 ρ) (hk : (kdE 6).den ρ = true) : Goes 1 ρ := by
  obtain ⟨ρ1, a1, r1⟩ := ros_ks ρ hA.iv.cf
  obtain ⟨ρ2, a2, kh⟩ := full_ks ρ1 (m := cI 1) (e := .cl 0 1 (.var 200)) (by kernel_rfl) (by kernel_rfl) (by kernel_rfl)
  have ag : Agree 300 ρ ρ2 := a1.trans (a2.le (by decide))
  have r := r1.agree a2 (by decide)
  have hl := r.lsE ag hA.iv.cf
  have hA1 := hA.agree ag
  have cok : CfgOk Try.prog ρ2 (c0 (ksH (cI 1) ++ ksRos)) := c0_ok (ks_app kh r.ks)
  have k6 := kd_ok (kd_agree ag hk)
  have iv := hA1.iv
  have d1 := iv.d1
  have b1 := iv.b1
  have s1 := iv.s1
  refine dec (ρ := ρ2) (.eq (.cl 0 2 (.var 200)) (.var 210)) (fun h1 => ?_) (fun h1 => goNX ag hA1 cok r.e (all_ok k6 (one_ok h1)) rNH0_run rfl)
  refine dec (ρ := ρ2) (.lt (.cl 0 1 (.var 200)) (.lit 0)) (fun h2 => goNX ag hA1 cok r.e (all_ok k6 (one_ok h2)) rNH1_run rfl) (fun h2 => ?_)
  refine dec (ρ := ρ2) (.eq (.cl 0 1 (.var 200)) (.var 304)) (fun h3 => ?_) (fun h3 => goNX ag hA1 cok r.e (all_ok k6 (one_ok h3)) rNH2_run rfl)
  refine goM ag hA1 cok r.e (all_ok k6 (Facts.ok_cons h1 (Facts.ok_cons h2 (one_ok h3)))) rNH3_run rfl bNH3_ok bNH3_g bNH3_i (.inr (.inl ⟨rfl, bNH3_z, bNH3_l, ?_⟩))
  let x : Int → Int := fun s => if ρ2.b 308 = true then max s (min ((IE.cl 0 4 (.var 200)).den ρ2) (ρ2.i 225)) else max (max s (ρ2.i 224)) (min ((IE.cl 0 3 (.var 200)).den ρ2) (ρ2.i 225))
  have e6 : (bNH3.ap ρ2).i 226 = stl (ρ2.i 302 = ρ2.i 206) (ρ2.b 220) (x (ρ2.i 226)) (ρ2.i 225) (ρ2.i 224) := by rw [ap_i bNH3_226, stlC_den r.ls.1]; rfl
  have e9 : (bNH3.ap ρ2).i 229 = stl (ρ2.i 302 = ρ2.i 206) (ρ2.b 220) (x (ρ2.i 229)) (ρ2.i 225) (ρ2.i 224) := by rw [ap_i bNH3_229, stlD_den]; rfl
  have hx : ρ2.i 226 ≤ x (ρ2.i 226) ∧ x (ρ2.i 226) ≤ ρ2.i 225 := by
    show ρ2.i 226 ≤ (if ρ2.b 308 = true then _ else _) ∧ (if ρ2.b 308 = true then _ else _) ≤ _
    split <;> omega
  exact iv_same bNH3_c bNH3_g iv (ρ2.i 302 = ρ2.i 206) (by rw [hl]) (ap_i bNH3_224) (D := ρ2.i 225) (ap_i bNH3_225) e6 (by rw [e9, e6, iv.eq]) (Int.le_refl _) d1 hx.1 hx.2
theorem stepN_J {ρ : Rho} (hA : At 0 ρ) (hk : (kdE 8).den ρ = true) : Goes 1 ρ := by
  obtain ⟨ρ1, a1, r1⟩ := ros_ks ρ hA.iv.cf
  refine dec (ρ := ρ1) (.lt (.var 304) (.lit 0)) (fun h1 => goNX a1 (hA.agree a1) (c0_ok r1.ks) r1.e (all_ok (kd_ok (kd_agree a1 hk)) (one_ok h1)) rNJ0_run rfl) (fun h1 => ?_)
  obtain ⟨ρ2, a2, kh⟩ := full_ks ρ1 (m := iV 304) (e := .var 304) (by kernel_rfl) (by kernel_rfl) (by kernel_rfl)
  have ag : Agree 300 ρ ρ2 := a1.trans (a2.le (by decide))
  have r := r1.agree a2 (by decide)
  have hl := r.lsE ag hA.iv.cf
  have hA1 := hA.agree ag
  have iv := hA1.iv
  have d1 := iv.d1
  have b1 := iv.b1
  have s1 := iv.s1
  have h1' : (BE.lt (.var 304) (.lit 0)).den ρ2 = false := by rw [dlt_f] at h1 ⊢; simp only [IE.den] at h1 ⊢; rw [← a2.i 304 (by decide)]; exact h1
  refine goM ag hA1 (c0_ok (ks_app kh r.ks)) r.e (all_ok (kd_ok (kd_agree ag hk)) (one_ok h1')) rNJ1_run rfl bNJ1_ok bNJ1_g bNJ1_i (.inr (.inl ⟨rfl, bNJ1_z, bNJ1_l, ?_⟩))
  let x : Int → Int := fun s => if ρ2.b 308 = true then max s (ρ2.i 225) else max (max s (ρ2.i 224)) (ρ2.i 225)
  have e6 : (bNJ1.ap ρ2).i 226 = stl (ρ2.i 302 = ρ2.i 206) (ρ2.b 220) (x (ρ2.i 226)) (ρ2.i 225) (ρ2.i 224) := by rw [ap_i bNJ1_226, stlC_den r.ls.1]; rfl
  have e9 : (bNJ1.ap ρ2).i 229 = stl (ρ2.i 302 = ρ2.i 206) (ρ2.b 220) (x (ρ2.i 229)) (ρ2.i 225) (ρ2.i 224) := by rw [ap_i bNJ1_229, stlD_den]; rfl
  have hx : ρ2.i 226 ≤ x (ρ2.i 226) ∧ x (ρ2.i 226) ≤ ρ2.i 225 := by
    show ρ2.i 226 ≤ (if ρ2.b 308 = true then _ else _) ∧ (if ρ2.b 308 = true then _ else _) ≤ _
    split <;> omega
  exact iv_same bNJ1_c bNJ1_g iv (ρ2.i 302 = ρ2.i 206) (by rw [hl]) (ap_i bNJ1_224) (D := ρ2.i 225) (ap_i bNJ1_225) e6 (by rw [e9, e6, iv.eq]) (Int.le_refl _) d1 hx.1 hx.2
theorem toN6 {ρ : Rho} (hA : At 0 ρ) (hl : ρ.i 302 = lsV ρ) (h3 : 0 ≤ ρ.i 302) : To 2 bNT6 ρ :=
  toA hA bNT6_z bNT6_l bNT6_r bNT6_c bNT6_g (ap_i bNT6_224) (ap_i bNT6_225) hl (by rw [ap_i bNT6_226, stlC_den h3]; rfl) (ap_i bNT6_229)
theorem stepN_T {ρ : Rho} (hA : At 0 ρ) (hk : (kdE 4).den ρ = true) : Goes 1 ρ := by
  obtain ⟨ρ1, ag, r⟩ := ros_ks ρ hA.iv.cf
  have hl := r.lsE ag hA.iv.cf
  have hA1 := hA.agree ag
  have k4 := kd_ok (kd_agree ag hk)
  obtain ⟨b, kr, _⟩ := re_ks (e := eI) (by kernel_rfl) (by kernel_rfl) ρ1
  cases b with
  | false => exact goNX ag hA1 (c0_ok (ks_app kr r.ks)) r.e k4 rNT0_run rfl
  | true =>
    have cok : CfgOk Try.prog ρ1 (c0 (eT true eI ++ ksRos)) := c0_ok (ks_app kr r.ks)
    refine dec (ρ := ρ1) (.eq (.cl 0 2 (.var 200)) (.var 210)) (fun h1 => ?_) (fun h1 => goNX ag hA1 cok r.e (all_ok k4 (one_ok h1)) rNT1_run rfl)
    refine dec (ρ := ρ1) (.lt (.cl 0 1 (.var 200)) (.lit 0)) (fun h2 => goNX ag hA1 cok r.e (all_ok k4 (one_ok h2)) rNT2_run rfl) (fun h2 => ?_)
    refine dec (ρ := ρ1) (.eq (.cl 0 1 (.var 200)) (.var 303)) (fun h3 => ?_) (fun h3 => goNX ag hA1 cok r.e (all_ok k4 (one_ok h3)) rNT3_run rfl)
    refine dec (ρ := ρ1) (.eq (.cl 0 3 (.var 200)) (.lit 1)) (fun h4 => ?_) (fun h4 => goNX ag hA1 cok r.e (all_ok k4 (one_ok h4)) rNT4_run rfl)
    exact goM ag hA1 cok r.e (all_ok k4 (Facts.ok_cons h1 (Facts.ok_cons h2 (Facts.ok_cons h3 (one_ok h4))))) rNT6_run rfl bNT6_ok bNT6_g bNT6_i (toN6 hA1 hl r.ls.1)
theorem stepN_U {ρ : Rho} (hA : At 0 ρ) (hk : (kdE 7).den ρ = true) : Goes 1 ρ := by
  obtain ⟨ρ1, ag, r⟩ := ros_ks ρ hA.iv.cf
  have hl := r.lsE ag hA.iv.cf
  have hA1 := hA.agree ag
  have k4 := kd_ok (kd_agree ag hk)
  obtain ⟨b, kr, _⟩ := re_ks (e := eI) (by kernel_rfl) (by kernel_rfl) ρ1
  cases b with
  | false => exact goNX ag hA1 (c0_ok (ks_app kr r.ks)) r.e k4 rNU0_run rfl
  | true =>
    have cok : CfgOk Try.prog ρ1 (c0 (eT true eI ++ ksRos)) := c0_ok (ks_app kr r.ks)
    refine dec (ρ := ρ1) (.lt (.var 303) (.lit 0)) (fun h2 => goNX ag hA1 cok r.e (all_ok k4 (one_ok h2)) rNU1_run rfl) (fun h2 => ?_)
    exact goM ag hA1 cok r.e (all_ok k4 (one_ok h2)) rNU3_run rfl bNT6_ok bNT6_g bNT6_i (toN6 hA1 hl r.ls.1)
theorem hNE2_iv {ρ : Rho} (hA : At 0 ρ) (hr : rgB.den (bA.ap ρ) = true) (e : 0 < (IE.cl 0 5 (.var 200)).den ρ) (h7 : 0 ≤ ρ.i 307) (hl : ρ.i 307 = lsE.den (bA.ap ρ)) : To 1 bNE2 ρ := by
  have iv := hA.iv
  have d1 := iv.d1
  have s1 := iv.s1
  refine .inr (.inl ⟨rfl, bNE2_z, bNE2_l, ?_⟩)
  have e6 : (bNE2.ap ρ).i 226 = stl (ρ.i 307 = ρ.i 206) ((BE.cl 0 15 (.var 200)).den ρ) (ρ.i 226) 0 0 := by rw [ap_i bNE2_226, stlC_den h7]; rfl
  have e9 : (bNE2.ap ρ).i 229 = stl (ρ.i 307 = ρ.i 206) ((BE.cl 0 15 (.var 200)).den ρ) (ρ.i 229) 0 0 := by rw [ap_i bNE2_229, stlE_den e]; rfl
  exact iv_new bNE2_c bNE2_g hr (ρ.i 307 = ρ.i 206) (by rw [hl]) (D := 0) (ap_i bNE2_224) (ap_i bNE2_225) e6 (by rw [e9, e6, iv.eq]) (Int.le_refl _) iv.s0 (by omega) (fun _ => Int.le_refl _)
theorem stepN_E {ρ : Rho} (hA : At 0 ρ) (hk : (kdE 1).den ρ = true) : Goes 1 ρ := by
  obtain ⟨ρ1, a1, r1⟩ := ros_ks ρ hA.iv.cf
  obtain ⟨ρ2, a2, ek, eg⟩ := enter_ks ρ1
  have ag : Agree 300 ρ ρ2 := a1.trans (a2.le (by decide))
  have r := r1.agree a2 (by decide)
  have hA1 := hA.agree ag
  have k1 := kd_ok (kd_agree ag hk)
  have ab := bA_agree (a2.le (by decide) : Agree 300 ρ1 ρ2)
  have hrb : rgB.den (bA.ap ρ2) = rgB.den (bA.ap ρ1) := (BE.bel_den ab rgB rgB_bel).symm
  cases hb : rgB.den (bA.ap ρ1) with
  | false =>
    rw [hb] at ek
    exact goNX ag hA1 (c0_ok (ks_app ek r.ks)) r.e k1 rNE0_run rfl
  | true =>
    rw [hb] at ek
    obtain ⟨g1, g2, g3, g4⟩ := eg hb
    have g4 : ρ2.i 307 = lsE.den (bA.ap ρ2) := by rw [g4]; exact IE.bel_den ab lsE lsE_bel
    have g1 : 0 < (IE.cl 0 5 (.var 200)).den ρ2 := by
      simp only [IE.den] at g1 ⊢
      rw [← a2.ci 0 (by decide), ← a2.i 200 (by decide)]; omega
    have hr2 : rgB.den (bA.ap ρ2) = true := by rw [hrb, hb]
    have cok : CfgOk Try.prog ρ2 (c0 (ksE true ++ ksRos)) := c0_ok (ks_app ek r.ks)
    refine dec (ρ := ρ2) (.lt (.var 210) (.cl 0 5 (.var 200))) (fun h1 => ?_) (fun h1 => goNX ag hA1 cok r.e (all_ok k1 (one_ok h1)) rNE1_run rfl)
    refine dec (ρ := ρ2) (.eq (.var 306) (.lit 0)) (fun h2 => ?_) (fun h2 => ?_)
    · have h3 : (BE.lt (.lit 0) (.var 306)).den ρ2 = false := by rw [deq_t] at h2; rw [dlt_f]; simp only [IE.den] at h2 ⊢; omega
      exact goM ag hA1 cok r.e (all_ok (all_ok k1 (one_ok h1)) (Facts.ok_cons h2 (one_ok h3))) rNE2_run rfl bNE2_ok bNE2_g bNE2_i (hNE2_iv hA1 hr2 g1 g3 g4)
    · have h3 : (BE.lt (.lit 0) (.var 306)).den ρ2 = true := by rw [deq_f] at h2; rw [dlt_t]; simp only [IE.den] at h2 ⊢; omega
      refine dec (ρ := ρ2) (.eq (.var 306) (.var 223)) (fun h4 => ?_) (fun h4 => ?_)
      · exact goM ag hA1 cok r.e (all_ok (all_ok k1 (one_ok h1)) (Facts.ok_cons h2 (Facts.ok_cons h3 (one_ok h4)))) rNE3_run rfl bNE2_ok bNE2_g bNE2_i (hNE2_iv hA1 hr2 g1 g3 g4)
      · exact goM ag hA1 cok r.e (all_ok (all_ok k1 (one_ok h1)) (Facts.ok_cons h2 (Facts.ok_cons h3 (one_ok h4)))) rNE4_run rfl bNE4_ok bNE4_g bNE4_i (toE hr2 bNE4_z bNE4_l bNE4_c bNE4_g bNE4_224 bNE4_225 bNE4_226 bNE4_229 (fun h => absurd (bNE4_223.symm.trans h) (by simp)))
/-- Put. -/
theorem stepN_P {ρ : Rho} (hA : At 0 ρ) (hk : (kdE 2).den ρ = true) : Goes 1 ρ := by
  obtain ⟨ρ1, ag, r, ⟨v, kp⟩, hn⟩ := putN_ks ρ hA.iv.cf
  have hl := r.lsE ag hA.iv.cf
  have hA1 := hA.agree ag
  have k2 := kd_ok (kd_agree ag hk)
  by_cases hh : ρ1.i 301 = ρ1.i 206
  case neg => exact goNX ag hA1 (c0_ok r.ks) r.e (all_ok k2 (nhF_ok hh)) rNP0_run rfl
  have kh := all_ok k2 (hdF_ok r.hd hh)
  rcases hn with ⟨q1, q2, ky⟩ | kz
  · have e0 := ag.i 204 (by decide)
    have e1 := ag.i 205 (by decide)
    have kd := all_ok kh (dcF_ok (by rw [← e0]; exact q1) (by rw [← e1]; exact q2))
    cases v with
    | false => exact goNX ag hA1 (c0_ok (ks_app (ks_app kp ky) r.ks)) r.e kd rNP3_run rfl
    | true =>
      obtain ⟨b, kr, _⟩ := re_ks (e := eN) (by kernel_rfl) (by kernel_rfl) ρ1
      cases b with
      | false => exact goNX ag hA1 (c0_ok (ks_app (ks_app (ks_app kr kp) ky) r.ks)) r.e kd rNP5_run rfl
      | true =>
        refine goM (s' := 2) ag hA1 (c0_ok (ks_app (ks_app (ks_app kr kp) ky) r.ks)) r.e kd rNP6_run rfl bNP6_ok bNP6_g bNP6_i ?_
        exact toA hA1 bNP6_z bNP6_l bNP6_r bNP6_c bNP6_g (ap_i bNP6_224) (ap_i bNP6_225) hl (by rw [ap_i bNP6_226, stlD_den]; rfl) (ap_i bNP6_229)
  · cases v with
    | false => exact goNX ag hA1 (c0_ok (ks_app (ks_app kp kz) r.ks)) r.e kh rNP7_run rfl
    | true => exact goNX ag hA1 (c0_ok (ks_app (ks_app kp kz) r.ks)) r.e kh rNP2_run rfl
/-- Inject. -/
theorem stepN_I {ρ : Rho} (hA : At 0 ρ) (hk : (kdE 3).den ρ = true) : Goes 1 ρ := by
  obtain ⟨ρ1, ag, r, v, kp⟩ := injN_ks ρ hA.iv.cf
  have hl := r.lsE ag hA.iv.cf
  have hA1 := hA.agree ag
  have k2 := kd_ok (kd_agree ag hk)
  by_cases hh : ρ1.i 301 = ρ1.i 206
  case neg => exact goNX ag hA1 (c0_ok r.ks) r.e (all_ok k2 (nhF_ok hh)) rNI0_run rfl
  have kh := all_ok k2 (hdF_ok r.hd hh)
  obtain ⟨b, kr, ke⟩ := re_ks (e := eI) (by kernel_rfl) (by kernel_rfl) ρ1
  cases b with
  | false => exact goNX ag hA1 (c0_ok (ks_app kr r.ks)) r.e kh rNI1_run rfl
  | true =>
    have cok : CfgOk Try.prog ρ1 (c0 (eT true eI ++ ksRos)) := c0_ok (ks_app kr r.ks)
    have kv : ∀ p ∈ eT true eI ++ ksP depI v col0 ++ ksRos, kOk ρ1 p := ks_app (ks_app kr kp) r.ks
    refine dec (ρ := ρ1) (.eq (.cl 0 31 (.var 200)) (.var 205)) (fun h1 => ?_) (fun h1 => goNX ag hA1 cok r.e (all_ok kh (one_ok h1)) rNI2_run rfl)
    refine dec (ρ := ρ1) (.eq (.cl 0 30 (.var 200)) (.var 204)) (fun h2 => goNX ag hA1 cok r.e (all_ok kh (one_ok h2)) rNI3_run rfl) (fun h2 => ?_)
    have ki := all_ok (all_ok kh (eF_ok (ke rfl).1)) (Facts.ok_cons h1 (one_ok h2))
    refine dec (ρ := ρ1) (.lt (.lit 0) (.cl 0 32 (.var 200))) (fun h3 => ?_) (fun h3 => goNX ag hA1 cok r.e (all_ok ki (one_ok h3)) rNI4_run rfl)
    refine dec (ρ := ρ1) (.lt (.lit 1) (.cl 0 32 (.var 200))) (fun h4 => ?_) (fun h4 => ?_)
    · have h5 : (BE.eq (.cl 0 32 (.var 200)) (.lit 1)).den ρ1 = false := by rw [dlt_t] at h4; rw [deq_f]; simp only [IE.den] at h4 ⊢; omega
      exact goNX ag hA1 cok r.e (all_ok ki (Facts.ok_cons h3 (Facts.ok_cons h4 (one_ok h5)))) rNI5_run rfl
    · have h5 : (BE.eq (.cl 0 32 (.var 200)) (.lit 1)).den ρ1 = true := by rw [dlt_t] at h3; rw [dlt_f] at h4; rw [deq_t]; simp only [IE.den] at h3 h4 ⊢; omega
      have kq := all_ok ki (Facts.ok_cons h3 (Facts.ok_cons h4 (one_ok h5)))
      cases v with
      | false => exact goNX ag hA1 (c0_ok kv) r.e kq rNI6_run rfl
      | true =>
        refine goM (s' := 2) ag hA1 (c0_ok kv) r.e kq rNI8_run rfl bNI8_ok bNI8_g bNI8_i ?_
        exact toA hA1 bNI8_z bNI8_l bNI8_r bNI8_c bNI8_g (ap_i bNI8_224) (ap_i bNI8_225) hl (by rw [ap_i bNI8_226, stlD_den]; rfl) (ap_i bNI8_229)
end Go.Proofs.Ytonefailiekemaa
