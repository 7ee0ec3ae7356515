/- ChainBounds: epochs that are taken up, writes that are taken, from a log of rows. -/
import Derived.Test.YtonefailiekemaaGKh
namespace Go.Proofs.Ytonefailiekemaa
open Go Go.Proofs.Aw Go.Proofs.Xw
set_option maxRecDepth 100000
theorem hLE2_iv {ρ : Rho} (hA : AtL ρ) (hr : rgB.den (bA.ap ρ) = true) (e : 0 < (IE.cl 0 5 (.var 200)).den ρ) (h7 : 0 ≤ ρ.i 307) (hl : ρ.i 307 = lsE.den (bA.ap ρ)) : To 2 bLE2 ρ := by
  have iv := hA.at_.iv
  have d1 := iv.d1
  have s1 := iv.s1
  refine toS hA bLE2_z bLE2_l bLE2_r ?_
  have e6 : (bLE2.ap ρ).i 226 = stl (ρ.i 307 = ρ.i 206) ((BE.cl 0 15 (.var 200)).den ρ) (ρ.i 226) (ρ.len 201) (ρ.len 201) := by rw [ap_i bLE2_226, stlC_den h7]; rfl
  have e9 : (bLE2.ap ρ).i 229 = stl (ρ.i 307 = ρ.i 206) ((BE.cl 0 15 (.var 200)).den ρ) (ρ.i 229) (ρ.len 201) (ρ.len 201) := by rw [ap_i bLE2_229, stlE_den e]; rfl
  exact iv_new bLE2_c bLE2_g hr (ρ.i 307 = ρ.i 206) (by rw [hl]) (D := ρ.len 201) (ap_i bLE2_224) (ap_i bLE2_225) e6 (by rw [e9, e6, iv.eq]) (Int.le_refl _) iv.s0 (by omega) (fun _ => Int.le_refl _)
/-- An epoch without a log. -/
theorem toE {β : Bind} {ρ : Rho} (hr : rgB.den (bA.ap ρ) = true) (hz : lassoc 901 β.b = some (.lit true)) (hl' : lassoc 902 β.b = some (.lit false)) (hc : cfgIs β fA0 (.cl 0 15 (.var 200)) = true) (hg : β.ge 200 = true) (h4 : lassoc 224 β.i = some (.lit 0)) (h5 : lassoc 225 β.i = some (.lit 0)) (h6 : lassoc 226 β.i = some (.lit 0)) (h9 : lassoc 229 β.i = some (.lit 0)) (hm : lassoc 223 β.i = some (.var 223) → ρ.i 226 ≤ 0) : To 1 β ρ := by
  refine .inr (.inl ⟨rfl, hz, hl', iv_new hc hg hr (lsE.den (bA.ap ρ) = ρ.i 206) Iff.rfl (D := 0) (x := 0) (ap_i h4) (ap_i h5) ?_ (by rw [ap_i h9, ap_i h6]) (Int.le_refl _) (Int.le_refl _) (Int.le_refl _) hm⟩)
  rw [ap_i h6]
  unfold stl
  split
  · split <;> rfl
  · rfl
theorem stepL_E {ρ : Rho} (hA : AtL ρ) (hk : (kdE 1).den ρ = true) : Goes 2 ρ := by
  obtain ⟨ρ1, a1, r1⟩ := ros_ks ρ hA.at_.iv.cf
  obtain ⟨ρ2, a2, ek, eg⟩ := enter_ks ρ1
  have ag : Agree 300 ρ ρ2 := a1.trans (a2.le (by decide))
  have r := r1.agree a2 (by decide)
  have hA1 := hA.agree ag
  have k1 := kd_ok (kd_agree ag hk)
  have ab := bA_agree (a2.le (by decide) : Agree 300 ρ1 ρ2)
  have hrb : rgB.den (bA.ap ρ2) = rgB.den (bA.ap ρ1) := (BE.bel_den ab rgB rgB_bel).symm
  cases hb : rgB.den (bA.ap ρ1) with
  | false =>
    rw [hb] at ek
    exact goX ag hA1 (c0_ok (ks_app ek r.ks)) r.e k1 rLE0_run rfl
  | true =>
    rw [hb] at ek
    obtain ⟨g1, g2, g3, g4⟩ := eg hb
    have g4 : ρ2.i 307 = lsE.den (bA.ap ρ2) := by rw [g4]; exact IE.bel_den ab lsE lsE_bel
    have g1 : 0 < (IE.cl 0 5 (.var 200)).den ρ2 := by
      simp only [IE.den] at g1 ⊢
      rw [← a2.ci 0 (by decide), ← a2.i 200 (by decide)]; omega
    have hr2 : rgB.den (bA.ap ρ2) = true := by rw [hrb, hb]
    have cok : CfgOk Try.prog ρ2 (c0 (ksE true ++ ksRos)) := c0_ok (ks_app ek r.ks)
    refine dec (ρ := ρ2) (.lt (.var 210) (.cl 0 5 (.var 200))) (fun h1 => ?_) (fun h1 => goX ag hA1 cok r.e (all_ok k1 (one_ok h1)) rLE1_run rfl)
    refine dec (ρ := ρ2) (.eq (.var 306) (.lit 0)) (fun h2 => ?_) (fun h2 => ?_)
    · have h3 : (BE.lt (.lit 0) (.var 306)).den ρ2 = false := by rw [deq_t] at h2; rw [dlt_f]; simp only [IE.den] at h2 ⊢; omega
      exact goL ag hA1 cok r.e (all_ok (all_ok k1 (one_ok h1)) (Facts.ok_cons h2 (one_ok h3))) rLE2_run rfl bLE2_ok bLE2_g bLE2_i (hLE2_iv hA1 hr2 g1 g3 g4)
    · have h3 : (BE.lt (.lit 0) (.var 306)).den ρ2 = true := by rw [deq_f] at h2; rw [dlt_t]; simp only [IE.den] at h2 ⊢; omega
      refine dec (ρ := ρ2) (.eq (.var 306) (.var 223)) (fun h4 => ?_) (fun h4 => ?_)
      · exact goL ag hA1 cok r.e (all_ok (all_ok k1 (one_ok h1)) (Facts.ok_cons h2 (Facts.ok_cons h3 (one_ok h4)))) rLE3_run rfl bLE2_ok bLE2_g bLE2_i (hLE2_iv hA1 hr2 g1 g3 g4)
      · exact goL ag hA1 cok r.e (all_ok (all_ok k1 (one_ok h1)) (Facts.ok_cons h2 (Facts.ok_cons h3 (one_ok h4)))) rLE4_run rfl bLE4_ok bLE4_g bLE4_i (toE hr2 bLE4_z bLE4_l bLE4_c bLE4_g bLE4_224 bLE4_225 bLE4_226 bLE4_229 (fun h => absurd (bLE4_223.symm.trans h) (by simp)))
theorem lt_of {ρ : Rho} (h : (BE.lt (.len 201) (.lit 256)).den ρ = true) : ρ.len 201 < 256 := by rw [dlt_t] at h; simp only [IE.den] at h; omega
theorem toT6 {ρ : Rho} (hA : AtL ρ) (h : ρ.len 201 < 256) (hl : ρ.i 302 = lsV ρ) (h3 : 0 ≤ ρ.i 302) : To 2 bLT6 ρ :=
  toM hA h bLT6_z bLT6_l bLT6_r bLT6_c bLT6_g (ap_i bLT6_224) (ap_i bLT6_225) hl (by rw [ap_i bLT6_226, stlC_den h3]; rfl) (ap_i bLT6_229)
theorem stepL_T {ρ : Rho} (hA : AtL ρ) (hk : (kdE 4).den ρ = true) : Goes 2 ρ := by
  obtain ⟨ρ1, ag, r⟩ := ros_ks ρ hA.at_.iv.cf
  have hl := r.lsE ag hA.at_.iv.cf
  have hA1 := hA.agree ag
  have k4 := kd_ok (kd_agree ag hk)
  obtain ⟨b, kr, _⟩ := re_ks (e := eI) (by kernel_rfl) (by kernel_rfl) ρ1
  cases b with
  | false => exact goX ag hA1 (c0_ok (ks_app kr r.ks)) r.e k4 rLT0_run rfl
  | true =>
    have cok : CfgOk Try.prog ρ1 (c0 (eT true eI ++ ksRos)) := c0_ok (ks_app kr r.ks)
    refine dec (ρ := ρ1) (.eq (.cl 0 2 (.var 200)) (.var 210)) (fun h1 => ?_) (fun h1 => goX ag hA1 cok r.e (all_ok k4 (one_ok h1)) rLT1_run rfl)
    refine dec (ρ := ρ1) (.lt (.cl 0 1 (.var 200)) (.lit 0)) (fun h2 => goX ag hA1 cok r.e (all_ok k4 (one_ok h2)) rLT2_run rfl) (fun h2 => ?_)
    refine dec (ρ := ρ1) (.eq (.cl 0 1 (.var 200)) (.var 303)) (fun h3 => ?_) (fun h3 => goX ag hA1 cok r.e (all_ok k4 (one_ok h3)) rLT3_run rfl)
    refine dec (ρ := ρ1) (.eq (.cl 0 3 (.var 200)) (.op .add .i64 (.len 201) (.lit 1))) (fun h4 => ?_) (fun h4 => goX ag hA1 cok r.e (all_ok k4 (one_ok h4)) rLT4_run rfl)
    refine dec (ρ := ρ1) (.lt (.len 201) (.lit 256)) (fun h5 => ?_) (fun h5 => goX ag hA1 cok r.e (all_ok k4 (one_ok h5)) rLT5_run rfl)
    exact goL ag hA1 cok r.e (all_ok k4 (Facts.ok_cons h1 (Facts.ok_cons h2 (Facts.ok_cons h3 (Facts.ok_cons h4 (one_ok h5)))))) rLT6_run rfl bLT6_ok bLT6_g bLT6_i (toT6 hA1 (lt_of h5) hl r.ls.1)
theorem stepL_U {ρ : Rho} (hA : AtL ρ) (hk : (kdE 7).den ρ = true) : Goes 2 ρ := by
  obtain ⟨ρ1, ag, r⟩ := ros_ks ρ hA.at_.iv.cf
  have hl := r.lsE ag hA.at_.iv.cf
  have hA1 := hA.agree ag
  have k4 := kd_ok (kd_agree ag hk)
  obtain ⟨b, kr, _⟩ := re_ks (e := eI) (by kernel_rfl) (by kernel_rfl) ρ1
  cases b with
  | false => exact goX ag hA1 (c0_ok (ks_app kr r.ks)) r.e k4 rLU0_run rfl
  | true =>
    have cok : CfgOk Try.prog ρ1 (c0 (eT true eI ++ ksRos)) := c0_ok (ks_app kr r.ks)
    refine dec (ρ := ρ1) (.lt (.var 303) (.lit 0)) (fun h2 => goX ag hA1 cok r.e (all_ok k4 (one_ok h2)) rLU1_run rfl) (fun h2 => ?_)
    refine dec (ρ := ρ1) (.lt (.len 201) (.lit 256)) (fun h5 => ?_) (fun h5 => goX ag hA1 cok r.e (all_ok k4 (one_ok h5)) rLU2_run rfl)
    exact goL ag hA1 cok r.e (all_ok k4 (Facts.ok_cons h2 (one_ok h5))) rLU3_run rfl bLT6_ok bLT6_g bLT6_i (toT6 hA1 (lt_of h5) hl r.ls.1)
/-- Put. -/
theorem stepL_P {ρ : Rho} (hA : AtL ρ) (hk : (kdE 2).den ρ = true) : Goes 2 ρ := by
  obtain ⟨ρ1, ag, r, kc, ⟨v, kp⟩, n1, n2, l1, l2, hf, hn⟩ := put_ks ρ hA.at_.iv.cf hA.l.2
  have hl := r.lsE ag hA.at_.iv.cf
  have hA1 := hA.agree ag
  have k2 := kd_ok (kd_agree ag hk)
  have el := ag.len 201 (by decide)
  by_cases hh : ρ1.i 301 = ρ1.i 206
  case neg => exact goX ag hA1 (c0_ok r.ks) r.e (all_ok k2 (nhF_ok hh)) rLP0_run rfl
  have kh := all_ok k2 (hdF_ok r.hd hh)
  have c1 : (BE.not (.lt (.var 340) (.len 201))).den ρ1 = true := by rw [dnot_t, dlt_f]; simp only [IE.den]; omega
  have c2 : (BE.and (.not (.lt (.var 340) (.len 201))) (.not (.lt (.var 400) (.len 201)))).den ρ1 = true := by rw [dand_t]; refine ⟨c1, ?_⟩; rw [dnot_t, dlt_f]; simp only [IE.den]; omega
  rcases hf with ⟨f1, f2, lf⟩ | ⟨f1, lf⟩
  · have kf : Facts.ok ρ1 fdF := Facts.ok_cons (by rw [dlt_f]; exact f1) (Facts.ok_cons (by rw [dlt_t]; simp only [IE.den]; omega) (one_ok (by rw [dlt_f]; simp only [IE.den]; have := hA.l.2; omega)))
    exact goX ag hA1 (cR_cfg (ks_app kc r.ks) l1 lf l2) r.e (all_ok kh kf) rLP1_run rfl
  · have kf := all_ok kh (show Facts.ok ρ1 nfF from one_ok (by rw [deq_t]; exact f1))
    rcases hn with ⟨q1, q2, ky⟩ | kz
    · have e0 := ag.i 204 (by decide)
      have e1 := ag.i 205 (by decide)
      have kd := all_ok kf (dcF_ok (by rw [← e0]; exact q1) (by rw [← e1]; exact q2))
      cases v with
      | false => exact goX ag hA1 (cX_cfg (ks_app (ks_app (ks_app kp ky) kc) r.ks) l1 lf l2) r.e kd rLP3_run (by rw [T.sel, if_pos c1]; rfl)
      | true =>
        have kall := ks_app (ks_app (ks_app kp ky) kc) r.ks
        obtain ⟨b, kr, _⟩ := re_ks (e := eL) (by kernel_rfl) (by kernel_rfl) ρ1
        refine dec (ρ := ρ1) (.lt (.len 201) (.lit 256)) (fun h5 => ?_) (fun h5 => goX ag hA1 (cX_cfg kall l1 lf l2) r.e (all_ok kd (one_ok h5)) rLP4_run (by rw [T.sel, if_pos c2]; rfl))
        cases b with
        | false => exact goX ag hA1 (cX_cfg (ks_app (ks_app (ks_app (ks_app kr kp) ky) kc) r.ks) l1 lf l2) r.e kd rLP5_run (by rw [T.sel, if_pos c2]; rfl)
        | true =>
          refine goL (s' := 2) ag hA1 (cX_cfg (ks_app (ks_app (ks_app (ks_app kr kp) ky) kc) r.ks) l1 lf l2) r.e (all_ok kd (one_ok h5)) rLP6_run (by rw [T.sel, if_pos c2]; rfl) bLP6_ok bLP6_g bLP6_i ?_
          exact toM hA1 (lt_of h5) bLP6_z bLP6_l bLP6_r bLP6_c bLP6_g (ap_i bLP6_224) (ap_i bLP6_225) hl (by rw [ap_i bLP6_226, stlD_den]; rfl) (ap_i bLP6_229)
    · cases v with
      | false => exact goX ag hA1 (cX_cfg (ks_app (ks_app (ks_app kp kz) kc) r.ks) l1 lf l2) r.e kf rLP7_run (by rw [T.sel, if_pos c1]; rfl)
      | true => exact goX ag hA1 (cX_cfg (ks_app (ks_app (ks_app kp kz) kc) r.ks) l1 lf l2) r.e kf rLP2_run (by rw [T.sel, if_pos c2]; rfl)
/-- Inject. -/
def pkE : IE := .ite (.eq (.cl 0 30 (.var 200)) (.lit 0)) (.var 321) (.ite (.eq (.cl 0 30 (.var 200)) (.lit 1)) (.var 322) (.var 323))
theorem bE_I0 : lassoc 0 (bE eI).i = some (.cl 0 30 (.var 200)) := by kernel_rfl
theorem bE_I2 : lassoc 2 (bE eI).i = some (.cl 0 32 (.var 200)) := by kernel_rfl
theorem pk_nn {ρ : Rho} (h : 0 ≤ ρ.i 321 ∧ 0 ≤ ρ.i 322 ∧ 0 ≤ ρ.i 323) : 0 ≤ pkE.den ρ := by
  unfold pkE
  simp only [IE.den]
  split
  · exact h.1
  · split
    · exact h.2.1
    · exact h.2.2
theorem eF_ok {ρ : Rho} (h : 0 ≤ ((bE eI).ap ρ).i 0 ∧ ((bE eI).ap ρ).i 0 < 3) : Facts.ok ρ eF := by
  rw [ap_i bE_I0] at h
  exact Facts.ok_cons (by rw [dlt_f]; exact h.1) (one_ok (by rw [dlt_t]; exact h.2))
theorem stepL_I {ρ : Rho} (hA : AtL ρ) (hk : (kdE 3).den ρ = true) : Goes 2 ρ := by
  obtain ⟨ρ1, ag, r, kc, nn, v, kp⟩ := inj_ks ρ hA.at_.iv.cf hA.l.2
  have hl := r.lsE ag hA.at_.iv.cf
  have hA1 := hA.agree ag
  have k2 := kd_ok (kd_agree ag hk)
  by_cases hh : ρ1.i 301 = ρ1.i 206
  case neg => exact goX ag hA1 (c0_ok r.ks) r.e (all_ok k2 (nhF_ok hh)) rLI0_run rfl
  have kh := all_ok k2 (hdF_ok r.hd hh)
  obtain ⟨b, kr, ke⟩ := re_ks (e := eI) (by kernel_rfl) (by kernel_rfl) ρ1
  cases b with
  | false => exact goX ag hA1 (c0_ok (ks_app kr r.ks)) r.e kh rLI1_run rfl
  | true =>
    have cok : CfgOk Try.prog ρ1 (c0 (eT true eI ++ ksRos)) := c0_ok (ks_app kr r.ks)
    refine dec (ρ := ρ1) (.eq (.cl 0 31 (.var 200)) (.var 205)) (fun h1 => ?_) (fun h1 => goX ag hA1 cok r.e (all_ok kh (one_ok h1)) rLI2_run rfl)
    refine dec (ρ := ρ1) (.eq (.cl 0 30 (.var 200)) (.var 204)) (fun h2 => goX ag hA1 cok r.e (all_ok kh (one_ok h2)) rLI3_run rfl) (fun h2 => ?_)
    have ki := all_ok (all_ok kh (eF_ok (ke rfl).1)) (Facts.ok_cons h1 (one_ok h2))
    have kv : ∀ p ∈ eT true eI ++ ksP depI v colX ++ ksC ++ ksRos, kOk ρ1 p := ks_app (ks_app (ks_app kr kp) kc) r.ks
    have ky : ∀ p ∈ eT true eI ++ ksC ++ ksRos, kOk ρ1 p := ks_app (ks_app kr kc) r.ks
    have hS := (ke rfl).2.2
    rw [ap_i bE_I2] at hS
    have hP : 0 ≤ pkE.den ρ1 := pk_nn nn
    refine dec (ρ := ρ1) (.lt pkE (.cl 0 32 (.var 200))) (fun h3 => ?_) (fun h3 => goX ag hA1 (c0_ok ky) r.e (all_ok ki (one_ok h3)) rLI4_run rfl)
    have h3' : pkE.den ρ1 < (IE.cl 0 32 (.var 200)).den ρ1 := by rw [dlt_t] at h3; exact h3
    have hw : (IE.op .add .i64 pkE (.lit 1)).den ρ1 = pkE.den ρ1 + 1 := by
      rw [IE.den, IOp.den]
      exact wrap_id _ (by simp only [IE.den] at hS h3' ⊢; omega) (by simp only [IE.den] at hS h3' ⊢; omega)
    refine dec (ρ := ρ1) (.lt (.op .add .i64 pkE (.lit 1)) (.cl 0 32 (.var 200))) (fun h4 => ?_) (fun h4 => ?_)
    · have h5 : (BE.eq (.cl 0 32 (.var 200)) (.op .add .i64 pkE (.lit 1))).den ρ1 = false := by rw [dlt_t] at h4; rw [deq_f]; omega
      exact goX ag hA1 (c0_ok ky) r.e (all_ok ki (Facts.ok_cons h3 (Facts.ok_cons h4 (one_ok h5)))) rLI5_run rfl
    · have h5 : (BE.eq (.cl 0 32 (.var 200)) (.op .add .i64 pkE (.lit 1))).den ρ1 = true := by rw [dlt_f] at h4; rw [deq_t]; omega
      have kq := all_ok ki (Facts.ok_cons h3 (Facts.ok_cons h4 (one_ok h5)))
      cases v with
      | false => exact goX ag hA1 (c0_ok kv) r.e kq rLI6_run rfl
      | true =>
        refine dec (ρ := ρ1) (.lt (.len 201) (.lit 256)) (fun h6 => ?_) (fun h6 => goX ag hA1 (c0_ok kv) r.e (all_ok kq (one_ok h6)) rLI7_run rfl)
        refine goL (s' := 2) ag hA1 (c0_ok kv) r.e (all_ok kq (one_ok h6)) rLI8_run rfl bLI8_ok bLI8_g bLI8_i ?_
        exact toM hA1 (lt_of h6) bLI8_z bLI8_l bLI8_r bLI8_c bLI8_g (ap_i bLI8_224) (ap_i bLI8_225) hl (by rw [ap_i bLI8_226, stlD_den]; rfl) (ap_i bLI8_229)
end Go.Proofs.Ytonefailiekemaa
