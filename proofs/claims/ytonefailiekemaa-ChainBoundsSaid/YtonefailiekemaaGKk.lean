/- ChainBounds: every act leads on where there is no epoch; so every act leads on. -/
import Derived.Test.YtonefailiekemaaGKj
namespace Go.Proofs.Ytonefailiekemaa
open Go Go.Proofs.Aw Go.Proofs.Xw
set_option maxRecDepth 100000
theorem hpZ_bel : (mS hpZ).bel 300 = true := by kernel_rfl
theorem goZ {s' : Nat} {ρ ρ1 : Rho} {c : Cfg} {Φ : Facts} {β : Bind} {nm : List (Nm × Nm)} {L : XS} {t : T (XE × XS)} (ag : Agree 300 ρ ρ1) (hA : Lim ρ1) (lt : ρ1.i 200 < ρ1.len 0) (cok : CfgOk Try.prog ρ1 c) (hk : Facts.ok ρ1 Φ) (hrun : mRun c Φ (mS hpZ) = t)
    (hs : t.sel ρ1 = some (.normal, L)) (hok : okS 0 200 β nm (Ss s') L = true) (hg : β.ge 200 = true) (hi : lassoc 200 β.i = some (.op .add .i64 (.var 200) (.lit 1))) (hR : To s' β ρ1) : Goes 0 ρ :=
  goes (s := 0) (L := L) (Φ := Φ) (XS.bel_den ag (mS hpZ) hpZ_bel) ag cok (all_ok hk (kF_ok hA lt)) (by show (mRun c Φ (mS hpZ)).sel ρ1 = _; rw [hrun]; exact hs) hok hg hi hA lt hR
/-- Nothing is done. -/
theorem goZX {ρ ρ1 : Rho} {c : Cfg} {Φ : Facts} {t : T (XE × XS)} (ag : Agree 300 ρ ρ1) (hA : Lim ρ1) (lt : ρ1.i 200 < ρ1.len 0) (cok : CfgOk Try.prog ρ1 c) (hk : Facts.ok ρ1 Φ) (hrun : mRun c Φ (mS hpZ) = t) (hs : t.sel ρ1 = some (.normal, lS hZX 101)) : Goes 0 ρ :=
  goZ (s' := 0) ag hA lt cok hk hrun hs bZX_ok bZX_g bZX_i (.inl ⟨rfl, bZX_z⟩)
theorem stepZ_E {ρ : Rho} (hA : Lim ρ) (lt : ρ.i 200 < ρ.len 0) (hk : (kdE 1).den ρ = true) : Goes 0 ρ := by
  obtain ⟨ρ2, a2, ek, eg⟩ := enter_ks ρ
  have ag : Agree 300 ρ ρ2 := a2.le (by decide)
  have hA1 : Lim ρ2 := hA.agree (ag.le (by decide)) (by rw [← ag.i 200 (by decide)]; exact hA.i0) (by rw [← ag.i 200 (by decide)]; exact hA.i1)
  have lt1 : ρ2.i 200 < ρ2.len 0 := by rw [← ag.i 200 (by decide), ← ag.len 0 (by decide)]; exact lt
  have k1 := kd_ok (kd_agree ag hk)
  have hrb : rgB.den (bA.ap ρ2) = rgB.den (bA.ap ρ) := (BE.bel_den (bA_agree ag) rgB rgB_bel).symm
  cases hb : rgB.den (bA.ap ρ) with
  | false =>
    rw [hb] at ek
    exact goZX ag hA1 lt1 (c0_ok ek) k1 rZE0_run rfl
  | true =>
    rw [hb] at ek
    obtain ⟨g1, g2, _, _⟩ := eg hb
    have hr2 : rgB.den (bA.ap ρ2) = true := by rw [hrb, hb]
    have h1 : (BE.lt (.lit 0) (.cl 0 5 (.var 200))).den ρ2 = true := by
      rw [dlt_t]
      simp only [IE.den] at g1 ⊢
      rw [← ag.ci 0 (by decide), ← ag.i 200 (by decide)]; omega
    refine dec (ρ := ρ2) (.eq (.var 306) (.lit 0)) (fun h2 => ?_) (fun h2 => ?_)
    · have h3 : (BE.lt (.lit 0) (.var 306)).den ρ2 = false := by rw [deq_t] at h2; rw [dlt_f]; simp only [IE.den] at h2 ⊢; omega
      exact goZ ag hA1 lt1 (c0_ok ek) (all_ok (all_ok k1 (one_ok h1)) (Facts.ok_cons h2 (one_ok h3))) rZE2_run rfl bZE2_ok bZE2_g bZE2_i (toE hr2 bZE2_z bZE2_l bZE2_c bZE2_g bZE2_224 bZE2_225 bZE2_226 bZE2_229 (fun h => absurd (bZE2_223.symm.trans h) (by simp)))
    · have h3 : (BE.lt (.lit 0) (.var 306)).den ρ2 = true := by rw [deq_f] at h2; rw [dlt_t]; simp only [IE.den] at h2 ⊢; omega
      exact goZ ag hA1 lt1 (c0_ok ek) (all_ok (all_ok k1 (one_ok h1)) (Facts.ok_cons h2 (one_ok h3))) rZE4_run rfl bZE4_ok bZE4_g bZE4_i (toE hr2 bZE4_z bZE4_l bZE4_c bZE4_g bZE4_224 bZE4_225 bZE4_226 bZE4_229 (fun h => absurd (bZE4_223.symm.trans h) (by simp)))
theorem stepZ {ρ : Rho} (hA : Lim ρ) (lt : ρ.i 200 < ρ.len 0) : Goes 0 ρ := by
  have ag : Agree 300 ρ ρ := Agree.refl _ _
  have cok : CfgOk Try.prog ρ (c0 []) := c0_ok ks_nil
  refine kinds (ρ := ρ) (fun h => stepZ_E hA lt h) (fun h => dec (ρ := ρ) (.lt (.var 206) (.lit 0)) (fun q => goZX ag hA lt cok (all_ok (kd_ok h) (one_ok q)) rZK2a_run rfl) (fun q => goZX ag hA lt cok (all_ok (kd_ok h) (one_ok q)) rZK2b_run rfl)) (fun h => dec (ρ := ρ) (.lt (.var 206) (.lit 0)) (fun q => goZX ag hA lt cok (all_ok (kd_ok h) (one_ok q)) rZK3a_run rfl) (fun q => goZX ag hA lt cok (all_ok (kd_ok h) (one_ok q)) rZK3b_run rfl)) (fun h => dec (ρ := ρ) (.lt (.cl 0 1 (.var 200)) (.lit 0)) (fun q => goZX ag hA lt cok (all_ok (kd_ok h) (one_ok q)) rZK4a_run rfl) (fun q => goZX ag hA lt cok (all_ok (kd_ok h) (one_ok q)) rZK4b_run rfl)) (fun h => dec (ρ := ρ) (.lt (.var 206) (.lit 0)) (fun q => goZX ag hA lt cok (all_ok (kd_ok h) (one_ok q)) rZK5a_run rfl) (fun q => goZX ag hA lt cok (all_ok (kd_ok h) (one_ok q)) rZK5b_run rfl)) (fun h => dec (ρ := ρ) (.lt (.cl 0 1 (.var 200)) (.lit 0)) (fun q => goZX ag hA lt cok (all_ok (kd_ok h) (one_ok q)) rZK6a_run rfl) (fun q => goZX ag hA lt cok (all_ok (kd_ok h) (one_ok q)) rZK6b_run rfl)) (fun h => goZX ag hA lt cok (kd_ok h) rZK7a_run rfl) (fun h => goZX ag hA lt cok (kd_ok h) rZK8a_run rfl) (fun h => goZX ag hA lt cok (kdX_ok h) rZX_run rfl)
theorem Cf.e {ρ : Rho} (h : Cf ρ) : 1 ≤ ρ.i 210 := (ros_ks ρ h).choose_spec.2.e
theorem stepN {ρ : Rho} (hA : At 0 ρ) : Goes 1 ρ :=
  kinds (ρ := ρ) (stepN_E hA) (stepN_P hA) (stepN_I hA) (stepN_T hA) (stepN_S hA) (stepN_H hA) (stepN_U hA) (stepN_J hA) (fun h => stepN_X hA h hA.iv.cf.e)
theorem stepL {ρ : Rho} (hA : AtL ρ) : Goes 2 ρ :=
  kinds (ρ := ρ) (stepL_E hA) (stepL_P hA) (stepL_I hA) (stepL_T hA) (stepL_S hA) (stepL_H hA) (stepL_U hA) (stepL_J hA) (fun h => stepL_X hA h hA.at_.iv.cf.e)
/-- Every round leads on. -/
theorem step {s : Nat} {ρ : Rho} (h : Rd s ρ) (lt : ρ.i 200 < ρ.len 0) : Goes s ρ := by
  obtain ⟨hL, ⟨rfl, _⟩ | ⟨rfl, _, _, iv⟩ | ⟨rfl, _, _, l, iv⟩⟩ := h
  · exact stepZ hL lt
  · exact stepN ⟨hL, lt, iv⟩
  · exact stepL ⟨l, hL, lt, iv⟩
end Go.Proofs.Ytonefailiekemaa
