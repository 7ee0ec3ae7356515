/- ChainBounds: every act leads on from a log of rows. -/
import Derived.Test.YtonefailiekemaaGKg
namespace Go.Proofs.Ytonefailiekemaa
open Go Go.Proofs.Aw Go.Proofs.Xw
set_option maxRecDepth 100000
theorem bA_agree {ρ ρ' : Rho} (h : Agree 300 ρ ρ') : Agree 14 (bA.ap ρ) (bA.ap ρ') := by
  have hc : ∀ j, ρ.ci 0 j (ρ.i 200).toNat = ρ'.ci 0 j (ρ'.i 200).toNat := fun j => by rw [h.ci 0 (by decide), h.i 200 (by decide)]
  have hb : ρ.cb 0 15 (ρ.i 200).toNat = ρ'.cb 0 15 (ρ'.i 200).toNat := by rw [h.cb 0 (by decide), h.i 200 (by decide)]
  refine agree14 (h.le (by decide)) (fun k hk h10 => ?_) (h.i 10 (by decide)) (below14 ?_) rfl rfl rfl rfl
  · obtain rfl | rfl | rfl | rfl | rfl | rfl | rfl | rfl | rfl | rfl | rfl | rfl | rfl : k = 0 ∨ k = 1 ∨ k = 2 ∨ k = 3 ∨ k = 4 ∨ k = 5 ∨ k = 6 ∨ k = 7 ∨ k = 8 ∨ k = 9 ∨ k = 11 ∨ k = 12 ∨ k = 13 := by omega
    all_goals first | exact hc _ | exact h.i 206 (by decide)
  · intro k hk
    simp only [List.mem_cons, List.not_mem_nil, or_false] at hk
    rcases hk with rfl | rfl | rfl | rfl | rfl | rfl | rfl | rfl | rfl | rfl | rfl | rfl | rfl | rfl
    all_goals first | exact hb | exact h.b _ (by decide)
/-- What is known at a round's start, over the round's own letters too. -/
structure At (n : Int) (ρ : Rho) : Prop where
  lim : Lim ρ
  lt : ρ.i 200 < ρ.len 0
  iv : Iv n ρ
theorem At.agree {n : Int} {ρ ρ' : Rho} (h : Agree 300 ρ ρ') (k : At n ρ) : At n ρ' :=
  ⟨k.lim.agree (h.le (by decide)) (by rw [← h.i 200 (by decide)]; exact k.lim.i0) (by rw [← h.i 200 (by decide)]; exact k.lim.i1), by rw [← h.i 200 (by decide), ← h.len 0 (by decide)]; exact k.lt, k.iv.agree h⟩
structure AtL (ρ : Rho) : Prop where
  l : 1 ≤ ρ.len 201 ∧ ρ.len 201 ≤ 256
  at_ : At (ρ.len 201) ρ
theorem AtL.agree {ρ ρ' : Rho} (h : Agree 300 ρ ρ') (k : AtL ρ) : AtL ρ' := ⟨by rw [← h.len 201 (by decide)]; exact k.l, by rw [← h.len 201 (by decide)]; exact k.at_.agree h⟩
theorem hpL_bel : (mS hpL).bel 300 = true := by kernel_rfl
theorem goL {s' : Nat} {ρ ρ1 : Rho} {c : Cfg} {Ψ Φ : Facts} {β : Bind} {nm : List (Nm × Nm)} {L : XS} {t : T (XE × XS)} {r : RL} (ag : Agree 300 ρ ρ1) (hA : AtL ρ1) (cok : CfgOk Try.prog ρ1 c) (he : 1 ≤ ρ.i 210) (hk : Facts.ok ρ1 Φ) (hrun : mRun (addK (enR r) c) (Ψ ++ Φ ++ epF ++ lF) (mS hpL) = t)
    (hs : t.sel ρ1 = some (.normal, L)) (hok : okS 0 200 β nm (Ss s') L = true) (hg : β.ge 200 = true) (hi : lassoc 200 β.i = some (.op .add .i64 (.var 200) (.lit 1))) (hR : To s' β ρ1) (hb : bdOk β Ψ = true := by kernel_rfl) (hr : rIs r = true := by kernel_rfl) (h0 : s' ≠ 0 := by decide) (hl : lgOk β = true := by kernel_rfl) : Goes 2 ρ :=
  goes (s := 2) (L := L) (c := addK (enR r) c) (Φ := Ψ ++ Φ ++ epF ++ lF) (XS.bel_den ag (mS hpL) hpL_bel) ag (addK_ok cok (enR_ok hr _ hA.l.2)) (all_ok (all_ok (all_ok (all_ok (bd_ok hR h0 hl hb) hk) (epF_ok (by rw [← ag.i 210 (by decide)]; exact he))) (lF_ok hA.l)) (kF_ok hA.at_.lim hA.at_.lt)) (by show (mRun (addK (enR r) c) (Ψ ++ Φ ++ epF ++ lF) (mS hpL)).sel ρ1 = _; rw [hrun]; exact hs) hok hg hi hA.at_.lim hA.at_.lt hR
theorem toX {ρ : Rho} (h : AtL ρ) : To 2 bLX ρ := by
  have hl : (bLX.ap ρ).len 201 = ρ.len 201 := by rw [ap_len bLX_r]; simp only [IE.den, Int.toNat_natCast]
  exact .inr (.inr ⟨rfl, bLX_z, bLX_l, by rw [hl]; exact h.l, by rw [hl]; exact iv_x bLX_c bLX_g h.at_.iv bLX_224 bLX_225 bLX_226 bLX_229⟩)
/-- Nothing is done. -/
theorem goX {ρ ρ1 : Rho} {c : Cfg} {Φ : Facts} {t : T (XE × XS)} (ag : Agree 300 ρ ρ1) (hA : AtL ρ1) (cok : CfgOk Try.prog ρ1 c) (he : 1 ≤ ρ.i 210) (hk : Facts.ok ρ1 Φ) (hrun : mRun (addK (enR rV) c) (bdLX ++ Φ ++ epF ++ lF) (mS hpL) = t) (hs : t.sel ρ1 = some (.normal, lS hLX 101)) : Goes 2 ρ :=
  goL ag hA cok he hk hrun hs bLX_ok bLX_g bLX_i (toX hA)
/-- A write is laid behind the log. -/
theorem toM {β : Bind} {sc : List Sc} {ρ : Rho} (h : AtL ρ) (hlt : ρ.len 201 < 256) (hz : lassoc 901 β.b = some (.lit true)) (hl' : lassoc 902 β.b = some (.lit true)) (hr : lassoc 201 β.r = some (.op .padd .i64 (.len 201) (.lit 1), .app (.len 201) (.var 201 ke) (.one sc)))
    (hc : cfgIs β fC0 (.var 220) = true) (hg : β.ge 200 = true) (hb : (β.ap ρ).i 224 = ρ.i 224) (hd : (β.ap ρ).i 225 = ρ.i 225) (hls : ρ.i 302 = lsV ρ) (hs : (β.ap ρ).i 226 = stl (ρ.i 302 = ρ.i 206) (ρ.b 220) (ρ.i 226) (ρ.i 225) (ρ.i 224)) (h9 : (β.ap ρ).i 229 = ρ.i 229) : To 2 β ρ := by
  have hl : (β.ap ρ).len 201 = ρ.len 201 + 1 := by rw [ap_len hr]; simp only [IE.den, IOp.den]; omega
  have iv := h.at_.iv
  have hid : stl (ρ.i 302 = ρ.i 206) (ρ.b 220) (ρ.i 226) (ρ.i 225) (ρ.i 224) = ρ.i 226 := stl_id fun hp => iv.st (by rw [← hls]; exact hp)
  have d1 := iv.d1
  exact .inr (.inr ⟨rfl, hz, hl', by rw [hl]; omega, iv_same hc hg iv (p := ρ.i 302 = ρ.i 206) (by rw [hls]) hb hd hs (by rw [h9, hs, hid]; exact iv.eq) (Int.le_refl _) (by rw [hl]; omega) (Int.le_refl _) iv.s1⟩)
/-- The log stays; what is stable may rise. -/
theorem toS {β : Bind} {ρ : Rho} (h : AtL ρ) (hz : lassoc 901 β.b = some (.lit true)) (hl' : lassoc 902 β.b = some (.lit true)) (hr : lassoc 201 β.r = some (.len 201, .var 201 ke)) (iv : Iw (ρ.len 201) β ρ) : To 2 β ρ := by
  have hl : (β.ap ρ).len 201 = ρ.len 201 := by rw [ap_len hr]; simp only [IE.den, Int.toNat_natCast]
  exact .inr (.inr ⟨rfl, hz, hl', by rw [hl]; exact h.l, by rw [hl]; exact iv⟩)
theorem xlt {ρ : Rho} {a b : IE} (h : (BE.lt a b).den ρ = false) : (BE.lt b a).den ρ = true ∨ b.den ρ = a.den ρ := by
  rw [dlt_f] at h; rw [dlt_t]; omega
theorem stepL_X {ρ : Rho} (hA : AtL ρ) (h : ∀ k ∈ ([1, 2, 3, 4, 5, 6, 7, 8] : List Int), (kdE k).den ρ = false) (he : 1 ≤ ρ.i 210) : Goes 2 ρ :=
  goX (Agree.refl _ _) hA (c0_ok ks_nil) he (kdX_ok h) rLX_run rfl
theorem kd_agree {ρ ρ' : Rho} (h : Agree 300 ρ ρ') {k : Int} (hk : (kdE k).den ρ = true) : (kdE k).den ρ' = true := by
  rw [deq_t] at hk ⊢
  simp only [IE.den] at hk ⊢
  rw [← h.ci 0 (by decide), ← h.i 200 (by decide)]
  exact hk
theorem Rk.lsE {ρ ρ' : Rho} (ag : Agree 300 ρ ρ') (hc : Cf ρ) (r : Rk ρ ρ') : ρ'.i 302 = lsV ρ' := by rw [(hc.agree ag).2]; exact r.ls.2
/-- Sync. -/
theorem stepL_S {ρ : Rho} (hA : AtL ρ) (hk : (kdE 5).den ρ = true) : Goes 2 ρ := by
  obtain ⟨ρ1, ag, r⟩ := ros_ks ρ hA.at_.iv.cf
  have hl := r.lsE ag hA.at_.iv.cf
  have hA1 := hA.agree ag
  have iv := hA1.at_.iv
  have d1 := iv.d1
  have s1 := iv.s1
  refine goL ag hA1 (c0_ok r.ks) r.e (kd_ok (kd_agree ag hk)) rLS_run rfl bLS_ok bLS_g bLS_i (toS hA1 bLS_z bLS_l bLS_r ?_)
  have e6 : (bLS.ap ρ1).i 226 = stl (ρ1.i 302 = ρ1.i 206) (ρ1.b 220) (ρ1.i 226) (ρ1.len 201) (ρ1.i 224) := by rw [ap_i bLS_226, stlC_den r.ls.1]; rfl
  have e9 : (bLS.ap ρ1).i 229 = stl (ρ1.i 302 = ρ1.i 206) (ρ1.b 220) (ρ1.i 229) (ρ1.len 201) (ρ1.i 224) := by rw [ap_i bLS_229, stlD_den]; rfl
  exact iv_same bLS_c bLS_g iv (ρ1.i 302 = ρ1.i 206) (by rw [hl]) (ap_i bLS_224) (D := ρ1.len 201) (ap_i bLS_225) e6 (by rw [e9, e6, iv.eq]) d1 (Int.le_refl _) (Int.le_refl _) (by omega)
/-- Heard. -/
theorem stepL_H {ρ : Rho} (hA : AtL ρ) (hk : (kdE 6).den ρ = true) : Goes 2 ρ := by
  obtain ⟨ρ1, a1, r1⟩ := ros_ks ρ hA.at_.iv.cf
  obtain ⟨ρ2, a2, kh⟩ := full_ks ρ1 (m := cI 1) (e := .cl 0 1 (.var 200)) (by kernel_rfl) (by kernel_rfl) (by kernel_rfl)
  have ag : Agree 300 ρ ρ2 := a1.trans (a2.le (by decide))
  have r := r1.agree a2 (by decide)
  have hl := r.lsE ag hA.at_.iv.cf
  have hA1 := hA.agree ag
  have cok : CfgOk Try.prog ρ2 (c0 (ksH (cI 1) ++ ksRos)) := c0_ok (ks_app kh r.ks)
  have k6 := kd_ok (kd_agree ag hk)
  have iv := hA1.at_.iv
  have d1 := iv.d1
  have b1 := iv.b1
  have s1 := iv.s1
  refine dec (ρ := ρ2) (.eq (.cl 0 2 (.var 200)) (.var 210)) (fun h1 => ?_) (fun h1 => goX ag hA1 cok r.e (all_ok k6 (one_ok h1)) rLH0_run rfl)
  refine dec (ρ := ρ2) (.lt (.cl 0 1 (.var 200)) (.lit 0)) (fun h2 => goX ag hA1 cok r.e (all_ok k6 (one_ok h2)) rLH1_run rfl) (fun h2 => ?_)
  refine dec (ρ := ρ2) (.eq (.cl 0 1 (.var 200)) (.var 304)) (fun h3 => ?_) (fun h3 => goX ag hA1 cok r.e (all_ok k6 (one_ok h3)) rLH2_run rfl)
  refine goL ag hA1 cok r.e (all_ok k6 (Facts.ok_cons h1 (Facts.ok_cons h2 (one_ok h3)))) rLH3_run rfl bLH3_ok bLH3_g bLH3_i (toS hA1 bLH3_z bLH3_l bLH3_r ?_)
  let x : Int → Int := fun s => if ρ2.b 308 = true then max s (min ((IE.cl 0 4 (.var 200)).den ρ2) (ρ2.i 225)) else max (max s (ρ2.i 224)) (min ((IE.cl 0 3 (.var 200)).den ρ2) (ρ2.i 225))
  have e6 : (bLH3.ap ρ2).i 226 = stl (ρ2.i 302 = ρ2.i 206) (ρ2.b 220) (x (ρ2.i 226)) (ρ2.i 225) (ρ2.i 224) := by rw [ap_i bLH3_226, stlC_den r.ls.1]; rfl
  have e9 : (bLH3.ap ρ2).i 229 = stl (ρ2.i 302 = ρ2.i 206) (ρ2.b 220) (x (ρ2.i 229)) (ρ2.i 225) (ρ2.i 224) := by rw [ap_i bLH3_229, stlD_den]; rfl
  have hx : ρ2.i 226 ≤ x (ρ2.i 226) ∧ x (ρ2.i 226) ≤ ρ2.i 225 := by
    show ρ2.i 226 ≤ (if ρ2.b 308 = true then _ else _) ∧ (if ρ2.b 308 = true then _ else _) ≤ _
    split <;> omega
  exact iv_same bLH3_c bLH3_g iv (ρ2.i 302 = ρ2.i 206) (by rw [hl]) (ap_i bLH3_224) (D := ρ2.i 225) (ap_i bLH3_225) e6 (by rw [e9, e6, iv.eq]) (Int.le_refl _) d1 hx.1 hx.2
/-- All that is durable is heard. -/
theorem stepL_J {ρ : Rho} (hA : AtL ρ) (hk : (kdE 8).den ρ = true) : Goes 2 ρ := by
  obtain ⟨ρ1, a1, r1⟩ := ros_ks ρ hA.at_.iv.cf
  refine dec (ρ := ρ1) (.lt (.var 304) (.lit 0)) (fun h1 => goX a1 (hA.agree a1) (c0_ok r1.ks) r1.e (all_ok (kd_ok (kd_agree a1 hk)) (one_ok h1)) rLJ0_run rfl) (fun h1 => ?_)
  obtain ⟨ρ2, a2, kh⟩ := full_ks ρ1 (m := iV 304) (e := .var 304) (by kernel_rfl) (by kernel_rfl) (by kernel_rfl)
  have ag : Agree 300 ρ ρ2 := a1.trans (a2.le (by decide))
  have r := r1.agree a2 (by decide)
  have hl := r.lsE ag hA.at_.iv.cf
  have hA1 := hA.agree ag
  have iv := hA1.at_.iv
  have d1 := iv.d1
  have b1 := iv.b1
  have s1 := iv.s1
  have h1' : (BE.lt (.var 304) (.lit 0)).den ρ2 = false := by rw [dlt_f] at h1 ⊢; simp only [IE.den] at h1 ⊢; rw [← a2.i 304 (by decide)]; exact h1
  refine goL ag hA1 (c0_ok (ks_app kh r.ks)) r.e (all_ok (kd_ok (kd_agree ag hk)) (one_ok h1')) rLJ1_run rfl bLJ1_ok bLJ1_g bLJ1_i (toS hA1 bLJ1_z bLJ1_l bLJ1_r ?_)
  let x : Int → Int := fun s => if ρ2.b 308 = true then max s (ρ2.i 225) else max (max s (ρ2.i 224)) (ρ2.i 225)
  have e6 : (bLJ1.ap ρ2).i 226 = stl (ρ2.i 302 = ρ2.i 206) (ρ2.b 220) (x (ρ2.i 226)) (ρ2.i 225) (ρ2.i 224) := by rw [ap_i bLJ1_226, stlC_den r.ls.1]; rfl
  have e9 : (bLJ1.ap ρ2).i 229 = stl (ρ2.i 302 = ρ2.i 206) (ρ2.b 220) (x (ρ2.i 229)) (ρ2.i 225) (ρ2.i 224) := by rw [ap_i bLJ1_229, stlD_den]; rfl
  have hx : ρ2.i 226 ≤ x (ρ2.i 226) ∧ x (ρ2.i 226) ≤ ρ2.i 225 := by
    show ρ2.i 226 ≤ (if ρ2.b 308 = true then _ else _) ∧ (if ρ2.b 308 = true then _ else _) ≤ _
    split <;> omega
  exact iv_same bLJ1_c bLJ1_g iv (ρ2.i 302 = ρ2.i 206) (by rw [hl]) (ap_i bLJ1_224) (D := ρ2.i 225) (ap_i bLJ1_225) e6 (by rw [e9, e6, iv.eq]) (Int.le_refl _) d1 hx.1 hx.2
end Go.Proofs.Ytonefailiekemaa
