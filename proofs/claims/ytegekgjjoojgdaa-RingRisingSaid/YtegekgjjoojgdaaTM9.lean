/- Parts of the proof, one behind the other. -/
import Derived.Test.YtegekgjjoojgdaaTM8
/- Ring: RingRising's loop over the ranges. -/
namespace Go.Proofs.Ytegekgjjoojgdaa
open Go Go.Proofs.Aw Go.Proofs.Xw Go.Proofs.Sr
set_option maxRecDepth 100000
/-- How many ranges. -/
def nZ (z : Int) : Int := IOp.den .add .i64 1 (IOp.den .rem .i64 (IOp.den .add .i64 (IOp.den .rem .i64 z 3) 3) 3)
theorem nZ_b (z : Int) : 1 ≤ nZ z ∧ nZ z ≤ 3 := by
  unfold nZ
  simp only [IOp.den]
  have h1 : -2 ≤ z.tmod 3 ∧ z.tmod 3 ≤ 2 := by
    have p := Int.tmod_lt_of_pos z (b := 3) (by decide)
    have q := Int.tmod_lt_of_pos (-z) (b := 3) (by decide)
    rw [Int.neg_tmod] at q
    omega
  generalize z.tmod 3 = a at h1
  rw [wrap_id (a + 3) (by omega) (by omega)]
  have h2 : 0 ≤ (a + 3).tmod 3 ∧ (a + 3).tmod 3 ≤ 2 := by
    have p := Int.tmod_lt_of_pos (a + 3) (b := 3) (by decide)
    have q := Int.tmod_nonneg 3 (show 0 ≤ a + 3 by omega)
    omega
  generalize (a + 3).tmod 3 = b at h2
  rw [wrap_id (1 + b) (by omega) (by omega)]
  omega
/-- The letters of the law's run. -/
structure RgA (ρ : Rho) (n : Nat) (g h : Nat → ByteArray) : Prop where
  l : ρ.len 0 = n
  h0 : 0 < n
  hn : n ≤ 600
  eg : stR ρ 0 = g
  eh : stR ρ 201 = h
  z : Szs h n
  es : ∀ k, k < n → ρ.ci 203 0 k = sec (nZ (ρ.i 0)) (pt (h k))
  s : Srt ltR h 0 n
  w : Sw 0 n g h
theorem RgA.agree {ρ ρ' : Rho} {n k : Nat} {g h : Nat → ByteArray} (H : RgA ρ n g h) (ag : Agree k ρ ρ') (hk : 300 ≤ k) : RgA ρ' n g h :=
  ⟨by rw [← ag.len 0 (by omega)]; exact H.l, H.h0, H.hn, by rw [agree_st ag (by omega)]; exact H.eg, by rw [agree_st ag (by omega)]; exact H.eh, H.z, fun j hj => by rw [← ag.ci 203 (by omega), ← ag.i 0 (by omega)]; exact H.es j hj, H.s, H.w⟩
theorem nE_den (ρ : Rho) : nE.den ρ = nZ (ρ.i 0) := rfl
theorem atS_den {ρ : Rho} {e : IE} {n : Nat} (h : e.den ρ = n) : X.den ρ (atS e) = .sc (.string (stR ρ 201 n)) := by
  simp only [atS, X.den, Sc.den, TE.den, h, Int.toNat_natCast]; rfl
theorem secX_den {ρ : Rho} {e : IE} {n : Nat} (h : e.den ρ = n) : (secX e).den ρ = ρ.ci 203 0 n := by
  show ρ.ci 203 0 (e.den ρ).toNat = _
  rw [h, Int.toNat_natCast]
theorem of_at {ρ : Rho} {n : Nat} {g h : Nat → ByteArray} (H : RgA ρ n g h) {e : IE} {j : Nat} (he : e.den ρ = j) (hj : j < n) : hasBody Try.prog 10 = true ∧ ∀ k hp, CY Try.prog k 10 (X.denL ρ [atS e, .sc (.i .i64 nE)]) hp (X.den ρ (.sc (.i .i64 (secX e)))) [] := by
  have q := of_cy (h j) (H.z j hj) (nZ (ρ.i 0)) (nZ_b _)
  refine ⟨q.1, fun k hp => ?_⟩
  have := q.2 k hp
  rw [← H.es j hj] at this
  rw [show X.den ρ (.sc (.i .i64 (secX e))) = .sc (.int .i64 (ρ.ci 203 0 j)) from by simp only [X.den, Sc.den, secX_den he]]
  simp only [X.denL, atS_den he, H.eh]
  exact this
theorem rp_Sb : rp_S.bel 501 = true := by kernel_rfl
theorem rp_ok (ρ : Rho) {n : Nat} {g h : Nat → ByteArray} (H : RgA ρ n g h) : ∃ ρf, Agree 500 ρ ρf ∧ LoopOk Try.prog ρf Try.f4.ntmps rp_c rp := by
  suffices hh : ∃ (_ : Nat) (ρf : Rho), Agree rp.n ρ ρf ∧ True ∧ LoopOk Try.prog ρf Try.f4.ntmps rp_c rp by
    obtain ⟨_, ρf, h1, _, h4⟩ := hh
    exact ⟨ρf, h1, h4⟩
  have a0 := Bind.agree rp_Ig ρ
  refine loopOk_famE (L := rp) (N := Try.f4.ntmps) (body := rp_c) (P := Try.prog) rfl rp_Eb (fun _ => rp_S) (fun _ ρ' => RgA ρ' n g h ∧ ∃ j : Nat, ρ'.i 500 = j ∧ j ≤ n) (fun _ _ => True) (fun _ ρ' => (n - ρ'.i 500).toNat) ?_
    ⟨0, rp_I.ap ρ, a0, ⟨H.agree a0 (by decide), 0, ap_i rp_I500, Nat.zero_le _⟩, fun E _ hE => okS_imp hE rp_Iok ρ⟩
  rintro _ ρ' ⟨hA, j, hj, j2⟩
  have hn := hA.hn
  have ez : IE.den ρ' (.var 500) = (j : Int) := hj
  have el : IE.den ρ' (.len 0) = (n : Int) := by show (ρ'.len 0 : Int) = n; rw [hA.l]
  by_cases c : j < n
  · have sb := sec_b (nZ (ρ'.i 0)) (pt (h j)) (nZ_b _)
    have fF : Facts.ok ρ' rpF := Facts.ok_cons (by rw [dlt_t, ez, el]; omega) (Facts.ok_cons (by rw [dlt_f, ez]; show (0 : Int) ≤ _; omega)
      (Facts.ok_cons (by rw [dlt_f, secX_den ez, hA.es j c]; exact sb.1) (Facts.ok_cons (by rw [dlt_t, secX_den ez, hA.es j c]; exact sb.2) (Facts.ok_nil _))))
    have nx : ∀ β : Bind, lassoc 500 β.i = some (.op .add .i64 (.var 500) (.lit 1)) → β.ge 500 = true → (RgA (β.ap ρ') n g h ∧ ∃ j : Nat, (β.ap ρ').i 500 = j ∧ j ≤ n) ∧ ((n : Int) - (β.ap ρ').i 500).toNat < ((n : Int) - ρ'.i 500).toNat ∧ Agree rp.n ρ' (β.ap ρ') := fun β hβ hg => by
      have ag := Bind.agree hg ρ'
      have e : (β.ap ρ').i 500 = ((j + 1 : Nat) : Int) := (ap_i hβ).trans (by show IOp.den .add .i64 (ρ'.i 500) 1 = _; rw [hj]; exact add_nat (b := 1) (by omega))
      refine ⟨⟨hA.agree ag (by decide), j + 1, e, c⟩, ?_, ag⟩
      rw [e, hj]; omega
    by_cases d : 0 < j
    · have ep : pvE.den ρ' = ((j - 1 : Nat) : Int) := by show IOp.den .sub .i64 (ρ'.i 500) 1 = _; rw [hj]; exact sub_nat (b := 1) (by omega) (by omega)
      have cok : CfgOk Try.prog ρ' (cfgL ksO2 (fun _ => [])) := cfgL_ok (List.forall_mem_cons.2 ⟨of_at hA ez c, List.forall_mem_cons.2 ⟨of_at hA ep (by omega), List.forall_mem_nil _⟩⟩) (fun _ _ _ => LpsOk.nil _ _ _ _)
      have fA : Facts.ok ρ' rpA := all_ok fF (Facts.ok_cons (by rw [dlt_t, ez]; show (0 : Int) < _; omega) (Facts.ok_cons (by rw [dlt_f, ep]; show (0 : Int) ≤ _; omega) (Facts.ok_cons (by rw [dlt_t, ep, el]; omega)
        (Facts.ok_cons (by
          rw [dlt_f, secX_den ez, secX_den ep, hA.es j c, hA.es (j - 1) (by omega)]
          exact sec_lt _ (hA.s (j - 1) j (Nat.zero_le _) (by omega) c)) (Facts.ok_nil _)))))
      obtain ⟨n1, n2, n3⟩ := nx rp_A_b rp_A_500 rp_A_g
      exact .inr ⟨0, rp_A_b.ap ρ', fam_go (c := cfgL ksO2 (fun _ => [])) (Φ := rpA) rp_fits rfl cok fA rp_A_run rfl rp_A_ok, n1, n2, n3⟩
    · have cok : CfgOk Try.prog ρ' (cfgL ksO1 (fun _ => [])) := cfgL_ok (List.forall_mem_cons.2 ⟨of_at hA ez c, List.forall_mem_nil _⟩) (fun _ _ _ => LpsOk.nil _ _ _ _)
      have fB : Facts.ok ρ' rpB := all_ok fF (Facts.ok_cons (by rw [dlt_f, ez]; show _ ≤ (0 : Int); omega) (Facts.ok_nil _))
      obtain ⟨n1, n2, n3⟩ := nx rp_B_b rp_B_500 rp_B_g
      exact .inr ⟨0, rp_B_b.ap ρ', fam_go (c := cfgL ksO1 (fun _ => [])) (Φ := rpB) rp_fits rfl cok fB rp_B_run rfl rp_B_ok, n1, n2, n3⟩
  · refine .inl ⟨ρ', Agree.refl _ _, trivial, rfl, ?_⟩
    exact fam_end (c := cfgL [] (fun _ => [])) (Φ := [(.lt (.var 500) (.len 0), false)]) rp_fits (cN_ok ρ') (Facts.ok_cons (by rw [dlt_f, ez, el]; omega) (Facts.ok_nil _)) rp_X_run rfl (fun h => nomatch h) rfl
end Go.Proofs.Ytegekgjjoojgdaa

/- Ring: RingRising's loops that count. -/
namespace Go.Proofs.Ytegekgjjoojgdaa
open Go Go.Proofs.Aw Go.Proofs.Xw Go.Proofs.Sr
set_option maxRecDepth 100000
theorem seq_t (ρ : Rho) (a b : TE) : (BE.seq a b).den ρ = true ↔ a.den ρ = b.den ρ := by
  show ((a.den ρ).toList == (b.den ρ).toList) = true ↔ _
  rw [beq_iff_eq, ByteArray.toList_eq, ByteArray.toList_eq]
  constructor
  · intro h
    generalize a.den ρ = u at h
    generalize b.den ρ = v at h
    cases u; cases v
    simp only [ByteArray.mk.injEq]
    exact Array.toList_inj.1 h
  · intro h; rw [h]
theorem cl_den {ρ : Rho} {l : Nat} {e : IE} {n : Nat} (h : e.den ρ = n) : (TE.cl l 0 e).den ρ = stR ρ l n := by
  show ρ.cs l 0 (e.den ρ).toNat = _
  rw [h, Int.toNat_natCast]; rfl
def isB (x : ByteArray) (y : ByteArray) : Bool := decide (y = x)
structure RcA (ρ : Rho) (n i : Nat) (g h : Nat → ByteArray) : Prop where
  A : RgA ρ n g h
  ei : ρ.i 510 = i
  hi : i < n
theorem RcA.agree {ρ ρ' : Rho} {n i k : Nat} {g h : Nat → ByteArray} (H : RcA ρ n i g h) (ag : Agree k ρ ρ') (hk : 520 ≤ k) : RcA ρ' n i g h :=
  ⟨H.A.agree ag (by omega), by rw [← ag.i 510 (by omega)]; exact H.ei, H.hi⟩
structure RcI (ρ : Rho) (i j : Nat) (g h : Nat → ByteArray) : Prop where
  ej : ρ.i 520 = j
  ea : ρ.i 521 = (Sr.cnt (isB (g i)) g j : Nat)
  eb : ρ.i 522 = (Sr.cnt (isB (g i)) h j : Nat)
theorem cnt_le {α : Type} (p : α → Bool) (f : Nat → α) : ∀ n, Sr.cnt p f n ≤ n
  | 0 => Nat.le_refl _
  | n + 1 => by
    have := cnt_le p f n
    simp only [Sr.cnt]
    split <;> omega
theorem roF_ok {ρ : Rho} {n i : Nat} {g h : Nat → ByteArray} (H : RcA ρ n i g h) : Facts.ok ρ roF :=
  Facts.ok_cons (by rw [dlt_t]; show ρ.i 510 < (ρ.len 0 : Int); rw [H.ei, H.A.l]; have := H.hi; omega) (Facts.ok_cons (by rw [dlt_f]; show 0 ≤ ρ.i 510; rw [H.ei]; omega) (Facts.ok_nil _))
theorem rc_ok (ρ : Rho) {n i : Nat} {g h : Nat → ByteArray} (H : RcA ρ n i g h) : ∃ ρf, Agree 520 ρ ρf ∧ RcI ρf i n g h ∧ LoopOk Try.prog ρf Try.f4.ntmps rc_c rc := by
  suffices hh : ∃ (_ : Nat) (ρf : Rho), Agree rc.n ρ ρf ∧ RcI ρf i n g h ∧ LoopOk Try.prog ρf Try.f4.ntmps rc_c rc by
    obtain ⟨_, ρf, h1, h2, h4⟩ := hh
    exact ⟨ρf, h1, h2, h4⟩
  have a0 := Bind.agree rc_Ig ρ
  refine loopOk_famE (L := rc) (N := Try.f4.ntmps) (body := rc_c) (P := Try.prog) rfl rc_Eb (fun _ => rc_S) (fun _ ρ' => RcA ρ' n i g h ∧ ∃ j : Nat, j ≤ n ∧ RcI ρ' i j g h) (fun _ ρ' => RcI ρ' i n g h) (fun _ ρ' => (n - ρ'.i 520).toNat) ?_
    ⟨0, rc_I.ap ρ, a0, ⟨H.agree a0 (by decide), 0, Nat.zero_le _, ap_i rc_I520, ap_i rc_I521, ap_i rc_I522⟩, fun E _ hE => okS_imp hE rc_Iok ρ⟩
  rintro _ ρ' ⟨hA, j, j2, hI⟩
  have hn := hA.A.hn
  have ez : IE.den ρ' (.var 520) = (j : Int) := hI.ej
  have ei : IE.den ρ' (.var 510) = (i : Int) := hA.ei
  have el : IE.den ρ' (.len 0) = (n : Int) := by show (ρ'.len 0 : Int) = n; rw [hA.A.l]
  by_cases c : j < n
  · have fF : Facts.ok ρ' rcF := Facts.ok_cons (by rw [dlt_t, ez, el]; omega) (Facts.ok_cons (by rw [dlt_f, ez]; show (0 : Int) ≤ _; omega) (roF_ok hA))
    have la := cnt_le (isB (g i)) g j
    have lb := cnt_le (isB (g i)) h j
    have tK : eK.den ρ' = true ↔ g j = g i := by unfold eK; rw [seq_t, cl_den ez, cl_den ei, hA.A.eg]
    have tS : eS.den ρ' = true ↔ h j = g i := by unfold eS; rw [seq_t, cl_den ez, cl_den ei, hA.A.eg, hA.A.eh]
    have nx : ∀ β : Bind, β.ge 520 = true → lassoc 520 β.i = some (.op .add .i64 (.var 520) (.lit 1)) → (∃ ea, lassoc 521 β.i = some ea ∧ ea.den ρ' = ((Sr.cnt (isB (g i)) g j + (if isB (g i) (g j) = true then 1 else 0) : Nat) : Int)) → (∃ eb, lassoc 522 β.i = some eb ∧ eb.den ρ' = ((Sr.cnt (isB (g i)) h j + (if isB (g i) (h j) = true then 1 else 0) : Nat) : Int)) →
        (RcA (β.ap ρ') n i g h ∧ ∃ j : Nat, j ≤ n ∧ RcI (β.ap ρ') i j g h) ∧ ((n : Int) - (β.ap ρ').i 520).toNat < ((n : Int) - ρ'.i 520).toNat ∧ Agree rc.n ρ' (β.ap ρ') := fun β hg h0 ⟨ea, h1, h2⟩ ⟨eb, h3, h4⟩ => by
      have ag := Bind.agree hg ρ'
      have e : (β.ap ρ').i 520 = ((j + 1 : Nat) : Int) := (ap_i h0).trans (by show IOp.den .add .i64 (ρ'.i 520) 1 = _; rw [hI.ej]; exact add_nat (b := 1) (by omega))
      refine ⟨⟨hA.agree ag (by decide), j + 1, c, e, (ap_i h1).trans h2, (ap_i h3).trans h4⟩, ?_, ag⟩
      rw [e, hI.ej]; omega
    have a1 : (IE.op .add .i64 (.var 521) (.lit 1)).den ρ' = ((Sr.cnt (isB (g i)) g j + 1 : Nat) : Int) := by show IOp.den .add .i64 (ρ'.i 521) 1 = _; rw [hI.ea]; exact add_nat (b := 1) (by omega)
    have b1 : (IE.op .add .i64 (.var 522) (.lit 1)).den ρ' = ((Sr.cnt (isB (g i)) h j + 1 : Nat) : Int) := by show IOp.den .add .i64 (ρ'.i 522) 1 = _; rw [hI.eb]; exact add_nat (b := 1) (by omega)
    have a0 : (IE.var 521).den ρ' = ((Sr.cnt (isB (g i)) g j + 0 : Nat) : Int) := hI.ea
    have b0 : (IE.var 522).den ρ' = ((Sr.cnt (isB (g i)) h j + 0 : Nat) : Int) := hI.eb
    have iy : ∀ y : ByteArray, y = g i → (if isB (g i) y = true then 1 else 0) = 1 := fun y hy => if_pos (decide_eq_true hy)
    have in_ : ∀ y : ByteArray, ¬ y = g i → (if isB (g i) y = true then 1 else 0) = 0 := fun y hy => if_neg (by unfold isB; rw [decide_eq_false hy]; decide)
    by_cases k1 : g j = g i
    · by_cases k2 : h j = g i
      · obtain ⟨n1, n2, n3⟩ := nx rc_TT_b rc_TT_g rc_TT_520 ⟨_, rc_TT_521, by rw [iy _ k1]; exact a1⟩ ⟨_, rc_TT_522, by rw [iy _ k2]; exact b1⟩
        exact .inr ⟨0, _, fam_go (c := cfgL [] (fun _ => [])) (Φ := (eK, true) :: (eS, true) :: rcF) rc_fits rfl (cN_ok ρ') (Facts.ok_cons (tK.2 k1) (Facts.ok_cons (tS.2 k2) fF)) rc_TT_run rfl rc_TT_ok, n1, n2, n3⟩
      · obtain ⟨n1, n2, n3⟩ := nx rc_TF_b rc_TF_g rc_TF_520 ⟨_, rc_TF_521, by rw [iy _ k1]; exact a1⟩ ⟨_, rc_TF_522, by rw [in_ _ k2]; exact b0⟩
        exact .inr ⟨0, _, fam_go (c := cfgL [] (fun _ => [])) (Φ := (eK, true) :: (eS, false) :: rcF) rc_fits rfl (cN_ok ρ') (Facts.ok_cons (tK.2 k1) (Facts.ok_cons (Bool.eq_false_iff.2 fun q => k2 (tS.1 q)) fF)) rc_TF_run rfl rc_TF_ok, n1, n2, n3⟩
    · by_cases k2 : h j = g i
      · obtain ⟨n1, n2, n3⟩ := nx rc_FT_b rc_FT_g rc_FT_520 ⟨_, rc_FT_521, by rw [in_ _ k1]; exact a0⟩ ⟨_, rc_FT_522, by rw [iy _ k2]; exact b1⟩
        exact .inr ⟨0, _, fam_go (c := cfgL [] (fun _ => [])) (Φ := (eK, false) :: (eS, true) :: rcF) rc_fits rfl (cN_ok ρ') (Facts.ok_cons (Bool.eq_false_iff.2 fun q => k1 (tK.1 q)) (Facts.ok_cons (tS.2 k2) fF)) rc_FT_run rfl rc_FT_ok, n1, n2, n3⟩
      · obtain ⟨n1, n2, n3⟩ := nx rc_FF_b rc_FF_g rc_FF_520 ⟨_, rc_FF_521, by rw [in_ _ k1]; exact a0⟩ ⟨_, rc_FF_522, by rw [in_ _ k2]; exact b0⟩
        exact .inr ⟨0, _, fam_go (c := cfgL [] (fun _ => [])) (Φ := (eK, false) :: (eS, false) :: rcF) rc_fits rfl (cN_ok ρ') (Facts.ok_cons (Bool.eq_false_iff.2 fun q => k1 (tK.1 q)) (Facts.ok_cons (Bool.eq_false_iff.2 fun q => k2 (tS.1 q)) fF)) rc_FF_run rfl rc_FF_ok, n1, n2, n3⟩
  · have ej : j = n := by omega
    subst ej
    refine .inl ⟨ρ', Agree.refl _ _, hI, rfl, ?_⟩
    exact fam_end (c := cfgL [] (fun _ => [])) (Φ := (.lt (.var 520) (.len 0), false) :: roF) rc_fits (cN_ok ρ') (Facts.ok_cons (by rw [dlt_f, ez, el]; omega) (roF_ok hA)) rc_X_run rfl (fun h => nomatch h) rfl
theorem rq_o : othersB [rc] [0] 0 (loopsOf rq_c) = true := by kernel_rfl
theorem rq_l {ρ : Rho} (h : LoopOk Try.prog ρ Try.f4.ntmps rc_c rc) : LpsOk Try.prog ρ Try.f4.ntmps [rc] rq_c :=
  lps_idx [0] rq_o (List.forall_mem_cons.2 ⟨look_list (c := rc_c) (Ls := [rc]) (by kernel_rfl) (List.forall_mem_cons.2 ⟨h, List.forall_mem_nil _⟩), List.forall_mem_nil _⟩)
theorem rq_ok (ρ : Rho) {n : Nat} {g h : Nat → ByteArray} (H : RgA ρ n g h) : ∃ ρf, Agree 510 ρ ρf ∧ LoopOk Try.prog ρf Try.f4.ntmps rq_c rq := by
  suffices hh : ∃ (_ : Nat) (ρf : Rho), Agree rq.n ρ ρf ∧ True ∧ LoopOk Try.prog ρf Try.f4.ntmps rq_c rq by
    obtain ⟨_, ρf, h1, _, h4⟩ := hh
    exact ⟨ρf, h1, h4⟩
  have a0 := Bind.agree rq_Ig ρ
  refine loopOk_famE (L := rq) (N := Try.f4.ntmps) (body := rq_c) (P := Try.prog) rfl rq_Eb (fun _ => rq_S) (fun _ ρ' => RgA ρ' n g h ∧ ∃ i : Nat, ρ'.i 510 = i ∧ i ≤ n) (fun _ _ => True) (fun _ ρ' => (n - ρ'.i 510).toNat) ?_
    ⟨0, rq_I.ap ρ, a0, ⟨H.agree a0 (by decide), 0, ap_i rq_I510, Nat.zero_le _⟩, fun E _ hE => okS_imp hE rq_Iok ρ⟩
  rintro _ ρ' ⟨hA, i, hi, i2⟩
  have hn := hA.hn
  by_cases c : i < n
  · have hC : RcA ρ' n i g h := ⟨hA, hi, c⟩
    obtain ⟨ρ1, ag1, hI, L⟩ := rc_ok ρ' hC
    have hC1 := hC.agree ag1 (Nat.le_refl _)
    have ag : Agree 510 ρ' (rq_G_b.ap ρ1) := (ag1.le (by decide)).trans (Bind.agree rq_G_g ρ1)
    have e : (rq_G_b.ap ρ1).i 510 = ((i + 1 : Nat) : Int) := (ap_i rq_G_510).trans (by show IOp.den .add .i64 (ρ1.i 510) 1 = _; rw [hC1.ei]; exact add_nat (b := 1) (by omega))
    refine .inr ⟨0, rq_G_b.ap ρ1, ?_, ⟨hA.agree ag (by decide), i + 1, e, c⟩, by rw [e, hi]; omega, ag⟩
    exact fam_goU (c := cfgL [] lpRc) (Φ := (.eq (.var 521) (.var 522), true) :: roF) rq_fits (XS.bel_den ag1 rq_S (by kernel_rfl)) (cfgL_ok (List.forall_mem_nil _) (lpRc_ok L)) (rq_l L)
      (Facts.ok_cons (by rw [deq_t]; show ρ1.i 521 = ρ1.i 522; rw [hI.ea, hI.eb, hA.w.cnt (Nat.le_refl _)]) (roF_ok hC1)) rq_G_run rfl rq_G_ok
  · refine .inl ⟨ρ', Agree.refl _ _, trivial, rfl, ?_⟩
    exact fam_end (c := cfgL [] (fun _ => [])) (Φ := [(.lt (.var 510) (.len 0), false)]) rq_fits (cN_ok ρ') (Facts.ok_cons (by rw [dlt_f]; show (ρ'.len 0 : Int) ≤ ρ'.i 510; rw [hA.l, hi]; omega) (Facts.ok_nil _)) rq_X_run rfl (fun h => nomatch h) rfl
end Go.Proofs.Ytegekgjjoojgdaa

/- Ring: RingRising's own run, for every row of keys and every number. -/
namespace Go.Proofs.Ytegekgjjoojgdaa
open Go Go.Proofs.Aw Go.Proofs.Xw Go.Proofs.Sr
set_option maxRecDepth 100000
theorem rg_at {n : Nat} {z : Int} {g h : Nat → ByteArray} (h0 : 0 < n) (hn : n ≤ 600) (hz : Szs g n) (w : Sw 0 n g h) (t : Srt ltR h 0 n) (hs : HS 14 [slV n, cmpV] n g h)
    (hm : hasBody Try.prog 6 = true ∧ ∀ k hp, CY Try.prog k 6 [roV n g] hp (.sc (.bool false)) []) : ∀ k hp, CY Try.prog k 4 [roV n g, .sc (.int .i64 z)] hp (.sc (.bool true)) [] := by
  generalize hρ : ({ putR (rho0 [z] n g) 201 h with ci := fun _ _ k => sec (nZ z) (pt (h k)) } : Rho) = ρ
  have r0 : stR ρ 0 = g := by
    have : stR (putR (rho0 [z] n g) 201 h) 0 = g := putR_ne _ _ _ (by decide)
    rw [← hρ]; exact this
  have r1 : stR ρ 201 = h := by
    have : stR (putR (rho0 [z] n g) 201 h) 201 = h := putR_st _ _ _
    rw [← hρ]; exact this
  have A : RgA ρ n g h := ⟨by rw [← hρ]; rfl, h0, hn, r0, r1, szs_sw w (Nat.le_refl _) hz, fun k _ => by rw [← hρ]; rfl, t, w⟩
  have b0 : ρ.b 90 = false := by rw [← hρ]; rfl
  have i0 : ρ.i 0 = z := by rw [← hρ]; rfl
  obtain ⟨ρ1, ag1, L1⟩ := rp_ok ρ A
  obtain ⟨ρ2, ag2, L2⟩ := rq_ok ρ1 (A.agree ag1 (by decide))
  have L1' : LoopOk Try.prog ρ2 Try.f4.ntmps rp_c rp := LoopOk.agree (B := 510) (show rp.S.bel 510 = true by kernel_rfl) rfl (show rp.out.belX 510 = true by kernel_rfl) ag2 L1
  have ag : Agree 500 ρ ρ2 := ag1.trans (ag2.le (by decide))
  have A2 := A.agree ag (by decide)
  have b2 : ρ2.b 90 = false := by rw [← ag.b 90 (by decide)]; exact b0
  have i2 : ρ2.i 0 = z := by rw [← ag.i 0 (by decide)]; exact i0
  have k0 : X.den ρ2 (kyR 0) = roV n g := by rw [ky_den, A2.l, A2.eg]
  have ks : ∀ p ∈ ksC, hasBody Try.prog p.1 = true ∧ ∀ n h, CY Try.prog n p.1 (X.denL ρ2 p.2.1) h (p.2.2.den ρ2) [] :=
    List.forall_mem_cons.2 ⟨⟨hm.1, fun k hp => by
      have := hm.2 k hp
      simp only [X.denL, k0, X.den, Sc.den, BE.den, b2]; exact this⟩, List.forall_mem_nil _⟩
  have hk : HKOk Try.prog ρ2 kS2 := HS.hk (l := 0) (l' := 201) (by
    simp only [X.denL, slD_den, cmp_den, A2.l, A2.eg, A2.eh]
    exact hs)
  have q := askF_ok (c := ⟨cfgH ksC lpRl [kS2], l_able, [7, 13]⟩) (f := 4) (args := [kyR 0, iV 0]) (Φ := fA0) (cfgH_ok ks (lpRl_ok L1' L2) (List.forall_mem_cons.2 ⟨hk, List.forall_mem_nil _⟩)) l_able_ok
    (Facts.ok_cons b2 (fAl_ok (by have := A2.l; omega))) (r := .sc (.b (.lit true))) (by rw [rgA_run]; rfl)
  have e : X.den ρ2 (iV 0) = .sc (.int .i64 z) := by rw [← i2]; rfl
  simp only [X.denL, k0, e] at q
  exact q.2
/-- The law. -/
theorem rg_cy (n : Nat) (z : Int) (g : Nat → ByteArray) (hz : Szs g n) : ∀ k hp, CY Try.prog k 4 [roV n g, .sc (.int .i64 z)] hp (.sc (.bool true)) [] := by
  obtain ⟨b, hb, hm⟩ := mu_cy n g
  cases b with
  | true =>
    generalize hρ : ({ rho0 [z] n g with b := fun _ => true } : Rho) = ρ
    have e1 : X.denL ρ [kyR 0] = [roV n g] := by simp only [X.denL, ky_den]; rw [← hρ]; rfl
    have e2 : X.den ρ (iV 0) = .sc (.int .i64 z) := by rw [← hρ]; rfl
    have e : X.denL ρ [kyR 0, iV 0] = [roV n g, .sc (.int .i64 z)] := by
      simp only [X.denL] at e1 ⊢
      rw [e2]
      simp only [List.cons.injEq, and_true] at e1
      rw [e1]
    have q := askF_ok (ρ := ρ) (c := ⟨cfgL [(6, [kyR 0], .sc (.b (.var 90)))] (fun _ => []), l_able, [7, 13]⟩) (f := 4) (args := [kyR 0, iV 0]) (Φ := [(.var 90, true)]) (cfgL_ok (List.forall_mem_cons.2 ⟨⟨hm.1, fun k hp => by
      have := hm.2 k hp
      rw [e1]
      have eb : X.den ρ (.sc (.b (.var 90))) = .sc (.bool true) := by rw [← hρ]; rfl
      rw [eb]; exact this⟩, List.forall_mem_nil _⟩) (fun _ _ _ => LpsOk.nil _ _ _ _)) l_able_ok (Facts.ok_cons (by rw [← hρ]; rfl) (Facts.ok_nil _)) (r := .sc (.b (.lit true))) (by rw [rgM_run]; rfl)
    rw [e] at q
    exact q.2
  | false =>
    have hn := hb rfl
    by_cases c : 0 < n
    · obtain ⟨h, w, t, hs⟩ := sort_hs ltR_ord ltR_ck (n := n) (g := g) (by omega) hz
      exact rg_at c hn hz w t hs hm
    · have n0 : n = 0 := by omega
      subst n0
      have q := askF_ok (ρ := rho0 [z] 0 g) (c := ⟨cfgL [] (fun _ => []), l_able, [7, 13]⟩) (f := 4) (args := [kyZ, iV 0]) (Φ := []) (cfgL_ok (List.forall_mem_nil _) (fun _ _ _ => LpsOk.nil _ _ _ _)) l_able_ok (Facts.ok_nil _) (r := .sc (.b (.lit true))) (by rw [rgZ_run]; rfl)
      exact q.2
/-! ### The law's arguments -/
def rgSh : List Sh := [.sl [.s], .flat [.i .i64] false]
theorem rg_law (W : World) (vs : List Value) (hl : rgSh.length = vs.length) (hf : ∀ (i : Nat) (sh : Sh) (v : Value), rgSh[i]? = some sh → vs[i]? = some v → Fits W sh v) : CY Try.prog 0 4 (X.denL (mkR W (plain rgSh vs) vs (rgSh.map shZ)) (pats 0 0 rgSh)) [] (.sc (.bool true)) [] := by
  match vs, hl with
  | [v, u], _ =>
    have hz := sl_sizes (hf 0 (.sl [.s]) v rfl rfl) [v, u] (plain rgSh [v, u]) (rgSh.map shZ) rfl rfl
    show CY Try.prog 0 4 (X.denL _ [kyR 0, iV 0]) [] _ []
    simp only [X.denL, ky_den]
    exact rg_cy _ _ _ hz 0 []
end Go.Proofs.Ytegekgjjoojgdaa
