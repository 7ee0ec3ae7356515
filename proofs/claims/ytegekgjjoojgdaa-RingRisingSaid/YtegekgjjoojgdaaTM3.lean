/- Parts of the proof, one behind the other. -/
import Derived.Test.YtegekgjjoojgdaaTM2
import Derived.Test.YtegekgjjoojgdaaXwM3
import Derived.Test.YtegekgjjoojgdaaTM1
/- Ring: the searches of symMerge: by halves, to the place from which on it is no longer so. -/
namespace Go.Proofs.Ytegekgjjoojgdaa
open Go Go.Proofs.Aw Go.Proofs.Xw Go.Proofs.Sr
set_option maxRecDepth 100000
/-- The comparison that is handed in is an order's. -/
def CK (lt : ByteArray → ByteArray → Prop) : Prop := ∀ x y : ByteArray, x.size < 9223372036854775808 → y.size < 9223372036854775808 → ∃ c : Int, (c < 0 ↔ lt x y) ∧ hasBody Try.prog 15 = true ∧ ∀ n h, CY Try.prog n 15 [.sc (.string x), .sc (.string y)] h (.sc (.int .i64 c)) []
/-- Strings that a machine can hold. -/
def Szs (g : Nat → ByteArray) (n : Nat) : Prop := ∀ k, k < n → (g k).size < 9223372036854775808
/-- Where a search by halves stands. -/
structure BsI (P : Nat → Prop) (lo hi i j : Nat) : Prop where
  h1 : lo ≤ i
  h2 : i ≤ j
  h3 : j ≤ hi
  up : ∀ k, lo ≤ k → k < i → P k
  dn : ∀ k, j ≤ k → k < hi → ¬ P k
theorem BsI.go {P : Nat → Prop} {lo hi i j : Nat} (mono : ∀ k h, lo ≤ k → k ≤ h → h < hi → P h → P k) (b : BsI P lo hi i j) (hij : i < j) (hP : P ((i + j) / 2)) : BsI P lo hi ((i + j) / 2 + 1) j :=
  ⟨by have := b.h1; omega, by omega, b.h3, fun k h1 h2 => mono k _ h1 (by omega) (by have := b.h3; omega) hP, b.dn⟩
theorem BsI.stop {P : Nat → Prop} {lo hi i j : Nat} (mono : ∀ k h, lo ≤ k → k ≤ h → h < hi → P h → P k) (b : BsI P lo hi i j) (hij : i < j) (hP : ¬ P ((i + j) / 2)) : BsI P lo hi i ((i + j) / 2) :=
  ⟨b.h1, by omega, by have := b.h3; omega, b.up, fun k h1 h2 h3 => hP (mono _ k (by have := b.h1; omega) h1 h2 h3)⟩
theorem mid_den {ρ : Rho} {a b i j : Nat} (ha : ρ.i a = i) (hb : ρ.i b = j) (h : i + j < 4611686018427387904) : (midE a b).den ρ = (((i + j) / 2 : Nat) : Int) := by
  unfold midE
  simp only [IE.den, IOp.den, ha, hb]
  rw [wrap_id ((i : Int) + j) (by omega) (by omega), Xw.u64_in _ (by omega) (by omega)]
  have e : Int.fdiv ((i : Int) + j) (2 ^ (Min.min (Int.toNat 1) IntKind.u64.bits)) = (((i + j) / 2 : Nat) : Int) := by
    rw [show (Min.min (Int.toNat 1) IntKind.u64.bits) = 1 from by decide, Int.fdiv_eq_ediv_of_nonneg _ (by decide)]
    omega
  rw [e, wrap_id _ (by omega) (by omega)]
theorem at_den {ρ : Rho} {e : IE} {n : Nat} (h : e.den ρ = n) : X.den ρ (atX e) = .sc (.string (stR ρ 0 n)) := by
  simp only [atX, X.den, Sc.den, TE.den, h, Int.toNat_natCast]; rfl
theorem lsF_ok {ρ : Rho} {a b i j : Nat} {v : Bool} (ha : ρ.i a = i) (hb : ρ.i b = j) (h : v = decide (i < j)) : Facts.ok ρ (lsF a b v) := by
  refine Facts.ok_cons ?_ (Facts.ok_nil _)
  subst h
  show decide (ρ.i a < ρ.i b) = _
  rw [ha, hb]
  exact decide_eq_decide.2 (by omega)
theorem ngF_ok {ρ : Rho} {c : Nat} {v : Bool} (h : v = decide (ρ.i c < 0)) : Facts.ok ρ (ngF c v) := by
  refine Facts.ok_cons ?_ (Facts.ok_nil _)
  subst h; rfl
theorem all_ok {ρ : Rho} {Φ Ψ : Facts} (h : Facts.ok ρ Φ) (k : Facts.ok ρ Ψ) : Facts.ok ρ (Φ ++ Ψ) := fun p hp => (List.mem_append.1 hp).elim (h p) (k p)
/-- A whole number behind a letter. -/
def putI (ρ : Rho) (l : Nat) (v : Int) : Rho := { ρ with i := fun k => if k = l then v else ρ.i k }
theorem putI_agree (ρ : Rho) (l : Nat) (v : Int) {n : Nat} (hn : n ≤ l) : Agree n ρ (putI ρ l v) :=
  ⟨fun k hk => by show _ = if k = l then _ else _; rw [if_neg (by omega)], fun _ _ => rfl, fun _ _ => rfl, fun _ _ => rfl, fun _ _ => rfl, fun _ _ => rfl, fun _ _ => rfl⟩
theorem putI_at (ρ : Rho) (l : Nat) (v : Int) : (putI ρ l v).i l = v := by show (if l = l then v else _) = v; rw [if_pos rfl]
theorem putI_ne (ρ : Rho) (l : Nat) (v : Int) {k : Nat} (h : k ≠ l) : (putI ρ l v).i k = ρ.i k := by show (if k = l then v else _) = _; rw [if_neg h]
theorem sel_need {α : Type} {ρ : Rho} {c : BE} {t : T α} {r : α} (h : c.den ρ = true) (hs : t.sel ρ = some r) : (T.need c t).sel ρ = some r := by rw [T.sel, if_pos h]; exact hs
/-- The letters of symMerge's call. -/
structure SmA (ρ : Rho) (a m b : Nat) : Prop where
  ea : ρ.i 1 = a
  em : ρ.i 2 = m
  eb : ρ.i 3 = b
  h1 : a < m
  h2 : m < b
  h3 : b ≤ ρ.len 0
  l : ρ.len 0 < 1000000
  z : Szs (stR ρ 0) (ρ.len 0)
theorem SmA.agree {ρ ρ' : Rho} {a m b n : Nat} (h : SmA ρ a m b) (ag : Agree n ρ ρ') (hn : 4 ≤ n) : SmA ρ' a m b :=
  ⟨by rw [← ag.i 1 (by omega)]; exact h.ea, by rw [← ag.i 2 (by omega)]; exact h.em, by rw [← ag.i 3 (by omega)]; exact h.eb, h.h1, h.h2, by rw [← ag.len 0 (by omega)]; exact h.h3, by rw [← ag.len 0 (by omega)]; exact h.l,
    by rw [agree_st ag (by omega), ← ag.len 0 (by omega)]; exact h.z⟩
section
variable {lt : ByteArray → ByteArray → Prop}
/-! ### where one from the left is put into the right row -/
def m0R (lt : ByteArray → ByteArray → Prop) (a m b : Nat) (f : Nat → ByteArray) (ρ : Rho) : Prop := SmA ρ a m b ∧ stR ρ 0 = f ∧ ∃ i j : Nat, ρ.i 120 = i ∧ ρ.i 121 = j ∧ BsI (fun k => lt (f k) (f a)) (m) (b) i j
theorem m0_Sb : m0_S.bel 125 = true := by kernel_rfl
theorem m0_ok (ck : CK lt) (ρ : Rho) {a m b : Nat} (h : SmA ρ a m b) (mono : ∀ k h, m ≤ k → k ≤ h → h < b → (fun k => lt ((stR ρ 0) k) ((stR ρ 0) a)) h → (fun k => lt ((stR ρ 0) k) ((stR ρ 0) a)) k) : ∃ ρf, Agree 120 ρ ρf ∧ m0R lt a m b (stR ρ 0) ρf ∧ ρf.i 120 = ρf.i 121 ∧ LoopOk Try.prog ρf Try.f30.ntmps m0_c m0 := by
  have ha1 := h.h1; have hb1 := h.h2; have hl1 := h.h3; have hl2 := h.l
  suffices hh : ∃ (_ : Nat) (ρf : Rho), Agree m0.n ρ ρf ∧ (m0R lt a m b (stR ρ 0) ρf ∧ ρf.i 120 = ρf.i 121) ∧ LoopOk Try.prog ρf Try.f30.ntmps m0_c m0 by
    obtain ⟨_, ρf, h1, ⟨h2, h3⟩, h4⟩ := hh
    exact ⟨ρf, h1, h2, h3, h4⟩
  refine loopOk_famE (L := m0) (N := Try.f30.ntmps) (body := m0_c) (P := Try.prog) rfl m0_Eb (fun _ => m0_S) (fun _ => m0R lt a m b (stR ρ 0)) (fun _ ρ' => m0R lt a m b (stR ρ 0) ρ' ∧ ρ'.i 120 = ρ'.i 121) (fun _ ρ' => (ρ'.i 121 - ρ'.i 120).toNat) ?_
    ⟨0, m0_I.ap ρ, Bind.agree m0_Ig ρ, ⟨h.agree (Bind.agree m0_Ig ρ) (by decide), agree_st (Bind.agree m0_Ig ρ) (by decide), m, b, (ap_i m0_I120).trans h.em, (ap_i m0_I121).trans h.eb, Nat.le_refl _, by omega, Nat.le_refl _, fun k h1 h2 => absurd h2 (by omega), fun k h1 h2 => absurd h2 (by omega)⟩, fun E _ hE => okS_imp hE m0_Iok ρ⟩
  rintro _ ρ' ⟨hA, hf, i, j, hi, hj, hI⟩
  have := hI.h1; have := hI.h2; have := hI.h3; have := hA.h3; have hl := hA.l; have hz := hA.z
  by_cases c : i < j
  · generalize hh : (i + j) / 2 = h at *
    obtain ⟨c0, hc, hb, hcy⟩ := ck (stR ρ' 0 (h)) (stR ρ' 0 (a)) (hz _ (by omega)) (hz _ (by omega))
    have ag1 := putI_agree ρ' 125 c0 (n := 125) (Nat.le_refl _)
    have hi1 : (putI ρ' 125 c0).i 120 = i := by rw [putI_ne _ _ _ (by decide)]; exact hi
    have hj1 : (putI ρ' 125 c0).i 121 = j := by rw [putI_ne _ _ _ (by decide)]; exact hj
    have mh : (midE 120 121).den (putI ρ' 125 c0) = ((h : Nat) : Int) := by rw [mid_den hi1 hj1 (by omega), hh]
    have ex : IE.den (putI ρ' 125 c0) (midE 120 121) = ((h : Nat) : Int) := mh
    have ey : IE.den (putI ρ' 125 c0) (.var 1) = ((a : Nat) : Int) := by show (putI ρ' 125 c0).i 1 = _; rw [putI_ne _ _ _ (by decide)]; exact hA.ea
    have nd : (BE.and (.not (.lt (midE 120 121) (.lit 0))) (.and (.lt (midE 120 121) (.len 0)) (.and (.not (.lt (.var 1) (.lit 0))) (.lt (.var 1) (.len 0))))).den (putI ρ' 125 c0) = true := by
      rw [dand_t, dand_t, dand_t, dnot_t, dnot_t, dlt_f, dlt_f, dlt_t, dlt_t, ex, ey]
      simp only [IE.den]
      have := ag1.len 0 (by decide)
      omega
    rw [hf] at hc
    by_cases hlt : lt ((stR ρ 0) (h)) ((stR ρ 0) (a))
    · have hP := hlt
      refine .inr ⟨0, m0_G_b.ap (putI ρ' 125 c0), ?_, ?_⟩
      · refine fam_go (c := cfgL ks0 (fun _ => [])) (Φ := lsF 120 121 true ++ ngF 125 true) m0_fits (XS.bel_den ag1 m0_S m0_Sb) (cfgL_ok (List.forall_mem_cons.2 ⟨⟨hb, fun n hp => ?_⟩, List.forall_mem_nil _⟩) (fun _ _ _ => LpsOk.nil _ _ _ _)) (all_ok (lsF_ok hi1 hj1 (decide_eq_true c).symm) (ngF_ok (by rw [putI_at]; exact (decide_eq_true (hc.2 hlt)).symm))) m0_G_run (sel_need nd rfl) m0_G_ok
        show CY Try.prog n 15 (X.denL (putI ρ' 125 c0) [atX (midE 120 121), atX (.var 1)]) hp (X.den (putI ρ' 125 c0) (iV 125)) []
        rw [show X.denL (putI ρ' 125 c0) [atX (midE 120 121), atX (.var 1)] = [.sc (.string (stR ρ' 0 (h))), .sc (.string (stR ρ' 0 (a)))] from by simp only [X.denL]; rw [at_den ex, at_den ey]; rfl, show X.den (putI ρ' 125 c0) (iV 125) = .sc (.int .i64 c0) from by simp only [iV, X.den, Sc.den, IE.den, putI_at]]
        exact hcy n hp
      · have ag : Agree 120 ρ' (m0_G_b.ap (putI ρ' 125 c0)) := (putI_agree _ _ _ (by decide)).trans (Bind.agree m0_G_g _)
        have e1 : (m0_G_b.ap (putI ρ' 125 c0)).i 120 = ((h + 1 : Nat) : Int) := by rw [ap_i m0_G_120]; show IOp.den .add .i64 ((midE 120 121).den _) 1 = _; rw [mh]; exact add_nat (b := 1) (by omega)
        have e2 : (m0_G_b.ap (putI ρ' 125 c0)).i 121 = ((j : Nat) : Int) := by rw [ap_i m0_G_121]; exact hj1
        refine ⟨⟨hA.agree ag (by decide), (agree_st ag (by decide)).trans hf, _, _, e1, e2, by have q := hI.go mono c (by rw [hh]; exact hP); rw [hh] at q; exact q⟩, ?_, ag⟩
        show (_ - _ : Int).toNat < (_ - _ : Int).toNat
        rw [e1, e2, hi, hj]; omega
    · have hP := hlt
      refine .inr ⟨0, m0_L_b.ap (putI ρ' 125 c0), ?_, ?_⟩
      · refine fam_go (c := cfgL ks0 (fun _ => [])) (Φ := lsF 120 121 true ++ ngF 125 false) m0_fits (XS.bel_den ag1 m0_S m0_Sb) (cfgL_ok (List.forall_mem_cons.2 ⟨⟨hb, fun n hp => ?_⟩, List.forall_mem_nil _⟩) (fun _ _ _ => LpsOk.nil _ _ _ _)) (all_ok (lsF_ok hi1 hj1 (decide_eq_true c).symm) (ngF_ok (by rw [putI_at]; exact (decide_eq_false (fun h => hlt (hc.1 h))).symm))) m0_L_run (sel_need nd rfl) m0_L_ok
        show CY Try.prog n 15 (X.denL (putI ρ' 125 c0) [atX (midE 120 121), atX (.var 1)]) hp (X.den (putI ρ' 125 c0) (iV 125)) []
        rw [show X.denL (putI ρ' 125 c0) [atX (midE 120 121), atX (.var 1)] = [.sc (.string (stR ρ' 0 (h))), .sc (.string (stR ρ' 0 (a)))] from by simp only [X.denL]; rw [at_den ex, at_den ey]; rfl, show X.den (putI ρ' 125 c0) (iV 125) = .sc (.int .i64 c0) from by simp only [iV, X.den, Sc.den, IE.den, putI_at]]
        exact hcy n hp
      · have ag : Agree 120 ρ' (m0_L_b.ap (putI ρ' 125 c0)) := (putI_agree _ _ _ (by decide)).trans (Bind.agree m0_L_g _)
        have e1 : (m0_L_b.ap (putI ρ' 125 c0)).i 120 = ((i : Nat) : Int) := by rw [ap_i m0_L_120]; exact hi1
        have e2 : (m0_L_b.ap (putI ρ' 125 c0)).i 121 = ((h : Nat) : Int) := by rw [ap_i m0_L_121]; exact mh
        refine ⟨⟨hA.agree ag (by decide), (agree_st ag (by decide)).trans hf, _, _, e1, e2, by have q := hI.stop mono c (by rw [hh]; exact hP); rw [hh] at q; exact q⟩, ?_, ag⟩
        show (_ - _ : Int).toNat < (_ - _ : Int).toNat
        rw [e1, e2, hi, hj]; omega
  · refine .inl ⟨ρ', Agree.refl _ _, ⟨⟨hA, hf, i, j, hi, hj, hI⟩, by rw [hi, hj, show i = j by omega]⟩, rfl, ?_⟩
    exact fam_end (c := cfgL [] (fun _ => [])) m0_fits (cN_ok ρ') (lsF_ok hi hj (decide_eq_false c).symm) m0_X_run rfl (fun h => nomatch h) rfl
/-! ### where one from the right is put into the left row -/
def m2R (lt : ByteArray → ByteArray → Prop) (a m b : Nat) (f : Nat → ByteArray) (ρ : Rho) : Prop := SmA ρ a m b ∧ stR ρ 0 = f ∧ ∃ i j : Nat, ρ.i 120 = i ∧ ρ.i 121 = j ∧ BsI (fun k => ¬ lt (f m) (f k)) (a) (m) i j
theorem m2_Sb : m2_S.bel 125 = true := by kernel_rfl
theorem m2_ok (ck : CK lt) (ρ : Rho) {a m b : Nat} (h : SmA ρ a m b) (mono : ∀ k h, a ≤ k → k ≤ h → h < m → (fun k => ¬ lt ((stR ρ 0) m) ((stR ρ 0) k)) h → (fun k => ¬ lt ((stR ρ 0) m) ((stR ρ 0) k)) k) : ∃ ρf, Agree 120 ρ ρf ∧ m2R lt a m b (stR ρ 0) ρf ∧ ρf.i 120 = ρf.i 121 ∧ LoopOk Try.prog ρf Try.f30.ntmps m2_c m2 := by
  have ha1 := h.h1; have hb1 := h.h2; have hl1 := h.h3; have hl2 := h.l
  suffices hh : ∃ (_ : Nat) (ρf : Rho), Agree m2.n ρ ρf ∧ (m2R lt a m b (stR ρ 0) ρf ∧ ρf.i 120 = ρf.i 121) ∧ LoopOk Try.prog ρf Try.f30.ntmps m2_c m2 by
    obtain ⟨_, ρf, h1, ⟨h2, h3⟩, h4⟩ := hh
    exact ⟨ρf, h1, h2, h3, h4⟩
  refine loopOk_famE (L := m2) (N := Try.f30.ntmps) (body := m2_c) (P := Try.prog) rfl m2_Eb (fun _ => m2_S) (fun _ => m2R lt a m b (stR ρ 0)) (fun _ ρ' => m2R lt a m b (stR ρ 0) ρ' ∧ ρ'.i 120 = ρ'.i 121) (fun _ ρ' => (ρ'.i 121 - ρ'.i 120).toNat) ?_
    ⟨0, m2_I.ap ρ, Bind.agree m2_Ig ρ, ⟨h.agree (Bind.agree m2_Ig ρ) (by decide), agree_st (Bind.agree m2_Ig ρ) (by decide), a, m, (ap_i m2_I120).trans h.ea, (ap_i m2_I121).trans h.em, Nat.le_refl _, by omega, Nat.le_refl _, fun k h1 h2 => absurd h2 (by omega), fun k h1 h2 => absurd h2 (by omega)⟩, fun E _ hE => okS_imp hE m2_Iok ρ⟩
  rintro _ ρ' ⟨hA, hf, i, j, hi, hj, hI⟩
  have := hI.h1; have := hI.h2; have := hI.h3; have := hA.h3; have hl := hA.l; have hz := hA.z
  by_cases c : i < j
  · generalize hh : (i + j) / 2 = h at *
    obtain ⟨c0, hc, hb, hcy⟩ := ck (stR ρ' 0 (m)) (stR ρ' 0 (h)) (hz _ (by omega)) (hz _ (by omega))
    have ag1 := putI_agree ρ' 125 c0 (n := 125) (Nat.le_refl _)
    have hi1 : (putI ρ' 125 c0).i 120 = i := by rw [putI_ne _ _ _ (by decide)]; exact hi
    have hj1 : (putI ρ' 125 c0).i 121 = j := by rw [putI_ne _ _ _ (by decide)]; exact hj
    have mh : (midE 120 121).den (putI ρ' 125 c0) = ((h : Nat) : Int) := by rw [mid_den hi1 hj1 (by omega), hh]
    have ex : IE.den (putI ρ' 125 c0) (.var 2) = ((m : Nat) : Int) := by show (putI ρ' 125 c0).i 2 = _; rw [putI_ne _ _ _ (by decide)]; exact hA.em
    have ey : IE.den (putI ρ' 125 c0) (midE 120 121) = ((h : Nat) : Int) := mh
    have nd : (BE.and (.not (.lt (.var 2) (.lit 0))) (.and (.lt (.var 2) (.len 0)) (.and (.not (.lt (midE 120 121) (.lit 0))) (.lt (midE 120 121) (.len 0))))).den (putI ρ' 125 c0) = true := by
      rw [dand_t, dand_t, dand_t, dnot_t, dnot_t, dlt_f, dlt_f, dlt_t, dlt_t, ex, ey]
      simp only [IE.den]
      have := ag1.len 0 (by decide)
      omega
    rw [hf] at hc
    by_cases hlt : lt ((stR ρ 0) (m)) ((stR ρ 0) (h))
    · have hP := hlt
      refine .inr ⟨0, m2_G_b.ap (putI ρ' 125 c0), ?_, ?_⟩
      · refine fam_go (c := cfgL ks2 (fun _ => [])) (Φ := lsF 120 121 true ++ ngF 125 true) m2_fits (XS.bel_den ag1 m2_S m2_Sb) (cfgL_ok (List.forall_mem_cons.2 ⟨⟨hb, fun n hp => ?_⟩, List.forall_mem_nil _⟩) (fun _ _ _ => LpsOk.nil _ _ _ _)) (all_ok (lsF_ok hi1 hj1 (decide_eq_true c).symm) (ngF_ok (by rw [putI_at]; exact (decide_eq_true (hc.2 hlt)).symm))) m2_G_run (sel_need nd rfl) m2_G_ok
        show CY Try.prog n 15 (X.denL (putI ρ' 125 c0) [atX (.var 2), atX (midE 120 121)]) hp (X.den (putI ρ' 125 c0) (iV 125)) []
        rw [show X.denL (putI ρ' 125 c0) [atX (.var 2), atX (midE 120 121)] = [.sc (.string (stR ρ' 0 (m))), .sc (.string (stR ρ' 0 (h)))] from by simp only [X.denL]; rw [at_den ex, at_den ey]; rfl, show X.den (putI ρ' 125 c0) (iV 125) = .sc (.int .i64 c0) from by simp only [iV, X.den, Sc.den, IE.den, putI_at]]
        exact hcy n hp
      · have ag : Agree 120 ρ' (m2_G_b.ap (putI ρ' 125 c0)) := (putI_agree _ _ _ (by decide)).trans (Bind.agree m2_G_g _)
        have e1 : (m2_G_b.ap (putI ρ' 125 c0)).i 120 = ((i : Nat) : Int) := by rw [ap_i m2_G_120]; exact hi1
        have e2 : (m2_G_b.ap (putI ρ' 125 c0)).i 121 = ((h : Nat) : Int) := by rw [ap_i m2_G_121]; exact mh
        refine ⟨⟨hA.agree ag (by decide), (agree_st ag (by decide)).trans hf, _, _, e1, e2, by have q := hI.stop mono c (by rw [hh]; exact fun q => q hP); rw [hh] at q; exact q⟩, ?_, ag⟩
        show (_ - _ : Int).toNat < (_ - _ : Int).toNat
        rw [e1, e2, hi, hj]; omega
    · have hP := hlt
      refine .inr ⟨0, m2_L_b.ap (putI ρ' 125 c0), ?_, ?_⟩
      · refine fam_go (c := cfgL ks2 (fun _ => [])) (Φ := lsF 120 121 true ++ ngF 125 false) m2_fits (XS.bel_den ag1 m2_S m2_Sb) (cfgL_ok (List.forall_mem_cons.2 ⟨⟨hb, fun n hp => ?_⟩, List.forall_mem_nil _⟩) (fun _ _ _ => LpsOk.nil _ _ _ _)) (all_ok (lsF_ok hi1 hj1 (decide_eq_true c).symm) (ngF_ok (by rw [putI_at]; exact (decide_eq_false (fun h => hlt (hc.1 h))).symm))) m2_L_run (sel_need nd rfl) m2_L_ok
        show CY Try.prog n 15 (X.denL (putI ρ' 125 c0) [atX (.var 2), atX (midE 120 121)]) hp (X.den (putI ρ' 125 c0) (iV 125)) []
        rw [show X.denL (putI ρ' 125 c0) [atX (.var 2), atX (midE 120 121)] = [.sc (.string (stR ρ' 0 (m))), .sc (.string (stR ρ' 0 (h)))] from by simp only [X.denL]; rw [at_den ex, at_den ey]; rfl, show X.den (putI ρ' 125 c0) (iV 125) = .sc (.int .i64 c0) from by simp only [iV, X.den, Sc.den, IE.den, putI_at]]
        exact hcy n hp
      · have ag : Agree 120 ρ' (m2_L_b.ap (putI ρ' 125 c0)) := (putI_agree _ _ _ (by decide)).trans (Bind.agree m2_L_g _)
        have e1 : (m2_L_b.ap (putI ρ' 125 c0)).i 120 = ((h + 1 : Nat) : Int) := by rw [ap_i m2_L_120]; show IOp.den .add .i64 ((midE 120 121).den _) 1 = _; rw [mh]; exact add_nat (b := 1) (by omega)
        have e2 : (m2_L_b.ap (putI ρ' 125 c0)).i 121 = ((j : Nat) : Int) := by rw [ap_i m2_L_121]; exact hj1
        refine ⟨⟨hA.agree ag (by decide), (agree_st ag (by decide)).trans hf, _, _, e1, e2, by have q := hI.go mono c (by rw [hh]; exact hP); rw [hh] at q; exact q⟩, ?_, ag⟩
        show (_ - _ : Int).toNat < (_ - _ : Int).toNat
        rw [e1, e2, hi, hj]; omega
  · refine .inl ⟨ρ', Agree.refl _ _, ⟨⟨hA, hf, i, j, hi, hj, hI⟩, by rw [hi, hj, show i = j by omega]⟩, rfl, ?_⟩
    exact fam_end (c := cfgL [] (fun _ => [])) m2_fits (cN_ok ρ') (lsF_ok hi hj (decide_eq_false c).symm) m2_X_run rfl (fun h => nomatch h) rfl
/-- Where the search begins and ends. -/
def st0 (a m b : Nat) : Nat := if (a + b) / 2 < m then (a + b) / 2 + m - b else a
def r0 (a m b : Nat) : Nat := if (a + b) / 2 < m then (a + b) / 2 else m
theorem m4_init {ρ : Rho} {a m b : Nat} (h : SmA ρ a m b) : (m4_I.ap ρ).i 132 = (((a + b) / 2 : Nat) : Int) ∧ (m4_I.ap ρ).i 133 = (((a + b) / 2 + m : Nat) : Int) ∧ (m4_I.ap ρ).i 134 = (((a + b) / 2 + m - 1 : Nat) : Int) ∧ (m4_I.ap ρ).i 130 = ((st0 a m b : Nat) : Int) ∧ (m4_I.ap ρ).i 131 = ((r0 a m b : Nat) : Int) := by
  have h1 := h.h1; have h2 := h.h2; have h3 := h.h3; have hl := h.l
  have md : (midE 1 3).den ρ = (((a + b) / 2 : Nat) : Int) := mid_den h.ea h.eb (by omega)
  have en : IE.den ρ (.op .add .i64 (midE 1 3) (.var 2)) = (((a + b) / 2 + m : Nat) : Int) := by simp only [IE.den, md, h.em]; exact add_nat (by omega)
  have ec : (BE.lt (midE 1 3) (.var 2)).den ρ = decide ((a + b) / 2 < m) := by
    show decide ((midE 1 3).den ρ < ρ.i 2) = _
    rw [md, h.em]; exact decide_eq_decide.2 (by omega)
  refine ⟨(ap_i m4_I132).trans md, (ap_i m4_I133).trans en, (ap_i m4_I134).trans ?_, (ap_i m4_I130).trans ?_, (ap_i m4_I131).trans ?_⟩
  · show IOp.den .sub .i64 (IE.den ρ (.op .add .i64 (midE 1 3) (.var 2))) 1 = _
    rw [en]; exact sub_nat (b := 1) (by omega) (by omega)
  · show (if (BE.lt (midE 1 3) (.var 2)).den ρ = true then IOp.den .sub .i64 (IE.den ρ (.op .add .i64 (midE 1 3) (.var 2))) (ρ.i 3) else ρ.i 1) = _
    rw [ec, en, h.eb, h.ea]
    unfold st0
    by_cases c : (a + b) / 2 < m
    · rw [if_pos (decide_eq_true c), if_pos c]; exact sub_nat (by omega) (by omega)
    · rw [if_neg (by simp [c]), if_neg c]
  · show (if (BE.lt (midE 1 3) (.var 2)).den ρ = true then (midE 1 3).den ρ else ρ.i 2) = _
    rw [ec, md, h.em]
    unfold r0
    by_cases c : (a + b) / 2 < m
    · rw [if_pos (decide_eq_true c), if_pos c]
    · rw [if_neg (by simp [c]), if_neg c]
/-! ### where the row is turned -/
def m4R (lt : ByteArray → ByteArray → Prop) (a m b : Nat) (f : Nat → ByteArray) (ρ : Rho) : Prop := SmA ρ a m b ∧ stR ρ 0 = f ∧ ρ.i 132 = (((a + b) / 2 : Nat) : Int) ∧ ρ.i 133 = (((a + b) / 2 + m : Nat) : Int) ∧ ρ.i 134 = (((a + b) / 2 + m - 1 : Nat) : Int) ∧ ∃ i j : Nat, ρ.i 130 = i ∧ ρ.i 131 = j ∧ BsI (fun k => ¬ lt (f ((a + b) / 2 + m - 1 - k)) (f k)) (st0 a m b) (r0 a m b) i j
theorem m4_Sb : m4_S.bel 139 = true := by kernel_rfl
theorem m4_ok (ck : CK lt) (ρ : Rho) {a m b : Nat} (h : SmA ρ a m b) (mono : ∀ k h, st0 a m b ≤ k → k ≤ h → h < r0 a m b → (fun k => ¬ lt ((stR ρ 0) ((a + b) / 2 + m - 1 - k)) ((stR ρ 0) k)) h → (fun k => ¬ lt ((stR ρ 0) ((a + b) / 2 + m - 1 - k)) ((stR ρ 0) k)) k) : ∃ ρf, Agree 130 ρ ρf ∧ m4R lt a m b (stR ρ 0) ρf ∧ ρf.i 130 = ρf.i 131 ∧ LoopOk Try.prog ρf Try.f30.ntmps m4_c m4 := by
  have ha1 := h.h1; have hb1 := h.h2; have hl1 := h.h3; have hl2 := h.l
  suffices hh : ∃ (_ : Nat) (ρf : Rho), Agree m4.n ρ ρf ∧ (m4R lt a m b (stR ρ 0) ρf ∧ ρf.i 130 = ρf.i 131) ∧ LoopOk Try.prog ρf Try.f30.ntmps m4_c m4 by
    obtain ⟨_, ρf, h1, ⟨h2, h3⟩, h4⟩ := hh
    exact ⟨ρf, h1, h2, h3, h4⟩
  refine loopOk_famE (L := m4) (N := Try.f30.ntmps) (body := m4_c) (P := Try.prog) rfl m4_Eb (fun _ => m4_S) (fun _ => m4R lt a m b (stR ρ 0)) (fun _ ρ' => m4R lt a m b (stR ρ 0) ρ' ∧ ρ'.i 130 = ρ'.i 131) (fun _ ρ' => (ρ'.i 131 - ρ'.i 130).toNat) ?_
    ⟨0, m4_I.ap ρ, Bind.agree m4_Ig ρ, ⟨h.agree (Bind.agree m4_Ig ρ) (by decide), agree_st (Bind.agree m4_Ig ρ) (by decide), (m4_init h).1, (m4_init h).2.1, (m4_init h).2.2.1, _, _, (m4_init h).2.2.2.1, (m4_init h).2.2.2.2, Nat.le_refl _, by unfold st0 r0; split <;> omega, Nat.le_refl _, fun k h1 h2 => absurd h2 (by omega), fun k h1 h2 => absurd h2 (by omega)⟩, fun E _ hE => okS_imp hE m4_Iok ρ⟩
  rintro _ ρ' ⟨hA, hf, x132, x133, x134, i, j, hi, hj, hI⟩
  have := hI.h1; have := hI.h2; have := hI.h3; have := hA.h3; have hl := hA.l; have hz := hA.z
  have r0b : r0 a m b ≤ m ∧ r0 a m b ≤ (a + b) / 2 := by unfold r0; split <;> omega
  have st0b : (a + b) / 2 + m ≤ b + st0 a m b ∧ a ≤ st0 a m b := by unfold st0; split <;> omega
  by_cases c : i < j
  · generalize hh : (i + j) / 2 = h at *
    obtain ⟨c0, hc, hb, hcy⟩ := ck (stR ρ' 0 ((a + b) / 2 + m - 1 - h)) (stR ρ' 0 (h)) (hz _ (by omega)) (hz _ (by omega))
    have ag1 := putI_agree ρ' 139 c0 (n := 139) (Nat.le_refl _)
    have hi1 : (putI ρ' 139 c0).i 130 = i := by rw [putI_ne _ _ _ (by decide)]; exact hi
    have hj1 : (putI ρ' 139 c0).i 131 = j := by rw [putI_ne _ _ _ (by decide)]; exact hj
    have mh : (midE 130 131).den (putI ρ' 139 c0) = ((h : Nat) : Int) := by rw [mid_den hi1 hj1 (by omega), hh]
    have ex : IE.den (putI ρ' 139 c0) (.op .sub .i64 (.var 134) (midE 130 131)) = (((a + b) / 2 + m - 1 - h : Nat) : Int) := by show IOp.den .sub .i64 ((putI ρ' 139 c0).i 134) ((midE 130 131).den _) = _; rw [mh, putI_ne _ _ _ (by decide), x134]; exact sub_nat (by omega) (by omega)
    have ey : IE.den (putI ρ' 139 c0) (midE 130 131) = ((h : Nat) : Int) := mh
    have nd : (BE.and (.not (.lt (.op .sub .i64 (.var 134) (midE 130 131)) (.lit 0))) (.and (.lt (.op .sub .i64 (.var 134) (midE 130 131)) (.len 0)) (.and (.not (.lt (midE 130 131) (.lit 0))) (.lt (midE 130 131) (.len 0))))).den (putI ρ' 139 c0) = true := by
      rw [dand_t, dand_t, dand_t, dnot_t, dnot_t, dlt_f, dlt_f, dlt_t, dlt_t, ex, ey]
      simp only [IE.den]
      have := ag1.len 0 (by decide)
      omega
    rw [hf] at hc
    by_cases hlt : lt ((stR ρ 0) ((a + b) / 2 + m - 1 - h)) ((stR ρ 0) (h))
    · have hP := hlt
      refine .inr ⟨0, m4_G_b.ap (putI ρ' 139 c0), ?_, ?_⟩
      · refine fam_go (c := cfgL ks4 (fun _ => [])) (Φ := lsF 130 131 true ++ ngF 139 true) m4_fits (XS.bel_den ag1 m4_S m4_Sb) (cfgL_ok (List.forall_mem_cons.2 ⟨⟨hb, fun n hp => ?_⟩, List.forall_mem_nil _⟩) (fun _ _ _ => LpsOk.nil _ _ _ _)) (all_ok (lsF_ok hi1 hj1 (decide_eq_true c).symm) (ngF_ok (by rw [putI_at]; exact (decide_eq_true (hc.2 hlt)).symm))) m4_G_run (sel_need nd rfl) m4_G_ok
        show CY Try.prog n 15 (X.denL (putI ρ' 139 c0) [atX (.op .sub .i64 (.var 134) (midE 130 131)), atX (midE 130 131)]) hp (X.den (putI ρ' 139 c0) (iV 139)) []
        rw [show X.denL (putI ρ' 139 c0) [atX (.op .sub .i64 (.var 134) (midE 130 131)), atX (midE 130 131)] = [.sc (.string (stR ρ' 0 ((a + b) / 2 + m - 1 - h))), .sc (.string (stR ρ' 0 (h)))] from by simp only [X.denL]; rw [at_den ex, at_den ey]; rfl, show X.den (putI ρ' 139 c0) (iV 139) = .sc (.int .i64 c0) from by simp only [iV, X.den, Sc.den, IE.den, putI_at]]
        exact hcy n hp
      · have ag : Agree 130 ρ' (m4_G_b.ap (putI ρ' 139 c0)) := (putI_agree _ _ _ (by decide)).trans (Bind.agree m4_G_g _)
        have e1 : (m4_G_b.ap (putI ρ' 139 c0)).i 130 = ((i : Nat) : Int) := by rw [ap_i m4_G_130]; exact hi1
        have e2 : (m4_G_b.ap (putI ρ' 139 c0)).i 131 = ((h : Nat) : Int) := by rw [ap_i m4_G_131]; exact mh
        refine ⟨⟨hA.agree ag (by decide), (agree_st ag (by decide)).trans hf, (ap_i m4_G_132).trans x132, (ap_i m4_G_133).trans x133, (ap_i m4_G_134).trans x134, _, _, e1, e2, by have q := hI.stop mono c (by rw [hh]; exact fun q => q hP); rw [hh] at q; exact q⟩, ?_, ag⟩
        show (_ - _ : Int).toNat < (_ - _ : Int).toNat
        rw [e1, e2, hi, hj]; omega
    · have hP := hlt
      refine .inr ⟨0, m4_L_b.ap (putI ρ' 139 c0), ?_, ?_⟩
      · refine fam_go (c := cfgL ks4 (fun _ => [])) (Φ := lsF 130 131 true ++ ngF 139 false) m4_fits (XS.bel_den ag1 m4_S m4_Sb) (cfgL_ok (List.forall_mem_cons.2 ⟨⟨hb, fun n hp => ?_⟩, List.forall_mem_nil _⟩) (fun _ _ _ => LpsOk.nil _ _ _ _)) (all_ok (lsF_ok hi1 hj1 (decide_eq_true c).symm) (ngF_ok (by rw [putI_at]; exact (decide_eq_false (fun h => hlt (hc.1 h))).symm))) m4_L_run (sel_need nd rfl) m4_L_ok
        show CY Try.prog n 15 (X.denL (putI ρ' 139 c0) [atX (.op .sub .i64 (.var 134) (midE 130 131)), atX (midE 130 131)]) hp (X.den (putI ρ' 139 c0) (iV 139)) []
        rw [show X.denL (putI ρ' 139 c0) [atX (.op .sub .i64 (.var 134) (midE 130 131)), atX (midE 130 131)] = [.sc (.string (stR ρ' 0 ((a + b) / 2 + m - 1 - h))), .sc (.string (stR ρ' 0 (h)))] from by simp only [X.denL]; rw [at_den ex, at_den ey]; rfl, show X.den (putI ρ' 139 c0) (iV 139) = .sc (.int .i64 c0) from by simp only [iV, X.den, Sc.den, IE.den, putI_at]]
        exact hcy n hp
      · have ag : Agree 130 ρ' (m4_L_b.ap (putI ρ' 139 c0)) := (putI_agree _ _ _ (by decide)).trans (Bind.agree m4_L_g _)
        have e1 : (m4_L_b.ap (putI ρ' 139 c0)).i 130 = ((h + 1 : Nat) : Int) := by rw [ap_i m4_L_130]; show IOp.den .add .i64 ((midE 130 131).den _) 1 = _; rw [mh]; exact add_nat (b := 1) (by omega)
        have e2 : (m4_L_b.ap (putI ρ' 139 c0)).i 131 = ((j : Nat) : Int) := by rw [ap_i m4_L_131]; exact hj1
        refine ⟨⟨hA.agree ag (by decide), (agree_st ag (by decide)).trans hf, (ap_i m4_L_132).trans x132, (ap_i m4_L_133).trans x133, (ap_i m4_L_134).trans x134, _, _, e1, e2, by have q := hI.go mono c (by rw [hh]; exact hP); rw [hh] at q; exact q⟩, ?_, ag⟩
        show (_ - _ : Int).toNat < (_ - _ : Int).toNat
        rw [e1, e2, hi, hj]; omega
  · refine .inl ⟨ρ', Agree.refl _ _, ⟨⟨hA, hf, x132, x133, x134, i, j, hi, hj, hI⟩, by rw [hi, hj, show i = j by omega]⟩, rfl, ?_⟩
    exact fam_end (c := cfgL [] (fun _ => [])) m4_fits (cN_ok ρ') (lsF_ok hi hj (decide_eq_false c).symm) m4_X_run rfl (fun h => nomatch h) rfl
end
end Go.Proofs.Ytegekgjjoojgdaa

/- Loops whose rounds have letters of their own: what is run once. -/
namespace Go.Proofs.Ytegekgjjoojgdaa
open Go Go.Proofs.Aw Go.Proofs.Xw
set_option maxRecDepth 100000
noncomputable def lpM0 (f : Nat) : List LoopX := if Nat.beq f 30 = true then [m0] else []
theorem lpM0_30o : othersB [m0] [0] 0 (loopsOf (Try.f30.body.getD .skip)) = true := by kernel_rfl
theorem lpM0_30 {ρ : Rho} (h_m0 : LoopOk Try.prog ρ Try.f30.ntmps m0_c m0) : LpsOk Try.prog ρ Try.f30.ntmps [m0] (Try.f30.body.getD .skip) :=
  lps_idx [0] lpM0_30o (List.forall_mem_cons.2 ⟨look_list (c := m0_c) (Ls := [m0]) (by kernel_rfl) (List.forall_mem_cons.2 ⟨h_m0, List.forall_mem_nil _⟩), List.forall_mem_nil _⟩)
theorem lpM0_ok {ρ : Rho} (h_m0 : LoopOk Try.prog ρ Try.f30.ntmps m0_c m0) : ∀ f i, btLook f ftsT = some i → LpsOk Try.prog ρ i.ntmps (lpM0 f) i.body := by
  intro f i h
  have hi := fts_ok (f, i) (bt_of_mem _ _ (btLook_mem h))
  unfold lpM0
  split
  · rename_i hf
    have hf := Nat.eq_of_beq_eq_true hf
    subst hf
    exact lps_row hi Try.func30 (lpM0_30 h_m0)
  · exact LpsOk.nil _ _ _ _
noncomputable def lpM2 (f : Nat) : List LoopX := if Nat.beq f 30 = true then [m2] else []
theorem lpM2_30o : othersB [m2] [2] 0 (loopsOf (Try.f30.body.getD .skip)) = true := by kernel_rfl
theorem lpM2_30 {ρ : Rho} (h_m2 : LoopOk Try.prog ρ Try.f30.ntmps m2_c m2) : LpsOk Try.prog ρ Try.f30.ntmps [m2] (Try.f30.body.getD .skip) :=
  lps_idx [2] lpM2_30o (List.forall_mem_cons.2 ⟨look_list (c := m2_c) (Ls := [m2]) (by kernel_rfl) (List.forall_mem_cons.2 ⟨h_m2, List.forall_mem_nil _⟩), List.forall_mem_nil _⟩)
theorem lpM2_ok {ρ : Rho} (h_m2 : LoopOk Try.prog ρ Try.f30.ntmps m2_c m2) : ∀ f i, btLook f ftsT = some i → LpsOk Try.prog ρ i.ntmps (lpM2 f) i.body := by
  intro f i h
  have hi := fts_ok (f, i) (bt_of_mem _ _ (btLook_mem h))
  unfold lpM2
  split
  · rename_i hf
    have hf := Nat.eq_of_beq_eq_true hf
    subst hf
    exact lps_row hi Try.func30 (lpM2_30 h_m2)
  · exact LpsOk.nil _ _ _ _

/-! m1: letters {13: 126} rows 127; entered under [] -/
noncomputable def m1_c : Code := (loopsOf (Try.f30.body.getD .skip))[1]?.getD .skip
def m1_E : XS := ⟨[(13, (.sc (.i .i64 (.var 1)))), (54, .top), (11, .top), (30, .top), (10, (.sc (.i .i64 (.var 120)))), (29, .top), (28, .top), (27, .top), (26, .top), (25, .top), (0, (.slv (0, 0) 1 (.lit (0 : Int)) (.len 0) true)), (1, (.sc (.i .i64 (.var 1)))), (2, (.sc (.i .i64 (.var 2)))), (3, (.sc (.i .i64 (.var 3)))), (4, (.fn (.func 15) [] []))], [((0, 0), [(.rows 1 (.len 0) (.var 0 [.s]))])], 15⟩
def m1_S : XS := ⟨[(13, (.sc (.i .i64 (.var 126)))), (54, .top), (11, .top), (30, .top), (10, (.sc (.i .i64 (.var 120)))), (29, .top), (28, .top), (27, .top), (26, .top), (25, .top), (0, (.slv (0, 0) 1 (.lit (0 : Int)) (.len 0) true)), (1, (.sc (.i .i64 (.var 1)))), (2, (.sc (.i .i64 (.var 2)))), (3, (.sc (.i .i64 (.var 3)))), (4, (.fn (.func 15) [] []))], [((0, 0), [(.rows 1 (.len 0) (.var 127 [.s]))])], 15⟩
def m1_I : Bind := ⟨[(126, (.var 1))], [], [], [(127, (.len 0), (.var 0 [.s]))]⟩
def m1_ks : List Nat := [13, 54, 11, 30, 10, 29, 28, 27, 26, 25, 0, 1, 2, 3, 4]
theorem m1_Iok : okS 2 126 m1_I (nmS m1_S m1_E) m1_S m1_E = true := by kernel_rfl
theorem m1_Ig : m1_I.ge 126 = true := by kernel_rfl
theorem m1_Eb : m1_E.bel 126 = true := by kernel_rfl
theorem m1_fits : fitsC Try.f30.ntmps m1_c = true := by kernel_rfl
theorem m1_I126 : lassoc 126 m1_I.i = some (.var 1) := by kernel_rfl
theorem m1_Ir : lassoc 127 m1_I.r = some ((.len 0), (.var 0 [.s])) := by kernel_rfl
def m1_G_r : T (XE × XS) := (.need (.and (.not (.lt (.op .add .i64 (.var 126) (.lit (1 : Int))) (.lit (0 : Int)))) (.and (.lt (.op .add .i64 (.var 126) (.lit (1 : Int))) (.len 0)) (.and (.not (.lt (.var 126) (.lit (0 : Int)))) (.lt (.var 126) (.len 0))))) (.ret (.normal, ⟨[(13, (.sc (.i .i64 (.op .add .i64 (.var 126) (.lit (1 : Int)))))), (54, .top), (11, .top), (30, .top), (10, (.sc (.i .i64 (.var 120)))), (29, .top), (28, .top), (27, .top), (26, .top), (25, .top), (0, (.slv (0, 0) 1 (.lit (0 : Int)) (.len 0) true)), (1, (.sc (.i .i64 (.var 1)))), (2, (.sc (.i .i64 (.var 2)))), (3, (.sc (.i .i64 (.var 3)))), (4, (.fn (.func 15) [] []))], [((0, 0), [(.rows 1 (.len 0) (.upd (.op .add .i64 (.var 126) (.lit (1 : Int))) [(.s (.cl 127 0 (.var 126)))] (.upd (.var 126) [(.s (.cl 127 0 (.op .add .i64 (.var 126) (.lit (1 : Int)))))] (.var 127 [.s]))))])], 40⟩)))
theorem m1_G_run : (codeX (cfgL [] (fun _ => [])).ti (callS ⟨(cfgL [] (fun _ => [])), l_able, []⟩ 12) (((cfgL [] (fun _ => [])).ft 30).elim [] (·.ms)) 2 ((cfgL [] (fun _ => [])).lp 30) 1000 m1_c ([(.lt (.var 126) (.op .sub .i64 (.var 120) (.lit 1)), true)]) m1_S).map (sqz m1_ks) = m1_G_r := by kernel_rfl
def m1_G_s : XS := ⟨[(13, (.sc (.i .i64 (.op .add .i64 (.var 126) (.lit (1 : Int)))))), (54, .top), (11, .top), (30, .top), (10, (.sc (.i .i64 (.var 120)))), (29, .top), (28, .top), (27, .top), (26, .top), (25, .top), (0, (.slv (0, 0) 1 (.lit (0 : Int)) (.len 0) true)), (1, (.sc (.i .i64 (.var 1)))), (2, (.sc (.i .i64 (.var 2)))), (3, (.sc (.i .i64 (.var 3)))), (4, (.fn (.func 15) [] []))], [((0, 0), [(.rows 1 (.len 0) (.upd (.op .add .i64 (.var 126) (.lit (1 : Int))) [(.s (.cl 127 0 (.var 126)))] (.upd (.var 126) [(.s (.cl 127 0 (.op .add .i64 (.var 126) (.lit (1 : Int)))))] (.var 127 [.s]))))])], 40⟩
def m1_G_b : Bind := ⟨[(126, (.op .add .i64 (.var 126) (.lit (1 : Int))))], [], [], [(127, (.len 0), (.upd (.op .add .i64 (.var 126) (.lit (1 : Int))) [(.s (.cl 127 0 (.var 126)))] (.upd (.var 126) [(.s (.cl 127 0 (.op .add .i64 (.var 126) (.lit (1 : Int)))))] (.var 127 [.s]))))]⟩
theorem m1_G_ok : okS 2 126 m1_G_b (nmS m1_S m1_G_s) m1_S m1_G_s = true := by kernel_rfl
theorem m1_G_g : m1_G_b.ge 126 = true := by kernel_rfl
theorem m1_G_126 : lassoc 126 m1_G_b.i = some (.op .add .i64 (.var 126) (.lit (1 : Int))) := by kernel_rfl
theorem m1_G_rw : lassoc 127 m1_G_b.r = some ((.len 0), (.upd (.op .add .i64 (.var 126) (.lit (1 : Int))) [(.s (.cl 127 0 (.var 126)))] (.upd (.var 126) [(.s (.cl 127 0 (.op .add .i64 (.var 126) (.lit (1 : Int)))))] (.var 127 [.s])))) := by kernel_rfl
def m1_X_r : T (XE × XS) := (.ret ((.exit 2), ⟨[(13, (.sc (.i .i64 (.var 126)))), (54, .top), (11, .top), (30, .top), (10, (.sc (.i .i64 (.var 120)))), (29, .top), (28, .top), (27, .top), (26, .top), (25, .top), (0, (.slv (0, 0) 1 (.lit (0 : Int)) (.len 0) true)), (1, (.sc (.i .i64 (.var 1)))), (2, (.sc (.i .i64 (.var 2)))), (3, (.sc (.i .i64 (.var 3)))), (4, (.fn (.func 15) [] []))], [((0, 0), [(.rows 1 (.len 0) (.var 127 [.s]))])], 19⟩))
theorem m1_X_run : (codeX (cfgL [] (fun _ => [])).ti (callS ⟨(cfgL [] (fun _ => [])), l_able, []⟩ 12) (((cfgL [] (fun _ => [])).ft 30).elim [] (·.ms)) 2 ((cfgL [] (fun _ => [])).lp 30) 1000 m1_c ([(.lt (.var 126) (.op .sub .i64 (.var 120) (.lit 1)), false)]) m1_S).map (sqz m1_ks) = m1_X_r := by kernel_rfl
def m1_X_s : XS := ⟨[(13, (.sc (.i .i64 (.var 126)))), (54, .top), (11, .top), (30, .top), (10, (.sc (.i .i64 (.var 120)))), (29, .top), (28, .top), (27, .top), (26, .top), (25, .top), (0, (.slv (0, 0) 1 (.lit (0 : Int)) (.len 0) true)), (1, (.sc (.i .i64 (.var 1)))), (2, (.sc (.i .i64 (.var 2)))), (3, (.sc (.i .i64 (.var 3)))), (4, (.fn (.func 15) [] []))], [((0, 0), [(.rows 1 (.len 0) (.var 127 [.s]))])], 19⟩
noncomputable def m1 : LoopX := ⟨((codeKey m1_c).getD 0), 2, 126, m1_E, noB, [], .ret ((.exit 2), m1_X_s)⟩
theorem m1_ob : m1.out.belX 130 = true := by kernel_rfl
/-! m3: letters {17: 126} rows 127; entered under [] -/
noncomputable def m3_c : Code := (loopsOf (Try.f30.body.getD .skip))[3]?.getD .skip
def m3_E : XS := ⟨[(17, (.sc (.i .i64 (.var 2)))), (107, .top), (15, .top), (82, .top), (14, (.sc (.i .i64 (.var 120)))), (81, .top), (80, .top), (79, .top), (78, .top), (77, .top), (28, .top), (27, .top), (26, .top), (25, .top), (0, (.slv (0, 0) 1 (.lit (0 : Int)) (.len 0) true)), (1, (.sc (.i .i64 (.var 1)))), (2, (.sc (.i .i64 (.var 2)))), (3, (.sc (.i .i64 (.var 3)))), (4, (.fn (.func 15) [] []))], [((0, 0), [(.rows 1 (.len 0) (.var 0 [.s]))])], 19⟩
def m3_S : XS := ⟨[(17, (.sc (.i .i64 (.var 126)))), (107, .top), (15, .top), (82, .top), (14, (.sc (.i .i64 (.var 120)))), (81, .top), (80, .top), (79, .top), (78, .top), (77, .top), (28, .top), (27, .top), (26, .top), (25, .top), (0, (.slv (0, 0) 1 (.lit (0 : Int)) (.len 0) true)), (1, (.sc (.i .i64 (.var 1)))), (2, (.sc (.i .i64 (.var 2)))), (3, (.sc (.i .i64 (.var 3)))), (4, (.fn (.func 15) [] []))], [((0, 0), [(.rows 1 (.len 0) (.var 127 [.s]))])], 19⟩
def m3_I : Bind := ⟨[(126, (.var 2))], [], [], [(127, (.len 0), (.var 0 [.s]))]⟩
def m3_ks : List Nat := [17, 107, 15, 82, 14, 81, 80, 79, 78, 77, 28, 27, 26, 25, 0, 1, 2, 3, 4]
theorem m3_Iok : okS 2 126 m3_I (nmS m3_S m3_E) m3_S m3_E = true := by kernel_rfl
theorem m3_Ig : m3_I.ge 126 = true := by kernel_rfl
theorem m3_Eb : m3_E.bel 126 = true := by kernel_rfl
theorem m3_fits : fitsC Try.f30.ntmps m3_c = true := by kernel_rfl
theorem m3_I126 : lassoc 126 m3_I.i = some (.var 2) := by kernel_rfl
theorem m3_Ir : lassoc 127 m3_I.r = some ((.len 0), (.var 0 [.s])) := by kernel_rfl
def m3_G_r : T (XE × XS) := (.need (.and (.not (.lt (.op .sub .i64 (.var 126) (.lit (1 : Int))) (.lit (0 : Int)))) (.and (.lt (.op .sub .i64 (.var 126) (.lit (1 : Int))) (.len 0)) (.and (.not (.lt (.var 126) (.lit (0 : Int)))) (.lt (.var 126) (.len 0))))) (.ret (.normal, ⟨[(17, (.sc (.i .i64 (.op .sub .i64 (.var 126) (.lit (1 : Int)))))), (107, .top), (15, .top), (82, .top), (14, (.sc (.i .i64 (.var 120)))), (81, .top), (80, .top), (79, .top), (78, .top), (77, .top), (28, .top), (27, .top), (26, .top), (25, .top), (0, (.slv (0, 0) 1 (.lit (0 : Int)) (.len 0) true)), (1, (.sc (.i .i64 (.var 1)))), (2, (.sc (.i .i64 (.var 2)))), (3, (.sc (.i .i64 (.var 3)))), (4, (.fn (.func 15) [] []))], [((0, 0), [(.rows 1 (.len 0) (.upd (.op .sub .i64 (.var 126) (.lit (1 : Int))) [(.s (.cl 127 0 (.var 126)))] (.upd (.var 126) [(.s (.cl 127 0 (.op .sub .i64 (.var 126) (.lit (1 : Int)))))] (.var 127 [.s]))))])], 43⟩)))
theorem m3_G_run : (codeX (cfgL [] (fun _ => [])).ti (callS ⟨(cfgL [] (fun _ => [])), l_able, []⟩ 12) (((cfgL [] (fun _ => [])).ft 30).elim [] (·.ms)) 2 ((cfgL [] (fun _ => [])).lp 30) 1000 m3_c ([(.lt (.var 120) (.var 126), true)]) m3_S).map (sqz m3_ks) = m3_G_r := by kernel_rfl
def m3_G_s : XS := ⟨[(17, (.sc (.i .i64 (.op .sub .i64 (.var 126) (.lit (1 : Int)))))), (107, .top), (15, .top), (82, .top), (14, (.sc (.i .i64 (.var 120)))), (81, .top), (80, .top), (79, .top), (78, .top), (77, .top), (28, .top), (27, .top), (26, .top), (25, .top), (0, (.slv (0, 0) 1 (.lit (0 : Int)) (.len 0) true)), (1, (.sc (.i .i64 (.var 1)))), (2, (.sc (.i .i64 (.var 2)))), (3, (.sc (.i .i64 (.var 3)))), (4, (.fn (.func 15) [] []))], [((0, 0), [(.rows 1 (.len 0) (.upd (.op .sub .i64 (.var 126) (.lit (1 : Int))) [(.s (.cl 127 0 (.var 126)))] (.upd (.var 126) [(.s (.cl 127 0 (.op .sub .i64 (.var 126) (.lit (1 : Int)))))] (.var 127 [.s]))))])], 43⟩
def m3_G_b : Bind := ⟨[(126, (.op .sub .i64 (.var 126) (.lit (1 : Int))))], [], [], [(127, (.len 0), (.upd (.op .sub .i64 (.var 126) (.lit (1 : Int))) [(.s (.cl 127 0 (.var 126)))] (.upd (.var 126) [(.s (.cl 127 0 (.op .sub .i64 (.var 126) (.lit (1 : Int)))))] (.var 127 [.s]))))]⟩
theorem m3_G_ok : okS 2 126 m3_G_b (nmS m3_S m3_G_s) m3_S m3_G_s = true := by kernel_rfl
theorem m3_G_g : m3_G_b.ge 126 = true := by kernel_rfl
theorem m3_G_126 : lassoc 126 m3_G_b.i = some (.op .sub .i64 (.var 126) (.lit (1 : Int))) := by kernel_rfl
theorem m3_G_rw : lassoc 127 m3_G_b.r = some ((.len 0), (.upd (.op .sub .i64 (.var 126) (.lit (1 : Int))) [(.s (.cl 127 0 (.var 126)))] (.upd (.var 126) [(.s (.cl 127 0 (.op .sub .i64 (.var 126) (.lit (1 : Int)))))] (.var 127 [.s])))) := by kernel_rfl
def m3_X_r : T (XE × XS) := (.ret ((.exit 6), ⟨[(17, (.sc (.i .i64 (.var 126)))), (107, .top), (15, .top), (82, .top), (14, (.sc (.i .i64 (.var 120)))), (81, .top), (80, .top), (79, .top), (78, .top), (77, .top), (28, .top), (27, .top), (26, .top), (25, .top), (0, (.slv (0, 0) 1 (.lit (0 : Int)) (.len 0) true)), (1, (.sc (.i .i64 (.var 1)))), (2, (.sc (.i .i64 (.var 2)))), (3, (.sc (.i .i64 (.var 3)))), (4, (.fn (.func 15) [] []))], [((0, 0), [(.rows 1 (.len 0) (.var 127 [.s]))])], 22⟩))
theorem m3_X_run : (codeX (cfgL [] (fun _ => [])).ti (callS ⟨(cfgL [] (fun _ => [])), l_able, []⟩ 12) (((cfgL [] (fun _ => [])).ft 30).elim [] (·.ms)) 2 ((cfgL [] (fun _ => [])).lp 30) 1000 m3_c ([(.lt (.var 120) (.var 126), false)]) m3_S).map (sqz m3_ks) = m3_X_r := by kernel_rfl
def m3_X_s : XS := ⟨[(17, (.sc (.i .i64 (.var 126)))), (107, .top), (15, .top), (82, .top), (14, (.sc (.i .i64 (.var 120)))), (81, .top), (80, .top), (79, .top), (78, .top), (77, .top), (28, .top), (27, .top), (26, .top), (25, .top), (0, (.slv (0, 0) 1 (.lit (0 : Int)) (.len 0) true)), (1, (.sc (.i .i64 (.var 1)))), (2, (.sc (.i .i64 (.var 2)))), (3, (.sc (.i .i64 (.var 3)))), (4, (.fn (.func 15) [] []))], [((0, 0), [(.rows 1 (.len 0) (.var 127 [.s]))])], 22⟩
noncomputable def m3 : LoopX := ⟨((codeKey m3_c).getD 0), 2, 126, m3_E, noB, [], .ret ((.exit 6), m3_X_s)⟩
theorem m3_ob : m3.out.belX 130 = true := by kernel_rfl
end Go.Proofs.Ytegekgjjoojgdaa

/- Ring: the shifts of symMerge. -/
namespace Go.Proofs.Ytegekgjjoojgdaa
open Go Go.Proofs.Aw Go.Proofs.Xw Go.Proofs.Sr
set_option maxRecDepth 100000
theorem four_t {ρ : Rho} {p q : IE} {x y : Nat} (hp : p.den ρ = x) (hq : q.den ρ = y) (h1 : x < ρ.len 0) (h2 : y < ρ.len 0) : (BE.and (.not (.lt p (.lit 0))) (.and (.lt p (.len 0)) (.and (.not (.lt q (.lit 0))) (.lt q (.len 0))))).den ρ = true := by
  rw [dand_t, dand_t, dand_t, dnot_t, dnot_t, dlt_f, dlt_f, dlt_t, dlt_t, hp, hq]
  simp only [IE.den]
  omega
def m1R (a m b i : Nat) (f : Nat → ByteArray) (ρ : Rho) : Prop := SmA ρ a m b ∧ ρ.i 120 = i ∧ ∃ k : Nat, ρ.i 126 = k ∧ a ≤ k ∧ k + 1 ≤ i ∧ stR ρ 127 = shl f a k
theorem m1_ok (ρ : Rho) {a m b i : Nat} (h : SmA ρ a m b) (hi0 : ρ.i 120 = i) (hi1 : a + 1 ≤ i ∧ i ≤ b) : ∃ ρf, Agree 126 ρ ρf ∧ m1R a m b i (stR ρ 0) ρf ∧ ρf.i 126 = ((i - 1 : Nat) : Int) ∧ LoopOk Try.prog ρf Try.f30.ntmps m1_c m1 := by
  have hb1 := h.h2; have hl1 := h.h3; have hl2 := h.l
  suffices hh : ∃ (_ : Nat) (ρf : Rho), Agree m1.n ρ ρf ∧ (m1R a m b i (stR ρ 0) ρf ∧ ρf.i 126 = ((i - 1 : Nat) : Int)) ∧ LoopOk Try.prog ρf Try.f30.ntmps m1_c m1 by
    obtain ⟨_, ρf, h1, ⟨h2, h3⟩, h4⟩ := hh
    exact ⟨ρf, h1, h2, h3, h4⟩
  have a0 := Bind.agree m1_Ig ρ
  refine loopOk_famE (L := m1) (N := Try.f30.ntmps) (body := m1_c) (P := Try.prog) rfl m1_Eb (fun _ => m1_S) (fun _ => m1R a m b i (stR ρ 0)) (fun _ ρ' => m1R a m b i (stR ρ 0) ρ' ∧ ρ'.i 126 = ((i - 1 : Nat) : Int)) (fun _ ρ' => (ρ'.i 120 - ρ'.i 126).toNat) ?_
    ⟨0, m1_I.ap ρ, a0, ⟨h.agree a0 (by decide), by rw [← a0.i 120 (by decide)]; exact hi0, a, (ap_i m1_I126).trans h.ea, Nat.le_refl _, by omega, by rw [shl_self]; funext k; rw [ap_st m1_Ir]; exact row_var ρ 0 k⟩, fun E _ hE => okS_imp hE m1_Iok ρ⟩
  rintro _ ρ' ⟨hA, hi, k, hk, k1, k2, hs⟩
  have := hA.h3; have hl := hA.l
  have e0 : IE.den ρ' (.op .sub .i64 (.var 120) (.lit 1)) = ((i - 1 : Nat) : Int) := by show IOp.den .sub .i64 (ρ'.i 120) 1 = _; rw [hi]; exact sub_nat (b := 1) (by omega) (by omega)
  by_cases c : k < i - 1
  · have e1 : IE.den ρ' (.op .add .i64 (.var 126) (.lit 1)) = ((k + 1 : Nat) : Int) := by show IOp.den .add .i64 (ρ'.i 126) 1 = _; rw [hk]; exact add_nat (b := 1) (by omega)
    refine .inr ⟨0, m1_G_b.ap ρ', ?_, ?_⟩
    · exact fam_go (c := cfgL [] (fun _ => [])) (Φ := [(.lt (.var 126) (.op .sub .i64 (.var 120) (.lit 1)), true)]) m1_fits rfl (cN_ok ρ') (Facts.ok_cons (by rw [dlt_t, e0]; show ρ'.i 126 < _; rw [hk]; omega) (Facts.ok_nil _)) m1_G_run (sel_need (four_t e1 hk (by omega) (by omega)) rfl) m1_G_ok
    · have ag := Bind.agree m1_G_g ρ'
      have e2 : (m1_G_b.ap ρ').i 126 = ((k + 1 : Nat) : Int) := (ap_i m1_G_126).trans e1
      have e3 : (m1_G_b.ap ρ').i 120 = i := (ag.i 120 (by decide)).symm.trans hi
      refine ⟨⟨hA.agree ag (by decide), e3, k + 1, e2, by omega, by omega, ?_⟩, ?_, ag⟩
      · rw [← shl_step (stR ρ 0) k1, ← hs]
        funext x
        rw [ap_st m1_G_rw]
        exact row_swp ρ' 127 (e1 := .var 126) hk e1 x
      · show (_ - _ : Int).toNat < (_ - _ : Int).toNat
        rw [e2, e3, hk, hi]; omega
  · refine .inl ⟨ρ', Agree.refl _ _, ⟨⟨hA, hi, k, hk, k1, k2, hs⟩, by rw [hk, show k = i - 1 by omega]⟩, rfl, ?_⟩
    exact fam_end (c := cfgL [] (fun _ => [])) (Φ := [(.lt (.var 126) (.op .sub .i64 (.var 120) (.lit 1)), false)]) m1_fits (cN_ok ρ') (Facts.ok_cons (by rw [dlt_f, e0]; show _ ≤ ρ'.i 126; rw [hk]; omega) (Facts.ok_nil _)) m1_X_run rfl (fun h => nomatch h) rfl
def m3R (a m b i : Nat) (f : Nat → ByteArray) (ρ : Rho) : Prop := SmA ρ a m b ∧ ρ.i 120 = i ∧ ∃ k : Nat, ρ.i 126 = k ∧ i ≤ k ∧ k ≤ m ∧ stR ρ 127 = shr f m k
theorem m3_ok (ρ : Rho) {a m b i : Nat} (h : SmA ρ a m b) (hi0 : ρ.i 120 = i) (hi1 : a ≤ i ∧ i ≤ m) : ∃ ρf, Agree 126 ρ ρf ∧ m3R a m b i (stR ρ 0) ρf ∧ ρf.i 126 = i ∧ LoopOk Try.prog ρf Try.f30.ntmps m3_c m3 := by
  have hb1 := h.h2; have hl1 := h.h3; have hl2 := h.l
  suffices hh : ∃ (_ : Nat) (ρf : Rho), Agree m3.n ρ ρf ∧ (m3R a m b i (stR ρ 0) ρf ∧ ρf.i 126 = i) ∧ LoopOk Try.prog ρf Try.f30.ntmps m3_c m3 by
    obtain ⟨_, ρf, h1, ⟨h2, h3⟩, h4⟩ := hh
    exact ⟨ρf, h1, h2, h3, h4⟩
  have a0 := Bind.agree m3_Ig ρ
  refine loopOk_famE (L := m3) (N := Try.f30.ntmps) (body := m3_c) (P := Try.prog) rfl m3_Eb (fun _ => m3_S) (fun _ => m3R a m b i (stR ρ 0)) (fun _ ρ' => m3R a m b i (stR ρ 0) ρ' ∧ ρ'.i 126 = i) (fun _ ρ' => (ρ'.i 126).toNat) ?_
    ⟨0, m3_I.ap ρ, a0, ⟨h.agree a0 (by decide), by rw [← a0.i 120 (by decide)]; exact hi0, m, (ap_i m3_I126).trans h.em, hi1.2, Nat.le_refl _, by rw [shr_self]; funext k; rw [ap_st m3_Ir]; exact row_var ρ 0 k⟩, fun E _ hE => okS_imp hE m3_Iok ρ⟩
  rintro _ ρ' ⟨hA, hi, k, hk, k1, k2, hs⟩
  have := hA.h3; have hl := hA.l
  by_cases c : i < k
  · have e1 : IE.den ρ' (.op .sub .i64 (.var 126) (.lit 1)) = ((k - 1 : Nat) : Int) := by show IOp.den .sub .i64 (ρ'.i 126) 1 = _; rw [hk]; exact sub_nat (b := 1) (by omega) (by omega)
    refine .inr ⟨0, m3_G_b.ap ρ', ?_, ?_⟩
    · exact fam_go (c := cfgL [] (fun _ => [])) (Φ := [(.lt (.var 120) (.var 126), true)]) m3_fits rfl (cN_ok ρ') (Facts.ok_cons (by rw [dlt_t]; show ρ'.i 120 < ρ'.i 126; rw [hk, hi]; omega) (Facts.ok_nil _)) m3_G_run (sel_need (four_t e1 hk (by omega) (by omega)) rfl) m3_G_ok
    · have ag := Bind.agree m3_G_g ρ'
      have e2 : (m3_G_b.ap ρ').i 126 = ((k - 1 : Nat) : Int) := (ap_i m3_G_126).trans e1
      have e3 : (m3_G_b.ap ρ').i 120 = i := (ag.i 120 (by decide)).symm.trans hi
      refine ⟨⟨hA.agree ag (by decide), e3, k - 1, e2, by omega, by omega, ?_⟩, ?_, ag⟩
      · rw [← shr_step (stR ρ 0) (show 0 < k by omega) k2, ← hs]
        funext x
        rw [ap_st m3_G_rw]
        exact row_swp ρ' 127 (e1 := .var 126) hk e1 x
      · show (_ : Int).toNat < (_ : Int).toNat
        rw [e2, hk]; omega
  · refine .inl ⟨ρ', Agree.refl _ _, ⟨⟨hA, hi, k, hk, k1, k2, hs⟩, by rw [hk, show k = i by omega]⟩, rfl, ?_⟩
    exact fam_end (c := cfgL [] (fun _ => [])) (Φ := [(.lt (.var 120) (.var 126), false)]) m3_fits (cN_ok ρ') (Facts.ok_cons (by rw [dlt_f]; show ρ'.i 126 ≤ ρ'.i 120; rw [hk, hi]; omega) (Facts.ok_nil _)) m3_X_run rfl (fun h => nomatch h) rfl
end Go.Proofs.Ytegekgjjoojgdaa

/- What functions answer, run over letters, where something is known; each shown by running it. -/
namespace Go.Proofs.Ytegekgjjoojgdaa
open Go Go.Proofs.Aw Go.Proofs.Xw
noncomputable def lpMa (f : Nat) : List LoopX := if Nat.beq f 30 = true then [m0, m1] else []
theorem lpMa_30o : othersB [m0, m1] [0, 1] 0 (loopsOf (Try.f30.body.getD .skip)) = true := by kernel_rfl
theorem lpMa_30 {ρ : Rho} (h_m0 : LoopOk Try.prog ρ Try.f30.ntmps m0_c m0) (h_m1 : LoopOk Try.prog ρ Try.f30.ntmps m1_c m1) : LpsOk Try.prog ρ Try.f30.ntmps [m0, m1] (Try.f30.body.getD .skip) :=
  lps_idx [0, 1] lpMa_30o (List.forall_mem_cons.2 ⟨look_list (c := m0_c) (Ls := [m0]) (by kernel_rfl) (List.forall_mem_cons.2 ⟨h_m0, List.forall_mem_nil _⟩), List.forall_mem_cons.2 ⟨look_list (c := m1_c) (Ls := [m1]) (by kernel_rfl) (List.forall_mem_cons.2 ⟨h_m1, List.forall_mem_nil _⟩), List.forall_mem_nil _⟩⟩)
theorem lpMa_ok {ρ : Rho} (h_m0 : LoopOk Try.prog ρ Try.f30.ntmps m0_c m0) (h_m1 : LoopOk Try.prog ρ Try.f30.ntmps m1_c m1) : ∀ f i, btLook f ftsT = some i → LpsOk Try.prog ρ i.ntmps (lpMa f) i.body := by
  intro f i h
  have hi := fts_ok (f, i) (bt_of_mem _ _ (btLook_mem h))
  unfold lpMa
  split
  · rename_i hf
    have hf := Nat.eq_of_beq_eq_true hf
    subst hf
    exact lps_row hi Try.func30 (lpMa_30 h_m0 h_m1)
  · exact LpsOk.nil _ _ _ _
noncomputable def lpMb (f : Nat) : List LoopX := if Nat.beq f 30 = true then [m2, m3] else []
theorem lpMb_30o : othersB [m2, m3] [2, 3] 0 (loopsOf (Try.f30.body.getD .skip)) = true := by kernel_rfl
theorem lpMb_30 {ρ : Rho} (h_m2 : LoopOk Try.prog ρ Try.f30.ntmps m2_c m2) (h_m3 : LoopOk Try.prog ρ Try.f30.ntmps m3_c m3) : LpsOk Try.prog ρ Try.f30.ntmps [m2, m3] (Try.f30.body.getD .skip) :=
  lps_idx [2, 3] lpMb_30o (List.forall_mem_cons.2 ⟨look_list (c := m2_c) (Ls := [m2]) (by kernel_rfl) (List.forall_mem_cons.2 ⟨h_m2, List.forall_mem_nil _⟩), List.forall_mem_cons.2 ⟨look_list (c := m3_c) (Ls := [m3]) (by kernel_rfl) (List.forall_mem_cons.2 ⟨h_m3, List.forall_mem_nil _⟩), List.forall_mem_nil _⟩⟩)
theorem lpMb_ok {ρ : Rho} (h_m2 : LoopOk Try.prog ρ Try.f30.ntmps m2_c m2) (h_m3 : LoopOk Try.prog ρ Try.f30.ntmps m3_c m3) : ∀ f i, btLook f ftsT = some i → LpsOk Try.prog ρ i.ntmps (lpMb f) i.body := by
  intro f i h
  have hi := fts_ok (f, i) (bt_of_mem _ _ (btLook_mem h))
  unfold lpMb
  split
  · rename_i hf
    have hf := Nat.eq_of_beq_eq_true hf
    subst hf
    exact lps_row hi Try.func30 (lpMb_30 h_m2 h_m3)
  · exact LpsOk.nil _ _ _ _

def smHa : T (X × XDl) := (.ret ((.tup []), [((0, 0), some [(.rows 1 (.len 0) (.var 127 [.s]))])]))
set_option maxRecDepth 100000 in
theorem smHa_run : askH ⟨cfgL [] lpMa, l_able, []⟩ 30 (smA) (rwS 0) one1 = smHa := by kernel_rfl
def smHb : T (X × XDl) := (.ret ((.tup []), [((0, 0), some [(.rows 1 (.len 0) (.var 127 [.s]))])]))
set_option maxRecDepth 100000 in
theorem smHb_run : askH ⟨cfgL [] lpMb, l_able, []⟩ 30 (smA) (rwS 0) one2 = smHb := by kernel_rfl
end Go.Proofs.Ytegekgjjoojgdaa
