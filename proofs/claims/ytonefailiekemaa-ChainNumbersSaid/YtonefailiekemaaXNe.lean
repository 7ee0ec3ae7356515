/- ChainNumbers: the two last loops find each write numbered as it must be. -/
import Derived.Test.YtonefailiekemaaXN6
import Derived.Test.YtonefailiekemaaXNd
namespace Go.Proofs.Ytonefailiekemaa
open Go Go.Proofs.Aw Go.Proofs.Xw
set_option maxRecDepth 100000
theorem pickL {ρ : Rho} {x a b c : IE} (g : Nat → Int) (hx : 0 ≤ x.den ρ ∧ x.den ρ < 3) (ha : a.den ρ = g 0) (hb : b.den ρ = g 1) (hc : c.den ρ = g 2) : (IE.ite (.eq x (.lit 0)) a (.ite (.eq x (.lit 1)) b c)).den ρ = g (x.den ρ).toNat := by
  simp only [deq_t, IE.den]
  rcases one3 hx with e | e | e <;> simp [e]
  · exact ha
  · exact hb
  · exact hc
theorem pick9 {ρ : Rho} {d e c0 c1 c2 c3 c4 c5 c6 c7 c8 : IE} (g : Nat → Int) (hd : 0 ≤ d.den ρ ∧ d.den ρ < 3) (he : 0 ≤ e.den ρ ∧ e.den ρ < 3) (h0 : c0.den ρ = g 0) (h1 : c1.den ρ = g 1) (h2 : c2.den ρ = g 2) (h3 : c3.den ρ = g 3) (h4 : c4.den ρ = g 4) (h5 : c5.den ρ = g 5)
    (h6 : c6.den ρ = g 6) (h7 : c7.den ρ = g 7) (h8 : c8.den ρ = g 8) :
    (IE.ite (.and (.eq d (.lit 0)) (.eq e (.lit 0))) c0 (.ite (.and (.eq d (.lit 0)) (.eq e (.lit 1))) c1 (.ite (.eq d (.lit 0)) c2 (.ite (.and (.eq d (.lit 1)) (.eq e (.lit 0))) c3 (.ite (.and (.eq d (.lit 1)) (.eq e (.lit 1))) c4 (.ite (.eq d (.lit 1)) c5 (.ite (.eq e (.lit 0)) c6 (.ite (.eq e (.lit 1)) c7 c8)))))))).den ρ
      = g (3 * (d.den ρ).toNat + (e.den ρ).toNat) := by
  simp only [dand_t, deq_t, IE.den, h0, h1, h2, h3, h4, h5, h6, h7, h8]
  rcases one3 hd with p | p | p <;> rcases one3 he with q | q | q <;> simp [p, q]
theorem iden_eq (ρ : Rho) (a b x y : IE) : (IE.ite (.eq a b) x y).den ρ = if a.den ρ = b.den ρ then x.den ρ else y.den ρ := by
  rw [iden_ite]
  simp only [deq_t]
theorem gF_ok {ρ : Rho} (h : Lg ρ) (a : 0 ≤ ρ.i 410) : Facts.ok ρ gF := by
  have h1 := h.l1
  have h2 := h.l2
  obtain ⟨r1, r2⟩ := h.r
  refine Facts.ok_cons ?_ (Facts.ok_cons ?_ (Facts.ok_cons ?_ (Facts.ok_cons ?_ (Facts.ok_cons ?_ (Facts.ok_nil _)))))
  all_goals first | rw [dlt_f] | rw [dlt_t]
  all_goals (simp only [IE.den]; omega)
theorem rowF {ρ : Rho} (h : Lg ρ) (l : Nat) (a : 0 ≤ ρ.i l) (b : ρ.i l < ρ.len 201) : Facts.ok ρ [(.lt (.cl 201 0 (.var l)) (.lit 0), false), (.lt (.cl 201 0 (.var l)) (.lit 3), true), (.eq (.cl 201 1 (.var l)) (.var 1), true)] := by
  have h1 := h.nu.d (ρ.i l).toNat (by omega)
  have h2 := h.nu.r (ρ.i l).toNat (by omega)
  exact Facts.ok_cons (by rw [dlt_f]; exact h1.1) (Facts.ok_cons (by rw [dlt_t]; exact h1.2) (Facts.ok_cons (by rw [deq_t]; exact h2) (Facts.ok_nil _)))
theorem uF_ok {ρ : Rho} (h : Lg ρ) (a : 0 ≤ ρ.i 410) (b : ρ.i 410 < ρ.len 201) (c : 0 ≤ ρ.i 430) (d : ρ.i 430 ≤ ρ.i 410) : Facts.ok ρ (uF ++ gF) :=
  all_ok (Facts.ok_cons (by rw [dlt_f]; exact c) (Facts.ok_cons (by rw [dlt_f]; exact d) (Facts.ok_cons (by rw [dlt_t]; exact b) (all_ok (rowF h 430 c (by omega)) (rowF h 410 a b))))) (gF_ok h a)
theorem Lg.agree4 {ρ ρ' : Rho} (h : Agree 410 ρ ρ') (k : Lg ρ) : Lg ρ' := k.agree (h.le (by decide))
/-- The inner loop, from the first write on. -/
theorem cJ_ok (ρ : Rho) (hg : Lg ρ) (h0 : 0 ≤ ρ.i 410) (h1 : ρ.i 410 < ρ.len 201) : LoopOk Try.prog ρ Try.f4.ntmps cJ_c cJ := by
  have key : ∃ (i : Nat) (ρf : Rho), Agree 430 ρ ρf ∧ (Agree 430 ρ ρf ∧ 0 ≤ ρf.i 430 ∧ ρf.i 430 ≤ ρf.i 410) ∧ LoopOk Try.prog ρf Try.f4.ntmps cJ_c cJ := by
    refine loopOk_fam (P := Try.prog) (N := Try.f4.ntmps) (body := cJ_c) (L := cJ) rfl iS0_b (fun _ => iS) (fun _ ρ' => Agree 430 ρ ρ' ∧ 0 ≤ ρ'.i 430 ∧ ρ'.i 430 ≤ ρ'.i 410) (fun _ ρ' => (ρ'.i 410 - ρ'.i 430).toNat) (ρ := ρ) ?_
      ⟨0, Bind.ap ⟨[(430, .lit 0)], [], [], []⟩ ρ, Bind.agree rfl ρ, ⟨Bind.agree rfl ρ, Int.le_refl 0, h0⟩, fun E _ hE => okS_imp hE iS0_ok ρ⟩
    rintro _ ρ' ⟨ag, k0, k1⟩
    have a1 := ag.len 201 (by decide)
    have a2 := ag.i 410 (by decide)
    have hg' : Lg ρ' := hg.agree4 (ag.le (by decide))
    rw [a1, a2] at h1
    rw [a2] at h0
    have hk := uF_ok hg' h0 h1 k0 k1
    have cok : CfgOk Try.prog ρ' (c0 []) := c0_ok ks_nil
    have hcall := callS_ok (c := ⟨c0 [], l_able, HFL⟩) cok l_able_ok 12
    by_cases hi : ρ'.i 430 < ρ'.i 410
    · right
      have c0 : iTc0.den ρ' = true := by unfold iTc0; rw [dlt_t]; exact hi
      have n1 : iTc1.den ρ' = true := by unfold iTc1; rw [dor_t, dlt_t]; right; simp only [IE.den]; omega
      have c2 : ¬ iTc2.den ρ' = true := by
        unfold iTc2
        rw [dand_t, deq_t, dnot_t, dand_f, dand_f, dand_f, dnot_f, dlt_t, dlt_f, dnot_f, dlt_t, dnot_f, dlt_t]
        rintro ⟨hdc, h⟩
        have nu := hg'.nu
        have q1 := nu.d (ρ'.i 430).toNat (by omega)
        have q2 := nu.r (ρ'.i 430).toNat (by omega)
        have q3 := nu.s (ρ'.i 430).toNat (by omega)
        obtain ⟨q4, _, _⟩ := nu.o (ρ'.i 410).toNat (by omega) hdc
        have hr := hg'.r
        have hcn := cnt_nn (ρ'.ci 201 0) (ρ'.ci 201 0 (ρ'.i 430).toNat) (ρ'.i 430).toNat
        rw [pick9 (ρ := ρ') (fun m => ρ'.ci 201 (9 + m) (ρ'.i 410).toNat) (d := .cl 201 0 (.var 430)) (e := .cl 201 1 (.var 430)) q1 (by show 0 ≤ ρ'.ci 201 1 (ρ'.i 430).toNat ∧ ρ'.ci 201 1 (ρ'.i 430).toNat < 3; rw [q2]; exact hr) rfl rfl rfl rfl rfl rfl rfl rfl rfl] at h
        have e2 : ((IE.cl 201 1 (.var 430)).den ρ').toNat = rg ρ' := by show (ρ'.ci 201 1 (ρ'.i 430).toNat).toNat = _; rw [q2]; rfl
        rw [e2] at h
        have e3 : (((IE.cl 201 0 (.var 430)).den ρ').toNat : Int) = ρ'.ci 201 0 (ρ'.i 430).toNat := by show ((ρ'.ci 201 0 (ρ'.i 430).toNat).toNat : Int) = _; omega
        have q5 := q4 ((IE.cl 201 0 (.var 430)).den ρ').toNat (by omega)
        simp only [e3] at q5
        rw [q5] at h
        have hs := cnt_mono (ρ'.ci 201 0) (ρ'.ci 201 0 (ρ'.i 430).toNat) (m := (ρ'.i 430).toNat + 1) (n := (ρ'.i 410).toNat) (by omega)
        simp only [cnt, if_true] at hs
        simp only [IE.den] at h
        rw [q2] at h
        omega
      have hs : (jRun [] [] cJ_c jK (uF ++ gF) iS).sel ρ' = some (.normal, iN) := by
        rw [iT_run]; unfold iT; rw [T.sel, if_pos c0, T.sel, if_pos n1, T.sel, if_neg c2]; rfl
      have ag2 : Agree 430 ρ' (iB.ap ρ') := Bind.agree iB_g ρ'
      have e1 : (iB.ap ρ').i 430 = ρ'.i 430 + 1 := by
        have := hg'.l2
        rw [ap_i iB_i]; simp only [IE.den, IOp.den]; exact wrap_id _ (by omega) (by omega)
      have e2 : (iB.ap ρ').i 410 = ρ'.i 410 := (ag2.i 410 (by decide)).symm
      refine ⟨0, iB.ap ρ', stepF_of mixed tis_ok hcall (LpsOk.nil _ _ _ _) i_fits hk rfl hs iN_ok, ⟨ag.trans ag2, by omega, by omega⟩, ?_, ag2⟩
      show ((iB.ap ρ').i 410 - (iB.ap ρ').i 430).toNat < (ρ'.i 410 - ρ'.i 430).toNat
      omega
    · left
      have c0 : ¬ iTc0.den ρ' = true := by unfold iTc0; rw [dlt_t]; exact hi
      have hs : (jRun [] [] cJ_c jK (uF ++ gF) iS).sel ρ' = some (.exit 4, iX) := by
        rw [iT_run]; unfold iT; rw [T.sel, if_neg c0]; rfl
      exact ⟨ρ', Agree.refl _ _, ⟨ag, k0, k1⟩, rfl, endF_of (e := .exit 4) mixed tis_ok hcall (LpsOk.nil _ _ _ _) i_fits hk rfl (fun h => nomatch h) hs ⟨iO, rfl, fun E hb => okS_imp hb iX_ok ρ'⟩⟩
  obtain ⟨_, ρf, ag, _, h⟩ := key
  exact LoopOk.agree (B := 430) iS0_b rfl (show cJ.out.belX 430 = true by kernel_rfl) ag.symm h
theorem cQ_in : othersB [cJ] [0] 0 (loopsOf cQ_c) = true := by kernel_rfl
theorem cQ_at : (loopsOf cQ_c)[0]?.getD .skip = cJ_c := by kernel_rfl
/-- At the outer loop's head: the columns so far, the greatest count so far. -/
structure Hd (ρ : Rho) : Prop where
  lg : Lg ρ
  i0 : 0 ≤ ρ.i 410
  i1 : ρ.i 410 ≤ ρ.len 201
  t : ρ.i 411 = mx (ρ.ci 201 3) (ρ.i 410).toNat
  c : ∀ k : Nat, k < 3 → ρ.i (412 + k) = cnt (ρ.ci 201 0) (ρ.i 410).toNat k
theorem eR_den (ρ : Rho) : X.denL ρ [eR] = [.agg (cellsV ρ 201 0 ke (ρ.i 410).toNat)] := rfl
theorem hb18 : hasBody Try.prog 18 = true := by kernel_rfl
theorem mx_lt {C : Nat → Int} {a : Int} (ha : 0 < a) : ∀ n : Nat, (∀ j, j < n → C j < a) → mx C n < a
  | 0, _ => ha
  | n + 1, h => by
    have h1 := mx_lt ha n (fun j hj => h j (by omega))
    have h2 := h n (by omega)
    simp only [mx]; omega
theorem round_no {ρ : Rho} (h : Hd ρ) (hi : ρ.i 410 < ρ.len 201) : oTc0.den ρ = false := by
  obtain ⟨lg, i0, _, ht, hc⟩ := h
  have nu := lg.nu
  have q1 := nu.d (ρ.i 410).toNat (by omega)
  have q3 := nu.s (ρ.i 410).toNat (by omega)
  have q4 := nu.v (ρ.i 410).toNat (by omega)
  have hl2 := lg.l2
  have hr := lg.r
  have c0 := hc 0 (by decide)
  have c1 := hc 1 (by decide)
  have c2 := hc 2 (by decide)
  have v0 := pickL (ρ := ρ) (x := .var 1) (fun r => ρ.ci 201 (9 + (3 * 0 + r)) (ρ.i 410).toNat) hr (a := .cl 201 9 (.var 410)) (b := .cl 201 10 (.var 410)) (c := .cl 201 11 (.var 410)) rfl rfl rfl
  have v1 := pickL (ρ := ρ) (x := .var 1) (fun r => ρ.ci 201 (9 + (3 * 1 + r)) (ρ.i 410).toNat) hr (a := .cl 201 12 (.var 410)) (b := .cl 201 13 (.var 410)) (c := .cl 201 14 (.var 410)) rfl rfl rfl
  have v2 := pickL (ρ := ρ) (x := .var 1) (fun r => ρ.ci 201 (9 + (3 * 2 + r)) (ρ.i 410).toNat) hr (a := .cl 201 15 (.var 410)) (b := .cl 201 16 (.var 410)) (c := .cl 201 17 (.var 410)) rfl rfl rfl
  have pc := pickL (ρ := ρ) (x := .cl 201 0 (.var 410)) (fun k => cnt (ρ.ci 201 0) (ρ.i 410).toNat k) q1 (a := .var 412) (b := .var 413) (c := .var 414) c0 c1 c2
  have e3 : (((IE.cl 201 0 (.var 410)).den ρ).toNat : Int) = ρ.ci 201 0 (ρ.i 410).toNat := by show ((ρ.ci 201 0 (ρ.i 410).toNat).toNat : Int) = _; omega
  simp only [e3] at pc
  unfold oTc0
  rw [dor_f, dor_f, dor_f, dor_f, dnot_f, deq_t, dlt_f, dlt_f, dlt_f, dand_f, dor_f, dnot_f, dand_t, dand_t, deq_t, deq_t, deq_t, dnot_f, dlt_t, deq_f, v0, v1, v2, show ∀ a : IE, (IE.op .add .i64 a (.lit 1)).den ρ = IntKind.i64.wrap (a.den ρ + 1) from fun _ => rfl, pc]
  have hn := cnt_nn (ρ.ci 201 0) (ρ.ci 201 0 (ρ.i 410).toNat) (ρ.i 410).toNat
  have hle := cnt_le (ρ.ci 201 0) (ρ.ci 201 0 (ρ.i 410).toNat) (ρ.i 410).toNat
  rw [wrap_id _ (by omega) (by omega)]
  refine ⟨q3, ⟨?_, ?_, ?_⟩, ?_⟩
  · have := q4 0 (by decide)
    show ρ.ci 201 (9 + (3 * 0 + rg ρ)) (ρ.i 410).toNat ≤ ρ.i 412
    rw [c0]; exact this
  · have := q4 1 (by decide)
    show ρ.ci 201 (9 + (3 * 1 + rg ρ)) (ρ.i 410).toNat ≤ ρ.i 413
    rw [c1]; exact this
  · have := q4 2 (by decide)
    show ρ.ci 201 (9 + (3 * 2 + rg ρ)) (ρ.i 410).toNat ≤ ρ.i 414
    rw [c2]; exact this
  · by_cases hdc : ρ.ci 201 0 (ρ.i 410).toNat = ρ.i 0
    · right
      obtain ⟨o1, o2, o3⟩ := nu.o (ρ.i 410).toNat (by omega) hdc
      refine ⟨⟨?_, ?_, ?_⟩, ?_⟩
      · show ρ.ci 201 (9 + (3 * 0 + rg ρ)) (ρ.i 410).toNat = ρ.i 412
        rw [c0]; exact o1 0 (by decide)
      · show ρ.ci 201 (9 + (3 * 1 + rg ρ)) (ρ.i 410).toNat = ρ.i 413
        rw [c1]; exact o1 1 (by decide)
      · show ρ.ci 201 (9 + (3 * 2 + rg ρ)) (ρ.i 410).toNat = ρ.i 414
        rw [c2]; exact o1 2 (by decide)
      · show ρ.i 411 < ρ.ci 201 3 (ρ.i 410).toNat
        rw [ht]
        exact mx_lt o2 _ o3
    · exact .inl hdc
theorem round_next {ρ : Rho} (h : Hd ρ) (hi : ρ.i 410 < ρ.len 201) : Hd (oB.ap ρ) ∧ (oB.ap ρ).i 410 = ρ.i 410 + 1 := by
  have ag : Agree 410 ρ (oB.ap ρ) := Bind.agree oB_g ρ
  obtain ⟨lg, i0, _, ht, hc⟩ := h
  have hl2 := lg.l2
  have a1 := ag.len 201 (by decide)
  have a2 := ag.ci 201 (by decide)
  have e1 : (oB.ap ρ).i 410 = ρ.i 410 + 1 := by
    rw [ap_i oB_i]; simp only [IE.den, IOp.den]; exact wrap_id _ (by omega) (by omega)
  have en : ((oB.ap ρ).i 410).toNat = (ρ.i 410).toNat + 1 := by omega
  have nu := lg.nu
  have q1 := nu.d (ρ.i 410).toNat (by omega)
  have c0 := hc 0 (by decide)
  have c1 := hc 1 (by decide)
  have c2 := hc 2 (by decide)
  have pc := pickL (ρ := ρ) (x := .cl 201 0 (.var 410)) (fun k => cnt (ρ.ci 201 0) (ρ.i 410).toNat k) q1 (a := .var 412) (b := .var 413) (c := .var 414) c0 c1 c2
  have e3 : (((IE.cl 201 0 (.var 410)).den ρ).toNat : Int) = ρ.ci 201 0 (ρ.i 410).toNat := by show ((ρ.ci 201 0 (ρ.i 410).toNat).toNat : Int) = _; omega
  simp only [e3] at pc
  have hn := cnt_nn (ρ.ci 201 0) (ρ.ci 201 0 (ρ.i 410).toNat) (ρ.i 410).toNat
  have hle := cnt_le (ρ.ci 201 0) (ρ.ci 201 0 (ρ.i 410).toNat) (ρ.i 410).toNat
  have pa : (IE.op .add .i64 (.ite (.eq (.cl 201 0 (.var 410)) (.lit 0)) (.var 412) (.ite (.eq (.cl 201 0 (.var 410)) (.lit 1)) (.var 413) (.var 414))) (.lit 1)).den ρ = cnt (ρ.ci 201 0) (ρ.i 410).toNat (ρ.ci 201 0 (ρ.i 410).toNat) + 1 := by
    rw [show ∀ a : IE, (IE.op .add .i64 a (.lit 1)).den ρ = IntKind.i64.wrap (a.den ρ + 1) from fun _ => rfl, pc]
    exact wrap_id _ (by omega) (by omega)
  refine ⟨⟨lg.agree4 ag, by omega, by omega, ?_, ?_⟩, e1⟩
  · rw [ap_i oB_t, en, ← a2]
    simp only [IE.den, IOp.den, mx, ht]
  · rw [en, ← a2]
    refine three (P := fun k => (oB.ap ρ).i (412 + k) = cnt (ρ.ci 201 0) ((ρ.i 410).toNat + 1) k) ?_ ?_ ?_
    · show (oB.ap ρ).i 412 = _
      rw [ap_i oB_0, iden_eq, pa]
      simp only [cnt]
      show (if ρ.ci 201 0 (ρ.i 410).toNat = 0 then _ else ρ.i 412) = _
      rw [c0]
      split
      · rename_i h; rw [h]; rfl
      · rename_i h; rw [if_neg (by omega)]; omega
    · show (oB.ap ρ).i 413 = _
      rw [ap_i oB_1, iden_eq, iden_eq, pa]
      simp only [cnt]
      show (if ρ.ci 201 0 (ρ.i 410).toNat = 0 then ρ.i 413 else if ρ.ci 201 0 (ρ.i 410).toNat = 1 then _ else ρ.i 413) = _
      rw [c1]
      split
      · rename_i h; rw [if_neg (by omega)]; omega
      · split
        · rename_i h; rw [h]; rfl
        · rename_i h; rw [if_neg (by omega)]; omega
    · show (oB.ap ρ).i 414 = _
      rw [ap_i oB_2, iden_eq, iden_eq, pa]
      simp only [cnt]
      show (if ρ.ci 201 0 (ρ.i 410).toNat = 0 then ρ.i 414 else if ρ.ci 201 0 (ρ.i 410).toNat = 1 then ρ.i 414 else _) = _
      rw [c2]
      split
      · rename_i h; rw [if_neg (by omega)]; omega
      · split
        · rename_i h; rw [if_neg (by omega)]; omega
        · rename_i h1 h2
          have h3 : ρ.ci 201 0 (ρ.i 410).toNat = 2 := by omega
          rw [h3]; rfl
/-- The outer loop. -/
theorem cQ_ok (ρ : Rho) (hg : Lg ρ) : ∃ ρf, Agree 410 ρ ρf ∧ (∀ k : Nat, k < 3 → ρf.i (412 + k) = colE ρ k) ∧ LoopOk Try.prog ρf Try.f4.ntmps cQ_c cQ := by
  have key : ∃ (i : Nat) (ρf : Rho), Agree 410 ρ ρf ∧ (Hd ρf ∧ ρf.i 410 = ρf.len 201) ∧ LoopOk Try.prog ρf Try.f4.ntmps cQ_c cQ := by
    have ag0 : Agree 410 ρ (Bind.ap ⟨[(410, .lit 0), (411, .lit 0), (412, .lit 0), (413, .lit 0), (414, .lit 0)], [], [], []⟩ ρ) := Bind.agree rfl ρ
    refine loopOk_famE (P := Try.prog) (N := Try.f4.ntmps) (body := cQ_c) (L := cQ) rfl oS0_b (fun _ => oS) (fun _ ρ' => Hd ρ') (fun _ ρ' => Hd ρ' ∧ ρ'.i 410 = ρ'.len 201) (fun _ ρ' => (ρ'.len 201 - ρ'.i 410).toNat) (ρ := ρ) ?_
      ⟨0, _, ag0, ⟨hg.agree4 ag0, Int.le_refl 0, Int.natCast_nonneg _, rfl, three rfl rfl rfl⟩, fun E _ hE => okS_imp hE oS0_ok ρ⟩
    intro _ ρ' hh
    by_cases hi : ρ'.i 410 < ρ'.len 201
    · right
      have hk : Facts.ok ρ' (inF ++ gF) := all_ok (Facts.ok_cons (by rw [dlt_t]; exact hi) (rowF hh.lg 410 hh.i0 hi)) (gF_ok hh.lg hh.i0)
      have cok : CfgOk Try.prog ρ' (c0 ksR) := c0_ok (ks_cons ⟨hb18, fun n hp => by
        rw [eR_den]
        exact hh.lg.re _ (by have := hh.i0; omega) n hp⟩ ks_nil)
      have hcall := callS_ok (c := ⟨c0 ksR, l_able, HFL⟩) cok l_able_ok 12
      have hs : (jRun ksR [cJ] cQ_c oK (inF ++ gF) oS).sel ρ' = some (.normal, oN) := by
        rw [oT_run]; unfold oT; rw [T.sel, if_neg (by simp [round_no hh hi])]; rfl
      have lp : LpsOk Try.prog ρ' Try.f4.ntmps [cJ] cQ_c := lps_idx [0] cQ_in (List.forall_mem_cons.2 ⟨by
        rw [cQ_at]
        exact look_list (c := cJ_c) (Ls := [cJ]) (by kernel_rfl) (List.forall_mem_cons.2 ⟨cJ_ok ρ' hh.lg hh.i0 hi, List.forall_mem_nil _⟩), List.forall_mem_nil _⟩)
      obtain ⟨g1, g2⟩ := round_next hh hi
      have ag2 : Agree 410 ρ' (oB.ap ρ') := Bind.agree oB_g ρ'
      have a1 := ag2.len 201 (by decide)
      refine ⟨0, oB.ap ρ', stepF_of mixed tis_ok hcall lp o_fits hk rfl hs oN_ok, g1, ?_, ag2⟩
      show (((oB.ap ρ').len 201 : Int) - (oB.ap ρ').i 410).toNat < ((ρ'.len 201 : Int) - ρ'.i 410).toNat
      omega
    · left
      have hk : Facts.ok ρ' (exF ++ gF) := all_ok (Facts.ok_cons (by rw [dlt_f]; simp only [IE.den]; omega) (Facts.ok_nil _)) (gF_ok hh.lg hh.i0)
      have cok : CfgOk Try.prog ρ' (c0 []) := c0_ok ks_nil
      have hcall := callS_ok (c := ⟨c0 [], l_able, HFL⟩) cok l_able_ok 12
      have hs : (jRun [] [] cQ_c oK (exF ++ gF) oS).sel ρ' = some (.exit 2, oX) := by
        rw [oE_run]; rfl
      have := hh.i1
      exact ⟨ρ', Agree.refl _ _, ⟨hh, by omega⟩, rfl, endF_of (e := .exit 2) mixed tis_ok hcall (LpsOk.nil _ _ _ _) o_fits hk rfl (fun h => nomatch h) hs ⟨oO, rfl, fun E hb => okS_imp hb oX_ok ρ'⟩⟩
  obtain ⟨_, ρf, ag, ⟨h1, h2⟩, h3⟩ := key
  refine ⟨ρf, ag, fun k hk => ?_, h3⟩
  rw [h1.c k hk, h2]
  unfold colE
  rw [ag.ci 201 (by decide), ag.len 201 (by decide), Int.toNat_natCast]
end Go.Proofs.Ytonefailiekemaa
