/- The truth that the law VecWrites answers is true, whatever the letters stand for. -/
import Derived.Test.YtcllappmhdfffaaXL2
import Derived.Test.YtcllappmhdfffaaXP
namespace Go.Proofs.Ytcllappmhdfffaa
open Go Go.Proofs.Aw Go.Proofs.Xw
set_option linter.unusedSimpArgs false
set_option maxRecDepth 100000
def writesSh : List Sh := [shEnt]
theorem wrap_small {x : Int} (h1 : -9223372036854775808 ≤ x) (h2 : x < 9223372036854775808) : IntKind.i64.wrap x = x := by
  rw [IntKind.wrap_i64]; omega
theorem w00_true (ρ : Rho) : w00.be.den ρ = true := by
  simp only [w00, X.be, dl_t, dl_f, dlt_t, dlt_f, deq_t, deq_f, dnot_t, dnot_f, dand_t, dand_f, dor_t, dor_f, dite_t, dite_f, IE.den, IOp.den]
  apply Classical.or_iff_not_imp_left.2
  intro hh
  simp only [not_or, Int.not_lt, Int.not_le, Classical.not_not] at hh
  obtain ⟨⟨⟨h1, h2⟩, _, _, hv, h0⟩, _⟩ := hh
  rw [wrap_small (x := ρ.i 2 - 1) (by omega) (by omega)] at h0
  rw [wrap_small (x := ρ.i 2 + 1) (by omega) (by omega), wrap_small (x := max (max 0 (ρ.i 9)) (ρ.i 2) - 1) (by omega) (by omega)]
  repeat' apply And.intro
  all_goals omega
theorem w01_true (ρ : Rho) : w01.be.den ρ = true := by
  simp only [w01, X.be, dl_t, dl_f, dlt_t, dlt_f, deq_t, deq_f, dnot_t, dnot_f, dand_t, dand_f, dor_t, dor_f, dite_t, dite_f, IE.den, IOp.den]
  apply Classical.or_iff_not_imp_left.2
  intro hh
  simp only [not_or, Int.not_lt, Int.not_le, Classical.not_not] at hh
  obtain ⟨⟨⟨h1, h2⟩, _, _, hv, h0⟩, _⟩ := hh
  rw [wrap_small (x := ρ.i 2 - 1) (by omega) (by omega)] at h0
  rw [wrap_small (x := ρ.i 2 + 1) (by omega) (by omega), wrap_small (x := max (max 0 (ρ.i 10)) (ρ.i 2) - 1) (by omega) (by omega)]
  repeat' apply And.intro
  all_goals omega
theorem w02_true (ρ : Rho) : w02.be.den ρ = true := by
  simp only [w02, X.be, dl_t, dl_f, dlt_t, dlt_f, deq_t, deq_f, dnot_t, dnot_f, dand_t, dand_f, dor_t, dor_f, dite_t, dite_f, IE.den, IOp.den]
  apply Classical.or_iff_not_imp_left.2
  intro hh
  simp only [not_or, Int.not_lt, Int.not_le, Classical.not_not] at hh
  obtain ⟨⟨⟨h1, h2⟩, _, _, hv, h0⟩, _⟩ := hh
  rw [wrap_small (x := ρ.i 2 - 1) (by omega) (by omega)] at h0
  rw [wrap_small (x := ρ.i 2 + 1) (by omega) (by omega), wrap_small (x := max (max 0 (ρ.i 11)) (ρ.i 2) - 1) (by omega) (by omega)]
  repeat' apply And.intro
  all_goals omega
theorem w10_true (ρ : Rho) : w10.be.den ρ = true := by
  simp only [w10, X.be, dl_t, dl_f, dlt_t, dlt_f, deq_t, deq_f, dnot_t, dnot_f, dand_t, dand_f, dor_t, dor_f, dite_t, dite_f, IE.den, IOp.den]
  apply Classical.or_iff_not_imp_left.2
  intro hh
  simp only [not_or, Int.not_lt, Int.not_le, Classical.not_not] at hh
  obtain ⟨⟨⟨h1, h2⟩, _, _, hv, h0⟩, _⟩ := hh
  rw [wrap_small (x := ρ.i 2 - 1) (by omega) (by omega)] at h0
  rw [wrap_small (x := ρ.i 2 + 1) (by omega) (by omega), wrap_small (x := max (max 0 (ρ.i 12)) (ρ.i 2) - 1) (by omega) (by omega)]
  repeat' apply And.intro
  all_goals omega
theorem w11_true (ρ : Rho) : w11.be.den ρ = true := by
  simp only [w11, X.be, dl_t, dl_f, dlt_t, dlt_f, deq_t, deq_f, dnot_t, dnot_f, dand_t, dand_f, dor_t, dor_f, dite_t, dite_f, IE.den, IOp.den]
  apply Classical.or_iff_not_imp_left.2
  intro hh
  simp only [not_or, Int.not_lt, Int.not_le, Classical.not_not] at hh
  obtain ⟨⟨⟨h1, h2⟩, _, _, hv, h0⟩, _⟩ := hh
  rw [wrap_small (x := ρ.i 2 - 1) (by omega) (by omega)] at h0
  rw [wrap_small (x := ρ.i 2 + 1) (by omega) (by omega), wrap_small (x := max (max 0 (ρ.i 13)) (ρ.i 2) - 1) (by omega) (by omega)]
  repeat' apply And.intro
  all_goals omega
theorem w12_true (ρ : Rho) : w12.be.den ρ = true := by
  simp only [w12, X.be, dl_t, dl_f, dlt_t, dlt_f, deq_t, deq_f, dnot_t, dnot_f, dand_t, dand_f, dor_t, dor_f, dite_t, dite_f, IE.den, IOp.den]
  apply Classical.or_iff_not_imp_left.2
  intro hh
  simp only [not_or, Int.not_lt, Int.not_le, Classical.not_not] at hh
  obtain ⟨⟨⟨h1, h2⟩, _, _, hv, h0⟩, _⟩ := hh
  rw [wrap_small (x := ρ.i 2 - 1) (by omega) (by omega)] at h0
  rw [wrap_small (x := ρ.i 2 + 1) (by omega) (by omega), wrap_small (x := max (max 0 (ρ.i 14)) (ρ.i 2) - 1) (by omega) (by omega)]
  repeat' apply And.intro
  all_goals omega
theorem w20_true (ρ : Rho) : w20.be.den ρ = true := by
  simp only [w20, X.be, dl_t, dl_f, dlt_t, dlt_f, deq_t, deq_f, dnot_t, dnot_f, dand_t, dand_f, dor_t, dor_f, dite_t, dite_f, IE.den, IOp.den]
  apply Classical.or_iff_not_imp_left.2
  intro hh
  simp only [not_or, Int.not_lt, Int.not_le, Classical.not_not] at hh
  obtain ⟨⟨⟨h1, h2⟩, _, _, hv, h0⟩, _⟩ := hh
  rw [wrap_small (x := ρ.i 2 - 1) (by omega) (by omega)] at h0
  rw [wrap_small (x := ρ.i 2 + 1) (by omega) (by omega), wrap_small (x := max (max 0 (ρ.i 15)) (ρ.i 2) - 1) (by omega) (by omega)]
  repeat' apply And.intro
  all_goals omega
theorem w21_true (ρ : Rho) : w21.be.den ρ = true := by
  simp only [w21, X.be, dl_t, dl_f, dlt_t, dlt_f, deq_t, deq_f, dnot_t, dnot_f, dand_t, dand_f, dor_t, dor_f, dite_t, dite_f, IE.den, IOp.den]
  apply Classical.or_iff_not_imp_left.2
  intro hh
  simp only [not_or, Int.not_lt, Int.not_le, Classical.not_not] at hh
  obtain ⟨⟨⟨h1, h2⟩, _, _, hv, h0⟩, _⟩ := hh
  rw [wrap_small (x := ρ.i 2 - 1) (by omega) (by omega)] at h0
  rw [wrap_small (x := ρ.i 2 + 1) (by omega) (by omega), wrap_small (x := max (max 0 (ρ.i 16)) (ρ.i 2) - 1) (by omega) (by omega)]
  repeat' apply And.intro
  all_goals omega
theorem w22_true (ρ : Rho) : w22.be.den ρ = true := by
  simp only [w22, X.be, dl_t, dl_f, dlt_t, dlt_f, deq_t, deq_f, dnot_t, dnot_f, dand_t, dand_f, dor_t, dor_f, dite_t, dite_f, IE.den, IOp.den]
  apply Classical.or_iff_not_imp_left.2
  intro hh
  simp only [not_or, Int.not_lt, Int.not_le, Classical.not_not] at hh
  obtain ⟨⟨⟨h1, h2⟩, _, _, hv, h0⟩, _⟩ := hh
  rw [wrap_small (x := ρ.i 2 - 1) (by omega) (by omega)] at h0
  rw [wrap_small (x := ρ.i 2 + 1) (by omega) (by omega), wrap_small (x := max (max 0 (ρ.i 17)) (ρ.i 2) - 1) (by omega) (by omega)]
  repeat' apply And.intro
  all_goals omega
theorem wargs (ρ : Rho) {d r : Int} (hd : ρ.i 0 = d) (hr : ρ.i 1 = r) : X.denL ρ (pats 0 0 writesSh) = X.denL ρ (wpat d r) := by
  subst hd
  subst hr
  rfl
theorem writes_runs (ρ : Rho) : CY Try.prog 0 12 (X.denL ρ (pats 0 0 writesSh)) [] (.sc (.bool true)) [] := by
  have hc : ∀ ρ, CfgOk Try.prog ρ (cfg []) := fun _ => cfg_ok (List.forall_mem_nil _)
  rcases Classical.em (¬ 0 ≤ ρ.i 0) with gwn0 | gwn0
  · exact runF hc l_tells_ok wn0_run (ρ := ρ) (Facts.ok_cons (by simp only [dlt_t, dlt_f, IE.den]; omega) (Facts.ok_nil ρ)) 0 []
  rcases Classical.em (¬ ρ.i 0 < 3) with gwn1 | gwn1
  · exact runF hc l_tells_ok wn1_run (ρ := ρ) (Facts.ok_cons (by simp only [dlt_t, dlt_f, IE.den]; omega) (Facts.ok_nil ρ)) 0 []
  rcases Classical.em (¬ 0 ≤ ρ.i 1) with gwn2 | gwn2
  · exact runF hc l_tells_ok wn2_run (ρ := ρ) (Facts.ok_cons (by simp only [dlt_t, dlt_f, IE.den]; omega) (Facts.ok_nil ρ)) 0 []
  rcases Classical.em (¬ ρ.i 1 < 3) with gwn3 | gwn3
  · exact runF hc l_tells_ok wn3_run (ρ := ρ) (Facts.ok_cons (by simp only [dlt_t, dlt_f, IE.den]; omega) (Facts.ok_nil ρ)) 0 []
  have hd : ρ.i 0 = 0 ∨ ρ.i 0 = 1 ∨ ρ.i 0 = 2 := by omega
  have hr : ρ.i 1 = 0 ∨ ρ.i 1 = 1 ∨ ρ.i 1 = 2 := by omega
  rcases hd with hd | hd | hd <;> rcases hr with hr | hr | hr
  · have h := runF hc l_tells_ok w00_run (Facts.ok_nil ρ) 0 []
    have e : X.den ρ w00 = .sc (.bool true) := congrArg (fun b => AV.sc (.bool b)) (w00_true ρ)
    rw [wargs ρ hd hr]
    rw [e] at h
    exact h
  · have h := runF hc l_tells_ok w01_run (Facts.ok_nil ρ) 0 []
    have e : X.den ρ w01 = .sc (.bool true) := congrArg (fun b => AV.sc (.bool b)) (w01_true ρ)
    rw [wargs ρ hd hr]
    rw [e] at h
    exact h
  · have h := runF hc l_tells_ok w02_run (Facts.ok_nil ρ) 0 []
    have e : X.den ρ w02 = .sc (.bool true) := congrArg (fun b => AV.sc (.bool b)) (w02_true ρ)
    rw [wargs ρ hd hr]
    rw [e] at h
    exact h
  · have h := runF hc l_tells_ok w10_run (Facts.ok_nil ρ) 0 []
    have e : X.den ρ w10 = .sc (.bool true) := congrArg (fun b => AV.sc (.bool b)) (w10_true ρ)
    rw [wargs ρ hd hr]
    rw [e] at h
    exact h
  · have h := runF hc l_tells_ok w11_run (Facts.ok_nil ρ) 0 []
    have e : X.den ρ w11 = .sc (.bool true) := congrArg (fun b => AV.sc (.bool b)) (w11_true ρ)
    rw [wargs ρ hd hr]
    rw [e] at h
    exact h
  · have h := runF hc l_tells_ok w12_run (Facts.ok_nil ρ) 0 []
    have e : X.den ρ w12 = .sc (.bool true) := congrArg (fun b => AV.sc (.bool b)) (w12_true ρ)
    rw [wargs ρ hd hr]
    rw [e] at h
    exact h
  · have h := runF hc l_tells_ok w20_run (Facts.ok_nil ρ) 0 []
    have e : X.den ρ w20 = .sc (.bool true) := congrArg (fun b => AV.sc (.bool b)) (w20_true ρ)
    rw [wargs ρ hd hr]
    rw [e] at h
    exact h
  · have h := runF hc l_tells_ok w21_run (Facts.ok_nil ρ) 0 []
    have e : X.den ρ w21 = .sc (.bool true) := congrArg (fun b => AV.sc (.bool b)) (w21_true ρ)
    rw [wargs ρ hd hr]
    rw [e] at h
    exact h
  · have h := runF hc l_tells_ok w22_run (Facts.ok_nil ρ) 0 []
    have e : X.den ρ w22 = .sc (.bool true) := congrArg (fun b => AV.sc (.bool b)) (w22_true ρ)
    rw [wargs ρ hd hr]
    rw [e] at h
    exact h
end Go.Proofs.Ytcllappmhdfffaa
