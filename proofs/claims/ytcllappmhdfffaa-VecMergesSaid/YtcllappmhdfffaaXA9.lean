/- VecMerges: whatever the lists, the law's call returns true. -/
import Derived.Test.YtcllappmhdfffaaXL3
import Derived.Test.YtcllappmhdfffaaXL4
import Derived.Test.YtcllappmhdfffaaXw15
import Derived.Test.YtcllappmhdfffaaXP
namespace Go.Proofs.Ytcllappmhdfffaa
open Go Go.Proofs.Aw Go.Proofs.Xw
set_option linter.unusedSimpArgs false
set_option maxRecDepth 100000
theorem call0 (ρ' : Rho) : CallOk Try.prog ρ' (callS ⟨cfgL [] (fun _ => []), l_able14, []⟩ 12) := callS_ok (cfg_ok (List.forall_mem_nil _)) l_able14_ok 12
noncomputable def mA (ρ : Rho) : Rho := fin lpA_i lpA_b 0 ρ
theorem okA (ρ : Rho) (h : ρ.len 0 ≤ 20000) (hk : Facts.ok ρ []) : LoopOk Try.prog (fin lpA_i lpA_b 0 ρ) Try.f15.ntmps lpA_c lpA :=
  loopOk_cnt mixed tis_ok lpA_run lpA_fits lpA_back rfl 110 lpA_bel lpA_ib lpA_bg lpA_same (I := 100) (l := 0) rfl (by intro h; cases h) rfl rfl (by kernel_rfl) (Φ0 := []) rfl (by kernel_rfl) hk lpA_ig (by omega) call0 (fun _ => LpsOk.nil _ _ _ _)
theorem agA (ρ : Rho) : Agree 100 ρ (mA ρ) := fin_agree lpA_ig lpA_bg 0 _
noncomputable def mB (ρ : Rho) : Rho := fin lpB_i lpB_b 0 (mA ρ)
theorem okB (ρ : Rho) (h : ρ.len 0 ≤ 20000) (hk : Facts.ok ρ []) : LoopOk Try.prog (fin lpB_i lpB_b 0 ρ) Try.f18.ntmps lpB_c lpB :=
  loopOk_cnt mixed tis_ok lpB_run lpB_fits lpB_back rfl 130 lpB_bel lpB_ib lpB_bg lpB_same (I := 120) (l := 0) rfl (by intro h; cases h) rfl rfl (by kernel_rfl) (Φ0 := []) rfl (by kernel_rfl) hk lpB_ig (by omega) call0 (fun _ => LpsOk.nil _ _ _ _)
theorem agB (ρ : Rho) : Agree 120 (mA ρ) (mB ρ) := fin_agree lpB_ig lpB_bg 0 _
noncomputable def mC (ρ : Rho) : Rho := fin lpC_i lpC_b 1 (mB ρ)
theorem okC (ρ : Rho) (h : ρ.len 1 ≤ 20000) (hk : Facts.ok ρ []) : LoopOk Try.prog (fin lpC_i lpC_b 1 ρ) Try.f19.ntmps lpC_c lpC :=
  loopOk_cnt mixed tis_ok lpC_run lpC_fits lpC_back rfl 150 lpC_bel lpC_ib lpC_bg lpC_same (I := 140) (l := 1) rfl (by intro h; cases h) rfl rfl (by kernel_rfl) (Φ0 := []) rfl (by kernel_rfl) hk lpC_ig (by omega) call0 (fun _ => LpsOk.nil _ _ _ _)
theorem agC (ρ : Rho) : Agree 140 (mB ρ) (mC ρ) := fin_agree lpC_ig lpC_bg 1 _
noncomputable def mD (ρ : Rho) : Rho := fin lpD_i lpD_b 1 (mC ρ)
theorem okD (ρ : Rho) (h : ρ.len 1 ≤ 20000) (hk : Facts.ok ρ lim) : LoopOk Try.prog (fin lpD_i lpD_b 1 ρ) Try.f5.ntmps lpD_c lpD :=
  loopOk_cnt mixed tis_ok lpD_run lpD_fits lpD_back rfl 170 lpD_bel lpD_ib lpD_bg lpD_same (I := 160) (l := 1) rfl (by intro h; cases h) rfl rfl (by kernel_rfl) (Φ0 := lim) rfl (by kernel_rfl) hk lpD_ig (by omega) call0 (fun _ => LpsOk.nil _ _ _ _)
theorem agD (ρ : Rho) : Agree 160 (mC ρ) (mD ρ) := fin_agree lpD_ig lpD_bg 1 _
noncomputable def mE (ρ : Rho) : Rho := fin lpE_i lpE_b 0 (mD ρ)
theorem okE (ρ : Rho) (h : ρ.len 0 ≤ 20000) (hk : Facts.ok ρ lim) : LoopOk Try.prog (fin lpE_i lpE_b 0 ρ) Try.f5.ntmps lpE_c lpE :=
  loopOk_cnt mixed tis_ok lpE_run lpE_fits lpE_back rfl 181 lpE_bel lpE_ib lpE_bg lpE_same (I := 180) (l := 0) rfl (by intro h; cases h) rfl rfl (by kernel_rfl) (Φ0 := lim) rfl (by kernel_rfl) hk lpE_ig (by omega) call0 (fun _ => LpsOk.nil _ _ _ _)
theorem agE (ρ : Rho) : Agree 180 (mD ρ) (mE ρ) := fin_agree lpE_ig lpE_bg 0 _
theorem agA0 (ρ : Rho) : Agree 100 ρ (mA ρ) := agA ρ
theorem agB0 (ρ : Rho) : Agree 100 ρ (mB ρ) := (agA0 ρ).trans ((agB ρ).le (by omega))
theorem agC0 (ρ : Rho) : Agree 100 ρ (mC ρ) := (agB0 ρ).trans ((agC ρ).le (by omega))
theorem agD0 (ρ : Rho) : Agree 100 ρ (mD ρ) := (agC0 ρ).trans ((agD ρ).le (by omega))
theorem agE0 (ρ : Rho) : Agree 100 ρ (mE ρ) := (agD0 ρ).trans ((agE ρ).le (by omega))
theorem agDE (ρ : Rho) : Agree 180 (mD ρ) (mE ρ) := agE ρ
theorem agCE (ρ : Rho) : Agree 160 (mC ρ) (mE ρ) := (agD ρ).trans ((agDE ρ).le (by omega))
theorem agBE (ρ : Rho) : Agree 140 (mB ρ) (mE ρ) := (agC ρ).trans ((agCE ρ).le (by omega))
theorem agAE (ρ : Rho) : Agree 120 (mA ρ) (mE ρ) := (agB ρ).trans ((agBE ρ).le (by omega))
theorem cntA (ρ : Rho) (j : Nat) (h : j < 4611686018427387904) : (lpA_b.it (lpA_i.ap ρ) j).i 100 = j := it_count (e := .lit 0) rfl rfl j h
theorem cntB (ρ : Rho) (j : Nat) (h : j < 4611686018427387904) : (lpB_b.it (lpB_i.ap ρ) j).i 120 = j := it_count (e := .lit 0) rfl rfl j h
theorem cntC (ρ : Rho) (j : Nat) (h : j < 4611686018427387904) : (lpC_b.it (lpC_i.ap ρ) j).i 140 = j := it_count (e := .lit 0) rfl rfl j h
theorem cntD (ρ : Rho) (j : Nat) (h : j < 4611686018427387904) : (lpD_b.it (lpD_i.ap ρ) j).i 160 = j := it_count (e := .lit 0) rfl rfl j h
theorem AB (ρ ρ2 : Rho) (hc : ∀ k r, ρ2.ci 0 k r = ρ.ci 0 k r) : ∀ j : Nat, j < 4611686018427387904 → ((lpB_b.it (lpB_i.ap ρ2) j).i 121 = (lpA_b.it (lpA_i.ap ρ) j).i 101 ∧ 0 ≤ (lpA_b.it (lpA_i.ap ρ) j).i 101) ∧ ((lpB_b.it (lpB_i.ap ρ2) j).i 122 = (lpA_b.it (lpA_i.ap ρ) j).i 102 ∧ 0 ≤ (lpA_b.it (lpA_i.ap ρ) j).i 102) ∧ ((lpB_b.it (lpB_i.ap ρ2) j).i 123 = (lpA_b.it (lpA_i.ap ρ) j).i 103 ∧ 0 ≤ (lpA_b.it (lpA_i.ap ρ) j).i 103) ∧ ((lpB_b.it (lpB_i.ap ρ2) j).i 124 = (lpA_b.it (lpA_i.ap ρ) j).i 104 ∧ 0 ≤ (lpA_b.it (lpA_i.ap ρ) j).i 104) ∧ ((lpB_b.it (lpB_i.ap ρ2) j).i 125 = (lpA_b.it (lpA_i.ap ρ) j).i 105 ∧ 0 ≤ (lpA_b.it (lpA_i.ap ρ) j).i 105) ∧ ((lpB_b.it (lpB_i.ap ρ2) j).i 126 = (lpA_b.it (lpA_i.ap ρ) j).i 106 ∧ 0 ≤ (lpA_b.it (lpA_i.ap ρ) j).i 106) ∧ ((lpB_b.it (lpB_i.ap ρ2) j).i 127 = (lpA_b.it (lpA_i.ap ρ) j).i 107 ∧ 0 ≤ (lpA_b.it (lpA_i.ap ρ) j).i 107) ∧ ((lpB_b.it (lpB_i.ap ρ2) j).i 128 = (lpA_b.it (lpA_i.ap ρ) j).i 108 ∧ 0 ≤ (lpA_b.it (lpA_i.ap ρ) j).i 108) ∧ ((lpB_b.it (lpB_i.ap ρ2) j).i 129 = (lpA_b.it (lpA_i.ap ρ) j).i 109 ∧ 0 ≤ (lpA_b.it (lpA_i.ap ρ) j).i 109)
  | 0, _ => by refine ⟨⟨rfl, Int.le_refl _⟩, ⟨rfl, Int.le_refl _⟩, ⟨rfl, Int.le_refl _⟩, ⟨rfl, Int.le_refl _⟩, ⟨rfl, Int.le_refl _⟩, ⟨rfl, Int.le_refl _⟩, ⟨rfl, Int.le_refl _⟩, ⟨rfl, Int.le_refl _⟩, ⟨rfl, Int.le_refl _⟩⟩
  | j + 1, hj => by
    have ih := AB ρ ρ2 hc j (by omega)
    have c1 := cntA ρ j (by omega)
    have c2 := cntB ρ2 j (by omega)
    have ha : ∀ k r, (lpA_b.it (lpA_i.ap ρ) j).ci 0 k r = ρ.ci 0 k r := fun k r => by rw [← (Bind.it_agree lpA_bg _ j).ci 0 (by omega)]; rw [← (Bind.agree lpA_ig ρ).ci 0 (by omega)]
    have hb : ∀ k r, (lpB_b.it (lpB_i.ap ρ2) j).ci 0 k r = ρ.ci 0 k r := fun k r => by rw [← (Bind.it_agree lpB_bg _ j).ci 0 (by omega), ← (Bind.agree lpB_ig ρ2).ci 0 (by omega)]; exact hc k r
    simp only [Bind.it]
    generalize lpA_b.it (lpA_i.ap ρ) j = p at ih c1 ha ⊢
    generalize lpB_b.it (lpB_i.ap ρ2) j = q at ih c2 hb ⊢
    have a0 : (lpA_b.ap p).i 101 = Max.max (p.i 101) (p.ci 0 0 (p.i 100).toNat) := by kernel_rfl
    have b0 : (lpB_b.ap q).i 121 = Max.max (Max.max 0 (q.i 121)) (q.ci 0 0 (q.i 120).toNat) := by kernel_rfl
    rw [ha, c1] at a0
    rw [hb, c2] at b0
    have a1 : (lpA_b.ap p).i 102 = Max.max (p.i 102) (p.ci 0 1 (p.i 100).toNat) := by kernel_rfl
    have b1 : (lpB_b.ap q).i 122 = Max.max (Max.max 0 (q.i 122)) (q.ci 0 1 (q.i 120).toNat) := by kernel_rfl
    rw [ha, c1] at a1
    rw [hb, c2] at b1
    have a2 : (lpA_b.ap p).i 103 = Max.max (p.i 103) (p.ci 0 2 (p.i 100).toNat) := by kernel_rfl
    have b2 : (lpB_b.ap q).i 123 = Max.max (Max.max 0 (q.i 123)) (q.ci 0 2 (q.i 120).toNat) := by kernel_rfl
    rw [ha, c1] at a2
    rw [hb, c2] at b2
    have a3 : (lpA_b.ap p).i 104 = Max.max (p.i 104) (p.ci 0 3 (p.i 100).toNat) := by kernel_rfl
    have b3 : (lpB_b.ap q).i 124 = Max.max (Max.max 0 (q.i 124)) (q.ci 0 3 (q.i 120).toNat) := by kernel_rfl
    rw [ha, c1] at a3
    rw [hb, c2] at b3
    have a4 : (lpA_b.ap p).i 105 = Max.max (p.i 105) (p.ci 0 4 (p.i 100).toNat) := by kernel_rfl
    have b4 : (lpB_b.ap q).i 125 = Max.max (Max.max 0 (q.i 125)) (q.ci 0 4 (q.i 120).toNat) := by kernel_rfl
    rw [ha, c1] at a4
    rw [hb, c2] at b4
    have a5 : (lpA_b.ap p).i 106 = Max.max (p.i 106) (p.ci 0 5 (p.i 100).toNat) := by kernel_rfl
    have b5 : (lpB_b.ap q).i 126 = Max.max (Max.max 0 (q.i 126)) (q.ci 0 5 (q.i 120).toNat) := by kernel_rfl
    rw [ha, c1] at a5
    rw [hb, c2] at b5
    have a6 : (lpA_b.ap p).i 107 = Max.max (p.i 107) (p.ci 0 6 (p.i 100).toNat) := by kernel_rfl
    have b6 : (lpB_b.ap q).i 127 = Max.max (Max.max 0 (q.i 127)) (q.ci 0 6 (q.i 120).toNat) := by kernel_rfl
    rw [ha, c1] at a6
    rw [hb, c2] at b6
    have a7 : (lpA_b.ap p).i 108 = Max.max (p.i 108) (p.ci 0 7 (p.i 100).toNat) := by kernel_rfl
    have b7 : (lpB_b.ap q).i 128 = Max.max (Max.max 0 (q.i 128)) (q.ci 0 7 (q.i 120).toNat) := by kernel_rfl
    rw [ha, c1] at a7
    rw [hb, c2] at b7
    have a8 : (lpA_b.ap p).i 109 = Max.max (p.i 109) (p.ci 0 8 (p.i 100).toNat) := by kernel_rfl
    have b8 : (lpB_b.ap q).i 129 = Max.max (Max.max 0 (q.i 129)) (q.ci 0 8 (q.i 120).toNat) := by kernel_rfl
    rw [ha, c1] at a8
    rw [hb, c2] at b8
    obtain ⟨⟨i0, n0⟩, ⟨i1, n1⟩, ⟨i2, n2⟩, ⟨i3, n3⟩, ⟨i4, n4⟩, ⟨i5, n5⟩, ⟨i6, n6⟩, ⟨i7, n7⟩, ⟨i8, n8⟩⟩ := ih
    refine ⟨⟨?_, ?_⟩, ⟨?_, ?_⟩, ⟨?_, ?_⟩, ⟨?_, ?_⟩, ⟨?_, ?_⟩, ⟨?_, ?_⟩, ⟨?_, ?_⟩, ⟨?_, ?_⟩, ⟨?_, ?_⟩⟩
    · rw [a0, b0, i0, Int.max_eq_right n0]
    · rw [a0]; exact Int.le_trans n0 (Int.le_max_left _ _)
    · rw [a1, b1, i1, Int.max_eq_right n1]
    · rw [a1]; exact Int.le_trans n1 (Int.le_max_left _ _)
    · rw [a2, b2, i2, Int.max_eq_right n2]
    · rw [a2]; exact Int.le_trans n2 (Int.le_max_left _ _)
    · rw [a3, b3, i3, Int.max_eq_right n3]
    · rw [a3]; exact Int.le_trans n3 (Int.le_max_left _ _)
    · rw [a4, b4, i4, Int.max_eq_right n4]
    · rw [a4]; exact Int.le_trans n4 (Int.le_max_left _ _)
    · rw [a5, b5, i5, Int.max_eq_right n5]
    · rw [a5]; exact Int.le_trans n5 (Int.le_max_left _ _)
    · rw [a6, b6, i6, Int.max_eq_right n6]
    · rw [a6]; exact Int.le_trans n6 (Int.le_max_left _ _)
    · rw [a7, b7, i7, Int.max_eq_right n7]
    · rw [a7]; exact Int.le_trans n7 (Int.le_max_left _ _)
    · rw [a8, b8, i8, Int.max_eq_right n8]
    · rw [a8]; exact Int.le_trans n8 (Int.le_max_left _ _)
theorem CD (ρ ρ2 : Rho) (hc : ∀ k r, ρ2.ci 1 k r = ρ.ci 1 k r) (h0 : ρ2.i 121 = ρ.i 101) (h1 : ρ2.i 122 = ρ.i 102) (h2 : ρ2.i 123 = ρ.i 103) (h3 : ρ2.i 124 = ρ.i 104) (h4 : ρ2.i 125 = ρ.i 105) (h5 : ρ2.i 126 = ρ.i 106) (h6 : ρ2.i 127 = ρ.i 107) (h7 : ρ2.i 128 = ρ.i 108) (h8 : ρ2.i 129 = ρ.i 109) : ∀ j : Nat, j < 4611686018427387904 → (lpD_b.it (lpD_i.ap ρ2) j).i 161 = (lpC_b.it (lpC_i.ap ρ) j).i 141 ∧ (lpD_b.it (lpD_i.ap ρ2) j).i 162 = (lpC_b.it (lpC_i.ap ρ) j).i 142 ∧ (lpD_b.it (lpD_i.ap ρ2) j).i 163 = (lpC_b.it (lpC_i.ap ρ) j).i 143 ∧ (lpD_b.it (lpD_i.ap ρ2) j).i 164 = (lpC_b.it (lpC_i.ap ρ) j).i 144 ∧ (lpD_b.it (lpD_i.ap ρ2) j).i 165 = (lpC_b.it (lpC_i.ap ρ) j).i 145 ∧ (lpD_b.it (lpD_i.ap ρ2) j).i 166 = (lpC_b.it (lpC_i.ap ρ) j).i 146 ∧ (lpD_b.it (lpD_i.ap ρ2) j).i 167 = (lpC_b.it (lpC_i.ap ρ) j).i 147 ∧ (lpD_b.it (lpD_i.ap ρ2) j).i 168 = (lpC_b.it (lpC_i.ap ρ) j).i 148 ∧ (lpD_b.it (lpD_i.ap ρ2) j).i 169 = (lpC_b.it (lpC_i.ap ρ) j).i 149
  | 0, _ => ⟨h0, h1, h2, h3, h4, h5, h6, h7, h8⟩
  | j + 1, hj => by
    have ih := CD ρ ρ2 hc h0 h1 h2 h3 h4 h5 h6 h7 h8 j (by omega)
    have c1 := cntC ρ j (by omega)
    have c2 := cntD ρ2 j (by omega)
    have ha : ∀ k r, (lpC_b.it (lpC_i.ap ρ) j).ci 1 k r = ρ.ci 1 k r := fun k r => by rw [← (Bind.it_agree lpC_bg _ j).ci 1 (by omega)]; rw [← (Bind.agree lpC_ig ρ).ci 1 (by omega)]
    have hb : ∀ k r, (lpD_b.it (lpD_i.ap ρ2) j).ci 1 k r = ρ.ci 1 k r := fun k r => by rw [← (Bind.it_agree lpD_bg _ j).ci 1 (by omega), ← (Bind.agree lpD_ig ρ2).ci 1 (by omega)]; exact hc k r
    simp only [Bind.it]
    generalize lpC_b.it (lpC_i.ap ρ) j = p at ih c1 ha ⊢
    generalize lpD_b.it (lpD_i.ap ρ2) j = q at ih c2 hb ⊢
    obtain ⟨i0, i1, i2, i3, i4, i5, i6, i7, i8⟩ := ih
    refine ⟨?_, ?_, ?_, ?_, ?_, ?_, ?_, ?_, ?_⟩
    all_goals
      simp only [Bind.ap, lpC_b, lpD_b, lassoc, Nat.beq_eq, Nat.reduceEqDiff, if_true, if_false, Bool.false_eq_true, reduceIte, IE.den, BE.den, IOp.den, ha, hb, c1, c2, i0, i1, i2, i3, i4, i5, i6, i7, i8]
theorem merges_lim (ρ : Rho) (hk : Facts.ok ρ lim) : CY Try.prog 0 5 (X.denL ρ [.rl 9 (.len 0) (.var 0 kv) false, .rl 3 (.len 1) (.var 1 kdd) false]) [] (.sc (.bool true)) [] := by
  have h0 : ρ.len 0 ≤ 20000 := by
    have : decide ((20000 : Int) < (ρ.len 0 : Nat)) = false := hk (.lt (.lit 20000) (.len 0), false) (by simp [lim])
    have := of_decide_eq_false this
    omega
  have h1 : ρ.len 1 ≤ 20000 := by
    have : decide ((20000 : Int) < (ρ.len 1 : Nat)) = false := hk (.lt (.lit 20000) (.len 1), false) (by simp [lim])
    have := of_decide_eq_false this
    omega
  have l0 : ∀ {σ : Rho}, Agree 100 ρ σ → σ.len 0 ≤ 20000 := fun h => by rw [← h.len 0 (by omega)]; exact h0
  have l1 : ∀ {σ : Rho}, Agree 100 ρ σ → σ.len 1 ≤ 20000 := fun h => by rw [← h.len 1 (by omega)]; exact h1
  have e0 : ∀ {σ : Rho}, Agree 100 ρ σ → σ.len 0 = ρ.len 0 := fun h => (h.len 0 (by omega)).symm
  have e1 : ∀ {σ : Rho}, Agree 100 ρ σ → σ.len 1 = ρ.len 1 := fun h => (h.len 1 (by omega)).symm
  have kk : ∀ {σ : Rho}, Agree 100 ρ σ → Facts.ok σ lim := fun h => Facts.bel_ok h (by kernel_rfl) hk
  have gA := LoopOk.agree lpA_Sb (B := 110) (by kernel_rfl) lpA_bel ((agAE ρ).le (by omega)) (okA ρ h0 (Facts.ok_nil _))
  have gB := LoopOk.agree lpB_Sb (B := 130) (by kernel_rfl) lpB_bel ((agBE ρ).le (by omega)) (okB (mA ρ) (l0 (agA0 ρ)) (Facts.ok_nil _))
  have gC := LoopOk.agree lpC_Sb (B := 150) (by kernel_rfl) lpC_bel ((agCE ρ).le (by omega)) (okC (mB ρ) (l1 (agB0 ρ)) (Facts.ok_nil _))
  have gD := LoopOk.agree lpD_Sb (B := 170) (by kernel_rfl) lpD_bel ((agDE ρ).le (by omega)) (okD (mC ρ) (l1 (agC0 ρ)) (kk (agC0 ρ)))
  have gE := okE (mD ρ) (l0 (agD0 ρ)) (kk (agD0 ρ))
  have cA : (mE ρ).i 100 = ρ.len 0 := by rw [← (agAE ρ).i 100 (by omega)]; exact fin_count rfl rfl 0 ρ (by omega)
  have cB : (mE ρ).i 120 = ρ.len 0 := by rw [← (agBE ρ).i 120 (by omega), ← e0 (agA0 ρ)]; exact fin_count rfl rfl 0 (mA ρ) (by have := l0 (agA0 ρ); omega)
  have cC : (mE ρ).i 140 = ρ.len 1 := by rw [← (agCE ρ).i 140 (by omega), ← e1 (agB0 ρ)]; exact fin_count rfl rfl 1 (mB ρ) (by have := l1 (agB0 ρ); omega)
  have cD : (mE ρ).i 160 = ρ.len 1 := by rw [← (agDE ρ).i 160 (by omega), ← e1 (agC0 ρ)]; exact fin_count rfl rfl 1 (mC ρ) (by have := l1 (agC0 ρ); omega)
  have cE : (mE ρ).i 180 = ρ.len 0 := by rw [← e0 (agD0 ρ)]; exact fin_count rfl rfl 0 (mD ρ) (by have := l0 (agD0 ρ); omega)
  have ab := AB ρ (mA ρ) (fun k r => by rw [← (agA0 ρ).ci 0 (by omega)]) (ρ.len 0) (by omega)
  obtain ⟨⟨x0, _⟩, ⟨x1, _⟩, ⟨x2, _⟩, ⟨x3, _⟩, ⟨x4, _⟩, ⟨x5, _⟩, ⟨x6, _⟩, ⟨x7, _⟩, ⟨x8, _⟩⟩ := ab
  have hA : ∀ k, k < 120 → (lpA_b.it (lpA_i.ap ρ) (ρ.len 0)).i k = (mA ρ).i k := fun k _ => rfl
  have hB : ∀ k, (lpB_b.it (lpB_i.ap (mA ρ)) (ρ.len 0)).i k = (mB ρ).i k := fun k => by unfold mB fin; rw [e0 (agA0 ρ)]
  have y0 : (mB ρ).i 121 = (mB ρ).i 101 := by rw [← hB, x0]; exact (agB ρ).i 101 (by omega)
  have y1 : (mB ρ).i 122 = (mB ρ).i 102 := by rw [← hB, x1]; exact (agB ρ).i 102 (by omega)
  have y2 : (mB ρ).i 123 = (mB ρ).i 103 := by rw [← hB, x2]; exact (agB ρ).i 103 (by omega)
  have y3 : (mB ρ).i 124 = (mB ρ).i 104 := by rw [← hB, x3]; exact (agB ρ).i 104 (by omega)
  have y4 : (mB ρ).i 125 = (mB ρ).i 105 := by rw [← hB, x4]; exact (agB ρ).i 105 (by omega)
  have y5 : (mB ρ).i 126 = (mB ρ).i 106 := by rw [← hB, x5]; exact (agB ρ).i 106 (by omega)
  have y6 : (mB ρ).i 127 = (mB ρ).i 107 := by rw [← hB, x6]; exact (agB ρ).i 107 (by omega)
  have y7 : (mB ρ).i 128 = (mB ρ).i 108 := by rw [← hB, x7]; exact (agB ρ).i 108 (by omega)
  have y8 : (mB ρ).i 129 = (mB ρ).i 109 := by rw [← hB, x8]; exact (agB ρ).i 109 (by omega)
  have cd := CD (mB ρ) (mC ρ) (fun k r => by rw [← (agC ρ).ci 1 (by omega)]) (by rw [← (agC ρ).i 121 (by omega)]; exact y0) (by rw [← (agC ρ).i 122 (by omega)]; exact y1) (by rw [← (agC ρ).i 123 (by omega)]; exact y2) (by rw [← (agC ρ).i 124 (by omega)]; exact y3) (by rw [← (agC ρ).i 125 (by omega)]; exact y4) (by rw [← (agC ρ).i 126 (by omega)]; exact y5) (by rw [← (agC ρ).i 127 (by omega)]; exact y6) (by rw [← (agC ρ).i 128 (by omega)]; exact y7) (by rw [← (agC ρ).i 129 (by omega)]; exact y8) (ρ.len 1) (by omega)
  have hC : ∀ k, (lpC_b.it (lpC_i.ap (mB ρ)) (ρ.len 1)).i k = (mC ρ).i k := fun k => by unfold mC fin; rw [e1 (agB0 ρ)]
  have hD : ∀ k, (lpD_b.it (lpD_i.ap (mC ρ)) (ρ.len 1)).i k = (mD ρ).i k := fun k => by unfold mD fin; rw [e1 (agC0 ρ)]
  simp only [hC, hD] at cd
  obtain ⟨z0, z1, z2, z3, z4, z5, z6, z7, z8⟩ := cd
  have p0 : (mE ρ).i 101 = (mE ρ).i 121 := by rw [← (agBE ρ).i 101 (by omega), ← (agBE ρ).i 121 (by omega), y0]
  have q0 : (mE ρ).i 141 = (mE ρ).i 161 := by rw [← (agCE ρ).i 141 (by omega), ← (agDE ρ).i 161 (by omega), z0]
  have p1 : (mE ρ).i 102 = (mE ρ).i 122 := by rw [← (agBE ρ).i 102 (by omega), ← (agBE ρ).i 122 (by omega), y1]
  have q1 : (mE ρ).i 142 = (mE ρ).i 162 := by rw [← (agCE ρ).i 142 (by omega), ← (agDE ρ).i 162 (by omega), z1]
  have p2 : (mE ρ).i 103 = (mE ρ).i 123 := by rw [← (agBE ρ).i 103 (by omega), ← (agBE ρ).i 123 (by omega), y2]
  have q2 : (mE ρ).i 143 = (mE ρ).i 163 := by rw [← (agCE ρ).i 143 (by omega), ← (agDE ρ).i 163 (by omega), z2]
  have p3 : (mE ρ).i 104 = (mE ρ).i 124 := by rw [← (agBE ρ).i 104 (by omega), ← (agBE ρ).i 124 (by omega), y3]
  have q3 : (mE ρ).i 144 = (mE ρ).i 164 := by rw [← (agCE ρ).i 144 (by omega), ← (agDE ρ).i 164 (by omega), z3]
  have p4 : (mE ρ).i 105 = (mE ρ).i 125 := by rw [← (agBE ρ).i 105 (by omega), ← (agBE ρ).i 125 (by omega), y4]
  have q4 : (mE ρ).i 145 = (mE ρ).i 165 := by rw [← (agCE ρ).i 145 (by omega), ← (agDE ρ).i 165 (by omega), z4]
  have p5 : (mE ρ).i 106 = (mE ρ).i 126 := by rw [← (agBE ρ).i 106 (by omega), ← (agBE ρ).i 126 (by omega), y5]
  have q5 : (mE ρ).i 146 = (mE ρ).i 166 := by rw [← (agCE ρ).i 146 (by omega), ← (agDE ρ).i 166 (by omega), z5]
  have p6 : (mE ρ).i 107 = (mE ρ).i 127 := by rw [← (agBE ρ).i 107 (by omega), ← (agBE ρ).i 127 (by omega), y6]
  have q6 : (mE ρ).i 147 = (mE ρ).i 167 := by rw [← (agCE ρ).i 147 (by omega), ← (agDE ρ).i 167 (by omega), z6]
  have p7 : (mE ρ).i 108 = (mE ρ).i 128 := by rw [← (agBE ρ).i 108 (by omega), ← (agBE ρ).i 128 (by omega), y7]
  have q7 : (mE ρ).i 148 = (mE ρ).i 168 := by rw [← (agCE ρ).i 148 (by omega), ← (agDE ρ).i 168 (by omega), z7]
  have p8 : (mE ρ).i 109 = (mE ρ).i 129 := by rw [← (agBE ρ).i 109 (by omega), ← (agBE ρ).i 129 (by omega), y8]
  have q8 : (mE ρ).i 149 = (mE ρ).i 169 := by rw [← (agCE ρ).i 149 (by omega), ← (agDE ρ).i 169 (by omega), z8]
  have le0 := e0 (agE0 ρ)
  have le1 := e1 (agE0 ρ)
  have hsel : ∃ e : BE, (askF ⟨cfgL [] lp3, l_able14, []⟩ 5 [.rl 9 (.len 0) (.var 0 kv) false, .rl 3 (.len 1) (.var 1 kdd) false] lim).sel (mE ρ) = some (.sc (.b e)) ∧ e.den (mE ρ) = true := by
    rw [mergesL_run]
    unfold mergesL
    refine sel_need_b ?_ ?_
    · simp only [BE.den, IE.den, cA, cB, cC, cD, cE, le0, le1, p0, q0, p1, q1, p2, q2, p3, q3, p4, q4, p5, q5, p6, q6, p7, q7, p8, q8, beq_self_eq_true, Bool.and_self, Bool.not_true, Bool.or_true, Bool.false_or, Int.lt_irrefl, decide_false, Bool.not_false]
    · simp only [BE.den, IE.den, p0, q0, p1, q1, p2, q2, p3, q3, p4, q4, p5, q5, p6, q6, p7, q7, p8, q8, beq_self_eq_true, Bool.and_self]
  obtain ⟨e, hs, he⟩ := hsel
  have := (askF_ok (cfgL_ok (List.forall_mem_nil _) (lp3_ok gD gE gA gB gC)) l_able14_ok (kk (agE0 ρ)) hs).2 0 []
  rw [show X.den (mE ρ) (.sc (.b e)) = .sc (.bool true) from by simp only [X.den, Sc.den, he]] at this
  rw [X.belL_den (agE0 ρ) _ (by kernel_rfl)]
  exact this
theorem ask_ret {ρ : Rho} {c : Cfg2} {f : Nat} {args : List X} {Φ : Facts} {t : T X} {e : BE} (hc : CfgOk Try.prog ρ c.c) (hs : ∀ s ∈ c.sm, SmOk Try.prog s) (hr : askF c f args Φ = t) (ht : t = .ret (.sc (.b e))) (he : e.den ρ = true) (hk : Facts.ok ρ Φ) : CY Try.prog 0 f (X.denL ρ args) [] (.sc (.bool true)) [] := by
  have h := (askF_ok hc hs hk (r := .sc (.b e)) (by rw [hr, ht]; rfl)).2 0 []
  rw [show X.den ρ (.sc (.b e)) = .sc (.bool true) from by simp only [X.den, Sc.den, he]] at h
  exact h
def mergesSh : List Sh := [.sl kv, .sl kdd]
theorem merges_cy (ρ : Rho) : CY Try.prog 0 5 (X.denL ρ [.rl 9 (.len 0) (.var 0 kv) false, .rl 3 (.len 1) (.var 1 kdd) false]) [] (.sc (.bool true)) [] := by
  by_cases h0 : (20000 : Int) < ρ.len 0
  · exact ask_ret (cfg_ok (List.forall_mem_nil _)) l_able14_ok mergesB0_run rfl rfl (Facts.ok_cons (decide_eq_true h0) (Facts.ok_nil _))
  · by_cases h1 : (20000 : Int) < ρ.len 1
    · exact ask_ret (cfg_ok (List.forall_mem_nil _)) l_able14_ok mergesB1_run rfl rfl (Facts.ok_cons (decide_eq_false h0) (Facts.ok_cons (decide_eq_true h1) (Facts.ok_nil _)))
    · exact merges_lim ρ (Facts.ok_cons (decide_eq_false h0) (Facts.ok_cons (decide_eq_false h1) (Facts.ok_nil _)))
end Go.Proofs.Ytcllappmhdfffaa
