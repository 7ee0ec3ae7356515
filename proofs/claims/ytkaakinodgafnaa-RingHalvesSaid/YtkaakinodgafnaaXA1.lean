/- Ring: where a key stands: two whole numbers, the program's and the document's alike. -/
import Derived.Test.YtkaakinodgafnaaXL1
import Derived.Test.YtkaakinodgafnaaXP
import Derived.Test.YtkaakinodgafnaaXwM2
namespace Go.Proofs.Ytkaakinodgafnaa
open Go Go.Proofs.Aw Go.Proofs.Xw
set_option maxRecDepth 100000
theorem call0 : ∀ ρ, CallOk Try.prog ρ (callS ⟨cfgL [] (fun _ => []), l_able, []⟩ 12) := fun _ => callS_ok (c := ⟨cfgL [] (fun _ => []), l_able, []⟩) (cfgL_ok (List.forall_mem_nil _) (fun _ _ _ => LpsOk.nil _ _ _ _)) l_able_ok 12
theorem wP_ok (ρ : Rho) (h : (ρ.s 0).size < 4611686018427387904) : LoopOk Try.prog (wP_b.it (wP_i.ap ρ) (ρ.s 0).size) Try.f11.ntmps wP_c wP :=
  loopOk_cntE mixed tis_ok wP_run wP_fits wP_back rfl 102 wP_bel wP_ib wP_bg wP_same (I := 100) (e := .slen (.var 0)) rfl (by intro h; cases h) rfl rfl (by kernel_rfl) (Φ0 := []) rfl (by kernel_rfl) (Facts.ok_nil _) wP_ig call0 (fun _ => LpsOk.nil _ _ _ _) _ h rfl
theorem wQ_ok (ρ : Rho) (h : (ρ.s 0).size < 4611686018427387904) : LoopOk Try.prog (wQ_b.it (wQ_i.ap ρ) (ρ.s 0).size) Try.f23.ntmps wQ_c wQ :=
  loopOk_cntE mixed tis_ok wQ_run wQ_fits wQ_back rfl 142 wQ_bel wQ_ib wQ_bg wQ_same (I := 140) (e := .slen (.var 0)) rfl (by intro h; cases h) rfl rfl (by kernel_rfl) (Φ0 := []) rfl (by kernel_rfl) (Facts.ok_nil _) wQ_ig call0 (fun _ => LpsOk.nil _ _ _ _) _ h rfl
/-- The program's hash and the document's, byte by byte. -/
theorem same (ρ : Rho) : ∀ j : Nat, (wP_b.it (wP_i.ap ρ) j).i 100 = (wQ_b.it (wQ_i.ap ρ) j).i 140 ∧ (wP_b.it (wP_i.ap ρ) j).i 101 = (wQ_b.it (wQ_i.ap ρ) j).i 141
  | 0 => ⟨rfl, rfl⟩
  | j + 1 => by
    obtain ⟨h1, h2⟩ := same ρ j
    have s1 : (wP_b.it (wP_i.ap ρ) j).s 0 = ρ.s 0 := (((Bind.agree wP_ig ρ).trans (Bind.it_agree wP_bg (wP_i.ap ρ) j)).s 0 (by decide)).symm
    have s2 : (wQ_b.it (wQ_i.ap ρ) j).s 0 = ρ.s 0 := (((Bind.agree wQ_ig ρ).trans (Bind.it_agree wQ_bg (wQ_i.ap ρ) j)).s 0 (by decide)).symm
    have e1 : (wP_b.it (wP_i.ap ρ) (j + 1)).i 100 = IOp.den .add .i64 ((wP_b.it (wP_i.ap ρ) j).i 100) 1 := by kernel_rfl
    have e2 : (wQ_b.it (wQ_i.ap ρ) (j + 1)).i 140 = IOp.den .add .i64 ((wQ_b.it (wQ_i.ap ρ) j).i 140) 1 := by kernel_rfl
    have e3 : (wP_b.it (wP_i.ap ρ) (j + 1)).i 101 = IOp.den .mul .u64 (IOp.den .xor .u64 ((wP_b.it (wP_i.ap ρ) j).i 101) (IOp.den .conv .u64 (((((wP_b.it (wP_i.ap ρ) j).s 0)[((wP_b.it (wP_i.ap ρ) j).i 100).toNat]?).getD 0).toNat : Int) 0)) 1099511628211 := by kernel_rfl
    have e4 : (wQ_b.it (wQ_i.ap ρ) (j + 1)).i 141 = IOp.den .mul .u64 (IOp.den .xor .u64 ((wQ_b.it (wQ_i.ap ρ) j).i 141) (IOp.den .conv .u64 (((((wQ_b.it (wQ_i.ap ρ) j).s 0)[((wQ_b.it (wQ_i.ap ρ) j).i 140).toNat]?).getD 0).toNat : Int) 0)) 1099511628211 := by kernel_rfl
    rw [e1, e2, e3, e4, s1, s2, h1, h2]
    exact ⟨rfl, rfl⟩
def mxI (h : Int) : Int := IOp.den .xor .u64 (IOp.den .mul .u64 (IOp.den .xor .u64 h (IOp.den .shr .u64 h 32)) 11400714819323198485) (IOp.den .shr .u64 (IOp.den .mul .u64 (IOp.den .xor .u64 h (IOp.den .shr .u64 h 32)) 11400714819323198485) 29)
def axI (h : Int) : Int := bits .and .u64 (mxI h) 1048575 + -524288
def ayI (h : Int) : Int := bits .and .u64 (IOp.den .shr .u64 (mxI h) 20) 1048575 + -524288
theorem axI_b (h : Int) : -524288 ≤ axI h ∧ axI h ≤ 524287 := by
  have := mask_le .u64 (.inr rfl) (mxI h) 1048575 (by decide) (by decide)
  unfold axI; omega
theorem ayI_b (h : Int) : -524288 ≤ ayI h ∧ ayI h ≤ 524287 := by
  have := mask_le .u64 (.inr rfl) (IOp.den .shr .u64 (mxI h) 20) 1048575 (by decide) (by decide)
  unfold ayI; omega
theorem sub_w (m : Int) (h : 0 ≤ m ∧ m ≤ 1048575) : IOp.den .sub .i64 (IOp.den .conv .i64 m 0) 524288 = m + -524288 := by
  simp only [IOp.den]
  rw [wrap_id m (by omega) (by omega), wrap_id _ (by omega) (by omega)]
  omega
theorem pnt_cy (ρ : Rho) (h : (ρ.s 0).size < 4611686018427387904) : ∃ x y : Int, (-524288 ≤ x ∧ x ≤ 524287) ∧ (-524288 ≤ y ∧ y ≤ 524287) ∧ ¬ (x = 0 ∧ y = 0) ∧
    (hasBody Try.prog 11 = true ∧ ∀ n h, CY Try.prog n 11 (X.denL ρ [keyX]) h (.sc (.complex .f64 (fv x false) (fv y false))) []) ∧
    (hasBody Try.prog 23 = true ∧ ∀ n h, CY Try.prog n 23 (X.denL ρ [keyX]) h (.tup [.sc (.int .i64 x), .sc (.int .i64 y)]) []) := by
  -- the letters behind the loops
  generalize e1 : wP_b.it (wP_i.ap ρ) (ρ.s 0).size = ρ1
  generalize e2 : wQ_b.it (wQ_i.ap ρ) (ρ.s 0).size = ρ2
  have l1 := wP_ok ρ h
  have l2 := wQ_ok ρ h
  have ag1 : Agree 100 ρ ρ1 := by rw [← e1]; exact (Bind.agree wP_ig ρ).trans (Bind.it_agree wP_bg (wP_i.ap ρ) _)
  have ag2 : Agree 140 ρ ρ2 := by rw [← e2]; exact (Bind.agree wQ_ig ρ).trans (Bind.it_agree wQ_bg (wQ_i.ap ρ) _)
  have c1 : ρ1.i 100 = (ρ.s 0).size := by rw [← e1]; exact it_count (e := .lit 0) rfl (by rfl) _ h
  have c2 : ρ2.i 140 = (ρ.s 0).size := by rw [← e2]; exact it_count (e := .lit 0) rfl (by rfl) _ h
  have sm : ρ1.i 101 = ρ2.i 141 := by rw [← e1, ← e2]; exact (same ρ _).2
  rw [e1] at l1
  rw [e2] at l2
  have n1 : (BE.not (.lt (.var 100) (.slen (.var 0)))).den ρ1 = true := by
    rw [dnot_t, dlt_f]
    simp only [IE.den, TE.den, c1, ← ag1.s 0 (by decide)]
    omega
  have n2 : (BE.not (.lt (.var 140) (.slen (.var 0)))).den ρ2 = true := by
    rw [dnot_t, dlt_f]
    simp only [IE.den, TE.den, c2, ← ag2.s 0 (by decide)]
    omega
  have g1 := fun r (hr : pnt.sel ρ1 = some r) => askF_ok (c := ⟨cfgL [] lpyP, l_able, []⟩) (cfgL_ok (List.forall_mem_nil _) (lpyP_ok l1)) l_able_ok (Facts.ok_nil ρ1) (by rw [pnt_run]; exact hr)
  have g2 := fun r (hr : rpt.sel ρ2 = some r) => askF_ok (c := ⟨cfgL [] lpyQ, l_able, []⟩) (cfgL_ok (List.forall_mem_nil _) (lpyQ_ok l2)) l_able_ok (Facts.ok_nil ρ2) (by rw [rpt_run]; exact hr)
  have g1 := g1 _ (by unfold pnt; rw [T.sel, if_pos n1]; rfl)
  have g2 := g2 _ (by unfold rpt; rw [T.sel, if_pos n2]; rfl)
  rw [← X.belL_den ag1 [keyX] (by kernel_rfl)] at g1
  rw [← X.belL_den ag2 [keyX] (by kernel_rfl)] at g2
  have ax := axI_b (ρ1.i 101)
  have ay := ayI_b (ρ1.i 101)
  generalize hh : ρ1.i 101 = hv at ax ay sm
  refine ⟨if axI hv = 0 ∧ ayI hv = 0 then 1 else axI hv, ayI hv, ?_, ay, ?_, ?_, ?_⟩
  · split <;> omega
  · split <;> omega
  · refine ⟨g1.1, fun n hp => ?_⟩
    have g := g1.2 n hp
    simp only [X.den, Sc.den, IE.den, BE.den, IOp.den, hh] at g
    have a1 : bits .and .u64 (mxI hv) 1048575 + -524288 = axI hv := rfl
    have a2 : bits .and .u64 (IOp.den .shr .u64 (mxI hv) 20) 1048575 + -524288 = ayI hv := rfl
    simp only [mxI, IOp.den] at a1 a2
    rw [a1, a2] at g
    have b : (axI hv == 0 && ayI hv == 0) = decide (axI hv = 0 ∧ ayI hv = 0) := by rw [Bool.eq_iff_iff]; simp
    rw [b] at g
    by_cases hc : axI hv = 0 ∧ ayI hv = 0
    · simp only [hc, and_self, decide_true, if_true] at g ⊢
      exact g
    · simp only [hc, decide_false, Bool.false_eq_true, if_false] at g ⊢
      exact g
  · refine ⟨g2.1, fun n hp => ?_⟩
    have g := g2.2 n hp
    have a1 := sub_w _ (mask_le .u64 (.inr rfl) (mxI hv) 1048575 (by decide) (by decide))
    have a2 := sub_w _ (mask_le .u64 (.inr rfl) (IOp.den .shr .u64 (mxI hv) 20) 1048575 (by decide) (by decide))
    simp only [X.den, X.denL, Sc.den, IE.den, BE.den, IOp.den, ← sm] at g
    have a3 : bits .and .u64 (mxI hv) 1048575 + -524288 = axI hv := rfl
    have a4 : bits .and .u64 (IOp.den .shr .u64 (mxI hv) 20) 1048575 + -524288 = ayI hv := rfl
    rw [a3] at a1
    rw [a4] at a2
    simp only [mxI, IOp.den] at a1 a2
    rw [a1, a2] at g
    have b : (axI hv == 0 && ayI hv == 0) = decide (axI hv = 0 ∧ ayI hv = 0) := by rw [Bool.eq_iff_iff]; simp
    rw [b] at g
    by_cases hc : axI hv = 0 ∧ ayI hv = 0
    · simp only [hc, and_self, decide_true, if_true] at g ⊢
      exact g
    · simp only [hc, decide_false, Bool.false_eq_true, if_false] at g ⊢
      exact g
end Go.Proofs.Ytkaakinodgafnaa
