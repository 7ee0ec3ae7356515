/- ChainOnce: the two last loops find no two writes alike. -/
import Derived.Test.YtonefailiekemaaXLO
namespace Go.Proofs.Ytonefailiekemaa
open Go Go.Proofs.Aw Go.Proofs.Xw
set_option maxRecDepth 100000
theorem uF_ok {ρ : Rho} (h : 1 ≤ ρ.len 201) (h2 : ρ.len 201 ≤ 256) (a : 0 ≤ ρ.i 410) (b : ρ.i 410 < ρ.len 201) (c : 0 ≤ ρ.i 430) (d : ρ.i 430 ≤ ρ.i 410) : Facts.ok ρ uF := by
  refine Facts.ok_cons ?_ (Facts.ok_cons ?_ (Facts.ok_cons ?_ (Facts.ok_cons ?_ (Facts.ok_cons ?_ (Facts.ok_cons ?_ (Facts.ok_nil _))))))
  all_goals first | rw [dlt_f] | rw [dlt_t]
  all_goals (simp only [IE.den]; omega)
theorem wF_ok {ρ : Rho} (h : 1 ≤ ρ.len 201) (h2 : ρ.len 201 ≤ 256) (a : 0 ≤ ρ.i 410) (b : ρ.i 410 ≤ ρ.len 201) : Facts.ok ρ wF := by
  refine Facts.ok_cons ?_ (Facts.ok_cons ?_ (Facts.ok_cons ?_ (Facts.ok_cons ?_ (Facts.ok_nil _))))
  all_goals first | rw [dlt_f] | rw [dlt_t]
  all_goals (simp only [IE.den]; omega)
/-- The inner loop, from the first write on. -/
theorem cJ_ok (ρ : Rho) (hu : Un ρ) (hl : 1 ≤ ρ.len 201) (hl2 : ρ.len 201 ≤ 256) (h0 : 0 ≤ ρ.i 410) (h1 : ρ.i 410 < ρ.len 201) : LoopOk Try.prog ρ Try.f3.ntmps cJ_c cJ := by
  have key : ∃ (i : Nat) (ρf : Rho), Agree 430 ρ ρf ∧ (Agree 430 ρ ρf ∧ 0 ≤ ρf.i 430 ∧ ρf.i 430 ≤ ρf.i 410) ∧ LoopOk Try.prog ρf Try.f3.ntmps cJ_c cJ := by
    refine loopOk_fam (P := Try.prog) (N := Try.f3.ntmps) (body := cJ_c) (L := cJ) rfl iS0_b (fun _ => iS) (fun _ ρ' => Agree 430 ρ ρ' ∧ 0 ≤ ρ'.i 430 ∧ ρ'.i 430 ≤ ρ'.i 410) (fun _ ρ' => (ρ'.i 410 - ρ'.i 430).toNat) (ρ := ρ) ?_
      ⟨0, Bind.ap ⟨[(430, .lit 0)], [], [], []⟩ ρ, Bind.agree rfl ρ, ⟨Bind.agree rfl ρ, Int.le_refl 0, h0⟩, fun E _ hE => okS_imp hE iS0_ok ρ⟩
    rintro _ ρ' ⟨ag, k0, k1⟩
    have a1 := ag.len 201 (by decide)
    have a2 := ag.i 410 (by decide)
    have a3 := ag.ci 201 (by decide)
    rw [a1] at hl hl2 h1
    rw [a2] at h0 h1
    have hk := uF_ok hl hl2 h0 h1 k0 k1
    by_cases hi : ρ'.i 430 < ρ'.i 410
    · right
      have n1 : iTc1.den ρ' = true := by unfold iTc1; rw [dlt_t]; simp only [IE.den]; omega
      have c0 : iTc0.den ρ' = true := by unfold iTc0; rw [dlt_t]; exact hi
      have c2 : ¬ iTc2.den ρ' = true := by
        unfold iTc2
        rw [dand_t, deq_t, deq_t]
        simp only [IE.den]
        have := hu (ρ'.i 430).toNat (ρ'.i 410).toNat (by omega) (by rw [a1]; omega)
        rw [a3] at this
        exact fun q => this ⟨q.1.symm, q.2.symm⟩
      have hs : (jRun [] cJ_c uF iS).sel ρ' = some (.normal, iN) := by
        rw [iT_run]; unfold iT; rw [T.sel, if_pos c0, T.sel, if_pos n1, T.sel, if_neg c2]; rfl
      have ag2 : Agree 430 ρ' (iB.ap ρ') := Bind.agree iB_g ρ'
      have e1 : (iB.ap ρ').i 430 = ρ'.i 430 + 1 := by
        rw [ap_i iB_i]; simp only [IE.den, IOp.den]; exact wrap_id _ (by omega) (by omega)
      have e2 : (iB.ap ρ').i 410 = ρ'.i 410 := (ag2.i 410 (by decide)).symm
      refine ⟨0, iB.ap ρ', stepF_of mixed tis_ok (callC HFL ρ') (LpsOk.nil _ _ _ _) i_fits hk rfl hs iN_ok, ⟨ag.trans ag2, by omega, by omega⟩, ?_, ag2⟩
      show ((iB.ap ρ').i 410 - (iB.ap ρ').i 430).toNat < (ρ'.i 410 - ρ'.i 430).toNat
      omega
    · left
      have c0 : ¬ iTc0.den ρ' = true := by unfold iTc0; rw [dlt_t]; exact hi
      have hs : (jRun [] cJ_c uF iS).sel ρ' = some (.exit 4, iX) := by
        rw [iT_run]; unfold iT; rw [T.sel, if_neg c0]; rfl
      exact ⟨ρ', Agree.refl _ _, ⟨ag, k0, k1⟩, rfl, endF_of (e := .exit 4) mixed tis_ok (callC HFL ρ') (LpsOk.nil _ _ _ _) i_fits hk rfl (fun h => nomatch h) hs ⟨iO, rfl, fun E hb => okS_imp hb iX_ok ρ'⟩⟩
  obtain ⟨_, ρf, ag, _, h⟩ := key
  exact LoopOk.agree (B := 430) iS0_b rfl (show cJ.out.belX 430 = true from iO_b) ag.symm h
theorem cQ_in : othersB [cJ] [0] 0 (loopsOf cQ_c) = true := by kernel_rfl
theorem cQ_at : (loopsOf cQ_c)[0]?.getD .skip = cJ_c := by kernel_rfl
/-- The outer loop. -/
theorem cQ_ok (ρ : Rho) (hu : Un ρ) (hl : 1 ≤ ρ.len 201) (hl2 : ρ.len 201 ≤ 256) : LoopOk Try.prog ρ Try.f3.ntmps cQ_c cQ := by
  have key : ∃ (i : Nat) (ρf : Rho), Agree 410 ρ ρf ∧ (Agree 410 ρ ρf ∧ 0 ≤ ρf.i 410 ∧ ρf.i 410 ≤ ρf.len 201) ∧ LoopOk Try.prog ρf Try.f3.ntmps cQ_c cQ := by
    refine loopOk_fam (P := Try.prog) (N := Try.f3.ntmps) (body := cQ_c) (L := cQ) rfl oS0_b (fun _ => oS) (fun _ ρ' => Agree 410 ρ ρ' ∧ 0 ≤ ρ'.i 410 ∧ ρ'.i 410 ≤ ρ'.len 201) (fun _ ρ' => (ρ'.len 201 - ρ'.i 410).toNat) (ρ := ρ) ?_
      ⟨0, Bind.ap ⟨[(410, .lit 0)], [], [], []⟩ ρ, Bind.agree rfl ρ, ⟨Bind.agree rfl ρ, Int.le_refl 0, Int.natCast_nonneg _⟩, fun E _ hE => okS_imp hE oS0_ok ρ⟩
    rintro _ ρ' ⟨ag, k0, k1⟩
    have a1 := ag.len 201 (by decide)
    have hu' : Un ρ' := hu.agree (ag.le (by decide))
    rw [a1] at hl hl2
    have hk := wF_ok hl hl2 k0 k1
    by_cases hi : ρ'.i 410 < ρ'.len 201
    · right
      have c0 : oTc0.den ρ' = true := by unfold oTc0; rw [dlt_t]; simp only [IE.den]; exact hi
      have hs : (jRun [cJ] cQ_c wF oS).sel ρ' = some (.normal, oN) := by
        rw [oT_run]; unfold oT; rw [T.sel, if_pos c0]; rfl
      have ag2 : Agree 410 ρ' (oB.ap ρ') := Bind.agree oB_g ρ'
      have e1 : (oB.ap ρ').i 410 = ρ'.i 410 + 1 := by
        rw [ap_i oB_i]; simp only [IE.den, IOp.den]; exact wrap_id _ (by omega) (by omega)
      have e2 : (oB.ap ρ').len 201 = ρ'.len 201 := (ag2.len 201 (by decide)).symm
      have lp : LpsOk Try.prog ρ' Try.f3.ntmps [cJ] cQ_c := lps_idx [0] cQ_in (List.forall_mem_cons.2 ⟨by
        rw [cQ_at]
        exact look_list (c := cJ_c) (Ls := [cJ]) (by kernel_rfl) (List.forall_mem_cons.2 ⟨cJ_ok ρ' hu' hl hl2 k0 hi, List.forall_mem_nil _⟩), List.forall_mem_nil _⟩)
      refine ⟨0, oB.ap ρ', stepF_of mixed tis_ok (callC HFL ρ') lp o_fits hk rfl hs oN_ok, ⟨ag.trans ag2, by omega, by omega⟩, ?_, ag2⟩
      show (((oB.ap ρ').len 201 : Int) - (oB.ap ρ').i 410).toNat < ((ρ'.len 201 : Int) - ρ'.i 410).toNat
      omega
    · left
      have hk2 : Facts.ok ρ' wG := Facts.ok_cons (by rw [dlt_f]; simp only [IE.den]; omega) hk
      have hs : (jRun [] cQ_c wG oS).sel ρ' = some (.exit 2, oX) := by
        rw [oE_run]; rfl
      exact ⟨ρ', Agree.refl _ _, ⟨ag, k0, k1⟩, rfl, endF_of (e := .exit 2) mixed tis_ok (callC HFL ρ') (LpsOk.nil _ _ _ _) o_fits hk2 rfl (fun h => nomatch h) hs ⟨oO, rfl, fun E hb => okS_imp hb oX_ok ρ'⟩⟩
  obtain ⟨_, ρf, ag, _, h⟩ := key
  exact LoopOk.agree (B := 410) oS0_b rfl (show cQ.out.belX 410 = true from oO_b) ag.symm h
end Go.Proofs.Ytonefailiekemaa
