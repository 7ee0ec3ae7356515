/- ChainLearns, loop c: a round's own letters, what the rounds keep, and the loop. -/
import Derived.Test.YtonefailiekemaaXCc2
namespace Go.Proofs.Ytonefailiekemaa.Lc
open Go Go.Proofs.Aw Go.Proofs.Xw
set_option maxRecDepth 100000
def bR : Bind := ⟨[(0, .cl 1 2 (.var 600)), (1, opE)], [], [], [(0, .len 601, .var 601 ke)]⟩
def bN : Bind := ⟨[], [], [], [(0, .len 741, .var 741 [.i .i64])]⟩
def bE0 : Bind := bindF [] ⟨[(0, eP)], [], 0⟩ ⟨[(0, eN0)], [], 0⟩
def bE1 : Bind := bindF [] ⟨[(0, eP)], [], 0⟩ ⟨[(0, eN1)], [], 0⟩
theorem cX_len (ρ : Rho) : ∀ j : Nat, (cX_b.it (cX_i.ap ρ) j).len 741 = j + 1
  | 0 => rfl
  | j + 1 => by
    show ((IE.op .padd .i64 (.len 741) (.lit 1)).den (cX_b.it (cX_i.ap ρ) j)).toNat = _
    simp only [IE.den, IOp.den, cX_len ρ j]
    omega
theorem cX_ok (ρ : Rho) (h : ρ.len 601 < 1000) : LoopOk Try.prog (cX_b.it (cX_i.ap ρ) (ρ.len 601)) Try.f15.ntmps cX_c cX := by
  refine loopOk_cntG mixed tis_ok cX_run cX_fits cX_back rfl 742 cX_bel cX_ib cX_bg cX_same (I := 740) rfl rfl (Φ0 := []) rfl (by kernel_rfl) (Facts.ok_nil _) cX_ig (callC _) (fun _ => LpsOk.nil _ _ _ _) (ρ.len 601) (by omega) (fun j hj hc ha => ?_) (fun hc ha => ?_)
  · have hl : (cX_b.it (cX.init.ap ρ) j).len 601 = ρ.len 601 := (ha.len 601 (by decide)).symm
    have hl2 := cX_len ρ j
    have h2 : (BE.not (.lt (.lit 17592186044416) (.op .padd .i64 (.len 741) (.lit 1)))).den (cX_b.it (cX.init.ap ρ) j) = true := by
      rw [dnot_t, dlt_f]
      simp only [IE.den, IOp.den, show (cX_b.it (cX.init.ap ρ) j).len 741 = j + 1 from hl2]
      omega
    exact ⟨_, by unfold cX_t; rw [T.sel, if_pos (by simp only [BE.den, IE.den, hc, hl]; exact decide_eq_true (by omega)), T.sel, if_pos h2]; rfl⟩
  · have hl : (cX_b.it (cX.init.ap ρ) (ρ.len 601)).len 601 = ρ.len 601 := (ha.len 601 (by decide)).symm
    exact ⟨.exit 0, _, (fun h => nomatch h), by unfold cX_t; rw [T.sel, if_neg (by simp [BE.den, IE.den, hc, hl])]; rfl⟩
theorem g360 (b : Bool) : Bind.ge 760 ⟨[], [(760, .lit b)], [], []⟩ = true := rfl
/-- A round's own letters. -/
theorem round_ks (ρ : Rho) (hl : ρ.len 601 < 1000) : ∃ ρ', Agree 700 ρ ρ' ∧ ρ'.i 740 = ρ.len 601 ∧ ((0 ≤ ρ'.i 731 ∧ ρ'.i 731 < ρ.len 601) ∨ ρ'.i 731 = -1) ∧ kOk ρ' (18, [eN1], .sc (.b (.var 760))) ∧ CfgOk Try.prog ρ' cB := by
  have hlr : (bR.ap ρ).len 0 = ρ.len 601 := by show (IE.den ρ (.len 601)).toNat = _; simp only [IE.den, Int.toNat_natCast]
  obtain ⟨a1, a2, a3, k1⟩ := col_cy (bR.ap ρ) (by omega)
  obtain ⟨p, k2⟩ := past_cy (bR.ap ρ) (by omega)
  obtain ⟨r, hr, k3⟩ := find_cy (bR.ap ρ) (by omega)
  let β1 : Bind := ⟨[(701, .lit a1), (702, .lit a2), (703, .lit a3), (711, .lit (p 0)), (712, .lit (p 1)), (713, .lit (p 2)), (714, .lit (p 3)), (715, .lit (p 4)), (716, .lit (p 5)), (717, .lit (p 6)), (718, .lit (p 7)), (719, .lit (p 8)), (731, .lit r)], [], [], []⟩
  have ag1 : Agree 700 ρ (β1.ap ρ) := Bind.agree rfl ρ
  have c1 : kOk (β1.ap ρ) (22, [iC 0, logX], .agg [iV 701, iV 702, iV 703]) := ⟨k1.1, fun n hp => by
    have := k1.2 n hp
    rw [← args_eq (by kernel_rfl) ρ (p := [iC 0, esR]) (e := [iC 0, logX]) (by kernel_rfl), X.belL_den ag1 [iC 0, logX] (by kernel_rfl)] at this
    exact this⟩
  have c2 : kOk (β1.ap ρ) (50, [logX], .agg [iV 711, iV 712, iV 713, iV 714, iV 715, iV 716, iV 717, iV 718, iV 719]) := ⟨k2.1, fun n hp => by
    have := k2.2 n hp
    rw [← args_eq (by kernel_rfl) ρ (p := [esR]) (e := [logX]) (by kernel_rfl), X.belL_den ag1 [logX] (by kernel_rfl)] at this
    exact this⟩
  have c3 : kOk (β1.ap ρ) (85, [logX, fn1], iV 731) := ⟨k3.1, fun n hp => by
    have := k3.2 n hp
    rw [← args_eq (by kernel_rfl) ρ (p := [esR, fnX]) (e := [logX, fn1]) (by kernel_rfl), X.belL_den ag1 [logX, fn1] (by kernel_rfl)] at this
    exact this⟩
  have hr1 : (β1.ap ρ).i 731 = r := rfl
  generalize β1.ap ρ = ρ1 at ag1 c1 c2 c3 hr1
  have hl1 : ρ1.len 601 = ρ.len 601 := (ag1.len 601 (by decide)).symm
  have l1 := cX_ok ρ1 (by omega)
  have ag2 : Agree 740 ρ1 (cX_b.it (cX_i.ap ρ1) (ρ1.len 601)) := (Bind.agree cX_ig ρ1).trans (Bind.it_agree cX_bg (cX_i.ap ρ1) _)
  have n2 : (cX_b.it (cX_i.ap ρ1) (ρ1.len 601)).i 740 = ρ1.len 601 := it_count (e := .lit 0) rfl (by rfl) _ (by omega)
  have n3 := cX_len ρ1 (ρ1.len 601)
  generalize cX_b.it (cX_i.ap ρ1) (ρ1.len 601) = ρ2 at l1 ag2 n2 n3
  obtain ⟨a, b, c, ok, k4⟩ := next_cy (bN.ap ρ2) (by show (IE.den ρ2 (.len 741)).toNat < _; simp only [IE.den, Int.toNat_natCast]; omega)
  let β3 : Bind := ⟨[(751, .lit a), (752, .lit b), (753, .lit c)], [(754, .lit ok)], [], []⟩
  have ag3 : Agree 750 ρ2 (β3.ap ρ2) := Bind.agree rfl ρ2
  have c4 : kOk (β3.ap ρ2) (46, [iC 0, iC 0, cntX], .tup [.agg [iV 751, iV 752, iV 753], .sc (.b (.var 754))]) := ⟨k4.1, fun n hp => by
    have := k4.2 n hp
    rw [← args_eq (by kernel_rfl) ρ2 (p := [iC 0, iC 0, isR]) (e := [iC 0, iC 0, cntX]) (by kernel_rfl), X.belL_den ag3 [iC 0, iC 0, cntX] (by kernel_rfl)] at this
    exact this⟩
  generalize β3.ap ρ2 = ρ3 at ag3 c4
  obtain ⟨t, c5⟩ := try_ks (e := eN1) (β := bE1) 760 (by kernel_rfl) (by kernel_rfl) (by kernel_rfl) ρ3 g360
  have ag4 : Agree 760 ρ3 (Bind.ap ⟨[], [(760, .lit t)], [], []⟩ ρ3) := Bind.agree (g360 t) ρ3
  generalize Bind.ap ⟨[], [(760, .lit t)], [], []⟩ ρ3 = ρ4 at ag4 c5
  have ag : Agree 740 ρ1 ρ4 := ag2.trans ((ag3.le (by decide)).trans (ag4.le (by decide)))
  refine ⟨ρ4, ag1.trans (ag.le (by decide)), by rw [← ag4.i 740 (by decide), ← ag3.i 740 (by decide), n2, hl1], ?_, c5, cfgL_ok (List.forall_mem_cons.2 ⟨c5, List.forall_mem_cons.2 ⟨kOk.agree ag (by kernel_rfl) c1, List.forall_mem_cons.2 ⟨kOk.agree ag (by kernel_rfl) c2, List.forall_mem_cons.2 ⟨kOk.agree ag4 (by kernel_rfl) c4, List.forall_mem_cons.2 ⟨kOk.agree ag (by kernel_rfl) c3, List.forall_mem_nil _⟩⟩⟩⟩⟩) (lpB_ok (LoopOk.agree (B := 742) cX_Sb (by kernel_rfl) cX_bel ((ag3.le (by decide)).trans (ag4.le (by decide))) l1))⟩
  rw [← ag.i 731 (by decide), hr1]
  rw [hlr] at hr
  exact hr.imp id And.left
/-! ### What the rounds keep -/
/-- The log, where there is one. -/
structure Lg (ρ : Rho) : Prop where
  l1 : 1 ≤ ρ.len 601
  l2 : ρ.len 601 ≤ 256
  re : ∀ j, j < ρ.len 601 → REv (cellsV ρ 601 0 ke j)
  /-- It begins with what was there at first. -/
  l3 : ρ.len 201 ≤ ρ.len 601
theorem Lg.agree {B : Nat} {ρ ρ' : Rho} (h : Agree B ρ ρ') (hB : 601 < B) (k : Lg ρ) : Lg ρ' := by
  have a1 := h.len 601 hB
  refine ⟨a1 ▸ k.l1, a1 ▸ k.l2, fun j hj => ?_, ?_⟩
  · rw [← cellsV_agree h hB]
    exact k.re j (by omega)
  · rw [← a1, ← h.len 201 (Nat.lt_trans (by decide) hB)]
    exact k.l3
theorem bC_r : lassoc 601 bC.r = some (.len 601, .var 601 ke) := by kernel_rfl
theorem bD_r : lassoc 601 bD.r = some (.len 601, .var 601 ke) := by kernel_rfl
theorem bE_r : lassoc 601 bE.r = some (.op .padd .i64 (.len 601) (.lit 1), .app (.len 601) (.var 601 ke) (.one (scsOf (aggOf eN1)))) := by kernel_rfl
theorem same_lg {β : Bind} (hb : β.ge 600 = true) (h : lassoc 601 β.r = some (.len 601, .var 601 ke)) {ρ : Rho} (k : Lg ρ) : Lg (β.ap ρ) := by
  have hl : (β.ap ρ).len 601 = ρ.len 601 := by rw [ap_len h]; simp only [IE.den, Int.toNat_natCast]
  refine ⟨hl ▸ k.l1, hl ▸ k.l2, fun j hj => ?_, ?_⟩
  · rw [Bind.rows h (by kernel_rfl)]
    exact k.re j (by omega)
  · rw [hl, ← (Bind.agree hb ρ).len 201 (by decide)]
    exact k.l3
theorem more_lg {ρ : Rho} (k : kOk ρ (18, [eN1], .sc (.b (.var 760)))) (hb : ρ.b 760 = true) (hu : Lg ρ) (h2 : ρ.len 601 < 256) : Lg (bE.ap ρ) := by
  have hl : (bE.ap ρ).len 601 = ρ.len 601 + 1 := by rw [ap_len bE_r]; simp only [IE.den, IOp.den]; omega
  refine ⟨by omega, by omega, fun j hj => ?_, ?_⟩
  · rw [Bind.rows bE_r (by kernel_rfl), row_app]
    split
    · rename_i h
      exact hu.re j (by simp only [IE.den] at h; omega)
    · exact re_of (by kernel_rfl) k hb
  · rw [hl, ← (Bind.agree bE_g ρ).len 201 (by decide)]
    have := hu.l3
    omega
structure Lim (ρ : Rho) : Prop where
  l0 : ρ.len 1 ≤ 400
  i0 : 0 ≤ ρ.i 600
  i1 : ρ.i 600 ≤ ρ.len 1
theorem Lim.agree {ρ ρ' : Rho} (h : Agree 600 ρ ρ') (k : Lim ρ) (h0 : 0 ≤ ρ'.i 600) (h1 : ρ'.i 600 ≤ ρ.len 1) : Lim ρ' :=
  ⟨by rw [← h.len 1 (by decide)]; exact k.l0, h0, by rw [← h.len 1 (by decide)]; exact h1⟩
/-- At the loop's head: no log, or a log of right writes. -/
def Rd (s : Nat) (ρ : Rho) : Prop := Lim ρ ∧ ((s = 1 ∧ ρ.b 1301 = true ∧ Lg ρ))
def Ss (s : Nat) : XS := match s with
  | 0 => mS0
  | _ => mS1
def Me (_ : Nat) (ρ : Rho) : Nat := ρ.len 1 - (ρ.i 600).toNat
theorem kF_ok {ρ : Rho} (h : Lim ρ) (hi : ρ.i 600 < ρ.len 1) : Facts.ok ρ (kF ++ limC) := by
  obtain ⟨l0, i0, _⟩ := h
  refine all_ok (Facts.ok_cons ?_ (Facts.ok_cons ?_ (Facts.ok_nil _))) (Facts.ok_cons ?_ (Facts.ok_nil _))
  · rw [dlt_f]; exact i0
  · rw [dlt_t]; exact hi
  · rw [dlt_f]; simp only [IE.den]; omega
theorem next_lim {β : Bind} (hg : β.ge 600 = true) (hi : lassoc 600 β.i = some (.op .add .i64 (.var 600) (.lit 1))) {ρ : Rho} (hL : Lim ρ) (hlt : ρ.i 600 < ρ.len 1) :
    Lim (β.ap ρ) ∧ (∀ a b, Me a (β.ap ρ) < Me b ρ) ∧ Agree 600 ρ (β.ap ρ) := by
  have ag : Agree 600 ρ (β.ap ρ) := Bind.agree hg ρ
  have l0 : (β.ap ρ).len 1 = ρ.len 1 := (ag.len 1 (by decide)).symm
  have h0 := hL.i0
  have h3 := hL.l0
  have hn : (β.ap ρ).i 600 = ρ.i 600 + 1 := by
    rw [ap_i hi]
    simp only [IE.den, IOp.den]
    exact wrap_id _ (by omega) (by omega)
  refine ⟨hL.agree ag (by omega) (by omega), fun a b => ?_, ag⟩
  simp only [Me, l0, hn]
  omega
theorem mS1_bel : mS1.bel 700 = true := by kernel_rfl
/-- A round behind the first write. -/
theorem step1 {ρ : Rho} (hL : Lim ρ) (hi : ρ.i 600 < ρ.len 1) (hg : Lg ρ) :
    ∃ s' ρ', StepF Try.prog Try.f8.ntmps mC 0 mS1 (Ss s') ρ ρ' ∧ Rd s' ρ' ∧ Me s' ρ' < Me 1 ρ ∧ Agree 600 ρ ρ' := by
  obtain ⟨ρ1, ag, n340, hf, kt, cok⟩ := round_ks ρ (by have := hg.l2; omega)
  have hd : mS1.den ρ = mS1.den ρ1 := XS.bel_den ag mS1 mS1_bel
  have a0 := ag.len 1 (by decide)
  have a2 := ag.len 601 (by decide)
  have a3 := ag.i 600 (by decide)
  have aM : Me 1 ρ = Me 1 ρ1 := by simp only [Me, a0, a3]
  have hL1 : Lim ρ1 := hL.agree (ag.le (by decide)) (by rw [← a3]; exact hL.i0) (by rw [← a3]; exact hL.i1)
  have hg1 : Lg ρ1 := hg.agree ag (by decide)
  have hl := hg1.l1
  have hl2 := hg1.l2
  rw [a2] at n340 hf
  rw [a0, a3] at hi
  have hcall : CallOk Try.prog ρ1 (callS ⟨cB, l_able, HFL⟩ 12) := callS_ok (c := ⟨cB, l_able, HFL⟩) cok l_able_ok 12
  have hk := kF_ok hL1 hi
  have ag2 : Agree 600 ρ ρ1 := ag.le (by decide)
  rw [aM]
  rcases hf with ⟨h1, h2⟩ | h1
  · have hk2 : Facts.ok ρ1 (fdF ++ (kF ++ limC)) := all_ok (Facts.ok_cons (by rw [dlt_f]; exact h1) (Facts.ok_cons (by rw [dlt_t]; exact h2) (Facts.ok_cons (by rw [dlt_f]; simp only [IE.den]; omega) (Facts.ok_cons (by rw [dlt_t]; simp only [IE.den]; omega) (Facts.ok_cons (by rw [dlt_f]; simp only [IE.den]; omega) (Facts.ok_nil _)))))) hk
    have hs : (mRun cB fdF mS1).sel ρ1 = some (.normal, sC) := by
      rw [rF_run]; rfl
    obtain ⟨g1, g3, g4⟩ := next_lim bC_g bC_i hL1 hi
    exact ⟨1, bC.ap ρ1, StepF.from hd (stepF_of mixed tis_ok hcall (LpsOk.nil _ _ _ _) m_fits hk2 rfl hs sC_ok), ⟨g1, ⟨rfl, by rw [ap_b bC_b]; rfl, same_lg bC_g bC_r hg1⟩⟩, g3 _ _, ag2.trans g4⟩
  · have hk2 : Facts.ok ρ1 (nfF ++ (kF ++ limC)) := all_ok (Facts.ok_cons (by rw [deq_t]; exact h1) (Facts.ok_cons (by rw [dlt_t]; simp only [IE.den]; omega) (Facts.ok_cons (by rw [dlt_f]; simp only [IE.den]; omega) (Facts.ok_nil _)))) hk
    have hn : rNc0.den ρ1 = true := by
      show (BE.not (.lt (.var 740) (.len 601))).den ρ1 = true
      rw [dnot_t, dlt_f]
      simp only [IE.den]
      omega
    by_cases hc : rNc1.den ρ1 = true
    · have hs : (mRun cB nfF mS1).sel ρ1 = some (.normal, sD) := by
        rw [rN_run]; unfold rN; rw [T.sel, if_pos hn, T.sel, if_pos hc]; rfl
      obtain ⟨g1, g3, g4⟩ := next_lim bD_g bD_i hL1 hi
      exact ⟨1, bD.ap ρ1, StepF.from hd (stepF_of mixed tis_ok hcall (LpsOk.nil _ _ _ _) m_fits hk2 rfl hs sD_ok), ⟨g1, ⟨rfl, by rw [ap_b bD_b]; rfl, same_lg bD_g bD_r hg1⟩⟩, g3 _ _, ag2.trans g4⟩
    · have hs : (mRun cB nfF mS1).sel ρ1 = some (.normal, sE) := by
        rw [rN_run]; unfold rN; rw [T.sel, if_pos hn, T.sel, if_neg hc]; rfl
      have hc2 : (BE.or (.or _ (.or (.not (.lt (.len 601) (.lit 256))) _)) (.not (.var 760))).den ρ1 = false := Bool.eq_false_iff.2 hc
      have hlt := ((dor_f ρ1 _ _).mp ((dor_f ρ1 _ _).mp ((dor_f ρ1 _ _).mp hc2).1).2).1
      have hb := ((dor_f ρ1 _ _).mp hc2).2
      rw [dnot_f] at hb
      rw [dnot_f, dlt_t] at hlt
      simp only [IE.den] at hlt
      obtain ⟨g1, g3, g4⟩ := next_lim bE_g bE_i hL1 hi
      exact ⟨1, bE.ap ρ1, StepF.from hd (stepF_of mixed tis_ok hcall (LpsOk.nil _ _ _ _) m_fits hk2 rfl hs sE_ok), ⟨g1, ⟨rfl, by rw [ap_b bE_b]; rfl, more_lg kt hb hg1 (by omega)⟩⟩, g3 _ _, ag2.trans g4⟩
/-- The loop's end. -/
theorem end_of {ρ : Rho} {Φ : Facts} {S s o : XS} (hk : Facts.ok ρ Φ) (hs : xRun Φ S = .ret ((.exit 2), s)) (ho : cM.out.sel ρ = some ((.exit 2), o)) (h : okS 0 9000 noB [] o s = true) : EndL Try.prog Try.f8.ntmps mC 0 S cM.out ρ := by
  have hsel : (xRun Φ S).sel ρ = some ((.exit 2), s) := by rw [hs]; rfl
  exact endF_of (e := (.exit 2)) mixed tis_ok (callC HFL ρ) (LpsOk.nil _ _ _ _) m_fits hk rfl (fun h => nomatch h) hsel ⟨o, ho, fun E hb => okS_imp hb h ρ⟩
theorem cM_ok (ρ : Rho) (h0 : ρ.len 1 ≤ 400) (l1 : 1 ≤ ρ.len 201) (l2 : ρ.len 201 ≤ 256) (re : ∀ j, j < ρ.len 201 → REv (cellsV ρ 201 0 ke j)) : ∃ i ρf, Agree 600 ρ ρf ∧ Rd i ρf ∧ LoopOk Try.prog ρf Try.f8.ntmps mC cM := by
  have hr : lassoc 601 bI.r = some (.len 201, .var 201 ke) := by kernel_rfl
  have hl : (bI.ap ρ).len 601 = ρ.len 201 := by rw [ap_len hr]; simp only [IE.den, Int.toNat_natCast]
  have ho : (bI.ap ρ).len 201 = ρ.len 201 := ((Bind.agree (n := 600) rfl ρ).len 201 (by decide)).symm
  refine loopOk_fam (L := cM) rfl mSi_b Ss Rd Me ?_ ⟨1, bI.ap ρ, Bind.agree rfl ρ, ⟨⟨h0, Int.le_refl 0, ?_⟩, rfl, rfl, ⟨by omega, by omega, fun j hj => ?_, by omega⟩⟩, fun E _ hE => okS_imp hE mSi_ok ρ⟩
  · have xk : ∀ {ρ : Rho}, ¬ ρ.i 600 < ρ.len 1 → Facts.ok ρ x0F := fun {ρ} hi => Facts.ok_cons (by rw [dlt_f]; simp only [IE.den]; omega) (Facts.ok_nil _)
    rintro i ρ ⟨hL, rfl, h9, hg⟩
    by_cases hi : ρ.i 600 < ρ.len 1
    · exact .inr (step1 hL hi hg)
    · exact .inl ⟨ρ, Agree.refl _ _, ⟨hL, rfl, h9, hg⟩, rfl, end_of (xk hi) x1_run rfl x1_ok⟩
  · show (0 : Int) ≤ ρ.len 1
    omega
  · rw [Bind.rows hr (by kernel_rfl)]
    exact re j (by omega)
end Go.Proofs.Ytonefailiekemaa.Lc
