/- ChainFresh: whatever the acts are, the law answers true. -/
import Derived.Test.YtonefailiekemaaFM1
import Derived.Test.YtonefailiekemaaFM4
import Derived.Test.YtonefailiekemaaFE3
namespace Go.Proofs.Ytonefailiekemaa
open Go Go.Proofs.Aw Go.Proofs.Xw
set_option maxRecDepth 100000
def frSh : List Sh := [.flat [.i .i64] false, .sl ka]
def puR1 : X := .rl 50 (.len 1) (.var 1 ka) false
theorem fr_pats : pats 0 0 frSh = [iV 0, puR1] := by kernel_rfl
def bFr : Bind := ⟨[(0, .var 0)], [], [], [(0, .len 1, .var 1 ka)]⟩
/-! ### Two rows of like writes -/
def bEn : Bind := ⟨[(0, .len 201)], [], [], [(0, .len 201, .var 201 ke), (1, .len 201, .var 201 ke)]⟩
theorem en_ok (ρ : Rho) (hl : ρ.len 201 ≤ 256) : Kc 30 (X.denL ρ [logX, logX]) (.sc (.bool true)) := by
  have hlr : (bEn.ap ρ).len 0 = ρ.len 201 := by show (IE.den ρ (.len 201)).toNat = _; simp only [IE.den, Int.toNat_natCast]
  have g := entries_cy (bEn.ap ρ) (by omega) (by rw [hlr]; rfl) (fun j _ => rfl)
  rw [← args_eq (e := [logX, logX]) (by kernel_rfl) ρ (by kernel_rfl)] at g
  exact g
/-! ### The loop over the copy -/
theorem cA_tree : ∃ s1 s2, cA_t = .br (.lt (.var 430) (.len 201)) (.ret (.normal, s1)) (.ret (.exit 2, s2)) := ⟨_, _, rfl⟩
theorem cA_ok (ρ : Rho) (hl : 1 ≤ ρ.len 201 ∧ ρ.len 201 ≤ 256) : ∃ ρ', Agree 430 ρ ρ' ∧ ρ'.i 430 = ρ.len 201 ∧ LoopOk Try.prog ρ' Try.f7.ntmps cA_c cA := by
  obtain ⟨s1, s2, ht⟩ := cA_tree
  have cnt := it_count (e := .lit 0) (I := 430) (β := cA_b) rfl (ρ := cA_i.ap ρ) (by rfl) (ρ.len 201) (by omega)
  refine ⟨cA_b.it (cA_i.ap ρ) (ρ.len 201), (Bind.agree cA_ig ρ).trans (Bind.it_agree cA_bg _ _), cnt, ?_⟩
  exact loopOk_cnt mixed tis_ok cA_run cA_fits cA_back rfl 432 cA_bel cA_ib cA_bg cA_same (I := 430) (l := 201) ht (fun h => nomatch h) rfl rfl rfl (Φ0 := lF) rfl (by kernel_rfl) (lF_ok ⟨hl.1, hl.2⟩) cA_ig (by omega) (callC HFL) (fun _ => LpsOk.nil _ _ _ _)
/-! ### The loop of looks over the places -/
abbrev zFN_0 : IE := .op .sub .i64 (.var 440) (.lit 1)
def nK : BE := (.or (.or (.lt (.var 440) (.lit 1)) (.lt (.len 201) (.var 440))) (.and (.not (.lt zFN_0 (.lit 0))) (.lt zFN_0 (.len 201))))
def gK : BE := .lt (.op .add .i64 (.len 201) (.lit 1)) (.var 440)
theorem cK_tree : ∃ s1 s2, cK_t = .br (.not gK) (.need (.and nK nK) (.ret (.normal, s1))) (.ret (.exit 0, s2)) := ⟨_, _, rfl⟩
theorem nK_ok {ρ : Rho} (h : ρ.len 201 ≤ 256) (h1 : -1 ≤ ρ.i 440) (h2 : ρ.i 440 ≤ 1000) : nK.den ρ = true := by
  unfold nK
  rw [dor_t, dor_t, dand_t, dnot_t, dlt_t, dlt_t, dlt_f, dlt_t]
  simp only [IE.den, IOp.den]
  rw [wrap_id _ (by omega) (by omega)]
  omega
theorem gK_iff {ρ : Rho} (h : ρ.len 201 ≤ 256) : (gK.den ρ = true) = ((ρ.len 201 : Int) + 1 < ρ.i 440) := by
  unfold gK
  rw [dlt_t]
  simp only [IE.den, IOp.den]
  rw [wrap_id _ (by omega) (by omega)]
theorem ck_count (ρ : Rho) : ∀ j : Nat, j < 1000 → (cK_b.it (cK_i.ap ρ) j).i 440 = j - 1
  | 0, _ => rfl
  | j + 1, hj => by
    have ih := ck_count ρ j (by omega)
    show IE.den (cK_b.it (cK_i.ap ρ) j) (.op .add .i64 (.var 440) (.lit 1)) = _
    simp only [IE.den, IOp.den, ih]
    rw [wrap_id _ (by omega) (by omega)]
    omega
theorem cK_ok (ρ : Rho) (hl : 1 ≤ ρ.len 201 ∧ ρ.len 201 ≤ 256) : ∃ ρ', Agree 440 ρ ρ' ∧ ρ'.i 440 = ρ.len 201 + 2 ∧ LoopOk Try.prog ρ' Try.f35.ntmps cK_c cK := by
  obtain ⟨s1, s2, ht⟩ := cK_tree
  have ag := fun j => (Bind.agree cK_ig ρ).trans (Bind.it_agree cK_bg (cK_i.ap ρ) j)
  refine ⟨cK_b.it (cK_i.ap ρ) (ρ.len 201 + 3), ag _, by rw [ck_count ρ _ (by omega)]; omega, ?_⟩
  refine loopOk_it mixed tis_ok cK_run cK_fits cK_back rfl 441 cK_bel cK_ib cK_bg cK_same (ρ.len 201 + 3) fun j hj => ⟨callC HFL _, LpsOk.nil _ _ _ _, ?_, ?_⟩
  · have hc := ck_count ρ j (by omega)
    have hn : (cK_b.it (cK_i.ap ρ) j).len 201 = ρ.len 201 := ((ag j).len 201 (by decide)).symm
    refine Facts.ok_cons ?_ (lF_ok (ρ := cK_b.it (cK_i.ap ρ) j) ⟨by rw [hn]; exact hl.1, by rw [hn]; exact hl.2⟩)
    rw [dlt_f]
    simp only [IE.den]
    show -1 ≤ (cK_b.it (cK_i.ap ρ) j).i 440
    omega
  · have hc := ck_count ρ j (by omega)
    have hn : (cK_b.it (cK_i.ap ρ) j).len 201 = ρ.len 201 := ((ag j).len 201 (by decide)).symm
    show if j < _ then ∃ s, cK_t.sel (cK_b.it (cK_i.ap ρ) j) = some (.normal, s) else ∃ e s, e ≠ XE.normal ∧ cK_t.sel (cK_b.it (cK_i.ap ρ) j) = some (e, s)
    generalize cK_b.it (cK_i.ap ρ) j = ρ1 at hc hn
    have g := gK_iff (ρ := ρ1) (by omega)
    by_cases hjn : j < ρ.len 201 + 3
    · rw [if_pos hjn]
      have h0 : gK.den ρ1 = false := by
        rw [Bool.eq_false_iff, ne_eq, g]; omega
      have h1 : nK.den ρ1 = true := nK_ok (by omega) (by omega) (by omega)
      exact ⟨s1, by rw [ht, T.sel, if_pos (by rw [dnot_t]; exact h0), T.sel, if_pos (by rw [dand_t]; exact ⟨h1, h1⟩)]; rfl⟩
    · rw [if_neg hjn]
      have h0 : gK.den ρ1 = true := by rw [g]; omega
      exact ⟨.exit 0, s2, ⟨(fun h => nomatch h), by rw [ht, T.sel, if_neg (by rw [dnot_t, h0]; decide)]; rfl⟩⟩
/-! ### looks -/
theorem lk_use {ρ : Rho} {Φ : Facts} {r : T X} (hr : askF ⟨cfgL (ksEn ++ ksRos) lpK, l_able, (16 :: HFL)⟩ 35 lkA Φ = r) (ht : r = .need gK (.ret (.sc (.b (.lit true))))) (hg : gK.den ρ = true) (hk : Facts.ok ρ Φ) (c : CfgOk Try.prog ρ (cfgL (ksEn ++ ksRos) lpK)) : Kc 35 (X.denL ρ lkA) (.sc (.bool true)) :=
  askF_ok (c := ⟨cfgL (ksEn ++ ksRos) lpK, l_able, (16 :: HFL)⟩) c l_able_ok hk (r := .sc (.b (.lit true))) (by rw [hr, ht, T.sel, if_pos hg]; rfl)
theorem hlF_ok {ρ : Rho} {h l : Bool} (h1 : (BE.eq (.var 301) (.var 206)).den ρ = h) (h2 : (BE.eq (.var 302) (.var 206)).den ρ = l) : Facts.ok ρ (hlF h l) := Facts.ok_cons h1 (one_ok h2)
theorem lk_ok {ρ : Rho} (he : 1 ≤ ρ.i 210) (hl : 1 ≤ ρ.len 201 ∧ ρ.len 201 ≤ 256) (h9 : ρ.i 229 = ρ.i 226) (hh : 0 ≤ ρ.i 301) (hs : 0 ≤ ρ.i 302) (hK : ρ.i 440 = ρ.len 201 + 2) (c : CfgOk Try.prog ρ (cfgL (ksEn ++ ksRos) lpK)) : Kc 35 (X.denL ρ lkA) (.sc (.bool true)) := by
  have hg : gK.den ρ = true := by rw [gK_iff hl.2]; omega
  have lk : Facts.ok ρ lkF := all_ok (all_ok (epF_ok he) (lF_ok hl)) (Facts.ok_cons (by rw [deq_t]; exact h9) (Facts.ok_cons (by rw [dlt_f]; exact hh) (one_ok (by rw [dlt_f]; exact hs))))
  have nd : (BE.eq (.var 301) (.var 206)).den ρ = true ∨ (BE.eq (.var 302) (.var 206)).den ρ = true → Facts.ok ρ ndF := fun h => one_ok (by
    rw [dlt_f]
    simp only [IE.den]
    rw [deq_t, deq_t] at h
    simp only [IE.den] at h
    omega)
  have kA : Facts.ok ρ nA → Kc 35 (X.denL ρ lkA) (.sc (.bool true)) := fun hn => by
    cases h1 : (BE.eq (.var 301) (.var 206)).den ρ <;> cases h2 : (BE.eq (.var 302) (.var 206)).den ρ
    · exact lk_use lkAff_run rfl hg (all_ok (all_ok lk hn) (hlF_ok h1 h2)) c
    · exact lk_use lkAft_run rfl hg (all_ok (all_ok (all_ok lk hn) (hlF_ok h1 h2)) (nd (.inr h2))) c
    · exact lk_use lkAtf_run rfl hg (all_ok (all_ok (all_ok lk hn) (hlF_ok h1 h2)) (nd (.inl h1))) c
    · exact lk_use lkAtt_run rfl hg (all_ok (all_ok (all_ok lk hn) (hlF_ok h1 h2)) (nd (.inl h1))) c
  have kB : Facts.ok ρ nB → Kc 35 (X.denL ρ lkA) (.sc (.bool true)) := fun hn => by
    cases h1 : (BE.eq (.var 301) (.var 206)).den ρ <;> cases h2 : (BE.eq (.var 302) (.var 206)).den ρ
    · exact lk_use lkBff_run rfl hg (all_ok (all_ok lk hn) (hlF_ok h1 h2)) c
    · exact lk_use lkBft_run rfl hg (all_ok (all_ok (all_ok lk hn) (hlF_ok h1 h2)) (nd (.inr h2))) c
    · exact lk_use lkBtf_run rfl hg (all_ok (all_ok (all_ok lk hn) (hlF_ok h1 h2)) (nd (.inl h1))) c
    · exact lk_use lkBtt_run rfl hg (all_ok (all_ok (all_ok lk hn) (hlF_ok h1 h2)) (nd (.inl h1))) c
  have kC : Facts.ok ρ nC → Kc 35 (X.denL ρ lkA) (.sc (.bool true)) := fun hn => by
    cases h1 : (BE.eq (.var 301) (.var 206)).den ρ <;> cases h2 : (BE.eq (.var 302) (.var 206)).den ρ
    · exact lk_use lkCff_run rfl hg (all_ok (all_ok lk hn) (hlF_ok h1 h2)) c
    · exact lk_use lkCft_run rfl hg (all_ok (all_ok (all_ok lk hn) (hlF_ok h1 h2)) (nd (.inr h2))) c
    · exact lk_use lkCtf_run rfl hg (all_ok (all_ok (all_ok lk hn) (hlF_ok h1 h2)) (nd (.inl h1))) c
    · exact lk_use lkCtt_run rfl hg (all_ok (all_ok (all_ok lk hn) (hlF_ok h1 h2)) (nd (.inl h1))) c
  have kD : Facts.ok ρ (nD true) → Kc 35 (X.denL ρ lkA) (.sc (.bool true)) := fun hn => by
    cases h1 : (BE.eq (.var 301) (.var 206)).den ρ <;> cases h2 : (BE.eq (.var 302) (.var 206)).den ρ
    · exact lk_use lkDff_run rfl hg (all_ok (all_ok lk hn) (hlF_ok h1 h2)) c
    · exact lk_use lkDft_run rfl hg (all_ok (all_ok (all_ok lk hn) (hlF_ok h1 h2)) (nd (.inr h2))) c
    · exact lk_use lkDtf_run rfl hg (all_ok (all_ok (all_ok lk hn) (hlF_ok h1 h2)) (nd (.inl h1))) c
    · exact lk_use lkDtt_run rfl hg (all_ok (all_ok (all_ok lk hn) (hlF_ok h1 h2)) (nd (.inl h1))) c
  have kE : Facts.ok ρ (nD false) → Kc 35 (X.denL ρ lkA) (.sc (.bool true)) := fun hn => by
    cases h1 : (BE.eq (.var 301) (.var 206)).den ρ <;> cases h2 : (BE.eq (.var 302) (.var 206)).den ρ
    · exact lk_use lkEff_run rfl hg (all_ok (all_ok lk hn) (hlF_ok h1 h2)) c
    · exact lk_use lkEft_run rfl hg (all_ok (all_ok (all_ok lk hn) (hlF_ok h1 h2)) (nd (.inr h2))) c
    · exact lk_use lkEtf_run rfl hg (all_ok (all_ok (all_ok lk hn) (hlF_ok h1 h2)) (nd (.inl h1))) c
    · exact lk_use lkEtt_run rfl hg (all_ok (all_ok (all_ok lk hn) (hlF_ok h1 h2)) (nd (.inl h1))) c
  by_cases c1 : ρ.i 304 < 0
  · exact kA (one_ok (by rw [dlt_t]; exact c1))
  have f1 : (BE.lt (.var 304) (.lit 0)).den ρ = false := by rw [dlt_f]; simp only [IE.den]; omega
  by_cases c2 : ρ.i 225 = 0
  · exact kB (Facts.ok_cons f1 (one_ok (by rw [deq_t]; exact c2)))
  have f2 : (BE.eq (.var 225) (.lit 0)).den ρ = false := by rw [deq_f]; exact c2
  by_cases c3 : ρ.i 227 < ρ.i 225
  · exact kC (Facts.ok_cons f1 (Facts.ok_cons f2 (one_ok (by rw [dlt_t]; exact c3))))
  have f3 : (BE.lt (.var 227) (.var 225)).den ρ = false := by rw [dlt_f]; simp only [IE.den]; omega
  by_cases c4 : ρ.i 226 < ρ.i 225
  · exact kD (Facts.ok_cons f1 (Facts.ok_cons f2 (Facts.ok_cons f3 (Facts.ok_cons (by rw [dlt_t]; exact c4) (one_ok (by rw [dlt_t]; simp only [IE.den]; omega))))))
  · exact kE (Facts.ok_cons f1 (Facts.ok_cons f2 (Facts.ok_cons f3 (Facts.ok_cons (by rw [dlt_f]; simp only [IE.den]; omega) (one_ok (by rw [dlt_f]; simp only [IE.den]; omega))))))
/-! ### The law -/
abbrev frX : List X := [iV 0, puR]
theorem frN_use {ρ : Rho} {Φ : Facts} (hr : askF ⟨cfgL (ksM ++ ksRos) lpMN, l_able, HFL⟩ 7 frX Φ = .ret (.sc (.b (.lit true)))) (hk : Facts.ok ρ Φ) (c : CfgOk Try.prog ρ (cfgL (ksM ++ ksRos) lpMN)) : CY Try.prog 0 7 (X.denL ρ frX) [] (.sc (.bool true)) [] :=
  (askF_ok (c := ⟨cfgL (ksM ++ ksRos) lpMN, l_able, HFL⟩) c l_able_ok hk (r := .sc (.b (.lit true))) (by rw [hr]; rfl)).2 0 []
theorem fr_at (ρ : Rho) (hb : ρ.b 90 = false) (h0 : ρ.len 0 ≤ 400) (k : kOk ρ (10, [puR], .sc (.b (.var 90)))) : CY Try.prog 0 7 (X.denL ρ frX) [] (.sc (.bool true)) [] := by
  obtain ⟨i, ρf, ag, ⟨hLim, hR⟩, hL⟩ := cM_ok ρ hb h0
  have k' := kOk.agree ag (by kernel_rfl) k
  rw [X.belL_den ag frX (by kernel_rfl)]
  have b0 : ρf.b 90 = false := hLim.b
  have l0 : ρf.len 0 ≤ 400 := hLim.l0
  have limO : ∀ {ρ' : Rho}, Agree 200 ρf ρ' → Facts.ok ρ' limZ := fun a => Facts.ok_cons (show (BE.var 90).den _ = false by rw [← b0]; exact (a.b 90 (by decide)).symm) (one_ok (by rw [dlt_f]; simp only [IE.den, ← a.len 0 (by decide)]; omega))
  obtain ⟨_, h9⟩ | ⟨_, h9, h9', hI⟩ | ⟨_, h9, h9', hl, hI⟩ := hR
  · have hZ : LoopOk Try.prog ρf Try.f7.ntmps cMZ_c cMZ := by
      intro E hE hk
      have ho : cM.out.sel ρf = cMZ.out.sel ρf := outZ h9
      have := hL E hE hk
      rw [ho] at this
      exact this
    have nz : (BE.not (.and (.not (.lt (.var 206) (.lit 0))) (.eq (.var 206) (.lit (-1))))).den ρf = true := by
      rw [dnot_t, dand_f, dnot_f, dlt_t, deq_f]; simp only [IE.den]; omega
    have g := askF_ok (c := ⟨cfgL ksM lpMZ, l_able, HFL⟩) (cfgL_ok (List.forall_mem_cons.2 ⟨k', List.forall_mem_nil _⟩) (lpMZ_ok hZ)) l_able_ok
      (limO (Agree.refl _ _)) (f := 7) (args := frX) (r := .sc (.b (.lit true))) ((congrArg (T.sel _) frZ_run).trans (by unfold frZ; rw [T.sel, if_pos nz]; rfl))
    exact g.2 0 []
  · have hN : LoopOk Try.prog ρf Try.f7.ntmps cMN_c cMN := by
      intro E hE hk
      have ho : cM.out.sel ρf = cMN.out.sel ρf := outN h9 h9'
      have := hL E hE hk
      rw [ho] at this
      exact this
    obtain ⟨ρ2, ag2, hk⟩ := ros_ks ρf hI.cf
    have hI2 := hI.agree ag2
    have hN2 : LoopOk Try.prog ρ2 Try.f7.ntmps cMN_c cMN := LoopOk.agree (B := 300) (show cMN.S.bel 300 = true by kernel_rfl) rfl (show cMN.out.belX 300 = true by kernel_rfl) ag2 hN
    have k2 := kOk.agree (B := 200) (ag2.le (by decide)) (by kernel_rfl) k'
    rw [X.belL_den ag2 frX (by kernel_rfl)]
    have c := cfgL_ok (ks_app (ks_cons k2 ks_nil) hk.ks) (lpMN_ok hN2)
    have b0 := hI2.b0
    have b1 := hI2.b1
    have d1 := hI2.d1
    have lim : Facts.ok ρ2 limN := all_ok (all_ok (limO (ag2.le (by decide))) (epF_ok (by rw [← ag2.i 210 (by decide)]; exact hk.e))) (Facts.ok_cons (by rw [deq_t]; exact hI2.eq) (Facts.ok_cons (by rw [deq_t]; simp only [IE.den]; omega) (Facts.ok_cons (by rw [dlt_f]; exact hk.hd) (one_ok (by rw [dlt_f]; exact hk.ls.1)))))
    have hh := hk.hd
    have hs := hk.ls.1
    have nd : (BE.eq (.var 301) (.var 206)).den ρ2 = true ∨ (BE.eq (.var 302) (.var 206)).den ρ2 = true → Facts.ok ρ2 ndF := fun h => one_ok (by
      rw [dlt_f]
      simp only [IE.den]
      rw [deq_t, deq_t] at h
      simp only [IE.den] at h
      omega)
    cases h1 : (BE.eq (.var 301) (.var 206)).den ρ2 <;> cases h2 : (BE.eq (.var 302) (.var 206)).den ρ2
    · exact frN_use frNff_run (all_ok lim (hlF_ok h1 h2)) c
    · exact frN_use frNft_run (all_ok (all_ok lim (hlF_ok h1 h2)) (nd (.inr h2))) c
    · exact frN_use frNtf_run (all_ok (all_ok lim (hlF_ok h1 h2)) (nd (.inl h1))) c
    · exact frN_use frNtt_run (all_ok (all_ok lim (hlF_ok h1 h2)) (nd (.inl h1))) c
  · have hY : LoopOk Try.prog ρf Try.f7.ntmps cML_c cML := by
      intro E hE hk
      have ho : cM.out.sel ρf = cML.out.sel ρf := outL h9 h9'
      have := hL E hE hk
      rw [ho] at this
      exact this
    obtain ⟨ρ2, ag2, hk⟩ := ros_ks ρf hI.cf
    have n2 : ρ2.len 201 = ρf.len 201 := (ag2.len 201 (by decide)).symm
    obtain ⟨ρ3, ag3, c3, lA⟩ := cA_ok ρ2 (by omega)
    have n3 : ρ3.len 201 = ρf.len 201 := by rw [← ag3.len 201 (by decide)]; exact n2
    obtain ⟨ρ4, ag4, c4, lK⟩ := cK_ok ρ3 (by omega)
    have n4 : ρ4.len 201 = ρf.len 201 := by rw [← ag4.len 201 (by decide)]; exact n3
    have ag24 : Agree 430 ρ2 ρ4 := ag3.trans (ag4.le (by decide))
    have agf4 : Agree 300 ρf ρ4 := ag2.trans (ag24.le (by decide))
    have hI4 := hI.agree agf4
    have hY4 : LoopOk Try.prog ρ4 Try.f7.ntmps cML_c cML := LoopOk.agree (B := 300) (show cML.S.bel 300 = true by kernel_rfl) rfl (show cML.out.belX 300 = true by kernel_rfl) agf4 hY
    have lA4 : LoopOk Try.prog ρ4 Try.f7.ntmps cA_c cA := LoopOk.agree (B := 440) (show cA.S.bel 440 = true by kernel_rfl) rfl (show cA.out.belX 440 = true by kernel_rfl) ag4 lA
    have k4 := kOk.agree (B := 200) (agf4.le (by decide)) (by kernel_rfl) k'
    have kR : ∀ p ∈ ksRos, kOk ρ4 p := ks_agree (B := 306) (ag24.le (by decide)) ksRos_bel hk.ks
    have kE : ∀ p ∈ ksEn, kOk ρ4 p := ks_cons (en_ok ρ4 (by omega)) ks_nil
    have he : 1 ≤ ρ4.i 210 := by rw [← agf4.i 210 (by decide)]; exact hk.e
    have h1 : 0 ≤ ρ4.i 301 := by rw [← ag24.i 301 (by decide)]; exact hk.hd
    have h2 : 0 ≤ ρ4.i 302 := by rw [← ag24.i 302 (by decide)]; exact hk.ls.1
    have i430 : ρ4.i 430 = ρf.len 201 := by rw [← ag4.i 430 (by decide), c3, n2]
    have lk := lk_ok (ρ := ρ4) he (by omega) hI4.eq h1 h2 (by rw [c4, n3, n4]) (cfgL_ok (ks_app kE kR) (lpK_ok lK))
    rw [X.belL_den agf4 frX (by kernel_rfl)]
    have ks : ∀ p ∈ ksM ++ ksEn ++ ksLk, kOk ρ4 p := ks_app (ks_app (ks_cons k4 ks_nil) kE) (ks_cons lk ks_nil)
    have nn : (BE.not (.lt (.var 430) (.len 201))).den ρ4 = true := by
      rw [dnot_t, dlt_f]; simp only [IE.den, i430, n4]; omega
    have g := askF_ok (c := ⟨cfgL (ksM ++ ksEn ++ ksLk) lpMLA, l_able, (16 :: HFL)⟩) (cfgL_ok ks (lpMLA_ok hY4 lA4)) l_able_ok
      (all_ok (all_ok (all_ok (limO (agf4.le (by decide))) (epF_ok he)) (lF_ok (by omega))) (one_ok (by rw [deq_t]; exact hI4.eq))) (f := 7) (args := frX) (r := .sc (.b (.lit true))) ((congrArg (T.sel _) frL_run).trans (by unfold frL; rw [T.sel, if_pos nn]; rfl))
    exact g.2 0 []
/-- The law, over letters of any kind. -/
theorem fr_cy' (ρ : Rho) : CY Try.prog 0 7 (X.denL ρ frX) [] (.sc (.bool true)) [] := by
  by_cases h0 : ρ.len 0 ≤ 400
  · obtain ⟨b, hk, hm⟩ := much_cy ρ (by omega)
    let β : Bind := ⟨[], [(90, .lit b)], [], []⟩
    have ag : Agree 90 ρ (β.ap ρ) := Bind.agree rfl ρ
    have k : kOk (β.ap ρ) (10, [puR], .sc (.b (.var 90))) := ⟨hk, fun n hp => by
      have := hm n hp
      rw [X.belL_den ag [puR] (by kernel_rfl)] at this
      exact this⟩
    have hb : (β.ap ρ).b 90 = b := rfl
    rw [X.belL_den ag frX (by kernel_rfl)]
    have l0 : (β.ap ρ).len 0 ≤ 400 := by rw [← ag.len 0 (by decide)]; exact h0
    generalize β.ap ρ = ρ1 at k hb l0
    cases b with
    | true =>
      have g := askF_ok (c := ⟨cfgL ksM (fun _ => []), l_able, HFL⟩) (cfgL_ok (List.forall_mem_cons.2 ⟨k, List.forall_mem_nil _⟩) (fun _ _ _ => LpsOk.nil _ _ _ _)) l_able_ok
        (Facts.ok_cons (show (BE.var 90).den ρ1 = true from hb) (Facts.ok_nil ρ1)) (f := 7) (args := frX) (r := .sc (.b (.lit true))) ((congrArg (T.sel _) frM_run).trans rfl)
      exact g.2 0 []
    | false => exact fr_at ρ1 hb l0 k
  · have g := askF_ok (c := ⟨cfg [], l_able, HFL⟩) (cfg_ok (List.forall_mem_nil _)) l_able_ok
      (Facts.ok_cons (show (BE.lt (.lit 400) (.len 0)).den ρ = true by rw [dlt_t]; simp only [IE.den]; omega) (Facts.ok_nil ρ)) (f := 7) (args := frX) (r := .sc (.b (.lit true))) ((congrArg (T.sel _) frA_run).trans rfl)
    exact g.2 0 []
theorem fr_cy (ρ : Rho) : CY Try.prog 0 7 (X.denL ρ (pats 0 0 frSh)) [] (.sc (.bool true)) [] := by
  rw [fr_pats, args_eq (β := bFr) (by kernel_rfl) ρ (p := frX) (e := [iV 0, puR1]) (by kernel_rfl)]
  exact fr_cy' _
end Go.Proofs.Ytonefailiekemaa
