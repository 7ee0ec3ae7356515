/- ChainBounds: a round's own letters: what a put and a write of elsewhere ask. -/
import Derived.Test.YtonefailiekemaaGKc
namespace Go.Proofs.Ytonefailiekemaa
open Go Go.Proofs.Aw Go.Proofs.Xw
set_option maxRecDepth 100000
/-! ### The log -/
def bL : Bind := ⟨[(1, .var 205)], [], [], [(0, .len 201, .var 201 ke)]⟩
def bF : Bind := ⟨[(0, .cl 0 2 (.var 200)), (1, .cl 0 3 (.var 200))], [], [], [(0, .len 201, .var 201 ke)]⟩
def bN (l : Nat) : Bind := ⟨[(0, .var 204), (1, .var 205)], [], [], [(0, .len l, .var l [.i .i64])]⟩
def hitL (ρ : Rho) (j : Nat) : Bool := ρ.ci 201 18 j == (IE.cl 0 2 (.var 200)).den ρ && ρ.ci 201 19 j == (IE.cl 0 3 (.var 200)).den ρ
theorem find2_cy (ρ : Rho) (h : ρ.len 0 < 4611686018427387904) : ∃ r : Int, ((0 ≤ r ∧ r < ρ.len 0 ∧ hit ρ r.toNat = true) ∨ (r = -1 ∧ ∀ j, j < ρ.len 0 → hit ρ j = false)) ∧ Kc 85 (X.denL ρ [esR, fnX]) (.sc (.int .i64 r)) := by
  obtain ⟨ρ1, n, ag, hn, c1, hno, hyes, l1⟩ := fX_ok ρ h
  have hl : ρ1.len 0 = ρ.len 0 := (ag.len 0 (by decide)).symm
  have n1 : (BE.or (.not (.lt (.var 100) (.len 0))) (.and (.eq (.cl 0 18 (.var 100)) (.var 0)) (.eq (.cl 0 19 (.var 100)) (.var 1)))).den ρ1 = true := by
    rw [dor_t]
    by_cases hlt : n < ρ.len 0
    · right
      have hh := hyes hlt
      simp only [BE.den, IE.den, c1, ← ag.ci 0 (by decide), ← ag.i 0 (by decide), ← ag.i 1 (by decide), Int.toNat_natCast]
      exact hh
    · left
      rw [dnot_t, dlt_f]
      simp only [IE.den, c1, hl]
      omega
  have g := fun r (hr : findR.sel ρ1 = some r) => askF_ok (c := ⟨cfgL [] lyF, l_able, []⟩) (f := 85) (args := [esR, fnX]) (cfgL_ok (List.forall_mem_nil _) (lyF_ok l1)) l_able_ok (Facts.ok_nil ρ1) ((congrArg (T.sel ρ1) findR_run).trans hr)
  have g := g _ (by unfold findR; rw [T.sel, if_pos n1]; rfl)
  rw [← X.belL_den ag [esR, fnX] (by kernel_rfl)] at g
  refine ⟨_, ?_, g⟩
  simp only [IE.den, BE.den, c1, hl]
  by_cases hlt : n < ρ.len 0
  · rw [if_pos (decide_eq_true (by omega))]
    exact .inl ⟨by omega, by omega, by rw [Int.toNat_natCast]; exact hyes hlt⟩
  · rw [if_neg (by simp; omega)]
    exact .inr ⟨rfl, fun j hj => hno j (by omega)⟩
/-- The columns, the past, where the operation is found. -/
structure Ck (ρ ρ' : Rho) : Prop where
  ks : ∀ p ∈ ksC, kOk ρ' p
  f : (0 ≤ ρ'.i 331 ∧ ρ'.i 331 < ρ.len 201 ∧ hitL ρ (ρ'.i 331).toNat = true) ∨ (ρ'.i 331 = -1 ∧ ∀ j, j < ρ.len 201 → hitL ρ j = false)
  nn : 0 ≤ ρ'.i 321 ∧ 0 ≤ ρ'.i 322 ∧ 0 ≤ ρ'.i 323
theorem ksC_bel : ksBel 332 ksC = true := by kernel_rfl
theorem log_ks (ρ : Rho) (hl : ρ.len 201 ≤ 256) : ∃ ρ', Agree 310 ρ ρ' ∧ Ck ρ ρ' := by
  have hlr : (bL.ap ρ).len 0 = ρ.len 201 := by show (IE.den ρ (.len 201)).toNat = _; simp only [IE.den, Int.toNat_natCast]
  have hlf : (bF.ap ρ).len 0 = ρ.len 201 := by show (IE.den ρ (.len 201)).toNat = _; simp only [IE.den, Int.toNat_natCast]
  obtain ⟨p, hp, k1⟩ := col2_cy (bL.ap ρ) (by omega)
  obtain ⟨q, k2⟩ := past2_cy (bL.ap ρ) (by omega)
  obtain ⟨r, hr, k3⟩ := find2_cy (bF.ap ρ) (by omega)
  let β1 : Bind := ⟨[(311, .lit (q 0)), (312, .lit (q 1)), (313, .lit (q 2)), (314, .lit (q 3)), (315, .lit (q 4)), (316, .lit (q 5)), (317, .lit (q 6)), (318, .lit (q 7)), (319, .lit (q 8)), (321, .lit (p 0)), (322, .lit (p 1)), (323, .lit (p 2)), (331, .lit r)], [], [], []⟩
  have ag : Agree 310 ρ (β1.ap ρ) := Bind.agree rfl ρ
  refine ⟨β1.ap ρ, ag, ks_cons ?_ (ks_cons ?_ (ks_cons ?_ (ks_cons ?_ (ks_cons ?_ ks_nil)))), ?_, hp 0 (by decide), hp 1 (by decide), hp 2 (by decide)⟩
  · exact kc_use (e := [iV 205, logX]) (p := [iV 1, esR]) (by kernel_rfl) (by kernel_rfl) ag (by kernel_rfl) (k1 22 (by decide))
  · exact kc_use (e := [iV 205, logX]) (p := [iV 1, esR]) (by kernel_rfl) (by kernel_rfl) ag (by kernel_rfl) (k1 108 (by decide))
  · exact kc_use (e := [logX]) (p := [esR]) (β := bL) (by kernel_rfl) (by kernel_rfl) ag (by kernel_rfl) (k2 50 (by decide))
  · exact kc_use (e := [logX]) (p := [esR]) (β := bL) (by kernel_rfl) (by kernel_rfl) ag (by kernel_rfl) (k2 97 (by decide))
  · exact kc_use (e := [logX, fn1]) (p := [esR, fnX]) (by kernel_rfl) (by kernel_rfl) ag (by kernel_rfl) k3
  · rw [hlf] at hr
    exact hr
/-! ### Parts -/
def bP (k : Nat) : Bind := ⟨[(0, .cl 0 k (.var 200)), (1, .cl 0 (k + 1) (.var 200)), (2, .cl 0 (k + 2) (.var 200)), (3, .cl 0 (k + 3) (.var 200)), (4, .cl 0 (k + 4) (.var 200)), (5, .cl 0 (k + 5) (.var 200)), (6, .cl 0 (k + 6) (.var 200)), (7, .cl 0 (k + 7) (.var 200)), (8, .cl 0 (k + 8) (.var 200)), (9, .var 205)], [], [], []⟩
def bV (a b c : IE) : Bind := ⟨[(0, a), (1, b), (2, c), (3, .var 361), (4, .var 362), (5, .var 363)], [], [], []⟩
theorem part_ks (ρ : Rho) {e c : X} {k : Nat} {x y z : IE} (he : okXL 0 (bP k) id [vX, iV 9] [e, iV 205] = true) (heg : (bP k).ge 0 = true) (heb : X.belL 360 [e, iV 205] = true)
    (hc : okXL 0 (bV x y z) id [aX, bX3] [c, ptX] = true) (hcg : (bV x y z).ge 0 = true) : ∃ ρ', Agree 360 ρ ρ' ∧ ∃ v, ∀ p ∈ ksP e v c, kOk ρ' p := by
  obtain ⟨a, b, d, k1⟩ := pt2_cy ((bP k).ap ρ)
  let β : Bind := ⟨[(361, .lit a), (362, .lit b), (363, .lit d)], [], [], []⟩
  have ag : Agree 360 ρ (β.ap ρ) := Bind.agree rfl ρ
  obtain ⟨v, k2⟩ := cv2_cy ((bV x y z).ap (β.ap ρ))
  refine ⟨β.ap ρ, ag, v, ks_cons ?_ (ks_cons ?_ (ks_cons ?_ (ks_cons ?_ ks_nil)))⟩
  · exact kc_use heg he ag heb (k1 20 (by decide))
  · exact kc_use heg he ag heb (k1 94 (by decide))
  · show Kc 19 (X.denL (β.ap ρ) [c, ptX]) _
    rw [args_eq hcg (β.ap ρ) hc]
    exact k2 19 (by decide)
  · show Kc 93 (X.denL (β.ap ρ) [c, ptX]) _
    rw [args_eq hcg (β.ap ρ) hc]
    exact k2 93 (by decide)
/-! ### The counts -/
theorem row_app (ρ : Rho) (n : IE) (a b : RL) (j : Int) : RL.row ρ (.app n a b) j = if j < n.den ρ then a.row ρ j else b.row ρ (j - n.den ρ) := rfl
/-- The counts that have been seen: the clock, then the log's. -/
def cntV (ρ : Rho) : Nat → Int
  | 0 => (IE.cl 0 1 (.var 200)).den ρ
  | j + 1 => ρ.ci 201 3 j
theorem mx_congr {C D : Nat → Int} : ∀ n : Nat, (∀ j, j < n → C j = D j) → mx C n = mx D n
  | 0, _ => rfl
  | n + 1, h => by simp only [mx, mx_congr n (fun j hj => h j (by omega)), h n (by omega)]
theorem cX_len (ρ : Rho) : ∀ j : Nat, (cX_b.it (cX_i.ap ρ) j).len 341 = j + 1
  | 0 => rfl
  | j + 1 => by
    show ((IE.op .padd .i64 (.len 341) (.lit 1)).den (cX_b.it (cX_i.ap ρ) j)).toNat = _
    simp only [IE.den, IOp.den, cX_len ρ j]
    omega
theorem cX_r : lassoc 341 cX_b.r = some ((.op .padd .i64 (.len 341) (.lit 1)), (.app (.len 341) (.var 341 [(.i .i64)]) (.one [(.i .i64 (.cl 201 3 (.var 340)))]))) := by kernel_rfl
theorem cX_cell (ρ : Rho) : ∀ j : Nat, j < 4611686018427387904 → ∀ i, i < j + 1 → (cX_b.it (cX_i.ap ρ) j).ci 341 0 i = cntV ρ i
  | 0, _, i, h => by
    obtain rfl : i = 0 := by omega
    rfl
  | j + 1, hj, i, h => by
    have ih := cX_cell ρ j (by omega)
    have cnt := it_count (e := .lit 0) (I := 340) (β := cX_b) rfl (ρ := cX_i.ap ρ) (by rfl) j (by omega)
    have ag : Agree 340 ρ (cX_b.it (cX_i.ap ρ) j) := (Bind.agree cX_ig ρ).trans (Bind.it_agree cX_bg (cX_i.ap ρ) j)
    have hl := cX_len ρ j
    simp only [Bind.it]
    generalize cX_b.it (cX_i.ap ρ) j = ρ1 at ih cnt ag hl
    rw [ap_ci cX_r, row_app]
    simp only [IE.den, hl]
    by_cases hi : i < j + 1
    · rw [if_pos (by omega), ← ih i hi]
      rfl
    · obtain rfl : i = j + 1 := by omega
      rw [if_neg (by omega)]
      show ρ1.ci 201 3 (ρ1.i 340).toNat = ρ.ci 201 3 j
      rw [cnt, ← ag.ci 201 (by decide), Int.toNat_natCast]
theorem cX_ok (ρ : Rho) (h : ρ.len 201 < 1000) : LoopOk Try.prog (cX_b.it (cX_i.ap ρ) (ρ.len 201)) Try.f15.ntmps cX_c cX := by
  refine loopOk_cntG mixed tis_ok cX_run cX_fits cX_back rfl 342 cX_bel cX_ib cX_bg cX_same (I := 340) rfl rfl (Φ0 := []) rfl (by kernel_rfl) (Facts.ok_nil _) cX_ig (callC _) (fun _ => LpsOk.nil _ _ _ _) (ρ.len 201) (by omega) (fun j hj hc ha => ?_) (fun hc ha => ?_)
  · have hl : (cX_b.it (cX.init.ap ρ) j).len 201 = ρ.len 201 := (ha.len 201 (by decide)).symm
    have hl2 := cX_len ρ j
    have h2 : (BE.not (.lt (.lit 17592186044416) (.op .padd .i64 (.len 341) (.lit 1)))).den (cX_b.it (cX.init.ap ρ) j) = true := by
      rw [dnot_t, dlt_f]
      simp only [IE.den, IOp.den, show (cX_b.it (cX.init.ap ρ) j).len 341 = j + 1 from hl2]
      omega
    exact ⟨_, by unfold cX_t; rw [T.sel, if_pos (by simp only [BE.den, IE.den, hc, hl]; exact decide_eq_true (by omega)), T.sel, if_pos h2]; rfl⟩
  · have hl : (cX_b.it (cX.init.ap ρ) (ρ.len 201)).len 201 = ρ.len 201 := (ha.len 201 (by decide)).symm
    exact ⟨.exit 0, _, (fun h => nomatch h), by unfold cX_t; rw [T.sel, if_neg (by simp [BE.den, IE.den, hc, hl])]; rfl⟩
theorem dS_len (ρ : Rho) : ∀ j : Nat, (dS_b.it (dS_i.ap ρ) j).len 401 = j + 1
  | 0 => rfl
  | j + 1 => by
    show ((IE.op .padd .i64 (.len 401) (.lit 1)).den (dS_b.it (dS_i.ap ρ) j)).toNat = _
    simp only [IE.den, IOp.den, dS_len ρ j]
    omega
theorem dS_r : lassoc 401 dS_b.r = some ((.op .padd .i64 (.len 401) (.lit 1)), (.app (.len 401) (.var 401 [(.i .i64)]) (.one [(.i .i64 (.cl 201 3 (.var 400)))]))) := by kernel_rfl
theorem dS_cell (ρ : Rho) : ∀ j : Nat, j < 4611686018427387904 → ∀ i, i < j + 1 → (dS_b.it (dS_i.ap ρ) j).ci 401 0 i = cntV ρ i
  | 0, _, i, h => by
    obtain rfl : i = 0 := by omega
    rfl
  | j + 1, hj, i, h => by
    have ih := dS_cell ρ j (by omega)
    have cnt := it_count (e := .lit 0) (I := 400) (β := dS_b) rfl (ρ := dS_i.ap ρ) (by rfl) j (by omega)
    have ag : Agree 400 ρ (dS_b.it (dS_i.ap ρ) j) := (Bind.agree dS_ig ρ).trans (Bind.it_agree dS_bg (dS_i.ap ρ) j)
    have hl := dS_len ρ j
    simp only [Bind.it]
    generalize dS_b.it (dS_i.ap ρ) j = ρ1 at ih cnt ag hl
    rw [ap_ci dS_r, row_app]
    simp only [IE.den, hl]
    by_cases hi : i < j + 1
    · rw [if_pos (by omega), ← ih i hi]
      rfl
    · obtain rfl : i = j + 1 := by omega
      rw [if_neg (by omega)]
      show ρ1.ci 201 3 (ρ1.i 400).toNat = ρ.ci 201 3 j
      rw [cnt, ← ag.ci 201 (by decide), Int.toNat_natCast]
theorem dS_ok (ρ : Rho) (h : ρ.len 201 < 1000) : LoopOk Try.prog (dS_b.it (dS_i.ap ρ) (ρ.len 201)) Try.f59.ntmps dS_c dS := by
  refine loopOk_cntG mixed tis_ok dS_run dS_fits dS_back rfl 402 dS_bel dS_ib dS_bg dS_same (I := 400) rfl rfl (Φ0 := []) rfl (by kernel_rfl) (Facts.ok_nil _) dS_ig (callC _) (fun _ => LpsOk.nil _ _ _ _) (ρ.len 201) (by omega) (fun j hj hc ha => ?_) (fun hc ha => ?_)
  · have hl : (dS_b.it (dS.init.ap ρ) j).len 201 = ρ.len 201 := (ha.len 201 (by decide)).symm
    have hl2 := dS_len ρ j
    have h2 : (BE.not (.lt (.lit 17592186044416) (.op .padd .i64 (.len 401) (.lit 1)))).den (dS_b.it (dS.init.ap ρ) j) = true := by
      rw [dnot_t, dlt_f]
      simp only [IE.den, IOp.den, show (dS_b.it (dS.init.ap ρ) j).len 401 = j + 1 from hl2]
      omega
    exact ⟨_, by unfold dS_t; rw [T.sel, if_pos (by simp only [BE.den, IE.den, hc, hl]; exact decide_eq_true (by omega)), T.sel, if_pos h2]; rfl⟩
  · have hl : (dS_b.it (dS.init.ap ρ) (ρ.len 201)).len 201 = ρ.len 201 := (ha.len 201 (by decide)).symm
    exact ⟨.exit 2, _, (fun h => nomatch h), by unfold dS_t; rw [T.sel, if_neg (by simp [BE.den, IE.den, hc, hl])]; rfl⟩
/-! ### The document's search -/
theorem dF_ok (ρ : Rho) (h : ρ.len 201 < 1000) : ∃ ρ1 n, Agree 380 ρ ρ1 ∧ n ≤ ρ.len 201 ∧ ρ1.i 380 = (n : Nat) ∧ (∀ j, j < n → hitL ρ j = false) ∧ (n < ρ.len 201 → hitL ρ n = true) ∧ LoopOk Try.prog ρ1 Try.f59.ntmps dF_c dF := by
  have cnt := fun j => it_count (e := .lit 0) (I := 380) (β := dF_b) rfl (ρ := dF_i.ap ρ) (by rfl) j
  have ag := fun j => (Bind.agree dF_ig ρ).trans (Bind.it_agree dF_bg (dF_i.ap ρ) j)
  obtain ⟨n, hn, hs, hgo⟩ := first_stop (fun j => decide (j < ρ.len 201) && !hitL ρ j) (ρ.len 201) (by simp)
  have lt : ∀ j, j ≤ ρ.len 201 → (BE.lt (.var 380) (.len 201)).den (dF_b.it (dF_i.ap ρ) j) = decide (j < ρ.len 201) := fun j hj => by
    simp only [BE.den, IE.den, cnt j (by omega), ← (ag j).len 201 (by decide)]
    exact decide_eq_decide.2 (by omega)
  have mt : ∀ j, j ≤ ρ.len 201 → (BE.and (.eq (.cl 201 18 (.var 380)) (.cl 0 2 (.var 200))) (.eq (.cl 201 19 (.var 380)) (.cl 0 3 (.var 200)))).den (dF_b.it (dF_i.ap ρ) j) = hitL ρ j := fun j hj => by
    simp only [BE.den, IE.den, cnt j (by omega), ← (ag j).ci 201 (by decide), ← (ag j).ci 0 (by decide), ← (ag j).i 200 (by decide), Int.toNat_natCast]
    rfl
  refine ⟨_, n, ag n, hn, cnt n (by omega), fun j hj => ?_, fun hl => ?_, loopOk_it mixed tis_ok dF_run dF_fits dF_back rfl 381 dF_bel dF_ib dF_bg dF_same n fun j hj => ⟨callC _ _, LpsOk.nil _ _ _ _, Facts.ok_cons ?_ (Facts.ok_nil _), ?_⟩⟩
  · have := hgo j hj
    simp only [Bool.and_eq_true, Bool.not_eq_true'] at this
    exact this.2
  · simp only [Bool.and_eq_false_iff, decide_eq_false_iff_not, Bool.not_eq_false'] at hs
    exact hs.resolve_left (by omega)
  · rw [show dF.init = dF_i from rfl]
    simp only [BE.den, IE.den, cnt j (by omega)]
    exact decide_eq_false (by omega)
  · rw [show dF.init = dF_i from rfl]
    by_cases hjn : j < n
    · rw [if_pos hjn]
      have := hgo j hjn
      simp only [Bool.and_eq_true, Bool.not_eq_true'] at this
      exact ⟨_, by unfold dF_t; rw [T.sel, if_pos (by rw [lt j (by omega)]; exact this.1), T.sel, if_neg (by rw [mt j (by omega), this.2]; simp)]; rfl⟩
    · obtain rfl : j = n := by omega
      rw [if_neg hjn]
      by_cases hl : j < ρ.len 201
      · have hh : hitL ρ j = true := by
          simp only [Bool.and_eq_false_iff, decide_eq_false_iff_not, Bool.not_eq_false'] at hs
          exact hs.resolve_left (by omega)
        exact ⟨.ret, _, (fun h => nomatch h), by unfold dF_t; rw [T.sel, if_pos (by rw [lt j hn]; exact decide_eq_true hl), T.sel, if_pos (by rw [mt j hn]; exact hh)]; rfl⟩
      · exact ⟨.exit 0, _, (fun h => nomatch h), by unfold dF_t; rw [T.sel, if_neg (by rw [lt j hn]; simpa using hl)]; rfl⟩
end Go.Proofs.Ytonefailiekemaa
