/- ChainNumbers: a round's own letters, and what the rounds keep. -/
import Derived.Test.YtonefailiekemaaXNb
namespace Go.Proofs.Ytonefailiekemaa
open Go Go.Proofs.Aw Go.Proofs.Xw
set_option maxRecDepth 100000
def kOk (ρ : Rho) (p : Nat × List X × X) : Prop := hasBody Try.prog p.1 = true ∧ ∀ n h, CY Try.prog n p.1 (X.denL ρ p.2.1) h (p.2.2.den ρ) []
theorem kOk.agree {B : Nat} {ρ ρ' : Rho} (h : Agree B ρ ρ') {p : Nat × List X × X} (hb : (X.belL B p.2.1 && p.2.2.bel B) = true) (k : kOk ρ p) : kOk ρ' p := by
  simp only [Bool.and_eq_true] at hb
  refine ⟨k.1, fun n hp => ?_⟩
  rw [← X.belL_den h _ hb.1, ← X.bel_den h _ hb.2]
  exact k.2 n hp
def bL : Bind := ⟨[(0, .var 0), (1, .var 1)], [], [], [(0, .len 201, .var 201 ke)]⟩
def bF : Bind := ⟨[(0, .cl 0 2 (.var 200)), (1, .cl 0 3 (.var 200))], [], [], [(0, .len 201, .var 201 ke)]⟩
def bN : Bind := ⟨[(0, .var 0), (1, .var 1)], [], [], [(0, .len 341, .var 341 [.i .i64])]⟩
theorem args_eq {β : Bind} (hg : β.ge 0 = true) (ρ : Rho) {p e : List X} (h : okXL 0 β id p e = true) : X.denL ρ e = X.denL (β.ap ρ) p := by
  rw [okXL_den hg (ρ := ρ) p e h, renL_id]
theorem cX_len (ρ : Rho) : ∀ j : Nat, (cX_b.it (cX_i.ap ρ) j).len 341 = j + 1
  | 0 => rfl
  | j + 1 => by
    show ((IE.op .padd .i64 (.len 341) (.lit 1)).den (cX_b.it (cX_i.ap ρ) j)).toNat = _
    simp only [IE.den, IOp.den, cX_len ρ j]
    omega
theorem row_app (ρ : Rho) (n : IE) (a b : RL) (j : Int) : RL.row ρ (.app n a b) j = if j < n.den ρ then a.row ρ j else b.row ρ (j - n.den ρ) := rfl
theorem cX_r : lassoc 341 cX_b.r = some (.op .padd .i64 (.len 341) (.lit 1), .app (.len 341) (.var 341 [.i .i64]) (.one [.i .i64 (.cl 201 3 (.var 340))])) := by kernel_rfl
theorem cX_cell (ρ : Rho) : ∀ j : Nat, j < 4611686018427387904 → ∀ i, i < j → (cX_b.it (cX_i.ap ρ) j).ci 341 0 (i + 1) = ρ.ci 201 3 i
  | 0, _, i, h => absurd h (by omega)
  | j + 1, hj, i, h => by
    have ih := cX_cell ρ j (by omega)
    have cnt := it_count (e := .lit 0) (I := 340) (β := cX_b) rfl (ρ := cX_i.ap ρ) (by rfl) j (by omega)
    have ag : Agree 340 ρ (cX_b.it (cX_i.ap ρ) j) := (Bind.agree cX_ig ρ).trans (Bind.it_agree cX_bg (cX_i.ap ρ) j)
    have hl := cX_len ρ j
    simp only [Bind.it]
    generalize cX_b.it (cX_i.ap ρ) j = ρ1 at ih cnt ag hl
    rw [ap_ci cX_r, row_app]
    simp only [IE.den, hl]
    by_cases hi : i < j
    · rw [if_pos (by omega), ← ih i hi]
      rfl
    · obtain rfl : i = j := by omega
      rw [if_neg (by omega)]
      show ρ1.ci 201 3 (ρ1.i 340).toNat = _
      rw [cnt, ← ag.ci 201 (by decide), Int.toNat_natCast]
theorem cX_ok (ρ : Rho) (h : ρ.len 201 < 1000) : LoopOk Try.prog (cX_b.it (cX_i.ap ρ) (ρ.len 201)) Try.f15.ntmps cX_c cX := by
  refine loopOk_cntG mixed tis_ok cX_run cX_fits cX_back rfl 342 cX_bel cX_ib cX_bg cX_same (I := 340) rfl rfl (Φ0 := []) rfl (by kernel_rfl) (Facts.ok_nil _) cX_ig (callC _) (fun _ => LpsOk.nil _ _ _ _) (ρ.len 201) (by omega) (fun j hj hc ha => ?_) (fun hc ha => ?_)
  · have hl : (cX_b.it (cX.init.ap ρ) j).len 201 = ρ.len 201 := (ha.len 201 (by decide)).symm
    have hl2 := cX_len ρ j
    have h2 : (BE.not (.lt (.lit 17592186044416) (.op .padd .i64 (.len 341) (.lit 1)))).den (cX_b.it (cX.init.ap ρ) j) = true := by
      rw [dnot_t, dlt_f]
      simp only [IE.den, IOp.den, show (cX_b.it (cX.init.ap ρ) j).len 341 = j + 1 from hl2]
      omega
    exact ⟨_, by unfold cX_t; rw [T.sel, if_pos (by simp only [BE.den, IE.den, hc, hl]; exact decide_eq_true (by omega)), T.sel, if_pos h2]; rfl⟩
  · have hl : (cX_b.it (cX.init.ap ρ) (ρ.len 201)).len 201 = ρ.len 201 := (ha.len 201 (by decide)).symm
    exact ⟨.exit 0, _, (fun h => nomatch h), by unfold cX_t; rw [T.sel, if_neg (by simp [BE.den, IE.den, hc, hl])]; rfl⟩

/-! ### What the rounds keep -/
def REv (row : List AV) : Prop := ∀ n hp, CY Try.prog n 18 [.agg row] hp (.sc (.bool true)) []
def RE (ρ : Rho) : Prop := ∀ j, j < ρ.len 201 → REv (cellsV ρ 201 0 ke j)
theorem RE.agree {B : Nat} {ρ ρ' : Rho} (h : Agree B ρ ρ') (hB : 201 < B) (k : RE ρ) : RE ρ' := fun j hj => by
  rw [← cellsV_agree h hB]
  exact k j (by rw [h.len 201 hB]; exact hj)
def rg (ρ : Rho) : Nat := (ρ.i 1).toNat
def NumR (ρ : Rho) : Prop := Num (ρ.i 0) (ρ.i 1) (ρ.ci 201 0) (ρ.ci 201 1) (ρ.ci 201 2) (ρ.ci 201 3) (fun k j => ρ.ci 201 (9 + (3 * k + rg ρ)) j) (ρ.len 201)
structure Lg (ρ : Rho) : Prop where
  l1 : 1 ≤ ρ.len 201
  l2 : ρ.len 201 ≤ 256
  r : 0 ≤ ρ.i 1 ∧ ρ.i 1 < 3
  re : RE ρ
  nu : NumR ρ
theorem Lg.agree {ρ ρ' : Rho} (h : Agree 300 ρ ρ') (k : Lg ρ) : Lg ρ' := by
  have a1 := h.len 201 (by decide)
  have a2 := h.ci 201 (by decide)
  have a3 := h.i 0 (by decide)
  have a4 := h.i 1 (by decide)
  refine ⟨a1 ▸ k.l1, a1 ▸ k.l2, a4 ▸ k.r, k.re.agree h (by decide), ?_⟩
  have := k.nu
  unfold NumR rg at this ⊢
  rw [a1, a2, a3, a4] at this
  exact this
def colE (ρ : Rho) (k : Nat) : Int := cnt (ρ.ci 201 0) (ρ.len 201) k
/-- A round's own letters. -/
structure Rk (ρ ρ' : Rho) : Prop where
  ag : Agree 300 ρ ρ'
  n : ρ'.i 340 = ρ.len 201
  f : (0 ≤ ρ'.i 331 ∧ ρ'.i 331 < ρ.len 201) ∨ ρ'.i 331 = -1
  col : ∀ k : Nat, k < 3 → ρ'.i (301 + k) = colE ρ k
  past : ∀ k : Nat, k < 3 → ρ'.i (311 + (3 * k + rg ρ)) = colE ρ k
  ks : ∀ p ∈ ksC, kOk ρ' p
  lp : LoopOk Try.prog ρ' Try.f15.ntmps cX_c cX
  nx : ((0 ≤ ρ.i 0 ∧ ρ.i 0 < 3) ∧ 0 < ρ'.i 351 ∧ (∀ j, j < ρ.len 201 → ρ.ci 201 3 j < ρ'.i 351) ∧ kOk ρ' ksY) ∨ kOk ρ' ksZ
theorem round_ks (ρ : Rho) (hg : Lg ρ) : ∃ ρ', Rk ρ ρ' := by
  have hl2 := hg.l2
  have hlr : (bL.ap ρ).len 0 = ρ.len 201 := by show (IE.den ρ (.len 201)).toNat = _; simp only [IE.den, Int.toNat_natCast]
  have hlf : (bF.ap ρ).len 0 = ρ.len 201 := by show (IE.den ρ (.len 201)).toNat = _; simp only [IE.den, Int.toNat_natCast]
  have hnu := hg.nu
  obtain ⟨p, hp, k1⟩ := colD_cy (bL.ap ρ) (by omega) (fun j hj => hnu.d j (by omega)) (fun j hj => hnu.r j (by omega)) hg.r
  obtain ⟨q, hq, k2⟩ := pastD_cy (bL.ap ρ) (by omega) (fun j hj => hnu.d j (by omega)) (fun j hj => by
    have := hnu.r j (by omega)
    rw [show (bL.ap ρ).ci 0 1 j = ρ.ci 201 1 j from rfl, this]; exact hg.r)
  obtain ⟨r, hr, k3⟩ := find_cy (bF.ap ρ) (by omega)
  have hcol : ∀ k : Nat, k < 3 → p k = colE ρ k := fun k hk => by
    rw [hp k hk, hlr]
    exact colN_eq k (ρ.len 201) hnu.s
  have hrg : ((rg ρ : Nat) : Int) = ρ.i 1 := by unfold rg; have := hg.r; omega
  have hpast : ∀ k : Nat, k < 3 → q (3 * k + rg ρ) = colE ρ k := fun k hk => by
    rw [hq k (rg ρ) hk (by have := hg.r; unfold rg; omega), hlr, hrg]
    have := past_eq hnu k hk
    unfold colE
    rw [← this]
    have hr3 : rg ρ < 3 := by have := hg.r; unfold rg; omega
    obtain h | h | h : k = 0 ∨ k = 1 ∨ k = 2 := by omega
    all_goals subst h
    all_goals (obtain h | h | h : rg ρ = 0 ∨ rg ρ = 1 ∨ rg ρ = 2 := by omega)
    all_goals (rw [h]; rfl)
  let β1 : Bind := ⟨[(301, .lit (p 0)), (302, .lit (p 1)), (303, .lit (p 2)), (311, .lit (q 0)), (312, .lit (q 1)), (313, .lit (q 2)), (314, .lit (q 3)), (315, .lit (q 4)), (316, .lit (q 5)), (317, .lit (q 6)), (318, .lit (q 7)), (319, .lit (q 8)), (331, .lit r)], [], [], []⟩
  have ag1 : Agree 300 ρ (β1.ap ρ) := Bind.agree rfl ρ
  have c1 : kOk (β1.ap ρ) (22, [iV 1, logX], .agg [iV 301, iV 302, iV 303]) := ⟨k1.1, fun n hp => by
    have := k1.2 n hp
    rw [← args_eq (by kernel_rfl) ρ (p := [iV 1, esR]) (e := [iV 1, logX]) (by kernel_rfl), X.belL_den ag1 [iV 1, logX] (by kernel_rfl)] at this
    exact this⟩
  have c2 : kOk (β1.ap ρ) (50, [logX], .agg [iV 311, iV 312, iV 313, iV 314, iV 315, iV 316, iV 317, iV 318, iV 319]) := ⟨k2.1, fun n hp => by
    have := k2.2 n hp
    rw [← args_eq (by kernel_rfl) ρ (p := [esR]) (e := [logX]) (by kernel_rfl), X.belL_den ag1 [logX] (by kernel_rfl)] at this
    exact this⟩
  have c3 : kOk (β1.ap ρ) (85, [logX, fn1], iV 331) := ⟨k3.1, fun n hp => by
    have := k3.2 n hp
    rw [← args_eq (by kernel_rfl) ρ (p := [esR, fnX]) (e := [logX, fn1]) (by kernel_rfl), X.belL_den ag1 [logX, fn1] (by kernel_rfl)] at this
    exact this⟩
  have hr1 : (β1.ap ρ).i 331 = r := rfl
  have hcol1 : ∀ k : Nat, k < 3 → (β1.ap ρ).i (301 + k) = colE ρ k := fun k hk => by
    rw [← hcol k hk]
    obtain rfl | rfl | rfl : k = 0 ∨ k = 1 ∨ k = 2 := by omega
    all_goals rfl
  have hpast1 : ∀ k : Nat, k < 3 → (β1.ap ρ).i (311 + (3 * k + rg ρ)) = colE ρ k := fun k hk => by
    rw [← hpast k hk]
    have hr3 : rg ρ < 3 := by have := hg.r; unfold rg; omega
    obtain h | h | h : k = 0 ∨ k = 1 ∨ k = 2 := by omega
    all_goals subst h
    all_goals (obtain h | h | h : rg ρ = 0 ∨ rg ρ = 1 ∨ rg ρ = 2 := by omega)
    all_goals (rw [h]; rfl)
  generalize β1.ap ρ = ρ1 at ag1 c1 c2 c3 hr1 hcol1 hpast1
  have hl1 : ρ1.len 201 = ρ.len 201 := (ag1.len 201 (by decide)).symm
  have l1 := cX_ok ρ1 (by omega)
  have ag2 : Agree 340 ρ1 (cX_b.it (cX_i.ap ρ1) (ρ1.len 201)) := (Bind.agree cX_ig ρ1).trans (Bind.it_agree cX_bg (cX_i.ap ρ1) _)
  have n2 : (cX_b.it (cX_i.ap ρ1) (ρ1.len 201)).i 340 = ρ1.len 201 := it_count (e := .lit 0) rfl (by rfl) _ (by omega)
  have n3 := cX_len ρ1 (ρ1.len 201)
  have n4 := cX_cell ρ1 (ρ1.len 201) (by omega)
  generalize cX_b.it (cX_i.ap ρ1) (ρ1.len 201) = ρ2 at l1 ag2 n2 n3 n4
  have hn0 : (bN.ap ρ2).len 0 = ρ2.len 341 := by show (IE.den ρ2 (.len 341)).toNat = _; simp only [IE.den, Int.toNat_natCast]
  have agz : Agree 300 ρ ρ2 := ag1.trans (ag2.le (by decide))
  have fin : ∀ ρ3, Agree 350 ρ2 ρ3 → (((0 ≤ ρ.i 0 ∧ ρ.i 0 < 3) ∧ 0 < ρ3.i 351 ∧ (∀ j, j < ρ.len 201 → ρ.ci 201 3 j < ρ3.i 351) ∧ kOk ρ3 ksY) ∨ kOk ρ3 ksZ) → Rk ρ ρ3 := fun ρ3 ag3 h => by
    have ag : Agree 340 ρ1 ρ3 := ag2.trans (ag3.le (by decide))
    refine ⟨ag1.trans (ag.le (by decide)), by rw [← ag3.i 340 (by decide), n2, hl1], ?_, fun k hk => by rw [← ag.i _ (by omega)]; exact hcol1 k hk, fun k hk => by rw [← ag.i _ (by have := hg.r; unfold rg; omega)]; exact hpast1 k hk,
      List.forall_mem_cons.2 ⟨kOk.agree ag (by kernel_rfl) c1, List.forall_mem_cons.2 ⟨kOk.agree ag (by kernel_rfl) c2, List.forall_mem_cons.2 ⟨kOk.agree ag (by kernel_rfl) c3, List.forall_mem_nil _⟩⟩⟩, LoopOk.agree (B := 342) cX_Sb (by kernel_rfl) cX_bel (ag3.le (by decide)) l1, h⟩
    rw [← ag.i 331 (by decide), hr1]
    rw [hlf] at hr
    exact hr.imp id And.left
  rcases nextD_cy (bN.ap ρ2) (by rw [hn0, n3]; omega) with ⟨a, h1, _, h3, h4, k4⟩ | k4
  · let β3 : Bind := ⟨[(351, .lit a)], [], [], []⟩
    have ag3 : Agree 350 ρ2 (β3.ap ρ2) := Bind.agree rfl ρ2
    refine ⟨β3.ap ρ2, fin _ ag3 (.inl ⟨by rw [agz.i 0 (by decide)]; exact h1, h3, fun j hj => ?_, k4.1, fun n hp => ?_⟩)⟩
    · have := h4 (j + 1) (by rw [hn0, n3]; omega)
      rw [show (bN.ap ρ2).ci 0 0 (j + 1) = ρ2.ci 341 0 (j + 1) from rfl, n4 j (by omega), ← ag1.ci 201 (by decide)] at this
      exact this
    · have := k4.2 n hp
      rw [← args_eq (by kernel_rfl) ρ2 (p := [iV 0, iV 1, isR]) (e := [iV 0, iV 1, cntX]) (by kernel_rfl), X.belL_den ag3 [iV 0, iV 1, cntX] (by kernel_rfl)] at this
      exact this
  · refine ⟨ρ2, fin ρ2 (Agree.refl _ _) (.inr ⟨k4.1, fun n hp => ?_⟩)⟩
    have := k4.2 n hp
    rw [← args_eq (by kernel_rfl) ρ2 (p := [iV 0, iV 1, isR]) (e := [iV 0, iV 1, cntX]) (by kernel_rfl)] at this
    exact this

/-! ### A write that is tried -/
def bE (e : X) : Bind := bindF [] ⟨[(0, eP)], [], 0⟩ ⟨[(0, e)], [], 0⟩
theorem re_ks {e : X} (hg : (bE e).ge 0 = true) (he : okXL 0 (bE e) id [eP] [e] = true) (ρ : Rho) : (kOk ρ (eT e) ∧ (0 ≤ ((bE e).ap ρ).i 0 ∧ ((bE e).ap ρ).i 0 < 3) ∧ (0 ≤ ((bE e).ap ρ).i 1 ∧ ((bE e).ap ρ).i 1 < 3)) ∨ kOk ρ (eZ e) := by
  have k := re_cy ((bE e).ap ρ)
  have ha := args_eq hg ρ (p := [eP]) (e := [e]) he
  cases hb : reE.den ((bE e).ap ρ) with
  | true =>
    refine .inl ⟨⟨k.1, fun n hp => ?_⟩, reE_dot hb⟩
    have := k.2 n hp
    rw [← ha, hb] at this
    exact this
  | false =>
    refine .inr ⟨k.1, fun n hp => ?_⟩
    have := k.2 n hp
    rw [← ha, hb] at this
    exact this
def scsOf : List X → List Sc
  | [] => []
  | .sc s :: l => s :: scsOf l
  | _ :: l => scsOf l
def aggOf : X → List X
  | .agg l => l
  | _ => []
theorem re_of {ρ : Rho} {e : X} (he : e = .agg ((scsOf (aggOf e)).map X.sc)) (k : kOk ρ (eT e)) : REv (scL ρ (scsOf (aggOf e))) := fun n hp => by
  have := k.2 n hp
  have h1 : X.denL ρ [e] = [.agg (scL ρ (scsOf (aggOf e)))] := by
    conv => lhs; rw [he]
    generalize scsOf (aggOf e) = l
    have : X.denL ρ (l.map X.sc) = scL ρ l := by
      induction l with
      | nil => rfl
      | cons a l ih => simp only [List.map_cons, X.denL, X.den, scL] at ih ⊢; rw [ih]
    simp only [X.denL, X.den, this]
  simp only [eT] at this
  rw [h1] at this
  exact this
/-- A cell of a row that is tried. -/
def ec (ρ : Rho) (sc : List Sc) (c : Nat) : Int := cellI (scL ρ sc)[c]?
theorem same_lg {β : Bind} (hg : β.ge 200 = true) (h : lassoc 201 β.r = some (.len 201, .var 201 ke)) {ρ : Rho} (k : Lg ρ) : Lg (β.ap ρ) := by
  have ag : Agree 200 ρ (β.ap ρ) := Bind.agree hg ρ
  have hl : (β.ap ρ).len 201 = ρ.len 201 := by rw [ap_len h]; simp only [IE.den, Int.toNat_natCast]
  have a3 := ag.i 0 (by decide)
  have a4 := ag.i 1 (by decide)
  refine ⟨by rw [hl]; exact k.l1, by rw [hl]; exact k.l2, a4 ▸ k.r, fun j hj => ?_, ?_⟩
  · rw [Bind.rows h (by kernel_rfl)]
    exact k.re j (by omega)
  · have hr3 : rg ρ < 3 := by have := k.r; unfold rg; omega
    unfold NumR
    rw [hl, ← a3, ← a4, show rg (β.ap ρ) = rg ρ from by unfold rg; rw [a4]]
    refine k.nu.congr (fun j _ => ?_) (fun j _ => ?_) (fun j _ => ?_) (fun j _ => ?_) (fun k hk j _ => ?_)
    · rw [ap_ci h]; rfl
    · rw [ap_ci h]; rfl
    · rw [ap_ci h]; rfl
    · rw [ap_ci h]; rfl
    · rw [ap_ci h]
      obtain h | h | h : k = 0 ∨ k = 1 ∨ k = 2 := by omega
      all_goals subst h
      all_goals (obtain h | h | h : rg ρ = 0 ∨ rg ρ = 1 ∨ rg ρ = 2 := by omega)
      all_goals (rw [h]; rfl)
theorem one_lg {β : Bind} {sc : List Sc} (hg : β.ge 200 = true) (h : lassoc 201 β.r = some (.lit 1, .one sc)) (hkd : RL.kd ke (.one sc) = true) {ρ : Rho} (r : 0 ≤ ρ.i 1 ∧ ρ.i 1 < 3) (hre : REv (scL ρ sc)) (hd : 0 ≤ ec ρ sc 0 ∧ ec ρ sc 0 < 3) (hR : ec ρ sc 1 = ρ.i 1) (hs : ec ρ sc 2 = 1)
    (hv : ∀ k : Nat, k < 3 → ec ρ sc (9 + (3 * k + rg ρ)) ≤ 0) (ho : ec ρ sc 0 = ρ.i 0 → (∀ k : Nat, k < 3 → ec ρ sc (9 + (3 * k + rg ρ)) = 0) ∧ 0 < ec ρ sc 3) : Lg (β.ap ρ) := by
  have ag : Agree 200 ρ (β.ap ρ) := Bind.agree hg ρ
  have hl : (β.ap ρ).len 201 = 1 := by rw [ap_len h]; rfl
  have a3 := ag.i 0 (by decide)
  have a4 := ag.i 1 (by decide)
  have hc : ∀ c j, (β.ap ρ).ci 201 c j = ec ρ sc c := fun c j => by rw [ap_ci h]; rfl
  refine ⟨by omega, by omega, a4 ▸ r, fun j _ => ?_, ?_⟩
  · rw [Bind.rows h hkd]
    exact hre
  · unfold NumR
    rw [hl, ← a3, ← a4, show rg (β.ap ρ) = rg ρ from by unfold rg; rw [a4]]
    refine Num.snoc (n := 0) Num.nil (by rw [hc]; exact hd) (by rw [hc]; exact hR) (by rw [hc]; simp only [cnt]; omega) (fun k hk => ?_) (fun hdc => ?_)
    · show (β.ap ρ).ci 201 (9 + (3 * k + rg ρ)) 0 ≤ _
      rw [hc]; exact hv k hk
    · rw [hc] at hdc
      obtain ⟨h1, h2⟩ := ho hdc
      refine ⟨fun k hk => ?_, by rw [hc]; exact h2, fun i hi => absurd hi (by omega)⟩
      show (β.ap ρ).ci 201 (9 + (3 * k + rg ρ)) 0 = _
      rw [hc]; exact h1 k hk
theorem more_lg {β : Bind} {sc : List Sc} (hg : β.ge 200 = true) (h : lassoc 201 β.r = some (.op .padd .i64 (.len 201) (.lit 1), .app (.len 201) (.var 201 ke) (.one sc))) (hkd : RL.kd ke (.app (.len 201) (.var 201 ke) (.one sc)) = true) {ρ : Rho} (k : Lg ρ) (hlt : ρ.len 201 < 256) (hre : REv (scL ρ sc))
    (hd : 0 ≤ ec ρ sc 0 ∧ ec ρ sc 0 < 3) (hR : ec ρ sc 1 = ρ.i 1) (hs : ec ρ sc 2 = cnt (ρ.ci 201 0) (ρ.len 201) (ec ρ sc 0) + 1) (hv : ∀ k : Nat, k < 3 → ec ρ sc (9 + (3 * k + rg ρ)) ≤ colE ρ k)
    (ho : ec ρ sc 0 = ρ.i 0 → (∀ k : Nat, k < 3 → ec ρ sc (9 + (3 * k + rg ρ)) = colE ρ k) ∧ 0 < ec ρ sc 3 ∧ ∀ i, i < ρ.len 201 → ρ.ci 201 3 i < ec ρ sc 3) : Lg (β.ap ρ) := by
  have ag : Agree 200 ρ (β.ap ρ) := Bind.agree hg ρ
  have hl : (β.ap ρ).len 201 = ρ.len 201 + 1 := by rw [ap_len h]; simp only [IE.den, IOp.den]; omega
  have a3 := ag.i 0 (by decide)
  have a4 := ag.i 1 (by decide)
  have new : ∀ c, (β.ap ρ).ci 201 c (ρ.len 201) = ec ρ sc c := fun c => by
    rw [ap_ci h, row_app, if_neg (by simp only [IE.den]; omega)]; rfl
  have old : ∀ c j, j < ρ.len 201 → (β.ap ρ).ci 201 c j = cellI (RL.row ρ (.var 201 ke) j)[c]? := fun c j hj => by
    rw [ap_ci h, row_app, if_pos (by simp only [IE.den]; omega)]
  have o0 : ∀ j, j < ρ.len 201 → (β.ap ρ).ci 201 0 j = ρ.ci 201 0 j := fun j hj => old 0 j hj
  have o1 : ∀ j, j < ρ.len 201 → (β.ap ρ).ci 201 1 j = ρ.ci 201 1 j := fun j hj => old 1 j hj
  have o2 : ∀ j, j < ρ.len 201 → (β.ap ρ).ci 201 2 j = ρ.ci 201 2 j := fun j hj => old 2 j hj
  have o3 : ∀ j, j < ρ.len 201 → (β.ap ρ).ci 201 3 j = ρ.ci 201 3 j := fun j hj => old 3 j hj
  have hr3 : rg ρ < 3 := by have := k.r; unfold rg; omega
  have ov : ∀ k : Nat, k < 3 → ∀ j, j < ρ.len 201 → (β.ap ρ).ci 201 (9 + (3 * k + rg ρ)) j = ρ.ci 201 (9 + (3 * k + rg ρ)) j := fun k hk j hj => by
    rw [old _ j hj]
    obtain h | h | h : k = 0 ∨ k = 1 ∨ k = 2 := by omega
    all_goals subst h
    all_goals (obtain h | h | h : rg ρ = 0 ∨ rg ρ = 1 ∨ rg ρ = 2 := by omega)
    all_goals (rw [h]; rfl)
  have cc : ∀ d, cnt ((β.ap ρ).ci 201 0) (ρ.len 201) d = cnt (ρ.ci 201 0) (ρ.len 201) d := fun d => cnt_congr d _ o0
  refine ⟨by omega, by omega, a4 ▸ k.r, fun j hj => ?_, ?_⟩
  · rw [Bind.rows h hkd, row_app]
    split
    · rename_i h
      exact k.re j (by simp only [IE.den] at h; omega)
    · exact hre
  · unfold NumR
    rw [hl, ← a3, ← a4, show rg (β.ap ρ) = rg ρ from by unfold rg; rw [a4]]
    refine Num.snoc (n := ρ.len 201) (k.nu.congr o0 o1 o2 o3 ov) (by rw [new]; exact hd) (by rw [new]; exact hR) (by rw [new, new, cc]; exact hs) (fun k hk => ?_) (fun hdc => ?_)
    · show (β.ap ρ).ci 201 (9 + (3 * k + rg ρ)) (ρ.len 201) ≤ _
      rw [new, cc]; exact hv k hk
    · rw [new] at hdc
      obtain ⟨h1, h2, h3⟩ := ho hdc
      refine ⟨fun k hk => ?_, by rw [new]; exact h2, fun i hi => by rw [new, o3 i hi]; exact h3 i hi⟩
      show (β.ap ρ).ci 201 (9 + (3 * k + rg ρ)) (ρ.len 201) = _
      rw [new, cc]; exact h1 k hk
end Go.Proofs.Ytonefailiekemaa
