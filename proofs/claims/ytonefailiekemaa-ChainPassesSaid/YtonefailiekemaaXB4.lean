/- ChainPasses: a round's own letters, all that the functions over the log come to there, and what the rounds keep. -/
import Derived.Test.YtonefailiekemaaXB3
namespace Go.Proofs.Ytonefailiekemaa
open Go Go.Proofs.Aw Go.Proofs.Xw
set_option maxRecDepth 100000
def kOk (ρ : Rho) (p : Nat × List X × X) : Prop := hasBody Try.prog p.1 = true ∧ ∀ n h, CY Try.prog n p.1 (X.denL ρ p.2.1) h (p.2.2.den ρ) []
theorem kOk.agree {B : Nat} {ρ ρ' : Rho} (h : Agree B ρ ρ') {p : Nat × List X × X} (hb : (X.belL B p.2.1 && p.2.2.bel B) = true) (k : kOk ρ p) : kOk ρ' p := by
  simp only [Bool.and_eq_true] at hb
  refine ⟨k.1, fun n hp => ?_⟩
  rw [← X.belL_den h _ hb.1, ← X.bel_den h _ hb.2]
  exact k.2 n hp
def bR : Bind := ⟨[(0, .cl 0 2 (.var 200)), (1, .cl 0 3 (.var 200))], [], [], [(0, .len 201, .var 201 ke)]⟩
def bN : Bind := ⟨[], [], [], [(0, .len 341, .var 341 [.i .i64])]⟩
theorem args_eq {β : Bind} (hg : β.ge 0 = true) (ρ : Rho) {p e : List X} (h : okXL 0 β id p e = true) : X.denL ρ e = X.denL (β.ap ρ) p := by
  rw [okXL_den hg (ρ := ρ) p e h, renL_id]
/-- Whether a write is right: it has an answer. -/
theorem re_cy (ρ : Rho) : ∃ b : Bool, hasBody Try.prog 18 = true ∧ ∀ n hp, CY Try.prog n 18 (X.denL ρ [eP]) hp (.sc (.bool b)) [] := by
  have g := fun r (hr : reR.sel ρ = some r) => askF_ok (c := ⟨cfg [], l_able, HFL⟩) (cfg_ok (List.forall_mem_nil _)) l_able_ok (Facts.ok_nil ρ) (by rw [reR_run]; exact hr)
  have g := g _ (by unfold reR; rfl)
  exact ⟨_, g⟩
def bE0 : Bind := bindF [] ⟨[(0, eP)], [], 0⟩ ⟨[(0, eN0)], [], 0⟩
def bE1 : Bind := bindF [] ⟨[(0, eP)], [], 0⟩ ⟨[(0, eN1)], [], 0⟩
theorem cX_len (ρ : Rho) : ∀ j : Nat, (cX_b.it (cX_i.ap ρ) j).len 341 = j + 1
  | 0 => rfl
  | j + 1 => by
    show ((IE.op .padd .i64 (.len 341) (.lit 1)).den (cX_b.it (cX_i.ap ρ) j)).toNat = _
    simp only [IE.den, IOp.den, cX_len ρ j]
    omega
theorem cX_ok (ρ : Rho) (h : ρ.len 201 < 1000) : LoopOk Try.prog (cX_b.it (cX_i.ap ρ) (ρ.len 201)) Try.f15.ntmps cX_c cX := by
  refine loopOk_cntG mixed tis_ok cX_run cX_fits cX_back rfl 342 cX_bel cX_ib cX_bg cX_same (I := 340) rfl rfl (Φ0 := []) rfl (by kernel_rfl) (Facts.ok_nil _) cX_ig (callC _) (fun _ => LpsOk.nil _ _ _ _) (ρ.len 201) (by omega) (fun j hj hc ha => ?_) (fun hc ha => ?_)
  · have hl : (cX_b.it (cX.init.ap ρ) j).len 201 = ρ.len 201 := (ha.len 201 (by decide)).symm
    have hl2 := cX_len ρ j
    have h2 : (BE.not (.lt (.lit 17592186044416) (.op .padd .i64 (.len 341) (.lit 1)))).den (cX_b.it (cX.init.ap ρ) j) = true := by
      rw [dnot_t, dlt_f]
      simp only [IE.den, IOp.den, show (cX_b.it (cX.init.ap ρ) j).len 341 = j + 1 from hl2]
      omega
    exact ⟨_, by unfold cX_t; rw [T.sel, if_pos (by simp only [BE.den, IE.den, hc, hl]; exact decide_eq_true (by omega)), T.sel, if_pos h2]; rfl⟩
  · have hl : (cX_b.it (cX.init.ap ρ) (ρ.len 201)).len 201 = ρ.len 201 := (ha.len 201 (by decide)).symm
    exact ⟨.exit 0, _, (fun h => nomatch h), by unfold cX_t; rw [T.sel, if_neg (by simp [BE.den, IE.den, hc, hl])]; rfl⟩
/-- The answer of a write that is tried, as the letter 360. -/
theorem try_ks {e : X} {β : Bind} (hg : β.ge 0 = true) (he : okXL 0 β id [eP] [e] = true) (hb : X.belL 360 [e] = true) (ρ : Rho) :
    ∃ b : Bool, kOk (Bind.ap ⟨[], [(360, .lit b)], [], []⟩ ρ) (18, [e], .sc (.b (.var 360))) := by
  obtain ⟨b, k⟩ := re_cy (β.ap ρ)
  refine ⟨b, k.1, fun n hp => ?_⟩
  have := k.2 n hp
  rw [← args_eq hg ρ (p := [eP]) (e := [e]) he, X.belL_den (Bind.agree (n := 360) (β := ⟨[], [(360, .lit b)], [], []⟩) rfl ρ) [e] hb] at this
  exact this
theorem round0_ks (ρ : Rho) : ∃ ρ', Agree 300 ρ ρ' ∧ kOk ρ' (18, [eN0], .sc (.b (.var 360))) ∧ CfgOk Try.prog ρ' c0 := by
  obtain ⟨b, k⟩ := try_ks (e := eN0) (β := bE0) (by kernel_rfl) (by kernel_rfl) (by kernel_rfl) ρ
  exact ⟨_, Bind.agree (β := ⟨[], [(360, .lit b)], [], []⟩) rfl ρ, k, cfgL_ok (List.forall_mem_cons.2 ⟨k, List.forall_mem_nil _⟩) (fun _ _ _ => LpsOk.nil _ _ _ _)⟩
/-- A round's own letters. -/
theorem round_ks (ρ : Rho) (hl : ρ.len 201 < 1000) : ∃ ρ', Agree 300 ρ ρ' ∧ ρ'.i 340 = ρ.len 201 ∧ ((0 ≤ ρ'.i 331 ∧ ρ'.i 331 < ρ.len 201) ∨ ρ'.i 331 = -1) ∧ kOk ρ' (18, [eN1], .sc (.b (.var 360))) ∧ CfgOk Try.prog ρ' cB := by
  have hlr : (bR.ap ρ).len 0 = ρ.len 201 := by show (IE.den ρ (.len 201)).toNat = _; simp only [IE.den, Int.toNat_natCast]
  obtain ⟨a1, a2, a3, k1⟩ := col_cy (bR.ap ρ) (by omega)
  obtain ⟨p, k2⟩ := past_cy (bR.ap ρ) (by omega)
  obtain ⟨r, hr, k3⟩ := find_cy (bR.ap ρ) (by omega)
  let β1 : Bind := ⟨[(301, .lit a1), (302, .lit a2), (303, .lit a3), (311, .lit (p 0)), (312, .lit (p 1)), (313, .lit (p 2)), (314, .lit (p 3)), (315, .lit (p 4)), (316, .lit (p 5)), (317, .lit (p 6)), (318, .lit (p 7)), (319, .lit (p 8)), (331, .lit r)], [], [], []⟩
  have ag1 : Agree 300 ρ (β1.ap ρ) := Bind.agree rfl ρ
  have c1 : kOk (β1.ap ρ) (22, [iC 0, logX], .agg [iV 301, iV 302, iV 303]) := ⟨k1.1, fun n hp => by
    have := k1.2 n hp
    rw [← args_eq (by kernel_rfl) ρ (p := [iC 0, esR]) (e := [iC 0, logX]) (by kernel_rfl), X.belL_den ag1 [iC 0, logX] (by kernel_rfl)] at this
    exact this⟩
  have c2 : kOk (β1.ap ρ) (50, [logX], .agg [iV 311, iV 312, iV 313, iV 314, iV 315, iV 316, iV 317, iV 318, iV 319]) := ⟨k2.1, fun n hp => by
    have := k2.2 n hp
    rw [← args_eq (by kernel_rfl) ρ (p := [esR]) (e := [logX]) (by kernel_rfl), X.belL_den ag1 [logX] (by kernel_rfl)] at this
    exact this⟩
  have c3 : kOk (β1.ap ρ) (85, [logX, fn1], iV 331) := ⟨k3.1, fun n hp => by
    have := k3.2 n hp
    rw [← args_eq (by kernel_rfl) ρ (p := [esR, fnX]) (e := [logX, fn1]) (by kernel_rfl), X.belL_den ag1 [logX, fn1] (by kernel_rfl)] at this
    exact this⟩
  have hr1 : (β1.ap ρ).i 331 = r := rfl
  generalize β1.ap ρ = ρ1 at ag1 c1 c2 c3 hr1
  have hl1 : ρ1.len 201 = ρ.len 201 := (ag1.len 201 (by decide)).symm
  have l1 := cX_ok ρ1 (by omega)
  have ag2 : Agree 340 ρ1 (cX_b.it (cX_i.ap ρ1) (ρ1.len 201)) := (Bind.agree cX_ig ρ1).trans (Bind.it_agree cX_bg (cX_i.ap ρ1) _)
  have n2 : (cX_b.it (cX_i.ap ρ1) (ρ1.len 201)).i 340 = ρ1.len 201 := it_count (e := .lit 0) rfl (by rfl) _ (by omega)
  have n3 := cX_len ρ1 (ρ1.len 201)
  generalize cX_b.it (cX_i.ap ρ1) (ρ1.len 201) = ρ2 at l1 ag2 n2 n3
  obtain ⟨a, b, c, ok, k4⟩ := next_cy (bN.ap ρ2) (by show (IE.den ρ2 (.len 341)).toNat < _; simp only [IE.den, Int.toNat_natCast]; omega)
  let β3 : Bind := ⟨[(351, .lit a), (352, .lit b), (353, .lit c)], [(354, .lit ok)], [], []⟩
  have ag3 : Agree 350 ρ2 (β3.ap ρ2) := Bind.agree rfl ρ2
  have c4 : kOk (β3.ap ρ2) (46, [iC 0, iC 0, cntX], .tup [.agg [iV 351, iV 352, iV 353], .sc (.b (.var 354))]) := ⟨k4.1, fun n hp => by
    have := k4.2 n hp
    rw [← args_eq (by kernel_rfl) ρ2 (p := [iC 0, iC 0, isR]) (e := [iC 0, iC 0, cntX]) (by kernel_rfl), X.belL_den ag3 [iC 0, iC 0, cntX] (by kernel_rfl)] at this
    exact this⟩
  generalize β3.ap ρ2 = ρ3 at ag3 c4
  obtain ⟨t, c5⟩ := try_ks (e := eN1) (β := bE1) (by kernel_rfl) (by kernel_rfl) (by kernel_rfl) ρ3
  have ag4 : Agree 360 ρ3 (Bind.ap ⟨[], [(360, .lit t)], [], []⟩ ρ3) := Bind.agree rfl ρ3
  generalize Bind.ap ⟨[], [(360, .lit t)], [], []⟩ ρ3 = ρ4 at ag4 c5
  have ag : Agree 340 ρ1 ρ4 := ag2.trans ((ag3.le (by decide)).trans (ag4.le (by decide)))
  refine ⟨ρ4, ag1.trans (ag.le (by decide)), by rw [← ag4.i 340 (by decide), ← ag3.i 340 (by decide), n2, hl1], ?_, c5, cfgL_ok (List.forall_mem_cons.2 ⟨c5, List.forall_mem_cons.2 ⟨kOk.agree ag (by kernel_rfl) c1, List.forall_mem_cons.2 ⟨kOk.agree ag (by kernel_rfl) c2, List.forall_mem_cons.2 ⟨kOk.agree ag4 (by kernel_rfl) c4, List.forall_mem_cons.2 ⟨kOk.agree ag (by kernel_rfl) c3, List.forall_mem_nil _⟩⟩⟩⟩⟩) (lpB_ok (LoopOk.agree (B := 342) cX_Sb (by kernel_rfl) cX_bel ((ag3.le (by decide)).trans (ag4.le (by decide))) l1))⟩
  rw [← ag.i 331 (by decide), hr1]
  rw [hlr] at hr
  exact hr.imp id And.left
/-! ### What the rounds keep -/
/-- The write is right. -/
def REv (row : List AV) : Prop := ∀ n hp, CY Try.prog n 18 [.agg row] hp (.sc (.bool true)) []
/-- The log's writes are right. -/
def RE (ρ : Rho) : Prop := ∀ j, j < ρ.len 201 → REv (cellsV ρ 201 0 ke j)
theorem RE.agree {B : Nat} {ρ ρ' : Rho} (h : Agree B ρ ρ') (hB : 201 < B) (k : RE ρ) : RE ρ' := fun j hj => by
  rw [← cellsV_agree h hB]
  exact k j (by rw [h.len 201 hB]; exact hj)
theorem ap_i {β : Bind} {ρ : Rho} {k : Nat} {e : IE} (h : lassoc k β.i = some e) : (β.ap ρ).i k = e.den ρ := by simp only [Bind.ap, h]
theorem ap_b {β : Bind} {ρ : Rho} {k : Nat} {e : BE} (h : lassoc k β.b = some e) : (β.ap ρ).b k = e.den ρ := by simp only [Bind.ap, h]
theorem ap_len {β : Bind} {ρ : Rho} {k : Nat} {m : IE} {r : RL} (h : lassoc k β.r = some (m, r)) : (β.ap ρ).len k = (m.den ρ).toNat := by simp only [Bind.ap, h]
def scsOf : List X → List Sc
  | [] => []
  | .sc s :: l => s :: scsOf l
  | _ :: l => scsOf l
def aggOf : X → List X
  | .agg l => l
  | _ => []
theorem bC_r : lassoc 201 bC.r = some (.len 201, .var 201 ke) := by kernel_rfl
theorem bD_r : lassoc 201 bD.r = some (.len 201, .var 201 ke) := by kernel_rfl
theorem bB_r : lassoc 201 bB.r = some (.lit 1, .one (scsOf (aggOf eN0))) := by kernel_rfl
theorem bE_r : lassoc 201 bE.r = some (.op .padd .i64 (.len 201) (.lit 1), .app (.len 201) (.var 201 ke) (.one (scsOf (aggOf eN1)))) := by kernel_rfl
theorem row_app (ρ : Rho) (n : IE) (a b : RL) (j : Int) : RL.row ρ (.app n a b) j = if j < n.den ρ then a.row ρ j else b.row ρ (j - n.den ρ) := rfl
theorem same_re {β : Bind} (h : lassoc 201 β.r = some (.len 201, .var 201 ke)) (ρ : Rho) : (β.ap ρ).len 201 = ρ.len 201 ∧ (RE ρ → RE (β.ap ρ)) := by
  have hl : (β.ap ρ).len 201 = ρ.len 201 := by rw [ap_len h]; simp only [IE.den, Int.toNat_natCast]
  refine ⟨hl, fun k j hj => ?_⟩
  rw [Bind.rows h (by kernel_rfl)]
  exact k j (by omega)
theorem re_of {ρ : Rho} {e : X} (he : e = .agg ((scsOf (aggOf e)).map X.sc)) (k : kOk ρ (18, [e], .sc (.b (.var 360)))) (hb : ρ.b 360 = true) : REv (scL ρ (scsOf (aggOf e))) := fun n hp => by
  have := k.2 n hp
  have h1 : X.denL ρ [e] = [.agg (scL ρ (scsOf (aggOf e)))] := by
    conv => lhs; rw [he]
    generalize scsOf (aggOf e) = l
    have : X.denL ρ (l.map X.sc) = scL ρ l := by
      induction l with
      | nil => rfl
      | cons a l ih => simp only [List.map_cons, X.denL, X.den, scL] at ih ⊢; rw [ih]
    simp only [X.denL, X.den, this]
  rw [h1] at this
  have h2 : X.den ρ (.sc (.b (.var 360))) = .sc (.bool true) := by
    show AV.sc (.bool (ρ.b 360)) = _
    rw [hb]
  rw [h2] at this
  exact this
theorem one_re (ρ : Rho) (k : kOk ρ (18, [eN0], .sc (.b (.var 360)))) (hb : ρ.b 360 = true) : (bB.ap ρ).len 201 = 1 ∧ RE (bB.ap ρ) := by
  have hl : (bB.ap ρ).len 201 = 1 := by rw [ap_len bB_r]; rfl
  refine ⟨hl, fun j _ => ?_⟩
  rw [Bind.rows bB_r (by kernel_rfl)]
  exact re_of (by kernel_rfl) k hb
theorem more_re (ρ : Rho) (k : kOk ρ (18, [eN1], .sc (.b (.var 360)))) (hb : ρ.b 360 = true) (hu : RE ρ) : (bE.ap ρ).len 201 = ρ.len 201 + 1 ∧ RE (bE.ap ρ) := by
  have hl : (bE.ap ρ).len 201 = ρ.len 201 + 1 := by rw [ap_len bE_r]; simp only [IE.den, IOp.den]; omega
  refine ⟨hl, fun j hj => ?_⟩
  rw [Bind.rows bE_r (by kernel_rfl), row_app]
  split
  · rename_i h
    exact hu j (by simp only [IE.den] at h; omega)
  · exact re_of (by kernel_rfl) k hb
end Go.Proofs.Ytonefailiekemaa
