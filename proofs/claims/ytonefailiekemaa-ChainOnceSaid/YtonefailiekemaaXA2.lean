/- ChainOnce: a round's own letters, and all that the functions over the log come to there. -/
import Derived.Test.YtonefailiekemaaXLM
namespace Go.Proofs.Ytonefailiekemaa
open Go Go.Proofs.Aw Go.Proofs.Xw
set_option maxRecDepth 100000
def kOk (ρ : Rho) (p : Nat × List X × X) : Prop := hasBody Try.prog p.1 = true ∧ ∀ n h, CY Try.prog n p.1 (X.denL ρ p.2.1) h (p.2.2.den ρ) []
theorem kOk.agree {B : Nat} {ρ ρ' : Rho} (h : Agree B ρ ρ') {p : Nat × List X × X} (hb : (X.belL B p.2.1 && p.2.2.bel B) = true) (k : kOk ρ p) : kOk ρ' p := by
  simp only [Bool.and_eq_true] at hb
  refine ⟨k.1, fun n hp => ?_⟩
  rw [← X.belL_den h _ hb.1, ← X.bel_den h _ hb.2]
  exact k.2 n hp
/-- The log's rows as the first letter of rows, a put's client and operation as the first letters. -/
def bR : Bind := ⟨[(0, .cl 0 2 kE), (1, .cl 0 3 kE)], [], [], [(0, .len 201, .var 201 ke)]⟩
def bN : Bind := ⟨[], [], [], [(0, .len 341, .var 341 [.i .i64])]⟩
theorem args_eq {β : Bind} (hg : β.ge 0 = true) (ρ : Rho) {p e : List X} (h : okXL 0 β id p e = true) : X.denL ρ e = X.denL (β.ap ρ) p := by
  rw [okXL_den hg (ρ := ρ) p e h, renL_id]
/-- Whether the j-th write of the log is of the operation that is put. -/
def hitL (ρ : Rho) (j : Nat) : Bool := ρ.ci 201 18 j == (IE.cl 0 2 kE).den ρ && ρ.ci 201 19 j == (IE.cl 0 3 kE).den ρ
theorem hit_eq (ρ : Rho) (j : Nat) : hit (bR.ap ρ) j = hitL ρ j := rfl
theorem cX_len (ρ : Rho) : ∀ j : Nat, (cX_b.it (cX_i.ap ρ) j).len 341 = j + 1
  | 0 => rfl
  | j + 1 => by
    show ((IE.op .padd .i64 (.len 341) (.lit 1)).den (cX_b.it (cX_i.ap ρ) j)).toNat = _
    simp only [IE.den, IOp.den, cX_len ρ j]
    omega
theorem cX_ok (ρ : Rho) (h : ρ.len 201 < 1000) : LoopOk Try.prog (cX_b.it (cX_i.ap ρ) (ρ.len 201)) Try.f15.ntmps cX_c cX := by
  refine loopOk_cntG mixed tis_ok cX_run cX_fits cX_back rfl 342 cX_bel cX_ib cX_bg cX_same (I := 340) rfl rfl (Φ0 := []) rfl (by kernel_rfl) (Facts.ok_nil _) cX_ig (callC _) (fun _ => LpsOk.nil _ _ _ _) (ρ.len 201) (by omega) (fun j hj hc ha => ?_) (fun hc ha => ?_)
  · have hl : (cX_b.it (cX.init.ap ρ) j).len 201 = ρ.len 201 := (ha.len 201 (by decide)).symm
    have hl2 := cX_len ρ j
    have h2 : (BE.not (.lt (.lit 17592186044416) (.op .padd .i64 (.len 341) (.lit 1)))).den (cX_b.it (cX.init.ap ρ) j) = true := by
      rw [dnot_t, dlt_f]
      simp only [IE.den, IOp.den, show (cX_b.it (cX.init.ap ρ) j).len 341 = j + 1 from hl2]
      omega
    exact ⟨_, by unfold cX_t; rw [T.sel, if_pos (by simp only [BE.den, IE.den, hc, hl]; exact decide_eq_true (by omega)), T.sel, if_pos h2]; rfl⟩
  · have hl : (cX_b.it (cX.init.ap ρ) (ρ.len 201)).len 201 = ρ.len 201 := (ha.len 201 (by decide)).symm
    exact ⟨.exit 0, _, (fun h => nomatch h), by unfold cX_t; rw [T.sel, if_neg (by simp [BE.den, IE.den, hc, hl])]; rfl⟩
/-- A round's own letters. -/
theorem round_ks (ρ : Rho) (hl : ρ.len 201 < 1000) : ∃ ρ', Agree 300 ρ ρ' ∧ ρ'.i 340 = ρ.len 201 ∧ ((0 ≤ ρ'.i 331 ∧ ρ'.i 331 < ρ.len 201) ∨ (ρ'.i 331 = -1 ∧ ∀ j, j < ρ.len 201 → hitL ρ j = false)) ∧ CfgOk Try.prog ρ' cB := by
  have hlr : (bR.ap ρ).len 0 = ρ.len 201 := by show (IE.den ρ (.len 201)).toNat = _; simp only [IE.den, Int.toNat_natCast]
  obtain ⟨a1, a2, a3, k1⟩ := col_cy (bR.ap ρ) (by omega)
  obtain ⟨p, k2⟩ := past_cy (bR.ap ρ) (by omega)
  obtain ⟨r, hr, k3⟩ := find_cy (bR.ap ρ) (by omega)
  let β1 : Bind := ⟨[(301, .lit a1), (302, .lit a2), (303, .lit a3), (311, .lit (p 0)), (312, .lit (p 1)), (313, .lit (p 2)), (314, .lit (p 3)), (315, .lit (p 4)), (316, .lit (p 5)), (317, .lit (p 6)), (318, .lit (p 7)), (319, .lit (p 8)), (331, .lit r)], [], [], []⟩
  have ag1 : Agree 300 ρ (β1.ap ρ) := Bind.agree rfl ρ
  have c1 : kOk (β1.ap ρ) (22, [iC 0, logX], .agg [iV 301, iV 302, iV 303]) := ⟨k1.1, fun n hp => by
    have := k1.2 n hp
    rw [← args_eq (by kernel_rfl) ρ (p := [iC 0, esR]) (e := [iC 0, logX]) (by kernel_rfl), X.belL_den ag1 [iC 0, logX] (by kernel_rfl)] at this
    exact this⟩
  have c2 : kOk (β1.ap ρ) (50, [logX], .agg [iV 311, iV 312, iV 313, iV 314, iV 315, iV 316, iV 317, iV 318, iV 319]) := ⟨k2.1, fun n hp => by
    have := k2.2 n hp
    rw [← args_eq (by kernel_rfl) ρ (p := [esR]) (e := [logX]) (by kernel_rfl), X.belL_den ag1 [logX] (by kernel_rfl)] at this
    exact this⟩
  have c3 : kOk (β1.ap ρ) (85, [logX, fn1], iV 331) := ⟨k3.1, fun n hp => by
    have := k3.2 n hp
    rw [← args_eq (by kernel_rfl) ρ (p := [esR, fnX]) (e := [logX, fn1]) (by kernel_rfl), X.belL_den ag1 [logX, fn1] (by kernel_rfl)] at this
    exact this⟩
  have hr1 : (β1.ap ρ).i 331 = r := rfl
  generalize β1.ap ρ = ρ1 at ag1 c1 c2 c3 hr1
  have hl1 : ρ1.len 201 = ρ.len 201 := (ag1.len 201 (by decide)).symm
  have l1 := cX_ok ρ1 (by omega)
  have ag2 : Agree 340 ρ1 (cX_b.it (cX_i.ap ρ1) (ρ1.len 201)) := (Bind.agree cX_ig ρ1).trans (Bind.it_agree cX_bg (cX_i.ap ρ1) _)
  have n2 : (cX_b.it (cX_i.ap ρ1) (ρ1.len 201)).i 340 = ρ1.len 201 := it_count (e := .lit 0) rfl (by rfl) _ (by omega)
  have n3 := cX_len ρ1 (ρ1.len 201)
  generalize cX_b.it (cX_i.ap ρ1) (ρ1.len 201) = ρ2 at l1 ag2 n2 n3
  obtain ⟨a, b, c, ok, k4⟩ := next_cy (bN.ap ρ2) (by show (IE.den ρ2 (.len 341)).toNat < _; simp only [IE.den, Int.toNat_natCast]; omega)
  let β3 : Bind := ⟨[(351, .lit a), (352, .lit b), (353, .lit c)], [(354, .lit ok)], [], []⟩
  have ag3 : Agree 350 ρ2 (β3.ap ρ2) := Bind.agree rfl ρ2
  have c4 : kOk (β3.ap ρ2) (46, [iC 0, iC 0, cntX], .tup [.agg [iV 351, iV 352, iV 353], .sc (.b (.var 354))]) := ⟨k4.1, fun n hp => by
    have := k4.2 n hp
    rw [← args_eq (by kernel_rfl) ρ2 (p := [iC 0, iC 0, isR]) (e := [iC 0, iC 0, cntX]) (by kernel_rfl), X.belL_den ag3 [iC 0, iC 0, cntX] (by kernel_rfl)] at this
    exact this⟩
  generalize β3.ap ρ2 = ρ3 at ag3 c4
  have ag : Agree 340 ρ1 ρ3 := ag2.trans (ag3.le (by decide))
  refine ⟨ρ3, ag1.trans (ag.le (by decide)), by rw [← ag3.i 340 (by decide), n2, hl1], ?_, cfgL_ok (List.forall_mem_cons.2 ⟨kOk.agree ag (by kernel_rfl) c1, List.forall_mem_cons.2 ⟨kOk.agree ag (by kernel_rfl) c2, List.forall_mem_cons.2 ⟨c4, List.forall_mem_cons.2 ⟨kOk.agree ag (by kernel_rfl) c3, List.forall_mem_nil _⟩⟩⟩⟩) (lpB_ok (LoopOk.agree (B := 342) cX_Sb (by kernel_rfl) cX_bel (ag3.le (by decide)) l1))⟩
  rw [← ag.i 331 (by decide), hr1]
  rw [hlr] at hr
  exact hr
end Go.Proofs.Ytonefailiekemaa
