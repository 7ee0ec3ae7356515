/- ChainBounds: a round leads to a state; the rounds from a log of rows. -/
import Derived.Test.YtonefailiekemaaGKf
import Derived.Test.YtonefailiekemaaFE3
namespace Go.Proofs.Ytonefailiekemaa
open Go Go.Proofs.Aw Go.Proofs.Xw
set_option maxRecDepth 100000
def Rd (s : Nat) (ρ : Rho) : Prop := Lim ρ ∧ ((s = 0 ∧ ρ.b 901 = false) ∨ (s = 1 ∧ ρ.b 901 = true ∧ ρ.b 902 = false ∧ Iv 0 ρ) ∨ (s = 2 ∧ ρ.b 901 = true ∧ ρ.b 902 = true ∧ (1 ≤ ρ.len 201 ∧ ρ.len 201 ≤ 256) ∧ Iv (ρ.len 201) ρ))
def Ss (s : Nat) : XS := match s with
  | 0 => mS hpZ
  | 1 => mS hpN
  | _ => mS hpL
def Me (_ : Nat) (ρ : Rho) : Nat := ρ.len 0 - (ρ.i 200).toNat
theorem next_lim {β : Bind} (hg : β.ge 200 = true) (hi : lassoc 200 β.i = some (.op .add .i64 (.var 200) (.lit 1))) {ρ : Rho} (hL : Lim ρ) (hlt : ρ.i 200 < ρ.len 0) :
    Lim (β.ap ρ) ∧ (∀ a b, Me a (β.ap ρ) < Me b ρ) ∧ Agree 200 ρ (β.ap ρ) := by
  have ag : Agree 200 ρ (β.ap ρ) := Bind.agree hg ρ
  have l0 : (β.ap ρ).len 0 = ρ.len 0 := (ag.len 0 (by decide)).symm
  have h0 := hL.i0
  have h3 := hL.l0
  have hn : (β.ap ρ).i 200 = ρ.i 200 + 1 := by
    rw [ap_i hi]
    simp only [IE.den, IOp.den]
    exact wrap_id _ (by omega) (by omega)
  refine ⟨hL.agree ag (by omega) (by omega), fun a b => ?_, ag⟩
  simp only [Me, l0, hn]
  omega
def Goes (s : Nat) (ρ : Rho) : Prop := ∃ s' ρ', StepF Try.prog mN mC 0 (Ss s) (Ss s') ρ ρ' ∧ Rd s' ρ' ∧ Me s' ρ' < Me s ρ ∧ Agree 200 ρ ρ'
/-- What is known of the state behind a round. -/
def To (s' : Nat) (β : Bind) (ρ : Rho) : Prop := (s' = 0 ∧ lassoc 901 β.b = some (.lit false)) ∨ (s' = 1 ∧ lassoc 901 β.b = some (.lit true) ∧ lassoc 902 β.b = some (.lit false) ∧ Iw 0 β ρ) ∨
  (s' = 2 ∧ lassoc 901 β.b = some (.lit true) ∧ lassoc 902 β.b = some (.lit true) ∧ (1 ≤ (β.ap ρ).len 201 ∧ (β.ap ρ).len 201 ≤ 256) ∧ Iw ((β.ap ρ).len 201) β ρ)
/-- The length of the log behind a round. -/
def nwL (β : Bind) : IE := match lassoc 902 β.b with
  | some (.lit true) => (match lassoc 201 β.r with
    | some (n, _) => n
    | none => .lit 0)
  | _ => .lit 0
/-- What a round is asked not to do: to have more stable than durable, more durable than there is, or less stable than before. -/
def bdOk (β : Bind) : Facts → Bool
  | [] => true
  | [(c, false)] => match lassoc 225 β.i, lassoc 226 β.i, lassoc 223 β.i with
    | some d, some s, some (.var 223) => c.beq (mkOr (mkLt d s) (mkLt (nwL β) d)) || (c.beq (mkOr (mkLt d s) (mkLt s (.var 226))) || c.beq (mkOr (mkOr (mkLt d s) (mkLt (nwL β) d)) (mkLt s (.var 226))))
    | _, _, _ => false
  | _ => false
theorem nwL_den {s' : Nat} {β : Bind} {ρ : Rho} (h : To s' β ρ) (h0 : s' ≠ 0) (hb : lassoc 902 β.b = some (.lit true) → ∃ n r, lassoc 201 β.r = some (n, r)) : (β.ap ρ).i 226 ≤ (β.ap ρ).i 225 ∧ (β.ap ρ).i 225 ≤ (nwL β).den ρ ∧ (lassoc 223 β.i = some (.var 223) → ρ.i 226 ≤ (β.ap ρ).i 226) := by
  obtain ⟨rfl, _⟩ | ⟨_, _, h2, h3⟩ | ⟨_, _, h2, hl, h3⟩ := h
  · exact absurd rfl h0
  · refine ⟨h3.1.s1, ?_, h3.2⟩
    unfold nwL
    rw [h2]
    exact h3.1.d1
  · refine ⟨h3.1.s1, ?_, h3.2⟩
    have d1 := h3.1.d1
    unfold nwL
    rw [h2]
    simp only
    obtain ⟨n, r, hr⟩ := hb h2
    rw [hr]
    have := ap_len (ρ := ρ) hr
    simp only
    omega
/-- Where there is a log, it is bound. -/
def lgOk (β : Bind) : Bool := match lassoc 902 β.b, lassoc 201 β.r with
  | some (.lit true), none => false
  | _, _ => true
theorem lgOk_ok {β : Bind} (h : lgOk β = true) (h2 : lassoc 902 β.b = some (.lit true)) : ∃ n r, lassoc 201 β.r = some (n, r) := by
  unfold lgOk at h
  rw [h2] at h
  cases hr : lassoc 201 β.r with
  | none => rw [hr] at h; cases h
  | some q => exact ⟨q.1, q.2, rfl⟩
theorem bd_ok {s' : Nat} {β : Bind} {ρ : Rho} {Ψ : Facts} (h : To s' β ρ) (h0 : s' ≠ 0) (hl : lgOk β = true) (hb : bdOk β Ψ = true) : Facts.ok ρ Ψ := by
  obtain ⟨g1, g2, g3⟩ := nwL_den h h0 (lgOk_ok hl)
  unfold bdOk at hb
  split at hb
  · exact Facts.ok_nil _
  · rename_i c
    split at hb
    · rename_i d s hd hs h3
      have g3 := g3 h3
      rw [ap_i hd, ap_i hs] at g1
      rw [ap_i hd] at g2
      rw [ap_i hs] at g3
      have e1 : (mkLt d s).den ρ = false := by rw [mkLt_den]; exact decide_eq_false (by omega)
      have e2 : (mkLt (nwL β) d).den ρ = false := by rw [mkLt_den]; exact decide_eq_false (by omega)
      have e3 : (mkLt s (.var 226)).den ρ = false := by rw [mkLt_den]; exact decide_eq_false (by show ¬ s.den ρ < ρ.i 226; omega)
      refine one_ok ?_
      rw [Bool.or_eq_true, Bool.or_eq_true] at hb
      rcases hb with hb | hb | hb
      · rw [BE.beq_eq _ _ hb, mkOr_den, e1, e2]; rfl
      · rw [BE.beq_eq _ _ hb, mkOr_den, e1, e3]; rfl
      · rw [BE.beq_eq _ _ hb, mkOr_den, mkOr_den, e1, e2, e3]; rfl
    · cases hb
  · cases hb
/-! ### Two rows of like writes -/
def bEn : Bind := ⟨[(0, .len 201)], [], [], [(0, .len 201, .var 201 ke), (1, .len 201, .var 201 ke)]⟩
theorem en_ok (ρ : Rho) (hl : ρ.len 201 ≤ 256) : Kc 30 (X.denL ρ [logX, logX]) (.sc (.bool true)) := by
  have hlr : (bEn.ap ρ).len 0 = ρ.len 201 := by show (IE.den ρ (.len 201)).toNat = _; simp only [IE.den, Int.toNat_natCast]
  have g := entries_cy (bEn.ap ρ) (by omega) (by rw [hlr]; rfl) (fun j _ => rfl)
  rw [← args_eq (e := [logX, logX]) (by kernel_rfl) ρ (by kernel_rfl)] at g
  exact g
def rIs (r : RL) : Bool := r.beq rV || (match r with
  | .app n a _ => n.beq (.len 201) && a.beq rV
  | _ => false)
theorem rIs_row {r : RL} (h : rIs r = true) (ρ : Rho) {j : Nat} (hj : j < ρ.len 201) : r.row ρ j = rV.row ρ j := by
  unfold rIs at h
  rw [Bool.or_eq_true] at h
  rcases h with h | h
  · rw [RL.beq_eq h]
  · split at h
    · rename_i n a b
      rw [Bool.and_eq_true] at h
      rw [IE.beq_eq _ _ h.1, RL.beq_eq h.2, row_app, if_pos (by simp only [IE.den]; omega)]
    · cases h
theorem enR_ok {r : RL} (h : rIs r = true) (ρ : Rho) (hl : ρ.len 201 ≤ 256) : ∀ p ∈ enR r, kOk ρ p := by
  refine ks_cons ?_ ks_nil
  have e : X.denL ρ [.rl 20 (.len 201) r false, logX] = X.denL ρ [logX, logX] := by
    have : rowsD ρ (.len 201) r = rowsD ρ (.len 201) (.var 201 ke) := by
      unfold rowsD
      refine List.map_congr_left fun j hj => ?_
      have hj := List.mem_range.1 hj
      simp only [IE.den, Int.toNat_natCast] at hj
      exact rIs_row h ρ hj
    simp only [X.denL, X.den, logX, this]
  show Kc 30 (X.denL ρ [.rl 20 (.len 201) r false, logX]) (.sc (.bool true))
  rw [e]
  exact en_ok ρ hl
theorem addK_ok {ρ : Rho} {c : Cfg} {k : List (Nat × List X × X)} (h : CfgOk Try.prog ρ c) (hk : ∀ p ∈ k, kOk ρ p) : CfgOk Try.prog ρ (addK k c) :=
  ⟨h.mixed, h.ti, h.ft, fun p hp => (List.mem_append.1 hp).elim (hk p) (h.ks p), h.lp⟩
theorem goes {s s' : Nat} {ρ ρ1 : Rho} {c : Cfg} {Φ : Facts} {β : Bind} {nm : List (Nm × Nm)} {L : XS} (hd : (Ss s).den ρ = (Ss s).den ρ1) (ag : Agree 300 ρ ρ1) (cok : CfgOk Try.prog ρ1 c) (hk : Facts.ok ρ1 (Φ ++ (kF ++ limC)))
    (hs : (mRun c Φ (Ss s)).sel ρ1 = some (.normal, L)) (hok : okS 0 200 β nm (Ss s') L = true) (hg : β.ge 200 = true) (hi : lassoc 200 β.i = some (.op .add .i64 (.var 200) (.lit 1))) (hL : Lim ρ1) (hlt : ρ1.i 200 < ρ1.len 0)
    (hR : To s' β ρ1) : Goes s ρ := by
  obtain ⟨g1, g3, g4⟩ := next_lim hg hi hL hlt
  have hM : Me s ρ = Me s ρ1 := by simp only [Me, ag.len 0 (by decide), ag.i 200 (by decide)]
  refine ⟨s', β.ap ρ1, StepF.from hd (stepF_of (S := Ss s) (S' := Ss s) (U := Ss s') (ρ := ρ1) (Φ' := Φ ++ (kF ++ limC)) (body := mC) (ks := mK) (s := L) (fuel := 1000) (ti := c.ti) mixed cok.ti (callS_ok (c := ⟨c, l_able, HFL⟩) cok l_able_ok 12) (LpsOk.nil _ _ _ _) m_fits hk rfl hs hok), ⟨g1, ?_⟩, by rw [hM]; exact g3 _ _, (ag.le (by decide)).trans g4⟩
  rcases hR with ⟨h1, h2⟩ | ⟨h1, h2, h3, h4⟩ | ⟨h1, h2, h3, h4⟩
  · exact .inl ⟨h1, by rw [ap_b h2]; rfl⟩
  · exact .inr (.inl ⟨h1, by rw [ap_b h2]; rfl, by rw [ap_b h3]; rfl, h4.1⟩)
  · exact .inr (.inr ⟨h1, by rw [ap_b h2]; rfl, by rw [ap_b h3]; rfl, h4.1, h4.2.1⟩)
theorem c0_ok {ρ : Rho} {ks : List (Nat × List X × X)} (h : ∀ p ∈ ks, kOk ρ p) : CfgOk Try.prog ρ (c0 ks) := cfgL_ok h (fun _ _ _ => LpsOk.nil _ _ _ _)
theorem cX_cfg {ρ : Rho} {ks : List (Nat × List X × X)} (h : ∀ p ∈ ks, kOk ρ p) (l1 : LoopOk Try.prog ρ Try.f15.ntmps cX_c cX) (l2 : LoopOk Try.prog ρ Try.f59.ntmps dFx_c dFx) (l3 : LoopOk Try.prog ρ Try.f59.ntmps dS_c dS) : CfgOk Try.prog ρ (cXx ks) := cfgL_ok h (lpX_ok l1 l2 l3)
theorem cR_cfg {ρ : Rho} {ks : List (Nat × List X × X)} (h : ∀ p ∈ ks, kOk ρ p) (l1 : LoopOk Try.prog ρ Try.f15.ntmps cX_c cX) (l2 : LoopOk Try.prog ρ Try.f59.ntmps dFr_c dFr) (l3 : LoopOk Try.prog ρ Try.f59.ntmps dS_c dS) : CfgOk Try.prog ρ (cXr ks) := cfgL_ok h (lpR_ok l1 l2 l3)
abbrev kdE (k : Int) : BE := .eq (.cl 0 0 (.var 200)) (.lit k)
theorem kd_ok {ρ : Rho} {k : Int} (h : (kdE k).den ρ = true) : Facts.ok ρ (kd k) := one_ok h
theorem epF_ok {ρ : Rho} (h : 1 ≤ ρ.i 210) : Facts.ok ρ epF := Facts.ok_cons (by rw [dlt_f]; exact h) (Facts.ok_cons (by rw [deq_f]; simp only [IE.den]; omega) (one_ok (by rw [dlt_t]; simp only [IE.den]; omega)))
theorem lF_ok {ρ : Rho} (h : 1 ≤ ρ.len 201 ∧ ρ.len 201 ≤ 256) : Facts.ok ρ lF := Facts.ok_cons (by rw [dlt_t]; simp only [IE.den]; omega) (one_ok (by rw [dlt_f]; simp only [IE.den]; omega))
theorem hdF_ok {ρ : Rho} (h : 0 ≤ ρ.i 301) (k : ρ.i 301 = ρ.i 206) : Facts.ok ρ hdF := Facts.ok_cons (by rw [dlt_f]; simp only [IE.den]; omega) (one_ok (by rw [deq_t]; exact k))
theorem nhF_ok {ρ : Rho} (k : ¬ ρ.i 301 = ρ.i 206) : Facts.ok ρ nhF := one_ok (by rw [deq_f]; exact k)
theorem dcF_ok {ρ : Rho} (h : 0 ≤ ρ.i 204 ∧ ρ.i 204 < 3) (k : 0 ≤ ρ.i 205 ∧ ρ.i 205 < 3) : Facts.ok ρ dcF :=
  Facts.ok_cons (by rw [dlt_f]; exact h.1) (Facts.ok_cons (by rw [dlt_t]; exact h.2) (Facts.ok_cons (by rw [dlt_f]; exact k.1) (one_ok (by rw [dlt_t]; exact k.2))))
/-- No kind of act: nothing is done. -/
theorem kdX_ok {ρ : Rho} (h : ∀ k ∈ ([1, 2, 3, 4, 5, 6, 7, 8] : List Int), (kdE k).den ρ = false) : Facts.ok ρ kdX := fun p hp => by
  obtain ⟨k, hk, rfl⟩ := List.mem_map.1 hp
  exact h k hk
/-- The kinds of acts. -/
theorem kinds {ρ : Rho} {Q : Prop} (h1 : (kdE 1).den ρ = true → Q) (h2 : (kdE 2).den ρ = true → Q) (h3 : (kdE 3).den ρ = true → Q) (h4 : (kdE 4).den ρ = true → Q) (h5 : (kdE 5).den ρ = true → Q) (h6 : (kdE 6).den ρ = true → Q) (h7 : (kdE 7).den ρ = true → Q) (h8 : (kdE 8).den ρ = true → Q)
    (h0 : (∀ k ∈ ([1, 2, 3, 4, 5, 6, 7, 8] : List Int), (kdE k).den ρ = false) → Q) : Q := by
  by_cases c1 : (kdE 1).den ρ = true
  · exact h1 c1
  by_cases c2 : (kdE 2).den ρ = true
  · exact h2 c2
  by_cases c3 : (kdE 3).den ρ = true
  · exact h3 c3
  by_cases c4 : (kdE 4).den ρ = true
  · exact h4 c4
  by_cases c5 : (kdE 5).den ρ = true
  · exact h5 c5
  by_cases c6 : (kdE 6).den ρ = true
  · exact h6 c6
  by_cases c7 : (kdE 7).den ρ = true
  · exact h7 c7
  by_cases c8 : (kdE 8).den ρ = true
  · exact h8 c8
  refine h0 fun k hk => ?_
  simp only [List.mem_cons, List.not_mem_nil, or_false] at hk
  rcases hk with rfl | rfl | rfl | rfl | rfl | rfl | rfl | rfl
  all_goals (apply Bool.eq_false_iff.2; assumption)
/-- A truth, or not. -/
theorem dec {ρ : Rho} {Q : Prop} (c : BE) (h1 : c.den ρ = true → Q) (h2 : c.den ρ = false → Q) : Q := by
  cases h : c.den ρ with
  | true => exact h1 h
  | false => exact h2 h
end Go.Proofs.Ytonefailiekemaa
