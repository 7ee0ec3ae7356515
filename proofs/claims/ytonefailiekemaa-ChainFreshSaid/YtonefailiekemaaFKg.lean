/- ChainFresh, ChainBounds: a round leads to a state; the rounds from a log of rows. -/
import Derived.Test.YtonefailiekemaaFKf
namespace Go.Proofs.Ytonefailiekemaa
open Go Go.Proofs.Aw Go.Proofs.Xw
set_option maxRecDepth 100000
def Rd (s : Nat) (ρ : Rho) : Prop := Lim ρ ∧ ((s = 0 ∧ ρ.b 901 = false) ∨ (s = 1 ∧ ρ.b 901 = true ∧ ρ.b 902 = false ∧ Iv 0 ρ) ∨ (s = 2 ∧ ρ.b 901 = true ∧ ρ.b 902 = true ∧ (1 ≤ ρ.len 201 ∧ ρ.len 201 ≤ 256) ∧ Iv (ρ.len 201) ρ))
def Ss (s : Nat) : XS := match s with
  | 0 => mS hpZ
  | 1 => mS hpN
  | _ => mS hpL
def Me (_ : Nat) (ρ : Rho) : Nat := ρ.len 0 - (ρ.i 200).toNat
theorem next_lim {β : Bind} (hg : β.ge 200 = true) (hi : lassoc 200 β.i = some (.op .add .i64 (.var 200) (.lit 1))) {ρ : Rho} (hL : Lim ρ) (hlt : ρ.i 200 < ρ.len 0) :
    Lim (β.ap ρ) ∧ (∀ a b, Me a (β.ap ρ) < Me b ρ) ∧ Agree 200 ρ (β.ap ρ) := by
  have ag : Agree 200 ρ (β.ap ρ) := Bind.agree hg ρ
  have l0 : (β.ap ρ).len 0 = ρ.len 0 := (ag.len 0 (by decide)).symm
  have h0 := hL.i0
  have h3 := hL.l0
  have hn : (β.ap ρ).i 200 = ρ.i 200 + 1 := by
    rw [ap_i hi]
    simp only [IE.den, IOp.den]
    exact wrap_id _ (by omega) (by omega)
  refine ⟨hL.agree ag (by omega) (by omega), fun a b => ?_, ag⟩
  simp only [Me, l0, hn]
  omega
def Goes (s : Nat) (ρ : Rho) : Prop := ∃ s' ρ', StepF Try.prog mN mC 0 (Ss s) (Ss s') ρ ρ' ∧ Rd s' ρ' ∧ Me s' ρ' < Me s ρ ∧ Agree 200 ρ ρ'
/-- What is known of the state behind a round. -/
def To (s' : Nat) (β : Bind) (ρ : Rho) : Prop := (s' = 0 ∧ lassoc 901 β.b = some (.lit false)) ∨ (s' = 1 ∧ lassoc 901 β.b = some (.lit true) ∧ lassoc 902 β.b = some (.lit false) ∧ Iv 0 (β.ap ρ)) ∨
  (s' = 2 ∧ lassoc 901 β.b = some (.lit true) ∧ lassoc 902 β.b = some (.lit true) ∧ (1 ≤ (β.ap ρ).len 201 ∧ (β.ap ρ).len 201 ≤ 256) ∧ Iv ((β.ap ρ).len 201) (β.ap ρ))
theorem goes {s s' : Nat} {ρ ρ1 : Rho} {c : Cfg} {Φ : Facts} {β : Bind} {nm : List (Nm × Nm)} {L : XS} (hd : (Ss s).den ρ = (Ss s).den ρ1) (ag : Agree 300 ρ ρ1) (cok : CfgOk Try.prog ρ1 c) (hk : Facts.ok ρ1 (Φ ++ (kF ++ limC)))
    (hs : (mRun c Φ (Ss s)).sel ρ1 = some (.normal, L)) (hok : okS 0 200 β nm (Ss s') L = true) (hg : β.ge 200 = true) (hi : lassoc 200 β.i = some (.op .add .i64 (.var 200) (.lit 1))) (hL : Lim ρ1) (hlt : ρ1.i 200 < ρ1.len 0)
    (hR : To s' β ρ1) : Goes s ρ := by
  obtain ⟨g1, g3, g4⟩ := next_lim hg hi hL hlt
  have hM : Me s ρ = Me s ρ1 := by simp only [Me, ag.len 0 (by decide), ag.i 200 (by decide)]
  refine ⟨s', β.ap ρ1, StepF.from hd (stepF_of (S := Ss s) (S' := Ss s) (U := Ss s') (ρ := ρ1) (Φ' := Φ ++ (kF ++ limC)) (body := mC) (ks := mK) (s := L) (fuel := 1000) (ti := c.ti) mixed cok.ti (callS_ok (c := ⟨c, l_able, HFL⟩) cok l_able_ok 12) (LpsOk.nil _ _ _ _) m_fits hk rfl hs hok), ⟨g1, ?_⟩, by rw [hM]; exact g3 _ _, (ag.le (by decide)).trans g4⟩
  rcases hR with ⟨h1, h2⟩ | ⟨h1, h2, h3, h4⟩ | ⟨h1, h2, h3, h4⟩
  · exact .inl ⟨h1, by rw [ap_b h2]; rfl⟩
  · exact .inr (.inl ⟨h1, by rw [ap_b h2]; rfl, by rw [ap_b h3]; rfl, h4⟩)
  · exact .inr (.inr ⟨h1, by rw [ap_b h2]; rfl, by rw [ap_b h3]; rfl, h4⟩)
theorem c0_ok {ρ : Rho} {ks : List (Nat × List X × X)} (h : ∀ p ∈ ks, kOk ρ p) : CfgOk Try.prog ρ (c0 ks) := cfgL_ok h (fun _ _ _ => LpsOk.nil _ _ _ _)
theorem cX_cfg {ρ : Rho} {ks : List (Nat × List X × X)} (h : ∀ p ∈ ks, kOk ρ p) (l1 : LoopOk Try.prog ρ Try.f15.ntmps cX_c cX) (l2 : LoopOk Try.prog ρ Try.f59.ntmps dFx_c dFx) (l3 : LoopOk Try.prog ρ Try.f59.ntmps dS_c dS) : CfgOk Try.prog ρ (cXx ks) := cfgL_ok h (lpX_ok l1 l2 l3)
theorem cR_cfg {ρ : Rho} {ks : List (Nat × List X × X)} (h : ∀ p ∈ ks, kOk ρ p) (l1 : LoopOk Try.prog ρ Try.f15.ntmps cX_c cX) (l2 : LoopOk Try.prog ρ Try.f59.ntmps dFr_c dFr) (l3 : LoopOk Try.prog ρ Try.f59.ntmps dS_c dS) : CfgOk Try.prog ρ (cXr ks) := cfgL_ok h (lpR_ok l1 l2 l3)
abbrev kdE (k : Int) : BE := .eq (.cl 0 0 (.var 200)) (.lit k)
theorem kd_ok {ρ : Rho} {k : Int} (h : (kdE k).den ρ = true) : Facts.ok ρ (kd k) := one_ok h
theorem epF_ok {ρ : Rho} (h : 1 ≤ ρ.i 210) : Facts.ok ρ epF := Facts.ok_cons (by rw [dlt_f]; exact h) (Facts.ok_cons (by rw [deq_f]; simp only [IE.den]; omega) (one_ok (by rw [dlt_t]; simp only [IE.den]; omega)))
theorem lF_ok {ρ : Rho} (h : 1 ≤ ρ.len 201 ∧ ρ.len 201 ≤ 256) : Facts.ok ρ lF := Facts.ok_cons (by rw [dlt_t]; simp only [IE.den]; omega) (one_ok (by rw [dlt_f]; simp only [IE.den]; omega))
theorem hdF_ok {ρ : Rho} (h : 0 ≤ ρ.i 301) (k : ρ.i 301 = ρ.i 206) : Facts.ok ρ hdF := Facts.ok_cons (by rw [dlt_f]; simp only [IE.den]; omega) (one_ok (by rw [deq_t]; exact k))
theorem nhF_ok {ρ : Rho} (k : ¬ ρ.i 301 = ρ.i 206) : Facts.ok ρ nhF := one_ok (by rw [deq_f]; exact k)
theorem dcF_ok {ρ : Rho} (h : 0 ≤ ρ.i 204 ∧ ρ.i 204 < 3) (k : 0 ≤ ρ.i 205 ∧ ρ.i 205 < 3) : Facts.ok ρ dcF :=
  Facts.ok_cons (by rw [dlt_f]; exact h.1) (Facts.ok_cons (by rw [dlt_t]; exact h.2) (Facts.ok_cons (by rw [dlt_f]; exact k.1) (one_ok (by rw [dlt_t]; exact k.2))))
/-- No kind of act: nothing is done. -/
theorem kdX_ok {ρ : Rho} (h : ∀ k ∈ ([1, 2, 3, 4, 5, 6, 7, 8] : List Int), (kdE k).den ρ = false) : Facts.ok ρ kdX := fun p hp => by
  obtain ⟨k, hk, rfl⟩ := List.mem_map.1 hp
  exact h k hk
/-- The kinds of acts. -/
theorem kinds {ρ : Rho} {Q : Prop} (h1 : (kdE 1).den ρ = true → Q) (h2 : (kdE 2).den ρ = true → Q) (h3 : (kdE 3).den ρ = true → Q) (h4 : (kdE 4).den ρ = true → Q) (h5 : (kdE 5).den ρ = true → Q) (h6 : (kdE 6).den ρ = true → Q) (h7 : (kdE 7).den ρ = true → Q) (h8 : (kdE 8).den ρ = true → Q)
    (h0 : (∀ k ∈ ([1, 2, 3, 4, 5, 6, 7, 8] : List Int), (kdE k).den ρ = false) → Q) : Q := by
  by_cases c1 : (kdE 1).den ρ = true
  · exact h1 c1
  by_cases c2 : (kdE 2).den ρ = true
  · exact h2 c2
  by_cases c3 : (kdE 3).den ρ = true
  · exact h3 c3
  by_cases c4 : (kdE 4).den ρ = true
  · exact h4 c4
  by_cases c5 : (kdE 5).den ρ = true
  · exact h5 c5
  by_cases c6 : (kdE 6).den ρ = true
  · exact h6 c6
  by_cases c7 : (kdE 7).den ρ = true
  · exact h7 c7
  by_cases c8 : (kdE 8).den ρ = true
  · exact h8 c8
  refine h0 fun k hk => ?_
  simp only [List.mem_cons, List.not_mem_nil, or_false] at hk
  rcases hk with rfl | rfl | rfl | rfl | rfl | rfl | rfl | rfl
  all_goals (apply Bool.eq_false_iff.2; assumption)
/-- A truth, or not. -/
theorem dec {ρ : Rho} {Q : Prop} (c : BE) (h1 : c.den ρ = true → Q) (h2 : c.den ρ = false → Q) : Q := by
  cases h : c.den ρ with
  | true => exact h1 h
  | false => exact h2 h
end Go.Proofs.Ytonefailiekemaa
