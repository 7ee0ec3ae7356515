/- ChainNumbers: the loop over acts is shown. -/
import Derived.Test.YtonefailiekemaaXNc
namespace Go.Proofs.Ytonefailiekemaa
open Go Go.Proofs.Aw Go.Proofs.Xw
set_option maxRecDepth 100000
structure Lim (ρ : Rho) : Prop where
  b : ρ.b 90 = false
  l0 : ρ.len 0 ≤ 400
  i0 : 0 ≤ ρ.i 200
  i1 : ρ.i 200 ≤ ρ.len 0
theorem Lim.agree {ρ ρ' : Rho} (h : Agree 200 ρ ρ') (k : Lim ρ) (h0 : 0 ≤ ρ'.i 200) (h1 : ρ'.i 200 ≤ ρ.len 0) : Lim ρ' :=
  ⟨by rw [← h.b 90 (by decide)]; exact k.b, by rw [← h.len 0 (by decide)]; exact k.l0, h0, by rw [← h.len 0 (by decide)]; exact h1⟩
theorem all_ok {ρ : Rho} {Φ Ψ : Facts} (h : Facts.ok ρ Φ) (k : Facts.ok ρ Ψ) : Facts.ok ρ (Φ ++ Ψ) := fun p hp => (List.mem_append.1 hp).elim (h p) (k p)
/-- At the loop's head: no log, or a log of numbered writes. -/
def Rd (s : Nat) (ρ : Rho) : Prop := Lim ρ ∧ ((s = 0 ∧ ρ.b 901 = false) ∨ (s = 1 ∧ ρ.b 901 = true ∧ Lg ρ))
def Ss (s : Nat) : XS := match s with
  | 0 => mS0
  | _ => mS1
def Me (_ : Nat) (ρ : Rho) : Nat := ρ.len 0 - (ρ.i 200).toNat
theorem kF_ok {ρ : Rho} (h : Lim ρ) (hi : ρ.i 200 < ρ.len 0) : Facts.ok ρ (kF ++ limC) := by
  obtain ⟨hb, l0, i0, _⟩ := h
  refine all_ok (Facts.ok_cons ?_ (Facts.ok_cons ?_ (Facts.ok_nil _))) (Facts.ok_cons hb (Facts.ok_cons ?_ (Facts.ok_nil _)))
  · rw [dlt_f]; exact i0
  · rw [dlt_t]; exact hi
  · rw [dlt_f]; simp only [IE.den]; omega
theorem next_lim {β : Bind} (hg : β.ge 200 = true) (hi : lassoc 200 β.i = some (.op .add .i64 (.var 200) (.lit 1))) {ρ : Rho} (hL : Lim ρ) (hlt : ρ.i 200 < ρ.len 0) :
    Lim (β.ap ρ) ∧ (∀ a b, Me a (β.ap ρ) < Me b ρ) ∧ Agree 200 ρ (β.ap ρ) := by
  have ag : Agree 200 ρ (β.ap ρ) := Bind.agree hg ρ
  have l0 : (β.ap ρ).len 0 = ρ.len 0 := (ag.len 0 (by decide)).symm
  have h0 := hL.i0
  have h3 := hL.l0
  have hn : (β.ap ρ).i 200 = ρ.i 200 + 1 := by
    rw [ap_i hi]
    simp only [IE.den, IOp.den]
    exact wrap_id _ (by omega) (by omega)
  refine ⟨hL.agree ag (by omega) (by omega), fun a b => ?_, ag⟩
  simp only [Me, l0, hn]
  omega
def Goes (s : Nat) (ρ : Rho) : Prop := ∃ s' ρ', StepF Try.prog Try.f4.ntmps mC 0 (Ss s) (Ss s') ρ ρ' ∧ Rd s' ρ' ∧ Me s' ρ' < Me s ρ ∧ Agree 200 ρ ρ'
/-- A round leads to a state. -/
theorem goes {s s' : Nat} {ρ ρ1 : Rho} {c : Cfg} {Φ : Facts} {β : Bind} {nm : List (Nm × Nm)} {L : XS} (hd : (Ss s).den ρ = (Ss s).den ρ1) (ag : Agree 200 ρ ρ1) (hM : Me s ρ = Me s ρ1) (cok : CfgOk Try.prog ρ1 c) (hk : Facts.ok ρ1 (Φ ++ (kF ++ limC)))
    (hs : (mRun c Φ (Ss s)).sel ρ1 = some (.normal, L)) (hok : okS 0 200 β nm (Ss s') L = true) (hg : β.ge 200 = true) (hi : lassoc 200 β.i = some (.op .add .i64 (.var 200) (.lit 1))) (hL : Lim ρ1) (hlt : ρ1.i 200 < ρ1.len 0)
    (hR : (s' = 0 ∧ lassoc 901 β.b = some (.lit false)) ∨ (s' = 1 ∧ lassoc 901 β.b = some (.lit true) ∧ Lg (β.ap ρ1))) : Goes s ρ := by
  obtain ⟨g1, g3, g4⟩ := next_lim hg hi hL hlt
  refine ⟨s', β.ap ρ1, StepF.from hd (stepF_of (S := Ss s) (S' := Ss s) (U := Ss s') (ρ := ρ1) (Φ' := Φ ++ (kF ++ limC)) (body := mC) (ks := mK) (s := L) (fuel := 1000) (ms := (c.ft 4).elim [] (·.ms)) (ti := c.ti) mixed cok.ti (callS_ok (c := ⟨c, l_able, HFL⟩) cok l_able_ok 12) (LpsOk.nil _ _ _ _) m_fits hk rfl hs hok), ⟨g1, ?_⟩, by rw [hM]; exact g3 _ _, ag.trans g4⟩
  rcases hR with ⟨h1, h2⟩ | ⟨h1, h2, h3⟩
  · exact .inl ⟨h1, by rw [ap_b h2]; rfl⟩
  · exact .inr ⟨h1, by rw [ap_b h2]; rfl, h3⟩
theorem c0_ok {ρ : Rho} {ks : List (Nat × List X × X)} (h : ∀ p ∈ ks, kOk ρ p) : CfgOk Try.prog ρ (c0 ks) := cfgL_ok h (fun _ _ _ => LpsOk.nil _ _ _ _)
theorem cB_ok {ρ : Rho} {ks : List (Nat × List X × X)} (h : ∀ p ∈ ks, kOk ρ p) (l : LoopOk Try.prog ρ Try.f15.ntmps cX_c cX) : CfgOk Try.prog ρ (cB ks) := cfgL_ok h (lpB_ok l)
theorem ks_nil {ρ : Rho} : ∀ p ∈ ([] : List (Nat × List X × X)), kOk ρ p := List.forall_mem_nil _
theorem ks_cons {ρ : Rho} {q : Nat × List X × X} {ks : List (Nat × List X × X)} (h : kOk ρ q) (k : ∀ p ∈ ks, kOk ρ p) : ∀ p ∈ q :: ks, kOk ρ p := List.forall_mem_cons.2 ⟨h, k⟩
abbrev jE : BE := .eq (.cl 0 0 (.var 200)) (.lit 3)
theorem jT_ok {ρ : Rho} (h : jE.den ρ = true) : Facts.ok ρ jT := Facts.ok_cons h (Facts.ok_nil _)
theorem jF_ok {ρ : Rho} (h : jE.den ρ = false) : Facts.ok ρ jF := Facts.ok_cons h (Facts.ok_nil _)
theorem dcF_ok {ρ : Rho} (h : 0 ≤ ρ.i 0 ∧ ρ.i 0 < 3) (k : 0 ≤ ρ.i 1 ∧ ρ.i 1 < 3) : Facts.ok ρ dcF :=
  Facts.ok_cons (by rw [dlt_f]; exact h.1) (Facts.ok_cons (by rw [dlt_t]; exact h.2) (Facts.ok_cons (by rw [dlt_f]; exact k.1) (Facts.ok_cons (by rw [dlt_t]; exact k.2) (Facts.ok_nil _))))
def act (ρ : Rho) (k : Nat) : Int := ρ.ci 0 k (ρ.i 200).toNat
theorem eF_ok {ρ : Rho} (h : 0 ≤ act ρ 30 ∧ act ρ 30 < 3) : Facts.ok ρ eF := Facts.ok_cons (by rw [dlt_f]; exact h.1) (Facts.ok_cons (by rw [dlt_t]; exact h.2) (Facts.ok_nil _))
theorem bE_I0 : lassoc 0 (bE eI).i = some (.cl 0 30 (.var 200)) := by kernel_rfl
theorem bE_I1 : lassoc 1 (bE eI).i = some (.cl 0 31 (.var 200)) := by kernel_rfl
/-- The write of elsewhere: right or not. -/
theorem eI_ks (ρ : Rho) : (kOk ρ (eT eI) ∧ (0 ≤ act ρ 30 ∧ act ρ 30 < 3) ∧ (0 ≤ act ρ 31 ∧ act ρ 31 < 3)) ∨ kOk ρ (eZ eI) := by
  have := re_ks (e := eI) (by kernel_rfl) (by kernel_rfl) ρ
  rw [ap_i bE_I0, ap_i bE_I1] at this
  exact this
theorem iN1s1_r : lassoc 201 iN1s1b.r = some (.lit 1, .one (scsOf (aggOf eI))) := by kernel_rfl
theorem pN1s1_r : lassoc 201 pN1s1b.r = some (.lit 1, .one (scsOf (aggOf eN0))) := by kernel_rfl
theorem iT1s1_r : lassoc 201 iT1s1b.r = some (.op .padd .i64 (.len 201) (.lit 1), .app (.len 201) (.var 201 ke) (.one (scsOf (aggOf eI)))) := by kernel_rfl
theorem pY1s1_r : lassoc 201 pY1s1b.r = some (.op .padd .i64 (.len 201) (.lit 1), .app (.len 201) (.var 201 ke) (.one (scsOf (aggOf eN1)))) := by kernel_rfl
theorem iT1s0_r : lassoc 201 iT1s0b.r = some (.len 201, .var 201 ke) := by kernel_rfl
theorem iT0s0_r : lassoc 201 iT0s0b.r = some (.len 201, .var 201 ke) := by kernel_rfl
theorem pFs0_r : lassoc 201 pFs0b.r = some (.len 201, .var 201 ke) := by kernel_rfl
theorem pZs0_r : lassoc 201 pZs0b.r = some (.len 201, .var 201 ke) := by kernel_rfl
theorem pY0s0_r : lassoc 201 pY0s0b.r = some (.len 201, .var 201 ke) := by kernel_rfl
theorem pY1s0_r : lassoc 201 pY1s0b.r = some (.len 201, .var 201 ke) := by kernel_rfl
/-- The cells of the write of elsewhere. -/
theorem eI_v (ρ : Rho) (k : Nat) (hk : k < 3) (hr : rg ρ < 3) : ec ρ (scsOf (aggOf eI)) (9 + (3 * k + rg ρ)) = act ρ (39 + (3 * k + rg ρ)) := by
  obtain h | h | h : k = 0 ∨ k = 1 ∨ k = 2 := by omega
  all_goals subst h
  all_goals (obtain h | h | h : rg ρ = 0 ∨ rg ρ = 1 ∨ rg ρ = 2 := by omega)
  all_goals (rw [h]; rfl)
theorem e0_v (ρ : Rho) (k : Nat) (hk : k < 3) (hr : rg ρ < 3) : ec ρ (scsOf (aggOf eN0)) (9 + (3 * k + rg ρ)) = max (max 0 (act ρ (21 + (3 * k + rg ρ)))) 0 := by
  obtain h | h | h : k = 0 ∨ k = 1 ∨ k = 2 := by omega
  all_goals subst h
  all_goals (obtain h | h | h : rg ρ = 0 ∨ rg ρ = 1 ∨ rg ρ = 2 := by omega)
  all_goals (rw [h]; rfl)
theorem e1_v (ρ : Rho) (k : Nat) (hk : k < 3) (hr : rg ρ < 3) : ec ρ (scsOf (aggOf eN1)) (9 + (3 * k + rg ρ)) = max (max 0 (act ρ (21 + (3 * k + rg ρ)))) (ρ.i (311 + (3 * k + rg ρ))) := by
  obtain h | h | h : k = 0 ∨ k = 1 ∨ k = 2 := by omega
  all_goals subst h
  all_goals (obtain h | h | h : rg ρ = 0 ∨ rg ρ = 1 ∨ rg ρ = 2 := by omega)
  all_goals (rw [h]; rfl)
theorem one3 {d : Int} (h : 0 ≤ d ∧ d < 3) : d = 0 ∨ d = 1 ∨ d = 2 := by omega
/-- Nothing of a part lies above nothing. -/
theorem low0 {ρ : Rho} {a b c : IE} (hr : 0 ≤ ρ.i 1 ∧ ρ.i 1 < 3) (g : Nat → Int) (ha : a.den ρ = g 0) (hb : b.den ρ = g 1) (hc : c.den ρ = g 2) (h : (BE.ite (.eq (.var 1) (.lit 0)) (.lt (.lit 0) a) (.ite (.eq (.var 1) (.lit 1)) (.lt (.lit 0) b) (.lt (.lit 0) c))).den ρ = false) : g (rg ρ) ≤ 0 := by
  simp only [dite_f, dite_t, deq_t, deq_f, dlt_f, IE.den, ha, hb, hc] at h
  unfold rg
  rcases one3 hr with h1 | h1 | h1 <;> simp [h1] at h ⊢ <;> exact h
theorem lowE {ρ : Rho} {a b c : IE} {k : Nat} (hr : 0 ≤ ρ.i 1 ∧ ρ.i 1 < 3) (g : Nat → Int) (ha : a.den ρ = g 0) (hb : b.den ρ = g 1) (hc : c.den ρ = g 2) (h : (BE.lt (.var k) (.ite (.eq (.var 1) (.lit 0)) a (.ite (.eq (.var 1) (.lit 1)) b c))).den ρ = false) : g (rg ρ) ≤ ρ.i k := by
  simp only [dlt_f, deq_t, IE.den, ha, hb, hc] at h
  unfold rg
  rcases one3 hr with h1 | h1 | h1 <;> simp [h1] at h ⊢ <;> exact h
theorem rngc {ρ : Rho} (hr : 0 ≤ ρ.i 1 ∧ ρ.i 1 < 3) : (BE.and (.not (.lt (.var 1) (.lit 0))) (.lt (.var 1) (.lit 3))).den ρ = true := by
  rw [dand_t, dnot_t, dlt_f, dlt_t]; exact hr
theorem lowF {ρ : Rho} {a b c : IE} {k : Nat} (hr : 0 ≤ ρ.i 1 ∧ ρ.i 1 < 3) (g : Nat → Int) (ha : a.den ρ = g 0) (hb : b.den ρ = g 1) (hc : c.den ρ = g 2) (h : (BE.lt (.var k) (.ite (.and (.not (.lt (.var 1) (.lit 0))) (.lt (.var 1) (.lit 3))) (.ite (.eq (.var 1) (.lit 0)) a (.ite (.eq (.var 1) (.lit 1)) b c)) (.lit 0))).den ρ = false) : g (rg ρ) ≤ ρ.i k := by
  refine lowE (k := k) hr g ha hb hc ?_
  rw [dlt_f] at h ⊢
  rw [iden_ite, if_pos (rngc hr)] at h
  exact h
theorem low1 {ρ : Rho} {a b c : IE} (hr : 0 ≤ ρ.i 1 ∧ ρ.i 1 < 3) (g : Nat → Int) (ha : a.den ρ = g 0) (hb : b.den ρ = g 1) (hc : c.den ρ = g 2) (h : (BE.and (.and (.not (.lt (.var 1) (.lit 0))) (.lt (.var 1) (.lit 3))) (.ite (.eq (.var 1) (.lit 0)) (.lt (.lit 0) a) (.ite (.eq (.var 1) (.lit 1)) (.lt (.lit 0) b) (.lt (.lit 0) c)))).den ρ = false) : g (rg ρ) ≤ 0 := by
  rw [dand_f, rngc hr] at h
  exact low0 hr g ha hb hc (h.resolve_left (by decide))
theorem three {P : Nat → Prop} (h0 : P 0) (h1 : P 1) (h2 : P 2) : ∀ k : Nat, k < 3 → P k := fun k hk => by
  obtain rfl | rfl | rfl : k = 0 ∨ k = 1 ∨ k = 2 := by omega
  · exact h0
  · exact h1
  · exact h2
/-- A column's number. -/
theorem pick3 {ρ : Rho} {x : IE} (g : Nat → Int) (hx : 0 ≤ x.den ρ ∧ x.den ρ < 3) (h : ∀ k : Nat, k < 3 → ρ.i (301 + k) = g k) : (IE.ite (.eq x (.lit 0)) (.var 301) (.ite (.eq x (.lit 1)) (.var 302) (.var 303))).den ρ = g (x.den ρ).toNat := by
  have h0 := h 0 (by decide)
  have h1 := h 1 (by decide)
  have h2 := h 2 (by decide)
  simp only [deq_t, IE.den]
  rcases one3 hx with e | e | e <;> simp [e]
  · exact h0
  · exact h1
  · exact h2
theorem step0 {ρ : Rho} (hL : Lim ρ) (hi : ρ.i 200 < ρ.len 0) : Goes 0 ρ := by
  have hk := kF_ok hL hi
  cases hj : jE.den ρ with
  | true =>
    rcases eI_ks ρ with ⟨k, hd, hr⟩ | k
    · have hF := all_ok (all_ok (jT_ok hj) (eF_ok hd)) hk
      cases hc : iN1c0.den ρ with
      | true => exact goes (s' := 0) (c := c0 [eT eI]) rfl (Agree.refl _ _) rfl (c0_ok (ks_cons k ks_nil)) hF (L := iN1s0) (by show (mRun _ _ mS0).sel ρ = _; rw [iN1_run]; unfold iN1; rw [T.sel, if_pos hc]; rfl) iN1s0_ok iN1s0_g iN1s0_i hL hi (.inl ⟨rfl, iN1s0_b⟩)
      | false =>
        have hc2 := hc
        unfold iN1c0 at hc2
        rw [dor_f, dor_f, dor_f, dor_f, dor_f, dor_f, dnot_f, deq_t, deq_f, dnot_f, dlt_t, dlt_f] at hc2
        obtain ⟨⟨c1, c2⟩, ⟨c3, c4⟩, c5, c6, c7⟩ := hc2
        have hr1 : act ρ 31 = ρ.i 1 := c1
        have hrg : 0 ≤ ρ.i 1 ∧ ρ.i 1 < 3 := by rw [← hr1]; exact hr
        have c5 := low1 hrg (fun r => act ρ (39 + (3 * 0 + r))) rfl rfl rfl c5
        have c6 := low1 hrg (fun r => act ρ (39 + (3 * 1 + r))) rfl rfl rfl c6
        have c7 := low1 hrg (fun r => act ρ (39 + (3 * 2 + r))) rfl rfl rfl c7
        have hr3 : rg ρ < 3 := by unfold rg; omega
        have hS : act ρ 32 = 1 := by
          have c3 : 0 < act ρ 32 := c3
          have c4 : act ρ 32 ≤ 1 := c4
          omega
        refine goes (s' := 1) (c := c0 [eT eI]) rfl (Agree.refl _ _) rfl (c0_ok (ks_cons k ks_nil)) hF (L := iN1s1) (by show (mRun _ _ mS0).sel ρ = _; rw [iN1_run]; unfold iN1; rw [T.sel, if_neg (by simp [hc])]; rfl) iN1s1_ok iN1s1_g iN1s1_i hL hi (.inr ⟨rfl, iN1s1_b, ?_⟩)
        refine one_lg iN1s1_g iN1s1_r (by kernel_rfl) hrg (re_of (by kernel_rfl) k) hd hr1 hS (fun k hk => ?_) (fun hdc => absurd hdc c2)
        rw [eI_v ρ k hk hr3]
        exact three (P := fun k => act ρ (39 + (3 * k + rg ρ)) ≤ 0) c5 c6 c7 k hk
    · exact goes (s' := 0) (c := c0 [eZ eI]) rfl (Agree.refl _ _) rfl (c0_ok (ks_cons k ks_nil)) (all_ok (jT_ok hj) hk) (L := iN0s0) (by show (mRun _ _ mS0).sel ρ = _; rw [iN0_run]; rfl) iN0s0_ok iN0s0_g iN0s0_i hL hi (.inl ⟨rfl, iN0s0_b⟩)
  | false =>
    cases ho : okE.den ρ with
    | false => exact goes (s' := 0) (c := c0 []) rfl (Agree.refl _ _) rfl (c0_ok ks_nil) (all_ok (all_ok (jF_ok hj) (show Facts.ok ρ nkF from Facts.ok_cons ho (Facts.ok_nil _))) hk) (L := pNzs0) (by show (mRun _ _ mS0).sel ρ = _; rw [pNz_run]; rfl) pNzs0_ok pNzs0_g pNzs0_i hL hi (.inl ⟨rfl, pNzs0_b⟩)
    | true =>
      have ho2 := ho
      unfold okE at ho2
      rw [dand_t, dand_t, dand_t, dand_t, dand_t, dnot_t, dlt_f, dnot_t, dlt_f, dnot_t, dlt_f, dlt_t, dnot_t, dlt_f, dlt_t] at ho2
      obtain ⟨⟨⟨⟨⟨q1, q2⟩, q3⟩, q4⟩, q5⟩, q6⟩ := ho2
      have hF := all_ok (all_ok (all_ok (jF_ok hj) (show Facts.ok ρ okF from Facts.ok_cons (by rw [dlt_f]; exact q1) (Facts.ok_cons (by rw [dlt_f]; exact q2) (Facts.ok_nil _)))) (dcF_ok ⟨q3, q4⟩ ⟨q5, q6⟩)) hk
      rcases re_ks (e := eN0) (by kernel_rfl) (by kernel_rfl) ρ with ⟨k, _, _⟩ | k
      · cases hc : pN1c0.den ρ with
        | true => exact goes (s' := 0) (c := c0 [eT eN0]) rfl (Agree.refl _ _) rfl (c0_ok (ks_cons k ks_nil)) hF (L := pN1s0) (by show (mRun _ _ mS0).sel ρ = _; rw [pN1_run]; unfold pN1; rw [T.sel, if_pos hc]; rfl) pN1s0_ok pN1s0_g pN1s0_i hL hi (.inl ⟨rfl, pN1s0_b⟩)
        | false =>
          have hc2 := hc
          unfold pN1c0 at hc2
          rw [dor_f, dor_f] at hc2
          obtain ⟨c5, c6, c7⟩ := hc2
          have hrg : 0 ≤ ρ.i 1 ∧ ρ.i 1 < 3 := ⟨q5, q6⟩
          have c5 := low0 hrg (fun r => act ρ (21 + (3 * 0 + r))) rfl rfl rfl c5
          have c6 := low0 hrg (fun r => act ρ (21 + (3 * 1 + r))) rfl rfl rfl c6
          have c7 := low0 hrg (fun r => act ρ (21 + (3 * 2 + r))) rfl rfl rfl c7
          have hr3 : rg ρ < 3 := by unfold rg; omega
          have hv : ∀ k : Nat, k < 3 → ec ρ (scsOf (aggOf eN0)) (9 + (3 * k + rg ρ)) = 0 := fun k hk => by
            rw [e0_v ρ k hk hr3]
            have := three (P := fun k => act ρ (21 + (3 * k + rg ρ)) ≤ 0) c5 c6 c7 k hk
            omega
          refine goes (s' := 1) (c := c0 [eT eN0]) rfl (Agree.refl _ _) rfl (c0_ok (ks_cons k ks_nil)) hF (L := pN1s1) (by show (mRun _ _ mS0).sel ρ = _; rw [pN1_run]; unfold pN1; rw [T.sel, if_neg (by simp [hc])]; rfl) pN1s1_ok pN1s1_g pN1s1_i hL hi (.inr ⟨rfl, pN1s1_b, ?_⟩)
          exact one_lg pN1s1_g pN1s1_r (by kernel_rfl) hrg (re_of (by kernel_rfl) k) ⟨q3, q4⟩ rfl rfl (fun k hk => by rw [hv k hk]; exact Int.le_refl 0) (fun _ => ⟨hv, q1⟩)
      · exact goes (s' := 0) (c := c0 [eZ eN0]) rfl (Agree.refl _ _) rfl (c0_ok (ks_cons k ks_nil)) hF (L := pN0s0) (by show (mRun _ _ mS0).sel ρ = _; rw [pN0_run]; rfl) pN0s0_ok pN0s0_g pN0s0_i hL hi (.inl ⟨rfl, pN0s0_b⟩)
theorem mS1_bel : mS1.bel 300 = true := by kernel_rfl
theorem step1 {ρ : Rho} (hL : Lim ρ) (hi : ρ.i 200 < ρ.len 0) (hg : Lg ρ) : Goes 1 ρ := by
  obtain ⟨ρ1, hk0⟩ := round_ks ρ hg
  obtain ⟨ag, n340, hf, hcol, hpast, hks, hlp, hnx⟩ := hk0
  have hd : (Ss 1).den ρ = (Ss 1).den ρ1 := XS.bel_den ag mS1 mS1_bel
  have a0 := ag.len 0 (by decide)
  have a2 := ag.len 201 (by decide)
  have a3 := ag.i 200 (by decide)
  have a4 := ag.i 0 (by decide)
  have a5 := ag.i 1 (by decide)
  have a6 := ag.ci 201 (by decide)
  have aM : Me 1 ρ = Me 1 ρ1 := by simp only [Me, a0, a3]
  have ag2 : Agree 200 ρ ρ1 := ag.le (by decide)
  have hL1 : Lim ρ1 := hL.agree ag2 (by rw [← a3]; exact hL.i0) (by rw [← a3]; exact hL.i1)
  have hg1 : Lg ρ1 := hg.agree ag
  have hce : ∀ k, colE ρ k = colE ρ1 k := fun k => by unfold colE; rw [a6, a2]
  have hrg : rg ρ = rg ρ1 := by unfold rg; rw [a5]
  rw [hrg] at hpast
  simp only [hce] at hcol hpast
  rw [a0, a3] at hi
  rw [a2] at n340 hf
  rw [a4, a6, a2] at hnx
  have hk := kF_ok hL1 hi
  have hl1 := hg1.l1
  have hl2 := hg1.l2
  have hr := hg1.r
  have hr3 : rg ρ1 < 3 := by unfold rg; omega
  have hlF : Facts.ok ρ1 lF := Facts.ok_cons (by rw [dlt_t]; simp only [IE.den]; omega) (Facts.ok_cons (by rw [dlt_f]; simp only [IE.den]; omega) (Facts.ok_nil _))
  clear hg hL ag hrg hce a0 a2 a3 a4 a5 a6
  cases hj : jE.den ρ1 with
  | true =>
    rcases eI_ks ρ1 with ⟨k, hdd, _⟩ | k
    · have hF := all_ok (all_ok (all_ok (jT_ok hj) (eF_ok hdd)) hlF) hk
      cases hc : iT1c0.den ρ1 with
      | true => exact goes (s' := 1) (c := cB (eT eI :: ksC)) hd ag2 aM (cB_ok (ks_cons k hks) hlp) hF (L := iT1s0) (by show (mRun _ _ mS1).sel ρ1 = _; rw [iT1_run]; unfold iT1; rw [T.sel, if_pos hc]; rfl) iT1s0_ok iT1s0_g iT1s0_i hL1 hi (.inr ⟨rfl, iT1s0_b, same_lg iT1s0_g iT1s0_r hg1⟩)
      | false =>
        have hc2 := hc
        unfold iT1c0 at hc2
        rw [dor_f, dor_f, dor_f, dor_f, dor_f, dor_f, dor_f, dnot_f, deq_t, deq_f, dnot_f, dnot_f] at hc2
        obtain ⟨⟨c1, c2⟩, ⟨c3, c4⟩, ⟨c5, c6, c7⟩, c8⟩ := hc2
        have p3 := pick3 (ρ := ρ1) (x := .cl 0 30 (.var 200)) (colE ρ1) hdd hcol
        rw [dlt_t, p3] at c3
        rw [dlt_f, show ∀ a : IE, (IE.op .add .i64 a (.lit 1)).den ρ1 = IntKind.i64.wrap (a.den ρ1 + 1) from fun _ => rfl, p3] at c4
        have e30 : (((IE.cl 0 30 (.var 200)).den ρ1).toNat : Int) = act ρ1 30 := by
          show ((act ρ1 30).toNat : Int) = _
          omega
        have cle := cnt_le (ρ1.ci 201 0) (act ρ1 30) (ρ1.len 201)
        have cnn := cnt_nn (ρ1.ci 201 0) (act ρ1 30) (ρ1.len 201)
        unfold colE at c3 c4
        rw [e30] at c3 c4
        rw [wrap_id _ (by omega) (by omega)] at c4
        have c5 := lowF hr (fun r => act ρ1 (39 + (3 * 0 + r))) rfl rfl rfl c5
        have c6 := lowF hr (fun r => act ρ1 (39 + (3 * 1 + r))) rfl rfl rfl c6
        have c7 := lowF hr (fun r => act ρ1 (39 + (3 * 2 + r))) rfl rfl rfl c7
        rw [hcol 0 (by decide)] at c5
        rw [hcol 1 (by decide)] at c6
        rw [hcol 2 (by decide)] at c7
        rw [dlt_t] at c8
        refine goes (s' := 1) (c := cB (eT eI :: ksC)) hd ag2 aM (cB_ok (ks_cons k hks) hlp) hF (L := iT1s1) (by show (mRun _ _ mS1).sel ρ1 = _; rw [iT1_run]; unfold iT1; rw [T.sel, if_neg (by simp [hc])]; rfl) iT1s1_ok iT1s1_g iT1s1_i hL1 hi (.inr ⟨rfl, iT1s1_b, ?_⟩)
        refine more_lg iT1s1_g iT1s1_r (by kernel_rfl) hg1 (by simp only [IE.den] at c8; omega) (re_of (by kernel_rfl) k) hdd c1 ?_ (fun k hk => ?_) (fun hdc => absurd hdc c2)
        · show act ρ1 32 = cnt (ρ1.ci 201 0) (ρ1.len 201) (act ρ1 30) + 1
          have c3 : cnt (ρ1.ci 201 0) (ρ1.len 201) (act ρ1 30) < act ρ1 32 := c3
          have c4 : act ρ1 32 ≤ cnt (ρ1.ci 201 0) (ρ1.len 201) (act ρ1 30) + 1 := c4
          omega
        · rw [eI_v ρ1 k hk hr3]
          exact three (P := fun k => act ρ1 (39 + (3 * k + rg ρ1)) ≤ colE ρ1 k) c5 c6 c7 k hk
    · exact goes (s' := 1) (c := cB (eZ eI :: ksC)) hd ag2 aM (cB_ok (ks_cons k hks) hlp) (all_ok (all_ok (jT_ok hj) hlF) hk) (L := iT0s0) (by show (mRun _ _ mS1).sel ρ1 = _; rw [iT0_run]; rfl) iT0s0_ok iT0s0_g iT0s0_i hL1 hi (.inr ⟨rfl, iT0s0_b, same_lg iT0s0_g iT0s0_r hg1⟩)
  | false =>
    rcases hf with ⟨h1, h2⟩ | h1
    · have hfd : Facts.ok ρ1 fdF := Facts.ok_cons (by rw [dlt_f]; exact h1) (Facts.ok_cons (by rw [dlt_t]; exact h2) (Facts.ok_cons (by rw [dlt_f]; simp only [IE.den]; omega) (Facts.ok_cons (by rw [dlt_t]; simp only [IE.den]; omega) (Facts.ok_cons (by rw [dlt_f]; simp only [IE.den]; omega) (Facts.ok_nil _)))))
      exact goes (s' := 1) (c := cB ksC) hd ag2 aM (cB_ok hks hlp) (all_ok (all_ok (jF_ok hj) hfd) hk) (L := pFs0) (by show (mRun _ _ mS1).sel ρ1 = _; rw [pF_run]; rfl) pFs0_ok pFs0_g pFs0_i hL1 hi (.inr ⟨rfl, pFs0_b, same_lg pFs0_g pFs0_r hg1⟩)
    · have hnf : Facts.ok ρ1 nfF := Facts.ok_cons (by rw [deq_t]; exact h1) hlF
      have hn : (BE.not (.lt (.var 340) (.len 201))).den ρ1 = true := by
        rw [dnot_t, dlt_f]
        simp only [IE.den]
        omega
      rcases hnx with ⟨hdc, h351, hC, kY⟩ | kZ
      · have hF := all_ok (all_ok (all_ok (jF_ok hj) (dcF_ok hdc hr)) hnf) hk
        rcases re_ks (e := eN1) (by kernel_rfl) (by kernel_rfl) ρ1 with ⟨k, _, _⟩ | k
        · cases hc : pY1c1.den ρ1 with
          | true => exact goes (s' := 1) (c := cB (eT eN1 :: ksY :: ksC)) hd ag2 aM (cB_ok (ks_cons k (ks_cons kY hks)) hlp) hF (L := pY1s0) (by show (mRun _ _ mS1).sel ρ1 = _; rw [pY1_run]; unfold pY1; rw [T.sel, if_pos (show pY1c0.den ρ1 = true from hn), T.sel, if_pos hc]; rfl) pY1s0_ok pY1s0_g pY1s0_i hL1 hi (.inr ⟨rfl, pY1s0_b, same_lg pY1s0_g pY1s0_r hg1⟩)
          | false =>
            have hc2 := hc
            unfold pY1c1 at hc2
            rw [dor_f, dor_f, dor_f, dnot_f] at hc2
            obtain ⟨⟨c5, c6, c7⟩, c8⟩ := hc2
            have c5 := lowE hr (fun r => act ρ1 (21 + (3 * 0 + r))) rfl rfl rfl c5
            have c6 := lowE hr (fun r => act ρ1 (21 + (3 * 1 + r))) rfl rfl rfl c6
            have c7 := lowE hr (fun r => act ρ1 (21 + (3 * 2 + r))) rfl rfl rfl c7
            rw [hcol 0 (by decide)] at c5
            rw [hcol 1 (by decide)] at c6
            rw [hcol 2 (by decide)] at c7
            rw [dlt_t] at c8
            have hv : ∀ k : Nat, k < 3 → ec ρ1 (scsOf (aggOf eN1)) (9 + (3 * k + rg ρ1)) = colE ρ1 k := fun k hk => by
              rw [e1_v ρ1 k hk hr3, hpast k hk]
              have := three (P := fun k => act ρ1 (21 + (3 * k + rg ρ1)) ≤ colE ρ1 k) c5 c6 c7 k hk
              have := cnt_nn (ρ1.ci 201 0) k (ρ1.len 201)
              unfold colE at *
              omega
            have p3 := pick3 (ρ := ρ1) (x := .var 0) (colE ρ1) hdc hcol
            have e0 : (((IE.var 0).den ρ1).toNat : Int) = ρ1.i 0 := by
              show ((ρ1.i 0).toNat : Int) = _
              omega
            refine goes (s' := 1) (c := cB (eT eN1 :: ksY :: ksC)) hd ag2 aM (cB_ok (ks_cons k (ks_cons kY hks)) hlp) hF (L := pY1s1) (by show (mRun _ _ mS1).sel ρ1 = _; rw [pY1_run]; unfold pY1; rw [T.sel, if_pos (show pY1c0.den ρ1 = true from hn), T.sel, if_neg (by simp [hc])]; rfl) pY1s1_ok pY1s1_g pY1s1_i hL1 hi (.inr ⟨rfl, pY1s1_b, ?_⟩)
            refine more_lg pY1s1_g pY1s1_r (by kernel_rfl) hg1 (by simp only [IE.den] at c8; omega) (re_of (by kernel_rfl) k) hdc rfl ?_ (fun k hk => by rw [hv k hk]; exact Int.le_refl _) (fun _ => ⟨hv, h351, hC⟩)
            show (IE.op .add .i64 (.ite (.eq (.var 0) (.lit 0)) (.var 301) (.ite (.eq (.var 0) (.lit 1)) (.var 302) (.var 303))) (.lit 1)).den ρ1 = cnt (ρ1.ci 201 0) (ρ1.len 201) (ρ1.i 0) + 1
            rw [show ∀ a : IE, (IE.op .add .i64 a (.lit 1)).den ρ1 = IntKind.i64.wrap (a.den ρ1 + 1) from fun _ => rfl, p3]
            unfold colE
            rw [e0]
            have := cnt_nn (ρ1.ci 201 0) (ρ1.i 0) (ρ1.len 201)
            have := cnt_le (ρ1.ci 201 0) (ρ1.i 0) (ρ1.len 201)
            exact wrap_id _ (by omega) (by omega)
        · exact goes (s' := 1) (c := cB (eZ eN1 :: ksY :: ksC)) hd ag2 aM (cB_ok (ks_cons k (ks_cons kY hks)) hlp) hF (L := pY0s0) (by show (mRun _ _ mS1).sel ρ1 = _; rw [pY0_run]; unfold pY0; rw [T.sel, if_pos (show pY0c0.den ρ1 = true from hn)]; rfl) pY0s0_ok pY0s0_g pY0s0_i hL1 hi (.inr ⟨rfl, pY0s0_b, same_lg pY0s0_g pY0s0_r hg1⟩)
      · exact goes (s' := 1) (c := cB (ksZ :: ksC)) hd ag2 aM (cB_ok (ks_cons kZ hks) hlp) (all_ok (all_ok (jF_ok hj) hnf) hk) (L := pZs0) (by show (mRun _ _ mS1).sel ρ1 = _; rw [pZ_run]; unfold pZ; rw [T.sel, if_pos (show pZc0.den ρ1 = true from hn)]; rfl) pZs0_ok pZs0_g pZs0_i hL1 hi (.inr ⟨rfl, pZs0_b, same_lg pZs0_g pZs0_r hg1⟩)
/-- The loop's end. -/
theorem end_of {ρ : Rho} {Φ : Facts} {S s o : XS} (hk : Facts.ok ρ Φ) (hs : xRun Φ S = .ret (.exit 0, s)) (ho : cM.out.sel ρ = some (.exit 0, o)) (h : okS 0 1000 noB [] o s = true) : EndL Try.prog Try.f4.ntmps mC 0 S cM.out ρ := by
  have hsel : (xRun Φ S).sel ρ = some (.exit 0, s) := by rw [hs]; rfl
  exact endF_of (e := .exit 0) mixed tis_ok (callC HFL ρ) (LpsOk.nil _ _ _ _) m_fits hk rfl (fun h => nomatch h) hsel ⟨o, ho, fun E hb => okS_imp hb h ρ⟩
theorem out0 {ρ : Rho} (h9 : ρ.b 901 = false) : cM.out.sel ρ = some (.exit 0, o0) := by
  show (T.br (.var 901) _ _).sel ρ = _
  rw [T.sel, if_neg (by simp [BE.den, h9])]; rfl
theorem out1 {ρ : Rho} (h9 : ρ.b 901 = true) : cM.out.sel ρ = some (.exit 0, o1) := by
  show (T.br (.var 901) _ _).sel ρ = _
  rw [T.sel, if_pos (by simp [BE.den, h9])]; rfl
theorem cM_ok (ρ : Rho) (hb : ρ.b 90 = false) (h0 : ρ.len 0 ≤ 400) : ∃ i ρf, Agree 200 ρ ρf ∧ Rd i ρf ∧ LoopOk Try.prog ρf Try.f4.ntmps mC cM := by
  refine loopOk_fam (L := cM) rfl mSi_b Ss Rd Me ?_ ⟨0, bI.ap ρ, Bind.agree rfl ρ, ⟨⟨hb, h0, Int.le_refl 0, ?_⟩, .inl ⟨rfl, rfl⟩⟩, fun E _ hE => okS_imp hE mSi_ok ρ⟩
  · have xk : ∀ {ρ : Rho}, ¬ ρ.i 200 < ρ.len 0 → Facts.ok ρ x0F := fun {ρ} hi => Facts.ok_cons (by rw [dlt_f]; simp only [IE.den]; omega) (Facts.ok_nil _)
    rintro i ρ ⟨hL, ⟨rfl, h9⟩ | ⟨rfl, h9, hg⟩⟩
    · by_cases hi : ρ.i 200 < ρ.len 0
      · exact .inr (step0 hL hi)
      · exact .inl ⟨ρ, Agree.refl _ _, ⟨hL, .inl ⟨rfl, h9⟩⟩, rfl, end_of (xk hi) x0_run (out0 h9) x0_ok⟩
    · by_cases hi : ρ.i 200 < ρ.len 0
      · exact .inr (step1 hL hi hg)
      · exact .inl ⟨ρ, Agree.refl _ _, ⟨hL, .inr ⟨rfl, h9, hg⟩⟩, rfl, end_of (xk hi) x1_run (out1 h9) x1_ok⟩
  · show (0 : Int) ≤ ρ.len 0
    omega
end Go.Proofs.Ytonefailiekemaa
