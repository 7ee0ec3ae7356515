/- ChainBounds: what the rounds keep. -/
import Derived.Test.YtonefailiekemaaGKe
import Derived.Test.YtonefailiekemaaFBb
namespace Go.Proofs.Ytonefailiekemaa
open Go Go.Proofs.Aw Go.Proofs.Xw
set_option maxRecDepth 100000
theorem iden_ite (ρ : Rho) (c : BE) (a b : IE) : (IE.ite c a b).den ρ = if c.den ρ = true then a.den ρ else b.den ρ := rfl
structure Lim (ρ : Rho) : Prop where
  b : ρ.b 90 = false
  l0 : ρ.len 0 ≤ 400
  i0 : 0 ≤ ρ.i 200
  i1 : ρ.i 200 ≤ ρ.len 0
theorem Lim.agree {ρ ρ' : Rho} (h : Agree 200 ρ ρ') (k : Lim ρ) (h0 : 0 ≤ ρ'.i 200) (h1 : ρ'.i 200 ≤ ρ.len 0) : Lim ρ' :=
  ⟨by rw [← h.b 90 (by decide)]; exact k.b, by rw [← h.len 0 (by decide)]; exact k.l0, h0, by rw [← h.len 0 (by decide)]; exact h1⟩
theorem all_ok {ρ : Rho} {Φ Ψ : Facts} (h : Facts.ok ρ Φ) (k : Facts.ok ρ Ψ) : Facts.ok ρ (Φ ++ Ψ) := fun p hp => (List.mem_append.1 hp).elim (h p) (k p)
theorem one_ok {ρ : Rho} {c : BE} {v : Bool} (h : c.den ρ = v) : Facts.ok ρ [(c, v)] := Facts.ok_cons h (Facts.ok_nil _)
theorem kF_ok {ρ : Rho} (h : Lim ρ) (hi : ρ.i 200 < ρ.len 0) : Facts.ok ρ (kF ++ limC) := by
  obtain ⟨hb, l0, i0, _⟩ := h
  refine all_ok (Facts.ok_cons ?_ (Facts.ok_cons ?_ (Facts.ok_nil _))) (Facts.ok_cons hb (Facts.ok_cons ?_ (Facts.ok_nil _)))
  · rw [dlt_f]; exact i0
  · rw [dlt_t]; exact hi
  · rw [dlt_f]; simp only [IE.den]; omega

/-! ### The chain stays, or is the one that was handed in -/
theorem IE.beq_den {a b : IE} (h : a.beq b = true) (ρ : Rho) : a.den ρ = b.den ρ := by rw [IE.beq_eq _ _ h]
theorem cfgIs_den {β : Bind} {f : Nat → IE} {g : BE} (h : cfgIs β f g = true) (ρ : Rho) : (∀ k ∈ ([0, 1, 2, 3, 4, 5, 6, 7, 8, 9, 11, 12] : List Nat), (β.ap ρ).i (210 + k) = (f k).den ρ) ∧ (β.ap ρ).b 220 = g.den ρ ∧ (β.ap ρ).i 206 = ρ.i 206 := by
  unfold cfgIs at h
  rw [Bool.and_eq_true, Bool.and_eq_true] at h
  obtain ⟨h1, h2, h3⟩ := h
  refine ⟨fun k hk => ?_, ?_, ?_⟩
  · have := List.all_eq_true.1 h1 k hk
    split at this
    · rename_i e he
      rw [ap_i he]; exact IE.beq_den this ρ
    · cases this
  · split at h2
    · rename_i e he
      rw [ap_b he, BE.beq_eq _ _ h2]
    · cases h2
  · split at h3
    · rename_i e he
      rw [ap_i he]; exact IE.beq_den h3 ρ
    · cases h3
theorem agree14 {ρ ρ' : Rho} {β γ : Bind} (h0 : Agree 14 ρ ρ') (hi : ∀ k, k < 14 → k ≠ 10 → (β.ap ρ).i k = (γ.ap ρ').i k) (hi' : (β.ap ρ).i 10 = (γ.ap ρ').i 10) (hb : ∀ k, k < 14 → (β.ap ρ).b k = (γ.ap ρ').b k) (hs : β.s = []) (hs' : γ.s = []) (hr : β.r = []) (hr' : γ.r = []) : Agree 14 (β.ap ρ) (γ.ap ρ') := by
  refine ⟨fun k hk => ?_, hb, fun k hk => ?_, fun k hk => ?_, fun k hk => ?_, fun k hk => ?_, fun k hk => ?_⟩
  · by_cases h : k = 10
    · subst h; exact hi'
    · exact hi k hk h
  · simp only [Bind.ap, hs, hs', lassoc]; exact h0.s k hk
  · simp only [Bind.ap, hr, hr', lassoc]; exact h0.len k hk
  · simp only [Bind.ap, hr, hr', lassoc]; funext c j; rw [h0.ci k hk]
  · simp only [Bind.ap, hr, hr', lassoc]; funext c j; rw [h0.cb k hk]
  · simp only [Bind.ap, hr, hr', lassoc]; funext c j; rw [h0.cs k hk]
theorem below14 {P : Nat → Prop} (h : ∀ k ∈ ([0, 1, 2, 3, 4, 5, 6, 7, 8, 9, 10, 11, 12, 13] : List Nat), P k) : ∀ k, k < 14 → P k := fun k hk => h k (by
  obtain rfl | rfl | rfl | rfl | rfl | rfl | rfl | rfl | rfl | rfl | rfl | rfl | rfl | rfl : k = 0 ∨ k = 1 ∨ k = 2 ∨ k = 3 ∨ k = 4 ∨ k = 5 ∨ k = 6 ∨ k = 7 ∨ k = 8 ∨ k = 9 ∨ k = 10 ∨ k = 11 ∨ k = 12 ∨ k = 13 := by omega
  all_goals decide)
theorem cfg_same {β : Bind} (h : cfgIs β fC0 (.var 220) = true) (hg : β.ge 200 = true) (ρ : Rho) : Agree 14 ((bC (.var 206)).ap ρ) ((bC (.var 206)).ap (β.ap ρ)) := by
  have ag : Agree 200 ρ (β.ap ρ) := Bind.agree hg ρ
  obtain ⟨h1, h2, h3⟩ := cfgIs_den h ρ
  have c := fun k hk => (h1 k hk).symm
  refine agree14 (ag.le (by decide)) (fun k hk h10 => ?_) (ag.i 10 (by decide)) (below14 ?_) rfl rfl rfl rfl
  · obtain rfl | rfl | rfl | rfl | rfl | rfl | rfl | rfl | rfl | rfl | rfl | rfl | rfl : k = 0 ∨ k = 1 ∨ k = 2 ∨ k = 3 ∨ k = 4 ∨ k = 5 ∨ k = 6 ∨ k = 7 ∨ k = 8 ∨ k = 9 ∨ k = 11 ∨ k = 12 ∨ k = 13 := by omega
    · exact c 0 (by decide)
    · exact c 1 (by decide)
    · exact c 2 (by decide)
    · exact c 3 (by decide)
    · exact c 4 (by decide)
    · exact c 5 (by decide)
    · exact c 6 (by decide)
    · exact c 7 (by decide)
    · exact c 8 (by decide)
    · exact c 9 (by decide)
    · exact c 11 (by decide)
    · exact c 12 (by decide)
    · exact h3.symm
  · intro k hk
    simp only [List.mem_cons, List.not_mem_nil, or_false] at hk
    rcases hk with rfl | rfl | rfl | rfl | rfl | rfl | rfl | rfl | rfl | rfl | rfl | rfl | rfl | rfl
    all_goals first | exact h2.symm | exact ag.b _ (by decide)
theorem cfg_new {β : Bind} (h : cfgIs β fA0 (.cl 0 15 (.var 200)) = true) (hg : β.ge 200 = true) (ρ : Rho) : Agree 14 (bA.ap ρ) ((bC (.var 206)).ap (β.ap ρ)) := by
  have ag : Agree 200 ρ (β.ap ρ) := Bind.agree hg ρ
  obtain ⟨h1, h2, h3⟩ := cfgIs_den h ρ
  have c := fun k hk => (h1 k hk).symm
  refine agree14 (ag.le (by decide)) (fun k hk h10 => ?_) (ag.i 10 (by decide)) (below14 ?_) rfl rfl rfl rfl
  · obtain rfl | rfl | rfl | rfl | rfl | rfl | rfl | rfl | rfl | rfl | rfl | rfl | rfl : k = 0 ∨ k = 1 ∨ k = 2 ∨ k = 3 ∨ k = 4 ∨ k = 5 ∨ k = 6 ∨ k = 7 ∨ k = 8 ∨ k = 9 ∨ k = 11 ∨ k = 12 ∨ k = 13 := by omega
    · exact c 0 (by decide)
    · exact c 1 (by decide)
    · exact c 2 (by decide)
    · exact c 3 (by decide)
    · exact c 4 (by decide)
    · exact c 5 (by decide)
    · exact c 6 (by decide)
    · exact c 7 (by decide)
    · exact c 8 (by decide)
    · exact c 9 (by decide)
    · exact c 11 (by decide)
    · exact c 12 (by decide)
    · exact h3.symm
  · intro k hk
    simp only [List.mem_cons, List.not_mem_nil, or_false] at hk
    rcases hk with rfl | rfl | rfl | rfl | rfl | rfl | rfl | rfl | rfl | rfl | rfl | rfl | rfl | rfl
    all_goals first | exact h2.symm | exact ag.b _ (by decide)
theorem rgB_bel : rgB.bel 14 = true := by kernel_rfl
theorem lsE_bel : lsE.bel 14 = true := by kernel_rfl
theorem Cf.agree {ρ ρ' : Rho} (h : Agree 300 ρ ρ') (k : Cf ρ) : Cf ρ' ∧ lsV ρ' = lsV ρ := by
  have a : Agree 14 ((bC (.var 206)).ap ρ) ((bC (.var 206)).ap ρ') := by
    refine agree14 (h.le (by decide)) (fun k hk h10 => ?_) (h.i 10 (by decide)) (below14 ?_) rfl rfl rfl rfl
    · obtain rfl | rfl | rfl | rfl | rfl | rfl | rfl | rfl | rfl | rfl | rfl | rfl | rfl : k = 0 ∨ k = 1 ∨ k = 2 ∨ k = 3 ∨ k = 4 ∨ k = 5 ∨ k = 6 ∨ k = 7 ∨ k = 8 ∨ k = 9 ∨ k = 11 ∨ k = 12 ∨ k = 13 := by omega
      all_goals exact h.i _ (by decide)
    · intro k hk
      simp only [List.mem_cons, List.not_mem_nil, or_false] at hk
      rcases hk with rfl | rfl | rfl | rfl | rfl | rfl | rfl | rfl | rfl | rfl | rfl | rfl | rfl | rfl
      all_goals exact h.b _ (by decide)
  unfold Cf lsV at *
  rw [← BE.bel_den a rgB rgB_bel, ← IE.bel_den a lsE lsE_bel]
  exact ⟨k, rfl⟩

/-! ### What is kept -/
/-- n: how long the log is. -/
structure Iv (n : Int) (ρ : Rho) : Prop where
  cf : Cf ρ
  b0 : 0 ≤ ρ.i 224
  b1 : ρ.i 224 ≤ ρ.i 225
  d1 : ρ.i 225 ≤ n
  s0 : 0 ≤ ρ.i 226
  s1 : ρ.i 226 ≤ ρ.i 225
  eq : ρ.i 229 = ρ.i 226
  st : lsV ρ = ρ.i 206 → (ρ.b 220 = false → ρ.i 226 = ρ.i 225) ∧ (ρ.b 220 = true → ρ.i 224 ≤ ρ.i 226)
theorem Iv.agree {n : Int} {ρ ρ' : Rho} (h : Agree 300 ρ ρ') (k : Iv n ρ) : Iv n ρ' := by
  obtain ⟨c1, c2⟩ := k.cf.agree h
  have e1 := h.i 224 (by decide)
  have e2 := h.i 225 (by decide)
  have e3 := h.i 226 (by decide)
  have e4 := h.i 229 (by decide)
  have e5 := h.i 206 (by decide)
  have e6 := h.b 220 (by decide)
  refine ⟨c1, e1 ▸ k.b0, e1 ▸ e2 ▸ k.b1, e2 ▸ k.d1, e3 ▸ k.s0, e3 ▸ e2 ▸ k.s1, e4 ▸ e3 ▸ k.eq, ?_⟩
  rw [c2, ← e5, ← e6, ← e3, ← e2, ← e1]
  exact k.st
/-- What settling makes stable. -/
def stl (p : Prop) [Decidable p] (J : Bool) (x d b : Int) : Int := if p then (if J = true then max x b else d) else x
theorem stlC_den {ρ : Rho} {l : Nat} {J : BE} {x d b : IE} (h : 0 ≤ ρ.i l) : (IE.ite (.not (.and (.not (.lt (.var 206) (.lit 0))) (.eq (.var l) (.var 206)))) x (.ite (.not J) d (.op .max .i64 x b))).den ρ = stl (ρ.i l = ρ.i 206) (J.den ρ) (x.den ρ) (d.den ρ) (b.den ρ) := by
  unfold stl
  simp only [IE.den, IOp.den, dnot_t, dand_f, dnot_f, dlt_t, deq_f]
  by_cases hp : ρ.i l = ρ.i 206
  · rw [if_neg (by omega), if_pos hp]
    cases J.den ρ <;> rfl
  · rw [if_pos (.inr hp), if_neg hp]
theorem stlD_den {ρ : Rho} {l : Nat} {J : BE} {x d b : IE} : (IE.ite (.not (.eq (.var l) (.var 206))) x (.ite (.not J) d (.op .max .i64 x b))).den ρ = stl (ρ.i l = ρ.i 206) (J.den ρ) (x.den ρ) (d.den ρ) (b.den ρ) := by
  unfold stl
  simp only [IE.den, IOp.den, dnot_t, deq_f]
  by_cases hp : ρ.i l = ρ.i 206
  · rw [if_neg (fun h => h hp), if_pos hp]
    cases J.den ρ <;> rfl
  · rw [if_pos hp, if_neg hp]
theorem stlE_den {ρ : Rho} {l : Nat} {J : BE} {x d b e : IE} (h : 0 < e.den ρ) : (IE.ite (.not (.and (.lt (.lit 0) e) (.eq (.var l) (.var 206)))) x (.ite (.not J) d (.op .max .i64 x b))).den ρ = stl (ρ.i l = ρ.i 206) (J.den ρ) (x.den ρ) (d.den ρ) (b.den ρ) := by
  unfold stl
  simp only [IE.den, IOp.den, dnot_t, dand_f, dlt_f, deq_f]
  by_cases hp : ρ.i l = ρ.i 206
  · rw [if_neg (by omega), if_pos hp]
    cases J.den ρ <;> rfl
  · rw [if_pos (.inr hp), if_neg hp]
/-- A round in which the chain stays: durable is D, stable is what settling makes of x. -/
theorem iv_same0 {β : Bind} (hc : cfgIs β fC0 (.var 220) = true) (hg : β.ge 200 = true) {ρ : Rho} {n n' : Int} (k : Iv n ρ) {D x : Int} (p : Prop) [Decidable p] (hp : p ↔ lsV ρ = ρ.i 206) (hb : (β.ap ρ).i 224 = ρ.i 224) (hd : (β.ap ρ).i 225 = D)
    (hs : (β.ap ρ).i 226 = stl p (ρ.b 220) x D (ρ.i 224)) (hs' : (β.ap ρ).i 229 = (β.ap ρ).i 226) (h1 : ρ.i 225 ≤ D) (h2 : D ≤ n') (h3 : ρ.i 226 ≤ x) (h4 : x ≤ D) : Iv n' (β.ap ρ) := by
  obtain ⟨_, g2, g3⟩ := cfgIs_den hc ρ
  have a := cfg_same hc hg ρ
  have e1 : lsV (β.ap ρ) = lsV ρ := by unfold lsV; exact (IE.bel_den a lsE lsE_bel).symm
  have b0 := k.b0
  have b1 := k.b1
  have s0 := k.s0
  have g2 : (β.ap ρ).b 220 = ρ.b 220 := g2
  have hx : (β.ap ρ).i 226 ≤ D ∧ 0 ≤ (β.ap ρ).i 226 := by
    rw [hs]; unfold stl
    split
    · split <;> omega
    · omega
  refine ⟨?_, by omega, by omega, by omega, hx.2, by omega, hs', ?_⟩
  · have := k.cf
    unfold Cf at *
    rw [← BE.bel_den a rgB rgB_bel]; exact this
  · rw [e1, g3, g2, hs, hd, hb]
    intro hl
    unfold stl
    rw [if_pos (hp.2 hl)]
    refine ⟨fun h => by rw [h]; rfl, fun h => by rw [if_pos h]; omega⟩
/-- A round in which another chain is taken up. -/
theorem iv_new0 {β : Bind} (hc : cfgIs β fA0 (.cl 0 15 (.var 200)) = true) (hg : β.ge 200 = true) {ρ : Rho} {n' : Int} (hr : rgB.den (bA.ap ρ) = true) {D x : Int} (p : Prop) [Decidable p] (hp : p ↔ lsE.den (bA.ap ρ) = ρ.i 206) (hb : (β.ap ρ).i 224 = D) (hd : (β.ap ρ).i 225 = D)
    (hs : (β.ap ρ).i 226 = stl p ((BE.cl 0 15 (.var 200)).den ρ) x D D) (hs' : (β.ap ρ).i 229 = (β.ap ρ).i 226) (h2 : D ≤ n') (h3 : 0 ≤ x) (h4 : x ≤ D) : Iv n' (β.ap ρ) := by
  obtain ⟨_, g2, g3⟩ := cfgIs_den hc ρ
  have a := cfg_new hc hg ρ
  have e1 : lsV (β.ap ρ) = lsE.den (bA.ap ρ) := by unfold lsV; exact (IE.bel_den a lsE lsE_bel).symm
  have hx : (β.ap ρ).i 226 ≤ D ∧ 0 ≤ (β.ap ρ).i 226 := by
    rw [hs]; unfold stl
    split
    · split <;> omega
    · omega
  refine ⟨?_, by omega, by omega, by omega, hx.2, by omega, hs', ?_⟩
  · unfold Cf
    rw [← BE.bel_den a rgB rgB_bel]; exact hr
  · rw [e1, g3, g2, hs, hd, hb]
    intro hl
    unfold stl
    rw [if_pos (hp.2 hl)]
    refine ⟨fun h => by rw [h]; rfl, fun h => by rw [if_pos h]; omega⟩
/-- Nothing turns. -/
theorem iv_x0 {β : Bind} (hc : cfgIs β fC0 (.var 220) = true) (hg : β.ge 200 = true) {ρ : Rho} {n : Int} (k : Iv n ρ) (h4 : lassoc 224 β.i = some (.var 224)) (h5 : lassoc 225 β.i = some (.var 225)) (h6 : lassoc 226 β.i = some (.var 226)) (h9 : lassoc 229 β.i = some (.var 229)) : Iv n (β.ap ρ) := by
  obtain ⟨_, g2, g3⟩ := cfgIs_den hc ρ
  have a := cfg_same hc hg ρ
  have e1 : lsV (β.ap ρ) = lsV ρ := by unfold lsV; exact (IE.bel_den a lsE lsE_bel).symm
  have g2 : (β.ap ρ).b 220 = ρ.b 220 := g2
  have i4 : (β.ap ρ).i 224 = ρ.i 224 := ap_i h4
  have i5 : (β.ap ρ).i 225 = ρ.i 225 := ap_i h5
  have i6 : (β.ap ρ).i 226 = ρ.i 226 := ap_i h6
  have i9 : (β.ap ρ).i 229 = ρ.i 229 := ap_i h9
  refine ⟨?_, by rw [i4]; exact k.b0, by rw [i4, i5]; exact k.b1, by rw [i5]; exact k.d1, by rw [i6]; exact k.s0, by rw [i6, i5]; exact k.s1, by rw [i9, i6]; exact k.eq, by rw [e1, g3, g2, i6, i5, i4]; exact k.st⟩
  have := k.cf
  unfold Cf at *
  rw [← BE.bel_den a rgB rgB_bel]; exact this
theorem stl_id {p : Prop} [Decidable p] {J : Bool} {x d b : Int} (h : p → (J = false → x = d) ∧ (J = true → b ≤ x)) : stl p J x d b = x := by
  unfold stl
  split
  · rename_i hp
    obtain ⟨h1, h2⟩ := h hp
    cases J with
    | true => have := h2 rfl; simp only [if_true]; omega
    | false => have := h1 rfl; simp only [Bool.false_eq_true, if_false]; omega
  · rfl
/-- What is kept; and unless the chain came in anew, what is stable stays so. -/
def Iw (n : Int) (β : Bind) (ρ : Rho) : Prop := Iv n (β.ap ρ) ∧ (lassoc 223 β.i = some (.var 223) → ρ.i 226 ≤ (β.ap ρ).i 226)
theorem stl_le {p : Prop} [Decidable p] {J : Bool} {a x d b : Int} (h1 : a ≤ x) (h2 : x ≤ d) : a ≤ stl p J x d b := by
  unfold stl
  split
  · split <;> omega
  · exact h1
theorem iv_same {β : Bind} (hc : cfgIs β fC0 (.var 220) = true) (hg : β.ge 200 = true) {ρ : Rho} {n n' : Int} (k : Iv n ρ) {D x : Int} (p : Prop) [Decidable p] (hp : p ↔ lsV ρ = ρ.i 206) (hb : (β.ap ρ).i 224 = ρ.i 224) (hd : (β.ap ρ).i 225 = D)
    (hs : (β.ap ρ).i 226 = stl p (ρ.b 220) x D (ρ.i 224)) (hs' : (β.ap ρ).i 229 = (β.ap ρ).i 226) (h1 : ρ.i 225 ≤ D) (h2 : D ≤ n') (h3 : ρ.i 226 ≤ x) (h4 : x ≤ D) : Iw n' β ρ :=
  ⟨iv_same0 hc hg k p hp hb hd hs hs' h1 h2 h3 h4, fun _ => by rw [hs]; exact stl_le h3 h4⟩
theorem iv_new {β : Bind} (hc : cfgIs β fA0 (.cl 0 15 (.var 200)) = true) (hg : β.ge 200 = true) {ρ : Rho} {n' : Int} (hr : rgB.den (bA.ap ρ) = true) {D x : Int} (p : Prop) [Decidable p] (hp : p ↔ lsE.den (bA.ap ρ) = ρ.i 206) (hb : (β.ap ρ).i 224 = D) (hd : (β.ap ρ).i 225 = D)
    (hs : (β.ap ρ).i 226 = stl p ((BE.cl 0 15 (.var 200)).den ρ) x D D) (hs' : (β.ap ρ).i 229 = (β.ap ρ).i 226) (h2 : D ≤ n') (h3 : 0 ≤ x) (h4 : x ≤ D) (hm : lassoc 223 β.i = some (.var 223) → ρ.i 226 ≤ x) : Iw n' β ρ :=
  ⟨iv_new0 hc hg hr p hp hb hd hs hs' h2 h3 h4, fun h => by rw [hs]; exact stl_le (hm h) h4⟩
theorem iv_x {β : Bind} (hc : cfgIs β fC0 (.var 220) = true) (hg : β.ge 200 = true) {ρ : Rho} {n : Int} (k : Iv n ρ) (h4 : lassoc 224 β.i = some (.var 224)) (h5 : lassoc 225 β.i = some (.var 225)) (h6 : lassoc 226 β.i = some (.var 226)) (h9 : lassoc 229 β.i = some (.var 229)) : Iw n β ρ :=
  ⟨iv_x0 hc hg k h4 h5 h6 h9, fun _ => by rw [ap_i h6]; exact Int.le_refl _⟩
end Go.Proofs.Ytonefailiekemaa
