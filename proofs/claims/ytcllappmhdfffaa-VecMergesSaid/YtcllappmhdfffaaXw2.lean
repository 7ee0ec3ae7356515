/- Symbolic runs, part 2: what is known on a way; ways. -/
import Derived.Test.YtcllappmhdfffaaXw1
namespace Go.Proofs.Xw
open Go Go.Proofs.Aw

abbrev Facts := List (BE × Bool)
def Facts.ok (ρ : Rho) (Φ : Facts) : Prop := ∀ p ∈ Φ, p.1.den ρ = p.2
theorem Facts.ok_nil (ρ : Rho) : Facts.ok ρ [] := fun _ h => by cases h
theorem Facts.ok_cons {ρ : Rho} {c : BE} {v : Bool} {Φ : Facts} (h : c.den ρ = v) (hk : Facts.ok ρ Φ) : Facts.ok ρ ((c, v) :: Φ) := fun p hp => by
  rcases List.mem_cons.1 hp with rfl | hp
  · exact h
  · exact hk p hp
theorem Facts.ok_tail {ρ : Rho} {p : BE × Bool} {Φ : Facts} (h : Facts.ok ρ (p :: Φ)) : p.1.den ρ = p.2 ∧ Facts.ok ρ Φ := ⟨h p List.mem_cons_self, fun q hq => h q (List.mem_cons_of_mem _ hq)⟩

/-! ### Bounds -/
structure Iv where
  lo : Option Int
  hi : Option Int
def Iv.ok (v : Iv) (x : Int) : Prop := (∀ l, v.lo = some l → l ≤ x) ∧ (∀ h, v.hi = some h → x ≤ h)
def omax : Option Int → Option Int → Option Int
  | some a, some b => some (if a < b then b else a)
  | some a, none => some a
  | none, b => b
def omin : Option Int → Option Int → Option Int
  | some a, some b => some (if b < a then b else a)
  | some a, none => some a
  | none, b => b
def Iv.meet (a b : Iv) : Iv := ⟨omax a.lo b.lo, omin a.hi b.hi⟩
theorem Iv.meet_ok {a b : Iv} {x : Int} (ha : a.ok x) (hb : b.ok x) : (a.meet b).ok x := by
  obtain ⟨al, ah⟩ := a
  obtain ⟨bl, bh⟩ := b
  refine ⟨fun l hl => ?_, fun h hh => ?_⟩
  · cases al <;> cases bl <;> simp only [Iv.meet, omax, Option.some.injEq, reduceCtorEq] at hl
    · exact hb.1 _ (by simp [hl])
    · exact ha.1 _ (by simp [hl])
    · subst hl; split
      · exact hb.1 _ rfl
      · exact ha.1 _ rfl
  · cases ah <;> cases bh <;> simp only [Iv.meet, omin, Option.some.injEq, reduceCtorEq] at hh
    · exact hb.2 _ (by simp [hh])
    · exact ha.2 _ (by simp [hh])
    · subst hh; split
      · exact hb.2 _ rfl
      · exact ha.2 _ rfl
/-- The bounds of e that a fact tells. -/
def ivFact (e : IE) : BE × Bool → Iv
  | (.lt a (.lit n), true) => if a.beq e = true then ⟨none, some (n - 1)⟩ else ⟨none, none⟩
  | (.lt a (.lit n), false) => if a.beq e = true then ⟨some n, none⟩ else ⟨none, none⟩
  | (.lt (.lit n) a, true) => if a.beq e = true then ⟨some (n + 1), none⟩ else ⟨none, none⟩
  | (.lt (.lit n) a, false) => if a.beq e = true then ⟨none, some n⟩ else ⟨none, none⟩
  | (.eq a (.lit n), true) => if a.beq e = true then ⟨some n, some n⟩ else ⟨none, none⟩
  | _ => ⟨none, none⟩
theorem Iv.none_ok (x : Int) : Iv.ok ⟨none, none⟩ x := ⟨fun _ h => (by cases h), fun _ h => (by cases h)⟩
theorem ivFact_ok {ρ : Rho} {e : IE} {p : BE × Bool} (h : p.1.den ρ = p.2) : (ivFact e p).ok (e.den ρ) := by
  unfold ivFact
  split
  · split
    · rename_i hb
      rw [← IE.beq_eq _ _ hb]
      have h := of_decide_eq_true h
      simp only [IE.den] at h
      exact ⟨fun _ hh => (by cases hh), fun _ hh => (by cases hh; omega)⟩
    · exact Iv.none_ok _
  · split
    · rename_i hb
      rw [← IE.beq_eq _ _ hb]
      have h := of_decide_eq_false h
      simp only [IE.den] at h
      exact ⟨fun _ hh => (by cases hh; omega), fun _ hh => (by cases hh)⟩
    · exact Iv.none_ok _
  · split
    · rename_i hb
      rw [← IE.beq_eq _ _ hb]
      have h := of_decide_eq_true h
      simp only [IE.den] at h
      exact ⟨fun _ hh => (by cases hh; omega), fun _ hh => (by cases hh)⟩
    · exact Iv.none_ok _
  · split
    · rename_i hb
      rw [← IE.beq_eq _ _ hb]
      have h := of_decide_eq_false h
      simp only [IE.den] at h
      exact ⟨fun _ hh => (by cases hh), fun _ hh => (by cases hh; omega)⟩
    · exact Iv.none_ok _
  · split
    · rename_i hb
      rw [← IE.beq_eq _ _ hb]
      simp only [BE.den, IE.den, beq_iff_eq] at h
      exact ⟨fun _ hh => (by cases hh; omega), fun _ hh => (by cases hh; omega)⟩
    · exact Iv.none_ok _
  · exact Iv.none_ok _
def ivBase : IE → Iv
  | .lit n => ⟨some n, some n⟩
  | .len _ => ⟨some 0, none⟩
  | .slen _ => ⟨some 0, none⟩
  | .byt _ _ => ⟨some 0, some 255⟩
  | _ => ⟨none, none⟩
theorem ivBase_ok (ρ : Rho) (e : IE) : (ivBase e).ok (e.den ρ) := by
  unfold ivBase
  split
  · exact ⟨fun _ hh => (by cases hh; simp [IE.den]), fun _ hh => (by cases hh; simp [IE.den])⟩
  · exact ⟨fun _ hh => (by cases hh; simp [IE.den]), fun _ hh => (by cases hh)⟩
  · exact ⟨fun _ hh => (by cases hh; simp [IE.den]), fun _ hh => (by cases hh)⟩
  · refine ⟨fun _ hh => (by cases hh; simp [IE.den]), fun _ hh => ?_⟩
    cases hh
    simp only [IE.den]
    have := UInt8.toNat_lt ((((TE.den ρ ‹TE›)[(IE.den ρ ‹IE›).toNat]?).getD 0))
    omega
  · exact Iv.none_ok _
def ivAll (e : IE) : Facts → Iv
  | [] => ivBase e
  | p :: Φ => (ivFact e p).meet (ivAll e Φ)
theorem ivAll_ok {ρ : Rho} {e : IE} : ∀ {Φ : Facts}, Facts.ok ρ Φ → (ivAll e Φ).ok (e.den ρ)
  | [], _ => ivBase_ok ρ e
  | _ :: _, h => Iv.meet_ok (ivFact_ok (Facts.ok_tail h).1) (ivAll_ok (Facts.ok_tail h).2)
def ivLt (a b : Iv) : Option Bool :=
  match a.hi, b.lo with
  | some h, some l => if h < l then some true else (match a.lo, b.hi with | some l', some h' => if h' ≤ l' then some false else none | _, _ => none)
  | _, _ => match a.lo, b.hi with | some l', some h' => if h' ≤ l' then some false else none | _, _ => none
theorem ivLt_ok {a b : Iv} {x y : Int} {r : Bool} (ha : a.ok x) (hb : b.ok y) (h : ivLt a b = some r) : decide (x < y) = r := by
  unfold ivLt at h
  split at h
  · rename_i hh l h1 h2
    have := ha.2 _ h1
    have := hb.1 _ h2
    split at h
    · cases h; exact decide_eq_true (by omega)
    · split at h
      · rename_i h3 h4
        have := ha.1 _ h3
        have := hb.2 _ h4
        split at h
        · cases h; exact decide_eq_false (by omega)
        · cases h
      · cases h
  · split at h
    · rename_i h3 h4
      have := ha.1 _ h3
      have := hb.2 _ h4
      split at h
      · cases h; exact decide_eq_false (by omega)
      · cases h
    · cases h
def ivEq (a b : Iv) : Option Bool :=
  match ivLt a b, ivLt b a with
  | some true, _ => some false
  | _, some true => some false
  | some false, some false => some true
  | _, _ => none
theorem ivEq_ok {a b : Iv} {x y : Int} {r : Bool} (ha : a.ok x) (hb : b.ok y) (h : ivEq a b = some r) : (x == y) = r := by
  unfold ivEq at h
  split at h
  · rename_i h1
    have := ivLt_ok ha hb h1
    cases h; simp only [decide_eq_true_eq] at this
    exact beq_eq_false_iff_ne.2 (by omega)
  · rename_i h1 _
    have := ivLt_ok hb ha h1
    cases h; simp only [decide_eq_true_eq] at this
    exact beq_eq_false_iff_ne.2 (by omega)
  · rename_i h1 h2
    have := ivLt_ok ha hb h1
    have := ivLt_ok hb ha h2
    cases h; simp only [decide_eq_false_iff_not] at *
    exact beq_iff_eq.2 (by omega)
  · cases h

/-- Bounds of sums, out of those of the parts. -/
def oadd : Option Int → Option Int → Option Int
  | some a, some b => some (a + b)
  | _, _ => none
def ivS (Φ : Facts) : IE → Iv
  | .op .padd k a b => (ivAll (.op .padd k a b) Φ).meet ⟨oadd (ivS Φ a).lo (ivS Φ b).lo, oadd (ivS Φ a).hi (ivS Φ b).hi⟩
  | e => ivAll e Φ
theorem oadd_some {a b : Option Int} {c : Int} (h : oadd a b = some c) : ∃ x y, a = some x ∧ b = some y ∧ c = x + y := by
  unfold oadd at h
  split at h
  · cases h; exact ⟨_, _, rfl, rfl, rfl⟩
  · cases h
theorem ivS_ok {ρ : Rho} {Φ : Facts} (hk : Facts.ok ρ Φ) : ∀ e : IE, (ivS Φ e).ok (e.den ρ)
  | .op o k a b => by
    cases o
    case padd =>
      have h1 := ivS_ok hk a
      have h2 := ivS_ok hk b
      refine Iv.meet_ok (ivAll_ok hk) ⟨fun l hl => ?_, fun l hl => ?_⟩
      · obtain ⟨x, y, hx, hy, rfl⟩ := oadd_some hl
        have := h1.1 x hx
        have := h2.1 y hy
        simp only [IE.den, IOp.den]; omega
      · obtain ⟨x, y, hx, hy, rfl⟩ := oadd_some hl
        have := h1.2 x hx
        have := h2.2 y hy
        simp only [IE.den, IOp.den]; omega
    all_goals exact ivAll_ok hk
  | .lit _ => ivAll_ok hk
  | .var _ => ivAll_ok hk
  | .cl _ _ _ => ivAll_ok hk
  | .len _ => ivAll_ok hk
  | .slen _ => ivAll_ok hk
  | .byt _ _ => ivAll_ok hk
  | .ite _ _ _ => ivAll_ok hk
/-- By how much a may be above b, at most. -/
def dfFact (a b : IE) : BE × Bool → Option Int
  | (.lt x y, true) => if (base x).1.beq a && (base y).1.beq b then some ((base y).2 - (base x).2 - 1) else none
  | (.lt x y, false) => if (base y).1.beq a && (base x).1.beq b then some ((base x).2 - (base y).2) else none
  | _ => none
theorem dfFact_ok {ρ : Rho} {a b : IE} {p : BE × Bool} {k : Int} (h : p.1.den ρ = p.2) (hd : dfFact a b p = some k) : a.den ρ - b.den ρ ≤ k := by
  unfold dfFact at hd
  split at hd
  · rename_i x y
    split at hd
    · rename_i hc
      simp only [Bool.and_eq_true] at hc
      cases hd
      simp only [BE.den] at h
      have h := of_decide_eq_true h
      rw [base_den ρ x, base_den ρ y, IE.beq_eq _ _ hc.1, IE.beq_eq _ _ hc.2] at h
      omega
    · cases hd
  · rename_i x y
    split at hd
    · rename_i hc
      simp only [Bool.and_eq_true] at hc
      cases hd
      simp only [BE.den] at h
      have h := of_decide_eq_false h
      rw [base_den ρ x, base_den ρ y, IE.beq_eq _ _ hc.1, IE.beq_eq _ _ hc.2] at h
      omega
    · cases hd
  · cases hd
def dfAll (a b : IE) : Facts → Option Int
  | [] => none
  | p :: Φ => omin (dfFact a b p) (dfAll a b Φ)
theorem dfAll_ok {ρ : Rho} {a b : IE} : ∀ {Φ : Facts} {k : Int}, Facts.ok ρ Φ → dfAll a b Φ = some k → a.den ρ - b.den ρ ≤ k
  | [], _, _, h => by cases h
  | p :: Φ, k, hk, h => by
    have h1 := Facts.ok_tail hk
    simp only [dfAll] at h
    cases e1 : dfFact a b p with
    | none =>
      rw [e1] at h
      simp only [omin] at h
      exact dfAll_ok h1.2 h
    | some x =>
      have hx := dfFact_ok h1.1 e1
      rw [e1] at h
      cases e2 : dfAll a b Φ with
      | none => rw [e2] at h; simp only [omin, Option.some.injEq] at h; omega
      | some y =>
        have hy := dfAll_ok h1.2 e2
        rw [e2] at h
        simp only [omin, Option.some.injEq] at h
        split at h <;> omega
def dfLt (Φ : Facts) (a b : IE) : Option Bool :=
  match dfAll (base a).1 (base b).1 Φ with
  | some k => if k < (base b).2 - (base a).2 then some true else (match dfAll (base b).1 (base a).1 Φ with
    | some k => if k ≤ (base a).2 - (base b).2 then some false else none
    | none => none)
  | none => match dfAll (base b).1 (base a).1 Φ with
    | some k => if k ≤ (base a).2 - (base b).2 then some false else none
    | none => none
theorem dfLt_ok {ρ : Rho} {Φ : Facts} (hk : Facts.ok ρ Φ) {a b : IE} {r : Bool} (h : dfLt Φ a b = some r) : (BE.lt a b).den ρ = r := by
  simp only [BE.den]
  rw [base_den ρ a, base_den ρ b]
  unfold dfLt at h
  split at h
  · rename_i k e1
    have := dfAll_ok hk e1
    split at h
    · cases h; exact decide_eq_true (by omega)
    · split at h
      · rename_i k2 e2
        have := dfAll_ok hk e2
        split at h
        · cases h; exact decide_eq_false (by omega)
        · cases h
      · cases h
  · split at h
    · rename_i k2 e2
      have := dfAll_ok hk e2
      split at h
      · cases h; exact decide_eq_false (by omega)
      · cases h
    · cases h

/-! ### What is known of a truth -/
def lookB (c : BE) : Facts → Option Bool
  | [] => none
  | (d, v) :: r => if d.beq c = true then some v else lookB c r
theorem lookB_ok {ρ : Rho} {c : BE} {v : Bool} : ∀ {Φ : Facts}, Facts.ok ρ Φ → lookB c Φ = some v → c.den ρ = v
  | [], _, h => by cases h
  | (d, u) :: r, hk, h => by
    simp only [lookB] at h
    split at h
    · rename_i hb; cases h; rw [← BE.beq_eq _ _ hb]; exact (Facts.ok_tail hk).1
    · exact lookB_ok (Facts.ok_tail hk).2 h
def asLit (c : BE) : Option Bool → BE
  | some v => .lit v
  | none => c
theorem asLit_den {ρ : Rho} {c : BE} {o : Option Bool} (h : ∀ v, o = some v → c.den ρ = v) : (asLit c o).den ρ = c.den ρ := by
  cases o with
  | none => rfl
  | some v => simp only [asLit, BE.den]; exact (h v rfl).symm
def oor : Option Bool → Option Bool → Option Bool
  | some v, _ => some v
  | none, b => b
/-- A truth in the light of what is known. -/
def red (Φ : Facts) : BE → BE
  | .not a => mkNot (red Φ a)
  | .and a b => match lookB (.and a b) Φ with
    | some v => .lit v
    | none => mkAnd (red Φ a) (red Φ b)
  | .or a b => match lookB (.or a b) Φ with
    | some v => .lit v
    | none => mkOr (red Φ a) (red Φ b)
  | .ite c a b => match lookB (.ite c a b) Φ with
    | some v => .lit v
    | none => mkIteB (red Φ c) (red Φ a) (red Φ b)
  | .lit b => .lit b
  | .lt a b => asLit (.lt a b) (oor (ivLt (ivS Φ a) (ivS Φ b)) (oor (lookB (.lt a b) Φ) (dfLt Φ a b)))
  | .eq a b => asLit (.eq a b) (oor (ivEq (ivS Φ a) (ivS Φ b)) (lookB (.eq a b) Φ))
  | c => asLit c (lookB c Φ)
theorem red_den {ρ : Rho} {Φ : Facts} (hk : Facts.ok ρ Φ) : ∀ c : BE, (red Φ c).den ρ = c.den ρ
  | .not a => by simp only [red, mkNot_den, BE.den, red_den hk a]
  | .and a b => by
    simp only [red]
    split
    · rename_i v hv; rw [lookB_ok hk hv]; rfl
    · simp only [mkAnd_den, BE.den, red_den hk a, red_den hk b]
  | .or a b => by
    simp only [red]
    split
    · rename_i v hv; rw [lookB_ok hk hv]; rfl
    · simp only [mkOr_den, BE.den, red_den hk a, red_den hk b]
  | .ite c a b => by
    simp only [red]
    split
    · rename_i v hv; rw [lookB_ok hk hv]; rfl
    · simp only [mkIteB_den, BE.den, red_den hk c, red_den hk a, red_den hk b]
  | .lit b => rfl
  | .lt a b => by
    refine asLit_den fun v hv => ?_
    unfold oor at hv
    split at hv
    · rename_i h1; cases hv; exact ivLt_ok (ivS_ok hk a) (ivS_ok hk b) h1
    · split at hv
      · rename_i h1; cases hv; exact lookB_ok hk h1
      · exact dfLt_ok hk hv
  | .eq a b => by
    refine asLit_den fun v hv => ?_
    unfold oor at hv
    split at hv
    · rename_i h1; cases hv; exact ivEq_ok (ivS_ok hk a) (ivS_ok hk b) h1
    · exact lookB_ok hk hv
  | .var i => asLit_den fun v hv => lookB_ok hk hv
  | .cl l k j => asLit_den fun v hv => lookB_ok hk hv
  | .seq a b => asLit_den fun v hv => lookB_ok hk hv
  | .slt a b => asLit_den fun v hv => lookB_ok hk hv
/-- One fact more, taken apart. -/
def assume : BE → Bool → Facts → Facts
  | .not a, v, Φ => assume a (!v) Φ
  | .and a b, true, Φ => assume a true (assume b true Φ)
  | .or a b, false, Φ => assume a false (assume b false Φ)
  | .lit _, _, Φ => Φ
  | c, v, Φ => (c, v) :: Φ
theorem assume_ok {ρ : Rho} : ∀ (c : BE) (v : Bool) (Φ : Facts), c.den ρ = v → Facts.ok ρ Φ → Facts.ok ρ (assume c v Φ) := by
  intro c v Φ
  fun_induction assume c v Φ with
  | case1 a v Φ ih => intro h hk; simp only [BE.den] at h; exact ih (by rw [← h]; simp) hk
  | case2 a b Φ ih1 ih2 => intro h hk; simp only [BE.den, Bool.and_eq_true] at h; exact ih2 h.1 (ih1 h.2 hk)
  | case3 a b Φ ih1 ih2 => intro h hk; simp only [BE.den, Bool.or_eq_false_iff] at h; exact ih2 h.1 (ih1 h.2 hk)
  | case4 => intro _ hk; exact hk
  | case5 => intro h hk; exact Facts.ok_cons h hk

/-! ### Ways -/
inductive T (α : Type) where
  | ret (a : α)
  | br (c : BE) (x y : T α)
  | need (c : BE) (x : T α)
  | fail (why : List String)
def T.sel {α : Type} (ρ : Rho) : T α → Option α
  | .ret a => some a
  | .br c x y => if c.den ρ = true then x.sel ρ else y.sel ρ
  | .need c x => if c.den ρ = true then x.sel ρ else none
  | .fail _ => none
def T.bind {α β : Type} (Φ : Facts) (f : Facts → α → T β) : T α → T β
  | .ret a => f Φ a
  | .br c x y => .br c (x.bind (assume c true Φ) f) (y.bind (assume c false Φ) f)
  | .need c x => .need c (x.bind (assume c true Φ) f)
  | .fail w => .fail w
theorem T.sel_bind {α β : Type} {ρ : Rho} {f : Facts → α → T β} {b : β} : ∀ (t : T α) {Φ : Facts}, Facts.ok ρ Φ → (t.bind Φ f).sel ρ = some b → ∃ Φ' a, Facts.ok ρ Φ' ∧ t.sel ρ = some a ∧ (f Φ' a).sel ρ = some b
  | .ret a, Φ, hk, h => ⟨Φ, a, hk, rfl, h⟩
  | .br c x y, Φ, hk, h => by
    simp only [T.bind, T.sel] at h ⊢
    split at h
    · rename_i hc; rw [if_pos hc]; exact T.sel_bind x (assume_ok c true Φ hc hk) h
    · rename_i hc; rw [if_neg hc]; exact T.sel_bind y (assume_ok c false Φ (by simpa using hc) hk) h
  | .need c x, Φ, hk, h => by
    simp only [T.bind, T.sel] at h ⊢
    split at h
    · rename_i hc; rw [if_pos hc]; exact T.sel_bind x (assume_ok c true Φ hc hk) h
    · cases h
  | .fail _, _, _, h => by cases h
def T.map {α β : Type} (f : α → β) : T α → T β
  | .ret a => .ret (f a)
  | .br c x y => .br c (x.map f) (y.map f)
  | .need c x => .need c (x.map f)
  | .fail w => .fail w
theorem T.sel_map {α β : Type} {ρ : Rho} {f : α → β} {b : β} : ∀ (t : T α), (t.map f).sel ρ = some b → ∃ a, t.sel ρ = some a ∧ b = f a
  | .ret a, h => by cases h; exact ⟨a, rfl, rfl⟩
  | .br c x y, h => by
    simp only [T.map, T.sel] at h ⊢
    split at h
    · rename_i hc; rw [if_pos hc]; exact T.sel_map x h
    · rename_i hc; rw [if_neg hc]; exact T.sel_map y h
  | .need c x, h => by
    simp only [T.map, T.sel] at h ⊢
    split at h
    · rename_i hc; rw [if_pos hc]; exact T.sel_map x h
    · cases h
  | .fail _, h => by cases h
/-- Where a way breaks off (for the bench alone). -/
def lab {α : Type} (w : String) : T α → T α
  | .fail [] => .fail [w]
  | t => t
theorem sel_lab {α : Type} {ρ : Rho} {w : String} {t : T α} : (lab w t).sel ρ = t.sel ρ := by
  unfold lab; split <;> rfl
def T.why {α : Type} : T α → List String
  | .ret _ => []
  | .br _ x y => match x.why with
    | [] => y.why
    | w => w
  | .need _ x => x.why
  | .fail w => w
/-- A parting, if it is not known which way is gone. -/
def part {α : Type} (Φ : Facts) (c : BE) (x y : Facts → T α) : T α :=
  match red Φ c with
  | .lit true => x Φ
  | .lit false => y Φ
  | d => .br d (x (assume d true Φ)) (y (assume d false Φ))
theorem sel_part {α : Type} {ρ : Rho} {Φ : Facts} {c : BE} {x y : Facts → T α} {a : α} (hk : Facts.ok ρ Φ) (h : (part Φ c x y).sel ρ = some a) : ∃ Φ', Facts.ok ρ Φ' ∧ ((c.den ρ = true ∧ (x Φ').sel ρ = some a) ∨ (c.den ρ = false ∧ (y Φ').sel ρ = some a)) := by
  have hr := red_den hk c
  unfold part at h
  split at h
  · rename_i hd; rw [hd] at hr; exact ⟨Φ, hk, .inl ⟨hr.symm, h⟩⟩
  · rename_i hd; rw [hd] at hr; exact ⟨Φ, hk, .inr ⟨hr.symm, h⟩⟩
  · simp only [T.sel] at h
    split at h
    · rename_i hc; exact ⟨_, assume_ok _ true Φ hc hk, .inl ⟨by rw [← hr]; exact hc, h⟩⟩
    · rename_i hc; exact ⟨_, assume_ok _ false Φ (by simpa using hc) hk, .inr ⟨by rw [← hr]; simpa using hc, h⟩⟩
def want {α : Type} (Φ : Facts) (c : BE) (x : Facts → T α) : T α :=
  match red Φ c with
  | .lit true => x Φ
  | .lit false => (.fail [])
  | d => .need d (x (assume d true Φ))
theorem sel_want {α : Type} {ρ : Rho} {Φ : Facts} {c : BE} {x : Facts → T α} {a : α} (hk : Facts.ok ρ Φ) (h : (want Φ c x).sel ρ = some a) : ∃ Φ', Facts.ok ρ Φ' ∧ c.den ρ = true ∧ (x Φ').sel ρ = some a := by
  have hr := red_den hk c
  unfold want at h
  split at h
  · rename_i hd; rw [hd] at hr; exact ⟨Φ, hk, hr.symm, h⟩
  · cases h
  · simp only [T.sel] at h
    split at h
    · rename_i hc; exact ⟨_, assume_ok _ true Φ hc hk, by rw [← hr]; exact hc, h⟩
    · cases h
end Go.Proofs.Xw
