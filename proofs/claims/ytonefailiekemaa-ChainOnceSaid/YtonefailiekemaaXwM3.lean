/- Parts of the logic that the proof runs in, one behind the other. -/
import Derived.Test.YtonefailiekemaaXwM2
/- Symbolic runs, part 26: sums by their parts; a truth brought down in the light of linear facts. -/
namespace Go.Proofs.Xw
open Go Go.Proofs.Aw

/-! ### Sums by their parts -/
structure Lin where
  l : List (IE × Int)
  c : Int
def sumL (ρ : Rho) : List (IE × Int) → Int
  | [] => 0
  | (e, k) :: r => k * e.den ρ + sumL ρ r
def Lin.den (ρ : Rho) (x : Lin) : Int := sumL ρ x.l + x.c
def addA (e : IE) (s : Int) : List (IE × Int) → List (IE × Int)
  | [] => [(e, s)]
  | (d, k) :: r => if d.beq e = true then (d, k + s) :: r else (d, k) :: addA e s r
theorem addA_den (ρ : Rho) (e : IE) (s : Int) : ∀ l, sumL ρ (addA e s l) = s * e.den ρ + sumL ρ l
  | [] => rfl
  | (d, k) :: r => by
    unfold addA
    split
    · rename_i h
      rw [← IE.beq_eq _ _ h]
      simp only [sumL, Int.add_mul]; omega
    · simp only [sumL, addA_den ρ e s r]; omega
def linE : IE → Int → Lin → Lin
  | .lit n, s, x => ⟨x.l, x.c + s * n⟩
  | .op .padd _ a b, s, x => linE a s (linE b s x)
  | .op .psub _ a b, s, x => linE a s (linE b (-s) x)
  | .op .pmul _ (.lit n) b, s, x => linE b (s * n) x
  | e, s, x => ⟨addA e s x.l, x.c⟩
theorem linE_den (ρ : Rho) (e : IE) (s : Int) (x : Lin) : (linE e s x).den ρ = s * e.den ρ + x.den ρ := by
  fun_induction linE e s x with
  | case1 n s x => simp only [Lin.den, IE.den]; omega
  | case2 k a b s x ih1 ih2 => rw [ih2, ih1]; simp only [IE.den, IOp.den, Int.mul_add]; omega
  | case3 k a b s x ih1 ih2 => rw [ih2, ih1]; simp only [IE.den, IOp.den, Int.mul_sub, Int.neg_mul]; omega
  | case4 k n b s x ih => rw [ih]; simp only [IE.den, IOp.den, Int.mul_assoc]
  | case5 => simp only [Lin.den, addA_den]; omega
def allZ : List (IE × Int) → Bool
  | [] => true
  | (_, k) :: r => k == 0 && allZ r
theorem allZ_den (ρ : Rho) : ∀ l, allZ l = true → sumL ρ l = 0
  | [], _ => rfl
  | (e, k) :: r, h => by
    simp only [allZ, Bool.and_eq_true, beq_iff_eq] at h
    simp only [sumL, h.1, allZ_den ρ r h.2, Int.zero_mul]; rfl
def Lin.con (x : Lin) : Option Int := if allZ x.l = true then some x.c else none
theorem Lin.con_den {ρ : Rho} {x : Lin} {k : Int} (h : x.con = some k) : x.den ρ = k := by
  unfold Lin.con at h
  split at h
  · rename_i hz
    cases h
    simp only [Lin.den, allZ_den ρ _ hz, Int.zero_add]
  · cases h
/-- (a - b) - (c - d), if it is a number. -/
def dif (a b c d : IE) : Option Int := (linE a 1 (linE b (-1) (linE c (-1) (linE d 1 ⟨[], 0⟩)))).con
theorem dif_den {ρ : Rho} {a b c d : IE} {k : Int} (h : dif a b c d = some k) : a.den ρ - b.den ρ = c.den ρ - d.den ρ + k := by
  have := Lin.con_den (ρ := ρ) (x := linE a 1 (linE b (-1) (linE c (-1) (linE d 1 ⟨[], 0⟩)))) h
  rw [linE_den, linE_den, linE_den, linE_den] at this
  simp only [Lin.den, sumL] at this
  omega
def oneLt (a b : IE) : BE × Bool → Option Bool
  | (.lt c d, true) => match dif a b c d with
    | some k => if decide (k ≤ 0) then some true else none
    | none => match dif a b d c with
      | some k => if decide (-1 ≤ k) then some false else none
      | none => none
  | (.lt c d, false) => match dif a b c d with
    | some k => if decide (0 ≤ k) then some false else none
    | none => match dif a b d c with
      | some k => if decide (k < 0) then some true else none
      | none => none
  | (.eq c d, true) => match dif a b c d with
    | some k => some (decide (k < 0))
    | none => match dif a b d c with
      | some k => some (decide (k < 0))
      | none => none
  | _ => none
theorem oneLt_ok {ρ : Rho} {a b : IE} {p : BE × Bool} {r : Bool} (hp : p.1.den ρ = p.2) (h : oneLt a b p = some r) : decide (a.den ρ < b.den ρ) = r := by
  unfold oneLt at h
  split at h
  · rename_i c d
    have hp := of_decide_eq_true hp
    split at h
    · rename_i k hk
      have := dif_den (ρ := ρ) hk
      split at h
      · rename_i hc; have hc := of_decide_eq_true hc; cases h; exact decide_eq_true (by omega)
      · cases h
    · split at h
      · rename_i k hk
        have := dif_den (ρ := ρ) hk
        split at h
        · rename_i hc; have hc := of_decide_eq_true hc; cases h; exact decide_eq_false (by omega)
        · cases h
      · cases h
  · rename_i c d
    have hp := of_decide_eq_false hp
    split at h
    · rename_i k hk
      have := dif_den (ρ := ρ) hk
      split at h
      · rename_i hc; have hc := of_decide_eq_true hc; cases h; exact decide_eq_false (by omega)
      · cases h
    · split at h
      · rename_i k hk
        have := dif_den (ρ := ρ) hk
        split at h
        · rename_i hc; have hc := of_decide_eq_true hc; cases h; exact decide_eq_true (by omega)
        · cases h
      · cases h
  · rename_i c d
    simp only [BE.den, beq_iff_eq] at hp
    split at h
    · rename_i k hk
      have := dif_den (ρ := ρ) hk
      cases h
      exact decide_eq_decide.2 ⟨fun h => by omega, fun h => by omega⟩
    · split at h
      · rename_i k hk
        have := dif_den (ρ := ρ) hk
        cases h
        exact decide_eq_decide.2 ⟨fun h => by omega, fun h => by omega⟩
      · cases h
  · cases h
def oneEq (a b : IE) : BE × Bool → Option Bool
  | (.lt c d, true) => match dif a b c d with
    | some k => if decide (k ≤ 0) then some false else none
    | none => match dif a b d c with
      | some k => if decide (0 ≤ k) then some false else none
      | none => none
  | (.lt c d, false) => match dif a b c d with
    | some k => if decide (0 < k) then some false else none
    | none => match dif a b d c with
      | some k => if decide (k < 0) then some false else none
      | none => none
  | (.eq c d, v) => match dif a b c d with
    | some k => if k == 0 then some v else if v = true then some false else none
    | none => match dif a b d c with
      | some k => if k == 0 then some v else if v = true then some false else none
      | none => none
  | _ => none
theorem oneEq_ok {ρ : Rho} {a b : IE} {p : BE × Bool} {r : Bool} (hp : p.1.den ρ = p.2) (h : oneEq a b p = some r) : (a.den ρ == b.den ρ) = r := by
  unfold oneEq at h
  split at h
  · rename_i c d
    have hp := of_decide_eq_true hp
    split at h
    · rename_i k hk
      have := dif_den (ρ := ρ) hk
      split at h
      · rename_i hc; have hc := of_decide_eq_true hc; cases h; exact beq_eq_false_iff_ne.2 (by omega)
      · cases h
    · split at h
      · rename_i k hk
        have := dif_den (ρ := ρ) hk
        split at h
        · rename_i hc; have hc := of_decide_eq_true hc; cases h; exact beq_eq_false_iff_ne.2 (by omega)
        · cases h
      · cases h
  · rename_i c d
    have hp := of_decide_eq_false hp
    split at h
    · rename_i k hk
      have := dif_den (ρ := ρ) hk
      split at h
      · rename_i hc; have hc := of_decide_eq_true hc; cases h; exact beq_eq_false_iff_ne.2 (by omega)
      · cases h
    · split at h
      · rename_i k hk
        have := dif_den (ρ := ρ) hk
        split at h
        · rename_i hc; have hc := of_decide_eq_true hc; cases h; exact beq_eq_false_iff_ne.2 (by omega)
        · cases h
      · cases h
  · rename_i c d v
    simp only [BE.den] at hp
    have fin : ∀ {k : Int}, (a.den ρ - b.den ρ = c.den ρ - d.den ρ + k ∨ a.den ρ - b.den ρ = d.den ρ - c.den ρ + k) → (if (k == 0) = true then some v else if v = true then some false else none) = some r → (a.den ρ == b.den ρ) = r := by
      intro k hk h
      split at h
      · rename_i h0
        cases h
        simp only [beq_iff_eq] at h0
        rw [← hp, Bool.eq_iff_iff]
        simp only [beq_iff_eq]
        constructor
        · intro h; omega
        · intro h; omega
      · rename_i h0
        simp only [beq_iff_eq] at h0
        split at h
        · rename_i hv
          cases h
          rw [hv] at hp
          simp only [beq_iff_eq] at hp
          exact beq_eq_false_iff_ne.2 (by omega)
        · cases h
    split at h
    · rename_i k hk
      exact fin (.inl (dif_den hk)) h
    · split at h
      · rename_i k hk
        exact fin (.inr (dif_den hk)) h
      · cases h
  · cases h
def anyF (f : BE × Bool → Option Bool) : Facts → Option Bool
  | [] => none
  | p :: Φ => oor (f p) (anyF f Φ)
theorem anyF_ok {ρ : Rho} {f : BE × Bool → Option Bool} {Q : Bool → Prop} (hf : ∀ p r, p.1.den ρ = p.2 → f p = some r → Q r) : ∀ {Φ : Facts} {r : Bool}, Facts.ok ρ Φ → anyF f Φ = some r → Q r
  | [], _, _, h => by cases h
  | p :: Φ, r, hk, h => by
    have h1 := Facts.ok_tail hk
    simp only [anyF] at h
    cases e : f p with
    | some v => rw [e] at h; cases h; exact hf p _ h1.1 e
    | none => rw [e] at h; exact anyF_ok hf h1.2 h
def linLt (Φ : Facts) (a b : IE) : Option Bool := match dif a b (.lit 0) (.lit 0) with
  | some k => some (decide (k < 0))
  | none => anyF (oneLt a b) Φ
theorem linLt_ok {ρ : Rho} {Φ : Facts} (hk : Facts.ok ρ Φ) {a b : IE} {r : Bool} (h : linLt Φ a b = some r) : decide (a.den ρ < b.den ρ) = r := by
  unfold linLt at h
  split at h
  · rename_i k e
    have := dif_den (ρ := ρ) e
    simp only [IE.den] at this
    cases h
    exact decide_eq_decide.2 ⟨fun h => by omega, fun h => by omega⟩
  · exact anyF_ok (Q := fun r => decide (a.den ρ < b.den ρ) = r) (fun p r hp => oneLt_ok hp) hk h
def linEq (Φ : Facts) (a b : IE) : Option Bool := match dif a b (.lit 0) (.lit 0) with
  | some k => some (k == 0)
  | none => anyF (oneEq a b) Φ
theorem linEq_ok {ρ : Rho} {Φ : Facts} (hk : Facts.ok ρ Φ) {a b : IE} {r : Bool} (h : linEq Φ a b = some r) : (a.den ρ == b.den ρ) = r := by
  unfold linEq at h
  split at h
  · rename_i k e
    have := dif_den (ρ := ρ) e
    simp only [IE.den] at this
    cases h
    rw [Bool.eq_iff_iff]
    simp only [beq_iff_eq]
    constructor
    · intro h; omega
    · intro h; omega
  · exact anyF_ok (Q := fun r => (a.den ρ == b.den ρ) = r) (fun p r hp => oneEq_ok hp) hk h

/-! ### What stays within bounds, as whole numbers -/
def exOp (Φ : Facts) (o p : IOp) (k : IntKind) (a b : IE) : IE := if (kbeq k .i64 && inI64 (ivS Φ (.op p .i64 a b))) = true then .op p .i64 a b else .op o k a b
theorem exOp_den {ρ : Rho} {Φ : Facts} (hk : Facts.ok ρ Φ) {o p : IOp} (ho : ∀ x y, o.den .i64 x y = IntKind.i64.wrap (p.den .i64 x y)) (k : IntKind) (a b : IE) : (exOp Φ o p k a b).den ρ = o.den k (a.den ρ) (b.den ρ) := by
  unfold exOp
  split
  · rename_i h
    rw [Bool.and_eq_true] at h
    rw [kbeq_eq h.1, ho]
    have := inI64_ok (ivS_ok hk (.op p .i64 a b)) h.2
    simp only [IE.den] at this ⊢
    exact this.symm
  · rfl
def exMul (Φ : Facts) (k : IntKind) (a b : IE) : IE := if (kbeq k .i64 && inI64 (ivS Φ (mkMul a b))) = true then mkMul a b else .op .mul k a b
theorem exMul_den {ρ : Rho} {Φ : Facts} (hk : Facts.ok ρ Φ) (k : IntKind) (a b : IE) : (exMul Φ k a b).den ρ = IOp.den .mul k (a.den ρ) (b.den ρ) := by
  unfold exMul
  split
  · rename_i h
    rw [Bool.and_eq_true] at h
    rw [kbeq_eq h.1]
    have := inI64_ok (ivS_ok hk (mkMul a b)) h.2
    rw [mkMul_den] at this ⊢
    exact this.symm
  · rfl
def exConv (Φ : Facts) (k : IntKind) (a b : IE) : IE := if (kbeq k .i64 && inI64 (ivS Φ a)) = true then a else .op .conv k a b
theorem exConv_den {ρ : Rho} {Φ : Facts} (hk : Facts.ok ρ Φ) (k : IntKind) (a b : IE) : (exConv Φ k a b).den ρ = IOp.den .conv k (a.den ρ) (b.den ρ) := by
  unfold exConv
  split
  · rename_i h
    rw [Bool.and_eq_true] at h
    rw [kbeq_eq h.1]
    exact (inI64_ok (ivS_ok hk a) h.2).symm
  · rfl
def exB (Φ : Facts) : IOp → IntKind → IE → IE → IE
  | .add, k, a, b => exOp Φ .add .padd k a b
  | .sub, k, a, b => exOp Φ .sub .psub k a b
  | .mul, k, a, b => exMul Φ k a b
  | .conv, k, a, b => exConv Φ k a b
  | .pmul, _, a, b => mkMul a b
  | o, k, a, b => mkOp o k a b
theorem exB_den {ρ : Rho} {Φ : Facts} (hk : Facts.ok ρ Φ) (o : IOp) (k : IntKind) (a b : IE) : (exB Φ o k a b).den ρ = o.den k (a.den ρ) (b.den ρ) := by
  unfold exB
  split
  · exact exOp_den hk (fun _ _ => rfl) _ _ _
  · exact exOp_den hk (fun _ _ => rfl) _ _ _
  · exact exMul_den hk _ _ _
  · exact exConv_den hk _ _ _
  · rw [mkMul_den]; rfl
  · exact mkOp_den _ _ _ _ _
def orLt (Φ : Facts) (a b : IE) : BE := match linLt Φ a b with
  | some v => .lit v
  | none => red Φ (mkLt a b)
def orEq (Φ : Facts) (a b : IE) : BE := match linEq Φ a b with
  | some v => .lit v
  | none => red Φ (mkEq a b)
theorem orLt_den {ρ : Rho} {Φ : Facts} (hk : Facts.ok ρ Φ) (a b : IE) : (orLt Φ a b).den ρ = decide (a.den ρ < b.den ρ) := by
  unfold orLt
  split
  · rename_i v h; rw [linLt_ok hk h]; rfl
  · rw [red_den hk, mkLt_den]
theorem orEq_den {ρ : Rho} {Φ : Facts} (hk : Facts.ok ρ Φ) (a b : IE) : (orEq Φ a b).den ρ = (a.den ρ == b.den ρ) := by
  unfold orEq
  split
  · rename_i v h; rw [linEq_ok hk h]; rfl
  · rw [red_den hk, mkEq_den]
mutual
def redI (Φ : Facts) : IE → IE
  | .op o k a b => exB Φ o k (redI Φ a) (redI Φ b)
  | .ite c a b => mkIteI (redB Φ c) (redI Φ a) (redI Φ b)
  | e => e
def redB (Φ : Facts) : BE → BE
  | .lt a b => orLt Φ (redI Φ a) (redI Φ b)
  | .eq a b => orEq Φ (redI Φ a) (redI Φ b)
  | .not a => mkNot (redB Φ a)
  | .and a b => mkAnd (redB Φ a) (redB Φ b)
  | .or a b => mkOr (redB Φ a) (redB Φ b)
  | .ite c a b => mkIteB (redB Φ c) (redB Φ a) (redB Φ b)
  | e => e
end
mutual
theorem redI_den {ρ : Rho} {Φ : Facts} (hk : Facts.ok ρ Φ) : ∀ e : IE, (redI Φ e).den ρ = e.den ρ
  | .op o k a b => by simp only [redI, exB_den hk, redI_den hk a, redI_den hk b, IE.den]
  | .ite c a b => by simp only [redI, mkIteI_den, redB_den hk c, redI_den hk a, redI_den hk b, IE.den]
  | .lit _ => rfl
  | .var _ => rfl
  | .cl _ _ _ => rfl
  | .len _ => rfl
  | .slen _ => rfl
  | .byt _ _ => rfl
theorem redB_den {ρ : Rho} {Φ : Facts} (hk : Facts.ok ρ Φ) : ∀ e : BE, (redB Φ e).den ρ = e.den ρ
  | .lt a b => by simp only [redB, orLt_den hk, redI_den hk a, redI_den hk b, BE.den]
  | .eq a b => by simp only [redB, orEq_den hk, redI_den hk a, redI_den hk b, BE.den]
  | .not a => by simp only [redB, mkNot_den, redB_den hk a, BE.den]
  | .and a b => by simp only [redB, mkAnd_den, redB_den hk a, redB_den hk b, BE.den]
  | .or a b => by simp only [redB, mkOr_den, redB_den hk a, redB_den hk b, BE.den]
  | .ite c a b => by simp only [redB, mkIteB_den, redB_den hk c, redB_den hk a, redB_den hk b, BE.den]
  | .lit _ => rfl
  | .var _ => rfl
  | .cl _ _ _ => rfl
  | .seq _ _ => rfl
  | .slt _ _ => rfl
end
def isT : BE → Bool
  | .lit b => b
  | _ => false
theorem by_redB {ρ : Rho} {Φ : Facts} (hk : Facts.ok ρ Φ) {e : BE} (h : isT (redB Φ e) = true) : e.den ρ = true := by
  rw [← redB_den hk e]
  unfold isT at h
  split at h
  · rename_i b hb; rw [hb]; exact h
  · cases h
/-- A number is above 0, below 0, or 0. -/
theorem tri {ρ : Rho} {Φ : Facts} {Q : Prop} (e : IE) (hk : Facts.ok ρ Φ) (h1 : Facts.ok ρ ((.lt (.lit 0) e, true) :: Φ) → Q) (h2 : Facts.ok ρ ((.lt e (.lit 0), true) :: Φ) → Q) (h3 : Facts.ok ρ ((.eq e (.lit 0), true) :: Φ) → Q) : Q := by
  rcases Int.lt_trichotomy (e.den ρ) 0 with h | h | h
  · exact h2 (Facts.ok_cons (decide_eq_true h) hk)
  · exact h3 (Facts.ok_cons (by simp only [BE.den, IE.den, h]; rfl) hk)
  · exact h1 (Facts.ok_cons (decide_eq_true h) hk)
end Go.Proofs.Xw

/- Symbolic runs, part 27: a loop whose head is in one of many states; letters of the rounds' own. -/
namespace Go.Proofs.Xw
open Go Go.Proofs.Aw

def noB : Bind := ⟨[], [], [], []⟩
theorem noB_ap (ρ : Rho) : noB.ap ρ = ρ := rfl
/-- One round leads from a state to a state. -/
def StepF (P : Program) (N : Nat) (body : Code) (k0 : Nat) (S S' : XS) (ρ ρ' : Rho) : Prop :=
  ∀ E : Aw.Env, E.N = N → (∀ m, E.c0.kn m → m.1 < k0) → AW P E body (fun e σ => e = XE.normal.to ∧ Imp E σ (S'.den ρ')) (S.den ρ)
/-- Round by round, from state to state, down to an end. -/
theorem loopOk_fam {P : Program} {N : Nat} {body : Code} {L : LoopX} (hi : L.init = noB) (hS : L.S.bel L.n = true) (Ss : Nat → XS) (R : Nat → Rho → Prop) (M : Nat → Rho → Nat)
    (hR : ∀ i ρ, R i ρ → (∃ ρ', Agree L.n ρ ρ' ∧ R i ρ' ∧ (Ss i).den ρ = (Ss i).den ρ' ∧ EndL P N body L.k0 (Ss i) L.out ρ') ∨ ∃ i' ρ', StepF P N body L.k0 (Ss i) (Ss i') ρ ρ' ∧ R i' ρ' ∧ M i' ρ' < M i ρ ∧ Agree L.n ρ ρ')
    {ρ : Rho} (h0 : ∃ i ρ0, Agree L.n ρ ρ0 ∧ R i ρ0 ∧ ∀ E : Aw.Env, E.N = N → (∀ m, E.c0.kn m → m.1 < L.k0) → Imp E (L.S.den ρ) ((Ss i).den ρ0)) : ∃ i ρf, Agree L.n ρ ρf ∧ R i ρf ∧ LoopOk P ρf N body L := by
  have key : ∀ (k : Nat) (i : Nat) (ρ : Rho), M i ρ ≤ k → R i ρ → ∃ i' ρf, Agree L.n ρ ρf ∧ R i' ρf ∧ ∀ E : Aw.Env, E.N = N → (∀ m, E.c0.kn m → m.1 < L.k0) → ∃ m, AWR P E body (fun e σ => ∃ e' s, L.out.sel ρf = some (e', s) ∧ e = e'.to ∧ Imp E σ (s.den ρf)) m ((Ss i).den ρ) := by
    have fin : ∀ i ρ ρ', (Ss i).den ρ = (Ss i).den ρ' → EndL P N body L.k0 (Ss i) L.out ρ' → ∀ E : Aw.Env, E.N = N → (∀ m, E.c0.kn m → m.1 < L.k0) → ∃ m, AWR P E body (fun e σ => ∃ e' s, L.out.sel ρ' = some (e', s) ∧ e = e'.to ∧ Imp E σ (s.den ρ')) m ((Ss i).den ρ) := fun i ρ ρ' hd h E hE hb => by
      rw [hd]
      refine ⟨1, AW_mono (fun e σ hq => ?_) (h E hE hb)⟩
      obtain ⟨e', s, h1, h2, rfl, h4⟩ := hq
      cases e' with
      | normal => exact absurd rfl h1
      | exit j => exact ⟨_, s, h2, rfl, h4⟩
      | ret => exact ⟨_, s, h2, rfl, h4⟩
    intro k
    induction k with
    | zero =>
      intro i ρ hk hr
      rcases hR i ρ hr with ⟨ρ', a1, a2, a3, a4⟩ | ⟨i', ρ', _, _, h, _⟩
      · exact ⟨i, ρ', a1, a2, fin i ρ ρ' a3 a4⟩
      · omega
    | succ k ih =>
      intro i ρ hk hr
      rcases hR i ρ hr with ⟨ρ', a1, a2, a3, a4⟩ | ⟨i', ρ', h1, h2, h3, h5⟩
      · exact ⟨i, ρ', a1, a2, fin i ρ ρ' a3 a4⟩
      · obtain ⟨i2, ρf, g2, g3, g4⟩ := ih i' ρ' (by omega) h2
        refine ⟨i2, ρf, h5.trans g2, g3, fun E hE hb => ?_⟩
        obtain ⟨m, g5⟩ := g4 E hE hb
        refine ⟨m + 1, AW_mono (fun e σ hq => ?_) (h1 E hE hb)⟩
        obtain ⟨rfl, hi⟩ := hq
        cases m with
        | zero => exact g5.elim
        | succ m => exact AW_imp hi g5
  obtain ⟨i, ρ0, a0, hr, himp⟩ := h0
  obtain ⟨i', ρf, g2, g3, g4⟩ := key (M i ρ0) i ρ0 (Nat.le_refl _) hr
  refine ⟨i', ρf, a0.trans g2, g3, fun E hE hb => ?_⟩
  rw [hi, noB_ap, ← XS.bel_den (a0.trans g2) L.S hS]
  obtain ⟨m, g5⟩ := g4 E hE hb
  exact AW_imp (himp E hE hb) (AW_rounds m g5)

/-! ### What the letters and the names are next -/
mutual
def nmX : X → X → List (Nm × Nm) → List (Nm × Nm)
  | .ptr a _ _, .ptr b _ _, l => (a, b) :: l
  | .sl a _ _ _ _, .sl b _ _ _ _, l => (a, b) :: l
  | .slv a _ _ _ _, .sl b _ _ _ _, l => (a, b) :: l
  | .slv a _ _ _ _, .slv b _ _ _ _, l => (a, b) :: l
  | .ptrv a _ _ _, .ptrv b _ _ _, l => (a, b) :: l
  | .agg xs, .agg ys, l => nmL xs ys l
  | .fn _ xs us, .fn _ ys vs, l => nmL xs ys (nmL us vs l)
  | _, _, l => l
def nmL : List X → List X → List (Nm × Nm) → List (Nm × Nm)
  | x :: xs, y :: ys, l => nmX x y (nmL xs ys l)
  | _, _, l => l
end
def nmT (s : XTp) : XTp → List (Nm × Nm)
  | [] => []
  | (j, x) :: r => nmX x (tgetX s j) (nmT s r)
/-- Names that the objects' own cells tell: of the objects that are named so far. -/
def nmH (S s : XHp) : List (Nm × Nm) → List (Nm × Nm) → List (Nm × Nm)
  | [], acc => acc
  | (a, b) :: r, acc => nmH S s r (match hgetO S a, hgetO s b with
    | some cs, some ds => nmL cs ds acc
    | _, _ => acc)
def nmS (S s : XS) : List (Nm × Nm) := nmT s.t S.t ++ nmH S.h s.h (nmT s.t S.t) []
def rowsOf (z : Nat) : Nat → List X → Option RL
  | 0, _ => none
  | 1, l => (toScs (l.take z)).map RL.one
  | n + 1, l => match toScs (l.take z), rowsOf z n (l.drop z) with
    | some r, some q => some (.app (.lit 1) (.one r) q)
    | _, _ => none
def mtO (cs ds : List X) (β : Bind) : Bind :=
  match cs, ds with
  | [.rows z (.len L) (.var _ _)], [.rows _ m r] => if Nat.beq z 0 = true then β else ⟨β.i, β.b, β.s, (L, m, r) :: β.r⟩
  | [.rows z (.len L) (.var _ _)], ds => match rowsOf z (ds.length / z) ds with
    | some r => ⟨β.i, β.b, β.s, (L, .lit (ds.length / z : Nat), r) :: β.r⟩
    | none => β
  | cs, ds => mtL cs ds β
def mtF (nm : List (Nm × Nm)) (s : XHp) : XHp → Bind → Bind
  | [], β => β
  | (j, cs) :: r, β => match hgetO s (nmMap nm j) with
    | some ds => mtO cs ds (mtF nm s r β)
    | none => mtF nm s r β
def bindF (nm : List (Nm × Nm)) (S s : XS) : Bind := mtF nm s.h S.h (mtT s.t S.t noB)

/-! ### One round, shown by a run -/
theorem stepF_of {P : Program} {ρ : Rho} {N : Nat} {body : Code} {ti : Nat → Option TI} {call : CallF} {ms : List Nat} {lps : List LoopX} {fuel k0 n : Nat} {S S' U : XS} {s : XS} (hm : P.follows .mixedOrders = true) (hti : TIs.ok P ti)
    (hcall : CallOk P ρ call) (hlps : LpsOk P ρ N lps body) (hfit : fitsC N body = true) {Φ' : Facts} (hk : Facts.ok ρ Φ') (hd : S.den ρ = S'.den ρ) {ks : List Nat}
    (hsel : ((codeX ti call ms k0 lps fuel body Φ' S').map (sqz ks)).sel ρ = some (.normal, s)) {β : Bind} {nm : List (Nm × Nm)} (hok : okS k0 n β nm U s = true) : StepF P N body k0 S U ρ (β.ap ρ) := by
  intro E hE hkn
  obtain ⟨q, hq, he⟩ := T.sel_map _ hsel
  rw [hd]
  have g := codeX_goes (E := E) hm hti hcall hkn body Φ' _ q.1 q.2 hk (by rw [hE]; exact hfit) (by rw [hE]; exact hlps) hq
  have q1 := congrArg Prod.fst he
  have q2 := congrArg Prod.snd he
  simp only at q1 q2
  refine AW_mono (fun e' s' hh => ⟨?_, ?_⟩) g
  · rw [hh.1, show q.1 = XE.normal from q1.symm]
  · have i := impLe hh.2 (sqz_le ks ρ q)
    rw [← q2] at i
    exact impTrans i (okS_imp hkn hok ρ)
theorem StepF.from {P : Program} {N : Nat} {body : Code} {k0 : Nat} {S S' : XS} {ρ ρ1 ρ' : Rho} (h : S.den ρ = S.den ρ1) (k : StepF P N body k0 S S' ρ1 ρ') : StepF P N body k0 S S' ρ ρ' := fun E hE hb => by
  rw [h]; exact k E hE hb
theorem endF_of {P : Program} {ρ : Rho} {N : Nat} {body : Code} {ti : Nat → Option TI} {call : CallF} {ms : List Nat} {lps : List LoopX} {fuel k0 : Nat} {S S' s : XS} {e : XE} {out : T (XE × XS)} (hm : P.follows .mixedOrders = true) (hti : TIs.ok P ti)
    (hcall : CallOk P ρ call) (hlps : LpsOk P ρ N lps body) (hfit : fitsC N body = true) {Φ' : Facts} (hk : Facts.ok ρ Φ') (hd : S.den ρ = S'.den ρ) {ks : List Nat} (he : e ≠ .normal)
    (hsel : ((codeX ti call ms k0 lps fuel body Φ' S').map (sqz ks)).sel ρ = some (e, s)) (ho : ∃ s', out.sel ρ = some (e, s') ∧ ∀ E : Aw.Env, (∀ m, E.c0.kn m → m.1 < k0) → Imp E (s.den ρ) (s'.den ρ)) : EndL P N body k0 S out ρ := by
  intro E hE hkn
  obtain ⟨q, hq, h2⟩ := T.sel_map _ hsel
  obtain ⟨s', h3, h4⟩ := ho
  rw [hd]
  have g := codeX_goes (E := E) hm hti hcall hkn body Φ' S' q.1 q.2 hk (by rw [hE]; exact hfit) (by rw [hE]; exact hlps) hq
  have q1 := congrArg Prod.fst h2
  have q2 := congrArg Prod.snd h2
  simp only at q1 q2
  refine AW_mono (fun e' s'' hh => ⟨e, s', he, h3, ?_, ?_⟩) g
  · rw [hh.1, q1]
    rfl
  · have i := impLe hh.2 (sqz_le ks ρ q)
    rw [← q2] at i
    exact impTrans i (h4 E hkn)
end Go.Proofs.Xw
