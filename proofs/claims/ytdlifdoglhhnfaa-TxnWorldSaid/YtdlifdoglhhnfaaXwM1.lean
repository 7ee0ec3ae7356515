/- Parts of the logic that the proof runs in, one behind the other. -/
import Derived.Test.YtdlifdoglhhnfaaAwM2
/- Symbolic runs, part 1: expressions over letters, what they stand for, when two are the same, and short forms of them. -/
namespace Go.Proofs.Xw
open Go Go.Proofs.Aw

/-- What the letters stand for: numbers, truths, texts; and rows: how many, and what lies in a row's cell. -/
structure Rho where
  i : Nat → Int
  b : Nat → Bool
  s : Nat → ByteArray
  len : Nat → Nat
  ci : Nat → Nat → Nat → Int
  cb : Nat → Nat → Nat → Bool
  cs : Nat → Nat → Nat → ByteArray

inductive IOp where
  | add | sub | mul | quo | rem | and | or | xor | andNot | shl | shr | max | min | conv | padd | psub | pmul
  deriving DecidableEq, Inhabited

def IOp.den : IOp → IntKind → Int → Int → Int
  | .add, k, a, b => k.wrap (a + b)
  | .sub, k, a, b => k.wrap (a - b)
  | .mul, k, a, b => k.wrap (a * b)
  | .quo, k, a, b => k.wrap (a.tdiv b)
  | .rem, _, a, b => a.tmod b
  | .and, k, a, b => bits .and k a b
  | .or, k, a, b => bits .or k a b
  | .xor, k, a, b => bits .xor k a b
  | .andNot, k, a, b => bits .andNot k a b
  | .shl, k, a, b => k.wrap (a * 2 ^ (Min.min b.toNat k.bits))
  | .shr, k, a, b => a.fdiv (2 ^ (Min.min b.toNat k.bits))
  | .max, _, a, b => Max.max a b
  | .min, _, a, b => Min.min a b
  | .conv, k, a, _ => k.wrap a
  | .padd, _, a, b => a + b
  | .psub, _, a, b => a - b
  | .pmul, _, a, b => a * b

mutual
inductive IE where
  | lit (n : Int) | var (i : Nat) | cl (l k : Nat) (j : IE) | len (l : Nat) | slen (t : TE) | byt (t : TE) (j : IE)
  | op (o : IOp) (k : IntKind) (a b : IE) | ite (c : BE) (a b : IE)
inductive BE where
  | lit (b : Bool) | var (i : Nat) | cl (l k : Nat) (j : IE) | lt (a b : IE) | eq (a b : IE) | seq (a b : TE) | slt (a b : TE)
  | not (a : BE) | and (a b : BE) | or (a b : BE) | ite (c a b : BE)
inductive TE where
  | lit (s : ByteArray) | var (i : Nat) | cl (l k : Nat) (j : IE) | sub (t : TE) (a b : IE) | ite (c : BE) (a b : TE)
end
instance : Inhabited IE := ⟨.lit 0⟩
instance : Inhabited BE := ⟨.lit false⟩
instance : Inhabited TE := ⟨.var 0⟩

mutual
def IE.den (ρ : Rho) : IE → Int
  | .lit n => n
  | .var i => ρ.i i
  | .cl l k j => ρ.ci l k (j.den ρ).toNat
  | .len l => ρ.len l
  | .slen t => (t.den ρ).size
  | .byt t j => (((t.den ρ)[(j.den ρ).toNat]?).getD 0).toNat
  | .op o k a b => o.den k (a.den ρ) (b.den ρ)
  | .ite c a b => if c.den ρ = true then a.den ρ else b.den ρ
def BE.den (ρ : Rho) : BE → Bool
  | .lit b => b
  | .var i => ρ.b i
  | .cl l k j => ρ.cb l k (j.den ρ).toNat
  | .lt a b => decide (a.den ρ < b.den ρ)
  | .eq a b => a.den ρ == b.den ρ
  | .seq a b => (a.den ρ).toList == (b.den ρ).toList
  | .slt a b => Op.bytesLess (a.den ρ).toList (b.den ρ).toList
  | .not a => !a.den ρ
  | .and a b => a.den ρ && b.den ρ
  | .or a b => a.den ρ || b.den ρ
  | .ite c a b => if c.den ρ = true then a.den ρ else b.den ρ
def TE.den (ρ : Rho) : TE → ByteArray
  | .lit s => s
  | .var i => ρ.s i
  | .cl l k j => ρ.cs l k (j.den ρ).toNat
  | .sub t a b => (t.den ρ).extract (a.den ρ).toNat (b.den ρ).toNat
  | .ite c a b => if c.den ρ = true then a.den ρ else b.den ρ
end

/-! ### Alike -/
def kcode : IntKind → Nat
  | .i8 => 0 | .i16 => 1 | .i32 => 2 | .i64 => 3 | .u8 => 4 | .u16 => 5 | .u32 => 6 | .u64 => 7
def kbeq (a b : IntKind) : Bool := Nat.beq (kcode a) (kcode b)
theorem kbeq_eq {a b : IntKind} (h : kbeq a b = true) : a = b := by cases a <;> cases b <;> first | rfl | exact absurd h (by decide)
def IOp.code : IOp → Nat
  | .add => 0 | .sub => 1 | .mul => 2 | .quo => 3 | .rem => 4 | .and => 5 | .or => 6 | .xor => 7 | .andNot => 8 | .shl => 9 | .shr => 10 | .max => 11 | .min => 12 | .conv => 13 | .padd => 14 | .psub => 15 | .pmul => 16
def IOp.beq (a b : IOp) : Bool := Nat.beq a.code b.code
theorem IOp.beq_eq {a b : IOp} (h : a.beq b = true) : a = b := by cases a <;> cases b <;> first | rfl | exact absurd h (by decide)
def bytesBeq (a b : ByteArray) : Bool := a.data.toList == b.data.toList
theorem bytesBeq_eq {a b : ByteArray} (h : bytesBeq a b = true) : a = b := by
  obtain ⟨⟨a⟩⟩ := a
  obtain ⟨⟨b⟩⟩ := b
  simp only [bytesBeq, beq_iff_eq] at h
  rw [h]

mutual
def IE.beq : IE → IE → Bool
  | .lit a, .lit b => a == b
  | .var a, .var b => Nat.beq a b
  | .cl l k j, .cl l' k' j' => Nat.beq l l' && (Nat.beq k k' && j.beq j')
  | .len a, .len b => Nat.beq a b
  | .slen a, .slen b => a.beq b
  | .byt t j, .byt t' j' => t.beq t' && j.beq j'
  | .op o k a b, .op o' k' a' b' => o.beq o' && (kbeq k k' && (a.beq a' && b.beq b'))
  | .ite c a b, .ite c' a' b' => c.beq c' && (a.beq a' && b.beq b')
  | _, _ => false
def BE.beq : BE → BE → Bool
  | .lit a, .lit b => a == b
  | .var a, .var b => Nat.beq a b
  | .cl l k j, .cl l' k' j' => Nat.beq l l' && (Nat.beq k k' && j.beq j')
  | .lt a b, .lt a' b' => a.beq a' && b.beq b'
  | .eq a b, .eq a' b' => a.beq a' && b.beq b'
  | .seq a b, .seq a' b' => a.beq a' && b.beq b'
  | .slt a b, .slt a' b' => a.beq a' && b.beq b'
  | .not a, .not a' => a.beq a'
  | .and a b, .and a' b' => a.beq a' && b.beq b'
  | .or a b, .or a' b' => a.beq a' && b.beq b'
  | .ite c a b, .ite c' a' b' => c.beq c' && (a.beq a' && b.beq b')
  | _, _ => false
def TE.beq : TE → TE → Bool
  | .lit a, .lit b => bytesBeq a b
  | .var a, .var b => Nat.beq a b
  | .cl l k j, .cl l' k' j' => Nat.beq l l' && (Nat.beq k k' && j.beq j')
  | .sub t a b, .sub t' a' b' => t.beq t' && (a.beq a' && b.beq b')
  | .ite c a b, .ite c' a' b' => c.beq c' && (a.beq a' && b.beq b')
  | _, _ => false
end
mutual
theorem IE.beq_eq : ∀ (a b : IE), a.beq b = true → a = b
  | .lit a, b, h => by cases b <;> simp [IE.beq] at h ⊢; exact h
  | .var a, b, h => by cases b <;> simp [IE.beq] at h ⊢; exact h
  | .cl l k j, b, h => by
    cases b <;> simp [IE.beq] at h ⊢
    exact ⟨h.1, h.2.1, IE.beq_eq _ _ h.2.2⟩
  | .len a, b, h => by cases b <;> simp [IE.beq] at h ⊢; exact h
  | .slen a, b, h => by
    cases b <;> simp [IE.beq] at h ⊢
    exact TE.beq_eq _ _ h
  | .byt t j, b, h => by
    cases b <;> simp [IE.beq] at h ⊢
    exact ⟨TE.beq_eq _ _ h.1, IE.beq_eq _ _ h.2⟩
  | .op o k x y, b, h => by
    cases b <;> simp [IE.beq] at h ⊢
    exact ⟨IOp.beq_eq h.1, kbeq_eq h.2.1, IE.beq_eq _ _ h.2.2.1, IE.beq_eq _ _ h.2.2.2⟩
  | .ite c x y, b, h => by
    cases b <;> simp [IE.beq] at h ⊢
    exact ⟨BE.beq_eq _ _ h.1, IE.beq_eq _ _ h.2.1, IE.beq_eq _ _ h.2.2⟩
theorem BE.beq_eq : ∀ (a b : BE), a.beq b = true → a = b
  | .lit a, b, h => by cases b <;> simp [BE.beq] at h ⊢; exact h
  | .var a, b, h => by cases b <;> simp [BE.beq] at h ⊢; exact h
  | .cl l k j, b, h => by
    cases b <;> simp [BE.beq] at h ⊢
    exact ⟨h.1, h.2.1, IE.beq_eq _ _ h.2.2⟩
  | .lt x y, b, h => by
    cases b <;> simp [BE.beq] at h ⊢
    exact ⟨IE.beq_eq _ _ h.1, IE.beq_eq _ _ h.2⟩
  | .eq x y, b, h => by
    cases b <;> simp [BE.beq] at h ⊢
    exact ⟨IE.beq_eq _ _ h.1, IE.beq_eq _ _ h.2⟩
  | .seq x y, b, h => by
    cases b <;> simp [BE.beq] at h ⊢
    exact ⟨TE.beq_eq _ _ h.1, TE.beq_eq _ _ h.2⟩
  | .slt x y, b, h => by
    cases b <;> simp [BE.beq] at h ⊢
    exact ⟨TE.beq_eq _ _ h.1, TE.beq_eq _ _ h.2⟩
  | .not x, b, h => by
    cases b <;> simp [BE.beq] at h ⊢
    exact BE.beq_eq _ _ h
  | .and x y, b, h => by
    cases b <;> simp [BE.beq] at h ⊢
    exact ⟨BE.beq_eq _ _ h.1, BE.beq_eq _ _ h.2⟩
  | .or x y, b, h => by
    cases b <;> simp [BE.beq] at h ⊢
    exact ⟨BE.beq_eq _ _ h.1, BE.beq_eq _ _ h.2⟩
  | .ite c x y, b, h => by
    cases b <;> simp [BE.beq] at h ⊢
    exact ⟨BE.beq_eq _ _ h.1, BE.beq_eq _ _ h.2.1, BE.beq_eq _ _ h.2.2⟩
theorem TE.beq_eq : ∀ (a b : TE), a.beq b = true → a = b
  | .lit a, b, h => by
    cases b <;> simp [TE.beq] at h ⊢
    exact bytesBeq_eq h
  | .var a, b, h => by cases b <;> simp [TE.beq] at h ⊢; exact h
  | .cl l k j, b, h => by
    cases b <;> simp [TE.beq] at h ⊢
    exact ⟨h.1, h.2.1, IE.beq_eq _ _ h.2.2⟩
  | .sub t x y, b, h => by
    cases b <;> simp [TE.beq] at h ⊢
    exact ⟨TE.beq_eq _ _ h.1, IE.beq_eq _ _ h.2.1, IE.beq_eq _ _ h.2.2⟩
  | .ite c x y, b, h => by
    cases b <;> simp [TE.beq] at h ⊢
    exact ⟨BE.beq_eq _ _ h.1, TE.beq_eq _ _ h.2.1, TE.beq_eq _ _ h.2.2⟩
end

/-! ### Short forms -/
def mkNot : BE → BE
  | .lit b => .lit (!b)
  | .not a => a
  | a => .not a
theorem mkNot_den (ρ : Rho) (a : BE) : (mkNot a).den ρ = !a.den ρ := by
  unfold mkNot; split <;> simp [BE.den]
/-- One is the other's contrary. -/
def BE.compl : BE → BE → Bool
  | .not a, b => a.beq b
  | a, .not b => a.beq b
  | _, _ => false
theorem BE.compl_den {ρ : Rho} {a b : BE} (h : a.compl b = true) : (a.den ρ || b.den ρ) = true := by
  unfold BE.compl at h
  split at h
  · rw [BE.beq_eq _ _ h]; simp [BE.den]
  · rw [BE.beq_eq _ _ h]; simp [BE.den]
  · cases h
theorem BE.compl_den' {ρ : Rho} {a b : BE} (h : a.compl b = true) : (a.den ρ && b.den ρ) = false := by
  unfold BE.compl at h
  split at h
  · rw [BE.beq_eq _ _ h]; simp [BE.den]
  · rw [BE.beq_eq _ _ h]; simp [BE.den]
  · cases h
def mkAnd (a b : BE) : BE :=
  match a, b with
  | .lit true, b => b
  | .lit false, _ => .lit false
  | a, .lit true => a
  | _, .lit false => .lit false
  | a, .or c d => if a.compl c = true then .and a d else if a.beq c = true then a else .and a (.or c d)
  | a, b => if a.beq b = true then a else if a.compl b = true then .lit false else .and a b
theorem mkAnd_den (ρ : Rho) (a b : BE) : (mkAnd a b).den ρ = (a.den ρ && b.den ρ) := by
  unfold mkAnd
  split
  · simp [BE.den]
  · simp [BE.den]
  · simp [BE.den]
  · simp [BE.den]
  · split
    · rename_i h
      have := BE.compl_den' (ρ := ρ) h
      simp only [BE.den]
      cases ha : BE.den ρ a
      · simp
      · rw [ha, Bool.true_and] at this; simp [this]
    · split
      · rename_i h; rw [BE.beq_eq _ _ h]; simp only [BE.den]; cases BE.den ρ _ <;> simp
      · simp [BE.den]
  · split
    · rename_i h; rw [BE.beq_eq _ _ h]; simp
    · split
      · rename_i h; rw [BE.compl_den' h]; rfl
      · simp [BE.den]
def mkOr (a b : BE) : BE :=
  match a, b with
  | .lit false, b => b
  | .lit true, _ => .lit true
  | a, .lit false => a
  | _, .lit true => .lit true
  | a, .and c d => if a.compl c = true then .or a d else if a.beq c = true then a else .or a (.and c d)
  | a, b => if a.beq b = true then a else if a.compl b = true then .lit true else .or a b
theorem mkOr_den (ρ : Rho) (a b : BE) : (mkOr a b).den ρ = (a.den ρ || b.den ρ) := by
  unfold mkOr
  split
  · simp [BE.den]
  · simp [BE.den]
  · simp [BE.den]
  · simp [BE.den]
  · split
    · rename_i h
      have := BE.compl_den (ρ := ρ) h
      simp only [BE.den]
      cases ha : BE.den ρ a
      · rw [ha, Bool.false_or] at this; simp [this]
      · simp
    · split
      · rename_i h; rw [BE.beq_eq _ _ h]; simp only [BE.den]; cases BE.den ρ _ <;> simp
      · simp [BE.den]
  · split
    · rename_i h; rw [BE.beq_eq _ _ h]; simp
    · split
      · rename_i h; rw [BE.compl_den h]; rfl
      · simp [BE.den]
def mkIteB (c a b : BE) : BE :=
  match c with
  | .lit true => a
  | .lit false => b
  | c => if a.beq b = true then a else
    match a, b with
    | .lit true, .lit false => c
    | .lit false, .lit true => mkNot c
    | .lit true, b => mkOr c b
    | .lit false, b => mkAnd (mkNot c) b
    | a, .lit true => mkOr (mkNot c) a
    | a, .lit false => mkAnd c a
    | a, b => .ite c a b
theorem mkIteB_den (ρ : Rho) (c a b : BE) : (mkIteB c a b).den ρ = if c.den ρ = true then a.den ρ else b.den ρ := by
  unfold mkIteB
  split
  · simp [BE.den]
  · simp [BE.den]
  · split
    · rename_i h; rw [BE.beq_eq _ _ h]; simp
    · split <;> simp only [mkNot_den, mkOr_den, mkAnd_den, BE.den] <;> cases BE.den ρ c <;> simp
def mkIteI (c : BE) (a b : IE) : IE :=
  match c with
  | .lit true => a
  | .lit false => b
  | c => if a.beq b = true then a else .ite c a b
theorem mkIteI_den (ρ : Rho) (c : BE) (a b : IE) : (mkIteI c a b).den ρ = if c.den ρ = true then a.den ρ else b.den ρ := by
  unfold mkIteI
  split
  · simp [BE.den]
  · simp [BE.den]
  · split
    · rename_i h; rw [IE.beq_eq _ _ h]; simp
    · simp [IE.den]
def mkIteT (c : BE) (a b : TE) : TE :=
  match c with
  | .lit true => a
  | .lit false => b
  | c => if a.beq b = true then a else .ite c a b
theorem mkIteT_den (ρ : Rho) (c : BE) (a b : TE) : (mkIteT c a b).den ρ = if c.den ρ = true then a.den ρ else b.den ρ := by
  unfold mkIteT
  split
  · simp [BE.den]
  · simp [BE.den]
  · split
    · rename_i h; rw [TE.beq_eq _ _ h]; simp
    · simp [TE.den]
def mkEq : IE → IE → BE
  | .lit m, .lit n => .lit (m == n)
  | .lit m, b => .eq b (.lit m)
  | .ite c a b, .lit n => mkIteB c (mkEq a (.lit n)) (mkEq b (.lit n))
  | a, b => if a.beq b = true then .lit true else .eq a b
theorem mkEq_den (ρ : Rho) : ∀ (a b : IE), (mkEq a b).den ρ = (a.den ρ == b.den ρ) := by
  intro a b
  fun_induction mkEq a b with
  | case1 => simp [BE.den, IE.den]
  | case2 m b h => simp only [BE.den, IE.den, BEq.comm]
  | case3 c a b n ih1 ih2 => rw [mkIteB_den, ih1, ih2]; simp only [IE.den]; split <;> rfl
  | case4 => rename_i h; rw [IE.beq_eq _ _ h]; simp [BE.den]
  | case5 a b => simp [BE.den]
/-- Below a number. -/
def ltL (n : Int) : IE → BE
  | .lit m => .lit (decide (m < n))
  | .ite c a b => mkIteB c (ltL n a) (ltL n b)
  | a => .lt a (.lit n)
theorem ltL_den (ρ : Rho) (n : Int) : ∀ a : IE, (ltL n a).den ρ = decide (a.den ρ < n)
  | .lit m => by simp only [ltL, BE.den, IE.den]; exact decide_eq_decide.2 Iff.rfl
  | .ite c a b => by simp only [ltL, mkIteB_den, ltL_den ρ n a, ltL_den ρ n b, IE.den]; split <;> rfl
  | .var i => by simp only [ltL, BE.den]; exact decide_eq_decide.2 Iff.rfl
  | .cl l k j => by simp only [ltL, BE.den]; exact decide_eq_decide.2 Iff.rfl
  | .len l => by simp only [ltL, BE.den]; exact decide_eq_decide.2 Iff.rfl
  | .slen t => by simp only [ltL, BE.den]; exact decide_eq_decide.2 Iff.rfl
  | .byt t j => by simp only [ltL, BE.den]; exact decide_eq_decide.2 Iff.rfl
  | .op o k a b => by simp only [ltL, BE.den]; exact decide_eq_decide.2 Iff.rfl
/-- Above a number. -/
def ltR (n : Int) : IE → BE
  | .lit m => .lit (decide (n < m))
  | .ite c a b => mkIteB c (ltR n a) (ltR n b)
  | a => .lt (.lit n) a
theorem ltR_den (ρ : Rho) (n : Int) : ∀ a : IE, (ltR n a).den ρ = decide (n < a.den ρ)
  | .lit m => by simp only [ltR, BE.den, IE.den]; exact decide_eq_decide.2 Iff.rfl
  | .ite c a b => by simp only [ltR, mkIteB_den, ltR_den ρ n a, ltR_den ρ n b, IE.den]; split <;> rfl
  | .var i => by simp only [ltR, BE.den]; exact decide_eq_decide.2 Iff.rfl
  | .cl l k j => by simp only [ltR, BE.den]; exact decide_eq_decide.2 Iff.rfl
  | .len l => by simp only [ltR, BE.den]; exact decide_eq_decide.2 Iff.rfl
  | .slen t => by simp only [ltR, BE.den]; exact decide_eq_decide.2 Iff.rfl
  | .byt t j => by simp only [ltR, BE.den]; exact decide_eq_decide.2 Iff.rfl
  | .op o k a b => by simp only [ltR, BE.den]; exact decide_eq_decide.2 Iff.rfl
/-- A sum's part that is no number, and the number. -/
def base : IE → IE × Int
  | .op .padd _ a (.lit c) => (a, c)
  | .op .padd _ (.lit c) a => (a, c)
  | .op .psub _ a (.lit c) => (a, -c)
  | a => (a, 0)
theorem base_den (ρ : Rho) (a : IE) : a.den ρ = (base a).1.den ρ + (base a).2 := by
  unfold base
  split <;> simp only [IE.den, IOp.den] <;> omega
def mkLt : IE → IE → BE
  | a, .lit n => ltL n a
  | .lit n, b => ltR n b
  | a, b => if (base a).1.beq (base b).1 = true then .lit (decide ((base a).2 < (base b).2)) else .lt a b
theorem mkLt_den (ρ : Rho) (a b : IE) : (mkLt a b).den ρ = decide (a.den ρ < b.den ρ) := by
  unfold mkLt
  split
  · rw [ltL_den]; exact decide_eq_decide.2 Iff.rfl
  · rw [ltR_den]; exact decide_eq_decide.2 Iff.rfl
  · split
    · rename_i h
      rw [base_den ρ a, base_den ρ b, IE.beq_eq _ _ h]
      simp only [BE.den]
      exact decide_eq_decide.2 (by omega)
    · simp only [BE.den]
def mkSeq : TE → TE → BE
  | .lit m, .lit n => .lit (m.toList == n.toList)
  | a, b => if a.beq b = true then .lit true else .seq a b
theorem mkSeq_den (ρ : Rho) (a b : TE) : (mkSeq a b).den ρ = ((a.den ρ).toList == (b.den ρ).toList) := by
  unfold mkSeq
  split
  · simp [BE.den, TE.den]
  · split
    · rename_i h; rw [TE.beq_eq _ _ h]; simp [BE.den]
    · simp [BE.den]
def mkOp (o : IOp) (k : IntKind) (a b : IE) : IE :=
  match a, b with
  | .lit m, .lit n => .lit (o.den k m n)
  | a, b => .op o k a b
theorem mkOp_den (ρ : Rho) (o : IOp) (k : IntKind) (a b : IE) : (mkOp o k a b).den ρ = o.den k (a.den ρ) (b.den ρ) := by
  unfold mkOp; split <;> simp [IE.den]
/-- Exact products. -/
def mkMul : IE → IE → IE
  | .lit m, .lit n => .lit (m * n)
  | a, .lit n => if n == 0 then .lit 0 else if n == 1 then a else .op .pmul .i64 (.lit n) a
  | .lit n, b => if n == 0 then .lit 0 else if n == 1 then b else .op .pmul .i64 (.lit n) b
  | a, b => .op .pmul .i64 a b
theorem mkMul_den (ρ : Rho) (a b : IE) : (mkMul a b).den ρ = a.den ρ * b.den ρ := by
  unfold mkMul
  split
  · simp [IE.den]
  · split
    · rename_i h; simp only [beq_iff_eq] at h; subst h; simp [IE.den]
    · split
      · rename_i h; simp only [beq_iff_eq] at h; subst h; simp [IE.den]
      · simp only [IE.den, IOp.den]; exact Int.mul_comm _ _
  · split
    · rename_i h; simp only [beq_iff_eq] at h; subst h; simp [IE.den]
    · split
      · rename_i h; simp only [beq_iff_eq] at h; subst h; simp [IE.den]
      · simp only [IE.den, IOp.den]
  · simp [IE.den, IOp.den]
def mkSlen : TE → IE
  | .lit s => .lit s.size
  | t => .slen t
theorem mkSlen_den (ρ : Rho) (t : TE) : (mkSlen t).den ρ = (t.den ρ).size := by
  unfold mkSlen; split <;> simp [IE.den, TE.den]
/-- Both truths alike. -/
def mkIff (a b : BE) : BE := if a.beq b = true then .lit true else mkIteB a b (mkNot b)
theorem mkIff_den (ρ : Rho) (a b : BE) : (mkIff a b).den ρ = (a.den ρ == b.den ρ) := by
  unfold mkIff
  split
  · rename_i h; rw [BE.beq_eq _ _ h]; simp [BE.den]
  · rw [mkIteB_den, mkNot_den]; cases a.den ρ <;> cases b.den ρ <;> rfl
end Go.Proofs.Xw

/- Symbolic runs, part 2: what is known on a way; ways. -/
namespace Go.Proofs.Xw
open Go Go.Proofs.Aw

abbrev Facts := List (BE × Bool)
def Facts.ok (ρ : Rho) (Φ : Facts) : Prop := ∀ p ∈ Φ, p.1.den ρ = p.2
theorem Facts.ok_nil (ρ : Rho) : Facts.ok ρ [] := fun _ h => by cases h
theorem Facts.ok_cons {ρ : Rho} {c : BE} {v : Bool} {Φ : Facts} (h : c.den ρ = v) (hk : Facts.ok ρ Φ) : Facts.ok ρ ((c, v) :: Φ) := fun p hp => by
  rcases List.mem_cons.1 hp with rfl | hp
  · exact h
  · exact hk p hp
theorem Facts.ok_tail {ρ : Rho} {p : BE × Bool} {Φ : Facts} (h : Facts.ok ρ (p :: Φ)) : p.1.den ρ = p.2 ∧ Facts.ok ρ Φ := ⟨h p List.mem_cons_self, fun q hq => h q (List.mem_cons_of_mem _ hq)⟩

/-! ### Bounds -/
structure Iv where
  lo : Option Int
  hi : Option Int
def Iv.ok (v : Iv) (x : Int) : Prop := (∀ l, v.lo = some l → l ≤ x) ∧ (∀ h, v.hi = some h → x ≤ h)
def omax : Option Int → Option Int → Option Int
  | some a, some b => some (if a < b then b else a)
  | some a, none => some a
  | none, b => b
def omin : Option Int → Option Int → Option Int
  | some a, some b => some (if b < a then b else a)
  | some a, none => some a
  | none, b => b
def Iv.meet (a b : Iv) : Iv := ⟨omax a.lo b.lo, omin a.hi b.hi⟩
theorem Iv.meet_ok {a b : Iv} {x : Int} (ha : a.ok x) (hb : b.ok x) : (a.meet b).ok x := by
  obtain ⟨al, ah⟩ := a
  obtain ⟨bl, bh⟩ := b
  refine ⟨fun l hl => ?_, fun h hh => ?_⟩
  · cases al <;> cases bl <;> simp only [Iv.meet, omax, Option.some.injEq, reduceCtorEq] at hl
    · exact hb.1 _ (by simp [hl])
    · exact ha.1 _ (by simp [hl])
    · subst hl; split
      · exact hb.1 _ rfl
      · exact ha.1 _ rfl
  · cases ah <;> cases bh <;> simp only [Iv.meet, omin, Option.some.injEq, reduceCtorEq] at hh
    · exact hb.2 _ (by simp [hh])
    · exact ha.2 _ (by simp [hh])
    · subst hh; split
      · exact hb.2 _ rfl
      · exact ha.2 _ rfl
/-- The bounds of e that a fact tells. -/
def ivFact (e : IE) : BE × Bool → Iv
  | (.lt a (.lit n), true) => if a.beq e = true then ⟨none, some (n - 1)⟩ else ⟨none, none⟩
  | (.lt a (.lit n), false) => if a.beq e = true then ⟨some n, none⟩ else ⟨none, none⟩
  | (.lt (.lit n) a, true) => if a.beq e = true then ⟨some (n + 1), none⟩ else ⟨none, none⟩
  | (.lt (.lit n) a, false) => if a.beq e = true then ⟨none, some n⟩ else ⟨none, none⟩
  | (.eq a (.lit n), true) => if a.beq e = true then ⟨some n, some n⟩ else ⟨none, none⟩
  | _ => ⟨none, none⟩
theorem Iv.none_ok (x : Int) : Iv.ok ⟨none, none⟩ x := ⟨fun _ h => (by cases h), fun _ h => (by cases h)⟩
theorem ivFact_ok {ρ : Rho} {e : IE} {p : BE × Bool} (h : p.1.den ρ = p.2) : (ivFact e p).ok (e.den ρ) := by
  unfold ivFact
  split
  · split
    · rename_i hb
      rw [← IE.beq_eq _ _ hb]
      have h := of_decide_eq_true h
      simp only [IE.den] at h
      exact ⟨fun _ hh => (by cases hh), fun _ hh => (by cases hh; omega)⟩
    · exact Iv.none_ok _
  · split
    · rename_i hb
      rw [← IE.beq_eq _ _ hb]
      have h := of_decide_eq_false h
      simp only [IE.den] at h
      exact ⟨fun _ hh => (by cases hh; omega), fun _ hh => (by cases hh)⟩
    · exact Iv.none_ok _
  · split
    · rename_i hb
      rw [← IE.beq_eq _ _ hb]
      have h := of_decide_eq_true h
      simp only [IE.den] at h
      exact ⟨fun _ hh => (by cases hh; omega), fun _ hh => (by cases hh)⟩
    · exact Iv.none_ok _
  · split
    · rename_i hb
      rw [← IE.beq_eq _ _ hb]
      have h := of_decide_eq_false h
      simp only [IE.den] at h
      exact ⟨fun _ hh => (by cases hh), fun _ hh => (by cases hh; omega)⟩
    · exact Iv.none_ok _
  · split
    · rename_i hb
      rw [← IE.beq_eq _ _ hb]
      simp only [BE.den, IE.den, beq_iff_eq] at h
      exact ⟨fun _ hh => (by cases hh; omega), fun _ hh => (by cases hh; omega)⟩
    · exact Iv.none_ok _
  · exact Iv.none_ok _
def ivBase : IE → Iv
  | .lit n => ⟨some n, some n⟩
  | .len _ => ⟨some 0, none⟩
  | .slen _ => ⟨some 0, none⟩
  | .byt _ _ => ⟨some 0, some 255⟩
  | _ => ⟨none, none⟩
theorem ivBase_ok (ρ : Rho) (e : IE) : (ivBase e).ok (e.den ρ) := by
  unfold ivBase
  split
  · exact ⟨fun _ hh => (by cases hh; simp [IE.den]), fun _ hh => (by cases hh; simp [IE.den])⟩
  · exact ⟨fun _ hh => (by cases hh; simp [IE.den]), fun _ hh => (by cases hh)⟩
  · exact ⟨fun _ hh => (by cases hh; simp [IE.den]), fun _ hh => (by cases hh)⟩
  · refine ⟨fun _ hh => (by cases hh; simp [IE.den]), fun _ hh => ?_⟩
    cases hh
    simp only [IE.den]
    have := UInt8.toNat_lt ((((TE.den ρ ‹TE›)[(IE.den ρ ‹IE›).toNat]?).getD 0))
    omega
  · exact Iv.none_ok _
def ivAll (e : IE) : Facts → Iv
  | [] => ivBase e
  | p :: Φ => (ivFact e p).meet (ivAll e Φ)
theorem ivAll_ok {ρ : Rho} {e : IE} : ∀ {Φ : Facts}, Facts.ok ρ Φ → (ivAll e Φ).ok (e.den ρ)
  | [], _ => ivBase_ok ρ e
  | _ :: _, h => Iv.meet_ok (ivFact_ok (Facts.ok_tail h).1) (ivAll_ok (Facts.ok_tail h).2)
def ivLt (a b : Iv) : Option Bool :=
  match a.hi, b.lo with
  | some h, some l => if h < l then some true else (match a.lo, b.hi with | some l', some h' => if h' ≤ l' then some false else none | _, _ => none)
  | _, _ => match a.lo, b.hi with | some l', some h' => if h' ≤ l' then some false else none | _, _ => none
theorem ivLt_ok {a b : Iv} {x y : Int} {r : Bool} (ha : a.ok x) (hb : b.ok y) (h : ivLt a b = some r) : decide (x < y) = r := by
  unfold ivLt at h
  split at h
  · rename_i hh l h1 h2
    have := ha.2 _ h1
    have := hb.1 _ h2
    split at h
    · cases h; exact decide_eq_true (by omega)
    · split at h
      · rename_i h3 h4
        have := ha.1 _ h3
        have := hb.2 _ h4
        split at h
        · cases h; exact decide_eq_false (by omega)
        · cases h
      · cases h
  · split at h
    · rename_i h3 h4
      have := ha.1 _ h3
      have := hb.2 _ h4
      split at h
      · cases h; exact decide_eq_false (by omega)
      · cases h
    · cases h
def ivEq (a b : Iv) : Option Bool :=
  match ivLt a b, ivLt b a with
  | some true, _ => some false
  | _, some true => some false
  | some false, some false => some true
  | _, _ => none
theorem ivEq_ok {a b : Iv} {x y : Int} {r : Bool} (ha : a.ok x) (hb : b.ok y) (h : ivEq a b = some r) : (x == y) = r := by
  unfold ivEq at h
  split at h
  · rename_i h1
    have := ivLt_ok ha hb h1
    cases h; simp only [decide_eq_true_eq] at this
    exact beq_eq_false_iff_ne.2 (by omega)
  · rename_i h1 _
    have := ivLt_ok hb ha h1
    cases h; simp only [decide_eq_true_eq] at this
    exact beq_eq_false_iff_ne.2 (by omega)
  · rename_i h1 h2
    have := ivLt_ok ha hb h1
    have := ivLt_ok hb ha h2
    cases h; simp only [decide_eq_false_iff_not] at *
    exact beq_iff_eq.2 (by omega)
  · cases h

/-- Bounds of sums, out of those of the parts. -/
def oadd : Option Int → Option Int → Option Int
  | some a, some b => some (a + b)
  | _, _ => none
theorem oadd_some {a b : Option Int} {c : Int} (h : oadd a b = some c) : ∃ x y, a = some x ∧ b = some y ∧ c = x + y := by
  unfold oadd at h
  split at h
  · cases h; exact ⟨_, _, rfl, rfl, rfl⟩
  · cases h
def ivAdd (a b : Iv) : Iv := ⟨oadd a.lo b.lo, oadd a.hi b.hi⟩
theorem ivAdd_ok {a b : Iv} {x y : Int} (ha : a.ok x) (hb : b.ok y) : (ivAdd a b).ok (x + y) := by
  refine ⟨fun l hl => ?_, fun l hl => ?_⟩
  · obtain ⟨p, q, hp, hq, rfl⟩ := oadd_some hl
    have := ha.1 p hp
    have := hb.1 q hq
    omega
  · obtain ⟨p, q, hp, hq, rfl⟩ := oadd_some hl
    have := ha.2 p hp
    have := hb.2 q hq
    omega
def oneg : Option Int → Option Int
  | some a => some (-a)
  | none => none
def ivNeg (a : Iv) : Iv := ⟨oneg a.hi, oneg a.lo⟩
theorem ivNeg_ok {a : Iv} {x : Int} (ha : a.ok x) : (ivNeg a).ok (-x) := by
  obtain ⟨lo, hi⟩ := a
  refine ⟨fun l hl => ?_, fun l hl => ?_⟩
  · cases hi with
    | none => cases hl
    | some h => cases hl; have := ha.2 h rfl; omega
  · cases lo with
    | none => cases hl
    | some h => cases hl; have := ha.1 h rfl; omega
def imin (a b : Int) : Int := if a < b then a else b
def imax (a b : Int) : Int := if a < b then b else a
def ivMul : Iv → Iv → Iv
  | ⟨some a, some b⟩, ⟨some c, some d⟩ => ⟨some (imin (imin (a * c) (a * d)) (imin (b * c) (b * d))), some (imax (imax (a * c) (a * d)) (imax (b * c) (b * d)))⟩
  | _, _ => ⟨none, none⟩
theorem mul_between {x c d y : Int} (h1 : c ≤ y) (h2 : y ≤ d) : imin (x * c) (x * d) ≤ x * y ∧ x * y ≤ imax (x * c) (x * d) := by
  unfold imin imax
  rcases Int.le_total 0 x with h | h
  · have a1 := Int.mul_le_mul_of_nonneg_left h1 h
    have a2 := Int.mul_le_mul_of_nonneg_left h2 h
    constructor <;> split <;> omega
  · have a1 := Int.mul_le_mul_of_nonpos_left h h1
    have a2 := Int.mul_le_mul_of_nonpos_left h h2
    constructor <;> split <;> omega
theorem ivMul_ok {u v : Iv} {x y : Int} (hu : u.ok x) (hv : v.ok y) : (ivMul u v).ok (x * y) := by
  unfold ivMul
  split
  · rename_i a b c d
    have a1 := hu.1 a rfl
    have a2 := hu.2 b rfl
    have c1 := hv.1 c rfl
    have c2 := hv.2 d rfl
    obtain ⟨m1, m2⟩ := mul_between (x := x) c1 c2
    obtain ⟨p1, p2⟩ := mul_between (x := c) a1 a2
    obtain ⟨q1, q2⟩ := mul_between (x := d) a1 a2
    rw [Int.mul_comm c x, Int.mul_comm c a, Int.mul_comm c b] at p1 p2
    rw [Int.mul_comm d x, Int.mul_comm d a, Int.mul_comm d b] at q1 q2
    refine ⟨fun l hl => ?_, fun l hl => ?_⟩
    · cases hl
      revert m1 p1 q1
      unfold imin
      intro m1 p1 q1
      split at m1 <;> split at p1 <;> split at q1 <;> (repeat' split) <;> omega
    · cases hl
      revert m2 p2 q2
      unfold imax
      intro m2 p2 q2
      split at m2 <;> split at p2 <;> split at q2 <;> (repeat' split) <;> omega
  · exact Iv.none_ok _
/-- Of two ways, either. -/
def ivHull : Iv → Iv → Iv
  | ⟨a, b⟩, ⟨c, d⟩ => ⟨match a, c with | some a, some c => some (imin a c) | _, _ => none, match b, d with | some b, some d => some (imax b d) | _, _ => none⟩
theorem ivHull_ok {u v : Iv} {x : Int} (h : u.ok x ∨ v.ok x) : (ivHull u v).ok x := by
  obtain ⟨a, b⟩ := u
  obtain ⟨c, d⟩ := v
  unfold ivHull
  refine ⟨fun l hl => ?_, fun l hl => ?_⟩
  · simp only at hl
    split at hl
    · cases hl
      unfold imin
      rcases h with h | h
      · have := h.1 _ rfl; split <;> omega
      · have := h.1 _ rfl; split <;> omega
    · cases hl
  · simp only at hl
    split at hl
    · cases hl
      unfold imax
      rcases h with h | h
      · have := h.2 _ rfl; split <;> omega
      · have := h.2 _ rfl; split <;> omega
    · cases hl
/-- Of sixty-four bits. -/
def ivIn : IntKind → Iv → Iv
  | .i64, ⟨some a, some b⟩ => if decide (-9223372036854775808 ≤ a) && decide (b < 9223372036854775808) then ⟨some a, some b⟩ else ⟨none, none⟩
  | .u64, ⟨some a, some b⟩ => if decide (0 ≤ a) && decide (b < 18446744073709551616) then ⟨some a, some b⟩ else ⟨some 0, some 18446744073709551615⟩
  | .u64, _ => ⟨some 0, some 18446744073709551615⟩
  | _, _ => ⟨none, none⟩
theorem u64_in (x : Int) (h0 : 0 ≤ x) (h1 : x < 18446744073709551616) : IntKind.u64.wrap x = x := by
  have e : IntKind.u64.wrap x = x % 18446744073709551616 := by simp [IntKind.wrap, IntKind.bits, IntKind.signed]
  rw [e]; omega
theorem u64_range (x : Int) : 0 ≤ IntKind.u64.wrap x ∧ IntKind.u64.wrap x ≤ 18446744073709551615 := by
  have e : IntKind.u64.wrap x = x % 18446744073709551616 := by simp [IntKind.wrap, IntKind.bits, IntKind.signed]
  rw [e]; omega
theorem ivIn_ok {k : IntKind} {v : Iv} {x : Int} (h : v.ok x) : (ivIn k v).ok (k.wrap x) := by
  unfold ivIn
  split
  · split
    · rename_i hc
      simp only [Bool.and_eq_true, decide_eq_true_eq] at hc
      have h1 := h.1 _ rfl
      have h2 := h.2 _ rfl
      rw [IntWalk.i64_in x ⟨by omega, by omega⟩]
      exact h
    · exact Iv.none_ok _
  · split
    · rename_i hc
      simp only [Bool.and_eq_true, decide_eq_true_eq] at hc
      have h1 := h.1 _ rfl
      have h2 := h.2 _ rfl
      rw [u64_in x (by omega) (by omega)]
      exact h
    · have := u64_range x
      exact ⟨fun l hl => by cases hl; omega, fun l hl => by cases hl; omega⟩
  · have := u64_range x
    exact ⟨fun l hl => by cases hl; omega, fun l hl => by cases hl; omega⟩
  · exact Iv.none_ok _
/-- What a mask leaves. -/
def ivMask : IntKind → Iv → Iv
  | .i64, ⟨some a, some b⟩ => if decide (0 ≤ a) && decide (b < 9223372036854775808) then ⟨some 0, some b⟩ else ⟨none, none⟩
  | .u64, ⟨some a, some b⟩ => if decide (0 ≤ a) && decide (b < 9223372036854775808) then ⟨some 0, some b⟩ else ⟨none, none⟩
  | _, _ => ⟨none, none⟩
theorem mask_le (k : IntKind) (hk : k = .i64 ∨ k = .u64) (x m : Int) (h0 : 0 ≤ m) (h1 : m < 9223372036854775808) : 0 ≤ bits .and k x m ∧ bits .and k x m ≤ m := by
  have key : ∀ a : BitVec 64, ((a &&& BitVec.ofInt 64 m).toNat : Int) ≤ m := fun a => by
    have e : (BitVec.ofInt 64 m).toNat = m.toNat := by
      rw [BitVec.toNat_ofInt]
      omega
    have := Nat.and_le_right (n := a.toNat) (m := m.toNat)
    rw [BitVec.toNat_and, e]
    omega
  rcases hk with rfl | rfl
  · have e : bits .and .i64 x m = IntKind.i64.wrap ((BitVec.ofInt 64 x &&& BitVec.ofInt 64 m).toNat : Int) := rfl
    have := key (BitVec.ofInt 64 x)
    rw [e, IntWalk.i64_in _ ⟨by omega, by omega⟩]
    exact ⟨by omega, this⟩
  · have e : bits .and .u64 x m = IntKind.u64.wrap ((BitVec.ofInt 64 x &&& BitVec.ofInt 64 m).toNat : Int) := rfl
    have := key (BitVec.ofInt 64 x)
    rw [e, u64_in _ (by omega) (by omega)]
    exact ⟨by omega, this⟩
theorem ivMask_ok {k : IntKind} {v : Iv} {x m : Int} (h : v.ok m) : (ivMask k v).ok (bits .and k x m) := by
  unfold ivMask
  split
  · split
    · rename_i hc
      simp only [Bool.and_eq_true, decide_eq_true_eq] at hc
      have h1 := h.1 _ rfl
      have h2 := h.2 _ rfl
      have := mask_le .i64 (.inl rfl) x m (by omega) (by omega)
      exact ⟨fun l hl => by cases hl; omega, fun l hl => by cases hl; omega⟩
    · exact Iv.none_ok _
  · split
    · rename_i hc
      simp only [Bool.and_eq_true, decide_eq_true_eq] at hc
      have h1 := h.1 _ rfl
      have h2 := h.2 _ rfl
      have := mask_le .u64 (.inr rfl) x m (by omega) (by omega)
      exact ⟨fun l hl => by cases hl; omega, fun l hl => by cases hl; omega⟩
    · exact Iv.none_ok _
  · exact Iv.none_ok _
def ivOp : IOp → IntKind → Iv → Iv → Iv
  | .padd, _, a, b => ivAdd a b
  | .psub, _, a, b => ivAdd a (ivNeg b)
  | .pmul, _, a, b => ivMul a b
  | .add, k, a, b => ivIn k (ivAdd a b)
  | .sub, k, a, b => ivIn k (ivAdd a (ivNeg b))
  | .mul, k, a, b => ivIn k (ivMul a b)
  | .conv, k, a, _ => ivIn k a
  | .and, k, _, b => ivMask k b
  | _, _, _, _ => ⟨none, none⟩
theorem ivOp_ok {o : IOp} {k : IntKind} {u v : Iv} {x y : Int} (hu : u.ok x) (hv : v.ok y) : (ivOp o k u v).ok (o.den k x y) := by
  unfold ivOp
  split <;> simp only [IOp.den]
  · exact ivAdd_ok hu hv
  · rw [Int.sub_eq_add_neg]; exact ivAdd_ok hu (ivNeg_ok hv)
  · exact ivMul_ok hu hv
  · exact ivIn_ok (ivAdd_ok hu hv)
  · rw [Int.sub_eq_add_neg]; exact ivIn_ok (ivAdd_ok hu (ivNeg_ok hv))
  · exact ivIn_ok (ivMul_ok hu hv)
  · exact ivIn_ok hu
  · exact ivMask_ok hv
  · exact Iv.none_ok _
def ivS (Φ : Facts) : IE → Iv
  | .op o k a b => (ivAll (.op o k a b) Φ).meet (ivOp o k (ivS Φ a) (ivS Φ b))
  | .ite c a b => (ivAll (.ite c a b) Φ).meet (ivHull (ivS Φ a) (ivS Φ b))
  | e => ivAll e Φ
theorem ivS_ok {ρ : Rho} {Φ : Facts} (hk : Facts.ok ρ Φ) : ∀ e : IE, (ivS Φ e).ok (e.den ρ)
  | .op o k a b => by
    simp only [ivS]
    refine Iv.meet_ok (ivAll_ok hk) ?_
    simp only [IE.den]
    exact ivOp_ok (ivS_ok hk a) (ivS_ok hk b)
  | .ite c a b => by
    simp only [ivS]
    refine Iv.meet_ok (ivAll_ok hk) (ivHull_ok ?_)
    simp only [IE.den]
    split
    · exact .inl (ivS_ok hk a)
    · exact .inr (ivS_ok hk b)
  | .lit _ => ivAll_ok hk
  | .var _ => ivAll_ok hk
  | .cl _ _ _ => ivAll_ok hk
  | .len _ => ivAll_ok hk
  | .slen _ => ivAll_ok hk
  | .byt _ _ => ivAll_ok hk
/-- By how much a may be above b, at most. -/
def dfFact (a b : IE) : BE × Bool → Option Int
  | (.lt x y, true) => if (base x).1.beq a && (base y).1.beq b then some ((base y).2 - (base x).2 - 1) else none
  | (.lt x y, false) => if (base y).1.beq a && (base x).1.beq b then some ((base x).2 - (base y).2) else none
  | _ => none
theorem dfFact_ok {ρ : Rho} {a b : IE} {p : BE × Bool} {k : Int} (h : p.1.den ρ = p.2) (hd : dfFact a b p = some k) : a.den ρ - b.den ρ ≤ k := by
  unfold dfFact at hd
  split at hd
  · rename_i x y
    split at hd
    · rename_i hc
      simp only [Bool.and_eq_true] at hc
      cases hd
      simp only [BE.den] at h
      have h := of_decide_eq_true h
      rw [base_den ρ x, base_den ρ y, IE.beq_eq _ _ hc.1, IE.beq_eq _ _ hc.2] at h
      omega
    · cases hd
  · rename_i x y
    split at hd
    · rename_i hc
      simp only [Bool.and_eq_true] at hc
      cases hd
      simp only [BE.den] at h
      have h := of_decide_eq_false h
      rw [base_den ρ x, base_den ρ y, IE.beq_eq _ _ hc.1, IE.beq_eq _ _ hc.2] at h
      omega
    · cases hd
  · cases hd
def dfAll (a b : IE) : Facts → Option Int
  | [] => none
  | p :: Φ => omin (dfFact a b p) (dfAll a b Φ)
theorem dfAll_ok {ρ : Rho} {a b : IE} : ∀ {Φ : Facts} {k : Int}, Facts.ok ρ Φ → dfAll a b Φ = some k → a.den ρ - b.den ρ ≤ k
  | [], _, _, h => by cases h
  | p :: Φ, k, hk, h => by
    have h1 := Facts.ok_tail hk
    simp only [dfAll] at h
    cases e1 : dfFact a b p with
    | none =>
      rw [e1] at h
      simp only [omin] at h
      exact dfAll_ok h1.2 h
    | some x =>
      have hx := dfFact_ok h1.1 e1
      rw [e1] at h
      cases e2 : dfAll a b Φ with
      | none => rw [e2] at h; simp only [omin, Option.some.injEq] at h; omega
      | some y =>
        have hy := dfAll_ok h1.2 e2
        rw [e2] at h
        simp only [omin, Option.some.injEq] at h
        split at h <;> omega
def dfLt (Φ : Facts) (a b : IE) : Option Bool :=
  match dfAll (base a).1 (base b).1 Φ with
  | some k => if k < (base b).2 - (base a).2 then some true else (match dfAll (base b).1 (base a).1 Φ with
    | some k => if k ≤ (base a).2 - (base b).2 then some false else none
    | none => none)
  | none => match dfAll (base b).1 (base a).1 Φ with
    | some k => if k ≤ (base a).2 - (base b).2 then some false else none
    | none => none
theorem dfLt_ok {ρ : Rho} {Φ : Facts} (hk : Facts.ok ρ Φ) {a b : IE} {r : Bool} (h : dfLt Φ a b = some r) : (BE.lt a b).den ρ = r := by
  simp only [BE.den]
  rw [base_den ρ a, base_den ρ b]
  unfold dfLt at h
  split at h
  · rename_i k e1
    have := dfAll_ok hk e1
    split at h
    · cases h; exact decide_eq_true (by omega)
    · split at h
      · rename_i k2 e2
        have := dfAll_ok hk e2
        split at h
        · cases h; exact decide_eq_false (by omega)
        · cases h
      · cases h
  · split at h
    · rename_i k2 e2
      have := dfAll_ok hk e2
      split at h
      · cases h; exact decide_eq_false (by omega)
      · cases h
    · cases h

/-! ### Sums that stay within bounds -/
def inI64 (v : Iv) : Bool := match v.lo, v.hi with
  | some l, some h => decide (-9223372036854775808 ≤ l) && decide (h < 9223372036854775808)
  | _, _ => false
theorem inI64_ok {v : Iv} {x : Int} (h : v.ok x) (hi : inI64 v = true) : IntKind.i64.wrap x = x := by
  unfold inI64 at hi
  split at hi
  · rename_i l u hl hu
    simp only [Bool.and_eq_true, decide_eq_true_eq] at hi
    have := h.1 l hl
    have := h.2 u hu
    exact IntWalk.i64_in x ⟨by omega, by omega⟩
  · cases hi
def plusE : IE → IE → IE
  | .op .padd k a (.lit c), .lit d => .op .padd k a (.lit (c + d))
  | a, b => .op .padd .i64 a b
theorem plusE_den (ρ : Rho) (a b : IE) : (plusE a b).den ρ = a.den ρ + b.den ρ := by
  unfold plusE
  split <;> simp only [IE.den, IOp.den] <;> omega
/-- Sums that are known to stay within bounds, as whole numbers. -/
def nrmE (Φ : Facts) : IE → IE
  | .op .add .i64 a b => if inI64 (ivS Φ (plusE (nrmE Φ a) (nrmE Φ b))) = true then plusE (nrmE Φ a) (nrmE Φ b) else .op .add .i64 a b
  | .op .sub .i64 a (.lit c) => if inI64 (ivS Φ (plusE (nrmE Φ a) (.lit (-c)))) = true then plusE (nrmE Φ a) (.lit (-c)) else .op .sub .i64 a (.lit c)
  | .op .mul .i64 a b => if inI64 (ivS Φ (mkMul (nrmE Φ a) (nrmE Φ b))) = true then mkMul (nrmE Φ a) (nrmE Φ b) else .op .mul .i64 a b
  | .op .conv .i64 a b => if inI64 (ivS Φ (nrmE Φ a)) = true then nrmE Φ a else .op .conv .i64 a b
  | e => e
theorem nrmE_den {ρ : Rho} {Φ : Facts} (hk : Facts.ok ρ Φ) (e : IE) : (nrmE Φ e).den ρ = e.den ρ := by
  fun_induction nrmE Φ e with
  | case1 a b h ih1 ih2 =>
    have h1 := inI64_ok (ivS_ok hk _) h
    rw [plusE_den, ih1, ih2] at h1
    rw [plusE_den, ih1, ih2]
    exact h1.symm
  | case2 => rfl
  | case3 a c h ih =>
    have h1 := inI64_ok (ivS_ok hk _) h
    rw [plusE_den, ih] at h1
    rw [plusE_den, ih]
    simp only [IE.den, IOp.den] at h1 ⊢
    rw [Int.sub_eq_add_neg]; exact h1.symm
  | case4 => rfl
  | case5 a b h ih1 ih2 =>
    have h1 := inI64_ok (ivS_ok hk _) h
    rw [mkMul_den, ih1, ih2] at h1
    rw [mkMul_den, ih1, ih2]
    exact h1.symm
  | case6 => rfl
  | case7 a b h ih =>
    have h1 := inI64_ok (ivS_ok hk _) h
    rw [ih] at h1
    rw [ih]
    exact h1.symm
  | case8 => rfl
  | case9 => rfl
def isOp : IE → Bool
  | .op .add _ _ _ => true
  | .op .sub _ _ _ => true
  | .op .mul _ _ _ => true
  | .op .conv _ _ _ => true
  | _ => false
def nrmLt (Φ : Facts) (a b : IE) : Option Bool :=
  if (isOp a || isOp b) = true then
    let a := nrmE Φ a
    let b := nrmE Φ b
    if (base a).1.beq (base b).1 = true then some (decide ((base a).2 < (base b).2))
    else match ivLt (ivS Φ a) (ivS Φ b) with
      | some v => some v
      | none => dfLt Φ a b
  else none
theorem nrmLt_ok {ρ : Rho} {Φ : Facts} (hk : Facts.ok ρ Φ) {a b : IE} {r : Bool} (h : nrmLt Φ a b = some r) : (BE.lt a b).den ρ = r := by
  unfold nrmLt at h
  split at h
  · simp only at h
    rw [BE.den, ← nrmE_den hk a, ← nrmE_den hk b]
    split at h
    · rename_i hb
      cases h
      rw [base_den ρ (nrmE Φ a), base_den ρ (nrmE Φ b), IE.beq_eq _ _ hb]
      exact decide_eq_decide.2 (by omega)
    · split at h
      · rename_i h1; cases h; exact ivLt_ok (ivS_ok hk _) (ivS_ok hk _) h1
      · exact dfLt_ok hk h
  · cases h
def nrmEq (Φ : Facts) (a b : IE) : Option Bool :=
  if (isOp a || isOp b) = true then
    let a := nrmE Φ a
    let b := nrmE Φ b
    if (base a).1.beq (base b).1 = true then some (decide ((base a).2 = (base b).2))
    else match ivEq (ivS Φ a) (ivS Φ b) with
      | some v => some v
      | none => match dfLt Φ a b, dfLt Φ b a with
        | some true, _ => some false
        | _, some true => some false
        | some false, some false => some true
        | _, _ => none
  else none
theorem nrmEq_ok {ρ : Rho} {Φ : Facts} (hk : Facts.ok ρ Φ) {a b : IE} {r : Bool} (h : nrmEq Φ a b = some r) : (BE.eq a b).den ρ = r := by
  unfold nrmEq at h
  split at h
  · simp only at h
    rw [BE.den, ← nrmE_den hk a, ← nrmE_den hk b]
    split at h
    · rename_i hb
      cases h
      rw [base_den ρ (nrmE Φ a), base_den ρ (nrmE Φ b), IE.beq_eq _ _ hb, Bool.eq_iff_iff, beq_iff_eq, decide_eq_true_eq]
      omega
    · split at h
      · rename_i h1; cases h; exact ivEq_ok (ivS_ok hk _) (ivS_ok hk _) h1
      · split at h
        · rename_i h1
          have h1 := of_decide_eq_true (dfLt_ok (ρ := ρ) hk h1)
          cases h; exact beq_eq_false_iff_ne.2 (by omega)
        · rename_i h1 _
          have h1 := of_decide_eq_true (dfLt_ok (ρ := ρ) hk h1)
          cases h; exact beq_eq_false_iff_ne.2 (by omega)
        · rename_i h1 h2
          have h1 := of_decide_eq_false (dfLt_ok (ρ := ρ) hk h1)
          have h2 := of_decide_eq_false (dfLt_ok (ρ := ρ) hk h2)
          cases h; exact beq_iff_eq.2 (by omega)
        · cases h
  · cases h

/-! ### What is known of a truth -/
def lookB (c : BE) : Facts → Option Bool
  | [] => none
  | (d, v) :: r => if d.beq c = true then some v else lookB c r
theorem lookB_ok {ρ : Rho} {c : BE} {v : Bool} : ∀ {Φ : Facts}, Facts.ok ρ Φ → lookB c Φ = some v → c.den ρ = v
  | [], _, h => by cases h
  | (d, u) :: r, hk, h => by
    simp only [lookB] at h
    split at h
    · rename_i hb; cases h; rw [← BE.beq_eq _ _ hb]; exact (Facts.ok_tail hk).1
    · exact lookB_ok (Facts.ok_tail hk).2 h
def asLit (c : BE) : Option Bool → BE
  | some v => .lit v
  | none => c
theorem asLit_den {ρ : Rho} {c : BE} {o : Option Bool} (h : ∀ v, o = some v → c.den ρ = v) : (asLit c o).den ρ = c.den ρ := by
  cases o with
  | none => rfl
  | some v => simp only [asLit, BE.den]; exact (h v rfl).symm
def oor : Option Bool → Option Bool → Option Bool
  | some v, _ => some v
  | none, b => b
/-- A truth in the light of what is known. -/
def red (Φ : Facts) : BE → BE
  | .not a => mkNot (red Φ a)
  | .and a b => match lookB (.and a b) Φ with
    | some v => .lit v
    | none => mkAnd (red Φ a) (red Φ b)
  | .or a b => match lookB (.or a b) Φ with
    | some v => .lit v
    | none => mkOr (red Φ a) (red Φ b)
  | .ite c a b => match lookB (.ite c a b) Φ with
    | some v => .lit v
    | none => mkIteB (red Φ c) (red Φ a) (red Φ b)
  | .lit b => .lit b
  | .lt a b => asLit (.lt a b) (oor (ivLt (ivS Φ a) (ivS Φ b)) (oor (lookB (.lt a b) Φ) (oor (dfLt Φ a b) (nrmLt Φ a b))))
  | .eq a b => asLit (.eq a b) (oor (ivEq (ivS Φ a) (ivS Φ b)) (oor (lookB (.eq a b) Φ) (oor (lookB (.eq b a) Φ) (nrmEq Φ a b))))
  | c => asLit c (lookB c Φ)
theorem red_den {ρ : Rho} {Φ : Facts} (hk : Facts.ok ρ Φ) : ∀ c : BE, (red Φ c).den ρ = c.den ρ
  | .not a => by simp only [red, mkNot_den, BE.den, red_den hk a]
  | .and a b => by
    simp only [red]
    split
    · rename_i v hv; rw [lookB_ok hk hv]; rfl
    · simp only [mkAnd_den, BE.den, red_den hk a, red_den hk b]
  | .or a b => by
    simp only [red]
    split
    · rename_i v hv; rw [lookB_ok hk hv]; rfl
    · simp only [mkOr_den, BE.den, red_den hk a, red_den hk b]
  | .ite c a b => by
    simp only [red]
    split
    · rename_i v hv; rw [lookB_ok hk hv]; rfl
    · simp only [mkIteB_den, BE.den, red_den hk c, red_den hk a, red_den hk b]
  | .lit b => rfl
  | .lt a b => by
    refine asLit_den fun v hv => ?_
    unfold oor at hv
    split at hv
    · rename_i h1; cases hv; exact ivLt_ok (ivS_ok hk a) (ivS_ok hk b) h1
    · split at hv
      · rename_i h1; cases hv; exact lookB_ok hk h1
      · split at hv
        · rename_i h1; cases hv; exact dfLt_ok hk h1
        · exact nrmLt_ok hk hv
  | .eq a b => by
    refine asLit_den fun v hv => ?_
    unfold oor at hv
    split at hv
    · rename_i h1; cases hv; exact ivEq_ok (ivS_ok hk a) (ivS_ok hk b) h1
    · split at hv
      · rename_i h1; cases hv; exact lookB_ok hk h1
      · split at hv
        · rename_i h1
          cases hv
          have h2 := lookB_ok hk h1
          simp only [BE.den] at h2 ⊢
          rw [← h2, Bool.eq_iff_iff, beq_iff_eq, beq_iff_eq]
          exact ⟨Eq.symm, Eq.symm⟩
        · exact nrmEq_ok hk hv
  | .var i => asLit_den fun v hv => lookB_ok hk hv
  | .cl l k j => asLit_den fun v hv => lookB_ok hk hv
  | .seq a b => asLit_den fun v hv => lookB_ok hk hv
  | .slt a b => asLit_den fun v hv => lookB_ok hk hv
/-- One fact more, taken apart. -/
def assume : BE → Bool → Facts → Facts
  | .not a, v, Φ => assume a (!v) Φ
  | .and a b, true, Φ => assume a true (assume b true Φ)
  | .or a b, false, Φ => assume a false (assume b false Φ)
  | .lit _, _, Φ => Φ
  | c, v, Φ => (c, v) :: Φ
theorem assume_ok {ρ : Rho} : ∀ (c : BE) (v : Bool) (Φ : Facts), c.den ρ = v → Facts.ok ρ Φ → Facts.ok ρ (assume c v Φ) := by
  intro c v Φ
  fun_induction assume c v Φ with
  | case1 a v Φ ih => intro h hk; simp only [BE.den] at h; exact ih (by rw [← h]; simp) hk
  | case2 a b Φ ih1 ih2 => intro h hk; simp only [BE.den, Bool.and_eq_true] at h; exact ih2 h.1 (ih1 h.2 hk)
  | case3 a b Φ ih1 ih2 => intro h hk; simp only [BE.den, Bool.or_eq_false_iff] at h; exact ih2 h.1 (ih1 h.2 hk)
  | case4 => intro _ hk; exact hk
  | case5 => intro h hk; exact Facts.ok_cons h hk

/-! ### Ways -/
inductive T (α : Type) where
  | ret (a : α)
  | br (c : BE) (x y : T α)
  | need (c : BE) (x : T α)
  | fail (why : List String)
def T.sel {α : Type} (ρ : Rho) : T α → Option α
  | .ret a => some a
  | .br c x y => if c.den ρ = true then x.sel ρ else y.sel ρ
  | .need c x => if c.den ρ = true then x.sel ρ else none
  | .fail _ => none
def T.bind {α β : Type} (Φ : Facts) (f : Facts → α → T β) : T α → T β
  | .ret a => f Φ a
  | .br c x y => .br c (x.bind (assume c true Φ) f) (y.bind (assume c false Φ) f)
  | .need c x => .need c (x.bind (assume c true Φ) f)
  | .fail w => .fail w
theorem T.sel_bind {α β : Type} {ρ : Rho} {f : Facts → α → T β} {b : β} : ∀ (t : T α) {Φ : Facts}, Facts.ok ρ Φ → (t.bind Φ f).sel ρ = some b → ∃ Φ' a, Facts.ok ρ Φ' ∧ t.sel ρ = some a ∧ (f Φ' a).sel ρ = some b
  | .ret a, Φ, hk, h => ⟨Φ, a, hk, rfl, h⟩
  | .br c x y, Φ, hk, h => by
    simp only [T.bind, T.sel] at h ⊢
    split at h
    · rename_i hc; rw [if_pos hc]; exact T.sel_bind x (assume_ok c true Φ hc hk) h
    · rename_i hc; rw [if_neg hc]; exact T.sel_bind y (assume_ok c false Φ (by simpa using hc) hk) h
  | .need c x, Φ, hk, h => by
    simp only [T.bind, T.sel] at h ⊢
    split at h
    · rename_i hc; rw [if_pos hc]; exact T.sel_bind x (assume_ok c true Φ hc hk) h
    · cases h
  | .fail _, _, _, h => by cases h
def T.map {α β : Type} (f : α → β) : T α → T β
  | .ret a => .ret (f a)
  | .br c x y => .br c (x.map f) (y.map f)
  | .need c x => .need c (x.map f)
  | .fail w => .fail w
theorem T.sel_map {α β : Type} {ρ : Rho} {f : α → β} {b : β} : ∀ (t : T α), (t.map f).sel ρ = some b → ∃ a, t.sel ρ = some a ∧ b = f a
  | .ret a, h => by cases h; exact ⟨a, rfl, rfl⟩
  | .br c x y, h => by
    simp only [T.map, T.sel] at h ⊢
    split at h
    · rename_i hc; rw [if_pos hc]; exact T.sel_map x h
    · rename_i hc; rw [if_neg hc]; exact T.sel_map y h
  | .need c x, h => by
    simp only [T.map, T.sel] at h ⊢
    split at h
    · rename_i hc; rw [if_pos hc]; exact T.sel_map x h
    · cases h
  | .fail _, h => by cases h
/-- Where a way breaks off (for the bench alone). -/
def lab {α : Type} (w : String) : T α → T α
  | .fail [] => .fail [w]
  | t => t
theorem sel_lab {α : Type} {ρ : Rho} {w : String} {t : T α} : (lab w t).sel ρ = t.sel ρ := by
  unfold lab; split <;> rfl
def T.why {α : Type} : T α → List String
  | .ret _ => []
  | .br _ x y => match x.why with
    | [] => y.why
    | w => w
  | .need _ x => x.why
  | .fail w => w
/-- A parting, if it is not known which way is gone. -/
def part {α : Type} (Φ : Facts) (c : BE) (x y : Facts → T α) : T α :=
  match red Φ c with
  | .lit true => x Φ
  | .lit false => y Φ
  | d => .br d (x (assume d true Φ)) (y (assume d false Φ))
theorem sel_part {α : Type} {ρ : Rho} {Φ : Facts} {c : BE} {x y : Facts → T α} {a : α} (hk : Facts.ok ρ Φ) (h : (part Φ c x y).sel ρ = some a) : ∃ Φ', Facts.ok ρ Φ' ∧ ((c.den ρ = true ∧ (x Φ').sel ρ = some a) ∨ (c.den ρ = false ∧ (y Φ').sel ρ = some a)) := by
  have hr := red_den hk c
  unfold part at h
  split at h
  · rename_i hd; rw [hd] at hr; exact ⟨Φ, hk, .inl ⟨hr.symm, h⟩⟩
  · rename_i hd; rw [hd] at hr; exact ⟨Φ, hk, .inr ⟨hr.symm, h⟩⟩
  · simp only [T.sel] at h
    split at h
    · rename_i hc; exact ⟨_, assume_ok _ true Φ hc hk, .inl ⟨by rw [← hr]; exact hc, h⟩⟩
    · rename_i hc; exact ⟨_, assume_ok _ false Φ (by simpa using hc) hk, .inr ⟨by rw [← hr]; simpa using hc, h⟩⟩
def want {α : Type} (Φ : Facts) (c : BE) (x : Facts → T α) : T α :=
  match red Φ c with
  | .lit true => x Φ
  | .lit false => (.fail [])
  | d => .need d (x (assume d true Φ))
theorem sel_want {α : Type} {ρ : Rho} {Φ : Facts} {c : BE} {x : Facts → T α} {a : α} (hk : Facts.ok ρ Φ) (h : (want Φ c x).sel ρ = some a) : ∃ Φ', Facts.ok ρ Φ' ∧ c.den ρ = true ∧ (x Φ').sel ρ = some a := by
  have hr := red_den hk c
  unfold want at h
  split at h
  · rename_i hd; rw [hd] at hr; exact ⟨Φ, hk, hr.symm, h⟩
  · cases h
  · simp only [T.sel] at h
    split at h
    · rename_i hc; exact ⟨_, assume_ok _ true Φ hc hk, by rw [← hr]; exact hc, h⟩
    · cases h
end Go.Proofs.Xw

/- Symbolic runs, part 3: values, rows, two values put together. -/
namespace Go.Proofs.Xw
open Go Go.Proofs.Aw

/-! ### Sums of lengths -/
def mkAdd : IE → IE → IE
  | .lit m, .lit n => .lit (m + n)
  | a, .lit n => if n == 0 then a else .op .padd .i64 a (.lit n)
  | .lit n, b => if n == 0 then b else .op .padd .i64 (.lit n) b
  | a, b => .op .padd .i64 a b
theorem mkAdd_den (ρ : Rho) (a b : IE) : (mkAdd a b).den ρ = a.den ρ + b.den ρ := by
  unfold mkAdd
  split
  · simp [IE.den]
  · split
    · rename_i h; simp only [beq_iff_eq] at h; subst h; simp [IE.den]
    · simp [IE.den, IOp.den]
  · split
    · rename_i h; simp only [beq_iff_eq] at h; subst h; simp [IE.den]
    · simp [IE.den, IOp.den]
  · simp [IE.den, IOp.den]
def mkSub : IE → IE → IE
  | .lit m, .lit n => .lit (m - n)
  | .op .padd k a b, c => if a.beq c = true then b else if b.beq c = true then a else .op .psub .i64 (.op .padd k a b) c
  | a, .lit n => if n == 0 then a else .op .psub .i64 a (.lit n)
  | a, b => if a.beq b = true then .lit 0 else .op .psub .i64 a b
theorem mkSub_den (ρ : Rho) (a b : IE) : (mkSub a b).den ρ = a.den ρ - b.den ρ := by
  unfold mkSub
  split
  · simp [IE.den]
  · split
    · rename_i h; rw [← IE.beq_eq _ _ h]; simp only [IE.den, IOp.den]; omega
    · split
      · rename_i h; rw [← IE.beq_eq _ _ h]; simp only [IE.den, IOp.den]; omega
      · simp [IE.den, IOp.den]
  · split
    · rename_i h; simp only [beq_iff_eq] at h; subst h; simp [IE.den]
    · simp [IE.den, IOp.den]
  · split
    · rename_i h; rw [IE.beq_eq _ _ h]; simp [IE.den]
    · simp [IE.den, IOp.den]

/-! ### One cell -/
inductive Kd where
  | i (k : IntKind) | b | s
inductive Sc where
  | i (k : IntKind) (e : IE) | b (e : BE) | s (e : TE) | f (n : IE) (z : BE) | c (n : IE) (z : BE) (m : IE) (y : BE)
instance : Inhabited Sc := ⟨.b default⟩
def Sc.den (ρ : Rho) : Sc → Value
  | .i k e => .int k (e.den ρ)
  | .b e => .bool (e.den ρ)
  | .s e => .string (e.den ρ)
  | .f n z => .float .f64 (fv (n.den ρ) (z.den ρ))
  | .c n z m y => .complex .f64 (fv (n.den ρ) (z.den ρ)) (fv (m.den ρ) (y.den ρ))
def Sc.beq : Sc → Sc → Bool
  | .i k e, .i k' e' => kbeq k k' && e.beq e'
  | .b e, .b e' => e.beq e'
  | .s e, .s e' => e.beq e'
  | .f n z, .f n' z' => n.beq n' && z.beq z'
  | .c n z m y, .c n' z' m' y' => n.beq n' && (z.beq z' && (m.beq m' && y.beq y'))
  | _, _ => false
theorem Sc.beq_eq {a b : Sc} (h : a.beq b = true) : a = b := by
  cases a <;> cases b <;> simp [Sc.beq] at h ⊢
  · exact ⟨kbeq_eq h.1, IE.beq_eq _ _ h.2⟩
  · exact BE.beq_eq _ _ h
  · exact TE.beq_eq _ _ h
  · exact ⟨IE.beq_eq _ _ h.1, BE.beq_eq _ _ h.2⟩
  · exact ⟨IE.beq_eq _ _ h.1, BE.beq_eq _ _ h.2.1, IE.beq_eq _ _ h.2.2.1, BE.beq_eq _ _ h.2.2.2⟩
def mergeSc (c : BE) : Sc → Sc → Option Sc
  | .i k a, .i k' b => if kbeq k k' = true then some (.i k (mkIteI c a b)) else none
  | .b a, .b b => some (.b (mkIteB c a b))
  | .s a, .s b => some (.s (mkIteT c a b))
  | .f n z, .f n' z' => some (.f (mkIteI c n n') (mkIteB c z z'))
  | .c n z m y, .c n' z' m' y' => some (.c (mkIteI c n n') (mkIteB c z z') (mkIteI c m m') (mkIteB c y y'))
  | _, _ => none
theorem mergeSc_den {ρ : Rho} {c : BE} {a b s : Sc} (h : mergeSc c a b = some s) : s.den ρ = if c.den ρ = true then a.den ρ else b.den ρ := by
  cases a <;> cases b <;> simp only [mergeSc, reduceCtorEq, Option.some.injEq] at h
  · split at h
    · rename_i hk
      cases h
      rw [← kbeq_eq hk]
      simp only [Sc.den, mkIteI_den]
      split <;> rfl
    · cases h
  · subst h; simp only [Sc.den, mkIteB_den]; split <;> rfl
  · subst h; simp only [Sc.den, mkIteT_den]; split <;> rfl
  · subst h; simp only [Sc.den, mkIteI_den, mkIteB_den]; split <;> rfl
  · subst h; simp only [Sc.den, mkIteI_den, mkIteB_den]; split <;> rfl
def scL (ρ : Rho) (r : List Sc) : List AV := r.map fun s => .sc (s.den ρ)
def mergeScs (c : BE) : List Sc → List Sc → Option (List Sc)
  | [], [] => some []
  | a :: as, b :: bs => match mergeSc c a b, mergeScs c as bs with
    | some s, some r => some (s :: r)
    | _, _ => none
  | _, _ => none
theorem mergeScs_den {ρ : Rho} {c : BE} : ∀ {a b s : List Sc}, mergeScs c a b = some s → scL ρ s = if c.den ρ = true then scL ρ a else scL ρ b
  | [], [], s, h => by simp only [mergeScs, Option.some.injEq] at h; subst h; simp
  | a :: as, b :: bs, s, h => by
    simp only [mergeScs] at h
    split at h
    · rename_i x r h1 h2
      cases h
      have e1 := mergeSc_den (ρ := ρ) h1
      have e2 := mergeScs_den (ρ := ρ) h2
      simp only [scL, List.map_cons] at e2 ⊢
      rw [e1, e2]
      split <;> rfl
    · cases h
  | [], _ :: _, _, h => by simp [mergeScs] at h
  | _ :: _, [], _, h => by simp [mergeScs] at h

/-! ### Rows -/
inductive RL where
  | var (l : Nat) (ks : List Kd)
  | one (r : List Sc)
  | app (n : IE) (a b : RL)
  | drop (n : IE) (a : RL)
  | upd (i : IE) (r : List Sc) (a : RL)
  | ite (c : BE) (a b : RL)
def cellsV (ρ : Rho) (l : Nat) : Nat → List Kd → Nat → List AV
  | _, [], _ => []
  | k, .i K :: ks, j => .sc (.int K (ρ.ci l k j)) :: cellsV ρ l (k + 1) ks j
  | k, .b :: ks, j => .sc (.bool (ρ.cb l k j)) :: cellsV ρ l (k + 1) ks j
  | k, .s :: ks, j => .sc (.string (ρ.cs l k j)) :: cellsV ρ l (k + 1) ks j
def RL.row (ρ : Rho) : RL → Int → List AV
  | .var l ks, j => cellsV ρ l 0 ks j.toNat
  | .one r, _ => scL ρ r
  | .app n a b, j => if j < n.den ρ then a.row ρ j else b.row ρ (j - n.den ρ)
  | .drop n a, j => a.row ρ (j + n.den ρ)
  | .upd i r a, j => if j = i.den ρ then scL ρ r else a.row ρ j
  | .ite c a b, j => if c.den ρ = true then a.row ρ j else b.row ρ j
def cellsG (l : Nat) (j : IE) : Nat → List Kd → List Sc
  | _, [] => []
  | k, .i K :: ks => .i K (.cl l k j) :: cellsG l j (k + 1) ks
  | k, .b :: ks => .b (.cl l k j) :: cellsG l j (k + 1) ks
  | k, .s :: ks => .s (.cl l k j) :: cellsG l j (k + 1) ks
theorem cellsG_den (ρ : Rho) (l : Nat) (j : IE) : ∀ (k : Nat) (ks : List Kd), scL ρ (cellsG l j k ks) = cellsV ρ l k ks (j.den ρ).toNat
  | _, [] => rfl
  | k, .i K :: ks => by simp only [cellsG, cellsV, scL, List.map_cons, Sc.den, IE.den]; exact congrArg _ (cellsG_den ρ l j (k + 1) ks)
  | k, .b :: ks => by simp only [cellsG, cellsV, scL, List.map_cons, Sc.den, BE.den]; exact congrArg _ (cellsG_den ρ l j (k + 1) ks)
  | k, .s :: ks => by simp only [cellsG, cellsV, scL, List.map_cons, Sc.den, TE.den]; exact congrArg _ (cellsG_den ρ l j (k + 1) ks)
def RL.get : RL → IE → Option (List Sc)
  | .var l ks, j => some (cellsG l j 0 ks)
  | .one r, _ => some r
  | .app n a b, j => match mkLt j n with
    | .lit true => a.get j
    | .lit false => b.get (mkSub j n)
    | c => match a.get j, b.get (mkSub j n) with
      | some x, some y => mergeScs c x y
      | _, _ => none
  | .drop n a, j => a.get (mkAdd j n)
  | .upd i r a, j => match mkEq j i with
    | .lit true => some r
    | .lit false => a.get j
    | c => match a.get j with
      | some y => mergeScs c r y
      | none => none
  | .ite c a b, j => match a.get j, b.get j with
    | some x, some y => mergeScs c x y
    | _, _ => none
/-- All rows have z cells. -/
def RL.wd (z : Nat) : RL → Bool
  | .var _ ks => Nat.beq ks.length z
  | .one r => Nat.beq r.length z
  | .app _ a b => a.wd z && b.wd z
  | .drop _ a => a.wd z
  | .upd _ r a => Nat.beq r.length z && a.wd z
  | .ite _ a b => a.wd z && b.wd z
theorem scL_len (ρ : Rho) (r : List Sc) : (scL ρ r).length = r.length := by simp [scL]
theorem cellsV_len (ρ : Rho) (l j : Nat) : ∀ (ks : List Kd) (k : Nat), (cellsV ρ l k ks j).length = ks.length
  | [], _ => rfl
  | .i _ :: ks, k => by simp only [cellsV, List.length_cons, cellsV_len ρ l j ks (k + 1)]
  | .b :: ks, k => by simp only [cellsV, List.length_cons, cellsV_len ρ l j ks (k + 1)]
  | .s :: ks, k => by simp only [cellsV, List.length_cons, cellsV_len ρ l j ks (k + 1)]
theorem RL.wd_len {ρ : Rho} {z : Nat} : ∀ {l : RL} {j : Int}, l.wd z = true → (l.row ρ j).length = z
  | .var l ks, j, h => by simp only [RL.row, cellsV_len]; exact Nat.eq_of_beq_eq_true h
  | .one r, j, h => by simp only [RL.row, scL_len]; exact Nat.eq_of_beq_eq_true h
  | .app n a b, j, h => by
    simp only [RL.wd, Bool.and_eq_true] at h
    simp only [RL.row]
    split
    · exact RL.wd_len h.1
    · exact RL.wd_len h.2
  | .drop n a, j, h => by simp only [RL.row]; exact RL.wd_len (l := a) h
  | .upd i r a, j, h => by
    simp only [RL.wd, Bool.and_eq_true] at h
    simp only [RL.row]
    split
    · rw [scL_len]; exact Nat.eq_of_beq_eq_true h.1
    · exact RL.wd_len h.2
  | .ite c a b, j, h => by
    simp only [RL.wd, Bool.and_eq_true] at h
    simp only [RL.row]
    split
    · exact RL.wd_len h.1
    · exact RL.wd_len h.2
def kdbeq : Kd → Kd → Bool
  | .i k, .i k' => kbeq k k'
  | .b, .b => true
  | .s, .s => true
  | _, _ => false
theorem kdbeq_eq {x y : Kd} (h : kdbeq x y = true) : x = y := by cases x <;> cases y <;> simp [kdbeq] at h ⊢; exact kbeq_eq h
def lbeq {α : Type} (f : α → α → Bool) : List α → List α → Bool
  | [], [] => true
  | a :: as, b :: bs => f a b && lbeq f as bs
  | _, _ => false
theorem lbeq_eq {α : Type} {f : α → α → Bool} (hf : ∀ a b, f a b = true → a = b) : ∀ {as bs : List α}, lbeq f as bs = true → as = bs
  | [], [], _ => rfl
  | a :: as, b :: bs, h => by
    simp only [lbeq, Bool.and_eq_true] at h
    rw [hf _ _ h.1, lbeq_eq hf h.2]
  | [], _ :: _, h => by simp [lbeq] at h
  | _ :: _, [], h => by simp [lbeq] at h
def RL.beq : RL → RL → Bool
  | .var l ks, .var l' ks' => Nat.beq l l' && lbeq kdbeq ks ks'
  | .one r, .one r' => lbeq Sc.beq r r'
  | .app n a b, .app n' a' b' => n.beq n' && (a.beq a' && b.beq b')
  | .drop n a, .drop n' a' => n.beq n' && a.beq a'
  | .upd i r a, .upd i' r' a' => i.beq i' && (lbeq Sc.beq r r' && a.beq a')
  | .ite c a b, .ite c' a' b' => c.beq c' && (a.beq a' && b.beq b')
  | _, _ => false
theorem RL.beq_eq : ∀ {a b : RL}, a.beq b = true → a = b
  | .var l ks, b, h => by
    cases b <;> simp [RL.beq] at h ⊢
    exact ⟨h.1, lbeq_eq (fun _ _ => kdbeq_eq) h.2⟩
  | .one r, b, h => by
    cases b <;> simp [RL.beq] at h ⊢
    exact lbeq_eq (fun _ _ => Sc.beq_eq) h
  | .app n x y, b, h => by
    cases b <;> simp [RL.beq] at h ⊢
    exact ⟨IE.beq_eq _ _ h.1, RL.beq_eq h.2.1, RL.beq_eq h.2.2⟩
  | .drop n x, b, h => by
    cases b <;> simp [RL.beq] at h ⊢
    exact ⟨IE.beq_eq _ _ h.1, RL.beq_eq h.2⟩
  | .upd i r x, b, h => by
    cases b <;> simp [RL.beq] at h ⊢
    exact ⟨IE.beq_eq _ _ h.1, lbeq_eq (fun _ _ => Sc.beq_eq) h.2.1, RL.beq_eq h.2.2⟩
  | .ite c x y, b, h => by
    cases b <;> simp [RL.beq] at h ⊢
    exact ⟨BE.beq_eq _ _ h.1, RL.beq_eq h.2.1, RL.beq_eq h.2.2⟩
def mkRL (c : BE) (a b : RL) : RL := if a.beq b = true then a else .ite c a b
theorem mkRL_row (ρ : Rho) (c : BE) (a b : RL) (j : Int) : (mkRL c a b).row ρ j = if c.den ρ = true then a.row ρ j else b.row ρ j := by
  unfold mkRL
  split
  · rename_i h; rw [RL.beq_eq h, ite_self]
  · rfl

/-! ### Rows some of whose cells are slices -/
inductive Nk where
  | f (k : Kd)
  | r (z S : Nat) (ks : List Kd)
def cellV1 (ρ : Rho) (l k : Nat) (j : Nat) : Kd → AV
  | .i K => .sc (.int K (ρ.ci l k j))
  | .b => .sc (.bool (ρ.cb l k j))
  | .s => .sc (.string (ρ.cs l k j))
/-- The rows of letter S from one on. -/
def rowsS (ρ : Rho) (S : Nat) (ks : List Kd) (off n : Int) : List (List AV) := (List.range n.toNat).map fun (e : Nat) => cellsV ρ S 0 ks ((e : Int) + off).toNat
def cellsN (ρ : Rho) (l : Nat) : Nat → List Nk → Nat → List AV
  | _, [], _ => []
  | k, .f kd :: ks, j => cellV1 ρ l k j kd :: cellsN ρ l (k + 1) ks j
  | k, .r z S kk :: ks, j => .ro z (rowsS ρ S kk (ρ.ci l k j) (ρ.ci l (k + 1000) j)) false :: cellsN ρ l (k + 1) ks j
theorem cellsN_len (ρ : Rho) (l j : Nat) : ∀ (ks : List Nk) (k : Nat), (cellsN ρ l k ks j).length = ks.length
  | [], _ => rfl
  | .f _ :: ks, k => by simp only [cellsN, List.length_cons, cellsN_len ρ l j ks (k + 1)]
  | .r _ _ _ :: ks, k => by simp only [cellsN, List.length_cons, cellsN_len ρ l j ks (k + 1)]
def nkbeq : Nk → Nk → Bool
  | .f x, .f y => kdbeq x y
  | .r z S ks, .r z' S' ks' => Nat.beq z z' && (Nat.beq S S' && lbeq kdbeq ks ks')
  | _, _ => false
theorem nkbeq_eq {x y : Nk} (h : nkbeq x y = true) : x = y := by
  cases x <;> cases y <;> simp only [nkbeq, Bool.false_eq_true, Bool.and_eq_true] at h
  · rw [kdbeq_eq h]
  · rw [Nat.eq_of_beq_eq_true h.1, Nat.eq_of_beq_eq_true h.2.1, lbeq_eq (fun _ _ => kdbeq_eq) h.2.2]

/-! ### Values -/
inductive X where
  | top
  | k (v : Value)
  | sc (s : Sc)
  | agg (cs : List X)
  | tup (vs : List X)
  | ptr (n : Nm) (as : List (BE × Nat)) (d : Nat)
  | sl (n : Nm) (z off len : Nat) (own : Bool)
  | ip (cs : List X) (as : List (BE × Nat)) (d : Nat)
  | ro (z : Nat) (es : List (List X)) (full : Bool)
  | rl (z : Nat) (n : IE) (l : RL) (full : Bool)
  | fn (f : Fn) (first cap : List X)
  | gd (c : BE) (x : X)
  /-- The rows of an object, all of them: alone in the object's place. -/
  | rows (z : Nat) (n : IE) (l : RL)
  /-- A slice of an object of rows; off: in rows. -/
  | slv (n : Nm) (z : Nat) (off len : IE) (own : Bool)
  /-- The place of cell o of row j of an object of rows. -/
  | ptrv (n : Nm) (z : Nat) (j : IE) (o : Nat)
  /-- Rows some of whose cells are slices; read only. -/
  | rn (z : Nat) (n : IE) (l : Nat) (ks : List Nk) (full : Bool)
instance : Inhabited X := ⟨.top⟩
/-- The first place whose condition holds. -/
def choose (ρ : Rho) : List (BE × Nat) → Nat → Nat
  | [], d => d
  | (c, o) :: r, d => if c.den ρ = true then o else choose ρ r d
def rowsD (ρ : Rho) (n : IE) (l : RL) : List (List AV) := (List.range (n.den ρ).toNat).map fun (j : Nat) => l.row ρ j
def rowsN (ρ : Rho) (n : IE) (l : Nat) (ks : List Nk) : List (List AV) := (List.range (n.den ρ).toNat).map fun (j : Nat) => cellsN ρ l 0 ks j
mutual
def X.den (ρ : Rho) : X → AV
  | .top => .top
  | .k v => .sc v
  | .sc s => .sc (s.den ρ)
  | .agg cs => .agg (X.denL ρ cs)
  | .tup vs => .tup (X.denL ρ vs)
  | .ptr n as d => .ptr n (choose ρ as d)
  | .sl n z off len own => .sl n z off len own
  | .ip cs as d => .ip (X.denL ρ cs) (choose ρ as d)
  | .ro z es full => .ro z (X.denE ρ es) full
  | .rl z n l full => .ro z (rowsD ρ n l) full
  | .fn f xs ys => .fn f (X.denL ρ xs) (X.denL ρ ys)
  | .gd c x => if c.den ρ = true then x.den ρ else .sc undef
  | .rows _ _ _ => .top
  | .slv n z off len own => .sl n z ((off.den ρ).toNat * z) (len.den ρ).toNat own
  | .ptrv n z j o => .ptr n ((j.den ρ).toNat * z + o)
  | .rn z n l ks full => .ro z (rowsN ρ n l ks) full
def X.denL (ρ : Rho) : List X → List AV
  | [] => []
  | x :: xs => x.den ρ :: X.denL ρ xs
def X.denE (ρ : Rho) : List (List X) → List (List AV)
  | [] => []
  | e :: es => X.denL ρ e :: X.denE ρ es
end
theorem X.denL_eq (ρ : Rho) : ∀ l, X.denL ρ l = l.map (X.den ρ)
  | [] => rfl
  | x :: xs => by simp only [X.denL, List.map_cons, X.denL_eq ρ xs]
theorem X.denE_eq (ρ : Rho) : ∀ l, X.denE ρ l = l.map (X.denL ρ)
  | [] => rfl
  | x :: xs => by simp only [X.denE, List.map_cons, X.denE_eq ρ xs]
theorem X.denL_len (ρ : Rho) (l : List X) : (X.denL ρ l).length = l.length := by rw [X.denL_eq]; simp
theorem X.denL_append (ρ : Rho) (l m : List X) : X.denL ρ (l ++ m) = X.denL ρ l ++ X.denL ρ m := by simp [X.denL_eq]
theorem X.denL_take (ρ : Rho) (l : List X) (n : Nat) : X.denL ρ (l.take n) = (X.denL ρ l).take n := by simp [X.denL_eq]
theorem X.denL_drop (ρ : Rho) (l : List X) (n : Nat) : X.denL ρ (l.drop n) = (X.denL ρ l).drop n := by simp [X.denL_eq]
theorem X.denL_get (ρ : Rho) (l : List X) (i : Nat) : (X.denL ρ l)[i]? = (l[i]?).map (X.den ρ) := by simp [X.denL_eq]
theorem X.denE_get (ρ : Rho) (l : List (List X)) (i : Nat) : (X.denE ρ l)[i]? = (l[i]?).map (X.denL ρ) := by simp [X.denE_eq]
def ofSc (r : List Sc) : List X := r.map .sc
theorem ofSc_den (ρ : Rho) (r : List Sc) : X.denL ρ (ofSc r) = scL ρ r := by simp [X.denL_eq, ofSc, scL, X.den]
def cellX1 (l : Nat) (e : IE) (k : Nat) : Kd → X
  | .i K => .sc (.i K (.cl l k e))
  | .b => .sc (.b (.cl l k e))
  | .s => .sc (.s (.cl l k e))
def cellsNX (l : Nat) (e : IE) : Nat → List Nk → List X
  | _, [] => []
  | k, .f kd :: ks => cellX1 l e k kd :: cellsNX l e (k + 1) ks
  | k, .r z S kk :: ks => .rl z (.cl l (k + 1000) e) (.drop (.cl l k e) (.var S kk)) false :: cellsNX l e (k + 1) ks
theorem cellsNX_den (ρ : Rho) (l : Nat) (e : IE) : ∀ (ks : List Nk) (k : Nat), X.denL ρ (cellsNX l e k ks) = cellsN ρ l k ks (e.den ρ).toNat
  | [], _ => rfl
  | .f kd :: ks, k => by
    simp only [cellsNX, cellsN, X.denL, cellsNX_den ρ l e ks (k + 1)]
    congr 1
    cases kd <;> rfl
  | .r z S kk :: ks, k => by
    simp only [cellsNX, cellsN, X.denL, cellsNX_den ρ l e ks (k + 1)]
    rfl
/-- The whole number that a word stands for (if it is one). -/
def whole (w : Nat) : Int := match (Ieee.double.read w).toInt .zero with
  | some n => n
  | none => 0
def ofV : Value → X
  | .int k i => .sc (.i k (.lit i))
  | .bool b => .sc (.b (.lit b))
  | .string s => .sc (.s (.lit s))
  | .float .f64 w => if Nat.beq (fv (whole w) false) w = true then .sc (.f (.lit (whole w)) (.lit false)) else .k (.float .f64 w)
  | .complex .f64 w u => if (Nat.beq (fv (whole w) false) w && Nat.beq (fv (whole u) false) u) = true then .sc (.c (.lit (whole w)) (.lit false) (.lit (whole u)) (.lit false)) else .k (.complex .f64 w u)
  | v => .k v
theorem ofV_den (ρ : Rho) (v : Value) : (ofV v).den ρ = .sc v := by
  unfold ofV
  split
  · rfl
  · rfl
  · rfl
  · split
    · rename_i h
      simp only [X.den, Sc.den, IE.den, BE.den, Nat.eq_of_beq_eq_true h]
    · rfl
  · split
    · rename_i h
      rw [Bool.and_eq_true] at h
      simp only [X.den, Sc.den, IE.den, BE.den, Nat.eq_of_beq_eq_true h.1, Nat.eq_of_beq_eq_true h.2]
    · rfl
  · rfl

/-! ### Alike -/
def vbeq : Value → Value → Bool
  | .pointer none, .pointer none => true
  | .slice none a b, .slice none a' b' => Nat.beq a a' && Nat.beq b b'
  | .nilFunc, .nilFunc => true
  | .nilIface, .nilIface => true
  | .tuple ⟨[]⟩, .tuple ⟨[]⟩ => true
  | _, _ => false
theorem vbeq_eq {a b : Value} (h : vbeq a b = true) : a = b := by
  unfold vbeq at h
  split at h
  · rfl
  · simp at h; rw [h.1, h.2]
  · rfl
  · rfl
  · rfl
  · cases h
def nmbeq (a b : Nm) : Bool := Nat.beq a.1 b.1 && Nat.beq a.2 b.2
theorem nmbeq_eq {a b : Nm} (h : nmbeq a b = true) : a = b := by
  simp only [nmbeq, Bool.and_eq_true] at h
  exact Prod.ext (Nat.eq_of_beq_eq_true h.1) (Nat.eq_of_beq_eq_true h.2)
def asbeq (a b : BE × Nat) : Bool := a.1.beq b.1 && Nat.beq a.2 b.2
theorem asbeq_eq (a b : BE × Nat) (h : asbeq a b = true) : a = b := by
  simp only [asbeq, Bool.and_eq_true] at h
  exact Prod.ext (BE.beq_eq _ _ h.1) (Nat.eq_of_beq_eq_true h.2)
def fnbeq : Fn → Fn → Bool
  | .func a, .func b => Nat.beq a b
  | _, _ => false
theorem fnbeq_eq {a b : Fn} (h : fnbeq a b = true) : a = b := by
  unfold fnbeq at h
  split at h
  · simp at h; rw [h]
  · cases h
mutual
def X.beq : X → X → Bool
  | .top, .top => true
  | .k v, .k w => vbeq v w
  | .sc s, .sc s' => s.beq s'
  | .agg cs, .agg cs' => X.beqL cs cs'
  | .tup cs, .tup cs' => X.beqL cs cs'
  | .ptr n as d, .ptr n' as' d' => nmbeq n n' && (Nat.beq d d' && lbeq asbeq as as')
  | .sl n z o l w, .sl n' z' o' l' w' => nmbeq n n' && (Nat.beq z z' && (Nat.beq o o' && (Nat.beq l l' && w == w')))
  | .ip cs as d, .ip cs' as' d' => Nat.beq d d' && (lbeq asbeq as as' && X.beqL cs cs')
  | .ro z es f, .ro z' es' f' => Nat.beq z z' && (f == f' && X.beqE es es')
  | .rl z n l f, .rl z' n' l' f' => Nat.beq z z' && (f == f' && (n.beq n' && l.beq l'))
  | .fn f xs ys, .fn f' xs' ys' => fnbeq f f' && (X.beqL xs xs' && X.beqL ys ys')
  | .gd c x, .gd c' x' => c.beq c' && x.beq x'
  | .rows z n l, .rows z' n' l' => Nat.beq z z' && (n.beq n' && l.beq l')
  | .slv n z o l w, .slv n' z' o' l' w' => nmbeq n n' && (Nat.beq z z' && (o.beq o' && (l.beq l' && w == w')))
  | .ptrv n z j o, .ptrv n' z' j' o' => nmbeq n n' && (Nat.beq z z' && (j.beq j' && Nat.beq o o'))
  | .rn z n l ks f, .rn z' n' l' ks' f' => Nat.beq z z' && (f == f' && (n.beq n' && (Nat.beq l l' && lbeq nkbeq ks ks')))
  | _, _ => false
def X.beqL : List X → List X → Bool
  | [], [] => true
  | a :: as, b :: bs => a.beq b && X.beqL as bs
  | _, _ => false
def X.beqE : List (List X) → List (List X) → Bool
  | [], [] => true
  | a :: as, b :: bs => X.beqL a b && X.beqE as bs
  | _, _ => false
end
mutual
theorem X.beq_eq : ∀ (a b : X), a.beq b = true → a = b
  | .top, b, h => by cases b <;> simp [X.beq] at h ⊢
  | .k v, b, h => by cases b <;> simp [X.beq] at h ⊢; exact vbeq_eq h
  | .sc v, b, h => by cases b <;> simp [X.beq] at h ⊢; exact Sc.beq_eq h
  | .agg cs, b, h => by cases b <;> simp [X.beq] at h ⊢; exact X.beqL_eq _ _ h
  | .tup cs, b, h => by cases b <;> simp [X.beq] at h ⊢; exact X.beqL_eq _ _ h
  | .ptr n as d, b, h => by
    cases b <;> simp [X.beq] at h ⊢
    exact ⟨nmbeq_eq h.1, lbeq_eq asbeq_eq h.2.2, h.2.1⟩
  | .sl n z o l w, b, h => by
    cases b <;> simp [X.beq] at h ⊢
    exact ⟨nmbeq_eq h.1, h.2.1, h.2.2.1, h.2.2.2.1, h.2.2.2.2⟩
  | .ip cs as d, b, h => by
    cases b <;> simp [X.beq] at h ⊢
    exact ⟨X.beqL_eq _ _ h.2.2, lbeq_eq asbeq_eq h.2.1, h.1⟩
  | .ro z es f, b, h => by
    cases b <;> simp [X.beq] at h ⊢
    exact ⟨h.1, X.beqE_eq _ _ h.2.2, h.2.1⟩
  | .rl z n l f, b, h => by
    cases b <;> simp [X.beq] at h ⊢
    exact ⟨h.1, IE.beq_eq _ _ h.2.2.1, RL.beq_eq h.2.2.2, h.2.1⟩
  | .fn f xs ys, b, h => by
    cases b <;> simp [X.beq] at h ⊢
    exact ⟨fnbeq_eq h.1, X.beqL_eq _ _ h.2.1, X.beqL_eq _ _ h.2.2⟩
  | .gd c x, b, h => by
    cases b <;> simp [X.beq] at h ⊢
    exact ⟨BE.beq_eq _ _ h.1, X.beq_eq _ _ h.2⟩
  | .rows z n l, b, h => by
    cases b <;> simp [X.beq] at h ⊢
    exact ⟨h.1, IE.beq_eq _ _ h.2.1, RL.beq_eq h.2.2⟩
  | .slv n z o l w, b, h => by
    cases b <;> simp [X.beq] at h ⊢
    exact ⟨nmbeq_eq h.1, h.2.1, IE.beq_eq _ _ h.2.2.1, IE.beq_eq _ _ h.2.2.2.1, h.2.2.2.2⟩
  | .ptrv n z j o, b, h => by
    cases b <;> simp [X.beq] at h ⊢
    exact ⟨nmbeq_eq h.1, h.2.1, IE.beq_eq _ _ h.2.2.1, h.2.2.2⟩
  | .rn z n l ks f, b, h => by
    cases b <;> simp [X.beq] at h ⊢
    exact ⟨h.1, IE.beq_eq _ _ h.2.2.1, h.2.2.2.1, lbeq_eq (fun _ _ => nkbeq_eq) h.2.2.2.2, h.2.1⟩
theorem X.beqL_eq : ∀ (a b : List X), X.beqL a b = true → a = b
  | [], [], _ => rfl
  | a :: as, b :: bs, h => by
    simp only [X.beqL, Bool.and_eq_true] at h
    rw [X.beq_eq a b h.1, X.beqL_eq as bs h.2]
  | [], _ :: _, h => by simp [X.beqL] at h
  | _ :: _, [], h => by simp [X.beqL] at h
theorem X.beqE_eq : ∀ (a b : List (List X)), X.beqE a b = true → a = b
  | [], [], _ => rfl
  | a :: as, b :: bs, h => by
    simp only [X.beqE, Bool.and_eq_true] at h
    rw [X.beqL_eq a b h.1, X.beqE_eq as bs h.2]
  | [], _ :: _, h => by simp [X.beqE] at h
  | _ :: _, [], h => by simp [X.beqE] at h
end

/-! ### Two values put together -/
mutual
def X.mix (c : BE) : X → X → Option X
  | .sc a, .sc b => match mergeSc c a b with
    | some s => some (.sc s)
    | none => none
  | .agg cs, .agg ds => match X.mixL c cs ds with
    | some es => some (.agg es)
    | none => none
  | .tup cs, .tup ds => match X.mixL c cs ds with
    | some es => some (.tup es)
    | none => none
  | .slv n z o l w, .slv n' z' o' l' w' => if (nmbeq n n' && (Nat.beq z z' && w == w')) = true then some (.slv n z (mkIteI c o o') (mkIteI c l l') w) else none
  | .rl z n l f, .rl z' n' l' f' => if (Nat.beq z z' && f == f') = true then some (.rl z (mkIteI c n n') (mkRL c l l') f) else none
  | x, y => if x.beq y = true then some x else none
def X.mixL (c : BE) : List X → List X → Option (List X)
  | [], [] => some []
  | a :: as, b :: bs => match X.mix c a b with
    | some s => match X.mixL c as bs with
      | some r => some (s :: r)
      | none => none
    | none => none
  | _, _ => none
end
theorem mix_same {ρ : Rho} {c : BE} {x y z : X} (h : (if x.beq y = true then some x else none) = some z) : z.den ρ = if c.den ρ = true then x.den ρ else y.den ρ := by
  split at h
  · rename_i hb; cases h; rw [← X.beq_eq _ _ hb]; simp
  · cases h
mutual
theorem X.mix_den {ρ : Rho} {c : BE} : ∀ (x y z : X), X.mix c x y = some z → z.den ρ = if c.den ρ = true then x.den ρ else y.den ρ
  | .sc a, y, z, h => by
    cases y
    case sc b =>
      simp only [X.mix] at h
      split at h
      · rename_i s hs
        cases h
        simp only [X.den, mergeSc_den (ρ := ρ) hs]
        split <;> rfl
      · cases h
    all_goals exact mix_same (by simpa only [X.mix] using h)
  | .agg cs, y, z, h => by
    cases y
    case agg ds =>
      simp only [X.mix] at h
      split at h
      · rename_i s hs
        cases h
        simp only [X.den, X.mixL_den cs ds s hs]
        split <;> rfl
      · cases h
    all_goals exact mix_same (by simpa only [X.mix] using h)
  | .tup cs, y, z, h => by
    cases y
    case tup ds =>
      simp only [X.mix] at h
      split at h
      · rename_i s hs
        cases h
        simp only [X.den, X.mixL_den cs ds s hs]
        split <;> rfl
      · cases h
    all_goals exact mix_same (by simpa only [X.mix] using h)
  | .top, y, z, h => mix_same (by simpa only [X.mix] using h)
  | .k _, y, z, h => mix_same (by simpa only [X.mix] using h)
  | .ptr _ _ _, y, z, h => mix_same (by simpa only [X.mix] using h)
  | .sl _ _ _ _ _, y, z, h => mix_same (by simpa only [X.mix] using h)
  | .ip _ _ _, y, z, h => mix_same (by simpa only [X.mix] using h)
  | .ro _ _ _, y, z, h => mix_same (by simpa only [X.mix] using h)
  | .rl z n l f, y, q, h => by
    cases y
    case rl z' n' l' f' =>
      simp only [X.mix] at h
      split at h
      · rename_i hc
        simp only [Bool.and_eq_true, beq_iff_eq] at hc
        have hz := Nat.eq_of_beq_eq_true hc.1
        have hf := hc.2
        subst hz hf
        cases h
        simp only [X.den]
        have : rowsD ρ (mkIteI c n n') (mkRL c l l') = if c.den ρ = true then rowsD ρ n l else rowsD ρ n' l' := by
          unfold rowsD
          rw [mkIteI_den]
          simp only [mkRL_row]
          split <;> rfl
        rw [this]
        split <;> rfl
      · cases h
    all_goals exact mix_same (by simpa only [X.mix] using h)
  | .slv n z o l w, y, q, h => by
    cases y
    case slv n' z' o' l' w' =>
      simp only [X.mix] at h
      split at h
      · rename_i hc
        simp only [Bool.and_eq_true, beq_iff_eq] at hc
        have hn := nmbeq_eq hc.1
        have hz := Nat.eq_of_beq_eq_true hc.2.1
        have hw := hc.2.2
        subst hn hz hw
        cases h
        simp only [X.den, mkIteI_den]
        split <;> rfl
      · cases h
    all_goals exact mix_same (by simpa only [X.mix] using h)
  | .rows _ _ _, y, z, h => mix_same (by simpa only [X.mix] using h)
  | .ptrv _ _ _ _, y, z, h => mix_same (by simpa only [X.mix] using h)
  | .rn _ _ _ _ _, y, z, h => mix_same (by simpa only [X.mix] using h)
  | .fn _ _ _, y, z, h => mix_same (by simpa only [X.mix] using h)
  | .gd _ _, y, z, h => mix_same (by simpa only [X.mix] using h)
theorem X.mixL_den {ρ : Rho} {c : BE} : ∀ (x y z : List X), X.mixL c x y = some z → X.denL ρ z = if c.den ρ = true then X.denL ρ x else X.denL ρ y
  | [], [], z, h => by simp only [X.mixL, Option.some.injEq] at h; subst h; simp
  | a :: as, b :: bs, z, h => by
    simp only [X.mixL] at h
    split at h
    · rename_i s hs
      split at h
      · rename_i r hr
        cases h
        simp only [X.denL, X.mix_den a b s hs, X.mixL_den as bs r hr]
        split <;> rfl
      · cases h
    · cases h
  | [], _ :: _, _, h => by simp [X.mixL] at h
  | _ :: _, [], _, h => by simp [X.mixL] at h
end
end Go.Proofs.Xw

/- Symbolic runs, part 4: reading, writing, places. -/
namespace Go.Proofs.Xw
open Go Go.Proofs.Aw

/-! ### What is known of a type -/
structure TI where
  cells : Nat
  agg : Option Bool
  zero : Option (List Value)
  arr : Option (Nat × Nat)
  arrA : Option Bool
  sl : Option (Nat × Nat)
  rc : Option (List (Nat × Nat))
  rcA : Option (List (Option Bool))
  str : Bool
  bl : Bool
  lv : Option (List Nat)
  by_ : Nat
  ik : Option IntKind
  und : Bool
  fl : Bool
  pt : Bool
def zeroV (P : Program) (t : TypeId) : Option (List Value) := (P.info? t).bind fun i => i.zero.map fun v => v.cells.toList
theorem zeroC_eq (P : Program) (t : TypeId) : zeroC P t = (zeroV P t).map fun l => l.map AV.sc := by
  unfold zeroC zeroV
  cases P.info? t with
  | none => rfl
  | some i => cases h : i.zero <;> simp [h]
def ikOf (P : Program) (t : TypeId) : Option IntKind := match P.underlying t with | some (.int k) => some k | _ => none
def flOf (P : Program) (t : TypeId) : Bool := match P.underlying t with | some (.float .f64) => true | _ => false
def tiOf (P : Program) (t : TypeId) : TI :=
  { cells := P.cellsOf t, agg := aggT P t, zero := zeroV P t, arr := arrT P t, arrA := arrA P t, sl := slT P t, rc := recT P t, rcA := recA P t, str := strT P t, bl := boolT P t, lv := leavesG P t, by_ := bytesT P t, ik := ikOf P t, und := (P.underlying t).isSome, fl := flOf P t, pt := ptT P t }

/-! ### The heap, and how it turns -/
abbrev XHp := List (Nm × List X)
abbrev XDl := List (Nm × Option (List X))
abbrev XTp := List (Nat × X)
/-- An object of rows. -/
def isRows : List X → Bool
  | [.rows _ _ _] => true
  | _ => false
def denO (ρ : Rho) : List X → List AV
  | [.rows _ n l] => (rowsD ρ n l).flatten
  | cs => X.denL ρ cs
theorem denO_of {ρ : Rho} {cs : List X} (h : isRows cs = false) : denO ρ cs = X.denL ρ cs := by
  unfold denO
  split
  · simp [isRows] at h
  · rfl
def hgetO : XHp → Nm → Option (List X)
  | [], _ => none
  | (m, v) :: l, n => if nmbeq m n = true then some v else hgetO l n
def noRows (cs : List X) : Option (List X) := if isRows cs = true then none else some cs
def hgetX (h : XHp) (n : Nm) : Option (List X) := match hgetO h n with
  | some cs => noRows cs
  | none => none
theorem noRows_eq {cs ds : List X} (h : noRows cs = some ds) : cs = ds ∧ isRows ds = false := by
  unfold noRows at h
  split at h
  · cases h
  · rename_i hr; cases h; exact ⟨rfl, by simpa using hr⟩
theorem hgetX_O {h : XHp} {n : Nm} {cs : List X} (hg : hgetX h n = some cs) : hgetO h n = some cs ∧ isRows cs = false := by
  unfold hgetX at hg
  split at hg
  · rename_i ds hd
    obtain ⟨h1, h2⟩ := noRows_eq hg
    subst h1
    exact ⟨hd, h2⟩
  · cases hg
def hdelX : XHp → Nm → XHp
  | [], _ => []
  | (m, v) :: l, n => if nmbeq m n = true then hdelX l n else (m, v) :: hdelX l n
def hsetX : XHp → Nm → List X → XHp
  | [], n, v => [(n, v)]
  | (m, u) :: l, n, v => if nmbeq m n = true then (m, v) :: l else (m, u) :: hsetX l n v
def hapX : XDl → XHp → XHp
  | [], h => h
  | (n, some v) :: d, h => hapX d (hsetX h n v)
  | (n, none) :: d, h => hapX d (hdelX h n)
def denH (ρ : Rho) (h : XHp) : Hp := h.map fun p => (p.1, denO ρ p.2)
def denD (ρ : Rho) (d : XDl) : Dl := d.map fun p => (p.1, p.2.map (denO ρ))
def denT (ρ : Rho) (t : XTp) : Tp := t.map fun p => (p.1, p.2.den ρ)
theorem nmbeq_iff {a b : Nm} : nmbeq a b = true ↔ a = b := ⟨nmbeq_eq, fun h => by subst h; simp [nmbeq]⟩
theorem hget_denO (ρ : Rho) (n : Nm) : ∀ h : XHp, hget (denH ρ h) n = (hgetO h n).map (denO ρ)
  | [] => rfl
  | (m, v) :: l => by
    have ih := hget_denO ρ n l
    simp only [denH, List.map_cons, hget, hgetO, nmbeq_iff] at ih ⊢
    by_cases e : m = n
    · rw [if_pos e, if_pos e]; rfl
    · rw [if_neg e, if_neg e]; exact ih
theorem hget_denH {ρ : Rho} {n : Nm} {h : XHp} {cs : List X} (hg : hgetX h n = some cs) : hget (denH ρ h) n = some (X.denL ρ cs) := by
  obtain ⟨h1, h2⟩ := hgetX_O hg
  rw [hget_denO, h1, Option.map_some, denO_of h2]
theorem denH_hdel (ρ : Rho) (n : Nm) : ∀ h : XHp, denH ρ (hdelX h n) = hdel (denH ρ h) n
  | [] => rfl
  | (m, v) :: l => by
    have ih := denH_hdel ρ n l
    simp only [denH, List.map_cons, hdel, hdelX, nmbeq_iff] at ih ⊢
    by_cases e : m = n
    · rw [if_pos e, if_pos e]; exact ih
    · rw [if_neg e, if_neg e, List.map_cons, ih]
theorem denH_hset (ρ : Rho) (n : Nm) (v : List X) : ∀ h : XHp, denH ρ (hsetX h n v) = hset (denH ρ h) n (denO ρ v)
  | [] => rfl
  | (m, u) :: l => by
    have ih := denH_hset ρ n v l
    simp only [denH, List.map_cons, hset, hsetX, nmbeq_iff] at ih ⊢
    by_cases e : m = n
    · rw [if_pos e, if_pos e]; rfl
    · rw [if_neg e, if_neg e, List.map_cons, ih]
theorem denH_hap (ρ : Rho) : ∀ (d : XDl) (h : XHp), denH ρ (hapX d h) = hap (denD ρ d) (denH ρ h)
  | [], _ => rfl
  | (n, some v) :: d, h => by
    have ih := denH_hap ρ d (hsetX h n v)
    simp only [hapX, denD, List.map_cons, Option.map_some, hap] at ih ⊢
    rw [ih, denH_hset]
  | (n, none) :: d, h => by
    have ih := denH_hap ρ d (hdelX h n)
    simp only [hapX, denD, List.map_cons, Option.map_none, hap] at ih ⊢
    rw [ih, denH_hdel]
def tgetX : XTp → Nat → X
  | [], _ => .top
  | (j, v) :: l, i => if Nat.beq j i = true then v else tgetX l i
theorem tget_denT (ρ : Rho) (i : Nat) : ∀ t : XTp, tget (denT ρ t) i = (tgetX t i).den ρ
  | [] => rfl
  | (j, v) :: l => by
    have ih := tget_denT ρ i l
    simp only [denT, List.map_cons, tget, tgetX] at ih ⊢
    by_cases e : j = i
    · rw [if_pos e, if_pos (by simpa using e)]
    · rw [if_neg e, if_neg (by simpa using e)]; exact ih
def tputX (d : Option Tmp) (v : X) (t : XTp) : XTp :=
  match d with
  | some d => (d, v) :: t
  | none => t
theorem denT_put (ρ : Rho) (d : Option Tmp) (v : X) (t : XTp) : denT ρ (tputX d v t) = tput d (v.den ρ) (denT ρ t) := by cases d <;> rfl

/-! ### Cells of a value -/
def X.cells : X → List X
  | .agg cs => cs
  | v => [v]
def X.one : X → Bool
  | .top | .agg _ | .tup _ | .gd _ _ | .rows _ _ _ => false
  | .k v => v.oneCell'
  | _ => true
theorem X.one_den (ρ : Rho) (x : X) (h : x.one = true) : (x.den ρ).one = true := by
  cases x with
  | sc s => cases s <;> rfl
  | k v => exact h
  | gd c x => cases h
  | top => cases h
  | agg cs => cases h
  | tup cs => cases h
  | rows z n l => cases h
  | _ => rfl
theorem isRows_one {l : List X} (h : l.all X.one = true) : isRows l = false := by
  unfold isRows
  split
  · simp [X.one] at h
  · rfl
theorem X.all_one (ρ : Rho) : ∀ l : List X, l.all X.one = true → (X.denL ρ l).all AV.one = true
  | [], _ => rfl
  | x :: xs, h => by
    simp only [List.all_cons, Bool.and_eq_true] at h
    simp only [X.denL, List.all_cons, X.one_den ρ x h.1, X.all_one ρ xs h.2, Bool.and_self]
theorem X.cells_den (ρ : Rho) (x : X) (h : x.cells.all X.one = true) : (x.den ρ).cells = X.denL ρ x.cells := by
  cases x with
  | gd c x => simp [X.cells, X.one] at h
  | _ => rfl

/-! ### Places -/
def shiftAs (k : Nat) : List (BE × Nat) → List (BE × Nat)
  | [] => []
  | (c, o) :: r => (c, o + k) :: shiftAs k r
theorem choose_shift (ρ : Rho) (k d : Nat) : ∀ as, choose ρ (shiftAs k as) (d + k) = choose ρ as d + k
  | [] => rfl
  | (c, o) :: r => by
    simp only [shiftAs, choose, choose_shift ρ k d r]
    split <;> rfl
/-- Places o, o + z, .., each where e is its number. -/
def altRow (g : BE → BE) (e : IE) (z o : Nat) : Nat → List (BE × Nat) → List (BE × Nat)
  | 0, r => r
  | m + 1, r => altRow g e z o m ((g (mkEq e (.lit m)), o + m * z) :: r)
theorem choose_altRow {ρ : Rho} {g : BE → BE} {v : Bool} (hg : ∀ b, (g b).den ρ = (v && b.den ρ)) {e : IE} {j : Nat} (he : e.den ρ = j) (z o d : Nat) : ∀ (m : Nat) (r : List (BE × Nat)),
    choose ρ (altRow g e z o m r) d = if v = true ∧ j < m then o + j * z else choose ρ r d
  | 0, r => by simp [altRow]
  | m + 1, r => by
    rw [altRow, choose_altRow hg he z o d m]
    simp only [choose, hg, mkEq_den, he, IE.den]
    by_cases hv : v = true
    · subst hv
      by_cases h1 : j < m
      · rw [if_pos ⟨rfl, h1⟩, if_pos ⟨rfl, by omega⟩]
      · rw [if_neg (by simp [h1])]
        by_cases h2 : j = m
        · subst h2; simp
        · have h3 : ¬ (j < m + 1) := by omega
          have h4 : ((j : Int) == (m : Int)) = false := by
            rw [beq_eq_false_iff_ne]; intro h; apply h2; exact_mod_cast h
          simp [h3, h4]
    · have hf : v = false := by simpa using hv
      subst hf; simp
def idxAs (e : IE) (z len : Nat) : List (BE × Nat) → Nat → List (BE × Nat)
  | [], d => altRow (fun b => b) e z d (len - 1) []
  | (c, o) :: r, d => altRow (mkAnd c) e z o (len - 1) ((c, o + (len - 1) * z) :: idxAs e z len r d)
theorem choose_idx {ρ : Rho} {e : IE} {z len : Nat} {j : Nat} (he : e.den ρ = j) (hj : j < len) (d : Nat) : ∀ as, choose ρ (idxAs e z len as d) (d + (len - 1) * z) = choose ρ as d + j * z
  | [] => by
    rw [idxAs, choose_altRow (v := true) (fun b => by simp) he]
    simp only [choose, true_and]
    split
    · rfl
    · rw [show len - 1 = j from by omega]
  | (c, o) :: r => by
    rw [idxAs, choose_altRow (v := c.den ρ) (fun b => by rw [mkAnd_den]) he]
    simp only [choose, choose_idx he hj d r]
    by_cases hc : c.den ρ = true
    · simp only [hc, true_and, if_true]
      split
      · rfl
      · rw [show len - 1 = j from by omega]
    · simp [hc]

/-! ### Reading -/
def rdX : Option Bool → Nat → List X → Nat → Option X
  | some true, z, cs, off => if Nat.blt 0 z && Nat.ble (off + z) cs.length then some (.agg ((cs.drop off).take z)) else none
  | some false, _, cs, off => cs[off]?
  | none, _, _, _ => none
theorem rdX_den {ρ : Rho} {b : Option Bool} {z : Nat} {cs : List X} {off : Nat} {v : X} (h : rdX b z cs off = some v) : rdN b z (X.denL ρ cs) off = some (v.den ρ) := by
  unfold rdX at h
  split at h
  · split at h
    · rename_i hc
      simp only [Bool.and_eq_true, Nat.blt_eq, Nat.ble_eq] at hc
      cases h
      simp only [rdN, X.denL_len, X.den, X.denL_take, X.denL_drop]
      rw [if_pos ⟨by simpa [Nat.blt_eq] using hc.1, hc.2⟩]
    · cases h
  · simp only [rdN, X.denL_get, h, Option.map_some]
  · cases h
def rdAs (b : Option Bool) (z : Nat) (cs : List X) : List (BE × Nat) → Nat → Option X
  | [], d => rdX b z cs d
  | (c, o) :: r, d => match rdX b z cs o, rdAs b z cs r d with
    | some x, some y => X.mix c x y
    | _, _ => none
theorem rdAs_den {ρ : Rho} {b : Option Bool} {z : Nat} {cs : List X} {d : Nat} : ∀ {as : List (BE × Nat)} {v : X}, rdAs b z cs as d = some v → rdN b z (X.denL ρ cs) (choose ρ as d) = some (v.den ρ)
  | [], v, h => rdX_den h
  | (c, o) :: r, v, h => by
    simp only [rdAs] at h
    split at h
    · rename_i x y h1 h2
      rw [X.mix_den _ _ _ h]
      simp only [choose]
      split
      · exact rdX_den h1
      · exact rdAs_den h2
    · cases h
def loadX (i : TI) (h : XHp) : X → Option X
  | .ptr n as d => match hgetX h n with
    | some cs => rdAs i.agg i.cells cs as d
    | none => none
  | .ip cs as d => rdAs i.agg i.cells cs as d
  | _ => none
theorem loadX_den {P : Program} {ρ : Rho} {ty : TypeId} {h : XHp} {x v : X} (hv : loadX (tiOf P ty) h x = some v) : loadN P (denH ρ h) ty (x.den ρ) = some (v.den ρ) := by
  unfold loadX at hv
  split at hv
  · split at hv
    · rename_i cs hg
      simp only [X.den, loadN, hget_denH hg, rdO]
      exact rdAs_den hv
    · cases hv
  · simp only [X.den, loadN]
    exact rdAs_den hv
  · cases hv

/-! ### Writing -/
def spliceX (cs : List X) (off : Nat) (vs : List X) : List X := cs.take off ++ (vs ++ cs.drop (off + vs.length))
theorem spliceX_den (ρ : Rho) (cs : List X) (off : Nat) (vs : List X) : X.denL ρ (spliceX cs off vs) = spliceL (X.denL ρ cs) off (X.denL ρ vs) := by
  simp only [spliceX, spliceL, X.denL_append, X.denL_take, X.denL_drop, X.denL_len]
def wr1 (z : Nat) (cs ys : List X) (o : Nat) : Option (List X) := if Nat.blt 0 z && (Nat.beq ys.length z && (Nat.ble (o + z) cs.length && ys.all X.one)) then some (spliceX cs o ys) else none
theorem wr1_den {ρ : Rho} {z : Nat} {cs ys cs' : List X} {o : Nat} {m : Nm} (h : wr1 z cs ys o = some cs') : wrN z m o (X.denL ρ ys) (some (X.denL ρ cs)) = some [(m, some (X.denL ρ cs'))] := by
  unfold wr1 at h
  split at h
  · rename_i hc
    simp only [Bool.and_eq_true, Nat.ble_eq] at hc
    cases h
    simp only [wrN, X.denL_len, spliceX_den]
    rw [if_pos ⟨by simpa [Nat.blt_eq] using hc.1, Nat.eq_of_beq_eq_true hc.2.1, hc.2.2.1, X.all_one ρ _ hc.2.2.2⟩]
  · cases h
def wrAs (z : Nat) (cs ys : List X) : List (BE × Nat) → Nat → Option (List X)
  | [], d => wr1 z cs ys d
  | (c, o) :: r, d => match wr1 z cs ys o, wrAs z cs ys r d with
    | some x, some y => X.mixL c x y
    | _, _ => none
theorem wrAs_den {ρ : Rho} {z : Nat} {cs ys : List X} {d : Nat} {m : Nm} : ∀ {as : List (BE × Nat)} {cs' : List X}, wrAs z cs ys as d = some cs' → wrN z m (choose ρ as d) (X.denL ρ ys) (some (X.denL ρ cs)) = some [(m, some (X.denL ρ cs'))]
  | [], _, h => wr1_den h
  | (c, o) :: r, v, h => by
    simp only [wrAs] at h
    split at h
    · rename_i x y h1 h2
      rw [X.mixL_den _ _ _ h]
      simp only [choose]
      split
      · exact wr1_den h1
      · exact wrAs_den h2
    · cases h
def storeX (i : TI) (h : XHp) : X → List X → Option XDl
  | .ptr n as d, ys => if ys.all X.one = true then match hgetX h n with
    | some cs => match wrAs i.cells cs ys as d with
      | some cs' => if isRows cs' = true then none else some [(n, some cs')]
      | none => none
    | none => none
    else none
  | _, _ => none
theorem storeX_den {P : Program} {ρ : Rho} {ty : TypeId} {h : XHp} {x : X} {ys : List X} {d : XDl} (hv : storeX (tiOf P ty) h x ys = some d) : ys.all X.one = true ∧ storeN P (denH ρ h) ty (x.den ρ) (X.denL ρ ys) = some (denD ρ d) := by
  unfold storeX at hv
  split at hv
  · split at hv
    · rename_i hone
      split at hv
      · rename_i cs hg
        split at hv
        · rename_i cs' hw
          split at hv
          · cases hv
          · rename_i hr
            cases hv
            refine ⟨hone, ?_⟩
            simp only [X.den, storeN, hget_denH hg, denD, List.map_cons, List.map_nil, Option.map_some, denO_of (ρ := ρ) (show isRows cs' = false by simpa using hr)]
            exact wrAs_den hw
        · cases hv
      · cases hv
    · cases hv
  · cases hv

/-! ### The place of an element -/
def inB {α : Type} (Φ : Facts) (e n : IE) (k : Facts → T α) : T α := want Φ (mkNot (mkLt e (.lit 0))) fun Φ => want Φ (mkLt e n) k
theorem sel_inB {α : Type} {ρ : Rho} {Φ : Facts} {e n : IE} {k : Facts → T α} {a : α} (hk : Facts.ok ρ Φ) (h : (inB Φ e n k).sel ρ = some a) : ∃ Φ' j, Facts.ok ρ Φ' ∧ e.den ρ = (j : Nat) ∧ (j : Int) < n.den ρ ∧ (k Φ').sel ρ = some a := by
  unfold inB at h
  obtain ⟨Φ1, hk1, h1, h⟩ := sel_want hk h
  obtain ⟨Φ2, hk2, h2, h⟩ := sel_want hk1 h
  rw [mkNot_den, mkLt_den] at h1
  rw [mkLt_den] at h2
  have h1 : ¬ (IE.den ρ e < IE.den ρ (.lit 0)) := fun hh => by rw [decide_eq_true hh] at h1; cases h1
  have h2 := of_decide_eq_true h2
  simp only [IE.den] at h1
  exact ⟨Φ2, (e.den ρ).toNat, hk2, by omega, by omega, h⟩
def ptrAt (n : Nm) (as : List (BE × Nat)) (d : Nat) (e : IE) (z len : Nat) : X :=
  match e with
  | .lit j => .ptr n (shiftAs (j.toNat * z) as) (d + j.toNat * z)
  | e => .ptr n (idxAs e z len as d) (d + (len - 1) * z)
theorem ptrAt_den {ρ : Rho} {n : Nm} {as : List (BE × Nat)} {d : Nat} {e : IE} {z len j : Nat} (he : e.den ρ = j) (hj : j < len) : (ptrAt n as d e z len).den ρ = .ptr n (choose ρ as d + j * z) := by
  unfold ptrAt
  split
  · rename_i i
    simp only [IE.den] at he
    simp only [X.den, choose_shift, he, Int.toNat_natCast]
  · simp only [X.den, choose_idx he hj]
def ipAt (cs : List X) (as : List (BE × Nat)) (d : Nat) (e : IE) (z len : Nat) : X :=
  match e with
  | .lit j => .ip cs (shiftAs (j.toNat * z) as) (d + j.toNat * z)
  | e => .ip cs (idxAs e z len as d) (d + (len - 1) * z)
theorem ipAt_den {ρ : Rho} {cs : List X} {as : List (BE × Nat)} {d : Nat} {e : IE} {z len j : Nat} (he : e.den ρ = j) (hj : j < len) : (ipAt cs as d e z len).den ρ = .ip (X.denL ρ cs) (choose ρ as d + j * z) := by
  unfold ipAt
  split
  · rename_i i
    simp only [IE.den] at he
    simp only [X.den, choose_shift, he, Int.toNat_natCast]
  · simp only [X.den, choose_idx he hj]
/-- The row of a number, of rows that are all there. -/
def muxR (e : IE) : Nat → List (List X) → Option (List X)
  | _, [] => none
  | _, [r] => some r
  | j, r :: rs => match muxR e (j + 1) rs with
    | some y => X.mixL (mkEq e (.lit j)) r y
    | none => none
theorem muxR_den {ρ : Rho} {e : IE} : ∀ (es : List (List X)) (j t : Nat) (r : List X), e.den ρ = ((j + t : Nat) : Int) → t < es.length → muxR e j es = some r → (X.denE ρ es)[t]? = some (X.denL ρ r)
  | [], j, t, r, _, ht, _ => by simp at ht
  | [a], j, t, r, _, ht, h => by
    simp only [muxR, Option.some.injEq] at h
    subst h
    obtain rfl : t = 0 := by simpa using ht
    rfl
  | a :: b :: rs, j, t, r, he, ht, h => by
    simp only [muxR] at h
    split at h
    · rename_i y hy
      rw [X.mixL_den _ _ _ h]
      cases t with
      | zero =>
        have hc : (mkEq e (.lit j)).den ρ = true := by rw [mkEq_den, he]; simp [IE.den]
        rw [if_pos hc]; rfl
      | succ t =>
        have hc : ¬ (mkEq e (.lit j)).den ρ = true := by rw [mkEq_den, he]; simp only [IE.den, beq_iff_eq]; omega
        rw [if_neg hc]
        simp only [X.denE, List.getElem?_cons_succ]
        have := muxR_den (b :: rs) (j + 1) t y (by rw [he]; congr 1; omega) (by simpa using ht) hy
        simpa only [X.denE] using this
    · cases h
def rowAt (e : IE) (es : List (List X)) : Option (List X) :=
  match e with
  | .lit j => es[j.toNat]?
  | e => muxR e 0 es
theorem rowAt_den {ρ : Rho} {e : IE} {es : List (List X)} {j : Nat} {r : List X} (he : e.den ρ = j) (hj : j < es.length) (h : rowAt e es = some r) : (X.denE ρ es)[j]? = some (X.denL ρ r) := by
  unfold rowAt at h
  split at h
  · rename_i i
    simp only [IE.den] at he
    rw [he, Int.toNat_natCast] at h
    rw [X.denE_get, h]; rfl
  · exact muxR_den es 0 j r (by rw [he]; simp) hj h
/-- A row, in the light of what is known. -/
def RL.getF (Φ : Facts) : RL → IE → Option (List Sc)
  | .var l ks, j => some (cellsG l j 0 ks)
  | .one r, _ => some r
  | .app n a b, j => match red Φ (mkLt j n) with
    | .lit true => a.getF Φ j
    | .lit false => b.getF Φ (mkSub j n)
    | c => match a.getF Φ j, b.getF Φ (mkSub j n) with
      | some x, some y => mergeScs c x y
      | _, _ => none
  | .drop n a, j => a.getF Φ (mkAdd j n)
  | .upd i r a, j => match red Φ (mkEq j i) with
    | .lit true => some r
    | .lit false => a.getF Φ j
    | c => match a.getF Φ j with
      | some y => mergeScs c r y
      | none => none
  | .ite c a b, j => match red Φ c with
    | .lit true => a.getF Φ j
    | .lit false => b.getF Φ j
    | c => match a.getF Φ j, b.getF Φ j with
      | some x, some y => mergeScs c x y
      | _, _ => none
theorem RL.getF_den {ρ : Rho} {Φ : Facts} (hk : Facts.ok ρ Φ) : ∀ {l : RL} {j : IE} {r : List Sc}, l.getF Φ j = some r → scL ρ r = l.row ρ (j.den ρ)
  | .var l ks, j, r, h => by
    simp only [RL.getF, Option.some.injEq] at h
    subst h
    exact cellsG_den ρ l j 0 ks
  | .one s, j, r, h => by
    simp only [RL.getF, Option.some.injEq] at h
    subst h; rfl
  | .app n a b, j, r, h => by
    simp only [RL.getF] at h
    have hc := (red_den hk (mkLt j n)).trans (mkLt_den ρ j n)
    simp only [RL.row]
    split at h
    · rename_i hd
      rw [hd] at hc
      have := of_decide_eq_true (hc.symm)
      rw [if_pos this]
      exact RL.getF_den hk h
    · rename_i hd
      rw [hd] at hc
      have := of_decide_eq_false (hc.symm)
      rw [if_neg this, ← mkSub_den]
      exact RL.getF_den hk h
    · split at h
      · rename_i x y h1 h2
        rw [mergeScs_den h, RL.getF_den hk h1, RL.getF_den hk h2, mkSub_den, hc]
        by_cases hh : IE.den ρ j < IE.den ρ n
        · rw [if_pos (decide_eq_true hh), if_pos hh]
        · rw [if_neg (by simpa using hh), if_neg hh]
      · cases h
  | .drop n a, j, r, h => by
    simp only [RL.getF] at h
    simp only [RL.row]
    rw [← mkAdd_den]
    exact RL.getF_den hk h
  | .upd i q a, j, r, h => by
    simp only [RL.getF] at h
    have hc := (red_den hk (mkEq j i)).trans (mkEq_den ρ j i)
    simp only [RL.row]
    split at h
    · rename_i hd
      rw [hd] at hc
      cases h
      rw [if_pos (by simpa [BE.den] using hc.symm)]
    · rename_i hd
      rw [hd] at hc
      rw [if_neg (by simpa [BE.den] using hc.symm)]
      exact RL.getF_den hk h
    · split at h
      · rename_i y h2
        rw [mergeScs_den h, RL.getF_den hk h2, hc]
        by_cases hh : IE.den ρ j = IE.den ρ i
        · rw [if_pos (by simpa using hh), if_pos hh]
        · rw [if_neg (by simpa using hh), if_neg hh]
      · cases h
  | .ite c a b, j, r, h => by
    simp only [RL.getF] at h
    simp only [RL.row]
    have hc := red_den hk c
    split at h
    · rename_i hd
      rw [hd] at hc
      rw [if_pos (show BE.den ρ c = true from hc.symm)]
      exact RL.getF_den hk h
    · rename_i hd
      rw [hd] at hc
      rw [if_neg (by rw [← hc]; simp [BE.den])]
      exact RL.getF_den hk h
    · split at h
      · rename_i x y h1 h2
        rw [mergeScs_den h, RL.getF_den hk h1, RL.getF_den hk h2, hc]
      · cases h
def okPtr (h : XHp) (n : Nm) : Bool := (hgetO h n).isSome
theorem okPtr_den {ρ : Rho} {h : XHp} {n : Nm} (hk : okPtr h n = true) : (hget (denH ρ h) n).isSome = true := by
  rw [hget_denO]; unfold okPtr at hk; simpa using hk
def retO {α : Type} : Option α → T α
  | some a => .ret a
  | none => (.fail [])
theorem sel_retO {α : Type} {ρ : Rho} {o : Option α} {a : α} (h : (retO o).sel ρ = some a) : o = some a := by
  cases o with
  | none => cases h
  | some b => cases h; rfl
/-- A number of which all is known. -/
def pinI (Φ : Facts) (e : IE) : IE := match ivS Φ e with
  | ⟨some l, some h⟩ => if l = h then .lit l else e
  | _ => e
theorem pinI_den {ρ : Rho} {Φ : Facts} (hk : Facts.ok ρ Φ) (e : IE) : (pinI Φ e).den ρ = e.den ρ := by
  unfold pinI
  split
  · rename_i l h hv
    split
    · rename_i he
      have := ivS_ok hk e
      rw [hv] at this
      have h1 := this.1 l rfl
      have h2 := this.2 h rfl
      simp only [IE.den]; omega
    · rfl
  · rfl
def idxAddrX (i : TI) (h : XHp) (Φ : Facts) (x y : X) : T X :=
  match x, y with
  | .ptr n as d, .sc (.i _ e) => match i.arr with
    | some (len, z) => if okPtr h n = true then inB Φ e (.lit len) fun _ => .ret (ptrAt n as d (pinI Φ e) z len) else (.fail [])
    | none => (.fail [])
  | .ip cs as d, .sc (.i _ e) => match i.arr with
    | some (len, z) => inB Φ e (.lit len) fun _ => .ret (ipAt cs as d (pinI Φ e) z len)
    | none => (.fail [])
  | .sl n z off len _, .sc (.i _ e) => match i.sl with
    | some (_, z') => if (Nat.beq z' z && okPtr h n) = true then inB Φ e (.lit len) fun _ => .ret (ptrAt n [] off e z len) else (.fail [])
    | none => (.fail [])
  | .ro z es _, .sc (.i _ e) => match i.sl with
    | some (_, z') => if Nat.beq z' z = true then inB Φ e (.lit es.length) fun _ => retO ((rowAt e es).map fun r => .ip r [] 0) else (.fail [])
    | none => (.fail [])
  | .rl z n l _, .sc (.i _ e) => match i.sl with
    | some (_, z') => if Nat.beq z' z = true then inB Φ e n fun Φ => retO ((l.getF Φ e).map fun r => .ip (ofSc r) [] 0) else (.fail [])
    | none => (.fail [])
  | .rn z n l ks _, .sc (.i _ e) => match i.sl with
    | some (_, z') => if Nat.beq z' z = true then inB Φ e n fun _ => .ret (.ip (cellsNX l e 0 ks) [] 0) else (.fail [])
    | none => (.fail [])
  | _, _ => (.fail [])
theorem rowsD_get {ρ : Rho} {n : IE} {l : RL} {j : Nat} (hj : (j : Int) < n.den ρ) : (rowsD ρ n l)[j]? = some (l.row ρ j) := by
  unfold rowsD
  rw [List.getElem?_map, List.getElem?_range (by omega)]
  rfl
theorem rowsN_get {ρ : Rho} {n : IE} {l : Nat} {ks : List Nk} {j : Nat} (hj : (j : Int) < n.den ρ) : (rowsN ρ n l ks)[j]? = some (cellsN ρ l 0 ks j) := by
  unfold rowsN
  rw [List.getElem?_map, List.getElem?_range (by omega)]
  rfl
theorem idxAddrX_den {P : Program} {ρ : Rho} {ty : TypeId} {h : XHp} {Φ : Facts} {x y v : X} (hk : Facts.ok ρ Φ) (hv : (idxAddrX (tiOf P ty) h Φ x y).sel ρ = some v) : idxAddrN P (denH ρ h) ty (x.den ρ) (y.den ρ) = some (v.den ρ) := by
  unfold idxAddrX at hv
  split at hv
  · split at hv
    · rename_i n as d k e len z ha
      split at hv
      · rename_i ho
        obtain ⟨Φ', j, _, he, hj, hv⟩ := sel_inB hk hv
        cases hv
        simp only [IE.den] at hj
        rw [ptrAt_den ((pinI_den hk _).trans he) (by omega)]
        have ha' : arrT P ty = some (len, z) := ha
        simp only [X.den, Sc.den, idxAddrN, ha', iaP, he, okPtr_den ho, Int.toNat_natCast]
        rw [if_pos ⟨trivial, by omega, by omega⟩]
      · cases hv
    · cases hv
  · split at hv
    · rename_i cs as d k e len z ha
      obtain ⟨Φ', j, _, he, hj, hv⟩ := sel_inB hk hv
      cases hv
      simp only [IE.den] at hj
      rw [ipAt_den ((pinI_den hk _).trans he) (by omega)]
      have ha' : arrT P ty = some (len, z) := ha
      simp only [X.den, Sc.den, idxAddrN, ha', iaI, he, Int.toNat_natCast]
      rw [if_pos ⟨by omega, by omega⟩]
    · cases hv
  · split at hv
    · rename_i n z off len own k e ee z' ha
      split at hv
      · rename_i ho
        simp only [Bool.and_eq_true] at ho
        have hz := Nat.eq_of_beq_eq_true ho.1
        subst hz
        obtain ⟨Φ', j, _, he, hj, hv⟩ := sel_inB hk hv
        cases hv
        simp only [IE.den] at hj
        rw [ptrAt_den he (by omega)]
        have ha' : slT P ty = some (ee, z') := ha
        simp only [X.den, Sc.den, idxAddrN, ha', iaS, he, okPtr_den ho.2, Int.toNat_natCast, choose]
        rw [if_pos ⟨trivial, trivial, by omega, by omega⟩]
      · cases hv
    · cases hv
  · split at hv
    · rename_i z es full k e ee z' ha
      split at hv
      · rename_i ho
        have hz := Nat.eq_of_beq_eq_true ho
        subst hz
        obtain ⟨Φ', j, _, he, hj, hv⟩ := sel_inB hk hv
        obtain ⟨r, hr, rfl⟩ := Option.map_eq_some_iff.1 (sel_retO hv)
        simp only [IE.den] at hj
        have hrow := rowAt_den (ρ := ρ) he (by omega) hr
        have ha' : slT P ty = some (ee, z') := ha
        simp only [X.den, Sc.den, idxAddrN, ha', iaR, he, Int.toNat_natCast, hrow, iaE, choose]
        rw [if_pos ⟨trivial, by omega⟩]
      · cases hv
    · cases hv
  · split at hv
    · rename_i z n l full k e ee z' ha
      split at hv
      · rename_i ho
        have hz := Nat.eq_of_beq_eq_true ho
        subst hz
        obtain ⟨Φ', j, hk', he, hj, hv⟩ := sel_inB hk hv
        obtain ⟨r, hr, rfl⟩ := Option.map_eq_some_iff.1 (sel_retO hv)
        have hrow := RL.getF_den (ρ := ρ) hk' hr
        rw [he] at hrow
        have ha' : slT P ty = some (ee, z') := ha
        simp only [X.den, Sc.den, idxAddrN, ha', iaR, he, Int.toNat_natCast, rowsD_get hj, iaE, choose, ofSc_den, hrow]
        rw [if_pos ⟨trivial, by omega⟩]
      · cases hv
    · cases hv
  · split at hv
    · rename_i z n l ks full k e ee z' ha
      split at hv
      · rename_i ho
        have hz := Nat.eq_of_beq_eq_true ho
        subst hz
        obtain ⟨Φ', j, hk', he, hj, hv⟩ := sel_inB hk hv
        cases hv
        have ha' : slT P ty = some (ee, z') := ha
        simp only [X.den, Sc.den, idxAddrN, ha', iaR, he, Int.toNat_natCast, rowsN_get hj, iaE, choose, cellsNX_den]
        rw [if_pos ⟨trivial, by omega⟩]
      · cases hv
    · cases hv
  · cases hv
def fieldAddrX (i : TI) (h : XHp) (f : Nat) (x : X) : Option X :=
  match i.rc with
  | some l => match l[f]? with
    | some (o, _) => match x with
      | .ptr n as d => if okPtr h n = true then some (.ptr n (shiftAs o as) (d + o)) else none
      | .ip cs as d => some (.ip cs (shiftAs o as) (d + o))
      | .ptrv n z j p => if okPtr h n = true then some (.ptrv n z j (p + o)) else none
      | _ => none
    | none => none
  | none => none
theorem fieldAddrX_den {P : Program} {ρ : Rho} {ty : TypeId} {h : XHp} {f : Nat} {x v : X} (hv : fieldAddrX (tiOf P ty) h f x = some v) : fieldAddrN P (denH ρ h) ty f (x.den ρ) = some (v.den ρ) := by
  unfold fieldAddrX at hv
  split at hv
  · rename_i l hl
    have hl' : recT P ty = some l := hl
    split at hv
    · rename_i o z hf
      simp only [fieldAddrN, hl', hf, faO]
      split at hv
      · split at hv
        · rename_i ho
          cases hv
          simp only [X.den, okPtr_den ho, if_true, choose_shift]
        · cases hv
      · cases hv
        simp only [X.den, choose_shift]
      · split at hv
        · rename_i ho
          cases hv
          simp only [X.den, okPtr_den ho, if_true, Nat.add_assoc]
        · cases hv
      · cases hv
    · cases hv
  · cases hv
end Go.Proofs.Xw

/- Symbolic runs, part 5: the other operations. -/
namespace Go.Proofs.Xw
open Go Go.Proofs.Aw

theorem natbeq (a b : Nat) : Nat.beq a b = (a == b) := by rw [Bool.eq_iff_iff]; simp

/-! ### Parts of values -/
def fieldX (i : TI) (f : Nat) : X → Option X
  | .agg cs => match i.rc, i.rcA with
    | some l, some bs => match l[f]?, bs[f]? with
      | some (o, z), some b => rdX b z cs o
      | _, _ => none
    | _, _ => none
  | _ => none
theorem fieldX_den {P : Program} {ρ : Rho} {ty : TypeId} {f : Nat} {x v : X} (hv : fieldX (tiOf P ty) f x = some v) : fieldN P ty f (x.den ρ) = some (v.den ρ) := by
  unfold fieldX at hv
  split at hv
  · split at hv
    · rename_i cs l bs hl hb
      have hl' : recT P ty = some l := hl
      have hb' : recA P ty = some bs := hb
      split at hv
      · rename_i o z b h1 h2
        simp only [X.den, fieldN, hl', hb', h1, h2, fdO]
        exact rdX_den hv
      · cases hv
    · cases hv
  · cases hv
def mkByt : TE → IE → IE
  | .lit s, .lit j => .lit (((s[j.toNat]?).getD 0).toNat)
  | t, j => .byt t j
theorem mkByt_den (ρ : Rho) (t : TE) (j : IE) : (mkByt t j).den ρ = (((t.den ρ)[(j.den ρ).toNat]?).getD 0).toNat := by
  unfold mkByt; split <;> simp [IE.den, TE.den]
def indexX (i : TI) (Φ : Facts) (x y : X) : T X :=
  match x, y with
  | .agg cs, .sc (.i _ e) => match i.arr with
    | some (len, z) => inB Φ e (.lit len) fun _ => retO (match e with
      | .lit j => rdX i.arrA z cs (j.toNat * z)
      | e => rdAs i.arrA z cs (idxAs e z len [] 0) (0 + (len - 1) * z))
    | none => (.fail [])
  | .sc (.s t), .sc (.i _ e) => if i.str = true then inB Φ e (mkSlen t) fun _ => .ret (.sc (.i .u8 (mkByt t e))) else (.fail [])
  | _, _ => (.fail [])
theorem indexX_den {P : Program} {ρ : Rho} {ty : TypeId} {Φ : Facts} {x y v : X} (hk : Facts.ok ρ Φ) (hv : (indexX (tiOf P ty) Φ x y).sel ρ = some v) : indexN P ty (x.den ρ) (y.den ρ) = some (v.den ρ) := by
  unfold indexX at hv
  split at hv
  · split at hv
    · rename_i cs k e len z ha
      obtain ⟨Φ', j, _, he, hj, hv⟩ := sel_inB hk hv
      have hv := sel_retO hv
      simp only [IE.den] at hj
      have ha' : arrT P ty = some (len, z) := ha
      simp only [X.den, Sc.den, indexN, ha', he, Int.toNat_natCast]
      rw [if_pos ⟨by omega, by omega⟩]
      split at hv
      · rename_i jj
        simp only [IE.den] at he
        have := rdX_den (ρ := ρ) hv
        rw [he, Int.toNat_natCast] at this
        exact this
      · have := rdAs_den (ρ := ρ) hv
        rw [choose_idx he (by omega), choose, Nat.zero_add] at this
        exact this
    · cases hv
  · split at hv
    · rename_i t k e hs
      have hs' : strT P ty = true := hs
      obtain ⟨Φ', j, _, he, hj, hv⟩ := sel_inB hk hv
      cases hv
      rw [mkSlen_den] at hj
      simp only [X.den, Sc.den, indexN, hs', he, Int.toNat_natCast, mkByt_den]
      rw [if_pos ⟨trivial, by omega⟩]
      have hlt : j < (t.den ρ).size := by omega
      have : (t.den ρ)[j]? = some ((t.den ρ)[j]'hlt) := getElem?_pos (t.den ρ) j hlt
      rw [this]; rfl
    · cases hv
  · cases hv

/-! ### Slices -/
/-- The number that e is, from 0 to n. -/
def enumE {α : Type} (e : IE) (k : Facts → Nat → T α) : Nat → Facts → T α
  | 0, Φ => want Φ (mkEq e (.lit 0)) fun Φ => k Φ 0
  | m + 1, Φ => part Φ (mkEq e (.lit (m + 1 : Nat))) (fun Φ => k Φ (m + 1)) (fun Φ => enumE e k m Φ)
theorem sel_enumE {α : Type} {ρ : Rho} {e : IE} {k : Facts → Nat → T α} {a : α} : ∀ (n : Nat) {Φ : Facts}, Facts.ok ρ Φ → (enumE e k n Φ).sel ρ = some a → ∃ Φ' j, Facts.ok ρ Φ' ∧ j ≤ n ∧ e.den ρ = (j : Nat) ∧ (k Φ' j).sel ρ = some a
  | 0, Φ, hk, h => by
    obtain ⟨Φ', hk', h1, h⟩ := sel_want hk h
    rw [mkEq_den, beq_iff_eq] at h1
    exact ⟨Φ', 0, hk', Nat.le_refl _, h1, h⟩
  | m + 1, Φ, hk, h => by
    obtain ⟨Φ', hk', ⟨h1, h⟩ | ⟨_, h⟩⟩ := sel_part hk h
    · rw [mkEq_den, beq_iff_eq] at h1
      exact ⟨Φ', m + 1, hk', Nat.le_refl _, h1, h⟩
    · obtain ⟨Φ'', j, h2, h3, h4, h5⟩ := sel_enumE m hk' h
      exact ⟨Φ'', j, h2, by omega, h4, h5⟩
def enumL {α : Type} (e : IE) (n : Nat) (Φ : Facts) (k : Facts → Nat → T α) : T α :=
  match e with
  | .lit j => if decide (0 ≤ j) && Nat.ble j.toNat n then k Φ j.toNat else (.fail [])
  | e => enumE e k n Φ
theorem sel_enumL {α : Type} {ρ : Rho} {e : IE} {k : Facts → Nat → T α} {a : α} {n : Nat} {Φ : Facts} (hk : Facts.ok ρ Φ) (h : (enumL e n Φ k).sel ρ = some a) : ∃ Φ' j, Facts.ok ρ Φ' ∧ j ≤ n ∧ e.den ρ = (j : Nat) ∧ (k Φ' j).sel ρ = some a := by
  unfold enumL at h
  split at h
  · split at h
    · rename_i j hc
      simp only [Bool.and_eq_true, decide_eq_true_eq, Nat.ble_eq] at hc
      exact ⟨Φ, j.toNat, hk, hc.2, by simp only [IE.den]; omega, h⟩
    · cases h
  · exact sel_enumE n hk h
def bndX : Option X → IE → Option IE
  | none, d => some d
  | some (.sc (.i _ e)), _ => some e
  | _, _ => none
theorem bndX_den {ρ : Rho} {x : Option X} {d e : IE} {dn : Nat} (h : bndX x d = some e) (hd : d.den ρ = dn) {j : Nat} (he : e.den ρ = j) : bndN dn (x.map (X.den ρ)) = some j := by
  unfold bndX at h
  split at h
  · cases h
    simp only [Option.map_none, bndN, Option.some.injEq]; omega
  · cases h
    simp only [Option.map_some, X.den, Sc.den, bndN, he]
    rw [if_pos (by omega), Int.toNat_natCast]
  · cases h
def topE (i : TI) : X → IE
  | .ro _ es _ => .lit es.length
  | .rl _ n _ _ => n
  | .sl _ _ _ len _ => .lit len
  | .ptr _ _ _ => match i.arr with | some (len, _) => .lit len | none => .lit 0
  | .sc (.s t) => mkSlen t
  | _ => .lit 0
def ptr1 (n : Nm) (z l k : Nat) : List (BE × Nat) → Nat → Option X
  | [], d => some (.sl n z (d + l * z) k false)
  | _, _ => none
def slX (i : TI) (h : XHp) (Φ : Facts) (x : X) (lo hi : IE) (hn : Bool) : T X :=
  match x with
  | .ro z es full => match i.sl with
    | some (_, z') => if Nat.beq z' z = true then enumL hi es.length Φ fun Φ hh => enumL lo hh Φ fun _ l => .ret (.ro z ((es.take hh).drop l) (full && Nat.beq hh es.length)) else (.fail [])
    | none => (.fail [])
  | .rl z n l full => match i.sl with
    | some (_, z') => if Nat.beq z' z = true then
        want Φ (mkNot (mkLt lo (.lit 0))) fun Φ => want Φ (mkNot (mkLt (mkSub hi lo) (.lit 0))) fun Φ => want Φ (mkNot (mkLt n hi)) fun _ =>
          .ret (.rl z (mkSub hi lo) (match lo with | .lit 0 => l | lo => .drop lo l) (full && hn))
      else (.fail [])
    | none => (.fail [])
  | .sl n z off len own => match i.sl with
    | some (_, z') => if (Nat.beq z' z && okPtr h n) = true then enumL hi len Φ fun Φ hh => enumL lo hh Φ fun _ l => .ret (.sl n z (off + l * z) (hh - l) own) else (.fail [])
    | none => (.fail [])
  | .ptr n as d => match i.arr with
    | some (len, z) => if okPtr h n = true then enumL hi len Φ fun Φ hh => enumL lo hh Φ fun _ l => retO (ptr1 n z l (hh - l) as d) else (.fail [])
    | none => (.fail [])
  | .sc (.s t) => if i.str = true then
      want Φ (mkNot (mkLt lo (.lit 0))) fun Φ => want Φ (mkNot (mkLt hi lo)) fun Φ => want Φ (mkNot (mkLt (mkSlen t) hi)) fun _ =>
        .ret (.sc (.s (if (lo.beq (.lit 0) && hi.beq (mkSlen t)) = true then t else .sub t lo hi)))
    else (.fail [])
  | .k (.slice none 0 0) => match i.sl with
    | some _ => want Φ (mkEq lo (.lit 0)) fun Φ => want Φ (mkEq hi (.lit 0)) fun _ => .ret (.k (.slice none 0 0))
    | none => (.fail [])
  | _ => (.fail [])

theorem not_lt_den {ρ : Rho} {a b : IE} (h : (mkNot (mkLt a b)).den ρ = true) : ¬ a.den ρ < b.den ρ := fun hh => by
  rw [mkNot_den, mkLt_den, decide_eq_true hh] at h; cases h
theorem rows_sub {ρ : Rho} {n hi lo : IE} {l : RL} {a b : Nat} (h1 : lo.den ρ = a) (h2 : hi.den ρ = b) (h3 : (b : Int) ≤ n.den ρ) (hab : a ≤ b) (m : RL) (hm : ∀ j : Nat, m.row ρ j = l.row ρ ((j + a : Nat) : Int)) :
    rowsD ρ (mkSub hi lo) m = ((rowsD ρ n l).take b).drop a := by
  unfold rowsD
  apply List.ext_getElem?
  intro j
  rw [mkSub_den, h1, h2, List.getElem?_drop, List.getElem?_take, List.getElem?_map, List.getElem?_map]
  by_cases hj : j < b - a
  · rw [List.getElem?_range (by omega), if_pos (by omega), List.getElem?_range (by omega)]
    simp only [Option.map_some, Option.some.injEq]
    rw [hm j, Nat.add_comm]
  · rw [List.getElem?_eq_none (by simp; omega)]
    by_cases hj2 : a + j < b
    · omega
    · rw [if_neg hj2]; rfl

theorem ro_full {C : Ctx} {z : Nat} {es : List (List AV)} {f f' : Bool} (hf : f' = true → f = true) {u : Value} (h : Conc C (.ro z es f) u) : Conc C (.ro z es f') u := by
  obtain ⟨A, cap, h1, h2, h3, h4⟩ := conc_ro.1 h
  exact conc_ro.2 ⟨A, cap, h1, h2, fun hh => h3 (hf hh), h4⟩
/-- One value says no more than another one. -/
def LeA (a b : AV) : Prop := ∀ (C : Ctx) (u : Value), Conc C b u → Conc C a u
theorem LeA.refl (a : AV) : LeA a a := fun _ _ h => h
theorem LeA.top (b : AV) : LeA .top b := fun _ _ _ => by simp only [Conc]
theorem LeA.of_eq {a b : AV} (h : a = b) : LeA a b := by subst h; exact LeA.refl a

theorem slX_den {P : Program} {ρ : Rho} {ty : TypeId} {h : XHp} {Φ : Facts} {x v : X} {lo hi : Option X} {l r : IE} (hk : Facts.ok ρ Φ) (hl : bndX lo (.lit 0) = some l) (hr : bndX hi (topE (tiOf P ty) x) = some r)
    (hv : (slX (tiOf P ty) h Φ x l r hi.isNone).sel ρ = some v) : ∃ w, sliceN P (denH ρ h) ty (x.den ρ) (lo.map (X.den ρ)) (hi.map (X.den ρ)) none = some w ∧ LeA (v.den ρ) w := by
  unfold slX at hv
  simp only [sliceN]
  split at hv
  · split at hv
    · rename_i z es full _ ee z' ha
      have ha' : slT P ty = some (ee, z') := ha
      split at hv
      · rename_i hz
        have hz := Nat.eq_of_beq_eq_true hz
        subst hz
        obtain ⟨Φ1, b, hk1, hb, hb2, hv⟩ := sel_enumL hk hv
        obtain ⟨Φ2, a, hk2, ha1, ha2, hv⟩ := sel_enumL hk1 hv
        cases hv
        have e1 := bndX_den (ρ := ρ) hl (dn := 0) (by simp [IE.den]) ha2
        have e2 := bndX_den (ρ := ρ) hr (dn := topN P ty ((X.ro z' es full).den ρ)) (by simp [IE.den, topE, X.den, topN, X.denE_eq]) hb2
        rw [e1, e2]
        have hlen : (X.denE ρ es).length = es.length := by simp [X.denE_eq]
        simp only [slN, X.den, ha', hlen]
        rw [if_pos ⟨trivial, ha1, hb⟩]
        refine ⟨_, rfl, LeA.of_eq ?_⟩
        have hbe : (Nat.beq b es.length) = (b == es.length) := natbeq _ _
        simp only [X.denE_eq, List.map_drop, List.map_take, hbe]
      · cases hv
    · cases hv
  · split at hv
    · rename_i z n rl full _ ee z' ha
      have ha' : slT P ty = some (ee, z') := ha
      split at hv
      · rename_i hz
        have hz := Nat.eq_of_beq_eq_true hz
        subst hz
        obtain ⟨Φ1, hk1, c1, hv⟩ := sel_want hk hv
        obtain ⟨Φ2, hk2, c2, hv⟩ := sel_want hk1 hv
        obtain ⟨Φ3, hk3, c3, hv⟩ := sel_want hk2 hv
        cases hv
        have c1 := not_lt_den c1
        have c2 := not_lt_den c2
        have c3 := not_lt_den c3
        rw [mkSub_den] at c2
        simp only [IE.den] at c1 c2
        obtain ⟨a, ha2⟩ : ∃ a : Nat, l.den ρ = a := ⟨(l.den ρ).toNat, by omega⟩
        obtain ⟨b, hb2⟩ : ∃ b : Nat, r.den ρ = b := ⟨(r.den ρ).toNat, by omega⟩
        have hlen : (rowsD ρ n rl).length = (n.den ρ).toNat := by simp [rowsD]
        have e1 := bndX_den (ρ := ρ) hl (dn := 0) (by simp [IE.den]) ha2
        have e2 := bndX_den (ρ := ρ) hr (dn := topN P ty ((X.rl z' n rl full).den ρ)) (by simp only [topE, X.den, topN, hlen]; omega) hb2
        rw [e1, e2]
        simp only [slN, X.den, ha', hlen]
        rw [if_pos ⟨trivial, by omega, by omega⟩]
        refine ⟨_, rfl, ?_⟩
        rw [rows_sub (n := n) (l := rl) ha2 hb2 (by omega) (by omega) _ (fun j => ?_)]
        · intro C u hu
          refine ro_full (fun hf => ?_) hu
          simp only [Bool.and_eq_true] at hf ⊢
          refine ⟨hf.1, ?_⟩
          cases hi with
          | some y => simp at hf
          | none =>
            simp only [bndX, topE, Option.some.injEq] at hr
            subst hr
            simp only [beq_iff_eq]; omega
        · split
          · simp only [IE.den] at ha2
            rw [show j + a = j from by omega]
          · simp only [RL.row, ha2]
            congr 1
      · cases hv
    · cases hv
  · split at hv
    · rename_i n z off len own _ ee z' ha
      have ha' : slT P ty = some (ee, z') := ha
      split at hv
      · rename_i hz
        simp only [Bool.and_eq_true] at hz
        have hz1 := Nat.eq_of_beq_eq_true hz.1
        subst hz1
        obtain ⟨Φ1, b, hk1, hb, hb2, hv⟩ := sel_enumL hk hv
        obtain ⟨Φ2, a, hk2, ha1, ha2, hv⟩ := sel_enumL hk1 hv
        cases hv
        have e1 := bndX_den (ρ := ρ) hl (dn := 0) (by simp [IE.den]) ha2
        have e2 := bndX_den (ρ := ρ) hr (dn := topN P ty ((X.sl n z' off len own).den ρ)) (by simp [IE.den, topE, X.den, topN]) hb2
        rw [e1, e2]
        simp only [slN, X.den, ha']
        rw [if_pos ⟨trivial, okPtr_den hz.2, ha1, hb⟩]
        exact ⟨_, rfl, LeA.refl _⟩
      · cases hv
    · cases hv
  · split at hv
    · rename_i n as d _ len z ha
      have ha' : arrT P ty = some (len, z) := ha
      split at hv
      · rename_i hz
        obtain ⟨Φ1, b, hk1, hb, hb2, hv⟩ := sel_enumL hk hv
        obtain ⟨Φ2, a, hk2, ha1, ha2, hv⟩ := sel_enumL hk1 hv
        have hv := sel_retO hv
        unfold ptr1 at hv
        split at hv
        · cases hv
          have e1 := bndX_den (ρ := ρ) hl (dn := 0) (by simp [IE.den]) ha2
          have e2 := bndX_den (ρ := ρ) hr (dn := topN P ty ((X.ptr n [] d).den ρ)) (by simp [IE.den, topE, X.den, topN, ha', ha]) hb2
          rw [e1, e2]
          simp only [slN, X.den, ha', choose]
          rw [if_pos ⟨okPtr_den hz, ha1, hb⟩]
          exact ⟨_, rfl, LeA.refl _⟩
        · cases hv
      · cases hv
    · cases hv
  · split at hv
    · rename_i t hs
      have hs' : strT P ty = true := hs
      obtain ⟨Φ1, hk1, c1, hv⟩ := sel_want hk hv
      obtain ⟨Φ2, hk2, c2, hv⟩ := sel_want hk1 hv
      obtain ⟨Φ3, hk3, c3, hv⟩ := sel_want hk2 hv
      cases hv
      have c1 := not_lt_den c1
      have c2 := not_lt_den c2
      have c3 := not_lt_den c3
      rw [mkSlen_den] at c3
      simp only [IE.den] at c1
      obtain ⟨a, ha2⟩ : ∃ a : Nat, l.den ρ = a := ⟨(l.den ρ).toNat, by omega⟩
      obtain ⟨b, hb2⟩ : ∃ b : Nat, r.den ρ = b := ⟨(r.den ρ).toNat, by omega⟩
      have e1 := bndX_den (ρ := ρ) hl (dn := 0) (by simp [IE.den]) ha2
      have e2 := bndX_den (ρ := ρ) hr (dn := topN P ty ((X.sc (.s t)).den ρ)) (by simp only [topE, X.den, Sc.den, topN, mkSlen_den]) hb2
      rw [e1, e2]
      simp only [slN, X.den, Sc.den, hs']
      rw [if_pos ⟨trivial, by omega, by omega⟩]
      refine ⟨_, rfl, LeA.of_eq ?_⟩
      split
      · rename_i hc
        simp only [Bool.and_eq_true] at hc
        have h1 := IE.beq_eq _ _ hc.1
        have h2 := IE.beq_eq _ _ hc.2
        subst h1 h2
        rw [mkSlen_den] at hb2
        simp only [IE.den] at ha2
        have ha0 : a = 0 := by omega
        have hbs : b = (t.den ρ).size := by omega
        rw [ha0, hbs, ByteArray.extract_zero_size]
      · simp only [TE.den, ha2, hb2, Int.toNat_natCast]
    · cases hv
  · split at hv
    · rename_i ez ha
      have ha' : slT P ty = some ez := ha
      obtain ⟨Φ1, hk1, c1, hv⟩ := sel_want hk hv
      obtain ⟨Φ2, hk2, c2, hv⟩ := sel_want hk1 hv
      cases hv
      rw [mkEq_den] at c1 c2
      have c1 : l.den ρ = (0 : Nat) := by simpa [IE.den] using c1
      have c2 : r.den ρ = (0 : Nat) := by simpa [IE.den] using c2
      have e1 := bndX_den (ρ := ρ) hl (dn := 0) (by simp [IE.den]) c1
      have e2 := bndX_den (ρ := ρ) hr (dn := topN P ty ((X.k (.slice none 0 0)).den ρ)) (by simp [topE, X.den, topN, IE.den]) c2
      rw [e1, e2]
      simp only [slN, X.den, ha']
      exact ⟨_, rfl, LeA.refl _⟩
    · cases hv
  · cases hv

/-! ### Slices with three indexes -/
def litN : X → Option Nat
  | .sc (.i _ (.lit n)) => if 0 ≤ n then some n.toNat else none
  | _ => none
theorem litN_den {ρ : Rho} {x : X} {n : Nat} (h : litN x = some n) : bndN 0 (some (x.den ρ)) = some n := by
  unfold litN at h
  split at h
  · split at h
    · rename_i h0
      cases h
      simp only [X.den, Sc.den, IE.den, bndN]
      rw [if_pos h0]
    · cases h
  · cases h
def sl3X (i : TI) (h : XHp) (x : X) (lo : Option X) (hi mx : X) : Option X :=
  match (match lo with | none => some 0 | some v => litN v), litN hi, litN mx with
  | some l, some hh, some m => match x with
    | .ro z es _ => match i.sl with
      | some (_, z') => if (Nat.beq z' z && (Nat.ble l hh && (Nat.ble hh m && Nat.ble m es.length))) = true then some (.ro z ((es.take hh).drop l) (Nat.beq m hh)) else none
      | none => none
    | .sl n z _ len _ => match i.sl with
      | some (_, z') => if (Nat.beq z' z && (okPtr h n && (Nat.beq hh l && (Nat.beq m l && Nat.ble l len)))) = true then some (.ro z [] true) else none
      | none => none
    | _ => none
  | _, _, _ => none
theorem sl3X_den {P : Program} {ρ : Rho} {ty : TypeId} {h : XHp} {x hi mx v : X} {lo : Option X} (hv : sl3X (tiOf P ty) h x lo hi mx = some v) : sliceN P (denH ρ h) ty (x.den ρ) (lo.map (X.den ρ)) (some (hi.den ρ)) (some (mx.den ρ)) = some (v.den ρ) := by
  unfold sl3X at hv
  split at hv
  · rename_i l hh m h1 h2 h3
    have e1 : bndN 0 (lo.map (X.den ρ)) = some l := by
      cases lo with
      | none => cases h1; rfl
      | some w => exact litN_den h1
    have e2 := litN_den (ρ := ρ) h2
    have e3 := litN_den (ρ := ρ) h3
    simp only [sliceN, e1, e2, e3, slN3]
    split at hv
    · rename_i z es f
      split at hv
      · rename_i ee z' ha
        have ha' : slT P ty = some (ee, z') := ha
        split at hv
        · rename_i hc
          cases hv
          simp only [Bool.and_eq_true, Nat.ble_eq] at hc
          obtain ⟨c1, c2, c3, c4⟩ := hc
          have c1 := Nat.eq_of_beq_eq_true c1
          simp only [X.den, ha']
          have hlen : (X.denE ρ es).length = es.length := by simp [X.denE_eq]
          rw [if_pos ⟨c1, c2, c3, by rw [hlen]; exact c4⟩]
          have : Nat.beq m hh = (m == hh) := by rw [Bool.eq_iff_iff]; simp
          rw [this]
          simp [X.denE_eq, List.map_take, List.map_drop]
        · cases hv
      · cases hv
    · rename_i n z off len own
      split at hv
      · rename_i ee z' ha
        have ha' : slT P ty = some (ee, z') := ha
        split at hv
        · rename_i hc
          cases hv
          simp only [Bool.and_eq_true, Nat.ble_eq] at hc
          obtain ⟨c1, c2, c3, c4, c5⟩ := hc
          simp only [X.den, ha']
          rw [if_pos ⟨Nat.eq_of_beq_eq_true c1, okPtr_den c2, Nat.eq_of_beq_eq_true c3, Nat.eq_of_beq_eq_true c4, c5⟩]
          rfl
        · cases hv
      · cases hv
    · cases hv
  · cases hv
end Go.Proofs.Xw

/- Symbolic runs, part 6: arithmetic, literals, built-in functions. -/
namespace Go.Proofs.Xw
open Go Go.Proofs.Aw

/-! ### Arithmetic -/
def ifK (k k' : IntKind) (x : X) : T X := if kbeq k k' = true then .ret x else (.fail [])
def intX (op : BinOp) (Φ : Facts) (k : IntKind) (a : IE) (k' : IntKind) (b : IE) : T X :=
  match op with
  | .add => ifK k k' (.sc (.i k (mkOp .add k a b)))
  | .sub => ifK k k' (.sc (.i k (mkOp .sub k a b)))
  | .mul => ifK k k' (.sc (.i k (mkOp .mul k a b)))
  | .and => ifK k k' (.sc (.i k (mkOp .and k a b)))
  | .or => ifK k k' (.sc (.i k (mkOp .or k a b)))
  | .xor => ifK k k' (.sc (.i k (mkOp .xor k a b)))
  | .andNot => ifK k k' (.sc (.i k (mkOp .andNot k a b)))
  | .lss => ifK k k' (.sc (.b (mkLt a b)))
  | .leq => ifK k k' (.sc (.b (mkNot (mkLt b a))))
  | .gtr => ifK k k' (.sc (.b (mkLt b a)))
  | .geq => ifK k k' (.sc (.b (mkNot (mkLt a b))))
  | .eql => ifK k k' (.sc (.b (mkEq a b)))
  | .neq => ifK k k' (.sc (.b (mkNot (mkEq a b))))
  | .quo => want Φ (mkNot (mkEq b (.lit 0))) fun _ => ifK k k' (.sc (.i k (mkOp .quo k a b)))
  | .rem => want Φ (mkNot (mkEq b (.lit 0))) fun _ => ifK k k' (.sc (.i k (mkOp .rem k a b)))
  | .shl => want Φ (mkNot (mkLt b (.lit 0))) fun _ => .ret (.sc (.i k (mkOp .shl k a b)))
  | .shr => want Φ (mkNot (mkLt b (.lit 0))) fun _ => .ret (.sc (.i k (mkOp .shr k a b)))
theorem sel_ifK {ρ : Rho} {k k' : IntKind} {x v : X} (h : (ifK k k' x).sel ρ = some v) : k = k' ∧ v = x := by
  unfold ifK at h
  split at h
  · rename_i hk; cases h; exact ⟨kbeq_eq hk, rfl⟩
  · cases h
theorem decNot {a b : Int} : (!decide (a < b)) = decide (b ≤ a) := by
  rw [Bool.eq_iff_iff]; simp
theorem intX_den {ρ : Rho} {op : BinOp} {Φ : Facts} {k k' : IntKind} {a b : IE} {v : X} (hk : Facts.ok ρ Φ) (h : (intX op Φ k a k' b).sel ρ = some v) : (intBin op k (a.den ρ) k' (b.den ρ)).map AV.sc = some (v.den ρ) := by
  cases op <;> simp only [intX] at h
  case quo =>
    obtain ⟨_, _, h1, h⟩ := sel_want hk h
    obtain ⟨rfl, rfl⟩ := sel_ifK h
    rw [mkNot_den, mkEq_den] at h1
    have hne : b.den ρ ≠ 0 := by simpa [IE.den] using h1
    simp [intBin, hne, X.den, Sc.den, mkOp_den, IOp.den]
  case rem =>
    obtain ⟨_, _, h1, h⟩ := sel_want hk h
    obtain ⟨rfl, rfl⟩ := sel_ifK h
    rw [mkNot_den, mkEq_den] at h1
    have hne : b.den ρ ≠ 0 := by simpa [IE.den] using h1
    simp [intBin, hne, X.den, Sc.den, mkOp_den, IOp.den]
  case shl =>
    obtain ⟨_, _, h1, h⟩ := sel_want hk h
    cases h
    have h1 := not_lt_den h1
    simp only [IE.den] at h1
    have hne : 0 ≤ b.den ρ := by omega
    simp [intBin, hne, X.den, Sc.den, mkOp_den, IOp.den]
  case shr =>
    obtain ⟨_, _, h1, h⟩ := sel_want hk h
    cases h
    have h1 := not_lt_den h1
    simp only [IE.den] at h1
    have hne : 0 ≤ b.den ρ := by omega
    simp [intBin, hne, X.den, Sc.den, mkOp_den, IOp.den]
  all_goals
    obtain ⟨rfl, rfl⟩ := sel_ifK h
    simp only [intBin, if_true, Option.map_some, X.den, Sc.den, mkOp_den, IOp.den, mkLt_den, mkNot_den, mkEq_den, decNot]
def strX (op : BinOp) (a b : TE) : Option X :=
  match op with
  | .eql => some (.sc (.b (mkSeq a b)))
  | .neq => some (.sc (.b (mkNot (mkSeq a b))))
  | .lss => some (.sc (.b (.slt a b)))
  | .leq => some (.sc (.b (mkOr (.slt a b) (mkSeq a b))))
  | .gtr => some (.sc (.b (mkNot (mkOr (.slt a b) (mkSeq a b)))))
  | .geq => some (.sc (.b (mkNot (.slt a b))))
  | _ => none
theorem strX_den {ρ : Rho} {op : BinOp} {a b : TE} {v : X} (h : strX op a b = some v) : (strBin op (a.den ρ) (b.den ρ)).map AV.sc = some (v.den ρ) := by
  cases op <;> simp only [strX, Option.some.injEq, reduceCtorEq] at h <;> subst h <;> simp only [strBin, Option.map_some, X.den, Sc.den, mkSeq_den, mkNot_den, mkOr_den, BE.den]
def eqLX : List Nat → List X → List X → Option BE
  | [], [], [] => some (.lit true)
  | k :: ks, a :: as, b :: bs =>
    match k, a, b with
    | 0, .sc (.b x), .sc (.b y) => (eqLX ks as bs).map fun r => mkAnd (mkIff x y) r
    | 1, .sc (.i i x), .sc (.i j y) => if kbeq i j = true then (eqLX ks as bs).map fun r => mkAnd (mkEq x y) r else none
    | 2, .sc (.s x), .sc (.s y) => (eqLX ks as bs).map fun r => mkAnd (mkSeq x y) r
    | _, _, _ => none
  | _, _, _ => none
theorem eqLX_den {ρ : Rho} : ∀ {l : List Nat} {xs ys : List X} {e : BE}, eqLX l xs ys = some e → eqL l (X.denL ρ xs) (X.denL ρ ys) = some (e.den ρ)
  | [], [], [], e, h => by simp only [eqLX, Option.some.injEq] at h; subst h; rfl
  | k :: ks, a :: as, b :: bs, e, h => by
    simp only [eqLX] at h
    split at h
    · obtain ⟨r, hr, rfl⟩ := Option.map_eq_some_iff.1 h
      simp only [X.denL, X.den, Sc.den, eqL, eqLX_den hr, Option.map_some, mkAnd_den, mkIff_den]
    · split at h
      · rename_i hk
        obtain ⟨r, hr, rfl⟩ := Option.map_eq_some_iff.1 h
        have hk := kbeq_eq hk
        simp only [X.denL, X.den, Sc.den, eqL, eqLX_den hr, Option.map_some, mkAnd_den, mkEq_den, hk, if_true]
      · cases h
    · obtain ⟨r, hr, rfl⟩ := Option.map_eq_some_iff.1 h
      simp only [X.denL, X.den, Sc.den, eqL, eqLX_den hr, Option.map_some, mkAnd_den, mkSeq_den]
    · cases h
  | [], [], _ :: _, _, h => by simp [eqLX] at h
  | [], _ :: _, _, _, h => by simp [eqLX] at h
  | _ :: _, [], _, _, h => by simp [eqLX] at h
  | _ :: _, _ :: _, [], _, h => by simp [eqLX] at h
/-! ### Floating-point numbers that are whole -/
def bndE (e : IE) : BE := mkAnd (mkLt (.lit (-9007199254740992)) e) (mkLt e (.lit 9007199254740992))
theorem bndE_ok {ρ : Rho} {e : IE} (h : (bndE e).den ρ = true) : (e.den ρ).natAbs < 2 ^ 53 := by
  unfold bndE at h
  rw [mkAnd_den, mkLt_den, mkLt_den, Bool.and_eq_true] at h
  have h1 := of_decide_eq_true h.1
  have h2 := of_decide_eq_true h.2
  simp only [IE.den] at h1 h2
  omega
def wants (Φ : Facts) (k : T X) : List IE → T X
  | [] => k
  | e :: l => want Φ (bndE e) fun _ => wants Φ k l
theorem sel_wants {ρ : Rho} {Φ : Facts} {k : T X} {v : X} (hk : Facts.ok ρ Φ) : ∀ {l : List IE}, (wants Φ k l).sel ρ = some v → (∀ e ∈ l, (e.den ρ).natAbs < 2 ^ 53) ∧ k.sel ρ = some v
  | [], h => ⟨(fun _ he => by cases he), h⟩
  | e :: l, h => by
    obtain ⟨_, _, h1, h2⟩ := sel_want hk h
    obtain ⟨g1, g2⟩ := sel_wants hk h2
    exact ⟨fun d hd => by
      rcases List.mem_cons.1 hd with rfl | hd
      · exact bndE_ok h1
      · exact g1 d hd, g2⟩
structure Fl where
  n : IE
  z : BE
def Fl.den (ρ : Rho) (a : Fl) : Nat := fv (a.n.den ρ) (a.z.den ρ)
theorem fv_flag {n : Int} {a b : Bool} (h : n = 0 → a = b) : fv n a = fv n b := by
  by_cases h0 : n = 0
  · rw [h h0]
  · simp only [fv, sgn, h0, if_false]
def Fl.add (a b : Fl) : Fl := ⟨mkAdd a.n b.n, mkAnd (mkAnd a.z b.z) (mkEq a.n (.lit 0))⟩
def Fl.sub (a b : Fl) : Fl := ⟨mkSub a.n b.n, mkAnd (mkAnd a.z (mkNot b.z)) (mkEq a.n (.lit 0))⟩
def sgE (n : IE) (z : BE) : BE := mkIteB (mkEq n (.lit 0)) z (mkLt n (.lit 0))
theorem sgE_den (ρ : Rho) (n : IE) (z : BE) : (sgE n z).den ρ = sgn (n.den ρ) (z.den ρ) := by
  unfold sgE sgn
  rw [mkIteB_den, mkEq_den, mkLt_den]
  simp only [IE.den, beq_iff_eq]
  by_cases h : n.den ρ = 0
  · simp [h]
  · rw [if_neg h, if_neg h]; rfl
def xorE (a b : BE) : BE := mkNot (mkIff a b)
theorem xorE_den (ρ : Rho) (a b : BE) : (xorE a b).den ρ = (a.den ρ ^^ b.den ρ) := by
  unfold xorE
  rw [mkNot_den, mkIff_den]
  cases a.den ρ <;> cases b.den ρ <;> rfl
def Fl.mul (a b : Fl) : Fl := ⟨mkMul a.n b.n, xorE (sgE a.n a.z) (sgE b.n b.z)⟩
section
variable {ρ : Rho} {a b : Fl}
theorem Fl.add_den (ha : (a.n.den ρ).natAbs < 2 ^ 53) (hb : (b.n.den ρ).natAbs < 2 ^ 53) (hs : ((a.add b).n.den ρ).natAbs < 2 ^ 53) : Ieee.double.add (a.den ρ) (b.den ρ) = some ((a.add b).den ρ) := by
  simp only [Fl.add, mkAdd_den] at hs
  simp only [Fl.den, Fl.add, mkAdd_den, mkAnd_den, mkEq_den, IE.den]
  rw [fadd ha hb hs]
  congr 1
  refine fv_flag fun h0 => ?_
  unfold sgn
  by_cases h1 : a.n.den ρ = 0
  · rw [if_pos h1, if_pos (by omega)]; simp [h1]
  · rw [if_neg h1, if_neg (by omega)]
    have : (a.n.den ρ == 0) = false := by simpa using h1
    rw [this, Bool.and_false]
    by_cases h2 : a.n.den ρ < 0
    · rw [decide_eq_false (show ¬ b.n.den ρ < 0 by omega), Bool.and_false]
    · rw [decide_eq_false h2, Bool.false_and]
theorem Fl.sub_den (ha : (a.n.den ρ).natAbs < 2 ^ 53) (hb : (b.n.den ρ).natAbs < 2 ^ 53) (hs : ((a.sub b).n.den ρ).natAbs < 2 ^ 53) : Ieee.double.sub (a.den ρ) (b.den ρ) = some ((a.sub b).den ρ) := by
  simp only [Fl.sub, mkSub_den] at hs
  simp only [Fl.den, Fl.sub, mkSub_den, mkAnd_den, mkNot_den, mkEq_den, IE.den]
  rw [fsub ha hb hs]
  congr 1
  refine fv_flag fun h0 => ?_
  unfold sgn
  by_cases h1 : a.n.den ρ = 0
  · rw [if_pos h1, if_pos (by omega)]; simp [h1]
  · rw [if_neg h1, if_neg (by omega)]
    have : (a.n.den ρ == 0) = false := by simpa using h1
    rw [this, Bool.and_false]
    by_cases h2 : a.n.den ρ < 0
    · rw [decide_eq_true (show b.n.den ρ < 0 by omega)]; simp
    · rw [decide_eq_false h2, Bool.false_and]
theorem Fl.mul_den (ha : (a.n.den ρ).natAbs < 2 ^ 53) (hb : (b.n.den ρ).natAbs < 2 ^ 53) (hs : ((a.mul b).n.den ρ).natAbs < 2 ^ 53) : Ieee.double.mul (a.den ρ) (b.den ρ) = some ((a.mul b).den ρ) := by
  simp only [Fl.mul, mkMul_den] at hs
  simp only [Fl.den, Fl.mul, mkMul_den, xorE_den, sgE_den]
  exact fmul ha hb hs
theorem Fl.ord_den (ha : (a.n.den ρ).natAbs < 2 ^ 53) (hb : (b.n.den ρ).natAbs < 2 ^ 53) : Ieee.double.order (a.den ρ) (b.den ρ) = some (compare (a.n.den ρ) (b.n.den ρ)) := ford ha hb
end
theorem cmp_lt (n m : Int) : (some (compare n m) == some Ordering.lt) = decide (n < m) := by
  by_cases h : n < m
  · simp [compare, compareOfLessAndEq, h]
  · by_cases h2 : n = m <;> simp [compare, compareOfLessAndEq, h, h2]
theorem cmp_gt (n m : Int) : (some (compare n m) == some Ordering.gt) = decide (m < n) := by
  by_cases h : n < m
  · simp [compare, compareOfLessAndEq, h]; omega
  · by_cases h2 : n = m
    · simp [compare, compareOfLessAndEq, h2]
    · simp [compare, compareOfLessAndEq, h, h2]; omega
theorem cmp_eq (n m : Int) : (some (compare n m) == some Ordering.eq) = (n == m) := by
  by_cases h : n < m
  · simp [compare, compareOfLessAndEq, h]; omega
  · by_cases h2 : n = m <;> simp [compare, compareOfLessAndEq, h, h2]
def fltX (op : BinOp) (Φ : Facts) (a b : Fl) : T X :=
  match op with
  | .add => wants Φ (.ret (.sc (.f (a.add b).n (a.add b).z))) [a.n, b.n, (a.add b).n]
  | .sub => wants Φ (.ret (.sc (.f (a.sub b).n (a.sub b).z))) [a.n, b.n, (a.sub b).n]
  | .mul => wants Φ (.ret (.sc (.f (a.mul b).n (a.mul b).z))) [a.n, b.n, (a.mul b).n]
  | .eql => wants Φ (.ret (.sc (.b (mkEq a.n b.n)))) [a.n, b.n]
  | .neq => wants Φ (.ret (.sc (.b (mkNot (mkEq a.n b.n))))) [a.n, b.n]
  | .lss => wants Φ (.ret (.sc (.b (mkLt a.n b.n)))) [a.n, b.n]
  | .leq => wants Φ (.ret (.sc (.b (mkNot (mkLt b.n a.n))))) [a.n, b.n]
  | .gtr => wants Φ (.ret (.sc (.b (mkLt b.n a.n)))) [a.n, b.n]
  | .geq => wants Φ (.ret (.sc (.b (mkNot (mkLt a.n b.n))))) [a.n, b.n]
  | _ => .fail ["float"]
theorem le_iff (n m : Int) : (decide (n < m) || n == m) = !decide (m < n) := by
  rw [Bool.eq_iff_iff]; simp; omega
theorem ge_iff (n m : Int) : (decide (m < n) || n == m) = !decide (n < m) := by
  rw [Bool.eq_iff_iff]; simp; omega
theorem fltX_den {ρ : Rho} {op : BinOp} {Φ : Facts} {a b : Fl} {v : X} (hk : Facts.ok ρ Φ) (h : (fltX op Φ a b).sel ρ = some v) : (fltBin op (a.den ρ) (b.den ρ)).map AV.sc = some (v.den ρ) := by
  cases op <;> simp only [fltX] at h
  case add =>
    obtain ⟨g, h⟩ := sel_wants hk h
    cases h
    simp only [fltBin, Fl.add_den (a := a) (b := b) (g _ (by simp)) (g _ (by simp)) (g _ (by simp))]; rfl
  case sub =>
    obtain ⟨g, h⟩ := sel_wants hk h
    cases h
    simp only [fltBin, Fl.sub_den (a := a) (b := b) (g _ (by simp)) (g _ (by simp)) (g _ (by simp))]; rfl
  case mul =>
    obtain ⟨g, h⟩ := sel_wants hk h
    cases h
    simp only [fltBin, Fl.mul_den (a := a) (b := b) (g _ (by simp)) (g _ (by simp)) (g _ (by simp))]; rfl
  case eql =>
    obtain ⟨g, h⟩ := sel_wants hk h
    cases h
    simp only [fltBin, Fl.ord_den (a := a) (b := b) (g _ (by simp)) (g _ (by simp)), cmp_eq, Option.map_some, X.den, Sc.den, mkEq_den]
  case neq =>
    obtain ⟨g, h⟩ := sel_wants hk h
    cases h
    simp only [fltBin, Fl.ord_den (a := a) (b := b) (g _ (by simp)) (g _ (by simp)), bne, cmp_eq, Option.map_some, X.den, Sc.den, mkEq_den, mkNot_den]
  case lss =>
    obtain ⟨g, h⟩ := sel_wants hk h
    cases h
    simp only [fltBin, Fl.ord_den (a := a) (b := b) (g _ (by simp)) (g _ (by simp)), cmp_lt, Option.map_some, X.den, Sc.den, mkLt_den]
  case leq =>
    obtain ⟨g, h⟩ := sel_wants hk h
    cases h
    simp only [fltBin, Fl.ord_den (a := a) (b := b) (g _ (by simp)) (g _ (by simp)), cmp_lt, cmp_eq, le_iff, Option.map_some, X.den, Sc.den, mkLt_den, mkNot_den]
  case gtr =>
    obtain ⟨g, h⟩ := sel_wants hk h
    cases h
    simp only [fltBin, Fl.ord_den (a := a) (b := b) (g _ (by simp)) (g _ (by simp)), cmp_gt, Option.map_some, X.den, Sc.den, mkLt_den]
  case geq =>
    obtain ⟨g, h⟩ := sel_wants hk h
    cases h
    simp only [fltBin, Fl.ord_den (a := a) (b := b) (g _ (by simp)) (g _ (by simp)), cmp_gt, cmp_eq, ge_iff, Option.map_some, X.den, Sc.den, mkLt_den, mkNot_den]
  all_goals cases h
def cX (a b : Fl) : X := .sc (.c a.n a.z b.n b.z)
theorem cX_den (ρ : Rho) (a b : Fl) : (cX a b).den ρ = .sc (.complex .f64 (a.den ρ) (b.den ρ)) := rfl
def cpxX (op : BinOp) (Φ : Facts) (a b c d : Fl) : T X :=
  match op with
  | .add => wants Φ (.ret (cX (a.add c) (b.add d))) [a.n, c.n, (a.add c).n, b.n, d.n, (b.add d).n]
  | .sub => wants Φ (.ret (cX (a.sub c) (b.sub d))) [a.n, c.n, (a.sub c).n, b.n, d.n, (b.sub d).n]
  | .mul => wants Φ (.ret (cX ((a.mul c).sub (b.mul d)) ((a.mul d).add (b.mul c)))) [a.n, b.n, c.n, d.n, (a.mul c).n, (b.mul d).n, (a.mul d).n, (b.mul c).n, ((a.mul c).sub (b.mul d)).n, ((a.mul d).add (b.mul c)).n]
  | .eql => wants Φ (.ret (.sc (.b (mkAnd (mkEq a.n c.n) (mkEq b.n d.n))))) [a.n, b.n, c.n, d.n]
  | .neq => wants Φ (.ret (.sc (.b (mkNot (mkAnd (mkEq a.n c.n) (mkEq b.n d.n)))))) [a.n, b.n, c.n, d.n]
  | _ => .fail ["complex"]
theorem cpxX_den {ρ : Rho} {op : BinOp} {Φ : Facts} {a b c d : Fl} {v : X} (hk : Facts.ok ρ Φ) (h : (cpxX op Φ a b c d).sel ρ = some v) : (cpxBin op (a.den ρ) (b.den ρ) (c.den ρ) (d.den ρ)).map AV.sc = some (v.den ρ) := by
  cases op <;> simp only [cpxX] at h
  case add =>
    obtain ⟨g, h⟩ := sel_wants hk h
    cases h
    simp only [cpxBin, Fl.add_den (a := a) (b := c) (g _ (by simp)) (g _ (by simp)) (g _ (by simp)), Fl.add_den (a := b) (b := d) (g _ (by simp)) (g _ (by simp)) (g _ (by simp))]; rfl
  case sub =>
    obtain ⟨g, h⟩ := sel_wants hk h
    cases h
    simp only [cpxBin, Fl.sub_den (a := a) (b := c) (g _ (by simp)) (g _ (by simp)) (g _ (by simp)), Fl.sub_den (a := b) (b := d) (g _ (by simp)) (g _ (by simp)) (g _ (by simp))]; rfl
  case mul =>
    obtain ⟨g, h⟩ := sel_wants hk h
    simp only [T.sel, Option.some.injEq] at h
    subst h
    simp only [List.forall_mem_cons] at g
    obtain ⟨g1, g2, g3, g4, g5, g6, g7, g8, g9, g10, _⟩ := g
    have e1 := Fl.mul_den (a := a) (b := c) g1 g3 g5
    have e2 := Fl.mul_den (a := b) (b := d) g2 g4 g6
    have e3 := Fl.mul_den (a := a) (b := d) g1 g4 g7
    have e4 := Fl.mul_den (a := b) (b := c) g2 g3 g8
    have e5 := Fl.sub_den (a := a.mul c) (b := b.mul d) g5 g6 g9
    have e6 := Fl.add_den (a := a.mul d) (b := b.mul c) g7 g8 g10
    simp only [cpxBin, e1, e2, e3, e4, cpxMul, e5, e6, cX_den, Option.map_some]
  case eql =>
    obtain ⟨g, h⟩ := sel_wants hk h
    cases h
    simp only [cpxBin, Fl.ord_den (a := a) (b := c) (g _ (by simp)) (g _ (by simp)), Fl.ord_den (a := b) (b := d) (g _ (by simp)) (g _ (by simp)), cmp_eq, Option.map_some, X.den, Sc.den, mkEq_den, mkAnd_den]
  case neq =>
    obtain ⟨g, h⟩ := sel_wants hk h
    cases h
    simp only [cpxBin, Fl.ord_den (a := a) (b := c) (g _ (by simp)) (g _ (by simp)), Fl.ord_den (a := b) (b := d) (g _ (by simp)) (g _ (by simp)), cmp_eq, Option.map_some, X.den, Sc.den, mkEq_den, mkAnd_den, mkNot_den]
  all_goals cases h
def binX (i : TI) (Φ : Facts) (op : BinOp) (x y : X) : T X :=
  match x, y with
  | .sc (.i k a), .sc (.i k' b) => intX op Φ k a k' b
  | .sc (.s a), .sc (.s b) => retO (strX op a b)
  | .sc (.b a), .sc (.b b) => match i.bl, op with
    | true, .eql => .ret (.sc (.b (mkIff a b)))
    | true, .neq => .ret (.sc (.b (mkNot (mkIff a b))))
    | _, _ => (.fail [])
  | .sc (.f n z), .sc (.f m y) => fltX op Φ ⟨n, z⟩ ⟨m, y⟩
  | .sc (.c n z m y), .sc (.c n' z' m' y') => cpxX op Φ ⟨n, z⟩ ⟨m, y⟩ ⟨n', z'⟩ ⟨m', y'⟩
  | .agg xs, .agg ys => match i.lv, op with
    | some l, .eql => retO ((eqLX l xs ys).map fun e => .sc (.b e))
    | some l, .neq => retO ((eqLX l xs ys).map fun e => .sc (.b (mkNot e)))
    | _, _ => (.fail [])
  | _, _ => (.fail [])
theorem binX_den {P : Program} {ρ : Rho} {ty : TypeId} {Φ : Facts} {op : BinOp} {x y v : X} (hk : Facts.ok ρ Φ) (h : (binX (tiOf P ty) Φ op x y).sel ρ = some v) : binR P op ty (x.den ρ) (y.den ρ) = some (v.den ρ) := by
  unfold binX at h
  split at h
  · simp only [X.den, Sc.den, binR]
    exact intX_den hk h
  · simp only [X.den, Sc.den, binR]
    exact strX_den (sel_retO h)
  · split at h
    · rename_i hb
      have hb' : boolT P ty = true := hb
      cases h
      simp only [X.den, Sc.den, binR, hb', mkIff_den]
    · rename_i hb
      have hb' : boolT P ty = true := hb
      cases h
      simp only [X.den, Sc.den, binR, hb', mkIff_den, mkNot_den]
    · cases h
  · have g := fltX_den hk h
    simp only [Fl.den] at g
    simp only [X.den, Sc.den, binR]
    exact g
  · have g := cpxX_den hk h
    simp only [Fl.den] at g
    simp only [X.den, Sc.den, binR]
    exact g
  · split at h
    · rename_i l hl
      have hl' : leavesG P ty = some l := hl
      obtain ⟨e, he, rfl⟩ := Option.map_eq_some_iff.1 (sel_retO h)
      simp only [X.den, Sc.den, binR, hl', Option.bind_some, eqLX_den he, Option.map_some]
    · rename_i l hl
      have hl' : leavesG P ty = some l := hl
      obtain ⟨e, he, rfl⟩ := Option.map_eq_some_iff.1 (sel_retO h)
      simp only [X.den, Sc.den, binR, hl', Option.bind_some, eqLX_den he, Option.map_some, mkNot_den]
    · cases h
  · cases h
def unX (Φ : Facts) (op : UnOp) : X → T X
  | .sc (.b e) => match op with | .not => .ret (.sc (.b (mkNot e))) | _ => .fail ["op"]
  | .sc (.i k e) => match op with | .neg => .ret (.sc (.i k (mkOp .sub k (.lit 0) e))) | _ => .fail ["op"]
  | .sc (.f n z) => match op with | .neg => wants Φ (.ret (.sc (.f (mkSub (.lit 0) n) (mkNot z)))) [n] | _ => .fail ["op"]
  | .sc (.c n z m y) => match op with | .neg => wants Φ (.ret (.sc (.c (mkSub (.lit 0) n) (mkNot z) (mkSub (.lit 0) m) (mkNot y)))) [n, m] | _ => .fail ["op"]
  | _ => .fail ["op"]
theorem unX_den {ρ : Rho} {Φ : Facts} {op : UnOp} {x v : X} (hk : Facts.ok ρ Φ) (h : (unX Φ op x).sel ρ = some v) : unR op (x.den ρ) = some (v.den ρ) := by
  unfold unX at h
  split at h
  · split at h
    · cases h; simp only [X.den, Sc.den, unR, mkNot_den]
    · cases h
  · split at h
    · cases h; simp only [X.den, Sc.den, unR, mkOp_den, IOp.den, IE.den]
    · cases h
  · split at h
    · obtain ⟨g, h⟩ := sel_wants hk h
      cases h
      simp only [X.den, Sc.den, unR, mkSub_den, mkNot_den, IE.den, fneg (g _ List.mem_cons_self), Int.zero_sub]
    · cases h
  · split at h
    · obtain ⟨g, h⟩ := sel_wants hk h
      cases h
      simp only [X.den, Sc.den, unR, mkSub_den, mkNot_den, IE.den, fneg (g _ List.mem_cons_self), fneg (g _ (List.mem_cons_of_mem _ List.mem_cons_self)), Int.zero_sub]
    · cases h
  · cases h
def mkConv (k : IntKind) : IE → IE
  | .lit n => .lit (k.wrap n)
  | e => .op .conv k e (.lit 0)
theorem mkConv_den (ρ : Rho) (k : IntKind) (e : IE) : (mkConv k e).den ρ = k.wrap (e.den ρ) := by
  unfold mkConv; split <;> simp [IE.den, IOp.den]
def convX (Φ : Facts) (src dst : TI) : X → T X
  | .sc (.i _ e) => match dst.ik, src.und with
    | some k, true => .ret (.sc (.i k (mkConv k e)))
    | none, true => (match dst.fl with
      | true => wants Φ (.ret (.sc (.f (nrmE Φ e) (.lit false)))) [nrmE Φ e]
      | false => .fail ["conv"])
    | _, _ => .fail ["conv"]
  | .sc (.f n _) => match dst.ik, src.und with
    | some .i64, true => wants Φ (.ret (.sc (.i .i64 n))) [n]
    | _, _ => .fail ["conv"]
  | _ => .fail ["conv"]
theorem i64_minmax {n : Int} (h : n.natAbs < 2 ^ 53) : IntKind.i64.min ≤ n ∧ n ≤ IntKind.i64.max := by
  have e1 : IntKind.i64.min = -9223372036854775808 := by decide
  have e2 : IntKind.i64.max = 9223372036854775807 := by decide
  rw [e1, e2]
  omega
theorem convX_den {P : Program} {ρ : Rho} {Φ : Facts} {src dst : TypeId} {x v : X} (hk : Facts.ok ρ Φ) (h : (convX Φ (tiOf P src) (tiOf P dst) x).sel ρ = some v) : convN P src dst (x.den ρ) = some (v.den ρ) := by
  have ik : ∀ {k : IntKind}, ikOf P dst = some k → P.underlying dst = some (.int k) := fun hk' => by
    unfold ikOf at hk'
    split at hk'
    · rename_i hd; cases hk'; exact hd
    · cases hk'
  unfold convX at h
  split at h
  · split at h
    · rename_i k hk1 hu
      have hu' : (P.underlying src).isSome = true := hu
      cases h
      simp only [X.den, Sc.den, convN, hu', if_true, convR, mkConv_den, ik hk1]
    · rename_i hk1 hu
      have hu' : (P.underlying src).isSome = true := hu
      split at h
      · rename_i hf
        obtain ⟨g, h⟩ := sel_wants hk h
        cases h
        have hf' : P.underlying dst = some (.float .f64) := by
          have hf : flOf P dst = true := hf
          unfold flOf at hf
          split at hf
          · assumption
          · cases hf
        have g1 := g _ List.mem_cons_self
        simp only [X.den, Sc.den, convN, hu', if_true, convR, hf', BE.den]
        rw [nrmE_den hk] at g1 ⊢
        rw [fnear _ g1]
      · cases h
    · cases h
  · split at h
    · rename_i hk1 hu
      have hu' : (P.underlying src).isSome = true := hu
      obtain ⟨g, h⟩ := sel_wants hk h
      cases h
      have g1 := g _ List.mem_cons_self
      simp only [X.den, Sc.den, convN, hu', if_true, convR, ik hk1, fint g1, i64_minmax g1, and_self]
    · cases h
  · cases h
def cpxRX : Builtin → List X → Option X
  | .real, [.sc (.c n z _ _)] => some (.sc (.f n z))
  | .imag, [.sc (.c _ _ m y)] => some (.sc (.f m y))
  | .complex, [.sc (.f n z), .sc (.f m y)] => some (.sc (.c n z m y))
  | _, _ => none
theorem cpxRX_den {ρ : Rho} {b : Builtin} {xs : List X} {v : X} (h : cpxRX b xs = some v) : cpxR b (X.denL ρ xs) = some (v.den ρ) := by
  unfold cpxRX at h
  split at h
  · cases h; rfl
  · cases h; rfl
  · cases h; rfl
  · cases h

/-! ### Literals -/
def fillX (place : Nat → Option (Nat × Nat)) (cells : List X) : List (Nat × X) → Option (List X)
  | [] => some cells
  | (i, v) :: r => match place i with
    | none => none
    | some (off, size) => if (Nat.beq v.cells.length size && (Nat.ble (off + size) cells.length && v.cells.all X.one)) = true then fillX place (spliceX cells off v.cells) r else none
def denP (ρ : Rho) (ps : List (Nat × X)) : List (Nat × AV) := ps.map fun p => (p.1, p.2.den ρ)
theorem fillX_den {ρ : Rho} {place : Nat → Option (Nat × Nat)} : ∀ {ps : List (Nat × X)} {cells cs : List X}, fillX place cells ps = some cs → fillA place (X.denL ρ cells) (denP ρ ps) = some (X.denL ρ cs)
  | [], _, _, h => by simp only [fillX, Option.some.injEq] at h; subst h; rfl
  | (i, v) :: r, cells, cs, h => by
    simp only [fillX] at h
    simp only [denP, List.map_cons, fillA]
    split at h
    · cases h
    · rename_i off size hp
      rw [hp]
      simp only
      split at h
      · rename_i hc
        simp only [Bool.and_eq_true, Nat.ble_eq] at hc
        rw [X.cells_den ρ v hc.2.2, X.denL_len, X.denL_len, if_pos ⟨Nat.eq_of_beq_eq_true hc.1, hc.2.1, X.all_one ρ _ hc.2.2⟩, ← spliceX_den]
        exact fillX_den h
      · cases h
def placeX (i : TI) : Nat → Option (Nat × Nat) :=
  match i.arr, i.rc with
  | some (_, z), _ => fun j => some (j * z, z)
  | none, some l => fun j => l[j]?
  | none, none => fun _ => none
def buildX (i : TI) (ps : List (Nat × X)) : Option X :=
  match i.zero with
  | some zs => if (i.arr.isSome || i.rc.isSome) = true then (fillX (placeX i) (zs.map ofV) ps).map .agg else none
  | none => none
theorem ofVs_den (ρ : Rho) (l : List Value) : X.denL ρ (l.map ofV) = l.map AV.sc := by simp [X.denL_eq, ofV_den]
theorem buildX_den {P : Program} {ρ : Rho} {ty : TypeId} {ps : List (Nat × X)} {v : X} (h : buildX (tiOf P ty) ps = some v) : buildN P ty (denP ρ ps) (zeroC P ty) = some (v.den ρ) := by
  unfold buildX at h
  split at h
  · rename_i zs hz
    have hz' : zeroV P ty = some zs := hz
    split at h
    · rename_i hc
      obtain ⟨cs, hf, rfl⟩ := Option.map_eq_some_iff.1 h
      rw [zeroC_eq, hz']
      simp only [Option.map_some, buildN]
      have hc' : ((arrT P ty).isSome || (recT P ty).isSome) = true := hc
      rw [if_pos hc', ← ofVs_den ρ]
      have hp : placeX (tiOf P ty) = placeOf P ty := rfl
      rw [hp] at hf
      rw [fillX_den hf]; rfl
    · cases h
  · cases h
def densX (z : Nat) : Nat → List (Nat × X) → Bool
  | _, [] => true
  | k, (i, v) :: r => Nat.beq i k && (Nat.beq v.cells.length z && (v.cells.all X.one && densX z (k + 1) r))
theorem densX_den {ρ : Rho} {z : Nat} : ∀ {ps : List (Nat × X)} {k : Nat}, densX z k ps = true → densP z k (denP ρ ps) = true
  | [], _, _ => rfl
  | (i, v) :: r, k, h => by
    simp only [densX, Bool.and_eq_true] at h
    simp only [denP, List.map_cons, densP, Bool.and_eq_true, beq_iff_eq, X.cells_den ρ v h.2.2.1, X.denL_len]
    exact ⟨Nat.eq_of_beq_eq_true h.1, Nat.eq_of_beq_eq_true h.2.1, X.all_one ρ _ h.2.2.1, densX_den h.2.2.2⟩
def partX : List (Nat × X) → List (List X)
  | [] => []
  | (_, v) :: r => v.cells :: partX r
theorem partX_den (ρ : Rho) {z : Nat} : ∀ (ps : List (Nat × X)) {k : Nat}, densX z k ps = true → X.denE ρ (partX ps) = partCells (denP ρ ps)
  | [], _, _ => rfl
  | (i, v) :: r, k, h => by
    simp only [densX, Bool.and_eq_true] at h
    simp only [partX, X.denE, denP, List.map_cons, partCells, X.cells_den ρ v h.2.2.1]; rw [partX_den ρ r h.2.2.2]; rfl
def flatX : List (List X) → List X
  | [] => []
  | e :: es => e ++ flatX es
theorem flatX_den (ρ : Rho) : ∀ es, X.denL ρ (flatX es) = (X.denE ρ es).flatten
  | [] => rfl
  | e :: es => by simp only [flatX, X.denE, List.flatten_cons, X.denL_append, flatX_den ρ es]
def zlenI (i : TI) : Option Nat := i.zero.map List.length
theorem zlenI_eq (P : Program) (e : TypeId) : zlenI (tiOf P e) = zlenT P e := by
  unfold zlenI zlenT
  rw [zeroC_eq]
  show (zeroV P e).map List.length = _
  cases zeroV P e with
  | none => rfl
  | some l => simp
def zokI (i : TI) (z : Nat) : Bool := match zlenI i with | some z' => Nat.beq z' z | none => false
theorem zokI_eq {P : Program} {e : TypeId} {z : Nat} (h : zokI (tiOf P e) z = true) : zlenT P e = some z := by
  rw [← zlenI_eq]
  unfold zokI at h
  split at h
  · rename_i z' hz'; rw [hz', Nat.eq_of_beq_eq_true h]
  · cases h
def buildSliceX (n : Nat) (mu : Bool) (i : TI) (ti : Nat → Option TI) (len : Nat) (ps : List (Nat × X)) : Option (X × XDl) :=
  match i.sl with
  | some (e, z) => match ti e with
    | some ie => if (zokI ie z && (Nat.ble (len * z) 16777216 && (Nat.beq ps.length len && densX z 0 ps))) = true then
        (match mu with
        | false => some (.ro z (partX ps) true, [])
        | true => if isRows (flatX (partX ps)) = true then none else some (.sl (n, 0) z 0 len true, [((n, 0), some (flatX (partX ps)))]))
      else none
    | none => none
  | none => none
def TIs.ok (P : Program) (ti : Nat → Option TI) : Prop := ∀ t i, ti t = some i → i = tiOf P t
theorem buildSliceX_den {P : Program} {ρ : Rho} {n : Nat} {mu : Bool} {ty : TypeId} {ti : Nat → Option TI} (hti : TIs.ok P ti) {len : Nat} {ps : List (Nat × X)} {v : X} {d : XDl} (h : buildSliceX n mu (tiOf P ty) ti len ps = some (v, d)) :
    buildSliceN P n mu ty len (denP ρ ps) = some (v.den ρ, denD ρ d) := by
  unfold buildSliceX at h
  split at h
  · rename_i e z hs
    have hs' : slT P ty = some (e, z) := hs
    split at h
    · rename_i ie hie
      have hie := hti _ _ hie
      subst hie
      split at h
      · rename_i hc
        simp only [Bool.and_eq_true, Nat.ble_eq] at hc
        obtain ⟨h1, h2, h3, h4⟩ := hc
        have hz := zokI_eq h1
        simp only [buildSliceN, hs', hz]
        rw [if_pos ⟨trivial, h2, by simpa [denP] using Nat.eq_of_beq_eq_true h3, densX_den h4⟩]
        cases mu with
        | false => cases h; simp only [X.den, partX_den ρ ps h4]; rfl
        | true =>
          simp only at h
          split at h
          · cases h
          · rename_i hr
            cases h; simp only [X.den, denD, List.map_cons, List.map_nil, Option.map_some, denO_of (ρ := ρ) (show isRows (flatX (partX ps)) = false by simpa using hr), flatX_den, partX_den ρ ps h4]
      · cases h
    · cases h
  · cases h

/-! ### len, max, min -/
def lenX (i : TI) (h : XHp) (Φ : Facts) : X → T X
  | .ro _ es _ => if i.sl.isSome = true then .ret (.sc (.i .i64 (.lit es.length))) else (.fail [])
  | .rl _ n _ _ => if i.sl.isSome = true then want Φ (mkNot (mkLt n (.lit 0))) fun _ => .ret (.sc (.i .i64 n)) else (.fail [])
  | .rn _ n _ _ _ => if i.sl.isSome = true then want Φ (mkNot (mkLt n (.lit 0))) fun _ => .ret (.sc (.i .i64 n)) else (.fail [])
  | .sl m _ _ len _ => if (i.sl.isSome && okPtr h m) = true then .ret (.sc (.i .i64 (.lit len))) else (.fail [])
  | .k (.slice _ m _) => if i.sl.isSome = true then .ret (.sc (.i .i64 (.lit m))) else (.fail [])
  | .sc (.s t) => if i.str = true then .ret (.sc (.i .i64 (mkSlen t))) else (.fail [])
  | .agg _ => match i.arr with
    | some (n, _) => .ret (.sc (.i .i64 (.lit n)))
    | none => (.fail [])
  | _ => (.fail [])
theorem lenX_den {P : Program} {ρ : Rho} {ty : TypeId} {h : XHp} {Φ : Facts} {x v : X} (hk : Facts.ok ρ Φ) (hv : (lenX (tiOf P ty) h Φ x).sel ρ = some v) : lenN (lenT P (denH ρ h) ty (x.den ρ)) = some (v.den ρ) := by
  unfold lenX at hv
  split at hv
  · split at hv
    · rename_i hs
      have hs' : (slT P ty).isSome = true := hs
      cases hv
      simp only [X.den, lenT, hs', if_true, lenN, Sc.den, IE.den, X.denE_eq, List.length_map]
    · cases hv
  · split at hv
    · rename_i n l f hs
      have hs' : (slT P ty).isSome = true := hs
      obtain ⟨_, _, h1, hv⟩ := sel_want hk hv
      cases hv
      have h1 := not_lt_den h1
      simp only [IE.den] at h1
      have : ((rowsD ρ n l).length : Int) = n.den ρ := by simp only [rowsD, List.length_map, List.length_range]; omega
      simp only [X.den, lenT, hs', if_true, lenN, Sc.den, this]
    · cases hv
  · split at hv
    · rename_i n l ks f hs
      have hs' : (slT P ty).isSome = true := hs
      obtain ⟨_, _, h1, hv⟩ := sel_want hk hv
      cases hv
      have h1 := not_lt_den h1
      simp only [IE.den] at h1
      have : ((rowsN ρ n l ks).length : Int) = n.den ρ := by simp only [rowsN, List.length_map, List.length_range]; omega
      simp only [X.den, lenT, hs', if_true, lenN, Sc.den, this]
    · cases hv
  · split at hv
    · rename_i m z off len own hs
      simp only [Bool.and_eq_true] at hs
      have hs' : (slT P ty).isSome = true := hs.1
      cases hv
      simp only [X.den, lenT, hs', okPtr_den hs.2, and_self, if_true, lenN, Sc.den, IE.den]
    · cases hv
  · split at hv
    · rename_i hs
      have hs' : (slT P ty).isSome = true := hs
      cases hv
      simp only [X.den, lenT, hs', if_true, lenN, Sc.den, IE.den]
    · cases hv
  · split at hv
    · rename_i hs
      have hs' : strT P ty = true := hs
      cases hv
      simp only [X.den, lenT, hs', if_true, lenN, Sc.den, mkSlen_den]
    · cases hv
  · split at hv
    · rename_i n z hs
      have hs' : arrT P ty = some (n, z) := hs
      cases hv
      simp only [X.den, lenT, hs', Option.map_some, lenN, Sc.den, IE.den]
    · cases hv
  · cases hv
def mkMax (a b : IE) : IE := if a.beq b = true then a else mkOp .max .i64 a b
theorem mkMax_den (ρ : Rho) (a b : IE) : (mkMax a b).den ρ = Max.max (a.den ρ) (b.den ρ) := by
  unfold mkMax; split
  · rename_i h; rw [IE.beq_eq _ _ h]; omega
  · rw [mkOp_den]; rfl
def mkMin (a b : IE) : IE := if a.beq b = true then a else mkOp .min .i64 a b
theorem mkMin_den (ρ : Rho) (a b : IE) : (mkMin a b).den ρ = Min.min (a.den ρ) (b.den ρ) := by
  unfold mkMin; split
  · rename_i h; rw [IE.beq_eq _ _ h]; omega
  · rw [mkOp_den]; rfl
def maxX : X → List X → Option X
  | .sc (.i k a), [] => some (.sc (.i k a))
  | .sc (.i k a), .sc (.i _ b) :: r => maxX (.sc (.i k (mkMax a b))) r
  | _, _ => none
theorem maxX_den {ρ : Rho} : ∀ {l : List X} {x v : X}, maxX x l = some v → maxA (x.den ρ) (X.denL ρ l) = some (v.den ρ)
  | [], x, v, h => by
    unfold maxX at h
    split at h
    · cases h; simp only [X.denL, X.den, Sc.den, maxA]
    · contradiction
    · cases h
  | y :: r, x, v, h => by
    unfold maxX at h
    split at h
    · contradiction
    · rename_i k a k' b r' he
      cases he
      have := maxX_den (ρ := ρ) h
      simp only [X.den, Sc.den, mkMax_den] at this
      simp only [X.denL, X.den, Sc.den, maxA]
      exact this
    · cases h
def minX : X → List X → Option X
  | .sc (.i k a), [] => some (.sc (.i k a))
  | .sc (.i k a), .sc (.i _ b) :: r => minX (.sc (.i k (mkMin a b))) r
  | _, _ => none
theorem minX_den {ρ : Rho} : ∀ {l : List X} {x v : X}, minX x l = some v → minA (x.den ρ) (X.denL ρ l) = some (v.den ρ)
  | [], x, v, h => by
    unfold minX at h
    split at h
    · cases h; simp only [X.denL, X.den, Sc.den, minA]
    · contradiction
    · cases h
  | y :: r, x, v, h => by
    unfold minX at h
    split at h
    · contradiction
    · rename_i k a k' b r' he
      cases he
      have := minX_den (ρ := ρ) h
      simp only [X.den, Sc.den, mkMin_den] at this
      simp only [X.denL, X.den, Sc.den, minA]
      exact this
    · cases h
end Go.Proofs.Xw

/- Symbolic runs, part 18: append; objects of rows. -/
namespace Go.Proofs.Xw
open Go Go.Proofs.Aw

/-! ### Append -/
inductive Rows where
  | c (es : List (List X))
  | r (n : IE) (l : RL)
def Rows.den (ρ : Rho) : Rows → List (List AV)
  | .c es => X.denE ρ es
  | .r n l => rowsD ρ n l
def chunkX (z : Nat) : Nat → List X → List (List X)
  | 0, _ => []
  | k + 1, cs => cs.take z :: chunkX z k (cs.drop z)
theorem chunkX_den (ρ : Rho) (z : Nat) : ∀ (k : Nat) (cs : List X), X.denE ρ (chunkX z k cs) = chunk z k (X.denL ρ cs)
  | 0, _ => rfl
  | k + 1, cs => by simp only [chunkX, X.denE, chunk, X.denL_take, chunkX_den ρ z k, X.denL_drop]
def elemsX (h : XHp) (z : Nat) : X → Option Rows
  | .ro z' es _ => if Nat.beq z' z = true then some (.c es) else none
  | .rl z' n l _ => if Nat.beq z' z = true then some (.r n l) else none
  | .sl m z' off len _ => match hgetX h m with
    | some cs => if (Nat.beq z' z && Nat.ble (off + len * z) cs.length) = true then some (.c (chunkX z len (cs.drop off))) else none
    | none => none
  | .k (.slice none 0 0) => some (.c [])
  | _ => none
theorem elemsX_den {ρ : Rho} {h : XHp} {z : Nat} {x : X} {r : Rows} (he : elemsX h z x = some r) : elemsA (denH ρ h) z (x.den ρ) = some (r.den ρ) := by
  unfold elemsX at he
  split at he
  · split at he
    · rename_i hz; cases he; have hz := Nat.eq_of_beq_eq_true hz; subst hz; simp only [X.den, elemsA, if_true, Rows.den]
    · cases he
  · split at he
    · rename_i hz; cases he; have hz := Nat.eq_of_beq_eq_true hz; subst hz; simp only [X.den, elemsA, if_true, Rows.den]
    · cases he
  · split at he
    · rename_i cs hg
      split at he
      · rename_i hz
        cases he
        simp only [Bool.and_eq_true, Nat.ble_eq] at hz
        have hz1 := Nat.eq_of_beq_eq_true hz.1
        subst hz1
        simp only [X.den, elemsA, hget_denH hg, Option.bind_some, X.denL_len, Rows.den, chunkX_den, X.denL_drop]
        rw [if_pos ⟨trivial, hz.2⟩]
      · cases he
    · cases he
  · cases he; simp only [X.den, elemsA, Rows.den, X.denE]
  · cases he
def baseX (z : Nat) : X → Option Rows
  | .ro z' es true => if Nat.beq z' z = true then some (.c es) else none
  | .rl z' n l true => if Nat.beq z' z = true then some (.r n l) else none
  | .k (.slice none 0 0) => some (.c [])
  | _ => none
theorem baseX_den {ρ : Rho} {z : Nat} {x : X} {r : Rows} (he : baseX z x = some r) : baseRo z (x.den ρ) = some (r.den ρ) := by
  unfold baseX at he
  split at he
  · split at he
    · rename_i hz; cases he; have hz := Nat.eq_of_beq_eq_true hz; subst hz; simp only [X.den, baseRo, if_true, Rows.den]
    · cases he
  · split at he
    · rename_i hz; cases he; have hz := Nat.eq_of_beq_eq_true hz; subst hz; simp only [X.den, baseRo, if_true, Rows.den]
    · cases he
  · cases he; simp only [X.den, baseRo, Rows.den, X.denE]
  · cases he
def toScs : List X → Option (List Sc)
  | [] => some []
  | .sc s :: r => (toScs r).map (s :: ·)
  | _ => none
theorem toScs_den {ρ : Rho} : ∀ {l : List X} {s : List Sc}, toScs l = some s → scL ρ s = X.denL ρ l
  | [], s, h => by simp only [toScs, Option.some.injEq] at h; subst h; rfl
  | x :: r, s, h => by
    unfold toScs at h
    split at h
    · contradiction
    · rename_i s' r' he
      cases he
      obtain ⟨t, ht, rfl⟩ := Option.map_eq_some_iff.1 h
      have := toScs_den (ρ := ρ) ht
      simp only [X.denL, X.den, ← this]
      rfl
    · cases h
def toRL : List (List X) → Option RL
  | [] => none
  | [e] => (toScs e).map .one
  | e :: es => match toScs e, toRL es with
    | some s, some l => some (.app (.lit 1) (.one s) l)
    | _, _ => none
theorem toRL_row {ρ : Rho} : ∀ {es : List (List X)} {l : RL}, toRL es = some l → ∀ j : Nat, j < es.length → (X.denE ρ es)[j]? = some (l.row ρ j)
  | [], _, h, _, _ => by simp [toRL] at h
  | [e], l, h, j, hj => by
    simp only [toRL] at h
    obtain ⟨s, hs, rfl⟩ := Option.map_eq_some_iff.1 h
    obtain rfl : j = 0 := by simpa using hj
    simp only [X.denE, List.getElem?_cons_zero, RL.row, toScs_den hs]
  | e :: e' :: es, l, h, j, hj => by
    simp only [toRL] at h
    split at h
    · rename_i s l' hs hl
      cases h
      simp only [RL.row]
      cases j with
      | zero =>
        rw [if_pos (show ((0 : Nat) : Int) < (IE.lit 1).den ρ from by simp [IE.den])]
        simp only [X.denE, List.getElem?_cons_zero, toScs_den hs]
      | succ j =>
        rw [if_neg (show ¬ ((j + 1 : Nat) : Int) < (IE.lit 1).den ρ from by simp only [IE.den]; omega), show ((j + 1 : Nat) : Int) - (IE.lit 1).den ρ = (j : Nat) from by simp only [IE.den]; omega]
        have := toRL_row (ρ := ρ) hl j (by simpa using hj)
        simpa only [X.denE, List.getElem?_cons_succ] using this
    · cases h
theorem toRL_den {ρ : Rho} {es : List (List X)} {l : RL} (h : toRL es = some l) : rowsD ρ (.lit es.length) l = X.denE ρ es := by
  apply List.ext_getElem?
  intro j
  by_cases hj : j < es.length
  · rw [toRL_row h j hj, rowsD_get (by simp only [IE.den]; omega)]
  · rw [List.getElem?_eq_none (by simp [rowsD, IE.den]; omega), List.getElem?_eq_none (by simp [X.denE_eq]; omega)]
theorem rowsD_app {ρ : Rho} {n m : IE} {a b : RL} (hn : 0 ≤ n.den ρ) (hm : 0 ≤ m.den ρ) : rowsD ρ (mkAdd n m) (.app n a b) = rowsD ρ n a ++ rowsD ρ m b := by
  apply List.ext_getElem?
  intro j
  obtain ⟨x, hx⟩ : ∃ x : Nat, n.den ρ = x := ⟨(n.den ρ).toNat, by omega⟩
  obtain ⟨y, hy⟩ : ∃ y : Nat, m.den ρ = y := ⟨(m.den ρ).toNat, by omega⟩
  have hl : (rowsD ρ n a).length = x := by simp [rowsD, hx]
  by_cases h1 : j < x
  · rw [List.getElem?_append_left (by omega), rowsD_get (by rw [mkAdd_den]; omega), rowsD_get (by omega)]
    simp only [RL.row, hx]
    rw [if_pos (by omega)]
  · rw [List.getElem?_append_right (by omega), hl]
    by_cases h2 : j < x + y
    · rw [rowsD_get (by rw [mkAdd_den]; omega), rowsD_get (by omega)]
      simp only [RL.row, hx]
      rw [if_neg (by omega), show (j : Int) - x = (j - x : Nat) from by omega]
    · rw [List.getElem?_eq_none (by simp [rowsD, mkAdd_den, hx, hy]; omega), List.getElem?_eq_none (by simp [rowsD, hy]; omega)]
def Rows.len : Rows → IE
  | .c es => .lit es.length
  | .r n _ => n
def catX : Rows → Rows → Option Rows
  | .c es, .c fs => some (.c (es ++ fs))
  | .r n l, .c [] => some (.r n l)
  | .c [], .r n l => some (.r n l)
  | .r n l, .c fs => (toRL fs).map fun m => .r (mkAdd n (.lit fs.length)) (.app n l m)
  | .c es, .r n l => (toRL es).map fun m => .r (mkAdd (.lit es.length) n) (.app (.lit es.length) m l)
  | .r n l, .r m k => some (.r (mkAdd n m) (.app n l k))
theorem Rows.len_den {ρ : Rho} {a : Rows} (h : 0 ≤ a.len.den ρ) : ((a.den ρ).length : Int) = a.len.den ρ := by
  cases a with
  | c es => simp [Rows.den, Rows.len, X.denE_eq, IE.den]
  | r n l => simp only [Rows.len] at h; simp only [Rows.den, Rows.len, rowsD, List.length_map, List.length_range]; omega
theorem catX_den {ρ : Rho} {a b c : Rows} (ha : 0 ≤ a.len.den ρ) (hb : 0 ≤ b.len.den ρ) (h : catX a b = some c) : c.den ρ = a.den ρ ++ b.den ρ := by
  unfold catX at h
  split at h
  · cases h; simp [Rows.den, X.denE_eq]
  · cases h; simp [Rows.den, X.denE]
  · cases h; simp [Rows.den, X.denE]
  · obtain ⟨m, hm, rfl⟩ := Option.map_eq_some_iff.1 h
    simp only [Rows.den, ← toRL_den hm]
    exact rowsD_app ha hb
  · obtain ⟨m, hm, rfl⟩ := Option.map_eq_some_iff.1 h
    simp only [Rows.den, ← toRL_den hm]
    exact rowsD_app ha hb
  · cases h
    exact rowsD_app ha hb
def capLim (b : Nat) : Nat := Nat.min (140737488355328 / b) 9223372036854775807
theorem capLim_ok {b n : Nat} (h : n ≤ capLim b) : n * b ≤ 140737488355328 ∧ n ≤ 9223372036854775807 := by
  have h1 : n ≤ 140737488355328 / b := Nat.le_trans h (Nat.min_le_left _ _)
  have h2 : n ≤ 9223372036854775807 := Nat.le_trans h (Nat.min_le_right _ _)
  exact ⟨Nat.mul_le_of_le_div b n _ h1, h2⟩
def Rows.ro (z : Nat) : Rows → X
  | .c es => .ro z es false
  | .r n l => .rl z n l false
theorem Rows.ro_den (ρ : Rho) (z : Nat) (a : Rows) : (a.ro z).den ρ = .ro z (a.den ρ) false := by cases a <;> rfl
def okLen {α : Type} (Φ : Facts) (a b : Rows) (by_ : Nat) (k : Facts → T α) : T α :=
  want Φ (mkNot (mkLt a.len (.lit 0))) fun Φ => want Φ (mkNot (mkLt b.len (.lit 0))) fun Φ => want Φ (mkNot (mkLt (.lit (capLim by_)) (mkAdd a.len b.len))) k
theorem sel_okLen {α : Type} {ρ : Rho} {Φ : Facts} {a b : Rows} {by_ : Nat} {k : Facts → T α} {x : α} (hk : Facts.ok ρ Φ) (h : (okLen Φ a b by_ k).sel ρ = some x) :
    ∃ Φ', Facts.ok ρ Φ' ∧ 0 ≤ a.len.den ρ ∧ 0 ≤ b.len.den ρ ∧ ((a.den ρ).length + (b.den ρ).length) * by_ ≤ 140737488355328 ∧ (a.den ρ).length + (b.den ρ).length ≤ 9223372036854775807 ∧ (k Φ').sel ρ = some x := by
  obtain ⟨Φ1, hk1, c1, h⟩ := sel_want hk h
  obtain ⟨Φ2, hk2, c2, h⟩ := sel_want hk1 h
  obtain ⟨Φ3, hk3, c3, h⟩ := sel_want hk2 h
  have c1 := not_lt_den c1
  have c2 := not_lt_den c2
  have c3 := not_lt_den c3
  rw [mkAdd_den] at c3
  simp only [IE.den] at c1 c2 c3
  have l1 := Rows.len_den (ρ := ρ) (a := a) (by omega)
  have l2 := Rows.len_den (ρ := ρ) (a := b) (by omega)
  have := capLim_ok (b := by_) (n := (a.den ρ).length + (b.den ρ).length) (by omega)
  exact ⟨Φ3, hk3, by omega, by omega, this.1, this.2, h⟩
def apSl (n z b : Nat) (m : Nm) (w off len : Nat) (own : Bool) (cs : List X) (fs : List (List X)) : Option (X × XDl) :=
  if (!isRows (cs.drop off ++ flatX fs) && (Nat.beq w z && (own && (Nat.beq cs.length (off + len * z) && ((flatX fs).all X.one && Nat.ble (len + fs.length) (capLim b)))))) = true then
    some (.sl (n, 0) z 0 (len + fs.length) true, [(m, none), ((n, 0), some (cs.drop off ++ flatX fs))]) else none
theorem apSl_den {P : Program} {ρ : Rho} {n z : Nat} {m : Nm} {w off len : Nat} {own mu : Bool} {e : TypeId} {h : XHp} {cs : List X} {fs : List (List X)} {r : X × XDl} (hg : hgetX h m = some cs) (hv : apSl n z (bytesT P e) m w off len own cs fs = some r) :
    apN P n (denH ρ h) mu e z (.sl m w off len own) (some (X.denE ρ fs)) = some (r.1.den ρ, denD ρ r.2) := by
  unfold apSl at hv
  split at hv
  · rename_i hcc
    simp only [Bool.and_eq_true, Nat.ble_eq] at hcc
    obtain ⟨g0, g1, g3, g4, g5, g6⟩ := hcc
    have g0 : isRows (cs.drop off ++ flatX fs) = false := by simpa using g0
    have g1 := Nat.eq_of_beq_eq_true g1
    have g4 := Nat.eq_of_beq_eq_true g4
    subst g1
    cases hv
    have hl2 : (X.denE ρ fs).length = fs.length := by simp [X.denE_eq]
    have hcap := capLim_ok g6
    simp only [apN, hget_denH hg, apS, X.denL_len, hl2]
    rw [if_pos ⟨trivial, g3⟩, if_pos ⟨g4, by rw [← flatX_den]; exact X.all_one ρ _ g5, hcap.1, hcap.2⟩]
    simp only [X.den, denD, List.map_cons, List.map_nil, Option.map_some, Option.map_none, denO_of g0, X.denL_append, flatX_den, X.denL_drop]
  · cases hv
/-- A new object of rows, and the slice of all of it. -/
def rowsNew (n z : Nat) (d : XDl) (es fs : Rows) : Option (X × XDl) :=
  match catX es fs with
  | some (.r N L) => if (L.wd z && (N.beq (mkAdd es.len fs.len))) = true then some (.slv (n, 0) z (.lit 0) N true, d ++ [((n, 0), some [.rows z N L])]) else none
  | _ => none
theorem rowsNew_den {ρ : Rho} {n z : Nat} {d : XDl} {es fs : Rows} {r : X × XDl} (la : 0 ≤ es.len.den ρ) (lb : 0 ≤ fs.len.den ρ) (hv : rowsNew n z d es fs = some r) :
    (r.1.den ρ, denD ρ r.2) = (.sl (n, 0) z 0 ((es.den ρ).length + (fs.den ρ).length) true, denD ρ d ++ [((n, 0), some ((es.den ρ).flatten ++ (fs.den ρ).flatten))]) := by
  unfold rowsNew at hv
  split at hv
  · rename_i N L hcat
    split at hv
    · rename_i hc
      simp only [Bool.and_eq_true] at hc
      cases hv
      have h1 : rowsD ρ N L = es.den ρ ++ fs.den ρ := catX_den la lb hcat
      have h2 := Rows.len_den la
      have h3 := Rows.len_den lb
      have h4 := IE.beq_eq _ _ hc.2
      have h5 : (N.den ρ).toNat = (es.den ρ).length + (fs.den ρ).length := by rw [h4, mkAdd_den]; omega
      simp only [X.den, IE.den, h5, denD, List.map_append, List.map_cons, List.map_nil, Option.map_some, denO, h1, List.flatten_append]
      simp
    · cases hv
  · cases hv
def apNew (n z b : Nat) (es fs : List (List X)) : Option (X × XDl) :=
  if (!isRows (flatX es ++ flatX fs) && (Nat.ble (es.length + fs.length) (capLim b) && Nat.blt 0 fs.length)) = true then some (.sl (n, 0) z 0 (es.length + fs.length) true, [((n, 0), some (flatX es ++ flatX fs))]) else none
def apBase (n : Nat) (mu : Bool) (z b : Nat) (Φ : Facts) (es fs : Rows) : T (X × XDl) :=
  match mu with
  | false => okLen Φ es fs b fun _ => retO ((catX es fs).map fun r => (r.ro z, []))
  | true => match es, fs with
    | .c es, .c fs => retO (apNew n z b es fs)
    | es, fs => okLen Φ es fs b fun Φ => want Φ (mkLt (.lit 0) fs.len) fun _ => retO (rowsNew n z [] es fs)
theorem apBase_den {ρ : Rho} {n z b : Nat} {mu : Bool} {Φ : Facts} (hk : Facts.ok ρ Φ) {es fs : Rows} {r : X × XDl} (hv : (apBase n mu z b Φ es fs).sel ρ = some r) : apO n mu z b (fs.den ρ) (some (es.den ρ)) = some (r.1.den ρ, denD ρ r.2) := by
  unfold apBase at hv
  split at hv
  · obtain ⟨Φ', _, la, lb, c1, c2, hv⟩ := sel_okLen hk hv
    obtain ⟨c, hcat, rfl⟩ := Option.map_eq_some_iff.1 (sel_retO hv)
    simp only [apO]
    rw [if_pos ⟨c1, c2, fun hh => (nomatch hh)⟩, Rows.ro_den, catX_den la lb hcat]
    rfl
  · split at hv
    · rename_i es fs
      have hv := sel_retO hv
      unfold apNew at hv
      split at hv
      · rename_i hcc
        simp only [Bool.and_eq_true, Nat.ble_eq] at hcc
        have g0 : isRows (flatX es ++ flatX fs) = false := by simpa using hcc.1
        have hcc := hcc.2
        cases hv
        have hl1 : (X.denE ρ es).length = es.length := by simp [X.denE_eq]
        have hl2 : (X.denE ρ fs).length = fs.length := by simp [X.denE_eq]
        have hcap := capLim_ok hcc.1
        have hpos : 0 < fs.length := by simpa [Nat.blt_eq] using hcc.2
        simp only [apO, Rows.den, hl1, hl2]
        rw [if_pos ⟨hcap.1, hcap.2, fun _ hh => by rw [← hl2, hh] at hpos; simp at hpos⟩]
        simp only [X.den, denD, List.map_cons, List.map_nil, Option.map_some, denO_of g0, X.denL_append, flatX_den]
      · cases hv
    · obtain ⟨Φ', hk', la, lb, c1, c2, hv⟩ := sel_okLen hk hv
      obtain ⟨Φ2, _, c3, hv⟩ := sel_want hk' hv
      rw [mkLt_den] at c3
      have c3 := of_decide_eq_true c3
      simp only [IE.den] at c3
      have hl := Rows.len_den (ρ := ρ) lb
      simp only [apO]
      rw [if_pos ⟨c1, c2, fun _ hh => by rw [hh] at hl; simp at hl; omega⟩]
      have := sel_retO hv
      rw [rowsNew_den la lb this]
      rfl
/-! ### Objects of rows -/
def rowsOne : Rows → Bool
  | .c es => (flatX es).all X.one
  | .r _ _ => true
theorem scL_one (ρ : Rho) (r : List Sc) : (scL ρ r).all AV.one = true := by
  unfold scL
  rw [List.all_eq_true]
  intro x hx
  obtain ⟨s, _, rfl⟩ := List.mem_map.1 hx
  cases s <;> rfl
theorem cellsV_one (ρ : Rho) (l j : Nat) : ∀ (ks : List Kd) (k : Nat), (cellsV ρ l k ks j).all AV.one = true
  | [], _ => rfl
  | .i _ :: ks, k => by simp only [cellsV, List.all_cons, cellsV_one ρ l j ks (k + 1), Bool.and_true]; rfl
  | .b :: ks, k => by simp only [cellsV, List.all_cons, cellsV_one ρ l j ks (k + 1), Bool.and_true]; rfl
  | .s :: ks, k => by simp only [cellsV, List.all_cons, cellsV_one ρ l j ks (k + 1), Bool.and_true]; rfl
theorem row_one (ρ : Rho) : ∀ (l : RL) (j : Int), (l.row ρ j).all AV.one = true
  | .var l ks, j => cellsV_one ρ l _ ks 0
  | .one r, j => scL_one ρ r
  | .app n a b, j => by
    simp only [RL.row]
    split
    · exact row_one ρ a _
    · exact row_one ρ b _
  | .drop n a, j => row_one ρ a _
  | .upd i r a, j => by
    simp only [RL.row]
    split
    · exact scL_one ρ r
    · exact row_one ρ a _
  | .ite c a b, j => by
    simp only [RL.row]
    split
    · exact row_one ρ a _
    · exact row_one ρ b _
theorem rowsOne_den {ρ : Rho} {fs : Rows} (h : rowsOne fs = true) : (fs.den ρ).flatten.all AV.one = true := by
  cases fs with
  | c es => simp only [Rows.den, ← flatX_den]; exact X.all_one ρ _ h
  | r n l =>
    simp only [Rows.den, rowsD]
    rw [List.all_eq_true]
    intro x hx
    obtain ⟨r, hr, hx⟩ := List.mem_flatten.1 hx
    obtain ⟨j, _, rfl⟩ := List.mem_map.1 hr
    exact List.all_eq_true.1 (row_one ρ l j) x hx
def rowsAt (h : XHp) (m : Nm) : Option (Nat × IE × RL) := match hgetO h m with
  | some [.rows z n l] => if l.wd z = true then some (z, n, l) else none
  | _ => none
theorem rowsAt_den {ρ : Rho} {h : XHp} {m : Nm} {z : Nat} {n : IE} {l : RL} (hr : rowsAt h m = some (z, n, l)) : hget (denH ρ h) m = some (rowsD ρ n l).flatten ∧ l.wd z = true := by
  unfold rowsAt at hr
  split at hr
  · rename_i z' n' l' hg
    split at hr
    · rename_i hw
      cases hr
      exact ⟨by rw [hget_denO, hg]; rfl, hw⟩
    · cases hr
  · cases hr
theorem rowsD_len {ρ : Rho} {n : IE} {l : RL} {z : Nat} (hw : l.wd z = true) (j : Nat) (e : List AV) (h : (rowsD ρ n l)[j]? = some e) : e.length = z := by
  unfold rowsD at h
  rw [List.getElem?_map] at h
  obtain ⟨k, _, rfl⟩ := Option.map_eq_some_iff.1 h
  exact RL.wd_len hw
theorem rowsD_count (ρ : Rho) (n : IE) (l : RL) : (rowsD ρ n l).length = (n.den ρ).toNat := by simp [rowsD]
theorem rowsD_flat {ρ : Rho} {n : IE} {l : RL} {z : Nat} (hw : l.wd z = true) : (rowsD ρ n l).flatten.length = (n.den ρ).toNat * z := by
  rw [flat_length _ (fun j e h => rowsD_len hw j e h), rowsD_count]
theorem flat_row {ρ : Rho} {n : IE} {l : RL} {z j : Nat} (hw : l.wd z = true) (hj : (j : Int) < n.den ρ) {k : Nat} (hk : k < z) : (rowsD ρ n l).flatten[j * z + k]? = (l.row ρ j)[k]? :=
  flat_at _ (fun j e h => rowsD_len hw j e h) j _ (rowsD_get hj) k hk
theorem row_in {j m z : Nat} (h : j < m) : j * z + z ≤ m * z := by rw [← Nat.succ_mul]; exact Nat.mul_le_mul_right z h
theorem flat_drop {ρ : Rho} {n : IE} {l : RL} {z j : Nat} (hw : l.wd z = true) (hj : (j : Int) < n.den ρ) {o s : Nat} (ho : o + s ≤ z) : ((rowsD ρ n l).flatten.drop (j * z + o)).take s = ((l.row ρ j).drop o).take s := by
  apply List.ext_getElem?
  intro i
  rw [List.getElem?_take, List.getElem?_take]
  split
  · rename_i hi
    rw [List.getElem?_drop, List.getElem?_drop, Nat.add_assoc, flat_row hw hj (by omega)]
  · rfl
theorem rd_flat {ρ : Rho} {n : IE} {l : RL} {z j : Nat} (hw : l.wd z = true) (hj : (j : Int) < n.den ρ) {o s : Nat} (ho : o + s ≤ z) (hz : o < z) (b : Option Bool) {v : AV} (h : rdN b s (l.row ρ j) o = some v) : rdN b s (rowsD ρ n l).flatten (j * z + o) = some v := by
  match b, h with
  | some true, h =>
    simp only [rdN] at h ⊢
    split at h
    · rename_i hc
      have := row_in (z := z) (show j < (n.den ρ).toNat by omega)
      rw [if_pos ⟨hc.1, by rw [rowsD_flat hw]; omega⟩, flat_drop hw hj ho]
      exact h
    · cases h
  | some false, h =>
    simp only [rdN] at h ⊢
    rw [flat_row hw hj hz]; exact h
def loadV (i : TI) (h : XHp) (Φ : Facts) (m : Nm) (z : Nat) (j : IE) (o : Nat) : T X :=
  match rowsAt h m with
  | some (z', n, l) => if (Nat.beq z' z && (Nat.ble (o + i.cells) z && Nat.blt o z)) = true then
      inB Φ j n fun Φ => match l.getF Φ j with
        | some r => retO (rdX i.agg i.cells (ofSc r) o)
        | none => (.fail ["row"])
    else (.fail ["loadV"])
  | none => (.fail ["rowsAt"])
theorem loadV_den {P : Program} {ρ : Rho} {ty : TypeId} {h : XHp} {Φ : Facts} {m : Nm} {z : Nat} {j : IE} {o : Nat} {v : X} (hk : Facts.ok ρ Φ) (hv : (loadV (tiOf P ty) h Φ m z j o).sel ρ = some v) : loadN P (denH ρ h) ty ((X.ptrv m z j o).den ρ) = some (v.den ρ) := by
  unfold loadV at hv
  split at hv
  · rename_i z' n l hr
    split at hv
    · rename_i hc
      simp only [Bool.and_eq_true, Nat.ble_eq, Nat.blt_eq] at hc
      have hz := Nat.eq_of_beq_eq_true hc.1
      subst hz
      obtain ⟨Φ', t, hk', he, hj, hv⟩ := sel_inB hk hv
      obtain ⟨hg, hw⟩ := rowsAt_den (ρ := ρ) hr
      split at hv
      · rename_i r hget
        have h1 := rdX_den (ρ := ρ) (sel_retO hv)
        rw [ofSc_den, RL.getF_den hk' hget, he] at h1
        have hcells : (tiOf P ty).cells = P.cellsOf ty := rfl
        have hagg : (tiOf P ty).agg = aggT P ty := rfl
        rw [hcells, hagg] at h1
        simp only [X.den, loadN, hg, rdO, he, Int.toNat_natCast]
        exact rd_flat hw hj (by have := hc.2.1; rw [hcells] at this; exact this) hc.2.2 _ h1
      · cases hv
    · cases hv
  · cases hv
def mkUpd (j : IE) (r : List Sc) : RL → RL
  | .upd i q a => if i.beq j = true then .upd j r a else .upd j r (.upd i q a)
  | a => .upd j r a
theorem mkUpd_row (ρ : Rho) (j : IE) (r : List Sc) (a : RL) (k : Int) : (mkUpd j r a).row ρ k = if k = j.den ρ then scL ρ r else a.row ρ k := by
  unfold mkUpd
  split
  · split
    · rename_i i q b hb
      have := IE.beq_eq _ _ hb
      subst this
      simp only [RL.row]
      split <;> rfl
    · rfl
  · rfl
theorem splice_get {cs ys : List AV} {o : Nat} (ho : o ≤ cs.length) (i : Nat) : (spliceL cs o ys)[i]? = if i < o then cs[i]? else if i < o + ys.length then ys[i - o]? else cs[i]? := by
  unfold spliceL
  have hl : (cs.take o).length = o := by rw [List.length_take]; omega
  by_cases h1 : i < o
  · rw [List.getElem?_append_left (by omega), List.getElem?_take, if_pos h1, if_pos h1]
  · rw [List.getElem?_append_right (by omega), hl, if_neg h1]
    by_cases h2 : i < o + ys.length
    · rw [List.getElem?_append_left (by omega), if_pos h2]
    · rw [List.getElem?_append_right (by omega), if_neg h2, List.getElem?_drop, show o + ys.length + (i - o - ys.length) = i from by omega]
theorem splice_flat {ρ : Rho} {n : IE} {l : RL} {z j : Nat} (hw : l.wd z = true) (hj : (j : Int) < n.den ρ) {o : Nat} {ys : List AV} (ho : o + ys.length ≤ z) {m : RL} (hmw : m.wd z = true)
    (hm : ∀ k : Int, m.row ρ k = if k = j then spliceL (l.row ρ j) o ys else l.row ρ k) : spliceL (rowsD ρ n l).flatten (j * z + o) ys = (rowsD ρ n m).flatten := by
  have hin := row_in (z := z) (show j < (n.den ρ).toNat by omega)
  have hF := rowsD_flat (ρ := ρ) (n := n) hw
  have hG := rowsD_flat (ρ := ρ) (n := n) hmw
  apply List.ext_getElem?
  intro i
  rw [splice_get (by omega)]
  by_cases hi : i < (n.den ρ).toNat * z
  · have hz : 0 < z := by
      rcases Nat.eq_zero_or_pos z with h0 | h0
      · subst h0; simp at hi
      · exact h0
    obtain ⟨q, k, hk, rfl⟩ : ∃ q k, k < z ∧ i = q * z + k := ⟨i / z, i % z, Nat.mod_lt _ hz, by rw [Nat.mul_comm]; exact (Nat.div_add_mod i z).symm⟩
    have hq : (q : Int) < n.den ρ := by
      have : q < (n.den ρ).toNat := by
        rcases Nat.lt_or_ge q (n.den ρ).toNat with h | h
        · exact h
        · have := Nat.mul_le_mul_right z h; omega
      omega
    rw [flat_row hmw hq hk, hm, flat_row hw hq hk]
    by_cases hqj : q = j
    · subst hqj
      rw [if_pos rfl, splice_get (by rw [RL.wd_len hw]; omega)]
      by_cases h1 : k < o
      · rw [if_pos (by omega), if_pos h1]
      · rw [if_neg (by omega), if_neg h1]
        by_cases h2 : k < o + ys.length
        · rw [if_pos (by omega), if_pos h2, show q * z + k - (q * z + o) = k - o from by omega]
        · rw [if_neg (by omega), if_neg h2]
    · rw [if_neg (show ¬ ((q : Nat) : Int) = j by omega)]
      rcases Nat.lt_or_ge q j with h | h
      · have := row_in (z := z) h
        rw [if_pos (by omega)]
      · have := row_in (z := z) (show j < q by omega)
        rw [if_neg (by omega), if_neg (by omega)]
  · rw [if_neg (by omega), if_neg (by omega), List.getElem?_eq_none (by omega), List.getElem?_eq_none (by omega)]
def storeV (i : TI) (h : XHp) (Φ : Facts) (m : Nm) (z : Nat) (j : IE) (o : Nat) (ys : List X) : T XDl :=
  match rowsAt h m with
  | some (z', n, l) => if (Nat.beq z' z && (Nat.ble (o + i.cells) z && (Nat.beq ys.length i.cells && (Nat.blt 0 i.cells && ys.all X.one)))) = true then
      inB Φ j n fun Φ => match l.getF Φ j with
        | some r => match toScs (spliceX (ofSc r) o ys) with
          | some r' => if (mkUpd j r' l).wd z = true then .ret [(m, some [.rows z n (mkUpd j r' l)])] else (.fail ["wd"])
          | none => (.fail ["scs"])
        | none => (.fail ["row"])
    else (.fail ["storeV"])
  | none => (.fail ["rowsAt"])
theorem storeV_den {P : Program} {ρ : Rho} {ty : TypeId} {h : XHp} {Φ : Facts} {m : Nm} {z : Nat} {j : IE} {o : Nat} {ys : List X} {d : XDl} (hk : Facts.ok ρ Φ) (hv : (storeV (tiOf P ty) h Φ m z j o ys).sel ρ = some d) :
    ys.all X.one = true ∧ storeN P (denH ρ h) ty ((X.ptrv m z j o).den ρ) (X.denL ρ ys) = some (denD ρ d) := by
  unfold storeV at hv
  split at hv
  · rename_i z' n l hr
    split at hv
    · rename_i hc
      simp only [Bool.and_eq_true, Nat.ble_eq, Nat.blt_eq] at hc
      obtain ⟨hz, h1, h2, h3, h4⟩ := hc
      have hz := Nat.eq_of_beq_eq_true hz
      subst hz
      have h2 := Nat.eq_of_beq_eq_true h2
      have hcells : (tiOf P ty).cells = P.cellsOf ty := rfl
      rw [hcells] at h1 h2 h3
      obtain ⟨Φ', t, hk', he, hj, hv⟩ := sel_inB hk hv
      obtain ⟨hg, hw⟩ := rowsAt_den (ρ := ρ) hr
      split at hv
      · rename_i r hget
        split at hv
        · rename_i r' hs
          split at hv
          · rename_i hmw
            cases hv
            refine ⟨h4, ?_⟩
            simp only [X.den, storeN, hg, wrN, X.denL_len, he, Int.toNat_natCast]
            have hin := row_in (z := z') (show t < (n.den ρ).toNat by omega)
            rw [if_pos ⟨h3, h2, by rw [rowsD_flat hw]; omega, X.all_one ρ _ h4⟩]
            have hsp : scL ρ r' = spliceL (l.row ρ t) o (X.denL ρ ys) := by
              rw [toScs_den hs, spliceX_den, ofSc_den, RL.getF_den hk' hget, he]
            rw [splice_flat hw hj (by rw [X.denL_len]; omega) hmw (fun k => by rw [mkUpd_row, he, hsp])]
            rfl
          · cases hv
        · cases hv
      · cases hv
    · cases hv
  · cases hv
def idxV (i : TI) (h : XHp) (Φ : Facts) (m : Nm) (z : Nat) (off len e : IE) : T X :=
  match i.sl with
  | some (_, z') => if (Nat.beq z' z && okPtr h m) = true then want Φ (mkNot (mkLt off (.lit 0))) fun Φ => inB Φ e len fun _ => .ret (.ptrv m z (mkAdd off e) 0) else (.fail ["idxV"])
  | none => (.fail ["idxV"])
theorem idxV_den {P : Program} {ρ : Rho} {ty : TypeId} {h : XHp} {Φ : Facts} {m : Nm} {z : Nat} {off len e : IE} {own : Bool} {k : IntKind} {v : X} (hk : Facts.ok ρ Φ) (hv : (idxV (tiOf P ty) h Φ m z off len e).sel ρ = some v) :
    idxAddrN P (denH ρ h) ty ((X.slv m z off len own).den ρ) (.sc (.int k (e.den ρ))) = some (v.den ρ) := by
  unfold idxV at hv
  split at hv
  · rename_i ee z' hs
    have hs' : slT P ty = some (ee, z') := hs
    split at hv
    · rename_i hc
      simp only [Bool.and_eq_true] at hc
      have hz := Nat.eq_of_beq_eq_true hc.1
      subst hz
      obtain ⟨Φ1, hk1, c1, hv⟩ := sel_want hk hv
      obtain ⟨Φ', t, _, he, hj, hv⟩ := sel_inB hk1 hv
      cases hv
      have c1 := not_lt_den c1
      simp only [IE.den] at c1
      simp only [X.den, idxAddrN, iaS, hs', okPtr_den hc.2, he, Int.toNat_natCast, mkAdd_den]
      rw [if_pos ⟨trivial, trivial, by omega, by omega⟩]
      simp only [Nat.add_zero]
      congr 2
      rw [show (off.den ρ + (t : Int)).toNat = (off.den ρ).toNat + t from by omega, Nat.add_mul]
    · cases hv
  · cases hv
def sliceV (i : TI) (h : XHp) (Φ : Facts) (m : Nm) (z : Nat) (off len : IE) (own : Bool) (lo hi : IE) : T X :=
  match i.sl with
  | some (_, z') => if (Nat.beq z' z && okPtr h m) = true then
      want Φ (mkNot (mkLt off (.lit 0))) fun Φ => want Φ (mkNot (mkLt lo (.lit 0))) fun Φ => want Φ (mkNot (mkLt (mkSub hi lo) (.lit 0))) fun Φ => want Φ (mkNot (mkLt len hi)) fun _ =>
        .ret (.slv m z (mkAdd off lo) (mkSub hi lo) own)
    else (.fail ["sliceV"])
  | none => (.fail ["sliceV"])
theorem sliceV_den {P : Program} {ρ : Rho} {ty : TypeId} {h : XHp} {Φ : Facts} {m : Nm} {z : Nat} {off len : IE} {own : Bool} {lo hi : Option X} {l r : IE} {v : X} (hk : Facts.ok ρ Φ) (hl : bndX lo (.lit 0) = some l) (hr : bndX hi len = some r)
    (hv : (sliceV (tiOf P ty) h Φ m z off len own l r).sel ρ = some v) : sliceN P (denH ρ h) ty ((X.slv m z off len own).den ρ) (lo.map (X.den ρ)) (hi.map (X.den ρ)) none = some (v.den ρ) := by
  unfold sliceV at hv
  split at hv
  · rename_i ee z' hs
    have hs' : slT P ty = some (ee, z') := hs
    split at hv
    · rename_i hc
      simp only [Bool.and_eq_true] at hc
      have hz := Nat.eq_of_beq_eq_true hc.1
      subst hz
      obtain ⟨Φ1, hk1, c1, hv⟩ := sel_want hk hv
      obtain ⟨Φ2, hk2, c2, hv⟩ := sel_want hk1 hv
      obtain ⟨Φ3, hk3, c3, hv⟩ := sel_want hk2 hv
      obtain ⟨Φ4, hk4, c4, hv⟩ := sel_want hk3 hv
      cases hv
      have c1 := not_lt_den c1
      have c2 := not_lt_den c2
      have c3 := not_lt_den c3
      have c4 := not_lt_den c4
      rw [mkSub_den] at c3
      simp only [IE.den] at c1 c2 c3
      obtain ⟨a, ha2⟩ : ∃ a : Nat, l.den ρ = a := ⟨(l.den ρ).toNat, by omega⟩
      obtain ⟨b, hb2⟩ : ∃ b : Nat, r.den ρ = b := ⟨(r.den ρ).toNat, by omega⟩
      have e1 := bndX_den (ρ := ρ) hl (dn := 0) (by simp [IE.den]) ha2
      have e2 := bndX_den (ρ := ρ) hr (dn := (len.den ρ).toNat) (by omega) hb2
      simp only [sliceN, e1, X.den, topN, e2, slN, hs', okPtr_den hc.2]
      rw [if_pos ⟨trivial, trivial, by omega, by omega⟩]
      simp only [mkAdd_den, mkSub_den, ha2, hb2, Option.some.injEq, AV.sl.injEq, true_and, and_true]
      exact ⟨by rw [show (off.den ρ + (a : Int)).toNat = (off.den ρ).toNat + a from by omega, Nat.add_mul], by omega⟩
    · cases hv
  · cases hv
def lenV (i : TI) (h : XHp) (Φ : Facts) (m : Nm) (len : IE) : T X :=
  if (i.sl.isSome && okPtr h m) = true then want Φ (mkNot (mkLt len (.lit 0))) fun _ => .ret (.sc (.i .i64 len)) else (.fail ["lenV"])
theorem lenV_den {P : Program} {ρ : Rho} {ty : TypeId} {h : XHp} {Φ : Facts} {m : Nm} {z : Nat} {off len : IE} {own : Bool} {v : X} (hk : Facts.ok ρ Φ) (hv : (lenV (tiOf P ty) h Φ m len).sel ρ = some v) : lenN (lenT P (denH ρ h) ty ((X.slv m z off len own).den ρ)) = some (v.den ρ) := by
  unfold lenV at hv
  split at hv
  · rename_i hs
    simp only [Bool.and_eq_true] at hs
    have hs' : (slT P ty).isSome = true := hs.1
    obtain ⟨_, _, h1, hv⟩ := sel_want hk hv
    cases hv
    have h1 := not_lt_den h1
    simp only [IE.den] at h1
    simp only [X.den, lenT, hs', okPtr_den hs.2, and_self, if_true, lenN, Sc.den]
    congr 3
    omega
  · cases hv
/-- What is appended, of an object of rows too. -/
def elemsT (h : XHp) (Φ : Facts) (z : Nat) : X → T Rows
  | .slv m z' off len _ => match rowsAt h m with
    | some (w, n, l) => if (Nat.beq z' z && Nat.beq w z) = true then
        want Φ (mkNot (mkLt off (.lit 0))) fun Φ => want Φ (mkNot (mkLt len (.lit 0))) fun Φ => want Φ (mkNot (mkLt n (mkAdd off len))) fun _ =>
          .ret (.r len (match off with | .lit 0 => l | off => .drop off l))
      else (.fail ["elemsT"])
    | none => (.fail ["rowsAt"])
  | x => retO (elemsX h z x)
theorem chunk_eq {z : Nat} : ∀ (es : List (List AV)) (k : Nat), (∀ (j : Nat) (e : List AV), es[j]? = some e → e.length = z) → k ≤ es.length → chunk z k es.flatten = es.take k
  | _, 0, _, _ => by simp [chunk]
  | [], k + 1, _, h => by simp at h
  | e :: es, k + 1, h, hk => by
    have h0 := h 0 e rfl
    simp only [chunk, List.flatten_cons, List.take_succ_cons]
    rw [List.take_append_of_le_length (by omega), List.take_of_length_le (by omega), ← h0, List.drop_append_of_le_length (Nat.le_refl _), List.drop_length, List.nil_append, h0,
      chunk_eq es k (fun j e' hj => h (j + 1) e' (by simpa using hj)) (by simpa using hk)]
theorem flat_drop_rows {z : Nat} : ∀ (k : Nat) (es : List (List AV)), (∀ (j : Nat) (e : List AV), es[j]? = some e → e.length = z) → es.flatten.drop (k * z) = (es.drop k).flatten
  | 0, es, _ => by simp
  | k + 1, [], _ => by simp
  | k + 1, e :: es, h => by
    have h0 := h 0 e rfl
    rw [List.flatten_cons, List.drop_succ_cons, Nat.succ_mul, Nat.add_comm, ← List.drop_drop, ← h0, List.drop_append_of_le_length (Nat.le_refl _), List.drop_length, List.nil_append, h0]
    exact flat_drop_rows k es (fun j e' hj => h (j + 1) e' (by simpa using hj))
theorem elemsT_den {ρ : Rho} {h : XHp} {Φ : Facts} {z : Nat} {x : X} {r : Rows} (hk : Facts.ok ρ Φ) (he : (elemsT h Φ z x).sel ρ = some r) : elemsA (denH ρ h) z (x.den ρ) = some (r.den ρ) := by
  unfold elemsT at he
  split at he
  · split at he
    · rename_i m z' off len own oo w n l hr
      split at he
      · rename_i hc
        simp only [Bool.and_eq_true] at hc
        have hz1 := Nat.eq_of_beq_eq_true hc.1
        have hz2 := Nat.eq_of_beq_eq_true hc.2
        subst hz1 hz2
        obtain ⟨Φ1, hk1, c1, he⟩ := sel_want hk he
        obtain ⟨Φ2, hk2, c2, he⟩ := sel_want hk1 he
        obtain ⟨Φ3, hk3, c3, he⟩ := sel_want hk2 he
        cases he
        have c1 := not_lt_den c1
        have c2 := not_lt_den c2
        have c3 := not_lt_den c3
        rw [mkAdd_den] at c3
        simp only [IE.den] at c1 c2
        obtain ⟨a, ha⟩ : ∃ a : Nat, off.den ρ = a := ⟨(off.den ρ).toNat, by omega⟩
        obtain ⟨b, hb⟩ : ∃ b : Nat, len.den ρ = b := ⟨(len.den ρ).toNat, by omega⟩
        obtain ⟨c, hcn⟩ : ∃ c : Nat, n.den ρ = c := ⟨(n.den ρ).toNat, by omega⟩
        obtain ⟨hg, hw⟩ := rowsAt_den (ρ := ρ) hr
        have hle : a + b ≤ c := by omega
        have h2 : (a + b) * w ≤ c * w := Nat.mul_le_mul_right w hle
        rw [Nat.add_mul] at h2
        simp only [X.den, elemsA, hg, Option.bind_some, ha, hb, Int.toNat_natCast, rowsD_flat hw, hcn]
        rw [if_pos ⟨trivial, h2⟩, flat_drop_rows a _ (fun j e h => rowsD_len hw j e h), chunk_eq _ _ (fun j e h => rowsD_len hw (a + j) e (by rw [List.getElem?_drop] at h; exact h)) (by rw [List.length_drop, rowsD_count]; omega)]
        simp only [Rows.den, Option.some.injEq]
        apply List.ext_getElem?
        intro j
        rw [List.getElem?_take, List.getElem?_drop]
        by_cases hj : j < b
        · rw [if_pos hj, rowsD_get (by omega), rowsD_get (by omega)]
          congr 1
          split
          · simp only [IE.den] at ha
            rw [show a + j = j from by omega]
          · simp only [RL.row, ha]
            congr 1
            omega
        · rw [if_neg hj, List.getElem?_eq_none (by rw [rowsD_count]; omega)]
      · cases he
    · cases he
  · exact elemsX_den (sel_retO he)
def Rows.toR : Rows → Option Rows
  | .c es => (toRL es).map fun m => .r (.lit es.length) m
  | .r n l => some (.r n l)
theorem Rows.toR_den {ρ : Rho} {a b : Rows} (h : a.toR = some b) : b.den ρ = a.den ρ ∧ b.len = a.len := by
  cases a with
  | c es =>
    obtain ⟨m, hm, rfl⟩ := Option.map_eq_some_iff.1 h
    exact ⟨toRL_den hm, rfl⟩
  | r n l => cases h; exact ⟨rfl, rfl⟩
def Rows.cut (Φ : Facts) (len off : IE) (l : RL) : Rows :=
  match red Φ (mkEq len (.lit 0)) with
  | .lit true => .c []
  | _ => .r len (.drop off l)
theorem rows_drop {ρ : Rho} {n len off : IE} {l : RL} (h0 : 0 ≤ off.den ρ) (h1 : 0 ≤ len.den ρ) (hn : n.den ρ = off.den ρ + len.den ρ) : (rowsD ρ n l).drop (off.den ρ).toNat = rowsD ρ len (.drop off l) := by
  obtain ⟨a, ha⟩ : ∃ a : Nat, off.den ρ = a := ⟨(off.den ρ).toNat, by omega⟩
  obtain ⟨b, hb⟩ : ∃ b : Nat, len.den ρ = b := ⟨(len.den ρ).toNat, by omega⟩
  apply List.ext_getElem?
  intro j
  rw [List.getElem?_drop, ha, Int.toNat_natCast]
  by_cases hj : j < b
  · rw [rowsD_get (by omega), rowsD_get (by omega)]
    simp only [RL.row, ha]
    congr 2
    omega
  · rw [List.getElem?_eq_none (by rw [rowsD_count]; omega), List.getElem?_eq_none (by rw [rowsD_count]; omega)]
theorem Rows.cut_den {ρ : Rho} {Φ : Facts} (hk : Facts.ok ρ Φ) {n len off : IE} {l : RL} (h0 : 0 ≤ off.den ρ) (h1 : 0 ≤ len.den ρ) (hn : n.den ρ = off.den ρ + len.den ρ) : (Rows.cut Φ len off l).den ρ = (rowsD ρ n l).drop (off.den ρ).toNat ∧ (Rows.cut Φ len off l).len.den ρ = len.den ρ := by
  unfold Rows.cut
  split
  · rename_i he
    have := red_den hk (mkEq len (.lit 0))
    rw [he, mkEq_den] at this
    have hz : len.den ρ = 0 := by
      have := of_decide_eq_true this.symm
      exact this
    constructor
    · rw [rows_drop h0 h1 hn]; simp [Rows.den, X.denE, rowsD, hz]
    · simp [Rows.len, IE.den, hz]
  · exact ⟨(rows_drop h0 h1 hn).symm, rfl⟩
/-- Onto a slice of an object of rows, up to its end. -/
def apV (n z b : Nat) (h : XHp) (Φ : Facts) (fs : Rows) (m : Nm) (w : Nat) (off len : IE) (own : Bool) : T (X × XDl) :=
  match rowsAt h m with
  | some (w', n', l) => if (Nat.beq w z && (Nat.beq w' z && own)) = true then
      (if (off.beq (.lit 0) && n'.beq len) = true then
        okLen Φ (.r len l) fs b fun _ => if rowsOne fs = true then retO (rowsNew n z [(m, none)] (.r len l) fs) else (.fail ["one"])
      else want Φ (mkNot (mkLt off (.lit 0))) fun Φ => want Φ (mkEq n' (mkAdd off len)) fun Φ => want Φ (mkNot (mkLt len (.lit 0))) fun Φ =>
        match fs.toR with
        | some fs => okLen Φ (Rows.cut Φ len off l) fs b fun _ => if rowsOne fs = true then retO (rowsNew n z [(m, none)] (Rows.cut Φ len off l) fs) else (.fail ["one"])
        | none => (.fail ["toR"]))
    else (.fail ["apV"])
  | none => (.fail ["rowsAt"])
/-- Onto a slice of an object of which each cell is told. -/
def apC (n z b : Nat) (Φ : Facts) (cs : List X) (fs : Rows) (m : Nm) (w off len : Nat) (own : Bool) : T (X × XDl) :=
  if (Nat.beq w z && (own && Nat.beq cs.length (off + len * z))) = true then
    okLen Φ (.c (chunkX z len (cs.drop off))) fs b fun _ => if rowsOne fs = true then retO (rowsNew n z [(m, none)] (.c (chunkX z len (cs.drop off))) fs) else (.fail ["one"])
  else (.fail ["apC"])
theorem apV_den {P : Program} {ρ : Rho} {n z : Nat} {mu : Bool} {e : TypeId} {h : XHp} {Φ : Facts} (hk : Facts.ok ρ Φ) {fs : Rows} {m : Nm} {w : Nat} {off len : IE} {own : Bool} {r : X × XDl} (hv : (apV n z (bytesT P e) h Φ fs m w off len own).sel ρ = some r) :
    apN P n (denH ρ h) mu e z ((X.slv m w off len own).den ρ) (some (fs.den ρ)) = some (r.1.den ρ, denD ρ r.2) := by
  unfold apV at hv
  split at hv
  · rename_i w' n' l hr
    split at hv
    · rename_i hc
      simp only [Bool.and_eq_true] at hc
      obtain ⟨g1, g2, g4⟩ := hc
      have g1 := Nat.eq_of_beq_eq_true g1
      have g2 := Nat.eq_of_beq_eq_true g2
      subst g1 g2
      obtain ⟨hg, hw⟩ := rowsAt_den (ρ := ρ) hr
      split at hv
      · rename_i hc
        simp only [Bool.and_eq_true] at hc
        obtain ⟨g3, g5⟩ := hc
        have g3 := IE.beq_eq _ _ g3
        have g5 := IE.beq_eq _ _ g5
        subst g3 g5
        obtain ⟨Φ', _, la, lb, c1, c2, hv⟩ := sel_okLen hk hv
        split at hv
        · rename_i hone
          have hn := rowsNew_den la lb (sel_retO hv)
          have hl : (rowsD ρ n' l).length = (n'.den ρ).toNat := rowsD_count ρ n' l
          simp only [Rows.den] at c1 c2 hn
          have z0 : (IE.lit 0).den ρ = 0 := rfl
          simp only [X.den, apN, hg, z0, Int.toNat_zero, Nat.zero_mul]
          rw [if_pos ⟨trivial, g4⟩]
          simp only [apS]
          rw [if_pos ⟨by rw [rowsD_flat hw, Nat.zero_add], rowsOne_den hone, by rw [← hl]; exact c1, by rw [← hl]; exact c2⟩, List.drop_zero, hn, hl]
          rfl
        · cases hv
      · obtain ⟨Φ1, hk1, c1, hv⟩ := sel_want hk hv
        obtain ⟨Φ2, hk2, c2, hv⟩ := sel_want hk1 hv
        obtain ⟨Φ3, hk3, c3, hv⟩ := sel_want hk2 hv
        have c1 := not_lt_den c1
        rw [mkEq_den] at c2
        have c2 := of_decide_eq_true c2
        have c3 := not_lt_den c3
        rw [mkAdd_den] at c2
        have z0 : (IE.lit 0).den ρ = 0 := rfl
        rw [z0] at c1 c3
        have c1 : 0 ≤ off.den ρ := by omega
        have c3 : 0 ≤ len.den ρ := by omega
        split at hv
        · rename_i gs hgs
          have hgd := Rows.toR_den (ρ := ρ) hgs
          have hcd := Rows.cut_den (l := l) hk3 c1 c3 c2
          obtain ⟨Φ', _, la, lb, d1, d2, hv⟩ := sel_okLen hk3 hv
          split at hv
          · rename_i hone
            have hn := rowsNew_den la lb (sel_retO hv)
            have hl : ((rowsD ρ n' l).drop (off.den ρ).toNat).length = (len.den ρ).toNat := by rw [List.length_drop, rowsD_count]; omega
            have hone := rowsOne_den (ρ := ρ) hone
            rw [hcd.1, hgd.1, hl] at d1 d2 hn
            rw [hgd.1] at hone
            simp only [X.den, apN, hg]
            rw [if_pos ⟨trivial, g4⟩]
            simp only [apS]
            have hfl : (rowsD ρ n' l).flatten.length = (off.den ρ).toNat * w' + (len.den ρ).toNat * w' := by rw [rowsD_flat hw, ← Nat.add_mul]; congr 1; omega
            rw [if_pos ⟨hfl, hone, d1, d2⟩, flat_drop_rows _ _ (fun j e h => rowsD_len hw j e h), hn]
            rfl
          · cases hv
        · cases hv
    · cases hv
  · cases hv
theorem apC_den {P : Program} {ρ : Rho} {n z : Nat} {mu : Bool} {e : TypeId} {h : XHp} {Φ : Facts} (hk : Facts.ok ρ Φ) {cs : List X} {fs : Rows} {m : Nm} {w off len : Nat} {own : Bool} {r : X × XDl} (hg : hgetX h m = some cs) (hv : (apC n z (bytesT P e) Φ cs fs m w off len own).sel ρ = some r) :
    apN P n (denH ρ h) mu e z (.sl m w off len own) (some (fs.den ρ)) = some (r.1.den ρ, denD ρ r.2) := by
  unfold apC at hv
  split at hv
  · rename_i hc
    simp only [Bool.and_eq_true] at hc
    obtain ⟨g1, g3, g4⟩ := hc
    have g1 := Nat.eq_of_beq_eq_true g1
    have g4 := Nat.eq_of_beq_eq_true g4
    subst g1
    obtain ⟨Φ', _, la, lb, c1, c2, hv⟩ := sel_okLen hk hv
    split at hv
    · rename_i hone
      have hn := rowsNew_den la lb (sel_retO hv)
      have hcl : (X.denL ρ cs).length = off + len * w := by rw [X.denL_len]; exact g4
      have hf : (X.denE ρ (chunkX w len (cs.drop off))).flatten = (X.denL ρ cs).drop off := by rw [chunkX_den, X.denL_drop]; exact chunk_flatten w len _ (by rw [List.length_drop, hcl]; omega)
      have hl : (X.denE ρ (chunkX w len (cs.drop off))).length = len := by rw [chunkX_den, chunk_length]
      simp only [Rows.den, hf, hl] at c1 c2 hn
      simp only [apN, hget_denH hg]
      rw [if_pos ⟨trivial, g3⟩]
      simp only [apS]
      rw [if_pos ⟨hcl, rowsOne_den hone, c1, c2⟩, hn]
      rfl
    · cases hv
  · cases hv
def apSX (n : Nat) (mu : Bool) (z b : Nat) (h : XHp) (Φ : Facts) (fs : Rows) : X → T (X × XDl)
  | .sl m w off len own => match hgetX h m, fs with
    | some cs, .c fs => retO (apSl n z b m w off len own cs fs)
    | some cs, fs => apC n z b Φ cs fs m w off len own
    | _, _ => (.fail [])
  | .slv m w off len own => apV n z b h Φ fs m w off len own
  | s => match baseX z s with
    | some es => apBase n mu z b Φ es fs
    | none => (.fail [])
theorem apN_base {P : Program} {n : Nat} {h : Hp} {mu : Bool} {e : TypeId} {z : Nat} {s : AV} {fs : List (List AV)} (hs : ∀ m w off len own, s ≠ .sl m w off len own) : apN P n h mu e z s (some fs) = apO n mu z (bytesT P e) fs (baseRo z s) := by
  cases s <;> first | rfl | exact absurd rfl (hs _ _ _ _ _)
theorem apSX_den {P : Program} {ρ : Rho} {n z : Nat} {mu : Bool} {e : TypeId} {h : XHp} {Φ : Facts} (hk : Facts.ok ρ Φ) {fs : Rows} {s : X} {r : X × XDl} (hv : (apSX n mu z (bytesT P e) h Φ fs s).sel ρ = some r) :
    apN P n (denH ρ h) mu e z (s.den ρ) (some (fs.den ρ)) = some (r.1.den ρ, denD ρ r.2) := by
  unfold apSX at hv
  split at hv
  · split at hv
    · exact apSl_den (by assumption) (sel_retO hv)
    · exact apC_den hk (by assumption) hv
    · cases hv
  · exact apV_den hk hv
  · rename_i hs hs2
    rw [apN_base (fun m w off len own hh => by
      cases s with
      | sl _ _ _ _ _ => exact hs _ _ _ _ _ rfl
      | slv _ _ _ _ _ => exact hs2 _ _ _ _ _ rfl
      | gd c x => simp [baseX, T.sel] at hv
      | _ => simp only [X.den, reduceCtorEq] at hh)]
    split at hv
    · rename_i es hes
      rw [baseX_den hes]
      exact apBase_den hk hv
    · cases hv
def appX (n : Nat) (mu : Bool) (i ix : TI) (ti : Nat → Option TI) (h : XHp) (Φ : Facts) (s x : X) : T (X × XDl) :=
  match i.sl, ix.sl with
  | some (e, z), some (e', z') => match ti e with
    | some ie => if (Nat.beq e e' && (Nat.beq z z' && zokI ie z)) = true then
        (elemsT h Φ z x).bind Φ fun Φ fs => apSX n mu z ie.by_ h Φ fs s
      else (.fail [])
    | none => (.fail [])
  | _, _ => (.fail [])
theorem appX_den {P : Program} {ρ : Rho} {n : Nat} {mu : Bool} {ty xt : TypeId} {ti : Nat → Option TI} (hti : TIs.ok P ti) {h : XHp} {Φ : Facts} (hk : Facts.ok ρ Φ) {s x : X} {r : X × XDl}
    (hv : (appX n mu (tiOf P ty) (tiOf P xt) ti h Φ s x).sel ρ = some r) : appendN P n (denH ρ h) mu ty xt (s.den ρ) (x.den ρ) = some (r.1.den ρ, denD ρ r.2) := by
  unfold appX at hv
  split at hv
  · rename_i e z e' z' h1 h2
    have h1' : slT P ty = some (e, z) := h1
    have h2' : slT P xt = some (e', z') := h2
    split at hv
    · rename_i ie hie
      have hie := hti _ _ hie
      subst hie
      split at hv
      · rename_i hc
        simp only [Bool.and_eq_true] at hc
        have he := Nat.eq_of_beq_eq_true hc.1
        have hz := Nat.eq_of_beq_eq_true hc.2.1
        subst he hz
        simp only [appendN, h1', h2', zokI_eq hc.2.2]
        rw [if_pos ⟨trivial, trivial⟩]
        obtain ⟨Φ', fs, hk', hf, hv⟩ := T.sel_bind _ hk hv
        rw [elemsT_den hk hf]
        exact apSX_den hk' hv
      · cases hv
    · cases hv
  · cases hv
/-! ### Copy -/
def copyX (i : TI) (h : XHp) (s x : X) : Option (X × XDl) :=
  match i.sl with
  | some (_, z) => match s, elemsX h z x with
    | .sl m w off len _, some (.c fs) => match hgetX h m with
      | some cs => if (Nat.beq w z && (Nat.ble fs.length len && (Nat.ble (off + fs.length * z) cs.length && ((flatX fs).all X.one && !isRows (spliceX cs off (flatX fs)))))) = true then
          some (.sc (.i .i64 (.lit fs.length)), [(m, some (spliceX cs off (flatX fs)))]) else none
      | none => none
    | _, _ => none
  | none => none
theorem copyX_den {P : Program} {ρ : Rho} {ty : TypeId} {h : XHp} {s x : X} {r : X × XDl} (hv : copyX (tiOf P ty) h s x = some r) : copyN P (denH ρ h) ty (s.den ρ) (x.den ρ) = some (r.1.den ρ, denD ρ r.2) := by
  unfold copyX at hv
  split at hv
  · rename_i e z hs
    have hs' : slT P ty = some (e, z) := hs
    split at hv
    · rename_i m w off len own fs he
      split at hv
      · rename_i cs hg
        split at hv
        · rename_i hc
          simp only [Bool.and_eq_true, Nat.ble_eq] at hc
          obtain ⟨g1, g2, g3, g4, g5⟩ := hc
          have g1 := Nat.eq_of_beq_eq_true g1
          subst g1
          cases hv
          have hl : (X.denE ρ fs).length = fs.length := by simp [X.denE_eq]
          have he' := elemsX_den (ρ := ρ) he
          simp only [copyN, hs', he', Rows.den, X.den, hget_denH hg, hl, X.denL_len, ← flatX_den]
          rw [if_pos ⟨trivial, g2, g3, X.all_one ρ _ g4⟩]
          simp only [Sc.den, IE.den, denD, List.map_cons, List.map_nil, Option.map_some, denO_of (ρ := ρ) (show isRows (spliceX cs off (flatX fs)) = false by simpa using g5), spliceX_den]
        · cases hv
      · cases hv
    · cases hv
  · cases hv
end Go.Proofs.Xw

/- Symbolic runs, part 7: one step. -/
namespace Go.Proofs.Xw
open Go Go.Proofs.Aw

/-! ### One step -/
def evX (g : Nat → X) : Operand → X
  | .tmp i => g i
  | .const v => ofV v
  | .global a => .k (.pointer (some ⟨a, 0, none⟩))
  | .func f => .fn (.func f) [] []
def evLX (g : Nat → X) : List Operand → List X
  | [] => []
  | x :: xs => evX g x :: evLX g xs
def evPX (g : Nat → X) : List (Nat × Operand) → List (Nat × X)
  | [] => []
  | (i, x) :: xs => (i, evX g x) :: evPX g xs
section
variable {ρ : Rho} {g : Nat → X} {t : Tp} (hg : ∀ i, (g i).den ρ = tget t i)
include hg
theorem evX_den (x : Operand) : (evX g x).den ρ = ev t x := by
  cases x with
  | tmp i => exact hg i
  | const v => exact ofV_den ρ v
  | global a => rfl
  | func f => simp only [evX, X.den, X.denL, ev]
theorem evLX_den : ∀ l : List Operand, X.denL ρ (evLX g l) = evL t l
  | [] => rfl
  | x :: xs => by simp only [evLX, X.denL, evL, evX_den hg x, evLX_den xs]
theorem evPX_den : ∀ l : List (Nat × Operand), denP ρ (evPX g l) = evP t l
  | [] => rfl
  | (i, x) :: xs => by
    have := evPX_den xs
    simp only [denP] at this
    simp only [evPX, denP, List.map_cons, evP, evX_den hg x, this]
end
inductive XR where
  | ok (r : X) (d : XDl)
  | call (f : FuncId) (args : List X)
/-- A value that is there under a condition, where that is decided. -/
def strip (Φ : Facts) : X → X
  | .gd c x => match red Φ c with
    | .lit true => x
    | .lit false => .k undef
    | _ => .gd c x
  | x => x
theorem strip_den {ρ : Rho} {Φ : Facts} (hk : Facts.ok ρ Φ) (x : X) : (strip Φ x).den ρ = x.den ρ := by
  unfold strip
  split
  · rename_i c x
    have hr := red_den hk c
    split
    · rename_i hd; rw [hd] at hr; simp only [X.den, ← hr, BE.den, if_true]
    · rename_i hd; rw [hd] at hr; simp only [X.den, ← hr, BE.den]; rfl
    · rfl
  · rfl
def pickX (Φ : Facts) : X → X → X → Option X
  | .sc (.b e), a, b => match red Φ e with
    | .lit true => some a
    | .lit false => some b
    | d => X.mix d (strip (assume d true Φ) a) (strip (assume d false Φ) b)
  | _, _, _ => none
theorem pickX_den {ρ : Rho} {Φ : Facts} (hk : Facts.ok ρ Φ) {c a b v : X} (h : pickX Φ c a b = some v) : pickN (c.den ρ) (a.den ρ) (b.den ρ) = some (v.den ρ) := by
  unfold pickX at h
  split at h
  · rename_i e
    have hr := red_den hk e
    split at h
    · rename_i hd; cases h; rw [hd] at hr; simp only [X.den, Sc.den, ← hr, BE.den, pickN]
    · rename_i hd; cases h; rw [hd] at hr; simp only [X.den, Sc.den, ← hr, BE.den, pickN]
    · rw [X.mix_den _ _ _ h]
      simp only [X.den, Sc.den]
      by_cases hd : BE.den ρ (red Φ e) = true
      · rw [if_pos hd, strip_den (assume_ok _ true Φ hd hk), ← hr, hd]; rfl
      · have hd' : BE.den ρ (red Φ e) = false := by simpa using hd
        rw [if_neg hd, strip_den (assume_ok _ false Φ hd' hk), ← hr, hd']; rfl
  · cases h
def nilX (h : XHp) : X → Option X
  | .ptr n as d => if okPtr h n = true then some (.ptr n as d) else none
  | .ip cs as d => some (.ip cs as d)
  | .fn (.func f) xs ys => some (.fn (.func f) xs ys)
  | _ => none
theorem nilX_den {ρ : Rho} {h : XHp} {x v : X} (hv : nilX h x = some v) : nilN (denH ρ h) (x.den ρ) = some (v.den ρ) := by
  unfold nilX at hv
  split at hv
  · split at hv
    · rename_i ho; cases hv; simp only [X.den, nilN, okPtr_den ho, if_true]
    · cases hv
  · cases hv; simp only [X.den, nilN]
  · cases hv; simp only [X.den, nilN]
  · cases hv
def nilBX : BinOp → Bool → Option X
  | .eql, b => some (.sc (.b (.lit b)))
  | .neq, b => some (.sc (.b (.lit (!b))))
  | _, _ => none
theorem nilBX_den {ρ : Rho} {op : BinOp} {b : Bool} {v : X} (h : nilBX op b = some v) : nilB op b = some (v.den ρ) := by
  unfold nilBX at h
  split at h <;> first | cases h | skip
  · rfl
  · rfl
/-- A slice against nil. -/
def nilCmpX (t : TI) (h : XHp) (op : BinOp) (x : X) : Option X :=
  match t.sl with
  | some _ => match x with
    | .sl m _ _ _ _ => if okPtr h m = true then nilBX op false else none
    | .slv m _ _ _ _ => if okPtr h m = true then nilBX op false else none
    | .ro _ (_ :: _) _ => nilBX op false
    | .k (.slice none 0 0) => nilBX op true
    | _ => none
  | none => none
theorem nilCmpX_den {P : Program} {ρ : Rho} {ty : TypeId} {h : XHp} {op : BinOp} {x v : X} (hv : nilCmpX (tiOf P ty) h op x = some v) : binRh P (denH ρ h) op ty (x.den ρ) (.sc (.slice none 0 0)) = some (v.den ρ) := by
  unfold nilCmpX at hv
  split at hv
  · rename_i p hs
    have hs' : slT P ty = some p := hs
    have e : ∀ y, binR P op ty y (.sc (.slice none 0 0)) = none := fun y => by
      unfold binR
      split <;> simp_all
    unfold binRh
    rw [e]
    simp only [nilR, hs']
    split at hv
    · split at hv
      · rename_i hm
        simp only [X.den]
        rw [if_pos (okPtr_den hm)]
        exact nilBX_den hv
      · cases hv
    · split at hv
      · rename_i hm
        simp only [X.den]
        rw [if_pos (okPtr_den hm)]
        exact nilBX_den hv
      · cases hv
    · simp only [X.den, X.denE]
      exact nilBX_den hv
    · simp only [X.den]
      exact nilBX_den hv
    · cases hv
  · cases hv
/-- As nilCmpX, with rows that are read only: they are asked to be one at least. -/
def nilCmpW (t : TI) (h : XHp) (Φ : Facts) (op : BinOp) : X → T X
  | .rl _ n _ _ => match t.sl with
    | some _ => want Φ (.lt (.lit 0) n) fun _ => retO (nilBX op false)
    | none => .fail []
  | x => retO (nilCmpX t h op x)
theorem rowsD_cons {ρ : Rho} {n : IE} {l : RL} (h : 0 < n.den ρ) : ∃ a b, rowsD ρ n l = a :: b := by
  unfold rowsD
  obtain ⟨m, hm⟩ : ∃ m, (n.den ρ).toNat = m + 1 := ⟨(n.den ρ).toNat - 1, by omega⟩
  rw [hm, List.range_succ_eq_map]
  exact ⟨_, _, rfl⟩
theorem nilCmpW_den {P : Program} {ρ : Rho} {ty : TypeId} {h : XHp} {Φ : Facts} {op : BinOp} {x v : X} (hk : Facts.ok ρ Φ) (hv : (nilCmpW (tiOf P ty) h Φ op x).sel ρ = some v) : binRh P (denH ρ h) op ty (x.den ρ) (.sc (.slice none 0 0)) = some (v.den ρ) := by
  unfold nilCmpW at hv
  split at hv
  · split at hv
    · rename_i p hs
      have hs' : slT P ty = some p := hs
      have e : ∀ y, binR P op ty y (.sc (.slice none 0 0)) = none := fun y => by
        unfold binR
        split <;> simp_all
      obtain ⟨_, _, hc, hv⟩ := sel_want hk hv
      simp only [BE.den, IE.den] at hc
      obtain ⟨a, b, hab⟩ := rowsD_cons (of_decide_eq_true hc)
      unfold binRh
      rw [e]
      simp only [nilR, hs', X.den]
      rw [hab]
      exact nilBX_den (sel_retO hv)
    · cases hv
  · exact nilCmpX_den (sel_retO hv)
def ptrCmpX (t : TI) (h : XHp) (op : BinOp) (x : X) : Option X :=
  match t.pt with
  | true => match x with
    | .ptr m _ _ => if okPtr h m = true then nilBX op false else none
    | .k (.pointer none) => nilBX op true
    | _ => none
  | false => none
theorem ptrCmpX_den {P : Program} {ρ : Rho} {ty : TypeId} {h : XHp} {op : BinOp} {x v : X} (hv : ptrCmpX (tiOf P ty) h op x = some v) : binRh P (denH ρ h) op ty (x.den ρ) (.sc (.pointer none)) = some (v.den ρ) := by
  unfold ptrCmpX at hv
  split at hv
  · rename_i hs
    have hs' : ptT P ty = true := hs
    have e : ∀ y, binR P op ty y (.sc (.pointer none)) = none := fun y => by
      unfold binR
      split <;> simp_all
    unfold binRh
    rw [e]
    simp only [nilR, hs']
    split at hv
    · split at hv
      · rename_i hm
        simp only [X.den]
        rw [if_pos (okPtr_den hm)]
        exact nilBX_den hv
      · cases hv
    · simp only [X.den]
      exact nilBX_den hv
    · cases hv
  · cases hv
/-! ### make of a slice -/
def makeX (n : Nat) (i : TI) (ti : Nat → Option TI) (Φ : Facts) : X → X → T (X × XDl)
  | .sc (.i _ a), .sc (.i _ b) => match i.sl with
    | some (e, z) => match ti e with
      | some ie => match ie.zero with
        | some zs => if (Nat.beq zs.length z && a.beq b) = true then
            want Φ (mkNot (mkLt a (.lit 0))) fun Φ => want Φ (mkNot (mkLt (.lit (capLim ie.by_)) a)) fun _ =>
              match a with
              | .lit m => if isRows (flatX (List.replicate m.toNat (zs.map ofV))) = true then (.fail ["make"]) else .ret (.sl (n, 0) z 0 m.toNat true, [((n, 0), some (flatX (List.replicate m.toNat (zs.map ofV))))])
              | a => match toScs (zs.map ofV) with
                | some r => if Nat.beq r.length z = true then .ret (.slv (n, 0) z (.lit 0) a true, [((n, 0), some [.rows z a (.one r)])]) else (.fail ["make"])
                | none => (.fail ["make"])
          else (.fail ["make"])
        | none => (.fail ["make"])
      | none => (.fail ["make"])
    | none => (.fail ["make"])
  | _, _ => (.fail ["make"])
theorem zeros_flat (zc : List AV) : ∀ m : Nat, zeros m zc = (List.replicate m zc).flatten
  | 0 => rfl
  | m + 1 => by simp only [zeros, List.replicate_succ, List.flatten_cons, zeros_flat zc m]
theorem rowsD_one {ρ : Rho} {a : IE} {r : List Sc} : rowsD ρ a (.one r) = List.replicate (a.den ρ).toNat (scL ρ r) := by
  apply List.ext_getElem?
  intro j
  by_cases hj : j < (a.den ρ).toNat
  · rw [rowsD_get (by omega), List.getElem?_replicate, if_pos hj]; rfl
  · rw [List.getElem?_eq_none (by rw [rowsD_count]; omega), List.getElem?_replicate, if_neg hj]
theorem makeX_den {P : Program} {ρ : Rho} {n : Nat} {ty : TypeId} {ti : Nat → Option TI} (hti : TIs.ok P ti) {Φ : Facts} (hk : Facts.ok ρ Φ) {x y : X} {r : X × XDl} (h : (makeX n (tiOf P ty) ti Φ x y).sel ρ = some r) :
    makeSliceN P n ty (x.den ρ) (y.den ρ) = some (r.1.den ρ, denD ρ r.2) := by
  unfold makeX at h
  split at h
  · rename_i k a k' b
    split at h
    · rename_i e z hs
      have hs' : slT P ty = some (e, z) := hs
      split at h
      · rename_i ie hie
        have hie := hti _ _ hie
        subst hie
        split at h
        · rename_i zs hzs
          have hz : zeroC P e = some (zs.map AV.sc) := by rw [zeroC_eq]; have : zeroV P e = some zs := hzs; rw [this]; rfl
          split at h
          · rename_i hc
            simp only [Bool.and_eq_true] at hc
            have hl := Nat.eq_of_beq_eq_true hc.1
            have hab := IE.beq_eq _ _ hc.2
            subst hab
            obtain ⟨Φ1, hk1, c1, h⟩ := sel_want hk h
            obtain ⟨Φ2, hk2, c2, h⟩ := sel_want hk1 h
            have c1 := not_lt_den c1
            have c2 := not_lt_den c2
            simp only [IE.den] at c1 c2
            have hby : (tiOf P e).by_ = bytesT P e := rfl
            rw [hby] at c2
            have hcap := capLim_ok (b := bytesT P e) (n := (a.den ρ).toNat) (by omega)
            have key : makeSliceN P n ty ((X.sc (.i k a)).den ρ) ((X.sc (.i k' a)).den ρ) = some (.sl (n, 0) z 0 (a.den ρ).toNat true, [((n, 0), some (List.replicate (a.den ρ).toNat (zs.map AV.sc)).flatten)]) := by
              simp only [X.den, Sc.den, makeSliceN, hs', hz]
              rw [if_pos ⟨by rw [List.length_map]; exact hl, by omega, trivial, hcap.1, by omega⟩, zeros_flat]
            rw [key]
            cases a with
            | lit m =>
              simp only at h
              split at h
              · cases h
              · rename_i hr
                cases h
                have he : X.denE ρ (List.replicate m.toNat (zs.map ofV)) = List.replicate m.toNat (zs.map AV.sc) := by
                  rw [X.denE_eq, List.map_replicate, ofVs_den]
                simp only [X.den, IE.den, denD, List.map_cons, List.map_nil, Option.map_some, denO_of (ρ := ρ) (show isRows (flatX (List.replicate m.toNat (zs.map ofV))) = false by simpa using hr), flatX_den, he]
            | _ =>
              simp only at h
              split at h
              · rename_i q hq
                split at h
                · cases h
                  have hq' := toScs_den (ρ := ρ) hq
                  rw [ofVs_den] at hq'
                  simp only [X.den, IE.den, Int.toNat_zero, Nat.zero_mul, denD, List.map_cons, List.map_nil, Option.map_some, denO, rowsD_one, hq']
                · cases h
              · cases h
          · cases h
        · cases h
      · cases h
    · cases h
  · cases h
def one1 (o : Option X) : T XR := retO (o.map fun v => .ok v [])
def one2 (t : T X) : T XR := t.map fun v => .ok v []
def tiW (ti : Nat → Option TI) (t : Nat) (k : TI → T XR) : T XR := match ti t with
  | some i => k i
  | none => (.fail [])
/-! ### The same with objects of rows -/
def loadW (i : TI) (h : XHp) (Φ : Facts) : X → T X
  | .ptrv m z j o => loadV i h Φ m z j o
  | x => retO (loadX i h x)
theorem loadW_den {P : Program} {ρ : Rho} {ty : TypeId} {h : XHp} {Φ : Facts} {x v : X} (hk : Facts.ok ρ Φ) (hv : (loadW (tiOf P ty) h Φ x).sel ρ = some v) : loadN P (denH ρ h) ty (x.den ρ) = some (v.den ρ) := by
  unfold loadW at hv
  split at hv
  · exact loadV_den hk hv
  · exact loadX_den (sel_retO hv)
def storeW (i : TI) (h : XHp) (Φ : Facts) (x : X) (ys : List X) : T XDl :=
  match x with
  | .ptrv m z j o => storeV i h Φ m z j o ys
  | x => retO (storeX i h x ys)
theorem storeW_den {P : Program} {ρ : Rho} {ty : TypeId} {h : XHp} {Φ : Facts} {x : X} {ys : List X} {d : XDl} (hk : Facts.ok ρ Φ) (hv : (storeW (tiOf P ty) h Φ x ys).sel ρ = some d) : ys.all X.one = true ∧ storeN P (denH ρ h) ty (x.den ρ) (X.denL ρ ys) = some (denD ρ d) := by
  unfold storeW at hv
  split at hv
  · exact storeV_den hk hv
  · exact storeX_den (sel_retO hv)
def idxAddrW (i : TI) (h : XHp) (Φ : Facts) (x y : X) : T X :=
  match x, y with
  | .slv m z off len _, .sc (.i _ e) => idxV i h Φ m z off len e
  | .ptrv m z j o, .sc (.i _ (.lit e)) => match i.arr with
    | some (len, z') => if (okPtr h m && (decide (0 ≤ e) && decide (e < len))) = true then .ret (.ptrv m z j (o + e.toNat * z')) else (.fail ["idxAddrW"])
    | none => (.fail ["idxAddrW"])
  | x, y => idxAddrX i h Φ x y
theorem idxAddrW_den {P : Program} {ρ : Rho} {ty : TypeId} {h : XHp} {Φ : Facts} {x y v : X} (hk : Facts.ok ρ Φ) (hv : (idxAddrW (tiOf P ty) h Φ x y).sel ρ = some v) : idxAddrN P (denH ρ h) ty (x.den ρ) (y.den ρ) = some (v.den ρ) := by
  unfold idxAddrW at hv
  split at hv
  · exact idxV_den hk hv
  · split at hv
    · rename_i m z j o k e len z' ha
      have ha' : arrT P ty = some (len, z') := ha
      split at hv
      · rename_i hc
        simp only [Bool.and_eq_true, decide_eq_true_eq] at hc
        cases hv
        simp only [X.den, Sc.den, IE.den, idxAddrN, ha', iaP, okPtr_den hc.1]
        rw [if_pos ⟨trivial, hc.2.1, hc.2.2⟩]
        congr 2
        omega
      · cases hv
    · cases hv
  · exact idxAddrX_den hk hv
def topW (i : TI) : X → IE
  | .slv _ _ _ len _ => len
  | x => topE i x
def slW (i : TI) (h : XHp) (Φ : Facts) (x : X) (lo hi : IE) (hn : Bool) : T X :=
  match x with
  | .slv m z off len own => sliceV i h Φ m z off len own lo hi
  | x => slX i h Φ x lo hi hn
theorem slW_den {P : Program} {ρ : Rho} {ty : TypeId} {h : XHp} {Φ : Facts} {x v : X} {lo hi : Option X} {l r : IE} (hk : Facts.ok ρ Φ) (hl : bndX lo (.lit 0) = some l) (hr : bndX hi (topW (tiOf P ty) x) = some r)
    (hv : (slW (tiOf P ty) h Φ x l r hi.isNone).sel ρ = some v) : ∃ w, sliceN P (denH ρ h) ty (x.den ρ) (lo.map (X.den ρ)) (hi.map (X.den ρ)) none = some w ∧ LeA (v.den ρ) w := by
  unfold slW at hv
  split at hv
  · exact ⟨_, sliceV_den hk hl hr hv, LeA.refl _⟩
  · rename_i hx
    refine slX_den hk hl ?_ hv
    have : topW (tiOf P ty) x = topE (tiOf P ty) x := by
      unfold topW
      split
      · exact absurd rfl (hx _ _ _ _ _)
      · rfl
    rw [← this]; exact hr
def lenW (i : TI) (h : XHp) (Φ : Facts) : X → T X
  | .slv m _ _ len _ => lenV i h Φ m len
  | x => lenX i h Φ x
theorem lenW_den {P : Program} {ρ : Rho} {ty : TypeId} {h : XHp} {Φ : Facts} {x v : X} (hk : Facts.ok ρ Φ) (hv : (lenW (tiOf P ty) h Φ x).sel ρ = some v) : lenN (lenT P (denH ρ h) ty (x.den ρ)) = some (v.den ρ) := by
  unfold lenW at hv
  split at hv
  · exact lenV_den hk hv
  · exact lenX_den hk hv
def stepX (ti : Nat → Option TI) (n : Nat) (mu : Bool) (g : Nat → X) (h : XHp) (Φ : Facts) : Op → T XR
  | .move x => .ret (.ok (evX g x) [])
  | .assign x => .ret (.ok (evX g x) [])
  | .pick c a b => one1 (pickX Φ (evX g c) (evX g a) (evX g b))
  | .alloc e => tiW ti e fun i => retO (i.zero.bind fun zs => if isRows (zs.map ofV) = true then none else some (.ok (.ptr (n, 0) [] 0) [((n, 0), some (zs.map ofV))]))
  | .box _ x => if (evX g x).cells.all X.one = true then .ret (.ok (.ptr (n, 0) [] 0) [((n, 0), some (evX g x).cells)]) else (.fail [])
  | .load ty x => tiW ti ty fun i => one2 (loadW i h Φ (evX g x))
  | .store ty x y => tiW ti ty fun i => (storeW i h Φ (evX g x) (evX g y).cells).map fun d => .ok (.k undef) d
  | .nilCheck x => one1 (nilX h (evX g x))
  | .indexAddr ty x i => tiW ti ty fun t => one2 (idxAddrW t h Φ (evX g x) (evX g i))
  | .fieldAddr ty x f => tiW ti ty fun t => one1 (fieldAddrX t h f (evX g x))
  | .field ty x f => tiW ti ty fun t => one1 (fieldX t f (evX g x))
  | .index ty x i => tiW ti ty fun t => one2 (indexX t Φ (evX g x) (evX g i))
  | .slice ty x lo hi none => tiW ti ty fun t => match bndX (lo.map (evX g)) (.lit 0), bndX (hi.map (evX g)) (topW t (evX g x)) with
    | some l, some r => one2 (slW t h Φ (evX g x) l r hi.isNone)
    | _, _ => (.fail [])
  | .slice ty x lo (some hi) (some mx) => tiW ti ty fun t => one1 (sl3X t h (evX g x) (lo.map (evX g)) (evX g hi) (evX g mx))
  | .binOp op ty x y _ => tiW ti ty fun t => match evX g y with
    | .k (.slice none 0 0) => one2 (nilCmpW t h Φ op (evX g x))
    | .k (.pointer none) => one1 (ptrCmpX t h op (evX g x))
    | _ => one2 (binX t Φ op (evX g x) (evX g y))
  | .unOp op _ x => one2 (unX Φ op (evX g x))
  | .convert src dst x => tiW ti src fun s => tiW ti dst fun t => one2 (convX Φ s t (evX g x))
  | .extract x i => match evX g x with
    | .tup vs => one1 vs[i]?
    | _ => (.fail [])
  | .makeFunc f xs ys => .ret (.ok (.fn f (evLX g xs.toList) (evLX g ys.toList)) [])
  | .build ty ps => tiW ti ty fun t => one1 (buildX t (evPX g ps.toList))
  | .buildSlice ty len ps => tiW ti ty fun t => retO ((buildSliceX n mu t ti len (evPX g ps.toList)).map fun p => .ok p.1 p.2)
  | .makeSlice ty l c => tiW ti ty fun t => (makeX n t ti Φ (evX g l) (evX g c)).map fun p => .ok p.1 p.2
  | .call ⟨.builtin b, args, tys⟩ => match b, tys.toList, evLX g args.toList with
    | .len, ty :: _, x :: _ => tiW ti ty fun t => one2 (lenW t h Φ x)
    | .max, _, x :: xs => one1 (maxX x xs)
    | .min, _, x :: xs => one1 (minX x xs)
    | .append, [ty, xt], [s, x] => tiW ti ty fun t => tiW ti xt fun t' => (appX n mu t t' ti h Φ s x).map fun p => .ok p.1 p.2
    | .copy, [ty, _], [s, x] => tiW ti ty fun t => retO ((copyX t h s x).map fun p => .ok p.1 p.2)
    | b, _, xs => one1 (cpxRX b xs)
  | .call ⟨.value x, args, _⟩ => match evX g x with
    | .fn (.func f) xs ys => .ret (.call f (xs ++ (evLX g args.toList ++ ys)))
    | _ => (.fail [])
  | _ => (.fail [])

theorem Yields_of_stepN {P : Program} {n : Nat} {mu : Bool} {op : Op} {t : Tp} {h : Hp} {r : AV} {d : Dl} (he : stepN P n mu t h op = .ok r d) : Aw.Yields P n op t h r d := by
  obtain ⟨r', d', hy, h1, h2⟩ := stepK_sound (stepN_K (K := fun a b => a = r ∧ b = d) he ⟨rfl, rfl⟩)
  subst h1 h2; exact hy
theorem Yields_le {P : Program} {n : Nat} {op : Op} {t : Tp} {h : Hp} {r r' : AV} {d : Dl} (hy : Aw.Yields P n op t h r d) (hl : LeA r' r) : Aw.Yields P n op t h r' d := by
  intro C a o next Q ho hh ht hn hk
  refine hy C a o next Q ho hh ht hn fun u C' hp => hk u C' ?_
  exact ⟨hp.le, hp.kn, hp.heap, hl _ _ hp.val, hp.same, hp.mt, hp.os, hp.tape, hp.output, hp.orig, hp.names⟩
theorem Yields_step {P : Program} {n : Nat} {mu : Bool} {op : Op} {t : Tp} {h : Hp} {r r' : AV} {d : Dl} (he : stepN P n mu t h op = .ok r d) (hl : LeA r' r) : Aw.Yields P n op t h r' d := Yields_le (Yields_of_stepN he) hl

/-- What one step shows. -/
def XR.shows (ρ : Rho) (P : Program) (n : Nat) (mu : Bool) (op : Op) (t : Tp) (h : Hp) : XR → Prop
  | .ok r d => Aw.Yields P n op t h (r.den ρ) (denD ρ d)
  | .call f args => stepN P n mu t h op = .call f (X.denL ρ args)
theorem sel_tiW {P : Program} {ρ : Rho} {ti : Nat → Option TI} (hti : TIs.ok P ti) {t : Nat} {k : TI → T XR} {a : XR} (h : (tiW ti t k).sel ρ = some a) : (k (tiOf P t)).sel ρ = some a := by
  unfold tiW at h
  split at h
  · rename_i i hi; rw [hti _ _ hi] at h; exact h
  · cases h
theorem sel_one1 {ρ : Rho} {o : Option X} {a : XR} (h : (one1 o).sel ρ = some a) : ∃ v, o = some v ∧ a = .ok v [] := by
  obtain ⟨v, h1, h2⟩ := Option.map_eq_some_iff.1 (sel_retO h)
  exact ⟨v, h1, h2.symm⟩
theorem sel_one2 {ρ : Rho} {o : T X} {a : XR} (h : (one2 o).sel ρ = some a) : ∃ v, o.sel ρ = some v ∧ a = .ok v [] := T.sel_map o h

theorem builtinN_cpx {P : Program} {n : Nat} {mu : Bool} {h : Hp} {b : Builtin} {tys : List TypeId} {l : List X} {xs : List AV} {v : X} {r : AV} (hv : cpxRX b l = some v) (hb : cpxR b xs = some r) : builtinN P n mu h b tys xs = .ok r [] := by
  cases b <;> first
    | (simp only [cpxRX, reduceCtorEq] at hv; done)
    | (simp only [builtinN, hb, lift1])
theorem stepX_shows {P : Program} {ρ : Rho} {ti : Nat → Option TI} (hti : TIs.ok P ti) {n : Nat} {mu : Bool} {g : Nat → X} {t : Tp} (hg : ∀ i, (g i).den ρ = tget t i) {h : XHp} {Φ : Facts} (hk : Facts.ok ρ Φ) {op : Op} {a : XR}
    (hs : (stepX ti n mu g h Φ op).sel ρ = some a) : a.shows ρ P n mu op t (denH ρ h) := by
  unfold stepX at hs
  split at hs
  · cases hs
    exact Yields_of_stepN (mu := mu) (by simp only [stepN, evX_den hg]; rfl)
  · cases hs
    exact Yields_of_stepN (mu := mu) (by simp only [stepN, evX_den hg]; rfl)
  · obtain ⟨v, hv, rfl⟩ := sel_one1 hs
    have := pickX_den hk hv
    simp only [evX_den hg] at this
    exact Yields_of_stepN (mu := mu) (by simp only [stepN, this, lift1]; rfl)
  · rename_i e
    obtain ⟨zs, hz, hs⟩ := Option.bind_eq_some_iff.1 (sel_retO (sel_tiW hti hs))
    split at hs
    · cases hs
    · rename_i hr
      cases hs
      have hz' : zeroV P e = some zs := hz
      refine Yields_of_stepN (mu := mu) ?_
      simp only [stepN, zeroC_eq, hz', Option.map_some, allocN, X.den, choose, denD, List.map_cons, List.map_nil, denO_of (ρ := ρ) (show isRows (zs.map ofV) = false by simpa using hr), ofVs_den]
  · split at hs
    · rename_i x hc
      cases hs
      refine Yields_of_stepN (mu := mu) ?_
      simp only [stepN, ← evX_den hg, X.cells_den ρ _ hc, boxN, X.all_one ρ _ hc, if_true, X.den, choose, denD, List.map_cons, List.map_nil, Option.map_some, denO_of (ρ := ρ) (isRows_one hc)]
    · cases hs
  · obtain ⟨v, hv, rfl⟩ := sel_one2 (sel_tiW hti hs)
    refine Yields_of_stepN (mu := mu) ?_
    simp only [stepN, ← evX_den hg, loadW_den hk hv, lift1]; rfl
  · obtain ⟨v, hv, rfl⟩ := T.sel_map _ (sel_tiW hti hs)
    refine Yields_of_stepN (mu := mu) ?_
    obtain ⟨h1, h2⟩ := storeW_den (ρ := ρ) hk hv
    simp only [stepN, ← evX_den hg, X.cells_den ρ _ h1, h2, liftD]; rfl
  · obtain ⟨v, hv, rfl⟩ := sel_one1 hs
    refine Yields_of_stepN (mu := mu) ?_
    simp only [stepN, ← evX_den hg, nilX_den hv, lift1]; rfl
  · obtain ⟨v, hv, rfl⟩ := sel_one2 (sel_tiW hti hs)
    refine Yields_of_stepN (mu := mu) ?_
    simp only [stepN, ← evX_den hg, idxAddrW_den hk hv, lift1]; rfl
  · obtain ⟨v, hv, rfl⟩ := sel_one1 (sel_tiW hti hs)
    refine Yields_of_stepN (mu := mu) ?_
    simp only [stepN, ← evX_den hg, fieldAddrX_den hv, lift1]; rfl
  · obtain ⟨v, hv, rfl⟩ := sel_one1 (sel_tiW hti hs)
    refine Yields_of_stepN (mu := mu) ?_
    simp only [stepN, ← evX_den hg, fieldX_den hv, lift1]; rfl
  · obtain ⟨v, hv, rfl⟩ := sel_one2 (sel_tiW hti hs)
    refine Yields_of_stepN (mu := mu) ?_
    simp only [stepN, ← evX_den hg, indexX_den hk hv, lift1]; rfl
  · rename_i ty x lo hi
    have hs := sel_tiW hti hs
    split at hs
    · rename_i l r hl hr
      obtain ⟨v, hv, rfl⟩ := sel_one2 hs
      have hin : hi.isNone = (hi.map (evX g)).isNone := by cases hi <;> rfl
      rw [hin] at hv
      obtain ⟨w, hw, hle⟩ := slW_den hk hl hr hv
      refine Yields_step (mu := mu) (r := w) ?_ hle
      have e : ∀ o : Option Operand, (o.map (evX g)).map (X.den ρ) = evO t o := fun o => by cases o <;> simp only [Option.map_none, Option.map_some, evO, evX_den hg]
      rw [e, e, evX_den hg] at hw
      have e0 : evO t none = none := rfl
      simp only [stepN, e0, hw, lift1]; rfl
    · cases hs
  · rename_i ty x lo hi mx
    obtain ⟨v, hv, rfl⟩ := sel_one1 (sel_tiW hti hs)
    refine Yields_of_stepN (mu := mu) ?_
    have hw := sl3X_den (ρ := ρ) hv
    have e : ∀ o : Option Operand, (o.map (evX g)).map (X.den ρ) = evO t o := fun o => by cases o <;> simp only [Option.map_none, Option.map_some, evO, evX_den hg]
    have e' : ∀ o : Operand, some ((evX g o).den ρ) = evO t (some o) := fun o => by simp only [evO, evX_den hg]
    rw [e, e', e', evX_den hg] at hw
    simp only [stepN, hw, lift1]; rfl
  · rename_i op' ty x y ty'
    have hs := sel_tiW hti hs
    split at hs
    · rename_i hy
      obtain ⟨v, hv, rfl⟩ := sel_one2 hs
      refine Yields_of_stepN (mu := mu) ?_
      have h1 := nilCmpW_den (ρ := ρ) hk hv
      have e2 : (evX g y).den ρ = .sc (.slice none 0 0) := by rw [hy]; rfl
      simp only [stepN, ← evX_den hg, e2, h1, lift1]; rfl
    · rename_i hy
      obtain ⟨v, hv, rfl⟩ := sel_one1 hs
      refine Yields_of_stepN (mu := mu) ?_
      have h1 := ptrCmpX_den (ρ := ρ) hv
      have e2 : (evX g y).den ρ = .sc (.pointer none) := by rw [hy]; rfl
      simp only [stepN, ← evX_den hg, e2, h1, lift1]; rfl
    · obtain ⟨v, hv, rfl⟩ := sel_one2 hs
      refine Yields_of_stepN (mu := mu) ?_
      simp only [stepN, ← evX_den hg, binRh_of (binX_den hk hv), lift1]; rfl
  · obtain ⟨v, hv, rfl⟩ := sel_one2 hs
    refine Yields_of_stepN (mu := mu) ?_
    simp only [stepN, ← evX_den hg, unX_den hk hv, lift1]; rfl
  · obtain ⟨v, hv, rfl⟩ := sel_one2 (sel_tiW hti (sel_tiW hti hs))
    refine Yields_of_stepN (mu := mu) ?_
    simp only [stepN, ← evX_den hg, convX_den hk hv, lift1]; rfl
  · rename_i x i
    split at hs
    · rename_i vs hx
      obtain ⟨v, hv, rfl⟩ := sel_one1 hs
      refine Yields_of_stepN (mu := mu) ?_
      simp only [stepN, ← evX_den hg, hx, X.den, extractN, X.denL_get, hv, Option.map_some, lift1]; rfl
    · cases hs
  · cases hs
    refine Yields_of_stepN (mu := mu) ?_
    simp only [stepN, ← evLX_den hg, X.den]; rfl
  · obtain ⟨v, hv, rfl⟩ := sel_one1 (sel_tiW hti hs)
    refine Yields_of_stepN (mu := mu) ?_
    simp only [stepN, ← evPX_den hg, buildX_den hv, lift1]; rfl
  · obtain ⟨p, hv, rfl⟩ := Option.map_eq_some_iff.1 (sel_retO (sel_tiW hti hs))
    obtain ⟨v, d⟩ := p
    refine Yields_of_stepN (mu := mu) ?_
    simp only [stepN, ← evPX_den hg, buildSliceX_den hti hv, lift2]
  · obtain ⟨p, hv, rfl⟩ := T.sel_map _ (sel_tiW hti hs)
    obtain ⟨v, d⟩ := p
    refine Yields_of_stepN (mu := mu) ?_
    simp only [stepN, ← evX_den hg, makeX_den hti hk hv, lift2]
  · rename_i b args tys
    have hL := evLX_den (ρ := ρ) hg args.toList
    split at hs
    · rename_i ty _ x _ h1 h2
      obtain ⟨v, hv, rfl⟩ := sel_one2 (sel_tiW hti hs)
      rw [h2] at hL
      refine Yields_of_stepN (mu := mu) ?_
      simp only [stepN, h1, ← hL, X.denL, builtinN, lenW_den hk hv, lift1]; rfl
    · rename_i x xs h2
      obtain ⟨v, hv, rfl⟩ := sel_one1 hs
      rw [h2] at hL
      refine Yields_of_stepN (mu := mu) ?_
      simp only [stepN, ← hL, X.denL, builtinN, maxX_den hv, lift1]; rfl
    · rename_i x xs h2
      obtain ⟨v, hv, rfl⟩ := sel_one1 hs
      rw [h2] at hL
      refine Yields_of_stepN (mu := mu) ?_
      simp only [stepN, ← hL, X.denL, builtinN, minX_den hv, lift1]; rfl
    · rename_i ty xt s x h1 h2
      obtain ⟨p, hv, rfl⟩ := T.sel_map _ (sel_tiW hti (sel_tiW hti hs))
      rw [h2] at hL
      refine Yields_of_stepN (mu := mu) ?_
      simp only [stepN, h1, ← hL, X.denL, builtinN, appX_den hti hk hv, lift2]
    · rename_i ty xt s x h1 h2
      obtain ⟨p, hv, rfl⟩ := Option.map_eq_some_iff.1 (sel_retO (sel_tiW hti hs))
      rw [h2] at hL
      refine Yields_of_stepN (mu := mu) ?_
      simp only [stepN, h1, ← hL, X.denL, builtinN, copyX_den hv, lift2]
    · obtain ⟨v, hv, rfl⟩ := sel_one1 hs
      have hb := cpxRX_den (ρ := ρ) hv
      rw [hL] at hb
      refine Yields_of_stepN (mu := mu) ?_
      simp only [stepN]
      exact builtinN_cpx hv hb
  · rename_i x args tys
    split at hs
    · rename_i f xs ys hx
      cases hs
      simp only [XR.shows, stepN, ← evX_den hg, hx, X.den, callN, ← evLX_den hg, X.denL_append]
    · cases hs
  · cases hs
end Go.Proofs.Xw
