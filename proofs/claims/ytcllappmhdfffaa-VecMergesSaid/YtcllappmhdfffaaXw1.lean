/- Symbolic runs, part 1: expressions over letters, what they stand for, when two are the same, and short forms of them. -/
import Derived.Test.YtcllappmhdfffaaAw21
namespace Go.Proofs.Xw
open Go Go.Proofs.Aw

/-- What the letters stand for: numbers, truths, texts; and rows: how many, and what lies in a row's cell. -/
structure Rho where
  i : Nat → Int
  b : Nat → Bool
  s : Nat → ByteArray
  len : Nat → Nat
  ci : Nat → Nat → Nat → Int
  cb : Nat → Nat → Nat → Bool
  cs : Nat → Nat → Nat → ByteArray

inductive IOp where
  | add | sub | mul | quo | rem | and | or | xor | andNot | shl | shr | max | min | conv | padd | psub
  deriving DecidableEq, Inhabited

def IOp.den : IOp → IntKind → Int → Int → Int
  | .add, k, a, b => k.wrap (a + b)
  | .sub, k, a, b => k.wrap (a - b)
  | .mul, k, a, b => k.wrap (a * b)
  | .quo, k, a, b => k.wrap (a.tdiv b)
  | .rem, _, a, b => a.tmod b
  | .and, k, a, b => bits .and k a b
  | .or, k, a, b => bits .or k a b
  | .xor, k, a, b => bits .xor k a b
  | .andNot, k, a, b => bits .andNot k a b
  | .shl, k, a, b => k.wrap (a * 2 ^ (Min.min b.toNat k.bits))
  | .shr, k, a, b => a.fdiv (2 ^ (Min.min b.toNat k.bits))
  | .max, _, a, b => Max.max a b
  | .min, _, a, b => Min.min a b
  | .conv, k, a, _ => k.wrap a
  | .padd, _, a, b => a + b
  | .psub, _, a, b => a - b

mutual
inductive IE where
  | lit (n : Int) | var (i : Nat) | cl (l k : Nat) (j : IE) | len (l : Nat) | slen (t : TE) | byt (t : TE) (j : IE)
  | op (o : IOp) (k : IntKind) (a b : IE) | ite (c : BE) (a b : IE)
inductive BE where
  | lit (b : Bool) | var (i : Nat) | cl (l k : Nat) (j : IE) | lt (a b : IE) | eq (a b : IE) | seq (a b : TE) | slt (a b : TE)
  | not (a : BE) | and (a b : BE) | or (a b : BE) | ite (c a b : BE)
inductive TE where
  | lit (s : ByteArray) | var (i : Nat) | cl (l k : Nat) (j : IE) | sub (t : TE) (a b : IE) | ite (c : BE) (a b : TE)
end
instance : Inhabited IE := ⟨.lit 0⟩
instance : Inhabited BE := ⟨.lit false⟩
instance : Inhabited TE := ⟨.var 0⟩

mutual
def IE.den (ρ : Rho) : IE → Int
  | .lit n => n
  | .var i => ρ.i i
  | .cl l k j => ρ.ci l k (j.den ρ).toNat
  | .len l => ρ.len l
  | .slen t => (t.den ρ).size
  | .byt t j => (((t.den ρ)[(j.den ρ).toNat]?).getD 0).toNat
  | .op o k a b => o.den k (a.den ρ) (b.den ρ)
  | .ite c a b => if c.den ρ = true then a.den ρ else b.den ρ
def BE.den (ρ : Rho) : BE → Bool
  | .lit b => b
  | .var i => ρ.b i
  | .cl l k j => ρ.cb l k (j.den ρ).toNat
  | .lt a b => decide (a.den ρ < b.den ρ)
  | .eq a b => a.den ρ == b.den ρ
  | .seq a b => (a.den ρ).toList == (b.den ρ).toList
  | .slt a b => Op.bytesLess (a.den ρ).toList (b.den ρ).toList
  | .not a => !a.den ρ
  | .and a b => a.den ρ && b.den ρ
  | .or a b => a.den ρ || b.den ρ
  | .ite c a b => if c.den ρ = true then a.den ρ else b.den ρ
def TE.den (ρ : Rho) : TE → ByteArray
  | .lit s => s
  | .var i => ρ.s i
  | .cl l k j => ρ.cs l k (j.den ρ).toNat
  | .sub t a b => (t.den ρ).extract (a.den ρ).toNat (b.den ρ).toNat
  | .ite c a b => if c.den ρ = true then a.den ρ else b.den ρ
end

/-! ### Alike -/
def kcode : IntKind → Nat
  | .i8 => 0 | .i16 => 1 | .i32 => 2 | .i64 => 3 | .u8 => 4 | .u16 => 5 | .u32 => 6 | .u64 => 7
def kbeq (a b : IntKind) : Bool := Nat.beq (kcode a) (kcode b)
theorem kbeq_eq {a b : IntKind} (h : kbeq a b = true) : a = b := by cases a <;> cases b <;> first | rfl | exact absurd h (by decide)
def IOp.code : IOp → Nat
  | .add => 0 | .sub => 1 | .mul => 2 | .quo => 3 | .rem => 4 | .and => 5 | .or => 6 | .xor => 7 | .andNot => 8 | .shl => 9 | .shr => 10 | .max => 11 | .min => 12 | .conv => 13 | .padd => 14 | .psub => 15
def IOp.beq (a b : IOp) : Bool := Nat.beq a.code b.code
theorem IOp.beq_eq {a b : IOp} (h : a.beq b = true) : a = b := by cases a <;> cases b <;> first | rfl | exact absurd h (by decide)
def bytesBeq (a b : ByteArray) : Bool := a.data.toList == b.data.toList
theorem bytesBeq_eq {a b : ByteArray} (h : bytesBeq a b = true) : a = b := by
  obtain ⟨⟨a⟩⟩ := a
  obtain ⟨⟨b⟩⟩ := b
  simp only [bytesBeq, beq_iff_eq] at h
  rw [h]

mutual
def IE.beq : IE → IE → Bool
  | .lit a, .lit b => a == b
  | .var a, .var b => Nat.beq a b
  | .cl l k j, .cl l' k' j' => Nat.beq l l' && (Nat.beq k k' && j.beq j')
  | .len a, .len b => Nat.beq a b
  | .slen a, .slen b => a.beq b
  | .byt t j, .byt t' j' => t.beq t' && j.beq j'
  | .op o k a b, .op o' k' a' b' => o.beq o' && (kbeq k k' && (a.beq a' && b.beq b'))
  | .ite c a b, .ite c' a' b' => c.beq c' && (a.beq a' && b.beq b')
  | _, _ => false
def BE.beq : BE → BE → Bool
  | .lit a, .lit b => a == b
  | .var a, .var b => Nat.beq a b
  | .cl l k j, .cl l' k' j' => Nat.beq l l' && (Nat.beq k k' && j.beq j')
  | .lt a b, .lt a' b' => a.beq a' && b.beq b'
  | .eq a b, .eq a' b' => a.beq a' && b.beq b'
  | .seq a b, .seq a' b' => a.beq a' && b.beq b'
  | .slt a b, .slt a' b' => a.beq a' && b.beq b'
  | .not a, .not a' => a.beq a'
  | .and a b, .and a' b' => a.beq a' && b.beq b'
  | .or a b, .or a' b' => a.beq a' && b.beq b'
  | .ite c a b, .ite c' a' b' => c.beq c' && (a.beq a' && b.beq b')
  | _, _ => false
def TE.beq : TE → TE → Bool
  | .lit a, .lit b => bytesBeq a b
  | .var a, .var b => Nat.beq a b
  | .cl l k j, .cl l' k' j' => Nat.beq l l' && (Nat.beq k k' && j.beq j')
  | .sub t a b, .sub t' a' b' => t.beq t' && (a.beq a' && b.beq b')
  | .ite c a b, .ite c' a' b' => c.beq c' && (a.beq a' && b.beq b')
  | _, _ => false
end
mutual
theorem IE.beq_eq : ∀ (a b : IE), a.beq b = true → a = b
  | .lit a, b, h => by cases b <;> simp [IE.beq] at h ⊢; exact h
  | .var a, b, h => by cases b <;> simp [IE.beq] at h ⊢; exact h
  | .cl l k j, b, h => by
    cases b <;> simp [IE.beq] at h ⊢
    exact ⟨h.1, h.2.1, IE.beq_eq _ _ h.2.2⟩
  | .len a, b, h => by cases b <;> simp [IE.beq] at h ⊢; exact h
  | .slen a, b, h => by
    cases b <;> simp [IE.beq] at h ⊢
    exact TE.beq_eq _ _ h
  | .byt t j, b, h => by
    cases b <;> simp [IE.beq] at h ⊢
    exact ⟨TE.beq_eq _ _ h.1, IE.beq_eq _ _ h.2⟩
  | .op o k x y, b, h => by
    cases b <;> simp [IE.beq] at h ⊢
    exact ⟨IOp.beq_eq h.1, kbeq_eq h.2.1, IE.beq_eq _ _ h.2.2.1, IE.beq_eq _ _ h.2.2.2⟩
  | .ite c x y, b, h => by
    cases b <;> simp [IE.beq] at h ⊢
    exact ⟨BE.beq_eq _ _ h.1, IE.beq_eq _ _ h.2.1, IE.beq_eq _ _ h.2.2⟩
theorem BE.beq_eq : ∀ (a b : BE), a.beq b = true → a = b
  | .lit a, b, h => by cases b <;> simp [BE.beq] at h ⊢; exact h
  | .var a, b, h => by cases b <;> simp [BE.beq] at h ⊢; exact h
  | .cl l k j, b, h => by
    cases b <;> simp [BE.beq] at h ⊢
    exact ⟨h.1, h.2.1, IE.beq_eq _ _ h.2.2⟩
  | .lt x y, b, h => by
    cases b <;> simp [BE.beq] at h ⊢
    exact ⟨IE.beq_eq _ _ h.1, IE.beq_eq _ _ h.2⟩
  | .eq x y, b, h => by
    cases b <;> simp [BE.beq] at h ⊢
    exact ⟨IE.beq_eq _ _ h.1, IE.beq_eq _ _ h.2⟩
  | .seq x y, b, h => by
    cases b <;> simp [BE.beq] at h ⊢
    exact ⟨TE.beq_eq _ _ h.1, TE.beq_eq _ _ h.2⟩
  | .slt x y, b, h => by
    cases b <;> simp [BE.beq] at h ⊢
    exact ⟨TE.beq_eq _ _ h.1, TE.beq_eq _ _ h.2⟩
  | .not x, b, h => by
    cases b <;> simp [BE.beq] at h ⊢
    exact BE.beq_eq _ _ h
  | .and x y, b, h => by
    cases b <;> simp [BE.beq] at h ⊢
    exact ⟨BE.beq_eq _ _ h.1, BE.beq_eq _ _ h.2⟩
  | .or x y, b, h => by
    cases b <;> simp [BE.beq] at h ⊢
    exact ⟨BE.beq_eq _ _ h.1, BE.beq_eq _ _ h.2⟩
  | .ite c x y, b, h => by
    cases b <;> simp [BE.beq] at h ⊢
    exact ⟨BE.beq_eq _ _ h.1, BE.beq_eq _ _ h.2.1, BE.beq_eq _ _ h.2.2⟩
theorem TE.beq_eq : ∀ (a b : TE), a.beq b = true → a = b
  | .lit a, b, h => by
    cases b <;> simp [TE.beq] at h ⊢
    exact bytesBeq_eq h
  | .var a, b, h => by cases b <;> simp [TE.beq] at h ⊢; exact h
  | .cl l k j, b, h => by
    cases b <;> simp [TE.beq] at h ⊢
    exact ⟨h.1, h.2.1, IE.beq_eq _ _ h.2.2⟩
  | .sub t x y, b, h => by
    cases b <;> simp [TE.beq] at h ⊢
    exact ⟨TE.beq_eq _ _ h.1, IE.beq_eq _ _ h.2.1, IE.beq_eq _ _ h.2.2⟩
  | .ite c x y, b, h => by
    cases b <;> simp [TE.beq] at h ⊢
    exact ⟨BE.beq_eq _ _ h.1, TE.beq_eq _ _ h.2.1, TE.beq_eq _ _ h.2.2⟩
end

/-! ### Short forms -/
def mkNot : BE → BE
  | .lit b => .lit (!b)
  | .not a => a
  | a => .not a
theorem mkNot_den (ρ : Rho) (a : BE) : (mkNot a).den ρ = !a.den ρ := by
  unfold mkNot; split <;> simp [BE.den]
/-- One is the other's contrary. -/
def BE.compl : BE → BE → Bool
  | .not a, b => a.beq b
  | a, .not b => a.beq b
  | _, _ => false
theorem BE.compl_den {ρ : Rho} {a b : BE} (h : a.compl b = true) : (a.den ρ || b.den ρ) = true := by
  unfold BE.compl at h
  split at h
  · rw [BE.beq_eq _ _ h]; simp [BE.den]
  · rw [BE.beq_eq _ _ h]; simp [BE.den]
  · cases h
theorem BE.compl_den' {ρ : Rho} {a b : BE} (h : a.compl b = true) : (a.den ρ && b.den ρ) = false := by
  unfold BE.compl at h
  split at h
  · rw [BE.beq_eq _ _ h]; simp [BE.den]
  · rw [BE.beq_eq _ _ h]; simp [BE.den]
  · cases h
def mkAnd (a b : BE) : BE :=
  match a, b with
  | .lit true, b => b
  | .lit false, _ => .lit false
  | a, .lit true => a
  | _, .lit false => .lit false
  | a, .or c d => if a.compl c = true then .and a d else if a.beq c = true then a else .and a (.or c d)
  | a, b => if a.beq b = true then a else if a.compl b = true then .lit false else .and a b
theorem mkAnd_den (ρ : Rho) (a b : BE) : (mkAnd a b).den ρ = (a.den ρ && b.den ρ) := by
  unfold mkAnd
  split
  · simp [BE.den]
  · simp [BE.den]
  · simp [BE.den]
  · simp [BE.den]
  · split
    · rename_i h
      have := BE.compl_den' (ρ := ρ) h
      simp only [BE.den]
      cases ha : BE.den ρ a
      · simp
      · rw [ha, Bool.true_and] at this; simp [this]
    · split
      · rename_i h; rw [BE.beq_eq _ _ h]; simp only [BE.den]; cases BE.den ρ _ <;> simp
      · simp [BE.den]
  · split
    · rename_i h; rw [BE.beq_eq _ _ h]; simp
    · split
      · rename_i h; rw [BE.compl_den' h]; rfl
      · simp [BE.den]
def mkOr (a b : BE) : BE :=
  match a, b with
  | .lit false, b => b
  | .lit true, _ => .lit true
  | a, .lit false => a
  | _, .lit true => .lit true
  | a, .and c d => if a.compl c = true then .or a d else if a.beq c = true then a else .or a (.and c d)
  | a, b => if a.beq b = true then a else if a.compl b = true then .lit true else .or a b
theorem mkOr_den (ρ : Rho) (a b : BE) : (mkOr a b).den ρ = (a.den ρ || b.den ρ) := by
  unfold mkOr
  split
  · simp [BE.den]
  · simp [BE.den]
  · simp [BE.den]
  · simp [BE.den]
  · split
    · rename_i h
      have := BE.compl_den (ρ := ρ) h
      simp only [BE.den]
      cases ha : BE.den ρ a
      · rw [ha, Bool.false_or] at this; simp [this]
      · simp
    · split
      · rename_i h; rw [BE.beq_eq _ _ h]; simp only [BE.den]; cases BE.den ρ _ <;> simp
      · simp [BE.den]
  · split
    · rename_i h; rw [BE.beq_eq _ _ h]; simp
    · split
      · rename_i h; rw [BE.compl_den h]; rfl
      · simp [BE.den]
def mkIteB (c a b : BE) : BE :=
  match c with
  | .lit true => a
  | .lit false => b
  | c => if a.beq b = true then a else
    match a, b with
    | .lit true, .lit false => c
    | .lit false, .lit true => mkNot c
    | .lit true, b => mkOr c b
    | .lit false, b => mkAnd (mkNot c) b
    | a, .lit true => mkOr (mkNot c) a
    | a, .lit false => mkAnd c a
    | a, b => .ite c a b
theorem mkIteB_den (ρ : Rho) (c a b : BE) : (mkIteB c a b).den ρ = if c.den ρ = true then a.den ρ else b.den ρ := by
  unfold mkIteB
  split
  · simp [BE.den]
  · simp [BE.den]
  · split
    · rename_i h; rw [BE.beq_eq _ _ h]; simp
    · split <;> simp only [mkNot_den, mkOr_den, mkAnd_den, BE.den] <;> cases BE.den ρ c <;> simp
def mkIteI (c : BE) (a b : IE) : IE :=
  match c with
  | .lit true => a
  | .lit false => b
  | c => if a.beq b = true then a else .ite c a b
theorem mkIteI_den (ρ : Rho) (c : BE) (a b : IE) : (mkIteI c a b).den ρ = if c.den ρ = true then a.den ρ else b.den ρ := by
  unfold mkIteI
  split
  · simp [BE.den]
  · simp [BE.den]
  · split
    · rename_i h; rw [IE.beq_eq _ _ h]; simp
    · simp [IE.den]
def mkIteT (c : BE) (a b : TE) : TE :=
  match c with
  | .lit true => a
  | .lit false => b
  | c => if a.beq b = true then a else .ite c a b
theorem mkIteT_den (ρ : Rho) (c : BE) (a b : TE) : (mkIteT c a b).den ρ = if c.den ρ = true then a.den ρ else b.den ρ := by
  unfold mkIteT
  split
  · simp [BE.den]
  · simp [BE.den]
  · split
    · rename_i h; rw [TE.beq_eq _ _ h]; simp
    · simp [TE.den]
def mkEq : IE → IE → BE
  | .lit m, .lit n => .lit (m == n)
  | .lit m, b => .eq b (.lit m)
  | .ite c a b, .lit n => mkIteB c (mkEq a (.lit n)) (mkEq b (.lit n))
  | a, b => if a.beq b = true then .lit true else .eq a b
theorem mkEq_den (ρ : Rho) : ∀ (a b : IE), (mkEq a b).den ρ = (a.den ρ == b.den ρ) := by
  intro a b
  fun_induction mkEq a b with
  | case1 => simp [BE.den, IE.den]
  | case2 m b h => simp only [BE.den, IE.den, BEq.comm]
  | case3 c a b n ih1 ih2 => rw [mkIteB_den, ih1, ih2]; simp only [IE.den]; split <;> rfl
  | case4 => rename_i h; rw [IE.beq_eq _ _ h]; simp [BE.den]
  | case5 a b => simp [BE.den]
/-- Below a number. -/
def ltL (n : Int) : IE → BE
  | .lit m => .lit (decide (m < n))
  | .ite c a b => mkIteB c (ltL n a) (ltL n b)
  | a => .lt a (.lit n)
theorem ltL_den (ρ : Rho) (n : Int) : ∀ a : IE, (ltL n a).den ρ = decide (a.den ρ < n)
  | .lit m => by simp only [ltL, BE.den, IE.den]; exact decide_eq_decide.2 Iff.rfl
  | .ite c a b => by simp only [ltL, mkIteB_den, ltL_den ρ n a, ltL_den ρ n b, IE.den]; split <;> rfl
  | .var i => by simp only [ltL, BE.den]; exact decide_eq_decide.2 Iff.rfl
  | .cl l k j => by simp only [ltL, BE.den]; exact decide_eq_decide.2 Iff.rfl
  | .len l => by simp only [ltL, BE.den]; exact decide_eq_decide.2 Iff.rfl
  | .slen t => by simp only [ltL, BE.den]; exact decide_eq_decide.2 Iff.rfl
  | .byt t j => by simp only [ltL, BE.den]; exact decide_eq_decide.2 Iff.rfl
  | .op o k a b => by simp only [ltL, BE.den]; exact decide_eq_decide.2 Iff.rfl
/-- Above a number. -/
def ltR (n : Int) : IE → BE
  | .lit m => .lit (decide (n < m))
  | .ite c a b => mkIteB c (ltR n a) (ltR n b)
  | a => .lt (.lit n) a
theorem ltR_den (ρ : Rho) (n : Int) : ∀ a : IE, (ltR n a).den ρ = decide (n < a.den ρ)
  | .lit m => by simp only [ltR, BE.den, IE.den]; exact decide_eq_decide.2 Iff.rfl
  | .ite c a b => by simp only [ltR, mkIteB_den, ltR_den ρ n a, ltR_den ρ n b, IE.den]; split <;> rfl
  | .var i => by simp only [ltR, BE.den]; exact decide_eq_decide.2 Iff.rfl
  | .cl l k j => by simp only [ltR, BE.den]; exact decide_eq_decide.2 Iff.rfl
  | .len l => by simp only [ltR, BE.den]; exact decide_eq_decide.2 Iff.rfl
  | .slen t => by simp only [ltR, BE.den]; exact decide_eq_decide.2 Iff.rfl
  | .byt t j => by simp only [ltR, BE.den]; exact decide_eq_decide.2 Iff.rfl
  | .op o k a b => by simp only [ltR, BE.den]; exact decide_eq_decide.2 Iff.rfl
/-- A sum's part that is no number, and the number. -/
def base : IE → IE × Int
  | .op .padd _ a (.lit c) => (a, c)
  | .op .padd _ (.lit c) a => (a, c)
  | .op .psub _ a (.lit c) => (a, -c)
  | a => (a, 0)
theorem base_den (ρ : Rho) (a : IE) : a.den ρ = (base a).1.den ρ + (base a).2 := by
  unfold base
  split <;> simp only [IE.den, IOp.den] <;> omega
def mkLt : IE → IE → BE
  | a, .lit n => ltL n a
  | .lit n, b => ltR n b
  | a, b => if (base a).1.beq (base b).1 = true then .lit (decide ((base a).2 < (base b).2)) else .lt a b
theorem mkLt_den (ρ : Rho) (a b : IE) : (mkLt a b).den ρ = decide (a.den ρ < b.den ρ) := by
  unfold mkLt
  split
  · rw [ltL_den]; exact decide_eq_decide.2 Iff.rfl
  · rw [ltR_den]; exact decide_eq_decide.2 Iff.rfl
  · split
    · rename_i h
      rw [base_den ρ a, base_den ρ b, IE.beq_eq _ _ h]
      simp only [BE.den]
      exact decide_eq_decide.2 (by omega)
    · simp only [BE.den]
def mkSeq : TE → TE → BE
  | .lit m, .lit n => .lit (m.toList == n.toList)
  | a, b => if a.beq b = true then .lit true else .seq a b
theorem mkSeq_den (ρ : Rho) (a b : TE) : (mkSeq a b).den ρ = ((a.den ρ).toList == (b.den ρ).toList) := by
  unfold mkSeq
  split
  · simp [BE.den, TE.den]
  · split
    · rename_i h; rw [TE.beq_eq _ _ h]; simp [BE.den]
    · simp [BE.den]
def mkOp (o : IOp) (k : IntKind) (a b : IE) : IE :=
  match a, b with
  | .lit m, .lit n => .lit (o.den k m n)
  | a, b => .op o k a b
theorem mkOp_den (ρ : Rho) (o : IOp) (k : IntKind) (a b : IE) : (mkOp o k a b).den ρ = o.den k (a.den ρ) (b.den ρ) := by
  unfold mkOp; split <;> simp [IE.den]
def mkSlen : TE → IE
  | .lit s => .lit s.size
  | t => .slen t
theorem mkSlen_den (ρ : Rho) (t : TE) : (mkSlen t).den ρ = (t.den ρ).size := by
  unfold mkSlen; split <;> simp [IE.den, TE.den]
/-- Both truths alike. -/
def mkIff (a b : BE) : BE := mkIteB a b (mkNot b)
theorem mkIff_den (ρ : Rho) (a b : BE) : (mkIff a b).den ρ = (a.den ρ == b.den ρ) := by
  unfold mkIff; rw [mkIteB_den, mkNot_den]; cases a.den ρ <;> cases b.den ρ <;> rfl
end Go.Proofs.Xw
