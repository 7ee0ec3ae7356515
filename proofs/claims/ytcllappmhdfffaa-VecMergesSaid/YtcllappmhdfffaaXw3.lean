/- Symbolic runs, part 3: values, rows, two values put together. -/
import Derived.Test.YtcllappmhdfffaaXw2
namespace Go.Proofs.Xw
open Go Go.Proofs.Aw

/-! ### Sums of lengths -/
def mkAdd : IE → IE → IE
  | .lit m, .lit n => .lit (m + n)
  | a, .lit n => if n == 0 then a else .op .padd .i64 a (.lit n)
  | .lit n, b => if n == 0 then b else .op .padd .i64 (.lit n) b
  | a, b => .op .padd .i64 a b
theorem mkAdd_den (ρ : Rho) (a b : IE) : (mkAdd a b).den ρ = a.den ρ + b.den ρ := by
  unfold mkAdd
  split
  · simp [IE.den]
  · split
    · rename_i h; simp only [beq_iff_eq] at h; subst h; simp [IE.den]
    · simp [IE.den, IOp.den]
  · split
    · rename_i h; simp only [beq_iff_eq] at h; subst h; simp [IE.den]
    · simp [IE.den, IOp.den]
  · simp [IE.den, IOp.den]
def mkSub : IE → IE → IE
  | .lit m, .lit n => .lit (m - n)
  | .op .padd k a b, c => if a.beq c = true then b else if b.beq c = true then a else .op .psub .i64 (.op .padd k a b) c
  | a, .lit n => if n == 0 then a else .op .psub .i64 a (.lit n)
  | a, b => if a.beq b = true then .lit 0 else .op .psub .i64 a b
theorem mkSub_den (ρ : Rho) (a b : IE) : (mkSub a b).den ρ = a.den ρ - b.den ρ := by
  unfold mkSub
  split
  · simp [IE.den]
  · split
    · rename_i h; rw [← IE.beq_eq _ _ h]; simp only [IE.den, IOp.den]; omega
    · split
      · rename_i h; rw [← IE.beq_eq _ _ h]; simp only [IE.den, IOp.den]; omega
      · simp [IE.den, IOp.den]
  · split
    · rename_i h; simp only [beq_iff_eq] at h; subst h; simp [IE.den]
    · simp [IE.den, IOp.den]
  · split
    · rename_i h; rw [IE.beq_eq _ _ h]; simp [IE.den]
    · simp [IE.den, IOp.den]

/-! ### One cell -/
inductive Kd where
  | i (k : IntKind) | b | s
inductive Sc where
  | i (k : IntKind) (e : IE) | b (e : BE) | s (e : TE)
instance : Inhabited Sc := ⟨.b default⟩
def Sc.den (ρ : Rho) : Sc → Value
  | .i k e => .int k (e.den ρ)
  | .b e => .bool (e.den ρ)
  | .s e => .string (e.den ρ)
def Sc.beq : Sc → Sc → Bool
  | .i k e, .i k' e' => kbeq k k' && e.beq e'
  | .b e, .b e' => e.beq e'
  | .s e, .s e' => e.beq e'
  | _, _ => false
theorem Sc.beq_eq {a b : Sc} (h : a.beq b = true) : a = b := by
  cases a <;> cases b <;> simp [Sc.beq] at h ⊢
  · exact ⟨kbeq_eq h.1, IE.beq_eq _ _ h.2⟩
  · exact BE.beq_eq _ _ h
  · exact TE.beq_eq _ _ h
def mergeSc (c : BE) : Sc → Sc → Option Sc
  | .i k a, .i k' b => if kbeq k k' = true then some (.i k (mkIteI c a b)) else none
  | .b a, .b b => some (.b (mkIteB c a b))
  | .s a, .s b => some (.s (mkIteT c a b))
  | _, _ => none
theorem mergeSc_den {ρ : Rho} {c : BE} {a b s : Sc} (h : mergeSc c a b = some s) : s.den ρ = if c.den ρ = true then a.den ρ else b.den ρ := by
  cases a <;> cases b <;> simp only [mergeSc, reduceCtorEq, Option.some.injEq] at h
  · split at h
    · rename_i hk
      cases h
      rw [← kbeq_eq hk]
      simp only [Sc.den, mkIteI_den]
      split <;> rfl
    · cases h
  · subst h; simp only [Sc.den, mkIteB_den]; split <;> rfl
  · subst h; simp only [Sc.den, mkIteT_den]; split <;> rfl
def scL (ρ : Rho) (r : List Sc) : List AV := r.map fun s => .sc (s.den ρ)
def mergeScs (c : BE) : List Sc → List Sc → Option (List Sc)
  | [], [] => some []
  | a :: as, b :: bs => match mergeSc c a b, mergeScs c as bs with
    | some s, some r => some (s :: r)
    | _, _ => none
  | _, _ => none
theorem mergeScs_den {ρ : Rho} {c : BE} : ∀ {a b s : List Sc}, mergeScs c a b = some s → scL ρ s = if c.den ρ = true then scL ρ a else scL ρ b
  | [], [], s, h => by simp only [mergeScs, Option.some.injEq] at h; subst h; simp
  | a :: as, b :: bs, s, h => by
    simp only [mergeScs] at h
    split at h
    · rename_i x r h1 h2
      cases h
      have e1 := mergeSc_den (ρ := ρ) h1
      have e2 := mergeScs_den (ρ := ρ) h2
      simp only [scL, List.map_cons] at e2 ⊢
      rw [e1, e2]
      split <;> rfl
    · cases h
  | [], _ :: _, _, h => by simp [mergeScs] at h
  | _ :: _, [], _, h => by simp [mergeScs] at h

/-! ### Rows -/
inductive RL where
  | var (l : Nat) (ks : List Kd)
  | one (r : List Sc)
  | app (n : IE) (a b : RL)
  | drop (n : IE) (a : RL)
  | upd (i : IE) (r : List Sc) (a : RL)
  | ite (c : BE) (a b : RL)
def cellsV (ρ : Rho) (l : Nat) : Nat → List Kd → Nat → List AV
  | _, [], _ => []
  | k, .i K :: ks, j => .sc (.int K (ρ.ci l k j)) :: cellsV ρ l (k + 1) ks j
  | k, .b :: ks, j => .sc (.bool (ρ.cb l k j)) :: cellsV ρ l (k + 1) ks j
  | k, .s :: ks, j => .sc (.string (ρ.cs l k j)) :: cellsV ρ l (k + 1) ks j
def RL.row (ρ : Rho) : RL → Int → List AV
  | .var l ks, j => cellsV ρ l 0 ks j.toNat
  | .one r, _ => scL ρ r
  | .app n a b, j => if j < n.den ρ then a.row ρ j else b.row ρ (j - n.den ρ)
  | .drop n a, j => a.row ρ (j + n.den ρ)
  | .upd i r a, j => if j = i.den ρ then scL ρ r else a.row ρ j
  | .ite c a b, j => if c.den ρ = true then a.row ρ j else b.row ρ j
def cellsG (l : Nat) (j : IE) : Nat → List Kd → List Sc
  | _, [] => []
  | k, .i K :: ks => .i K (.cl l k j) :: cellsG l j (k + 1) ks
  | k, .b :: ks => .b (.cl l k j) :: cellsG l j (k + 1) ks
  | k, .s :: ks => .s (.cl l k j) :: cellsG l j (k + 1) ks
theorem cellsG_den (ρ : Rho) (l : Nat) (j : IE) : ∀ (k : Nat) (ks : List Kd), scL ρ (cellsG l j k ks) = cellsV ρ l k ks (j.den ρ).toNat
  | _, [] => rfl
  | k, .i K :: ks => by simp only [cellsG, cellsV, scL, List.map_cons, Sc.den, IE.den]; exact congrArg _ (cellsG_den ρ l j (k + 1) ks)
  | k, .b :: ks => by simp only [cellsG, cellsV, scL, List.map_cons, Sc.den, BE.den]; exact congrArg _ (cellsG_den ρ l j (k + 1) ks)
  | k, .s :: ks => by simp only [cellsG, cellsV, scL, List.map_cons, Sc.den, TE.den]; exact congrArg _ (cellsG_den ρ l j (k + 1) ks)
def RL.get : RL → IE → Option (List Sc)
  | .var l ks, j => some (cellsG l j 0 ks)
  | .one r, _ => some r
  | .app n a b, j => match mkLt j n with
    | .lit true => a.get j
    | .lit false => b.get (mkSub j n)
    | c => match a.get j, b.get (mkSub j n) with
      | some x, some y => mergeScs c x y
      | _, _ => none
  | .drop n a, j => a.get (mkAdd j n)
  | .upd i r a, j => match mkEq j i with
    | .lit true => some r
    | .lit false => a.get j
    | c => match a.get j with
      | some y => mergeScs c r y
      | none => none
  | .ite c a b, j => match a.get j, b.get j with
    | some x, some y => mergeScs c x y
    | _, _ => none
theorem RL.get_den {ρ : Rho} : ∀ {l : RL} {j : IE} {r : List Sc}, l.get j = some r → scL ρ r = l.row ρ (j.den ρ)
  | .var l ks, j, r, h => by
    simp only [RL.get, Option.some.injEq] at h
    subst h
    exact cellsG_den ρ l j 0 ks
  | .one s, j, r, h => by
    simp only [RL.get, Option.some.injEq] at h
    subst h; rfl
  | .app n a b, j, r, h => by
    simp only [RL.get] at h
    have hc := mkLt_den ρ j n
    simp only [RL.row]
    split at h
    · rename_i hd
      rw [hd] at hc
      have := of_decide_eq_true (hc.symm)
      rw [if_pos this]
      exact RL.get_den h
    · rename_i hd
      rw [hd] at hc
      have := of_decide_eq_false (hc.symm)
      rw [if_neg this, ← mkSub_den]
      exact RL.get_den h
    · split at h
      · rename_i x y h1 h2
        rw [mergeScs_den h, RL.get_den h1, RL.get_den h2, mkSub_den, hc]
        by_cases hh : IE.den ρ j < IE.den ρ n
        · rw [if_pos (decide_eq_true hh), if_pos hh]
        · rw [if_neg (by simpa using hh), if_neg hh]
      · cases h
  | .drop n a, j, r, h => by
    simp only [RL.get] at h
    simp only [RL.row]
    rw [← mkAdd_den]
    exact RL.get_den h
  | .upd i q a, j, r, h => by
    simp only [RL.get] at h
    have hc := mkEq_den ρ j i
    simp only [RL.row]
    split at h
    · rename_i hd
      rw [hd] at hc
      cases h
      rw [if_pos (by simpa [BE.den] using hc.symm)]
    · rename_i hd
      rw [hd] at hc
      rw [if_neg (by simpa [BE.den] using hc.symm)]
      exact RL.get_den h
    · split at h
      · rename_i y h2
        rw [mergeScs_den h, RL.get_den h2, hc]
        by_cases hh : IE.den ρ j = IE.den ρ i
        · rw [if_pos (by simpa using hh), if_pos hh]
        · rw [if_neg (by simpa using hh), if_neg hh]
      · cases h
  | .ite c a b, j, r, h => by
    simp only [RL.get] at h
    simp only [RL.row]
    split at h
    · rename_i x y h1 h2
      rw [mergeScs_den h, RL.get_den h1, RL.get_den h2]
    · cases h
/-- All rows have z cells. -/
def RL.wd (z : Nat) : RL → Bool
  | .var _ ks => Nat.beq ks.length z
  | .one r => Nat.beq r.length z
  | .app _ a b => a.wd z && b.wd z
  | .drop _ a => a.wd z
  | .upd _ r a => Nat.beq r.length z && a.wd z
  | .ite _ a b => a.wd z && b.wd z
theorem scL_len (ρ : Rho) (r : List Sc) : (scL ρ r).length = r.length := by simp [scL]
theorem cellsV_len (ρ : Rho) (l j : Nat) : ∀ (ks : List Kd) (k : Nat), (cellsV ρ l k ks j).length = ks.length
  | [], _ => rfl
  | .i _ :: ks, k => by simp only [cellsV, List.length_cons, cellsV_len ρ l j ks (k + 1)]
  | .b :: ks, k => by simp only [cellsV, List.length_cons, cellsV_len ρ l j ks (k + 1)]
  | .s :: ks, k => by simp only [cellsV, List.length_cons, cellsV_len ρ l j ks (k + 1)]
theorem RL.wd_len {ρ : Rho} {z : Nat} : ∀ {l : RL} {j : Int}, l.wd z = true → (l.row ρ j).length = z
  | .var l ks, j, h => by simp only [RL.row, cellsV_len]; exact Nat.eq_of_beq_eq_true h
  | .one r, j, h => by simp only [RL.row, scL_len]; exact Nat.eq_of_beq_eq_true h
  | .app n a b, j, h => by
    simp only [RL.wd, Bool.and_eq_true] at h
    simp only [RL.row]
    split
    · exact RL.wd_len h.1
    · exact RL.wd_len h.2
  | .drop n a, j, h => by simp only [RL.row]; exact RL.wd_len (l := a) h
  | .upd i r a, j, h => by
    simp only [RL.wd, Bool.and_eq_true] at h
    simp only [RL.row]
    split
    · rw [scL_len]; exact Nat.eq_of_beq_eq_true h.1
    · exact RL.wd_len h.2
  | .ite c a b, j, h => by
    simp only [RL.wd, Bool.and_eq_true] at h
    simp only [RL.row]
    split
    · exact RL.wd_len h.1
    · exact RL.wd_len h.2
def kdbeq : Kd → Kd → Bool
  | .i k, .i k' => kbeq k k'
  | .b, .b => true
  | .s, .s => true
  | _, _ => false
theorem kdbeq_eq {x y : Kd} (h : kdbeq x y = true) : x = y := by cases x <;> cases y <;> simp [kdbeq] at h ⊢; exact kbeq_eq h
def lbeq {α : Type} (f : α → α → Bool) : List α → List α → Bool
  | [], [] => true
  | a :: as, b :: bs => f a b && lbeq f as bs
  | _, _ => false
theorem lbeq_eq {α : Type} {f : α → α → Bool} (hf : ∀ a b, f a b = true → a = b) : ∀ {as bs : List α}, lbeq f as bs = true → as = bs
  | [], [], _ => rfl
  | a :: as, b :: bs, h => by
    simp only [lbeq, Bool.and_eq_true] at h
    rw [hf _ _ h.1, lbeq_eq hf h.2]
  | [], _ :: _, h => by simp [lbeq] at h
  | _ :: _, [], h => by simp [lbeq] at h
def RL.beq : RL → RL → Bool
  | .var l ks, .var l' ks' => Nat.beq l l' && lbeq kdbeq ks ks'
  | .one r, .one r' => lbeq Sc.beq r r'
  | .app n a b, .app n' a' b' => n.beq n' && (a.beq a' && b.beq b')
  | .drop n a, .drop n' a' => n.beq n' && a.beq a'
  | .upd i r a, .upd i' r' a' => i.beq i' && (lbeq Sc.beq r r' && a.beq a')
  | .ite c a b, .ite c' a' b' => c.beq c' && (a.beq a' && b.beq b')
  | _, _ => false
theorem RL.beq_eq : ∀ {a b : RL}, a.beq b = true → a = b
  | .var l ks, b, h => by
    cases b <;> simp [RL.beq] at h ⊢
    exact ⟨h.1, lbeq_eq (fun _ _ => kdbeq_eq) h.2⟩
  | .one r, b, h => by
    cases b <;> simp [RL.beq] at h ⊢
    exact lbeq_eq (fun _ _ => Sc.beq_eq) h
  | .app n x y, b, h => by
    cases b <;> simp [RL.beq] at h ⊢
    exact ⟨IE.beq_eq _ _ h.1, RL.beq_eq h.2.1, RL.beq_eq h.2.2⟩
  | .drop n x, b, h => by
    cases b <;> simp [RL.beq] at h ⊢
    exact ⟨IE.beq_eq _ _ h.1, RL.beq_eq h.2⟩
  | .upd i r x, b, h => by
    cases b <;> simp [RL.beq] at h ⊢
    exact ⟨IE.beq_eq _ _ h.1, lbeq_eq (fun _ _ => Sc.beq_eq) h.2.1, RL.beq_eq h.2.2⟩
  | .ite c x y, b, h => by
    cases b <;> simp [RL.beq] at h ⊢
    exact ⟨BE.beq_eq _ _ h.1, RL.beq_eq h.2.1, RL.beq_eq h.2.2⟩
def mkRL (c : BE) (a b : RL) : RL := if a.beq b = true then a else .ite c a b
theorem mkRL_row (ρ : Rho) (c : BE) (a b : RL) (j : Int) : (mkRL c a b).row ρ j = if c.den ρ = true then a.row ρ j else b.row ρ j := by
  unfold mkRL
  split
  · rename_i h; rw [RL.beq_eq h, ite_self]
  · rfl

/-! ### Values -/
inductive X where
  | top
  | k (v : Value)
  | sc (s : Sc)
  | agg (cs : List X)
  | tup (vs : List X)
  | ptr (n : Nm) (as : List (BE × Nat)) (d : Nat)
  | sl (n : Nm) (z off len : Nat) (own : Bool)
  | ip (cs : List X) (as : List (BE × Nat)) (d : Nat)
  | ro (z : Nat) (es : List (List X)) (full : Bool)
  | rl (z : Nat) (n : IE) (l : RL) (full : Bool)
  | fn (f : Fn) (first cap : List X)
  | gd (c : BE) (x : X)
  /-- The rows of an object, all of them: alone in the object's place. -/
  | rows (z : Nat) (n : IE) (l : RL)
  /-- A slice of an object of rows; off: in rows. -/
  | slv (n : Nm) (z : Nat) (off len : IE) (own : Bool)
  /-- The place of cell o of row j of an object of rows. -/
  | ptrv (n : Nm) (z : Nat) (j : IE) (o : Nat)
instance : Inhabited X := ⟨.top⟩
/-- The first place whose condition holds. -/
def choose (ρ : Rho) : List (BE × Nat) → Nat → Nat
  | [], d => d
  | (c, o) :: r, d => if c.den ρ = true then o else choose ρ r d
def rowsD (ρ : Rho) (n : IE) (l : RL) : List (List AV) := (List.range (n.den ρ).toNat).map fun (j : Nat) => l.row ρ j
mutual
def X.den (ρ : Rho) : X → AV
  | .top => .top
  | .k v => .sc v
  | .sc s => .sc (s.den ρ)
  | .agg cs => .agg (X.denL ρ cs)
  | .tup vs => .tup (X.denL ρ vs)
  | .ptr n as d => .ptr n (choose ρ as d)
  | .sl n z off len own => .sl n z off len own
  | .ip cs as d => .ip (X.denL ρ cs) (choose ρ as d)
  | .ro z es full => .ro z (X.denE ρ es) full
  | .rl z n l full => .ro z (rowsD ρ n l) full
  | .fn f xs ys => .fn f (X.denL ρ xs) (X.denL ρ ys)
  | .gd c x => if c.den ρ = true then x.den ρ else .sc undef
  | .rows _ _ _ => .top
  | .slv n z off len own => .sl n z ((off.den ρ).toNat * z) (len.den ρ).toNat own
  | .ptrv n z j o => .ptr n ((j.den ρ).toNat * z + o)
def X.denL (ρ : Rho) : List X → List AV
  | [] => []
  | x :: xs => x.den ρ :: X.denL ρ xs
def X.denE (ρ : Rho) : List (List X) → List (List AV)
  | [] => []
  | e :: es => X.denL ρ e :: X.denE ρ es
end
theorem X.denL_eq (ρ : Rho) : ∀ l, X.denL ρ l = l.map (X.den ρ)
  | [] => rfl
  | x :: xs => by simp only [X.denL, List.map_cons, X.denL_eq ρ xs]
theorem X.denE_eq (ρ : Rho) : ∀ l, X.denE ρ l = l.map (X.denL ρ)
  | [] => rfl
  | x :: xs => by simp only [X.denE, List.map_cons, X.denE_eq ρ xs]
theorem X.denL_len (ρ : Rho) (l : List X) : (X.denL ρ l).length = l.length := by rw [X.denL_eq]; simp
theorem X.denL_append (ρ : Rho) (l m : List X) : X.denL ρ (l ++ m) = X.denL ρ l ++ X.denL ρ m := by simp [X.denL_eq]
theorem X.denL_take (ρ : Rho) (l : List X) (n : Nat) : X.denL ρ (l.take n) = (X.denL ρ l).take n := by simp [X.denL_eq]
theorem X.denL_drop (ρ : Rho) (l : List X) (n : Nat) : X.denL ρ (l.drop n) = (X.denL ρ l).drop n := by simp [X.denL_eq]
theorem X.denL_get (ρ : Rho) (l : List X) (i : Nat) : (X.denL ρ l)[i]? = (l[i]?).map (X.den ρ) := by simp [X.denL_eq]
theorem X.denE_get (ρ : Rho) (l : List (List X)) (i : Nat) : (X.denE ρ l)[i]? = (l[i]?).map (X.denL ρ) := by simp [X.denE_eq]
def ofSc (r : List Sc) : List X := r.map .sc
theorem ofSc_den (ρ : Rho) (r : List Sc) : X.denL ρ (ofSc r) = scL ρ r := by simp [X.denL_eq, ofSc, scL, X.den]
def ofV : Value → X
  | .int k i => .sc (.i k (.lit i))
  | .bool b => .sc (.b (.lit b))
  | .string s => .sc (.s (.lit s))
  | v => .k v
theorem ofV_den (ρ : Rho) (v : Value) : (ofV v).den ρ = .sc v := by
  unfold ofV; split <;> simp [X.den, Sc.den, IE.den, BE.den, TE.den]

/-! ### Alike -/
def vbeq : Value → Value → Bool
  | .pointer none, .pointer none => true
  | .slice none a b, .slice none a' b' => Nat.beq a a' && Nat.beq b b'
  | .nilFunc, .nilFunc => true
  | .nilIface, .nilIface => true
  | .tuple ⟨[]⟩, .tuple ⟨[]⟩ => true
  | _, _ => false
theorem vbeq_eq {a b : Value} (h : vbeq a b = true) : a = b := by
  unfold vbeq at h
  split at h
  · rfl
  · simp at h; rw [h.1, h.2]
  · rfl
  · rfl
  · rfl
  · cases h
def nmbeq (a b : Nm) : Bool := Nat.beq a.1 b.1 && Nat.beq a.2 b.2
theorem nmbeq_eq {a b : Nm} (h : nmbeq a b = true) : a = b := by
  simp only [nmbeq, Bool.and_eq_true] at h
  exact Prod.ext (Nat.eq_of_beq_eq_true h.1) (Nat.eq_of_beq_eq_true h.2)
def asbeq (a b : BE × Nat) : Bool := a.1.beq b.1 && Nat.beq a.2 b.2
theorem asbeq_eq (a b : BE × Nat) (h : asbeq a b = true) : a = b := by
  simp only [asbeq, Bool.and_eq_true] at h
  exact Prod.ext (BE.beq_eq _ _ h.1) (Nat.eq_of_beq_eq_true h.2)
def fnbeq : Fn → Fn → Bool
  | .func a, .func b => Nat.beq a b
  | _, _ => false
theorem fnbeq_eq {a b : Fn} (h : fnbeq a b = true) : a = b := by
  unfold fnbeq at h
  split at h
  · simp at h; rw [h]
  · cases h
mutual
def X.beq : X → X → Bool
  | .top, .top => true
  | .k v, .k w => vbeq v w
  | .sc s, .sc s' => s.beq s'
  | .agg cs, .agg cs' => X.beqL cs cs'
  | .tup cs, .tup cs' => X.beqL cs cs'
  | .ptr n as d, .ptr n' as' d' => nmbeq n n' && (Nat.beq d d' && lbeq asbeq as as')
  | .sl n z o l w, .sl n' z' o' l' w' => nmbeq n n' && (Nat.beq z z' && (Nat.beq o o' && (Nat.beq l l' && w == w')))
  | .ip cs as d, .ip cs' as' d' => Nat.beq d d' && (lbeq asbeq as as' && X.beqL cs cs')
  | .ro z es f, .ro z' es' f' => Nat.beq z z' && (f == f' && X.beqE es es')
  | .rl z n l f, .rl z' n' l' f' => Nat.beq z z' && (f == f' && (n.beq n' && l.beq l'))
  | .fn f xs ys, .fn f' xs' ys' => fnbeq f f' && (X.beqL xs xs' && X.beqL ys ys')
  | .gd c x, .gd c' x' => c.beq c' && x.beq x'
  | .rows z n l, .rows z' n' l' => Nat.beq z z' && (n.beq n' && l.beq l')
  | .slv n z o l w, .slv n' z' o' l' w' => nmbeq n n' && (Nat.beq z z' && (o.beq o' && (l.beq l' && w == w')))
  | .ptrv n z j o, .ptrv n' z' j' o' => nmbeq n n' && (Nat.beq z z' && (j.beq j' && Nat.beq o o'))
  | _, _ => false
def X.beqL : List X → List X → Bool
  | [], [] => true
  | a :: as, b :: bs => a.beq b && X.beqL as bs
  | _, _ => false
def X.beqE : List (List X) → List (List X) → Bool
  | [], [] => true
  | a :: as, b :: bs => X.beqL a b && X.beqE as bs
  | _, _ => false
end
mutual
theorem X.beq_eq : ∀ (a b : X), a.beq b = true → a = b
  | .top, b, h => by cases b <;> simp [X.beq] at h ⊢
  | .k v, b, h => by cases b <;> simp [X.beq] at h ⊢; exact vbeq_eq h
  | .sc v, b, h => by cases b <;> simp [X.beq] at h ⊢; exact Sc.beq_eq h
  | .agg cs, b, h => by cases b <;> simp [X.beq] at h ⊢; exact X.beqL_eq _ _ h
  | .tup cs, b, h => by cases b <;> simp [X.beq] at h ⊢; exact X.beqL_eq _ _ h
  | .ptr n as d, b, h => by
    cases b <;> simp [X.beq] at h ⊢
    exact ⟨nmbeq_eq h.1, lbeq_eq asbeq_eq h.2.2, h.2.1⟩
  | .sl n z o l w, b, h => by
    cases b <;> simp [X.beq] at h ⊢
    exact ⟨nmbeq_eq h.1, h.2.1, h.2.2.1, h.2.2.2.1, h.2.2.2.2⟩
  | .ip cs as d, b, h => by
    cases b <;> simp [X.beq] at h ⊢
    exact ⟨X.beqL_eq _ _ h.2.2, lbeq_eq asbeq_eq h.2.1, h.1⟩
  | .ro z es f, b, h => by
    cases b <;> simp [X.beq] at h ⊢
    exact ⟨h.1, X.beqE_eq _ _ h.2.2, h.2.1⟩
  | .rl z n l f, b, h => by
    cases b <;> simp [X.beq] at h ⊢
    exact ⟨h.1, IE.beq_eq _ _ h.2.2.1, RL.beq_eq h.2.2.2, h.2.1⟩
  | .fn f xs ys, b, h => by
    cases b <;> simp [X.beq] at h ⊢
    exact ⟨fnbeq_eq h.1, X.beqL_eq _ _ h.2.1, X.beqL_eq _ _ h.2.2⟩
  | .gd c x, b, h => by
    cases b <;> simp [X.beq] at h ⊢
    exact ⟨BE.beq_eq _ _ h.1, X.beq_eq _ _ h.2⟩
  | .rows z n l, b, h => by
    cases b <;> simp [X.beq] at h ⊢
    exact ⟨h.1, IE.beq_eq _ _ h.2.1, RL.beq_eq h.2.2⟩
  | .slv n z o l w, b, h => by
    cases b <;> simp [X.beq] at h ⊢
    exact ⟨nmbeq_eq h.1, h.2.1, IE.beq_eq _ _ h.2.2.1, IE.beq_eq _ _ h.2.2.2.1, h.2.2.2.2⟩
  | .ptrv n z j o, b, h => by
    cases b <;> simp [X.beq] at h ⊢
    exact ⟨nmbeq_eq h.1, h.2.1, IE.beq_eq _ _ h.2.2.1, h.2.2.2⟩
theorem X.beqL_eq : ∀ (a b : List X), X.beqL a b = true → a = b
  | [], [], _ => rfl
  | a :: as, b :: bs, h => by
    simp only [X.beqL, Bool.and_eq_true] at h
    rw [X.beq_eq a b h.1, X.beqL_eq as bs h.2]
  | [], _ :: _, h => by simp [X.beqL] at h
  | _ :: _, [], h => by simp [X.beqL] at h
theorem X.beqE_eq : ∀ (a b : List (List X)), X.beqE a b = true → a = b
  | [], [], _ => rfl
  | a :: as, b :: bs, h => by
    simp only [X.beqE, Bool.and_eq_true] at h
    rw [X.beqL_eq a b h.1, X.beqE_eq as bs h.2]
  | [], _ :: _, h => by simp [X.beqE] at h
  | _ :: _, [], h => by simp [X.beqE] at h
end

/-! ### Two values put together -/
mutual
def X.mix (c : BE) : X → X → Option X
  | .sc a, .sc b => match mergeSc c a b with
    | some s => some (.sc s)
    | none => none
  | .agg cs, .agg ds => match X.mixL c cs ds with
    | some es => some (.agg es)
    | none => none
  | .tup cs, .tup ds => match X.mixL c cs ds with
    | some es => some (.tup es)
    | none => none
  | .slv n z o l w, .slv n' z' o' l' w' => if (nmbeq n n' && (Nat.beq z z' && w == w')) = true then some (.slv n z (mkIteI c o o') (mkIteI c l l') w) else none
  | .rl z n l f, .rl z' n' l' f' => if (Nat.beq z z' && f == f') = true then some (.rl z (mkIteI c n n') (mkRL c l l') f) else none
  | x, y => if x.beq y = true then some x else none
def X.mixL (c : BE) : List X → List X → Option (List X)
  | [], [] => some []
  | a :: as, b :: bs => match X.mix c a b with
    | some s => match X.mixL c as bs with
      | some r => some (s :: r)
      | none => none
    | none => none
  | _, _ => none
end
theorem mix_same {ρ : Rho} {c : BE} {x y z : X} (h : (if x.beq y = true then some x else none) = some z) : z.den ρ = if c.den ρ = true then x.den ρ else y.den ρ := by
  split at h
  · rename_i hb; cases h; rw [← X.beq_eq _ _ hb]; simp
  · cases h
mutual
theorem X.mix_den {ρ : Rho} {c : BE} : ∀ (x y z : X), X.mix c x y = some z → z.den ρ = if c.den ρ = true then x.den ρ else y.den ρ
  | .sc a, y, z, h => by
    cases y
    case sc b =>
      simp only [X.mix] at h
      split at h
      · rename_i s hs
        cases h
        simp only [X.den, mergeSc_den (ρ := ρ) hs]
        split <;> rfl
      · cases h
    all_goals exact mix_same (by simpa only [X.mix] using h)
  | .agg cs, y, z, h => by
    cases y
    case agg ds =>
      simp only [X.mix] at h
      split at h
      · rename_i s hs
        cases h
        simp only [X.den, X.mixL_den cs ds s hs]
        split <;> rfl
      · cases h
    all_goals exact mix_same (by simpa only [X.mix] using h)
  | .tup cs, y, z, h => by
    cases y
    case tup ds =>
      simp only [X.mix] at h
      split at h
      · rename_i s hs
        cases h
        simp only [X.den, X.mixL_den cs ds s hs]
        split <;> rfl
      · cases h
    all_goals exact mix_same (by simpa only [X.mix] using h)
  | .top, y, z, h => mix_same (by simpa only [X.mix] using h)
  | .k _, y, z, h => mix_same (by simpa only [X.mix] using h)
  | .ptr _ _ _, y, z, h => mix_same (by simpa only [X.mix] using h)
  | .sl _ _ _ _ _, y, z, h => mix_same (by simpa only [X.mix] using h)
  | .ip _ _ _, y, z, h => mix_same (by simpa only [X.mix] using h)
  | .ro _ _ _, y, z, h => mix_same (by simpa only [X.mix] using h)
  | .rl z n l f, y, q, h => by
    cases y
    case rl z' n' l' f' =>
      simp only [X.mix] at h
      split at h
      · rename_i hc
        simp only [Bool.and_eq_true, beq_iff_eq] at hc
        have hz := Nat.eq_of_beq_eq_true hc.1
        have hf := hc.2
        subst hz hf
        cases h
        simp only [X.den]
        have : rowsD ρ (mkIteI c n n') (mkRL c l l') = if c.den ρ = true then rowsD ρ n l else rowsD ρ n' l' := by
          unfold rowsD
          rw [mkIteI_den]
          simp only [mkRL_row]
          split <;> rfl
        rw [this]
        split <;> rfl
      · cases h
    all_goals exact mix_same (by simpa only [X.mix] using h)
  | .slv n z o l w, y, q, h => by
    cases y
    case slv n' z' o' l' w' =>
      simp only [X.mix] at h
      split at h
      · rename_i hc
        simp only [Bool.and_eq_true, beq_iff_eq] at hc
        have hn := nmbeq_eq hc.1
        have hz := Nat.eq_of_beq_eq_true hc.2.1
        have hw := hc.2.2
        subst hn hz hw
        cases h
        simp only [X.den, mkIteI_den]
        split <;> rfl
      · cases h
    all_goals exact mix_same (by simpa only [X.mix] using h)
  | .rows _ _ _, y, z, h => mix_same (by simpa only [X.mix] using h)
  | .ptrv _ _ _ _, y, z, h => mix_same (by simpa only [X.mix] using h)
  | .fn _ _ _, y, z, h => mix_same (by simpa only [X.mix] using h)
  | .gd _ _, y, z, h => mix_same (by simpa only [X.mix] using h)
theorem X.mixL_den {ρ : Rho} {c : BE} : ∀ (x y z : List X), X.mixL c x y = some z → X.denL ρ z = if c.den ρ = true then X.denL ρ x else X.denL ρ y
  | [], [], z, h => by simp only [X.mixL, Option.some.injEq] at h; subst h; simp
  | a :: as, b :: bs, z, h => by
    simp only [X.mixL] at h
    split at h
    · rename_i s hs
      split at h
      · rename_i r hr
        cases h
        simp only [X.denL, X.mix_den a b s hs, X.mixL_den as bs r hr]
        split <;> rfl
      · cases h
    · cases h
  | [], _ :: _, _, h => by simp [X.mixL] at h
  | _ :: _, [], _, h => by simp [X.mixL] at h
end
end Go.Proofs.Xw
