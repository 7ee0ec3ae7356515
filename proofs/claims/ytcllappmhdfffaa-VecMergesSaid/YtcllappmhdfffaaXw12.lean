/- Symbolic runs, part 12: what is shown of a function once, used at any arguments. -/
import Derived.Test.YtcllappmhdfffaaXw17
import Derived.Test.YtcllappmhdfffaaAw24
namespace Go.Proofs.Xw
open Go Go.Proofs.Aw

/-- What is put for letters. -/
structure Sub where
  i : List (Nat × IE)
  b : List (Nat × BE)
  s : List (Nat × TE)
def assoc {α : Type} (k : Nat) : List (Nat × α) → Option α
  | [] => none
  | (j, v) :: r => if Nat.beq j k = true then some v else assoc k r
def Sub.ap (σ : Sub) (ρ : Rho) : Rho :=
  { ρ with i := fun k => match assoc k σ.i with | some e => e.den ρ | none => ρ.i k,
           b := fun k => match assoc k σ.b with | some e => e.den ρ | none => ρ.b k,
           s := fun k => match assoc k σ.s with | some e => e.den ρ | none => ρ.s k }
mutual
def IE.pu (σ : Sub) : IE → IE
  | .lit n => .lit n
  | .var i => match assoc i σ.i with | some e => e | none => .var i
  | .cl l k j => .cl l k (j.pu σ)
  | .len l => .len l
  | .slen t => mkSlen (t.pu σ)
  | .byt t j => mkByt (t.pu σ) (j.pu σ)
  | .op o k a b => mkOp o k (a.pu σ) (b.pu σ)
  | .ite c a b => mkIteI (c.pu σ) (a.pu σ) (b.pu σ)
def BE.pu (σ : Sub) : BE → BE
  | .lit b => .lit b
  | .var i => match assoc i σ.b with | some e => e | none => .var i
  | .cl l k j => .cl l k (j.pu σ)
  | .lt a b => mkLt (a.pu σ) (b.pu σ)
  | .eq a b => mkEq (a.pu σ) (b.pu σ)
  | .seq a b => mkSeq (a.pu σ) (b.pu σ)
  | .slt a b => .slt (a.pu σ) (b.pu σ)
  | .not a => mkNot (a.pu σ)
  | .and a b => mkAnd (a.pu σ) (b.pu σ)
  | .or a b => mkOr (a.pu σ) (b.pu σ)
  | .ite c a b => mkIteB (c.pu σ) (a.pu σ) (b.pu σ)
def TE.pu (σ : Sub) : TE → TE
  | .lit s => .lit s
  | .var i => match assoc i σ.s with | some e => e | none => .var i
  | .cl l k j => .cl l k (j.pu σ)
  | .sub t a b => .sub (t.pu σ) (a.pu σ) (b.pu σ)
  | .ite c a b => mkIteT (c.pu σ) (a.pu σ) (b.pu σ)
end
mutual
theorem IE.pu_den (σ : Sub) (ρ : Rho) : ∀ e : IE, (e.pu σ).den ρ = e.den (σ.ap ρ)
  | .lit n => rfl
  | .var i => by
    simp only [IE.pu, IE.den, Sub.ap]
    cases h : assoc i σ.i <;> simp only [IE.den]
  | .cl l k j => by simp only [IE.pu, IE.den, IE.pu_den σ ρ j]; rfl
  | .len l => rfl
  | .slen t => by simp only [IE.pu, mkSlen_den, IE.den, TE.pu_den σ ρ t]
  | .byt t j => by simp only [IE.pu, mkByt_den, IE.den, TE.pu_den σ ρ t, IE.pu_den σ ρ j]
  | .op o k a b => by simp only [IE.pu, mkOp_den, IE.den, IE.pu_den σ ρ a, IE.pu_den σ ρ b]
  | .ite c a b => by simp only [IE.pu, mkIteI_den, IE.den, BE.pu_den σ ρ c, IE.pu_den σ ρ a, IE.pu_den σ ρ b]
theorem BE.pu_den (σ : Sub) (ρ : Rho) : ∀ e : BE, (e.pu σ).den ρ = e.den (σ.ap ρ)
  | .lit n => rfl
  | .var i => by
    simp only [BE.pu, BE.den, Sub.ap]
    cases h : assoc i σ.b <;> simp only [BE.den]
  | .cl l k j => by simp only [BE.pu, BE.den, IE.pu_den σ ρ j]; rfl
  | .lt a b => by simp only [BE.pu, mkLt_den, BE.den, IE.pu_den σ ρ a, IE.pu_den σ ρ b]
  | .eq a b => by simp only [BE.pu, mkEq_den, BE.den, IE.pu_den σ ρ a, IE.pu_den σ ρ b]
  | .seq a b => by simp only [BE.pu, mkSeq_den, BE.den, TE.pu_den σ ρ a, TE.pu_den σ ρ b]
  | .slt a b => by simp only [BE.pu, BE.den, TE.pu_den σ ρ a, TE.pu_den σ ρ b]
  | .not a => by simp only [BE.pu, mkNot_den, BE.den, BE.pu_den σ ρ a]
  | .and a b => by simp only [BE.pu, mkAnd_den, BE.den, BE.pu_den σ ρ a, BE.pu_den σ ρ b]
  | .or a b => by simp only [BE.pu, mkOr_den, BE.den, BE.pu_den σ ρ a, BE.pu_den σ ρ b]
  | .ite c a b => by simp only [BE.pu, mkIteB_den, BE.den, BE.pu_den σ ρ c, BE.pu_den σ ρ a, BE.pu_den σ ρ b]
theorem TE.pu_den (σ : Sub) (ρ : Rho) : ∀ e : TE, (e.pu σ).den ρ = e.den (σ.ap ρ)
  | .lit n => rfl
  | .var i => by
    simp only [TE.pu, TE.den, Sub.ap]
    cases h : assoc i σ.s <;> simp only [TE.den]
  | .cl l k j => by simp only [TE.pu, TE.den, IE.pu_den σ ρ j]; rfl
  | .sub t a b => by simp only [TE.pu, TE.den, TE.pu_den σ ρ t, IE.pu_den σ ρ a, IE.pu_den σ ρ b]
  | .ite c a b => by simp only [TE.pu, mkIteT_den, TE.den, BE.pu_den σ ρ c, TE.pu_den σ ρ a, TE.pu_den σ ρ b]
end
def Sc.pu (σ : Sub) : Sc → Sc
  | .i k e => .i k (e.pu σ)
  | .b e => .b (e.pu σ)
  | .s e => .s (e.pu σ)
theorem Sc.pu_den (σ : Sub) (ρ : Rho) (s : Sc) : (s.pu σ).den ρ = s.den (σ.ap ρ) := by
  cases s <;> simp only [Sc.pu, Sc.den, IE.pu_den, BE.pu_den, TE.pu_den]
def RL.pu (σ : Sub) : RL → RL
  | .var l ks => .var l ks
  | .one r => .one (r.map (Sc.pu σ))
  | .app n a b => .app (n.pu σ) (a.pu σ) (b.pu σ)
  | .drop n a => .drop (n.pu σ) (a.pu σ)
  | .upd i r a => .upd (i.pu σ) (r.map (Sc.pu σ)) (a.pu σ)
  | .ite c a b => .ite (c.pu σ) (a.pu σ) (b.pu σ)
theorem RL.pu_row (σ : Sub) (ρ : Rho) : ∀ (l : RL) (j : Int), (l.pu σ).row ρ j = l.row (σ.ap ρ) j
  | .var l ks, j => by
    simp only [RL.pu, RL.row]
    generalize j.toNat = m
    have : ∀ (ks : List Kd) (k : Nat), cellsV ρ l k ks m = cellsV (σ.ap ρ) l k ks m := fun ks => by
      induction ks with
      | nil => intro k; rfl
      | cons kd ks ih => intro k; cases kd <;> simp only [cellsV, ih] <;> rfl
    exact this ks 0
  | .one r, j => by
    simp only [RL.pu, RL.row, scL, List.map_map]
    congr 1
    funext s
    simp only [Function.comp, Sc.pu_den]
  | .app n a b, j => by
    simp only [RL.pu, RL.row, RL.pu_row σ ρ a, RL.pu_row σ ρ b, IE.pu_den]
  | .drop n a, j => by simp only [RL.pu, RL.row, RL.pu_row σ ρ a, IE.pu_den]
  | .upd i r a, j => by
    simp only [RL.pu, RL.row, RL.pu_row σ ρ a, IE.pu_den, scL, List.map_map]
    congr 2
    funext s
    simp only [Function.comp, Sc.pu_den]
  | .ite c a b, j => by simp only [RL.pu, RL.row, RL.pu_row σ ρ a, RL.pu_row σ ρ b, BE.pu_den]
theorem rowsD_sub (σ : Sub) (ρ : Rho) (n : IE) (l : RL) : rowsD ρ (n.pu σ) (l.pu σ) = rowsD (σ.ap ρ) n l := by
  unfold rowsD
  rw [IE.pu_den]
  congr 1
  funext j
  exact RL.pu_row σ ρ l j
def asSub (σ : Sub) : List (BE × Nat) → List (BE × Nat)
  | [] => []
  | (c, o) :: r => (c.pu σ, o) :: asSub σ r
theorem choose_sub (σ : Sub) (ρ : Rho) (d : Nat) : ∀ as, choose ρ (asSub σ as) d = choose (σ.ap ρ) as d
  | [] => rfl
  | (c, o) :: r => by simp only [asSub, choose, BE.pu_den, choose_sub σ ρ d r]
mutual
def X.pu (σ : Sub) : X → X
  | .top => .top
  | .k v => .k v
  | .sc s => .sc (s.pu σ)
  | .agg cs => .agg (X.puL σ cs)
  | .tup cs => .tup (X.puL σ cs)
  | .ptr n as d => .ptr n (asSub σ as) d
  | .sl n z off len own => .sl n z off len own
  | .ip cs as d => .ip (X.puL σ cs) (asSub σ as) d
  | .ro z es full => .ro z (X.puE σ es) full
  | .rl z n l full => .rl z (n.pu σ) (l.pu σ) full
  | .fn f xs ys => .fn f (X.puL σ xs) (X.puL σ ys)
  | .gd c x => .gd (c.pu σ) (x.pu σ)
  | .rows z n l => .rows z (n.pu σ) (l.pu σ)
  | .slv n z o l w => .slv n z (o.pu σ) (l.pu σ) w
  | .ptrv n z j o => .ptrv n z (j.pu σ) o
def X.puL (σ : Sub) : List X → List X
  | [] => []
  | x :: xs => x.pu σ :: X.puL σ xs
def X.puE (σ : Sub) : List (List X) → List (List X)
  | [] => []
  | e :: es => X.puL σ e :: X.puE σ es
end
mutual
theorem X.pu_den (σ : Sub) (ρ : Rho) : ∀ x : X, (x.pu σ).den ρ = x.den (σ.ap ρ)
  | .top => rfl
  | .k v => rfl
  | .sc s => by simp only [X.pu, X.den, Sc.pu_den]
  | .agg cs => by simp only [X.pu, X.den, X.puL_den σ ρ cs]
  | .tup cs => by simp only [X.pu, X.den, X.puL_den σ ρ cs]
  | .ptr n as d => by simp only [X.pu, X.den, choose_sub]
  | .sl n z off len own => rfl
  | .ip cs as d => by simp only [X.pu, X.den, X.puL_den σ ρ cs, choose_sub]
  | .ro z es full => by simp only [X.pu, X.den, X.puE_den σ ρ es]
  | .rl z n l full => by simp only [X.pu, X.den, rowsD_sub]
  | .fn f xs ys => by simp only [X.pu, X.den, X.puL_den σ ρ xs, X.puL_den σ ρ ys]
  | .gd c x => by simp only [X.pu, X.den, BE.pu_den, X.pu_den σ ρ x]
  | .rows z n l => by simp only [X.pu, X.den]
  | .slv n z o l w => by simp only [X.pu, X.den, IE.pu_den]
  | .ptrv n z j o => by simp only [X.pu, X.den, IE.pu_den]
theorem X.puL_den (σ : Sub) (ρ : Rho) : ∀ x : List X, X.denL ρ (X.puL σ x) = X.denL (σ.ap ρ) x
  | [] => rfl
  | x :: xs => by simp only [X.puL, X.denL, X.pu_den σ ρ x, X.puL_den σ ρ xs]
theorem X.puE_den (σ : Sub) (ρ : Rho) : ∀ x : List (List X), X.denE ρ (X.puE σ x) = X.denE (σ.ap ρ) x
  | [] => rfl
  | x :: xs => by simp only [X.puE, X.denE, X.puL_den σ ρ x, X.puE_den σ ρ xs]
end

/-! ### What must be put for a pattern's letters -/
mutual
def X.fit : X → X → Sub → Option Sub
  | .sc (.i kk (.var i)), .sc (.i kk' e), σ => if kbeq kk kk' = true then some { σ with i := (i, e) :: σ.i } else none
  | .sc (.b (.var i)), .sc (.b e), σ => some { σ with b := (i, e) :: σ.b }
  | .sc (.s (.var i)), .sc (.s e), σ => some { σ with s := (i, e) :: σ.s }
  | .agg cs, .agg ds, σ => X.fitL cs ds σ
  | .tup cs, .tup ds, σ => X.fitL cs ds σ
  | .ro z es _, .ro z' ds _, σ => if Nat.beq z z' = true then X.fitE es ds σ else none
  | _, _, σ => some σ
def X.fitL : List X → List X → Sub → Option Sub
  | [], [], σ => some σ
  | a :: as, b :: bs, σ => match X.fit a b σ with
    | some σ => X.fitL as bs σ
    | none => none
  | _, _, _ => none
def X.fitE : List (List X) → List (List X) → Sub → Option Sub
  | [], [], σ => some σ
  | a :: as, b :: bs, σ => match X.fitL a b σ with
    | some σ => X.fitE as bs σ
    | none => none
  | _, _, _ => none
end
structure Sm where
  f : Nat
  pat : List X
  r : X
def SmOk (P : Program) (s : Sm) : Prop := hasBody P s.f = true ∧ ∀ (ρ : Rho) (n : Nat) (h : Hp), CY P n s.f (X.denL ρ s.pat) h (s.r.den ρ) []
/-- The answer of what is shown once: the pattern with what is put for its letters must be the arguments themselves. -/
def useSm (args : List X) (s : Sm) : Option X :=
  match X.fitL s.pat args ⟨[], [], []⟩ with
  | some σ => if X.beqL (X.puL σ s.pat) args = true then some (s.r.pu σ) else none
  | none => none
def lookS (f : Nat) (args : List X) : List Sm → Option X
  | [] => none
  | s :: l => if Nat.beq s.f f = true then (match useSm args s with
    | some r => some r
    | none => lookS f args l) else lookS f args l
theorem lookS_ok {P : Program} {ρ : Rho} {n : Nat} {h : Hp} {f : Nat} {args : List X} {r : X} : ∀ {l : List Sm}, (∀ s ∈ l, SmOk P s) → lookS f args l = some r → hasBody P f = true ∧ CY P n f (X.denL ρ args) h (r.den ρ) []
  | [], _, hl => by cases hl
  | s :: l, hs, hl => by
    have hs' : ∀ s ∈ l, SmOk P s := fun t ht => hs t (List.mem_cons_of_mem _ ht)
    simp only [lookS] at hl
    split at hl
    · rename_i hf
      have hf := Nat.eq_of_beq_eq_true hf
      split at hl
      · rename_i r' hu
        cases hl
        obtain ⟨h1, h2⟩ := hs s List.mem_cons_self
        unfold useSm at hu
        split at hu
        · rename_i σ _
          split at hu
          · rename_i hb
            cases hu
            have hb := X.beqL_eq _ _ hb
            have := h2 (σ.ap ρ) n h
            rw [hf] at this h1
            rw [← hb, X.puL_den, X.pu_den]
            exact ⟨h1, this⟩
          · cases hu
        · cases hu
      · exact lookS_ok hs' hl
    · exact lookS_ok hs' hl

/-! ### Calls with what is shown -/
structure Cfg2 where
  c : Cfg
  sm : List Sm
  hf : List Nat
def natIn (n : Nat) : List Nat → Bool
  | [] => false
  | k :: l => Nat.beq k n || natIn n l
/-! ### Slices of own objects, handed to a callee that only reads them -/
mutual
def X.plain : X → Bool
  | .top | .k _ | .sc _ | .rows _ _ _ => true
  | .agg cs | .tup cs => X.plainL cs
  | .gd _ x => x.plain
  | _ => false
def X.plainL : List X → Bool
  | [] => true
  | x :: xs => x.plain && X.plainL xs
end
mutual
theorem X.plain_den (ρ : Rho) : ∀ x : X, x.plain = true → plainA (x.den ρ) = true
  | .top, _ => rfl
  | .k _, _ => rfl
  | .sc _, _ => rfl
  | .rows _ _ _, _ => rfl
  | .agg cs, h => X.plainL_den ρ cs h
  | .tup cs, h => X.plainL_den ρ cs h
  | .gd c x, h => by
    simp only [X.den]
    split
    · exact X.plain_den ρ x h
    · rfl
  | .ptr _ _ _, h => by cases h
  | .sl _ _ _ _ _, h => by cases h
  | .ip _ _ _, h => by cases h
  | .ro _ _ _, h => by cases h
  | .rl _ _ _ _, h => by cases h
  | .fn _ _ _, h => by cases h
  | .slv _ _ _ _ _, h => by cases h
  | .ptrv _ _ _ _, h => by cases h
theorem X.plainL_den (ρ : Rho) : ∀ l : List X, X.plainL l = true → plainAL (X.denL ρ l) = true
  | [], _ => rfl
  | x :: xs, h => by
    simp only [X.plainL, Bool.and_eq_true] at h
    simp only [X.denL, plainAL, X.plain_den ρ x h.1, X.plainL_den ρ xs h.2, Bool.and_self]
end
def rowsNn : Rows → Bool
  | .c es => X.nnE es
  | .r _ _ => true
theorem rowsNn_den {ρ : Rho} {r : Rows} (h : rowsNn r = true) : nmsE (fun _ => false) (r.den ρ) = true := by
  cases r with
  | c es => exact X.nnE_den ρ es h
  | r n l => exact nms_rows
def frzS (h : XHp) (Φ : Facts) (z : Nat) (x : X) : T X := if Nat.blt 0 z = true then (elemsT h Φ z x).bind Φ fun _ r => if rowsNn r = true then .ret (r.ro z) else .fail ["frz"] else .fail ["frz"]
def frzX (h : XHp) (Φ : Facts) (x : X) : T X :=
  if x.nn = true then .ret x else match x with
    | .slv m z off len own => frzS h Φ z (.slv m z off len own)
    | .sl m z off len own => frzS h Φ z (.sl m z off len own)
    | _ => .fail ["frz"]
theorem frzS_ok {ρ : Rho} {h : XHp} {Φ : Facts} (hk : Facts.ok ρ Φ) {z : Nat} {x y : X} (hs : (frzS h Φ z x).sel ρ = some y) : 0 < z ∧ ∃ fs, elemsA (denH ρ h) z (x.den ρ) = some fs ∧ nmsE (fun _ => false) fs = true ∧ y.den ρ = .ro z fs false := by
  unfold frzS at hs
  split at hs
  · rename_i hz
    obtain ⟨_, r, hk', h1, h2⟩ := T.sel_bind _ hk hs
    split at h2
    · rename_i hn
      cases h2
      exact ⟨by simpa [Nat.blt_eq] using hz, _, elemsT_den hk h1, rowsNn_den hn, Rows.ro_den ρ z r⟩
    · cases h2
  · cases hs
theorem frzX_ok {ρ : Rho} {h : XHp} {Φ : Facts} (hk : Facts.ok ρ Φ) {x y : X} (hs : (frzX h Φ x).sel ρ = some y) : Frz (denH ρ h) (x.den ρ) (y.den ρ) := by
  unfold frzX at hs
  split at hs
  · rename_i hn
    cases hs
    exact .inl ⟨rfl, X.nn_den ρ _ hn⟩
  · split at hs
    · obtain ⟨h0, fs, h1, h2, h3⟩ := frzS_ok hk hs
      exact .inr ⟨_, _, _, _, _, _, rfl, h0, h1, h2, h3⟩
    · obtain ⟨h0, fs, h1, h2, h3⟩ := frzS_ok hk hs
      exact .inr ⟨_, _, _, _, _, _, rfl, h0, h1, h2, h3⟩
    · cases hs
def frzL (h : XHp) (Φ : Facts) : List X → T (List X)
  | [] => .ret []
  | x :: xs => (frzX h Φ x).bind Φ fun Φ y => (frzL h Φ xs).bind Φ fun _ ys => .ret (y :: ys)
theorem frzL_ok {ρ : Rho} {h : XHp} : ∀ {xs ys : List X} {Φ : Facts}, Facts.ok ρ Φ → (frzL h Φ xs).sel ρ = some ys → FrzL (denH ρ h) (X.denL ρ xs) (X.denL ρ ys)
  | [], ys, Φ, _, hs => by cases hs; rfl
  | x :: xs, ys, Φ, hk, hs => by
    simp only [frzL] at hs
    obtain ⟨Φ1, y, hk1, h1, hs⟩ := T.sel_bind _ hk hs
    obtain ⟨_, zs, _, h2, hs⟩ := T.sel_bind _ hk1 hs
    cases hs
    exact ⟨_, _, rfl, frzX_ok hk h1, frzL_ok hk1 h2⟩
def stepP (c : Cfg2) (call : CallF) (f : Nat) (args : List X) (Φ : Facts) : T (X × XDl) := match lookK f args c.c.ks with
  | some r => .ret (r, [])
  | none => match lookS f args c.sm with
    | some r => .ret (r, [])
    | none => if X.nnL args = true then pureX c.c call f args Φ else .fail ["args"]
def stepF (c : Cfg2) (call : CallF) (f : Nat) (args : List X) (h : XHp) (Φ : Facts) : T (X × XDl) :=
  (frzL h Φ args).bind Φ fun Φ ys => (stepP c call f ys Φ).bind Φ fun _ p => match p.2 with
    | [] => if p.1.plain = true then .ret (p.1, []) else .fail ["plain"]
    | _ => .fail ["plain"]
def stepS (c : Cfg2) (call : CallF) : CallF := fun n f args h Φ =>
  if natIn f c.hf = true then heapX c.c call n f args h Φ
  else if X.nnL args = true then stepP c call f args Φ
  else if args.any (fun x => match x with | .ptr _ _ _ => true | _ => false) = true then heapX c.c call n f args h Φ else stepF c call f args h Φ
def callS (c : Cfg2) : Nat → CallF
  | 0 => fun _ _ _ _ _ => (.fail [])
  | d + 1 => stepS c (callS c d)
theorem stepP_ok {P : Program} {ρ : Rho} {c : Cfg2} (hc : CfgOk P ρ c.c) (hs : ∀ s ∈ c.sm, SmOk P s) {call : CallF} (hcall : CallOk P ρ call) {n : Nat} {f : Nat} {args : List X} {h : Hp} {Φ : Facts} (hk : Facts.ok ρ Φ) {r : X} {d : XDl}
    (hq : (stepP c call f args Φ).sel ρ = some (r, d)) : hasBody P f = true ∧ CY P n f (X.denL ρ args) h (r.den ρ) (denD ρ d) := by
  unfold stepP at hq
  split at hq
  · rename_i r' hl
    cases hq
    obtain ⟨h1, h2⟩ := hc.ks _ (lookK_mem hl)
    exact ⟨h1, h2 n _⟩
  · split at hq
    · rename_i r' hl
      cases hq
      exact lookS_ok hs hl
    · split at hq
      · rename_i ha
        exact pureX_ok hc hcall ha hk hq
      · cases hq
theorem callS_ok {P : Program} {ρ : Rho} {c : Cfg2} (hc : CfgOk P ρ c.c) (hs : ∀ s ∈ c.sm, SmOk P s) : ∀ d, CallOk P ρ (callS c d)
  | 0 => fun n f args h Φ r d _ hq => by cases hq
  | k + 1 => fun n f args h Φ r d hk hq => by
    have hcall := callS_ok hc hs k
    simp only [callS] at hq
    unfold stepS at hq
    split at hq
    · exact heapX_ok hc hcall hk hq
    · split at hq
      · exact stepP_ok hc hs hcall hk hq
      · split at hq
        · exact heapX_ok hc hcall hk hq
        · unfold stepF at hq
          obtain ⟨Φ1, ys, hk1, h1, hq⟩ := T.sel_bind _ hk hq
          obtain ⟨_, p, _, h2, hq⟩ := T.sel_bind _ hk1 hq
          obtain ⟨r', d'⟩ := p
          split at hq
          · rename_i hd
            simp only at hd
            subst hd
            split at hq
            · rename_i hp
              cases hq
              obtain ⟨g1, g2⟩ := stepP_ok (n := n) (h := []) hc hs hcall hk1 h2
              exact ⟨g1, CY_frz (frzL_ok hk h1) (X.plain_den ρ _ hp) g2⟩
            · cases hq
          · cases hq
/-- What a function answers, run over letters of which something is known. -/
def askF (c : Cfg2) (f : Nat) (args : List X) (Φ : Facts) : T X := if X.nnL args = true then (pureX c.c (callS c 12) f args Φ).map (·.1) else .fail ["args"]
def askS (c : Cfg2) (f : Nat) (args : List X) : T X := askF c f args []
theorem askF_ok {P : Program} {ρ : Rho} {c : Cfg2} (hc : CfgOk P ρ c.c) (hs : ∀ s ∈ c.sm, SmOk P s) {f : Nat} {args : List X} {Φ : Facts} {r : X} (hk : Facts.ok ρ Φ) (h : (askF c f args Φ).sel ρ = some r) : hasBody P f = true ∧ ∀ n h, CY P n f (X.denL ρ args) h (r.den ρ) [] := by
  unfold askF at h
  split at h
  · rename_i ha
    obtain ⟨p, h1, rfl⟩ := T.sel_map _ h
    obtain ⟨r, d⟩ := p
    have hd : d = [] := by
      unfold pureX at h1
      split at h1
      · obtain ⟨_, z, _, _, h4⟩ := T.sel_bind _ hk h1
        split at h4
        · cases h4; rfl
        · cases h4
      · cases h1
    subst hd
    exact ⟨(pureX_ok (n := 0) (h := []) hc (callS_ok hc hs 12) ha hk h1).1, fun n hp => (pureX_ok hc (callS_ok hc hs 12) ha hk h1).2⟩
  · cases h
theorem askS_ok {P : Program} {ρ : Rho} {c : Cfg2} (hc : CfgOk P ρ c.c) (hs : ∀ s ∈ c.sm, SmOk P s) {f : Nat} {args : List X} {r : X} (h : (askS c f args).sel ρ = some r) : hasBody P f = true ∧ ∀ n h, CY P n f (X.denL ρ args) h (r.den ρ) [] :=
  askF_ok hc hs (Facts.ok_nil ρ) h
/-- What is shown of one function, where the facts hold. -/
theorem runF {P : Program} {c : Cfg2} (hc : ∀ ρ, CfgOk P ρ c.c) (hs : ∀ s ∈ c.sm, SmOk P s) {f : Nat} {args : List X} {Φ : Facts} {r : X} (h : askF c f args Φ = .ret r) {ρ : Rho} (hk : Facts.ok ρ Φ) (n : Nat) (hp : Hp) : CY P n f (X.denL ρ args) hp (r.den ρ) [] :=
  (askF_ok (hc ρ) hs hk (by rw [h]; rfl)).2 n hp
/-- What is shown of one function. -/
theorem smOk {P : Program} {c : Cfg2} (hc : ∀ ρ, CfgOk P ρ c.c) (hs : ∀ s ∈ c.sm, SmOk P s) {f : Nat} {pat : List X} {r : X} (h : askS c f pat = .ret r) : SmOk P ⟨f, pat, r⟩ :=
  ⟨(askS_ok (ρ := ⟨fun _ => 0, fun _ => false, fun _ => ⟨#[]⟩, fun _ => 0, fun _ _ _ => 0, fun _ _ _ => false, fun _ _ _ => ⟨#[]⟩⟩) (hc _) hs (by rw [h]; rfl)).1, fun ρ n hp => (askS_ok (hc ρ) hs (by rw [h]; rfl)).2 n hp⟩
end Go.Proofs.Xw
