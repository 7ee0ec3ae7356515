/- Symbolic runs, part 12: what is shown of a function once, used at any arguments. -/
import Derived.Test.YtcllappmhdfffaaXw11
namespace Go.Proofs.Xw
open Go Go.Proofs.Aw

/-- What is put for letters. -/
structure Sub where
  i : List (Nat × IE)
  b : List (Nat × BE)
  s : List (Nat × TE)
def assoc {α : Type} (k : Nat) : List (Nat × α) → Option α
  | [] => none
  | (j, v) :: r => if Nat.beq j k = true then some v else assoc k r
def Sub.ap (σ : Sub) (ρ : Rho) : Rho :=
  { ρ with i := fun k => match assoc k σ.i with | some e => e.den ρ | none => ρ.i k,
           b := fun k => match assoc k σ.b with | some e => e.den ρ | none => ρ.b k,
           s := fun k => match assoc k σ.s with | some e => e.den ρ | none => ρ.s k }
mutual
def IE.pu (σ : Sub) : IE → IE
  | .lit n => .lit n
  | .var i => match assoc i σ.i with | some e => e | none => .var i
  | .cl l k j => .cl l k (j.pu σ)
  | .len l => .len l
  | .slen t => mkSlen (t.pu σ)
  | .byt t j => mkByt (t.pu σ) (j.pu σ)
  | .op o k a b => mkOp o k (a.pu σ) (b.pu σ)
  | .ite c a b => mkIteI (c.pu σ) (a.pu σ) (b.pu σ)
def BE.pu (σ : Sub) : BE → BE
  | .lit b => .lit b
  | .var i => match assoc i σ.b with | some e => e | none => .var i
  | .cl l k j => .cl l k (j.pu σ)
  | .lt a b => mkLt (a.pu σ) (b.pu σ)
  | .eq a b => mkEq (a.pu σ) (b.pu σ)
  | .seq a b => mkSeq (a.pu σ) (b.pu σ)
  | .slt a b => .slt (a.pu σ) (b.pu σ)
  | .not a => mkNot (a.pu σ)
  | .and a b => mkAnd (a.pu σ) (b.pu σ)
  | .or a b => mkOr (a.pu σ) (b.pu σ)
  | .ite c a b => mkIteB (c.pu σ) (a.pu σ) (b.pu σ)
def TE.pu (σ : Sub) : TE → TE
  | .lit s => .lit s
  | .var i => match assoc i σ.s with | some e => e | none => .var i
  | .cl l k j => .cl l k (j.pu σ)
  | .sub t a b => .sub (t.pu σ) (a.pu σ) (b.pu σ)
  | .ite c a b => mkIteT (c.pu σ) (a.pu σ) (b.pu σ)
end
mutual
theorem IE.pu_den (σ : Sub) (ρ : Rho) : ∀ e : IE, (e.pu σ).den ρ = e.den (σ.ap ρ)
  | .lit n => rfl
  | .var i => by
    simp only [IE.pu, IE.den, Sub.ap]
    cases h : assoc i σ.i <;> simp only [IE.den]
  | .cl l k j => by simp only [IE.pu, IE.den, IE.pu_den σ ρ j]; rfl
  | .len l => rfl
  | .slen t => by simp only [IE.pu, mkSlen_den, IE.den, TE.pu_den σ ρ t]
  | .byt t j => by simp only [IE.pu, mkByt_den, IE.den, TE.pu_den σ ρ t, IE.pu_den σ ρ j]
  | .op o k a b => by simp only [IE.pu, mkOp_den, IE.den, IE.pu_den σ ρ a, IE.pu_den σ ρ b]
  | .ite c a b => by simp only [IE.pu, mkIteI_den, IE.den, BE.pu_den σ ρ c, IE.pu_den σ ρ a, IE.pu_den σ ρ b]
theorem BE.pu_den (σ : Sub) (ρ : Rho) : ∀ e : BE, (e.pu σ).den ρ = e.den (σ.ap ρ)
  | .lit n => rfl
  | .var i => by
    simp only [BE.pu, BE.den, Sub.ap]
    cases h : assoc i σ.b <;> simp only [BE.den]
  | .cl l k j => by simp only [BE.pu, BE.den, IE.pu_den σ ρ j]; rfl
  | .lt a b => by simp only [BE.pu, mkLt_den, BE.den, IE.pu_den σ ρ a, IE.pu_den σ ρ b]
  | .eq a b => by simp only [BE.pu, mkEq_den, BE.den, IE.pu_den σ ρ a, IE.pu_den σ ρ b]
  | .seq a b => by simp only [BE.pu, mkSeq_den, BE.den, TE.pu_den σ ρ a, TE.pu_den σ ρ b]
  | .slt a b => by simp only [BE.pu, BE.den, TE.pu_den σ ρ a, TE.pu_den σ ρ b]
  | .not a => by simp only [BE.pu, mkNot_den, BE.den, BE.pu_den σ ρ a]
  | .and a b => by simp only [BE.pu, mkAnd_den, BE.den, BE.pu_den σ ρ a, BE.pu_den σ ρ b]
  | .or a b => by simp only [BE.pu, mkOr_den, BE.den, BE.pu_den σ ρ a, BE.pu_den σ ρ b]
  | .ite c a b => by simp only [BE.pu, mkIteB_den, BE.den, BE.pu_den σ ρ c, BE.pu_den σ ρ a, BE.pu_den σ ρ b]
theorem TE.pu_den (σ : Sub) (ρ : Rho) : ∀ e : TE, (e.pu σ).den ρ = e.den (σ.ap ρ)
  | .lit n => rfl
  | .var i => by
    simp only [TE.pu, TE.den, Sub.ap]
    cases h : assoc i σ.s <;> simp only [TE.den]
  | .cl l k j => by simp only [TE.pu, TE.den, IE.pu_den σ ρ j]; rfl
  | .sub t a b => by simp only [TE.pu, TE.den, TE.pu_den σ ρ t, IE.pu_den σ ρ a, IE.pu_den σ ρ b]
  | .ite c a b => by simp only [TE.pu, mkIteT_den, TE.den, BE.pu_den σ ρ c, TE.pu_den σ ρ a, TE.pu_den σ ρ b]
end
def Sc.pu (σ : Sub) : Sc → Sc
  | .i k e => .i k (e.pu σ)
  | .b e => .b (e.pu σ)
  | .s e => .s (e.pu σ)
theorem Sc.pu_den (σ : Sub) (ρ : Rho) (s : Sc) : (s.pu σ).den ρ = s.den (σ.ap ρ) := by
  cases s <;> simp only [Sc.pu, Sc.den, IE.pu_den, BE.pu_den, TE.pu_den]
def RL.pu (σ : Sub) : RL → RL
  | .var l ks => .var l ks
  | .one r => .one (r.map (Sc.pu σ))
  | .app n a b => .app (n.pu σ) (a.pu σ) (b.pu σ)
  | .drop n a => .drop (n.pu σ) (a.pu σ)
theorem RL.pu_row (σ : Sub) (ρ : Rho) : ∀ (l : RL) (j : Int), (l.pu σ).row ρ j = l.row (σ.ap ρ) j
  | .var l ks, j => by
    simp only [RL.pu, RL.row]
    generalize j.toNat = m
    have : ∀ (ks : List Kd) (k : Nat), cellsV ρ l k ks m = cellsV (σ.ap ρ) l k ks m := fun ks => by
      induction ks with
      | nil => intro k; rfl
      | cons kd ks ih => intro k; cases kd <;> simp only [cellsV, ih] <;> rfl
    exact this ks 0
  | .one r, j => by
    simp only [RL.pu, RL.row, scL, List.map_map]
    congr 1
    funext s
    simp only [Function.comp, Sc.pu_den]
  | .app n a b, j => by
    simp only [RL.pu, RL.row, RL.pu_row σ ρ a, RL.pu_row σ ρ b, IE.pu_den]
  | .drop n a, j => by simp only [RL.pu, RL.row, RL.pu_row σ ρ a, IE.pu_den]
theorem rowsD_sub (σ : Sub) (ρ : Rho) (n : IE) (l : RL) : rowsD ρ (n.pu σ) (l.pu σ) = rowsD (σ.ap ρ) n l := by
  unfold rowsD
  rw [IE.pu_den]
  congr 1
  funext j
  exact RL.pu_row σ ρ l j
def asSub (σ : Sub) : List (BE × Nat) → List (BE × Nat)
  | [] => []
  | (c, o) :: r => (c.pu σ, o) :: asSub σ r
theorem choose_sub (σ : Sub) (ρ : Rho) (d : Nat) : ∀ as, choose ρ (asSub σ as) d = choose (σ.ap ρ) as d
  | [] => rfl
  | (c, o) :: r => by simp only [asSub, choose, BE.pu_den, choose_sub σ ρ d r]
mutual
def X.pu (σ : Sub) : X → X
  | .top => .top
  | .k v => .k v
  | .sc s => .sc (s.pu σ)
  | .agg cs => .agg (X.puL σ cs)
  | .tup cs => .tup (X.puL σ cs)
  | .ptr n as d => .ptr n (asSub σ as) d
  | .sl n z off len own => .sl n z off len own
  | .ip cs as d => .ip (X.puL σ cs) (asSub σ as) d
  | .ro z es full => .ro z (X.puE σ es) full
  | .rl z n l full => .rl z (n.pu σ) (l.pu σ) full
  | .fn f xs ys => .fn f (X.puL σ xs) (X.puL σ ys)
  | .gd c x => .gd (c.pu σ) (x.pu σ)
def X.puL (σ : Sub) : List X → List X
  | [] => []
  | x :: xs => x.pu σ :: X.puL σ xs
def X.puE (σ : Sub) : List (List X) → List (List X)
  | [] => []
  | e :: es => X.puL σ e :: X.puE σ es
end
mutual
theorem X.pu_den (σ : Sub) (ρ : Rho) : ∀ x : X, (x.pu σ).den ρ = x.den (σ.ap ρ)
  | .top => rfl
  | .k v => rfl
  | .sc s => by simp only [X.pu, X.den, Sc.pu_den]
  | .agg cs => by simp only [X.pu, X.den, X.puL_den σ ρ cs]
  | .tup cs => by simp only [X.pu, X.den, X.puL_den σ ρ cs]
  | .ptr n as d => by simp only [X.pu, X.den, choose_sub]
  | .sl n z off len own => rfl
  | .ip cs as d => by simp only [X.pu, X.den, X.puL_den σ ρ cs, choose_sub]
  | .ro z es full => by simp only [X.pu, X.den, X.puE_den σ ρ es]
  | .rl z n l full => by simp only [X.pu, X.den, rowsD_sub]
  | .fn f xs ys => by simp only [X.pu, X.den, X.puL_den σ ρ xs, X.puL_den σ ρ ys]
  | .gd c x => by simp only [X.pu, X.den, BE.pu_den, X.pu_den σ ρ x]
theorem X.puL_den (σ : Sub) (ρ : Rho) : ∀ x : List X, X.denL ρ (X.puL σ x) = X.denL (σ.ap ρ) x
  | [] => rfl
  | x :: xs => by simp only [X.puL, X.denL, X.pu_den σ ρ x, X.puL_den σ ρ xs]
theorem X.puE_den (σ : Sub) (ρ : Rho) : ∀ x : List (List X), X.denE ρ (X.puE σ x) = X.denE (σ.ap ρ) x
  | [] => rfl
  | x :: xs => by simp only [X.puE, X.denE, X.puL_den σ ρ x, X.puE_den σ ρ xs]
end

/-! ### What must be put for a pattern's letters -/
mutual
def X.fit : X → X → Sub → Option Sub
  | .sc (.i kk (.var i)), .sc (.i kk' e), σ => if kbeq kk kk' = true then some { σ with i := (i, e) :: σ.i } else none
  | .sc (.b (.var i)), .sc (.b e), σ => some { σ with b := (i, e) :: σ.b }
  | .sc (.s (.var i)), .sc (.s e), σ => some { σ with s := (i, e) :: σ.s }
  | .agg cs, .agg ds, σ => X.fitL cs ds σ
  | .tup cs, .tup ds, σ => X.fitL cs ds σ
  | .ro z es _, .ro z' ds _, σ => if Nat.beq z z' = true then X.fitE es ds σ else none
  | _, _, σ => some σ
def X.fitL : List X → List X → Sub → Option Sub
  | [], [], σ => some σ
  | a :: as, b :: bs, σ => match X.fit a b σ with
    | some σ => X.fitL as bs σ
    | none => none
  | _, _, _ => none
def X.fitE : List (List X) → List (List X) → Sub → Option Sub
  | [], [], σ => some σ
  | a :: as, b :: bs, σ => match X.fitL a b σ with
    | some σ => X.fitE as bs σ
    | none => none
  | _, _, _ => none
end
structure Sm where
  f : Nat
  pat : List X
  r : X
def SmOk (P : Program) (s : Sm) : Prop := hasBody P s.f = true ∧ ∀ (ρ : Rho) (n : Nat) (h : Hp), CY P n s.f (X.denL ρ s.pat) h (s.r.den ρ) []
/-- The answer of what is shown once: the pattern with what is put for its letters must be the arguments themselves. -/
def useSm (args : List X) (s : Sm) : Option X :=
  match X.fitL s.pat args ⟨[], [], []⟩ with
  | some σ => if X.beqL (X.puL σ s.pat) args = true then some (s.r.pu σ) else none
  | none => none
def lookS (f : Nat) (args : List X) : List Sm → Option X
  | [] => none
  | s :: l => if Nat.beq s.f f = true then (match useSm args s with
    | some r => some r
    | none => lookS f args l) else lookS f args l
theorem lookS_ok {P : Program} {ρ : Rho} {n : Nat} {h : Hp} {f : Nat} {args : List X} {r : X} : ∀ {l : List Sm}, (∀ s ∈ l, SmOk P s) → lookS f args l = some r → hasBody P f = true ∧ CY P n f (X.denL ρ args) h (r.den ρ) []
  | [], _, hl => by cases hl
  | s :: l, hs, hl => by
    have hs' : ∀ s ∈ l, SmOk P s := fun t ht => hs t (List.mem_cons_of_mem _ ht)
    simp only [lookS] at hl
    split at hl
    · rename_i hf
      have hf := Nat.eq_of_beq_eq_true hf
      split at hl
      · rename_i r' hu
        cases hl
        obtain ⟨h1, h2⟩ := hs s List.mem_cons_self
        unfold useSm at hu
        split at hu
        · rename_i σ _
          split at hu
          · rename_i hb
            cases hu
            have hb := X.beqL_eq _ _ hb
            have := h2 (σ.ap ρ) n h
            rw [hf] at this h1
            rw [← hb, X.puL_den, X.pu_den]
            exact ⟨h1, this⟩
          · cases hu
        · cases hu
      · exact lookS_ok hs' hl
    · exact lookS_ok hs' hl

/-! ### Calls with what is shown -/
structure Cfg2 where
  c : Cfg
  sm : List Sm
def stepS (c : Cfg2) (call : CallF) : CallF := fun _ f args _ Φ => match lookK f args c.c.ks with
  | some r => .ret (r, [])
  | none => match lookS f args c.sm with
    | some r => .ret (r, [])
    | none => if X.nnL args = true then pureX c.c call f args Φ else .fail ["args"]
def callS (c : Cfg2) : Nat → CallF
  | 0 => fun _ _ _ _ _ => (.fail [])
  | d + 1 => stepS c (callS c d)
theorem stepS_ok {P : Program} {ρ : Rho} {c : Cfg2} (hc : CfgOk P ρ c.c) (hs : ∀ s ∈ c.sm, SmOk P s) {call : CallF} (hcall : CallOk P ρ call) {m n : Nat} {f : FuncId} {args : List X} {h0 _h : XHp} {hp : Hp} {Φ : Facts} {r : X} {d : XDl} (hk : Facts.ok ρ Φ) (hq : (stepS c call m f args h0 Φ).sel ρ = some (r, d)) :
    d = [] ∧ hasBody P f = true ∧ CY P n f (X.denL ρ args) hp (r.den ρ) [] := by
  unfold stepS at hq
  split at hq
  · rename_i r' hl
    cases hq
    obtain ⟨h1, h2⟩ := hc.ks _ (lookK_mem hl)
    exact ⟨rfl, h1, h2 n _⟩
  · split at hq
    · rename_i r' hl
      cases hq
      exact ⟨rfl, lookS_ok hs hl⟩
    · split at hq
      · rename_i ha
        have hd : d = [] := by
          unfold pureX at hq
          split at hq
          · obtain ⟨_, z, _, _, h4⟩ := T.sel_bind _ hk hq
            split at h4
            · cases h4; rfl
            · cases h4
          · cases hq
        subst hd
        exact ⟨rfl, pureX_ok hc hcall ha hk hq⟩
      · cases hq
theorem callS_ok {P : Program} {ρ : Rho} {c : Cfg2} (hc : CfgOk P ρ c.c) (hs : ∀ s ∈ c.sm, SmOk P s) : ∀ d, CallOk P ρ (callS c d)
  | 0 => fun n f args h Φ r d _ hq => by cases hq
  | k + 1 => fun n f args h Φ r d hk hq => by
    obtain ⟨rfl, h1, h2⟩ := stepS_ok (_h := h) hc hs (callS_ok hc hs k) hk hq
    exact ⟨h1, h2⟩
/-- What a function answers, run over letters. -/
def askS (c : Cfg2) (f : Nat) (args : List X) : T X := (stepS c (callS c 12) 0 f args [] []).map (·.1)
theorem askS_ok {P : Program} {ρ : Rho} {c : Cfg2} (hc : CfgOk P ρ c.c) (hs : ∀ s ∈ c.sm, SmOk P s) {f : Nat} {args : List X} {r : X} (h : (askS c f args).sel ρ = some r) : hasBody P f = true ∧ ∀ n h, CY P n f (X.denL ρ args) h (r.den ρ) [] := by
  obtain ⟨p, h1, rfl⟩ := T.sel_map _ h
  obtain ⟨r, d⟩ := p
  exact ⟨(stepS_ok (n := 0) (hp := []) (_h := []) hc hs (callS_ok hc hs 12) (Facts.ok_nil ρ) h1).2.1, fun n hp => (stepS_ok (_h := []) hc hs (callS_ok hc hs 12) (Facts.ok_nil ρ) h1).2.2⟩
/-- What is shown of one function. -/
theorem smOk {P : Program} {c : Cfg2} (hc : ∀ ρ, CfgOk P ρ c.c) (hs : ∀ s ∈ c.sm, SmOk P s) {f : Nat} {pat : List X} {r : X} (h : askS c f pat = .ret r) : SmOk P ⟨f, pat, r⟩ :=
  ⟨(askS_ok (ρ := ⟨fun _ => 0, fun _ => false, fun _ => ⟨#[]⟩, fun _ => 0, fun _ _ _ => 0, fun _ _ _ => false, fun _ _ _ => ⟨#[]⟩⟩) (hc _) hs (by rw [h]; rfl)).1, fun ρ n hp => (askS_ok (hc ρ) hs (by rw [h]; rfl)).2 n hp⟩
end Go.Proofs.Xw
