/- Symbolic runs, part 4: reading, writing, places. -/
import Derived.Test.YtcllappmhdfffaaXw3
namespace Go.Proofs.Xw
open Go Go.Proofs.Aw

/-! ### What is known of a type -/
structure TI where
  cells : Nat
  agg : Option Bool
  zero : Option (List Value)
  arr : Option (Nat × Nat)
  arrA : Option Bool
  sl : Option (Nat × Nat)
  rc : Option (List (Nat × Nat))
  rcA : Option (List (Option Bool))
  str : Bool
  bl : Bool
  lv : Option (List Nat)
  by_ : Nat
  ik : Option IntKind
  und : Bool
def zeroV (P : Program) (t : TypeId) : Option (List Value) := (P.info? t).bind fun i => i.zero.map fun v => v.cells.toList
theorem zeroC_eq (P : Program) (t : TypeId) : zeroC P t = (zeroV P t).map fun l => l.map AV.sc := by
  unfold zeroC zeroV
  cases P.info? t with
  | none => rfl
  | some i => cases h : i.zero <;> simp [h]
def ikOf (P : Program) (t : TypeId) : Option IntKind := match P.underlying t with | some (.int k) => some k | _ => none
def tiOf (P : Program) (t : TypeId) : TI :=
  { cells := P.cellsOf t, agg := aggT P t, zero := zeroV P t, arr := arrT P t, arrA := arrA P t, sl := slT P t, rc := recT P t, rcA := recA P t, str := strT P t, bl := boolT P t, lv := leavesG P t, by_ := bytesT P t, ik := ikOf P t, und := (P.underlying t).isSome }

/-! ### The heap, and how it turns -/
abbrev XHp := List (Nm × List X)
abbrev XDl := List (Nm × Option (List X))
abbrev XTp := List (Nat × X)
/-- An object of rows. -/
def isRows : List X → Bool
  | [.rows _ _ _] => true
  | _ => false
def denO (ρ : Rho) : List X → List AV
  | [.rows _ n l] => (rowsD ρ n l).flatten
  | cs => X.denL ρ cs
theorem denO_of {ρ : Rho} {cs : List X} (h : isRows cs = false) : denO ρ cs = X.denL ρ cs := by
  unfold denO
  split
  · simp [isRows] at h
  · rfl
def hgetO : XHp → Nm → Option (List X)
  | [], _ => none
  | (m, v) :: l, n => if nmbeq m n = true then some v else hgetO l n
def noRows (cs : List X) : Option (List X) := if isRows cs = true then none else some cs
def hgetX (h : XHp) (n : Nm) : Option (List X) := match hgetO h n with
  | some cs => noRows cs
  | none => none
theorem noRows_eq {cs ds : List X} (h : noRows cs = some ds) : cs = ds ∧ isRows ds = false := by
  unfold noRows at h
  split at h
  · cases h
  · rename_i hr; cases h; exact ⟨rfl, by simpa using hr⟩
theorem hgetX_O {h : XHp} {n : Nm} {cs : List X} (hg : hgetX h n = some cs) : hgetO h n = some cs ∧ isRows cs = false := by
  unfold hgetX at hg
  split at hg
  · rename_i ds hd
    obtain ⟨h1, h2⟩ := noRows_eq hg
    subst h1
    exact ⟨hd, h2⟩
  · cases hg
def hdelX : XHp → Nm → XHp
  | [], _ => []
  | (m, v) :: l, n => if nmbeq m n = true then hdelX l n else (m, v) :: hdelX l n
def hsetX : XHp → Nm → List X → XHp
  | [], n, v => [(n, v)]
  | (m, u) :: l, n, v => if nmbeq m n = true then (m, v) :: l else (m, u) :: hsetX l n v
def hapX : XDl → XHp → XHp
  | [], h => h
  | (n, some v) :: d, h => hapX d (hsetX h n v)
  | (n, none) :: d, h => hapX d (hdelX h n)
def denH (ρ : Rho) (h : XHp) : Hp := h.map fun p => (p.1, denO ρ p.2)
def denD (ρ : Rho) (d : XDl) : Dl := d.map fun p => (p.1, p.2.map (denO ρ))
def denT (ρ : Rho) (t : XTp) : Tp := t.map fun p => (p.1, p.2.den ρ)
theorem nmbeq_iff {a b : Nm} : nmbeq a b = true ↔ a = b := ⟨nmbeq_eq, fun h => by subst h; simp [nmbeq]⟩
theorem hget_denO (ρ : Rho) (n : Nm) : ∀ h : XHp, hget (denH ρ h) n = (hgetO h n).map (denO ρ)
  | [] => rfl
  | (m, v) :: l => by
    have ih := hget_denO ρ n l
    simp only [denH, List.map_cons, hget, hgetO, nmbeq_iff] at ih ⊢
    by_cases e : m = n
    · rw [if_pos e, if_pos e]; rfl
    · rw [if_neg e, if_neg e]; exact ih
theorem hget_denH {ρ : Rho} {n : Nm} {h : XHp} {cs : List X} (hg : hgetX h n = some cs) : hget (denH ρ h) n = some (X.denL ρ cs) := by
  obtain ⟨h1, h2⟩ := hgetX_O hg
  rw [hget_denO, h1, Option.map_some, denO_of h2]
theorem denH_hdel (ρ : Rho) (n : Nm) : ∀ h : XHp, denH ρ (hdelX h n) = hdel (denH ρ h) n
  | [] => rfl
  | (m, v) :: l => by
    have ih := denH_hdel ρ n l
    simp only [denH, List.map_cons, hdel, hdelX, nmbeq_iff] at ih ⊢
    by_cases e : m = n
    · rw [if_pos e, if_pos e]; exact ih
    · rw [if_neg e, if_neg e, List.map_cons, ih]
theorem denH_hset (ρ : Rho) (n : Nm) (v : List X) : ∀ h : XHp, denH ρ (hsetX h n v) = hset (denH ρ h) n (denO ρ v)
  | [] => rfl
  | (m, u) :: l => by
    have ih := denH_hset ρ n v l
    simp only [denH, List.map_cons, hset, hsetX, nmbeq_iff] at ih ⊢
    by_cases e : m = n
    · rw [if_pos e, if_pos e]; rfl
    · rw [if_neg e, if_neg e, List.map_cons, ih]
theorem denH_hap (ρ : Rho) : ∀ (d : XDl) (h : XHp), denH ρ (hapX d h) = hap (denD ρ d) (denH ρ h)
  | [], _ => rfl
  | (n, some v) :: d, h => by
    have ih := denH_hap ρ d (hsetX h n v)
    simp only [hapX, denD, List.map_cons, Option.map_some, hap] at ih ⊢
    rw [ih, denH_hset]
  | (n, none) :: d, h => by
    have ih := denH_hap ρ d (hdelX h n)
    simp only [hapX, denD, List.map_cons, Option.map_none, hap] at ih ⊢
    rw [ih, denH_hdel]
def tgetX : XTp → Nat → X
  | [], _ => .top
  | (j, v) :: l, i => if Nat.beq j i = true then v else tgetX l i
theorem tget_denT (ρ : Rho) (i : Nat) : ∀ t : XTp, tget (denT ρ t) i = (tgetX t i).den ρ
  | [] => rfl
  | (j, v) :: l => by
    have ih := tget_denT ρ i l
    simp only [denT, List.map_cons, tget, tgetX] at ih ⊢
    by_cases e : j = i
    · rw [if_pos e, if_pos (by simpa using e)]
    · rw [if_neg e, if_neg (by simpa using e)]; exact ih
def tputX (d : Option Tmp) (v : X) (t : XTp) : XTp :=
  match d with
  | some d => (d, v) :: t
  | none => t
theorem denT_put (ρ : Rho) (d : Option Tmp) (v : X) (t : XTp) : denT ρ (tputX d v t) = tput d (v.den ρ) (denT ρ t) := by cases d <;> rfl

/-! ### Cells of a value -/
def X.cells : X → List X
  | .agg cs => cs
  | v => [v]
def X.one : X → Bool
  | .top | .agg _ | .tup _ | .gd _ _ | .rows _ _ _ => false
  | .k v => v.oneCell'
  | _ => true
theorem X.one_den (ρ : Rho) (x : X) (h : x.one = true) : (x.den ρ).one = true := by
  cases x with
  | sc s => cases s <;> rfl
  | k v => exact h
  | gd c x => cases h
  | top => cases h
  | agg cs => cases h
  | tup cs => cases h
  | rows z n l => cases h
  | _ => rfl
theorem isRows_one {l : List X} (h : l.all X.one = true) : isRows l = false := by
  unfold isRows
  split
  · simp [X.one] at h
  · rfl
theorem X.all_one (ρ : Rho) : ∀ l : List X, l.all X.one = true → (X.denL ρ l).all AV.one = true
  | [], _ => rfl
  | x :: xs, h => by
    simp only [List.all_cons, Bool.and_eq_true] at h
    simp only [X.denL, List.all_cons, X.one_den ρ x h.1, X.all_one ρ xs h.2, Bool.and_self]
theorem X.cells_den (ρ : Rho) (x : X) (h : x.cells.all X.one = true) : (x.den ρ).cells = X.denL ρ x.cells := by
  cases x with
  | gd c x => simp [X.cells, X.one] at h
  | _ => rfl

/-! ### Places -/
def shiftAs (k : Nat) : List (BE × Nat) → List (BE × Nat)
  | [] => []
  | (c, o) :: r => (c, o + k) :: shiftAs k r
theorem choose_shift (ρ : Rho) (k d : Nat) : ∀ as, choose ρ (shiftAs k as) (d + k) = choose ρ as d + k
  | [] => rfl
  | (c, o) :: r => by
    simp only [shiftAs, choose, choose_shift ρ k d r]
    split <;> rfl
/-- Places o, o + z, .., each where e is its number. -/
def altRow (g : BE → BE) (e : IE) (z o : Nat) : Nat → List (BE × Nat) → List (BE × Nat)
  | 0, r => r
  | m + 1, r => altRow g e z o m ((g (mkEq e (.lit m)), o + m * z) :: r)
theorem choose_altRow {ρ : Rho} {g : BE → BE} {v : Bool} (hg : ∀ b, (g b).den ρ = (v && b.den ρ)) {e : IE} {j : Nat} (he : e.den ρ = j) (z o d : Nat) : ∀ (m : Nat) (r : List (BE × Nat)),
    choose ρ (altRow g e z o m r) d = if v = true ∧ j < m then o + j * z else choose ρ r d
  | 0, r => by simp [altRow]
  | m + 1, r => by
    rw [altRow, choose_altRow hg he z o d m]
    simp only [choose, hg, mkEq_den, he, IE.den]
    by_cases hv : v = true
    · subst hv
      by_cases h1 : j < m
      · rw [if_pos ⟨rfl, h1⟩, if_pos ⟨rfl, by omega⟩]
      · rw [if_neg (by simp [h1])]
        by_cases h2 : j = m
        · subst h2; simp
        · have h3 : ¬ (j < m + 1) := by omega
          have h4 : ((j : Int) == (m : Int)) = false := by
            rw [beq_eq_false_iff_ne]; intro h; apply h2; exact_mod_cast h
          simp [h3, h4]
    · have hf : v = false := by simpa using hv
      subst hf; simp
def idxAs (e : IE) (z len : Nat) : List (BE × Nat) → Nat → List (BE × Nat)
  | [], d => altRow (fun b => b) e z d (len - 1) []
  | (c, o) :: r, d => altRow (mkAnd c) e z o (len - 1) ((c, o + (len - 1) * z) :: idxAs e z len r d)
theorem choose_idx {ρ : Rho} {e : IE} {z len : Nat} {j : Nat} (he : e.den ρ = j) (hj : j < len) (d : Nat) : ∀ as, choose ρ (idxAs e z len as d) (d + (len - 1) * z) = choose ρ as d + j * z
  | [] => by
    rw [idxAs, choose_altRow (v := true) (fun b => by simp) he]
    simp only [choose, true_and]
    split
    · rfl
    · rw [show len - 1 = j from by omega]
  | (c, o) :: r => by
    rw [idxAs, choose_altRow (v := c.den ρ) (fun b => by rw [mkAnd_den]) he]
    simp only [choose, choose_idx he hj d r]
    by_cases hc : c.den ρ = true
    · simp only [hc, true_and, if_true]
      split
      · rfl
      · rw [show len - 1 = j from by omega]
    · simp [hc]

/-! ### Reading -/
def rdX : Option Bool → Nat → List X → Nat → Option X
  | some true, z, cs, off => if Nat.blt 0 z && Nat.ble (off + z) cs.length then some (.agg ((cs.drop off).take z)) else none
  | some false, _, cs, off => cs[off]?
  | none, _, _, _ => none
theorem rdX_den {ρ : Rho} {b : Option Bool} {z : Nat} {cs : List X} {off : Nat} {v : X} (h : rdX b z cs off = some v) : rdN b z (X.denL ρ cs) off = some (v.den ρ) := by
  unfold rdX at h
  split at h
  · split at h
    · rename_i hc
      simp only [Bool.and_eq_true, Nat.blt_eq, Nat.ble_eq] at hc
      cases h
      simp only [rdN, X.denL_len, X.den, X.denL_take, X.denL_drop]
      rw [if_pos ⟨by simpa [Nat.blt_eq] using hc.1, hc.2⟩]
    · cases h
  · simp only [rdN, X.denL_get, h, Option.map_some]
  · cases h
def rdAs (b : Option Bool) (z : Nat) (cs : List X) : List (BE × Nat) → Nat → Option X
  | [], d => rdX b z cs d
  | (c, o) :: r, d => match rdX b z cs o, rdAs b z cs r d with
    | some x, some y => X.mix c x y
    | _, _ => none
theorem rdAs_den {ρ : Rho} {b : Option Bool} {z : Nat} {cs : List X} {d : Nat} : ∀ {as : List (BE × Nat)} {v : X}, rdAs b z cs as d = some v → rdN b z (X.denL ρ cs) (choose ρ as d) = some (v.den ρ)
  | [], v, h => rdX_den h
  | (c, o) :: r, v, h => by
    simp only [rdAs] at h
    split at h
    · rename_i x y h1 h2
      rw [X.mix_den _ _ _ h]
      simp only [choose]
      split
      · exact rdX_den h1
      · exact rdAs_den h2
    · cases h
def loadX (i : TI) (h : XHp) : X → Option X
  | .ptr n as d => match hgetX h n with
    | some cs => rdAs i.agg i.cells cs as d
    | none => none
  | .ip cs as d => rdAs i.agg i.cells cs as d
  | _ => none
theorem loadX_den {P : Program} {ρ : Rho} {ty : TypeId} {h : XHp} {x v : X} (hv : loadX (tiOf P ty) h x = some v) : loadN P (denH ρ h) ty (x.den ρ) = some (v.den ρ) := by
  unfold loadX at hv
  split at hv
  · split at hv
    · rename_i cs hg
      simp only [X.den, loadN, hget_denH hg, rdO]
      exact rdAs_den hv
    · cases hv
  · simp only [X.den, loadN]
    exact rdAs_den hv
  · cases hv

/-! ### Writing -/
def spliceX (cs : List X) (off : Nat) (vs : List X) : List X := cs.take off ++ (vs ++ cs.drop (off + vs.length))
theorem spliceX_den (ρ : Rho) (cs : List X) (off : Nat) (vs : List X) : X.denL ρ (spliceX cs off vs) = spliceL (X.denL ρ cs) off (X.denL ρ vs) := by
  simp only [spliceX, spliceL, X.denL_append, X.denL_take, X.denL_drop, X.denL_len]
def wr1 (z : Nat) (cs ys : List X) (o : Nat) : Option (List X) := if Nat.blt 0 z && (Nat.beq ys.length z && (Nat.ble (o + z) cs.length && ys.all X.one)) then some (spliceX cs o ys) else none
theorem wr1_den {ρ : Rho} {z : Nat} {cs ys cs' : List X} {o : Nat} {m : Nm} (h : wr1 z cs ys o = some cs') : wrN z m o (X.denL ρ ys) (some (X.denL ρ cs)) = some [(m, some (X.denL ρ cs'))] := by
  unfold wr1 at h
  split at h
  · rename_i hc
    simp only [Bool.and_eq_true, Nat.ble_eq] at hc
    cases h
    simp only [wrN, X.denL_len, spliceX_den]
    rw [if_pos ⟨by simpa [Nat.blt_eq] using hc.1, Nat.eq_of_beq_eq_true hc.2.1, hc.2.2.1, X.all_one ρ _ hc.2.2.2⟩]
  · cases h
def wrAs (z : Nat) (cs ys : List X) : List (BE × Nat) → Nat → Option (List X)
  | [], d => wr1 z cs ys d
  | (c, o) :: r, d => match wr1 z cs ys o, wrAs z cs ys r d with
    | some x, some y => X.mixL c x y
    | _, _ => none
theorem wrAs_den {ρ : Rho} {z : Nat} {cs ys : List X} {d : Nat} {m : Nm} : ∀ {as : List (BE × Nat)} {cs' : List X}, wrAs z cs ys as d = some cs' → wrN z m (choose ρ as d) (X.denL ρ ys) (some (X.denL ρ cs)) = some [(m, some (X.denL ρ cs'))]
  | [], _, h => wr1_den h
  | (c, o) :: r, v, h => by
    simp only [wrAs] at h
    split at h
    · rename_i x y h1 h2
      rw [X.mixL_den _ _ _ h]
      simp only [choose]
      split
      · exact wr1_den h1
      · exact wrAs_den h2
    · cases h
def storeX (i : TI) (h : XHp) : X → List X → Option XDl
  | .ptr n as d, ys => if ys.all X.one = true then match hgetX h n with
    | some cs => match wrAs i.cells cs ys as d with
      | some cs' => if isRows cs' = true then none else some [(n, some cs')]
      | none => none
    | none => none
    else none
  | _, _ => none
theorem storeX_den {P : Program} {ρ : Rho} {ty : TypeId} {h : XHp} {x : X} {ys : List X} {d : XDl} (hv : storeX (tiOf P ty) h x ys = some d) : ys.all X.one = true ∧ storeN P (denH ρ h) ty (x.den ρ) (X.denL ρ ys) = some (denD ρ d) := by
  unfold storeX at hv
  split at hv
  · split at hv
    · rename_i hone
      split at hv
      · rename_i cs hg
        split at hv
        · rename_i cs' hw
          split at hv
          · cases hv
          · rename_i hr
            cases hv
            refine ⟨hone, ?_⟩
            simp only [X.den, storeN, hget_denH hg, denD, List.map_cons, List.map_nil, Option.map_some, denO_of (ρ := ρ) (show isRows cs' = false by simpa using hr)]
            exact wrAs_den hw
        · cases hv
      · cases hv
    · cases hv
  · cases hv

/-! ### The place of an element -/
def inB {α : Type} (Φ : Facts) (e n : IE) (k : Facts → T α) : T α := want Φ (mkNot (mkLt e (.lit 0))) fun Φ => want Φ (mkLt e n) k
theorem sel_inB {α : Type} {ρ : Rho} {Φ : Facts} {e n : IE} {k : Facts → T α} {a : α} (hk : Facts.ok ρ Φ) (h : (inB Φ e n k).sel ρ = some a) : ∃ Φ' j, Facts.ok ρ Φ' ∧ e.den ρ = (j : Nat) ∧ (j : Int) < n.den ρ ∧ (k Φ').sel ρ = some a := by
  unfold inB at h
  obtain ⟨Φ1, hk1, h1, h⟩ := sel_want hk h
  obtain ⟨Φ2, hk2, h2, h⟩ := sel_want hk1 h
  rw [mkNot_den, mkLt_den] at h1
  rw [mkLt_den] at h2
  have h1 : ¬ (IE.den ρ e < IE.den ρ (.lit 0)) := fun hh => by rw [decide_eq_true hh] at h1; cases h1
  have h2 := of_decide_eq_true h2
  simp only [IE.den] at h1
  exact ⟨Φ2, (e.den ρ).toNat, hk2, by omega, by omega, h⟩
def ptrAt (n : Nm) (as : List (BE × Nat)) (d : Nat) (e : IE) (z len : Nat) : X :=
  match e with
  | .lit j => .ptr n (shiftAs (j.toNat * z) as) (d + j.toNat * z)
  | e => .ptr n (idxAs e z len as d) (d + (len - 1) * z)
theorem ptrAt_den {ρ : Rho} {n : Nm} {as : List (BE × Nat)} {d : Nat} {e : IE} {z len j : Nat} (he : e.den ρ = j) (hj : j < len) : (ptrAt n as d e z len).den ρ = .ptr n (choose ρ as d + j * z) := by
  unfold ptrAt
  split
  · rename_i i
    simp only [IE.den] at he
    simp only [X.den, choose_shift, he, Int.toNat_natCast]
  · simp only [X.den, choose_idx he hj]
def ipAt (cs : List X) (as : List (BE × Nat)) (d : Nat) (e : IE) (z len : Nat) : X :=
  match e with
  | .lit j => .ip cs (shiftAs (j.toNat * z) as) (d + j.toNat * z)
  | e => .ip cs (idxAs e z len as d) (d + (len - 1) * z)
theorem ipAt_den {ρ : Rho} {cs : List X} {as : List (BE × Nat)} {d : Nat} {e : IE} {z len j : Nat} (he : e.den ρ = j) (hj : j < len) : (ipAt cs as d e z len).den ρ = .ip (X.denL ρ cs) (choose ρ as d + j * z) := by
  unfold ipAt
  split
  · rename_i i
    simp only [IE.den] at he
    simp only [X.den, choose_shift, he, Int.toNat_natCast]
  · simp only [X.den, choose_idx he hj]
/-- The row of a number, of rows that are all there. -/
def muxR (e : IE) : Nat → List (List X) → Option (List X)
  | _, [] => none
  | _, [r] => some r
  | j, r :: rs => match muxR e (j + 1) rs with
    | some y => X.mixL (mkEq e (.lit j)) r y
    | none => none
theorem muxR_den {ρ : Rho} {e : IE} : ∀ (es : List (List X)) (j t : Nat) (r : List X), e.den ρ = ((j + t : Nat) : Int) → t < es.length → muxR e j es = some r → (X.denE ρ es)[t]? = some (X.denL ρ r)
  | [], j, t, r, _, ht, _ => by simp at ht
  | [a], j, t, r, _, ht, h => by
    simp only [muxR, Option.some.injEq] at h
    subst h
    obtain rfl : t = 0 := by simpa using ht
    rfl
  | a :: b :: rs, j, t, r, he, ht, h => by
    simp only [muxR] at h
    split at h
    · rename_i y hy
      rw [X.mixL_den _ _ _ h]
      cases t with
      | zero =>
        have hc : (mkEq e (.lit j)).den ρ = true := by rw [mkEq_den, he]; simp [IE.den]
        rw [if_pos hc]; rfl
      | succ t =>
        have hc : ¬ (mkEq e (.lit j)).den ρ = true := by rw [mkEq_den, he]; simp only [IE.den, beq_iff_eq]; omega
        rw [if_neg hc]
        simp only [X.denE, List.getElem?_cons_succ]
        have := muxR_den (b :: rs) (j + 1) t y (by rw [he]; congr 1; omega) (by simpa using ht) hy
        simpa only [X.denE] using this
    · cases h
def rowAt (e : IE) (es : List (List X)) : Option (List X) :=
  match e with
  | .lit j => es[j.toNat]?
  | e => muxR e 0 es
theorem rowAt_den {ρ : Rho} {e : IE} {es : List (List X)} {j : Nat} {r : List X} (he : e.den ρ = j) (hj : j < es.length) (h : rowAt e es = some r) : (X.denE ρ es)[j]? = some (X.denL ρ r) := by
  unfold rowAt at h
  split at h
  · rename_i i
    simp only [IE.den] at he
    rw [he, Int.toNat_natCast] at h
    rw [X.denE_get, h]; rfl
  · exact muxR_den es 0 j r (by rw [he]; simp) hj h
/-- A row, in the light of what is known. -/
def RL.getF (Φ : Facts) : RL → IE → Option (List Sc)
  | .var l ks, j => some (cellsG l j 0 ks)
  | .one r, _ => some r
  | .app n a b, j => match red Φ (mkLt j n) with
    | .lit true => a.getF Φ j
    | .lit false => b.getF Φ (mkSub j n)
    | c => match a.getF Φ j, b.getF Φ (mkSub j n) with
      | some x, some y => mergeScs c x y
      | _, _ => none
  | .drop n a, j => a.getF Φ (mkAdd j n)
  | .upd i r a, j => match red Φ (mkEq j i) with
    | .lit true => some r
    | .lit false => a.getF Φ j
    | c => match a.getF Φ j with
      | some y => mergeScs c r y
      | none => none
  | .ite c a b, j => match red Φ c with
    | .lit true => a.getF Φ j
    | .lit false => b.getF Φ j
    | c => match a.getF Φ j, b.getF Φ j with
      | some x, some y => mergeScs c x y
      | _, _ => none
theorem RL.getF_den {ρ : Rho} {Φ : Facts} (hk : Facts.ok ρ Φ) : ∀ {l : RL} {j : IE} {r : List Sc}, l.getF Φ j = some r → scL ρ r = l.row ρ (j.den ρ)
  | .var l ks, j, r, h => by
    simp only [RL.getF, Option.some.injEq] at h
    subst h
    exact cellsG_den ρ l j 0 ks
  | .one s, j, r, h => by
    simp only [RL.getF, Option.some.injEq] at h
    subst h; rfl
  | .app n a b, j, r, h => by
    simp only [RL.getF] at h
    have hc := (red_den hk (mkLt j n)).trans (mkLt_den ρ j n)
    simp only [RL.row]
    split at h
    · rename_i hd
      rw [hd] at hc
      have := of_decide_eq_true (hc.symm)
      rw [if_pos this]
      exact RL.getF_den hk h
    · rename_i hd
      rw [hd] at hc
      have := of_decide_eq_false (hc.symm)
      rw [if_neg this, ← mkSub_den]
      exact RL.getF_den hk h
    · split at h
      · rename_i x y h1 h2
        rw [mergeScs_den h, RL.getF_den hk h1, RL.getF_den hk h2, mkSub_den, hc]
        by_cases hh : IE.den ρ j < IE.den ρ n
        · rw [if_pos (decide_eq_true hh), if_pos hh]
        · rw [if_neg (by simpa using hh), if_neg hh]
      · cases h
  | .drop n a, j, r, h => by
    simp only [RL.getF] at h
    simp only [RL.row]
    rw [← mkAdd_den]
    exact RL.getF_den hk h
  | .upd i q a, j, r, h => by
    simp only [RL.getF] at h
    have hc := (red_den hk (mkEq j i)).trans (mkEq_den ρ j i)
    simp only [RL.row]
    split at h
    · rename_i hd
      rw [hd] at hc
      cases h
      rw [if_pos (by simpa [BE.den] using hc.symm)]
    · rename_i hd
      rw [hd] at hc
      rw [if_neg (by simpa [BE.den] using hc.symm)]
      exact RL.getF_den hk h
    · split at h
      · rename_i y h2
        rw [mergeScs_den h, RL.getF_den hk h2, hc]
        by_cases hh : IE.den ρ j = IE.den ρ i
        · rw [if_pos (by simpa using hh), if_pos hh]
        · rw [if_neg (by simpa using hh), if_neg hh]
      · cases h
  | .ite c a b, j, r, h => by
    simp only [RL.getF] at h
    simp only [RL.row]
    have hc := red_den hk c
    split at h
    · rename_i hd
      rw [hd] at hc
      rw [if_pos (show BE.den ρ c = true from hc.symm)]
      exact RL.getF_den hk h
    · rename_i hd
      rw [hd] at hc
      rw [if_neg (by rw [← hc]; simp [BE.den])]
      exact RL.getF_den hk h
    · split at h
      · rename_i x y h1 h2
        rw [mergeScs_den h, RL.getF_den hk h1, RL.getF_den hk h2, hc]
      · cases h
def okPtr (h : XHp) (n : Nm) : Bool := (hgetO h n).isSome
theorem okPtr_den {ρ : Rho} {h : XHp} {n : Nm} (hk : okPtr h n = true) : (hget (denH ρ h) n).isSome = true := by
  rw [hget_denO]; unfold okPtr at hk; simpa using hk
def retO {α : Type} : Option α → T α
  | some a => .ret a
  | none => (.fail [])
theorem sel_retO {α : Type} {ρ : Rho} {o : Option α} {a : α} (h : (retO o).sel ρ = some a) : o = some a := by
  cases o with
  | none => cases h
  | some b => cases h; rfl
def idxAddrX (i : TI) (h : XHp) (Φ : Facts) (x y : X) : T X :=
  match x, y with
  | .ptr n as d, .sc (.i _ e) => match i.arr with
    | some (len, z) => if okPtr h n = true then inB Φ e (.lit len) fun _ => .ret (ptrAt n as d e z len) else (.fail [])
    | none => (.fail [])
  | .ip cs as d, .sc (.i _ e) => match i.arr with
    | some (len, z) => inB Φ e (.lit len) fun _ => .ret (ipAt cs as d e z len)
    | none => (.fail [])
  | .sl n z off len _, .sc (.i _ e) => match i.sl with
    | some (_, z') => if (Nat.beq z' z && okPtr h n) = true then inB Φ e (.lit len) fun _ => .ret (ptrAt n [] off e z len) else (.fail [])
    | none => (.fail [])
  | .ro z es _, .sc (.i _ e) => match i.sl with
    | some (_, z') => if Nat.beq z' z = true then inB Φ e (.lit es.length) fun _ => retO ((rowAt e es).map fun r => .ip r [] 0) else (.fail [])
    | none => (.fail [])
  | .rl z n l _, .sc (.i _ e) => match i.sl with
    | some (_, z') => if Nat.beq z' z = true then inB Φ e n fun Φ => retO ((l.getF Φ e).map fun r => .ip (ofSc r) [] 0) else (.fail [])
    | none => (.fail [])
  | _, _ => (.fail [])
theorem rowsD_get {ρ : Rho} {n : IE} {l : RL} {j : Nat} (hj : (j : Int) < n.den ρ) : (rowsD ρ n l)[j]? = some (l.row ρ j) := by
  unfold rowsD
  rw [List.getElem?_map, List.getElem?_range (by omega)]
  rfl
theorem idxAddrX_den {P : Program} {ρ : Rho} {ty : TypeId} {h : XHp} {Φ : Facts} {x y v : X} (hk : Facts.ok ρ Φ) (hv : (idxAddrX (tiOf P ty) h Φ x y).sel ρ = some v) : idxAddrN P (denH ρ h) ty (x.den ρ) (y.den ρ) = some (v.den ρ) := by
  unfold idxAddrX at hv
  split at hv
  · split at hv
    · rename_i n as d k e len z ha
      split at hv
      · rename_i ho
        obtain ⟨Φ', j, _, he, hj, hv⟩ := sel_inB hk hv
        cases hv
        simp only [IE.den] at hj
        rw [ptrAt_den he (by omega)]
        have ha' : arrT P ty = some (len, z) := ha
        simp only [X.den, Sc.den, idxAddrN, ha', iaP, he, okPtr_den ho, Int.toNat_natCast]
        rw [if_pos ⟨trivial, by omega, by omega⟩]
      · cases hv
    · cases hv
  · split at hv
    · rename_i cs as d k e len z ha
      obtain ⟨Φ', j, _, he, hj, hv⟩ := sel_inB hk hv
      cases hv
      simp only [IE.den] at hj
      rw [ipAt_den he (by omega)]
      have ha' : arrT P ty = some (len, z) := ha
      simp only [X.den, Sc.den, idxAddrN, ha', iaI, he, Int.toNat_natCast]
      rw [if_pos ⟨by omega, by omega⟩]
    · cases hv
  · split at hv
    · rename_i n z off len own k e ee z' ha
      split at hv
      · rename_i ho
        simp only [Bool.and_eq_true] at ho
        have hz := Nat.eq_of_beq_eq_true ho.1
        subst hz
        obtain ⟨Φ', j, _, he, hj, hv⟩ := sel_inB hk hv
        cases hv
        simp only [IE.den] at hj
        rw [ptrAt_den he (by omega)]
        have ha' : slT P ty = some (ee, z') := ha
        simp only [X.den, Sc.den, idxAddrN, ha', iaS, he, okPtr_den ho.2, Int.toNat_natCast, choose]
        rw [if_pos ⟨trivial, trivial, by omega, by omega⟩]
      · cases hv
    · cases hv
  · split at hv
    · rename_i z es full k e ee z' ha
      split at hv
      · rename_i ho
        have hz := Nat.eq_of_beq_eq_true ho
        subst hz
        obtain ⟨Φ', j, _, he, hj, hv⟩ := sel_inB hk hv
        obtain ⟨r, hr, rfl⟩ := Option.map_eq_some_iff.1 (sel_retO hv)
        simp only [IE.den] at hj
        have hrow := rowAt_den (ρ := ρ) he (by omega) hr
        have ha' : slT P ty = some (ee, z') := ha
        simp only [X.den, Sc.den, idxAddrN, ha', iaR, he, Int.toNat_natCast, hrow, iaE, choose]
        rw [if_pos ⟨trivial, by omega⟩]
      · cases hv
    · cases hv
  · split at hv
    · rename_i z n l full k e ee z' ha
      split at hv
      · rename_i ho
        have hz := Nat.eq_of_beq_eq_true ho
        subst hz
        obtain ⟨Φ', j, hk', he, hj, hv⟩ := sel_inB hk hv
        obtain ⟨r, hr, rfl⟩ := Option.map_eq_some_iff.1 (sel_retO hv)
        have hrow := RL.getF_den (ρ := ρ) hk' hr
        rw [he] at hrow
        have ha' : slT P ty = some (ee, z') := ha
        simp only [X.den, Sc.den, idxAddrN, ha', iaR, he, Int.toNat_natCast, rowsD_get hj, iaE, choose, ofSc_den, hrow]
        rw [if_pos ⟨trivial, by omega⟩]
      · cases hv
    · cases hv
  · cases hv
def fieldAddrX (i : TI) (h : XHp) (f : Nat) (x : X) : Option X :=
  match i.rc with
  | some l => match l[f]? with
    | some (o, _) => match x with
      | .ptr n as d => if okPtr h n = true then some (.ptr n (shiftAs o as) (d + o)) else none
      | .ip cs as d => some (.ip cs (shiftAs o as) (d + o))
      | .ptrv n z j p => if okPtr h n = true then some (.ptrv n z j (p + o)) else none
      | _ => none
    | none => none
  | none => none
theorem fieldAddrX_den {P : Program} {ρ : Rho} {ty : TypeId} {h : XHp} {f : Nat} {x v : X} (hv : fieldAddrX (tiOf P ty) h f x = some v) : fieldAddrN P (denH ρ h) ty f (x.den ρ) = some (v.den ρ) := by
  unfold fieldAddrX at hv
  split at hv
  · rename_i l hl
    have hl' : recT P ty = some l := hl
    split at hv
    · rename_i o z hf
      simp only [fieldAddrN, hl', hf, faO]
      split at hv
      · split at hv
        · rename_i ho
          cases hv
          simp only [X.den, okPtr_den ho, if_true, choose_shift]
        · cases hv
      · cases hv
        simp only [X.den, choose_shift]
      · split at hv
        · rename_i ho
          cases hv
          simp only [X.den, okPtr_den ho, if_true, Nat.add_assoc]
        · cases hv
      · cases hv
    · cases hv
  · cases hv
end Go.Proofs.Xw
