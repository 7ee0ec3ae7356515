/- Symbolic runs, part 20: the names in a value, and other names in each place. -/
import Derived.Test.YtcllappmhdfffaaXw9
namespace Go.Proofs.Xw
open Go Go.Proofs.Aw

theorem nms_rows {p : Nm → Bool} {ρ : Rho} {n : IE} {l : RL} : nmsE p (rowsD ρ n l) = true := by
  have sc : ∀ r : List Sc, nmsL p (scL ρ r) = true := fun r => by
    induction r with
    | nil => rfl
    | cons s r ih => simp only [scL, List.map_cons, nmsL, nms, Bool.true_and] at ih ⊢; exact ih
  have cv : ∀ (l : Nat) (ks : List Kd) (k j : Nat), nmsL p (cellsV ρ l k ks j) = true := fun l ks => by
    induction ks with
    | nil => intro k j; rfl
    | cons kd ks ih => intro k j; cases kd <;> simp only [cellsV, nmsL, nms, Bool.true_and] <;> exact ih _ _
  have row : ∀ (l : RL) (j : Int), nmsL p (l.row ρ j) = true := fun l => by
    induction l with
    | var l ks => intro j; exact cv _ _ _ _
    | one r => intro j; exact sc r
    | app n a b ih1 ih2 => intro j; simp only [RL.row]; split <;> first | exact ih1 _ | exact ih2 _
    | drop n a ih => intro j; exact ih _
    | upd i r a ih => intro j; simp only [RL.row]; split <;> first | exact sc _ | exact ih _
    | ite c a b ih1 ih2 => intro j; simp only [RL.row]; split <;> first | exact ih1 _ | exact ih2 _
  unfold rowsD
  generalize List.range (n.den ρ).toNat = L
  induction L with
  | nil => rfl
  | cons j L ih => simp only [List.map_cons, nmsE, row, Bool.true_and]; exact ih
/-! ### Names of a value -/
mutual
def X.nms (p : Nm → Bool) : X → Bool
  | .top | .k _ | .sc _ | .rl _ _ _ _ | .rows _ _ _ => true
  | .slv n _ _ _ _ => p n
  | .ptrv n _ _ _ => p n
  | .agg cs | .tup cs | .ip cs _ _ => X.nmsL p cs
  | .ptr n _ _ => p n
  | .sl n _ _ _ _ => p n
  | .ro _ es _ => X.nmsE p es
  | .fn _ xs ys => X.nmsL p xs && X.nmsL p ys
  | .gd _ x => x.nms p
def X.nmsL (p : Nm → Bool) : List X → Bool
  | [] => true
  | x :: xs => x.nms p && X.nmsL p xs
def X.nmsE (p : Nm → Bool) : List (List X) → Bool
  | [] => true
  | e :: es => X.nmsL p e && X.nmsE p es
end
mutual
theorem X.nms_den {p : Nm → Bool} (ρ : Rho) : ∀ x : X, x.nms p = true → Aw.nms p (x.den ρ) = true
  | .top, _ => rfl
  | .k _, _ => rfl
  | .sc _, _ => rfl
  | .rl _ _ _ _, _ => nms_rows
  | .rows _ _ _, _ => rfl
  | .slv _ _ _ _ _, h => h
  | .ptrv _ _ _ _, h => h
  | .agg cs, h => X.nmsL_den ρ cs h
  | .tup cs, h => X.nmsL_den ρ cs h
  | .ip cs _ _, h => X.nmsL_den ρ cs h
  | .ro _ es _, h => X.nmsE_den ρ es h
  | .fn _ xs ys, h => by
    simp only [X.nms, Bool.and_eq_true] at h
    simp only [X.den, Aw.nms, X.nmsL_den ρ xs h.1, X.nmsL_den ρ ys h.2, Bool.and_self]
  | .ptr _ _ _, h => h
  | .sl _ _ _ _ _, h => h
  | .gd c x, h => by
    simp only [X.den]
    split
    · exact X.nms_den ρ x h
    · rfl
theorem X.nmsL_den {p : Nm → Bool} (ρ : Rho) : ∀ l : List X, X.nmsL p l = true → Aw.nmsL p (X.denL ρ l) = true
  | [], _ => rfl
  | x :: xs, h => by
    simp only [X.nmsL, Bool.and_eq_true] at h
    simp only [X.denL, Aw.nmsL, X.nms_den ρ x h.1, X.nmsL_den ρ xs h.2, Bool.and_self]
theorem X.nmsE_den {p : Nm → Bool} (ρ : Rho) : ∀ l : List (List X), X.nmsE p l = true → Aw.nmsE p (X.denE ρ l) = true
  | [], _ => rfl
  | x :: xs, h => by
    simp only [X.nmsE, Bool.and_eq_true] at h
    simp only [X.denE, Aw.nmsE, X.nmsL_den ρ x h.1, X.nmsE_den ρ xs h.2, Bool.and_self]
end
mutual
def X.ren (f : Nm → Nm) : X → X
  | .agg cs => .agg (X.renL f cs)
  | .tup cs => .tup (X.renL f cs)
  | .ip cs as d => .ip (X.renL f cs) as d
  | .ptr n as d => .ptr (f n) as d
  | .sl n z off len own => .sl (f n) z off len own
  | .ro z es full => .ro z (X.renE f es) full
  | .fn g xs ys => .fn g (X.renL f xs) (X.renL f ys)
  | .gd c x => .gd c (x.ren f)
  | .top => .top
  | .k v => .k v
  | .sc s => .sc s
  | .rl z n l full => .rl z n l full
  | .rows z n l => .rows z n l
  | .slv n z o l w => .slv (f n) z o l w
  | .ptrv n z j o => .ptrv (f n) z j o
def X.renL (f : Nm → Nm) : List X → List X
  | [] => []
  | x :: xs => x.ren f :: X.renL f xs
def X.renE (f : Nm → Nm) : List (List X) → List (List X)
  | [] => []
  | e :: es => X.renL f e :: X.renE f es
end
mutual
theorem X.ren_den {f : Nm → Nm} (ρ : Rho) : ∀ x : X, (x.ren f).den ρ = Aw.ren f (x.den ρ)
  | .top => rfl
  | .k _ => rfl
  | .sc _ => rfl
  | .rl _ _ _ _ => by simp only [X.ren, X.den, Aw.ren]; rw [renE_none f _ nms_rows]
  | .rows _ _ _ => rfl
  | .slv _ _ _ _ _ => rfl
  | .ptrv _ _ _ _ => rfl
  | .agg cs => by simp only [X.ren, X.den, Aw.ren, X.renL_den ρ cs]
  | .tup cs => by simp only [X.ren, X.den, Aw.ren, X.renL_den ρ cs]
  | .ip cs _ _ => by simp only [X.ren, X.den, Aw.ren, X.renL_den ρ cs]
  | .ro _ es _ => by simp only [X.ren, X.den, Aw.ren, X.renE_den ρ es]
  | .fn _ xs ys => by simp only [X.ren, X.den, Aw.ren, X.renL_den ρ xs, X.renL_den ρ ys]
  | .ptr _ _ _ => rfl
  | .sl _ _ _ _ _ => rfl
  | .gd c x => by
    simp only [X.ren, X.den]
    split
    · exact X.ren_den ρ x
    · rfl
theorem X.renL_den {f : Nm → Nm} (ρ : Rho) : ∀ l : List X, X.denL ρ (X.renL f l) = Aw.renL f (X.denL ρ l)
  | [] => rfl
  | x :: xs => by simp only [X.renL, X.denL, Aw.renL, X.ren_den ρ x, X.renL_den ρ xs]
theorem X.renE_den {f : Nm → Nm} (ρ : Rho) : ∀ l : List (List X), X.denE ρ (X.renE f l) = Aw.renE f (X.denE ρ l)
  | [] => rfl
  | x :: xs => by simp only [X.renE, X.denE, Aw.renE, X.renL_den ρ x, X.renE_den ρ xs]
end
mutual
def X.names : X → List Nm
  | .top | .k _ | .sc _ | .rl _ _ _ _ | .rows _ _ _ => []
  | .slv n _ _ _ _ => [n]
  | .ptrv n _ _ _ => [n]
  | .agg cs | .tup cs | .ip cs _ _ => X.namesL cs
  | .ptr n _ _ => [n]
  | .sl n _ _ _ _ => [n]
  | .ro _ es _ => X.namesE es
  | .fn _ xs ys => X.namesL xs ++ X.namesL ys
  | .gd _ x => x.names
def X.namesL : List X → List Nm
  | [] => []
  | x :: xs => x.names ++ X.namesL xs
def X.namesE : List (List X) → List Nm
  | [] => []
  | e :: es => X.namesL e ++ X.namesE es
end
theorem nmsL_flat {p : Nm → Bool} : ∀ {es : List (List AV)}, nmsE p es = true → Aw.nmsL p es.flatten = true
  | [], _ => rfl
  | e :: es, h => by
    simp only [nmsE, Bool.and_eq_true] at h
    have app : ∀ (a b : List AV), Aw.nmsL p a = true → Aw.nmsL p b = true → Aw.nmsL p (a ++ b) = true := fun a b ha hb => by
      induction a with
      | nil => exact hb
      | cons x a ih =>
        simp only [Aw.nmsL, Bool.and_eq_true] at ha
        simp only [List.cons_append, Aw.nmsL, Bool.and_eq_true]
        exact ⟨ha.1, ih ha.2⟩
    rw [List.flatten_cons]
    exact app _ _ h.1 (nmsL_flat h.2)
theorem X.nmsO_den {p : Nm → Bool} (ρ : Rho) (cs : List X) (h : X.nmsL p cs = true) : Aw.nmsL p (denO ρ cs) = true := by
  unfold denO
  split
  · exact nmsL_flat nms_rows
  · exact X.nmsL_den ρ cs h
theorem X.renO_den {f : Nm → Nm} (ρ : Rho) (cs : List X) : denO ρ (X.renL f cs) = Aw.renL f (denO ρ cs) := by
  by_cases h : isRows cs = true
  · unfold isRows at h
    split at h
    · rename_i z n l
      have e : X.renL f [.rows z n l] = [.rows z n l] := rfl
      rw [e, renL_none f _ (by simp only [denO]; exact nmsL_flat nms_rows)]
    · cases h
  · have h1 : isRows cs = false := by simpa using h
    have h2 : isRows (X.renL f cs) = false := by
      match cs, h1 with
      | [], _ => rfl
      | [x], h1 => cases x <;> first | rfl | (simp [isRows] at h1)
      | x :: y :: r, _ =>
        simp only [X.renL]
        unfold isRows
        split
        · rename_i heq; simp at heq
        · rfl
    rw [denO_of h1, denO_of h2, X.renL_den]
end Go.Proofs.Xw
