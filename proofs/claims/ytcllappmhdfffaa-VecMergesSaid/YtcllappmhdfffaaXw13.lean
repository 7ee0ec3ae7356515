/- Symbolic runs, part 13: arguments that can be read as data, as letters. -/
import Derived.Test.YtcllappmhdfffaaXw12
import Derived.ChangeReads
import Derived.ChangeShapes
import Derived.RowKit
import Derived.RowKit3
namespace Go.Proofs.Xw
open Go Go.Proofs.Aw

/-! ### Types of plain cells -/
def flatF (P : Program) (p : TypeId → Option (List Kd)) : Nat → List Field → Option (List Kd)
  | _, [] => some []
  | off, f :: fs => if f.offset = off then
      (p f.type).bind fun l => if l.length = P.cellsOf f.type then (flatF P p (off + P.cellsOf f.type) fs).map fun r => l ++ r else none
    else none
def repK : Nat → List Kd → List Kd
  | 0, _ => []
  | n + 1, l => repK n l ++ l
theorem repK_length (l : List Kd) : ∀ n, (repK n l).length = n * l.length
  | 0 => by simp [repK]
  | n + 1 => by simp only [repK, List.length_append, repK_length l n, Nat.succ_mul]
def flatT (P : Program) : Nat → TypeId → Option (List Kd)
  | 0, _ => none
  | d + 1, t => (match P.underlying t with
    | some .bool => some [.b]
    | some (.int k) => some [.i k]
    | some .string => some [.s]
    | some (.struct fs) => flatF P (flatT P d) 0 fs.toList
    | some (.array n e) => (flatT P d e).bind fun l => if l.length = P.cellsOf e then some (repK n l) else none
    | _ => none : Option (List Kd)).bind fun l => if l.length = P.cellsOf t then some l else none
def kOk : Kd → Value → Prop
  | .i k, v => ∃ n, v = .int k n ∧ (Lit.int k n).wf = true
  | .b, v => ∃ b, v = .bool b
  | .s, v => ∃ s, v = .string s ∧ s.size ≤ maxLen
def KS : List Kd → List Value → Prop
  | [], vs => vs = []
  | k :: ks, vs => ∃ v r, vs = v :: r ∧ kOk k v ∧ KS ks r
theorem KS.append : ∀ {l m : List Kd} {c d : List Value}, KS l c → KS m d → KS (l ++ m) (c ++ d)
  | [], m, c, d, h, h' => by simp only [KS] at h; subst h; exact h'
  | k :: l, m, c, d, ⟨v, r, e, hv, hr⟩, h' => by
    subst e
    exact ⟨v, r ++ d, rfl, hv, KS.append hr h'⟩
theorem KS.length : ∀ {l : List Kd} {c : List Value}, KS l c → c.length = l.length
  | [], c, h => by simp only [KS] at h; subst h; rfl
  | k :: l, c, ⟨v, r, e, _, hr⟩ => by subst e; simp [KS.length hr]
theorem KS.get : ∀ {l : List Kd} {c : List Value}, KS l c → ∀ {i : Nat} {k : Kd}, l[i]? = some k → ∃ v, c[i]? = some v ∧ kOk k v
  | [], _, _, i, k, h => by simp at h
  | k' :: l, c, ⟨v, r, e, hv, hr⟩, i, k, h => by
    subst e
    cases i with
    | zero => simp at h; subst h; exact ⟨v, rfl, hv⟩
    | succ i => simpa using KS.get hr (by simpa using h)

section
variable {H : Type} {enc : TypeId × Value → H} {P : Program}
theorem drop_take_add {α : Type} (l : List α) (off a b : Nat) : (l.drop off).take (a + b) = (l.drop off).take a ++ (l.drop (off + a)).take b := by
  rw [List.take_add, List.drop_drop]

/-- What reading shows of a plain type: its cells; nothing of the memory. -/
def FlatOk (_enc : TypeId × Value → H) (_P : Program) (r : World → Nat → (Nat → Bool) → Bool → TypeId → List Value → Option (DataW H × List MemPlace)) (t : TypeId) (ks : List Kd) : Prop :=
  ∀ w base sp held cs x, r w base sp held t cs = some x → x.2 = [] ∧ KS ks cs ∧ ∀ w' base' sp' held', r w' base' sp' held' t cs = some x
theorem flat_fields {r : World → Nat → (Nat → Bool) → Bool → TypeId → List Value → Option (DataW H × List MemPlace)} {p : TypeId → Option (List Kd)} (hp : ∀ t ks, p t = some ks → FlatOk enc P r t ks) {w : World} {base : Nat} {sp : Nat → Bool} {held : Bool} {cs : List Value} :
    ∀ (fs : List Field) (off : Nat) (ks : List Kd) (xs : List (DataW H × List MemPlace)), flatF P p off fs = some ks → fs.mapM (fun f => r w base sp held f.type ((cs.drop f.offset).take (P.cellsOf f.type))) = some xs →
    xs.flatMap (·.2) = [] ∧ KS ks ((cs.drop off).take ks.length) ∧ ∀ w' base' sp' held', fs.mapM (fun f => r w' base' sp' held' f.type ((cs.drop f.offset).take (P.cellsOf f.type))) = some xs
  | [], off, ks, xs, h, hm => by
    simp only [flatF, Option.some.injEq] at h
    subst h
    simp at hm
    subst hm
    exact ⟨rfl, by simp [KS], fun _ _ _ _ => rfl⟩
  | f :: fs, off, ks, xs, h, hm => by
    simp only [flatF] at h
    split at h
    · rename_i hoff
      subst hoff
      obtain ⟨l, hl, h⟩ := Option.bind_eq_some_iff.1 h
      split at h
      · rename_i hlen
        obtain ⟨ks', hk, rfl⟩ := Option.map_eq_some_iff.1 h
        simp only [List.mapM_cons, bind, Option.bind_eq_some_iff, pure, Option.some.injEq] at hm
        obtain ⟨y, hy, ys, hys, rfl⟩ := hm
        obtain ⟨a1, a2, a3⟩ := hp f.type l hl w base sp held _ y hy
        obtain ⟨b1, b2, b3⟩ := flat_fields hp fs _ ks' ys hk hys
        refine ⟨by simp [List.flatMap_cons, a1, b1], ?_, fun w' base' sp' held' => ?_⟩
        · rw [List.length_append, drop_take_add, hlen]
          exact KS.append a2 b2
        · simp only [List.mapM_cons, bind, a3 w' base' sp' held', b3 w' base' sp' held', Option.bind_some, pure]
      · cases h
    · cases h
theorem mapM_snoc {α β : Type} (f : α → Option β) (l : List α) (a : α) (r : List β) : (l ++ [a]).mapM f = some r ↔ ∃ xs y, l.mapM f = some xs ∧ f a = some y ∧ r = xs ++ [y] := by
  rw [List.mapM_append]
  simp only [bind, Option.bind_eq_some_iff, List.mapM_cons, List.mapM_nil, pure, Option.some.injEq]
  constructor
  · rintro ⟨xs, hx, ys, ⟨y, hy, zs, rfl, rfl⟩, rfl⟩; exact ⟨xs, y, hx, hy, rfl⟩
  · rintro ⟨xs, y, hx, hy, rfl⟩; exact ⟨xs, hx, _, ⟨y, hy, _, rfl, rfl⟩, rfl⟩
theorem flat_elems {r : World → Nat → (Nat → Bool) → Bool → TypeId → List Value → Option (DataW H × List MemPlace)} {e : TypeId} {l : List Kd} (hp : FlatOk enc P r e l) (hl : l.length = P.cellsOf e) {w : World} {base : Nat} {sp : Nat → Bool} {held : Bool} {cs : List Value} :
    ∀ (n : Nat) (xs : List (DataW H × List MemPlace)), (List.range n).mapM (fun i => r w base sp held e ((cs.drop (i * P.cellsOf e)).take (P.cellsOf e))) = some xs →
    xs.flatMap (·.2) = [] ∧ KS (repK n l) (cs.take (n * l.length)) ∧ ∀ w' base' sp' held', (List.range n).mapM (fun i => r w' base' sp' held' e ((cs.drop (i * P.cellsOf e)).take (P.cellsOf e))) = some xs
  | 0, xs, hm => by
    simp at hm
    subst hm
    exact ⟨rfl, by simp [KS, repK], fun _ _ _ _ => rfl⟩
  | n + 1, xs, hm => by
    rw [List.range_succ, mapM_snoc] at hm
    obtain ⟨ys, y, hys, hy, rfl⟩ := hm
    obtain ⟨b1, b2, b3⟩ := flat_elems hp hl n ys hys
    obtain ⟨a1, a2, a3⟩ := hp w base sp held _ y hy
    refine ⟨by simp [List.flatMap_append, a1, b1], ?_, fun w' base' sp' held' => ?_⟩
    · simp only [repK, Nat.succ_mul]
      rw [List.take_add, hl]
      rw [hl] at b2
      exact KS.append b2 a2
    · rw [List.range_succ, mapM_snoc]
      exact ⟨ys, y, b3 w' base' sp' held', a3 w' base' sp' held', rfl⟩
theorem flat_trod : ∀ (d n : Nat) (t : TypeId) (ks : List Kd), flatT P d t = some ks → FlatOk enc P (fun w base sp held => DataW.trod enc P w base sp held n) t ks
  | 0, _, _, _, h => by simp [flatT] at h
  | d + 1, 0, t, ks, h => by intro w base sp held cs x hx; simp [DataW.trod] at hx
  | d + 1, n + 1, t, ks, h => by
    intro w base sp held cs x hx
    simp only [flatT] at h
    obtain ⟨l, hl, h⟩ := Option.bind_eq_some_iff.1 h
    have hks : l = ks ∧ ks.length = P.cellsOf t := by
      split at h
      · rename_i he; cases h; exact ⟨rfl, he⟩
      · cases h
    obtain ⟨rfl, hlen⟩ := hks
    clear h
    have goal : x.2 = [] ∧ KS l cs ∧ ∀ w' base' sp' held', DataW.trod enc P w' base' sp' held' (n + 1) t cs = some x := by
      simp only [DataW.trod_step] at hx ⊢
      unfold DataW.trodStep at hx ⊢
      cases hu : P.underlying t with
      | none => rw [hu] at hl; cases hl
      | some ds =>
        rw [hu] at hl hx
        cases ds <;> simp only [reduceCtorEq] at hl
        case bool =>
          cases hl
          match cs, hx with
          | [.bool b], hx => cases hx; exact ⟨rfl, ⟨_, _, rfl, ⟨b, rfl⟩, rfl⟩, fun _ _ _ _ => rfl⟩
        case int k =>
          cases hl
          match cs, hx with
          | [.int k' i], hx =>
            simp only at hx
            split at hx
            · rename_i hc
              cases hx
              obtain ⟨rfl, hw⟩ := hc
              exact ⟨rfl, ⟨_, _, rfl, ⟨i, rfl, hw⟩, rfl⟩, fun _ _ _ _ => by simp [hw]⟩
            · cases hx
        case string =>
          cases hl
          match cs, hx with
          | [.string s], hx =>
            simp only at hx
            split at hx
            · rename_i hc
              cases hx
              exact ⟨rfl, ⟨_, _, rfl, ⟨s, rfl, hc⟩, rfl⟩, fun _ _ _ _ => by simp [hc]⟩
            · cases hx
        case struct fs =>
          simp only at hx
          split at hx
          · rename_i hc
            obtain ⟨xs, hxs, rfl⟩ := Option.map_eq_some_iff.1 hx
            obtain ⟨a1, a2, a3⟩ := flat_fields (enc := enc) (P := P) (r := fun w base sp held => DataW.trod enc P w base sp held n) (p := flatT P d) (fun t ks h => flat_trod d n t ks h) fs.toList 0 l xs hl hxs
            refine ⟨a1, ?_, fun w' base' sp' held' => ?_⟩
            · rw [List.drop_zero, List.take_of_length_le (by omega)] at a2; exact a2
            · simp only [hc, if_true]; rw [a3 w' base' sp' held']; rfl
          · cases hx
        case array m e =>
          obtain ⟨l', hl', hl⟩ := Option.bind_eq_some_iff.1 hl
          split at hl
          · rename_i hz
            cases hl
            simp only at hx
            split at hx
            · rename_i hc
              obtain ⟨xs, hxs, rfl⟩ := Option.map_eq_some_iff.1 hx
              obtain ⟨a1, a2, a3⟩ := flat_elems (enc := enc) (P := P) (r := fun w base sp held => DataW.trod enc P w base sp held n) (flat_trod d n e l' hl') hz m xs hxs
              refine ⟨a1, ?_, fun w' base' sp' held' => ?_⟩
              · rw [repK_length] at hlen
                rw [List.take_of_length_le (by omega)] at a2; exact a2
              · simp only [hc, if_true]; rw [a3 w' base' sp' held']; rfl
            · cases hx
          · cases hl
    exact goal
end
end Go.Proofs.Xw
