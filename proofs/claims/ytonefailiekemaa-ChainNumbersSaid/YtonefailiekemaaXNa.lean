/- ChainNumbers: what is counted: plain facts. -/
import Derived.Test.YtonefailiekemaaXN5
namespace Go.Proofs.Ytonefailiekemaa
/-- How many of the first n are of d. -/
def cnt (D : Nat → Int) : Nat → Int → Int
  | 0, _ => 0
  | n + 1, d => cnt D n d + if D n = d then 1 else 0
theorem cnt_nn (D : Nat → Int) (d : Int) : ∀ n, 0 ≤ cnt D n d
  | 0 => Int.le_refl 0
  | n + 1 => by
    have := cnt_nn D d n
    simp only [cnt]
    split <;> omega
theorem cnt_succ (D : Nat → Int) (d : Int) (n : Nat) : cnt D n d ≤ cnt D (n + 1) d := by
  simp only [cnt]
  split <;> omega
theorem cnt_mono (D : Nat → Int) (d : Int) {m : Nat} : ∀ {n : Nat}, m ≤ n → cnt D m d ≤ cnt D n d
  | 0, h => by obtain rfl : m = 0 := by omega
               exact Int.le_refl _
  | n + 1, h => by
    rcases Nat.lt_or_ge n m with h1 | h1
    · obtain rfl : m = n + 1 := by omega
      exact Int.le_refl _
    · exact Int.le_trans (cnt_mono D d h1) (cnt_succ D d n)
theorem cnt_le (D : Nat → Int) (d : Int) : ∀ n : Nat, cnt D n d ≤ n
  | 0 => Int.le_refl 0
  | n + 1 => by
    have := cnt_le D d n
    simp only [cnt]
    split <;> omega
theorem cnt_congr {D D' : Nat → Int} (d : Int) : ∀ n : Nat, (∀ j, j < n → D' j = D j) → cnt D' n d = cnt D n d
  | 0, _ => rfl
  | n + 1, h => by
    simp only [cnt]
    rw [cnt_congr d n (fun j hj => h j (by omega)), h n (by omega)]
/-- Numbered writes: of each datacenter from 1 on; what they stand on; the own ones' stamps rise. -/
structure Num (dc rng : Int) (D R S C : Nat → Int) (V : Nat → Nat → Int) (n : Nat) : Prop where
  d : ∀ j, j < n → 0 ≤ D j ∧ D j < 3
  r : ∀ j, j < n → R j = rng
  s : ∀ j, j < n → S j = cnt D j (D j) + 1
  v : ∀ j, j < n → ∀ k : Nat, k < 3 → V k j ≤ cnt D j k
  o : ∀ j, j < n → D j = dc → (∀ k : Nat, k < 3 → V k j = cnt D j k) ∧ 0 < C j ∧ ∀ i, i < j → C i < C j
theorem Num.congr {dc rng : Int} {D R S C D' R' S' C' : Nat → Int} {V V' : Nat → Nat → Int} {n : Nat} (h : Num dc rng D R S C V n) (hD : ∀ j, j < n → D' j = D j) (hR : ∀ j, j < n → R' j = R j) (hS : ∀ j, j < n → S' j = S j)
    (hC : ∀ j, j < n → C' j = C j) (hV : ∀ k, k < 3 → ∀ j, j < n → V' k j = V k j) : Num dc rng D' R' S' C' V' n where
  d j hj := by rw [hD j hj]; exact h.d j hj
  r j hj := by rw [hR j hj]; exact h.r j hj
  s j hj := by rw [hS j hj, hD j hj, cnt_congr _ j (fun i hi => hD i (by omega))]; exact h.s j hj
  v j hj k hk := by rw [hV k hk j hj, cnt_congr _ j (fun i hi => hD i (by omega))]; exact h.v j hj k hk
  o j hj hd := by
    rw [hD j hj] at hd
    obtain ⟨h1, h2, h3⟩ := h.o j hj hd
    refine ⟨fun k hk => ?_, by rw [hC j hj]; exact h2, fun i hi => by rw [hC i (by omega), hC j hj]; exact h3 i hi⟩
    rw [hV k hk j hj, cnt_congr _ j (fun i hi => hD i (by omega))]; exact h1 k hk
theorem Num.snoc {dc rng : Int} {D R S C : Nat → Int} {V : Nat → Nat → Int} {n : Nat} (h : Num dc rng D R S C V n) (d : 0 ≤ D n ∧ D n < 3) (r : R n = rng) (s : S n = cnt D n (D n) + 1) (v : ∀ k : Nat, k < 3 → V k n ≤ cnt D n k)
    (o : D n = dc → (∀ k : Nat, k < 3 → V k n = cnt D n k) ∧ 0 < C n ∧ ∀ i, i < n → C i < C n) : Num dc rng D R S C V (n + 1) := by
  have key : ∀ j, j < n + 1 → j < n ∨ j = n := fun j hj => by omega
  refine ⟨fun j hj => ?_, fun j hj => ?_, fun j hj => ?_, fun j hj => ?_, fun j hj => ?_⟩ <;> rcases key j hj with hj | rfl
  · exact h.d j hj
  · exact d
  · exact h.r j hj
  · exact r
  · exact h.s j hj
  · exact s
  · exact h.v j hj
  · exact v
  · exact h.o j hj
  · exact o
theorem Num.nil {dc rng : Int} {D R S C : Nat → Int} {V : Nat → Nat → Int} : Num dc rng D R S C V 0 :=
  ⟨fun j hj => absurd hj (by omega), fun j hj => absurd hj (by omega), fun j hj => absurd hj (by omega), fun j hj => absurd hj (by omega), fun j hj => absurd hj (by omega)⟩

/-! ### What the program's loops come to -/
def mx (C : Nat → Int) : Nat → Int
  | 0 => 0
  | n + 1 => max (mx C n) (C n)
theorem mx_nn (C : Nat → Int) : ∀ n, 0 ≤ mx C n
  | 0 => Int.le_refl 0
  | n + 1 => by have := mx_nn C n; simp only [mx]; omega
theorem mx_ge (C : Nat → Int) : ∀ n j, j < n → C j ≤ mx C n
  | n + 1, j, h => by
    simp only [mx]
    rcases Nat.lt_or_ge j n with h1 | h1
    · have := mx_ge C n j h1; omega
    · obtain rfl : j = n := by omega
      omega
def colN (D S : Nat → Int) (d : Int) : Nat → Int
  | 0 => 0
  | n + 1 => if D n = d then max (colN D S d n) (S n) else colN D S d n
theorem colN_eq {D S : Nat → Int} (d : Int) : ∀ n : Nat, (∀ j, j < n → S j = cnt D j (D j) + 1) → colN D S d n = cnt D n d
  | 0, _ => rfl
  | n + 1, h => by
    have ih := colN_eq d n (fun j hj => h j (by omega))
    have hs := h n (by omega)
    simp only [colN, cnt]
    split
    · rename_i hd
      rw [ih, hs, hd]; omega
    · rw [ih]; omega
def fA (W : Nat → Int) : Nat → Int
  | 0 => 0
  | n + 1 => max (max 0 (fA W n)) (W n)
theorem fA_nn (W : Nat → Int) : ∀ n, 0 ≤ fA W n
  | 0 => Int.le_refl 0
  | n + 1 => by have := fA_nn W n; simp only [fA]; omega
theorem fA_le {W D : Nat → Int} {d : Int} : ∀ n : Nat, (∀ j, j < n → W j ≤ cnt D j d) → fA W n ≤ cnt D n d
  | 0, _ => Int.le_refl 0
  | n + 1, h => by
    have ih := fA_le n (fun j hj => h j (by omega))
    have h1 := h n (by omega)
    have h2 := cnt_succ D d n
    have h3 := cnt_nn D d n
    simp only [fA]
    omega
def fB (D R S : Nat → Int) (d r a : Int) : Nat → Int
  | 0 => a
  | n + 1 => if D n = d ∧ R n = r then max (fB D R S d r a n) (S n) else fB D R S d r a n
theorem fB_eq {D R S : Nat → Int} {d r a : Int} : ∀ n : Nat, (∀ j, j < n → R j = r) → (∀ j, j < n → S j = cnt D j (D j) + 1) → 0 ≤ a → fB D R S d r a n = max a (cnt D n d)
  | 0, _, _, ha => by simp only [fB, cnt]; omega
  | n + 1, hr, h, ha => by
    have ih := fB_eq (d := d) n (fun j hj => hr j (by omega)) (fun j hj => h j (by omega)) ha
    have hs := h n (by omega)
    have hrr := hr n (by omega)
    simp only [fB, cnt, hrr, and_true]
    split
    · rename_i hd
      rw [ih, hs, hd]; omega
    · rw [ih]; omega
theorem past_eq {dc rng : Int} {D R S C : Nat → Int} {V : Nat → Nat → Int} {n : Nat} (h : Num dc rng D R S C V n) (k : Nat) (hk : k < 3) : fB D R S k rng (fA (V k) n) n = cnt D n k := by
  rw [fB_eq n h.r h.s (fA_nn _ _)]
  have := fA_le (W := V k) (D := D) (d := k) n (fun j hj => h.v j hj k hk)
  omega
end Go.Proofs.Ytonefailiekemaa
