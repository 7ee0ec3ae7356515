/- Folds of numbers: the greatest of a row, the greatest of those that are meant. -/
import Derived.Test.YtcllappmhdfffaaXwM2
namespace Go.Proofs.Xw
open Go Go.Proofs.Aw
/-- The greatest of 0 and the first j numbers. -/
def mxF (a : Nat → Int) : Nat → Int
  | 0 => 0
  | j + 1 => Max.max (mxF a j) (a j)
/-- The greatest of 0 and those of the first j numbers that are meant. -/
def dtF (M : Nat → Bool) (s : Nat → Int) : Nat → Int
  | 0 => 0
  | j + 1 => if M j = true then Max.max (dtF M s j) (s j) else dtF M s j
theorem mxF_nn (a : Nat → Int) : ∀ j, 0 ≤ mxF a j
  | 0 => Int.le_refl _
  | j + 1 => Int.le_trans (mxF_nn a j) (Int.le_max_left _ _)
theorem dtF_nn (M : Nat → Bool) (s : Nat → Int) : ∀ j, 0 ≤ dtF M s j
  | 0 => Int.le_refl _
  | j + 1 => by
    simp only [dtF]
    split
    · exact Int.le_trans (dtF_nn M s j) (Int.le_max_left _ _)
    · exact dtF_nn M s j
theorem mxF_add (a : Nat → Int) (n : Nat) : ∀ m, mxF a (n + m) = Max.max (mxF a n) (mxF (fun j => a (n + j)) m)
  | 0 => by
    have := mxF_nn a n
    simp only [Nat.add_zero, mxF]; omega
  | m + 1 => by
    have ih := mxF_add a n m
    rw [← Nat.add_assoc]
    simp only [mxF, ih]; omega
theorem dtF_add (M : Nat → Bool) (s : Nat → Int) (n : Nat) : ∀ m, dtF M s (n + m) = Max.max (dtF M s n) (dtF (fun j => M (n + j)) (fun j => s (n + j)) m)
  | 0 => by
    have := dtF_nn M s n
    simp only [Nat.add_zero, dtF]; omega
  | m + 1 => by
    have ih := dtF_add M s n m
    rw [← Nat.add_assoc]
    simp only [dtF, ih]
    split <;> omega
theorem mxF_le (a : Nat → Int) {i : Nat} : ∀ {n}, i < n → a i ≤ mxF a n
  | n + 1, h => by
    simp only [mxF]
    rcases Nat.lt_or_ge i n with h1 | h1
    · have := mxF_le a h1; omega
    · obtain rfl : i = n := by omega
      omega
theorem dtF_le (M : Nat → Bool) (s : Nat → Int) {i : Nat} : ∀ {n}, i < n → M i = true → s i ≤ dtF M s n
  | n + 1, h, hM => by
    simp only [dtF]
    rcases Nat.lt_or_ge i n with h1 | h1
    · have := dtF_le M s h1 hM
      split <;> omega
    · obtain rfl : i = n := by omega
      rw [if_pos hM]; omega
theorem mxF_congr {a b : Nat → Int} : ∀ {n}, (∀ j, j < n → a j = b j) → mxF a n = mxF b n
  | 0, _ => rfl
  | n + 1, h => by simp only [mxF, mxF_congr (n := n) (fun j hj => h j (by omega)), h n (by omega)]
theorem dtF_congr {M M' : Nat → Bool} {s s' : Nat → Int} : ∀ {n}, (∀ j, j < n → M j = M' j ∧ s j = s' j) → dtF M s n = dtF M' s' n
  | 0, _ => rfl
  | n + 1, h => by simp only [dtF, dtF_congr (n := n) (fun j hj => h j (by omega)), (h n (by omega)).1, (h n (by omega)).2]
theorem mx_step (c : Prop) [Decidable c] (a d s : Int) : (if c then Max.max (Max.max a d) s else Max.max a d) = Max.max a (if c then Max.max d s else d) := by split <;> omega
theorem both_step (c : Prop) [Decidable c] (a d x s : Int) (h : 0 ≤ a) : (if c then Max.max (Max.max (Max.max 0 (Max.max a d)) x) s else Max.max (Max.max 0 (Max.max a d)) x) = Max.max (Max.max a x) (if c then Max.max d s else d) := by split <;> omega
end Go.Proofs.Xw
