/- Parts of the proof, one behind the other. -/
import Derived.Test.YtdlifdoglhhnfaaTM1
import Derived.Test.YtdlifdoglhhnfaaTM2
import Derived.Test.YtdlifdoglhhnfaaXwM3
import Init
/- What functions answer, run over letters, where something is known; each shown by running it. -/
namespace Go.Proofs.Ytdlifdoglhhnfaa
open Go Go.Proofs.Aw Go.Proofs.Xw
def sX (k : Nat) : X := .sc (.s (.var k))
def iV (k : Nat) : X := .sc (.i .i64 (.var k))
def cpX (a b : Nat) : X := .sc (.c (.var a) (.lit false) (.var b) (.lit false))
def ptX (a b : Nat) : X := .tup [iV a, iV b]
def bnd (k : Nat) : Facts := [(.lt (.var k) (.lit (-524288)), false), (.lt (.lit 524288) (.var k), false)]
def ksF : List (Nat × List X × X) := [(39, [sX 0], cpX 300 301), (69, [sX 0], ptX 300 301)]
def fF : Facts := bnd 300 ++ bnd 301 ++ [(.and (.eq (.var 300) (.lit 0)) (.eq (.var 301) (.lit 0)), false)]
def lX (n : Int) : X := .sc (.i .i64 (.lit n))
/-- a*y - b*x, as Side has it. -/
def sA (a b : Int) : IE := .op .sub .i64 (.op .mul .i64 (.lit a) (.var 301)) (.op .mul .i64 (.lit b) (.var 300))
/-- x*a - y*b. -/
def sB (a b : Int) : IE := .op .sub .i64 (.op .mul .i64 (.var 300) (.lit a)) (.op .mul .i64 (.var 301) (.lit b))
def wA (a b : Int) : IE := .op .psub .i64 (.op .pmul .i64 (.lit a) (.var 300)) (.op .pmul .i64 (.lit b) (.var 301))
def zr (e : IE) : Facts := [(.eq e (.lit 0), true), (.lt (.lit 0) e, false)]
def ps (e : IE) : Facts := [(.eq e (.lit 0), false), (.lt (.lit 0) e, true)]
def ng (e : IE) : Facts := [(.eq e (.lit 0), false), (.lt (.lit 0) e, false)]
def fA3 : Facts := fF ++ (ps (sA 1 0) ++ ps (sB 2 (-1)))
def fB3 : Facts := fF ++ (zr (sA 1 0) ++ (ps (.var 300) ++ ps (sB 2 (-1))))
def fC3 : Facts := fF ++ (ps (sA 1 0) ++ (zr (sB 2 (-1)) ++ (zr (sA (-1) 2) ++ (ps (wA (-1) (-2)) ++ ps (sB (-2) (-1))))))
def fD3 : Facts := fF ++ (ps (sA 1 0) ++ (ng (sB 2 (-1)) ++ (ps (sA (-1) 2) ++ ps (sB (-2) (-1)))))
def fE3 : Facts := fF ++ (zr (sA 1 0) ++ (ng (.var 300) ++ (ps (sA (-1) 2) ++ ps (sB (-2) (-1)))))
def fF3 : Facts := fF ++ (ng (sA 1 0) ++ (ps (sA (-1) 2) ++ ps (sB (-2) (-1))))
def fG3 : Facts := fF ++ (ng (sA 1 0) ++ (ps (sA (-1) 2) ++ (zr (sB (-2) (-1)) ++ (zr (sA (-1) (-2)) ++ (ps (wA (-1) 2) ++ ps (sB 0 1))))))
def fH3 : Facts := fF ++ (ng (sA 1 0) ++ (ps (sA (-1) 2) ++ (ng (sB (-2) (-1)) ++ (ps (sA (-1) (-2)) ++ ps (sB 0 1)))))
def fI3 : Facts := fF ++ (ng (sA 1 0) ++ (zr (sA (-1) 2) ++ (ng (wA (-1) (-2)) ++ (ng (sB (-2) (-1)) ++ (ps (sA (-1) (-2)) ++ ps (sB 0 1))))))
def fJ3 : Facts := fF ++ (ng (sA 1 0) ++ (ng (sA (-1) 2) ++ (ng (sB (-2) (-1)) ++ (ps (sA (-1) (-2)) ++ ps (sB 0 1)))))
def fA2 : Facts := fF ++ ps (sA 1 0)
def fB2 : Facts := fF ++ (zr (sA 1 0) ++ ps (.var 300))
def fC2 : Facts := fF ++ (zr (sA 1 0) ++ (ng (.var 300) ++ (zr (sB 0 (-1)) ++ (zr (sA (-1) 0) ++ (ps (.op .pmul .i64 (.lit (-1)) (.var 300)) ++ zr (sB 0 1))))))
def fD2 : Facts := fF ++ (ng (sA 1 0) ++ (ng (sB 0 (-1)) ++ (ps (sA (-1) 0) ++ ps (sB 0 1))))

def of1 : T X := (.ret (.sc (.i .i64 (.lit 0))))
theorem of1_run : askF ⟨cfgL ksF (fun _ => []), l_able, [37, 58]⟩ 17 ([sX 0, lX 1]) fF = of1 := by kernel_rfl
def ofA3 : T X := (.ret (.sc (.i .i64 (.lit 0))))
theorem ofA3_run : askF ⟨cfgL ksF (fun _ => []), l_able, [37, 58]⟩ 17 ([sX 0, lX 3]) fA3 = ofA3 := by kernel_rfl
def ofB3 : T X := (.ret (.sc (.i .i64 (.lit 0))))
theorem ofB3_run : askF ⟨cfgL ksF (fun _ => []), l_able, [37, 58]⟩ 17 ([sX 0, lX 3]) fB3 = ofB3 := by kernel_rfl
def ofC3 : T X := (.ret (.sc (.i .i64 (.lit 1))))
theorem ofC3_run : askF ⟨cfgL ksF (fun _ => []), l_able, [37, 58]⟩ 17 ([sX 0, lX 3]) fC3 = ofC3 := by kernel_rfl
def ofD3 : T X := (.ret (.sc (.i .i64 (.lit 1))))
theorem ofD3_run : askF ⟨cfgL ksF (fun _ => []), l_able, [37, 58]⟩ 17 ([sX 0, lX 3]) fD3 = ofD3 := by kernel_rfl
def ofE3 : T X := (.ret (.sc (.i .i64 (.lit 1))))
theorem ofE3_run : askF ⟨cfgL ksF (fun _ => []), l_able, [37, 58]⟩ 17 ([sX 0, lX 3]) fE3 = ofE3 := by kernel_rfl
def ofF3 : T X := (.ret (.sc (.i .i64 (.lit 1))))
theorem ofF3_run : askF ⟨cfgL ksF (fun _ => []), l_able, [37, 58]⟩ 17 ([sX 0, lX 3]) fF3 = ofF3 := by kernel_rfl
def ofG3 : T X := (.ret (.sc (.i .i64 (.lit 2))))
theorem ofG3_run : askF ⟨cfgL ksF (fun _ => []), l_able, [37, 58]⟩ 17 ([sX 0, lX 3]) fG3 = ofG3 := by kernel_rfl
def ofH3 : T X := (.ret (.sc (.i .i64 (.lit 2))))
theorem ofH3_run : askF ⟨cfgL ksF (fun _ => []), l_able, [37, 58]⟩ 17 ([sX 0, lX 3]) fH3 = ofH3 := by kernel_rfl
def ofI3 : T X := (.ret (.sc (.i .i64 (.lit 2))))
theorem ofI3_run : askF ⟨cfgL ksF (fun _ => []), l_able, [37, 58]⟩ 17 ([sX 0, lX 3]) fI3 = ofI3 := by kernel_rfl
def ofJ3 : T X := (.ret (.sc (.i .i64 (.lit 2))))
theorem ofJ3_run : askF ⟨cfgL ksF (fun _ => []), l_able, [37, 58]⟩ 17 ([sX 0, lX 3]) fJ3 = ofJ3 := by kernel_rfl
def ofA2 : T X := (.ret (.sc (.i .i64 (.lit 0))))
theorem ofA2_run : askF ⟨cfgL ksF (fun _ => []), l_able, [37, 58]⟩ 17 ([sX 0, lX 2]) fA2 = ofA2 := by kernel_rfl
def ofB2 : T X := (.ret (.sc (.i .i64 (.lit 0))))
theorem ofB2_run : askF ⟨cfgL ksF (fun _ => []), l_able, [37, 58]⟩ 17 ([sX 0, lX 2]) fB2 = ofB2 := by kernel_rfl
def ofC2 : T X := (.ret (.sc (.i .i64 (.lit 1))))
theorem ofC2_run : askF ⟨cfgL ksF (fun _ => []), l_able, [37, 58]⟩ 17 ([sX 0, lX 2]) fC2 = ofC2 := by kernel_rfl
def ofD2 : T X := (.ret (.sc (.i .i64 (.lit 1))))
theorem ofD2_run : askF ⟨cfgL ksF (fun _ => []), l_able, [37, 58]⟩ 17 ([sX 0, lX 2]) fD2 = ofD2 := by kernel_rfl
end Go.Proofs.Ytdlifdoglhhnfaa

/- Sorting by swaps, in plain Lean: what the steps of a stable sort do to a row, seen as a function of the place. -/
namespace Go.Proofs.Sr
/-- Two places change what they hold. -/
def swp {α : Type} (f : Nat → α) (i j : Nat) : Nat → α := fun k => if k = i then f j else if k = j then f i else f k
/-- Made by swaps of places from a to b. -/
inductive Sw {α : Type} (a b : Nat) : (Nat → α) → (Nat → α) → Prop
  | refl (f : Nat → α) : Sw a b f f
  | step {f g : Nat → α} (i j : Nat) (hi : a ≤ i ∧ i < b) (hj : a ≤ j ∧ j < b) (h : Sw a b f g) : Sw a b f (swp g i j)
theorem Sw.trans {α : Type} {a b : Nat} {f g h : Nat → α} (h1 : Sw a b f g) (h2 : Sw a b g h) : Sw a b f h := by
  induction h2 with
  | refl => exact h1
  | step i j hi hj _ ih => exact .step i j hi hj ih
theorem Sw.wide {α : Type} {a b a' b' : Nat} (ha : a' ≤ a) (hb : b ≤ b') {f g : Nat → α} (h : Sw a b f g) : Sw a' b' f g := by
  induction h with
  | refl => exact .refl _
  | step i j hi hj _ ih => exact .step i j ⟨by omega, by omega⟩ ⟨by omega, by omega⟩ ih
theorem Sw.out {α : Type} {a b : Nat} {f g : Nat → α} (h : Sw a b f g) {k : Nat} (hk : k < a ∨ b ≤ k) : g k = f k := by
  induction h with
  | refl => rfl
  | step i j hi hj _ ih =>
    unfold swp
    rw [if_neg (by omega), if_neg (by omega)]; exact ih
/-- What all of them are, they are still. -/
theorem Sw.all {α : Type} {a b : Nat} {f g : Nat → α} (h : Sw a b f g) {Q : α → Prop} (hq : ∀ k, a ≤ k → k < b → Q (f k)) : ∀ k, a ≤ k → k < b → Q (g k) := by
  induction h with
  | refl => exact hq
  | step i j hi hj _ ih =>
    intro k h1 h2
    unfold swp
    split
    · exact ih j hj.1 hj.2
    · split
      · exact ih i hi.1 hi.2
      · exact ih k h1 h2
/-- How many of the places below n hold what p tells. -/
def cnt {α : Type} (p : α → Bool) (f : Nat → α) : Nat → Nat
  | 0 => 0
  | n + 1 => cnt p f n + (if p (f n) then 1 else 0)
theorem cnt_congr {α : Type} {p : α → Bool} {f g : Nat → α} : ∀ {n : Nat}, (∀ k, k < n → p (f k) = p (g k)) → cnt p f n = cnt p g n
  | 0, _ => rfl
  | n + 1, h => by simp only [cnt]; rw [cnt_congr fun k hk => h k (by omega), h n (by omega)]
theorem cnt_set {α : Type} {p : α → Bool} {f g : Nat → α} {i : Nat} : ∀ {n : Nat}, i < n → (∀ k, k < n → k ≠ i → g k = f k) → cnt p g n + (if p (f i) then 1 else 0) = cnt p f n + (if p (g i) then 1 else 0)
  | 0, h, _ => absurd h (Nat.not_lt_zero _)
  | n + 1, h, he => by
    simp only [cnt]
    by_cases hn : i = n
    · subst hn
      rw [cnt_congr (f := g) (g := f) fun k hk => by rw [he k (by omega) (by omega)]]
      omega
    · have := cnt_set (p := p) (f := f) (g := g) (i := i) (n := n) (by omega) fun k hk => he k (by omega)
      rw [he n (by omega) (by omega)]
      omega
theorem cnt_swp {α : Type} {p : α → Bool} {f : Nat → α} {i j n : Nat} (hi : i < n) (hj : j < n) : cnt p (swp f i j) n = cnt p f n := by
  by_cases hij : i = j
  · subst hij
    refine cnt_congr fun k _ => ?_
    unfold swp
    split
    · rename_i h; rw [h]
    · rfl
  · let g : Nat → α := fun k => if k = i then f j else f k
    have e1 := cnt_set (p := p) (f := f) (g := g) hi fun k _ hk => by simp only [g]; rw [if_neg hk]
    have e2 := cnt_set (p := p) (f := g) (g := swp f i j) hj fun k _ hk => by simp only [g, swp]; rw [if_neg hk]
    have h1 : g i = f j := by simp [g]
    have h2 : g j = f j := by simp only [g]; split <;> rfl
    have h3 : swp f i j j = f i := by unfold swp; rw [if_neg fun h => hij h.symm, if_pos rfl]
    rw [h1] at e1
    rw [h2, h3] at e2
    omega
theorem Sw.cnt {α : Type} {a b : Nat} {f g : Nat → α} (h : Sw a b f g) {n : Nat} (hb : b ≤ n) (p : α → Bool) : Sr.cnt p g n = Sr.cnt p f n := by
  induction h with
  | refl => rfl
  | step i j hi hj _ ih => rw [cnt_swp (by omega) (by omega)]; exact ih
/-! ### An order -/
structure Ord {α : Type} (lt : α → α → Prop) : Prop where
  irr : ∀ a, ¬ lt a a
  tr : ∀ a b c, lt a b → lt b c → lt a c
  tot : ∀ a b, lt a b ∨ a = b ∨ lt b a
/-- Sorted from a to b. -/
def Srt {α : Type} (lt : α → α → Prop) (f : Nat → α) (a b : Nat) : Prop := ∀ i j, a ≤ i → i ≤ j → j < b → ¬ lt (f j) (f i)
theorem Ord.le_trans {α : Type} {lt : α → α → Prop} (o : Ord lt) {a b c : α} (h1 : ¬ lt b a) (h2 : ¬ lt c b) : ¬ lt c a := fun h => by
  rcases o.tot a b with h3 | h3 | h3
  · exact h2 (o.tr _ _ _ h h3)
  · subst h3; exact h2 h
  · exact h1 h3
theorem Ord.le_of_lt {α : Type} {lt : α → α → Prop} (o : Ord lt) {a b : α} (h : lt a b) : ¬ lt b a := fun k => o.irr _ (o.tr _ _ _ h k)
theorem Ord.eq_of {α : Type} {lt : α → α → Prop} (o : Ord lt) {a b : α} (h1 : ¬ lt a b) (h2 : ¬ lt b a) : a = b := by
  rcases o.tot a b with h | h | h
  · exact absurd h h1
  · exact h
  · exact absurd h h2
theorem Srt.sub {α : Type} {lt : α → α → Prop} {f : Nat → α} {a b a' b' : Nat} (h : Srt lt f a b) (ha : a ≤ a') (hb : b' ≤ b) : Srt lt f a' b' := fun i j h1 h2 h3 => h i j (by omega) h2 (by omega)
theorem Srt.congr {α : Type} {lt : α → α → Prop} {f g : Nat → α} {a b : Nat} (h : Srt lt f a b) (he : ∀ k, a ≤ k → k < b → g k = f k) : Srt lt g a b := fun i j h1 h2 h3 => by
  rw [he i h1 (by omega), he j (by omega) h3]; exact h i j h1 h2 h3
/-- Two sorted rows, all of the first at most all of the second. -/
theorem Srt.join {α : Type} {lt : α → α → Prop} {f : Nat → α} {a m b : Nat} (h1 : Srt lt f a m) (h2 : Srt lt f m b) (hl : ∀ i j, a ≤ i → i < m → m ≤ j → j < b → ¬ lt (f j) (f i)) : Srt lt f a b := fun i j h3 h4 h5 => by
  by_cases hj : j < m
  · exact h1 i j h3 h4 hj
  · by_cases hi : i < m
    · exact hl i j h3 hi (by omega) h5
    · exact h2 i j (by omega) h4 h5
/-- Of two sorted rows with the same in them all places hold the same. -/
theorem Srt.uniq {α : Type} [DecidableEq α] {lt : α → α → Prop} (o : Ord lt) {f g : Nat → α} : ∀ {n : Nat}, Srt lt f 0 n → Srt lt g 0 n → (∀ x : α, cnt (fun y => decide (y = x)) f n = cnt (fun y => decide (y = x)) g n) → ∀ k, k < n → f k = g k
  | 0, _, _, _ => fun k hk => absurd hk (Nat.not_lt_zero _)
  | n + 1, hf, hg, hc => by
    have pos : ∀ (u v : Nat → α), (∀ x : α, cnt (fun y => decide (y = x)) u (n + 1) = cnt (fun y => decide (y = x)) v (n + 1)) → ∃ k, k < n + 1 ∧ v k = u n := fun u v h => by
      have h1 := h (u n)
      have h2 : 1 ≤ cnt (fun y => decide (y = u n)) u (n + 1) := by simp only [cnt]; simp
      rw [h1] at h2
      have ex : ∀ m, 1 ≤ cnt (fun y => decide (y = u n)) v m → ∃ k, k < m ∧ v k = u n := by
        intro m
        induction m with
        | zero => intro h; simp [cnt] at h
        | succ m ih =>
          intro h
          simp only [cnt] at h
          by_cases hv : v m = u n
          · exact ⟨m, by omega, hv⟩
          · rw [if_neg (by simpa using hv)] at h
            obtain ⟨k, hk, he⟩ := ih (by omega)
            exact ⟨k, by omega, he⟩
      exact ex _ h2
    have e : f n = g n := by
      obtain ⟨k, hk, h1⟩ := pos f g hc
      obtain ⟨l, hl, h2⟩ := pos g f fun x => (hc x).symm
      have a1 := hg k n (by omega) (by omega) (by omega)
      have a2 := hf l n (by omega) (by omega) (by omega)
      rw [h1] at a1
      rw [h2] at a2
      exact o.eq_of a2 a1
    intro k hk
    by_cases hn : k = n
    · rw [hn]; exact e
    · refine Srt.uniq o (n := n) (hf.sub (by omega) (by omega)) (hg.sub (by omega) (by omega)) (fun x => ?_) k (by omega)
      have := hc x
      simp only [cnt] at this
      rw [e] at this
      omega
end Go.Proofs.Sr

/- Directions in their order around the circle, in plain Lean. -/
namespace Go.Proofs.Sr
abbrev Pt := Int × Int
def half (p : Pt) : Bool := decide (0 < p.2) || (decide (p.2 = 0) && decide (0 < p.1))
def cross (p q : Pt) : Int := p.1 * q.2 - p.2 * q.1
def neg (p : Pt) : Pt := (-p.1, -p.2)
theorem cross_neg (p q : Pt) : cross (neg p) (neg q) = cross p q := by simp [cross, neg, Int.neg_mul_neg]
theorem cross_swap (p q : Pt) : cross q p = - cross p q := by
  simp only [cross]; rw [Int.mul_comm q.1, Int.mul_comm q.2]; omega
theorem cross_three (p q r : Pt) : q.2 * cross p r = r.2 * cross p q + p.2 * cross q r := by
  simp only [cross, Int.mul_sub]
  have e1 : q.2 * (p.1 * r.2) = r.2 * (p.1 * q.2) := by ac_rfl
  have e2 : p.2 * (q.1 * r.2) = r.2 * (p.2 * q.1) := by ac_rfl
  have e3 : p.2 * (q.2 * r.1) = q.2 * (p.2 * r.1) := by ac_rfl
  omega
/-- Of the upper half. -/
def Up (p : Pt) : Prop := 0 < p.2 ∨ (p.2 = 0 ∧ 0 < p.1)
theorem half_t {p : Pt} : half p = true ↔ Up p := by simp [half, Up]
theorem half_f {p : Pt} (h : p ≠ (0, 0)) : half p = false ↔ Up (neg p) := by
  have : p.1 ≠ 0 ∨ p.2 ≠ 0 := by
    by_cases h1 : p.1 = 0
    · exact .inr fun h2 => h (Prod.ext h1 h2)
    · exact .inl h1
  simp only [half, Up, neg, Bool.or_eq_false_iff, Bool.and_eq_false_iff, decide_eq_false_iff_not]
  omega
theorem mpos {a b : Int} (ha : 0 < a) (hb : 0 < b) : 0 < a * b := Int.mul_pos ha hb
theorem mnn {a b : Int} (ha : 0 ≤ a) (hb : 0 ≤ b) : 0 ≤ a * b := Int.mul_nonneg ha hb
theorem pos_of {a b : Int} (ha : 0 < a) (h : 0 < a * b) : 0 < b := by
  rcases Int.lt_or_le 0 b with h1 | h1
  · exact h1
  · have := Int.mul_nonneg (Int.le_of_lt ha) (show 0 ≤ -b by omega)
    rw [Int.mul_neg] at this
    omega
theorem zero_of {a b : Int} (ha : 0 < a) (h : a * b = 0) : b = 0 := by
  rcases Int.mul_eq_zero.1 h with h1 | h1
  · omega
  · exact h1
theorem up_tr {p q r : Pt} (hp : Up p) (hq : Up q) (hr : Up r) (h1 : 0 ≤ cross p q) (h2 : 0 ≤ cross q r) : 0 ≤ cross p r ∧ (0 < cross p q ∨ 0 < cross q r → 0 < cross p r) ∧ (cross p q = 0 → cross q r = 0 → cross p r = 0) := by
  have e := cross_three p q r
  rcases hq with hq | ⟨hq, hq1⟩
  · -- q above the line
    have py : 0 ≤ p.2 := by rcases hp with h | h <;> omega
    have ry : 0 ≤ r.2 := by rcases hr with h | h <;> omega
    have a1 := mnn ry h1
    have a2 := mnn py h2
    have key : 0 < cross p q ∨ 0 < cross q r → 0 < q.2 * cross p r := fun h => by
      rw [e]
      rcases h with h | h
      · by_cases hr2 : 0 < r.2
        · have := mpos hr2 h; omega
        · have r0 : r.2 = 0 := by omega
          have rx : 0 < r.1 := by rcases hr with h | h <;> omega
          -- cross q r = - q.2 * r.1 < 0
          have : cross q r = -(q.2 * r.1) := by simp [cross, r0]
          have := mpos hq rx
          omega
      · by_cases hp2 : 0 < p.2
        · have := mpos hp2 h; omega
        · have p0 : p.2 = 0 := by omega
          have px : 0 < p.1 := by rcases hp with h | h <;> omega
          by_cases hr2 : 0 < r.2
          · have c1 : cross p q = p.1 * q.2 := by simp [cross, p0]
            have := mpos px hq
            have := mpos hr2 (show 0 < cross p q by omega)
            omega
          · have r0 : r.2 = 0 := by omega
            have rx : 0 < r.1 := by rcases hr with h | h <;> omega
            have : cross q r = -(q.2 * r.1) := by simp [cross, r0]
            have := mpos hq rx
            omega
    refine ⟨?_, fun h => pos_of hq (key h), fun z1 z2 => zero_of hq (by rw [e, z1, z2]; simp)⟩
    by_cases h : 0 < cross p q ∨ 0 < cross q r
    · exact Int.le_of_lt (pos_of hq (key h))
    · have z1 : cross p q = 0 := by omega
      have z2 : cross q r = 0 := by omega
      rw [zero_of (b := cross p r) hq (by rw [e, z1, z2]; simp)]
      exact Int.le_refl _
  · -- q on the line
    have c1 : cross p q = -(p.2 * q.1) := by simp [cross, hq]
    have c2 : cross q r = q.1 * r.2 := by simp [cross, hq]
    have p0 : p.2 = 0 := by
      rcases hp with h | h
      · have := mpos h hq1; omega
      · exact h.1
    have px : 0 < p.1 := by rcases hp with h | h <;> omega
    have c3 : cross p r = p.1 * r.2 := by simp [cross, p0]
    have z1 : cross p q = 0 := by rw [c1, p0]; simp
    have ry : 0 ≤ r.2 := by rcases hr with h | h <;> omega
    refine ⟨by rw [c3]; exact mnn (Int.le_of_lt px) ry, fun h => ?_, fun _ z2 => ?_⟩
    · rw [c3]
      refine mpos px ?_
      rw [c2] at h
      exact pos_of hq1 (by omega)
    · rw [c3, zero_of (b := r.2) hq1 (by rw [← c2]; exact z2)]; simp
/-- How two directions stand, going round from 1: less than 0, 0, more. -/
def cmpP (p q : Pt) : Int := if half p = half q then - cross p q else if half p = true then -1 else 1
theorem half_tr {p q r : Pt} (np : p ≠ (0, 0)) (nq : q ≠ (0, 0)) (nr : r ≠ (0, 0)) (e1 : half p = half q) (e2 : half q = half r) (h1 : 0 ≤ cross p q) (h2 : 0 ≤ cross q r) : 0 ≤ cross p r ∧ (0 < cross p q ∨ 0 < cross q r → 0 < cross p r) ∧ (cross p q = 0 → cross q r = 0 → cross p r = 0) := by
  cases hq : half q with
  | true => exact up_tr (half_t.1 (e1.trans hq)) (half_t.1 hq) (half_t.1 (e2.symm.trans hq)) h1 h2
  | false =>
    have := up_tr (p := neg p) (q := neg q) (r := neg r) ((half_f np).1 (e1.trans hq)) ((half_f nq).1 hq) ((half_f nr).1 (e2.symm.trans hq)) (by rw [cross_neg]; exact h1) (by rw [cross_neg]; exact h2)
    rw [cross_neg, cross_neg, cross_neg] at this
    exact this
/-- An order by direction, and by something else where that is the same. -/
def ltK {β : Type} (pt : β → Pt) (lt : β → β → Prop) (a b : β) : Prop := cmpP (pt a) (pt b) < 0 ∨ (cmpP (pt a) (pt b) = 0 ∧ lt a b)
theorem cmp_lt {p q : Pt} : cmpP p q < 0 ↔ (half p = true ∧ half q = false) ∨ (half p = half q ∧ 0 < cross p q) := by
  unfold cmpP
  split
  · rename_i h; rw [h]; cases half q <;> simp
  · rename_i h
    cases hp : half p <;> cases hq : half q <;> simp_all
theorem cmp_eq {p q : Pt} : cmpP p q = 0 ↔ half p = half q ∧ cross p q = 0 := by
  unfold cmpP
  split
  · rename_i h; simp [h]
  · rename_i h
    cases hp : half p <;> simp_all
theorem cmp_gt {p q : Pt} : 0 < cmpP p q ↔ cmpP q p < 0 := by
  rw [cmp_lt]
  unfold cmpP
  split
  · rename_i h; rw [h, cross_swap p q]; cases half q <;> simp
  · rename_i h
    cases hp : half p <;> cases hq : half q <;> simp_all
theorem cmp_tr {p q r : Pt} (np : p ≠ (0, 0)) (nq : q ≠ (0, 0)) (nr : r ≠ (0, 0)) (h1 : cmpP p q ≤ 0) (h2 : cmpP q r ≤ 0) : cmpP p r ≤ 0 ∧ (cmpP p q < 0 ∨ cmpP q r < 0 → cmpP p r < 0) ∧ (cmpP p q = 0 → cmpP q r = 0 → cmpP p r = 0) := by
  have c1 : cmpP p q < 0 ∨ cmpP p q = 0 := by omega
  have c2 : cmpP q r < 0 ∨ cmpP q r = 0 := by omega
  have key : (cmpP p q < 0 ∨ cmpP q r < 0 → cmpP p r < 0) ∧ (cmpP p q = 0 → cmpP q r = 0 → cmpP p r = 0) := by
    rw [cmp_lt, cmp_eq] at c1
    rw [cmp_lt, cmp_eq] at c2
    rw [cmp_lt, cmp_lt, cmp_lt, cmp_eq, cmp_eq, cmp_eq]
    by_cases e1 : half p = half q
    · by_cases e2 : half q = half r
      · have a1 : 0 ≤ cross p q := by rcases c1 with (h | h) | h <;> first | omega | (exfalso; simp_all)
        have a2 : 0 ≤ cross q r := by rcases c2 with (h | h) | h <;> first | omega | (exfalso; simp_all)
        obtain ⟨_, g2, g3⟩ := half_tr np nq nr e1 e2 a1 a2
        refine ⟨fun h => .inr ⟨e1.trans e2, g2 ?_⟩, fun x y => ⟨e1.trans e2, g3 x.2 y.2⟩⟩
        rcases h with (h | h) | (h | h)
        · exfalso; simp_all
        · exact .inl h.2
        · exfalso; simp_all
        · exact .inr h.2
      · have q1 : half q = true ∧ half r = false := by rcases c2 with (h | h) | h <;> first | exact h | exact absurd h.1 e2
        exact ⟨fun _ => .inl ⟨e1.trans q1.1, q1.2⟩, fun _ y => absurd y.1 e2⟩
    · have q1 : half p = true ∧ half q = false := by rcases c1 with (h | h) | h <;> first | exact h | exact absurd h.1 e1
      have q2 : half r = false := by
        rcases c2 with (h | h) | h
        · rw [q1.2] at h; exact absurd h.1 (by simp)
        · rw [← h.1]; exact q1.2
        · rw [← h.1]; exact q1.2
      exact ⟨fun _ => .inl ⟨q1.1, q2⟩, fun x _ => absurd x.1 e1⟩
  refine ⟨?_, key⟩
  rcases c1 with h | h
  · exact Int.le_of_lt (key.1 (.inl h))
  · rcases c2 with h' | h'
    · exact Int.le_of_lt (key.1 (.inr h'))
    · exact Int.le_of_eq (key.2 h h')
theorem ltK_ord {β : Type} {pt : β → Pt} {lt : β → β → Prop} (o : Ord lt) (hn : ∀ b, pt b ≠ (0, 0)) : Ord (ltK pt lt) := by
  have self : ∀ p : Pt, cmpP p p = 0 := fun p => cmp_eq.2 ⟨rfl, by simp only [cross]; rw [Int.mul_comm]; omega⟩
  refine ⟨fun a h => ?_, fun a b c h1 h2 => ?_, fun a b => ?_⟩
  · rcases h with h | h
    · rw [self] at h; omega
    · exact o.irr _ h.2
  · have le1 : cmpP (pt a) (pt b) ≤ 0 := by rcases h1 with h | h <;> omega
    have le2 : cmpP (pt b) (pt c) ≤ 0 := by rcases h2 with h | h <;> omega
    obtain ⟨_, g2, g3⟩ := cmp_tr (hn a) (hn b) (hn c) le1 le2
    rcases h1 with h1 | h1
    · exact .inl (g2 (.inl h1))
    · rcases h2 with h2 | h2
      · exact .inl (g2 (.inr h2))
      · exact .inr ⟨g3 h1.1 h2.1, o.tr _ _ _ h1.2 h2.2⟩
  · rcases Int.lt_trichotomy (cmpP (pt a) (pt b)) 0 with h | h | h
    · exact .inl (.inl h)
    · have h' : cmpP (pt b) (pt a) = 0 := by
        obtain ⟨h1, h2⟩ := cmp_eq.1 h
        exact cmp_eq.2 ⟨h1.symm, by rw [cross_swap]; omega⟩
      rcases o.tot a b with k | k | k
      · exact .inl (.inr ⟨h, k⟩)
      · exact .inr (.inl k)
      · exact .inr (.inr (.inr ⟨h', k⟩))
    · exact .inr (.inr (.inl (cmp_gt.1 h)))
end Go.Proofs.Sr

/- Txn: the range of a key. -/
namespace Go.Proofs.Ytdlifdoglhhnfaa
open Go Go.Proofs.Aw Go.Proofs.Xw Go.Proofs.Sr
set_option maxRecDepth 100000
theorem pt_ex (b : ByteArray) (h : b.size < 9223372036854775808) : ∃ p : Pt, (-524288 ≤ p.1 ∧ p.1 ≤ 524287) ∧ (-524288 ≤ p.2 ∧ p.2 ≤ 524287) ∧ p ≠ (0, 0) ∧
    (hasBody Try.prog 39 = true ∧ ∀ n h, CY Try.prog n 39 [.sc (.string b)] h (.sc (.complex .f64 (fv p.1 false) (fv p.2 false))) []) ∧
    (hasBody Try.prog 69 = true ∧ ∀ n h, CY Try.prog n 69 [.sc (.string b)] h (.tup [.sc (.int .i64 p.1), .sc (.int .i64 p.2)]) []) := by
  obtain ⟨x, y, hx, hy, hz, k1, k2⟩ := pnt_cy ⟨fun _ => 0, fun _ => false, fun _ => b, fun _ => 0, fun _ _ _ => 0, fun _ _ _ => false, fun _ _ _ => ⟨#[]⟩⟩ h
  exact ⟨(x, y), hx, hy, fun e => hz ⟨congrArg Prod.fst e, congrArg Prod.snd e⟩, k1, k2⟩
/-- Where a key stands. -/
noncomputable def pt (b : ByteArray) : Pt := if h : b.size < 9223372036854775808 then Classical.choose (pt_ex b h) else (1, 0)
theorem pt_ok {b : ByteArray} (h : b.size < 9223372036854775808) : (-524288 ≤ (pt b).1 ∧ (pt b).1 ≤ 524287) ∧ (-524288 ≤ (pt b).2 ∧ (pt b).2 ≤ 524287) ∧ pt b ≠ (0, 0) ∧
    (hasBody Try.prog 39 = true ∧ ∀ n h, CY Try.prog n 39 [.sc (.string b)] h (.sc (.complex .f64 (fv (pt b).1 false) (fv (pt b).2 false))) []) ∧
    (hasBody Try.prog 69 = true ∧ ∀ n h, CY Try.prog n 69 [.sc (.string b)] h (.tup [.sc (.int .i64 (pt b).1), .sc (.int .i64 (pt b).2)]) []) := by
  have e : pt b = Classical.choose (pt_ex b h) := by unfold pt; rw [dif_pos h]
  rw [e]; exact Classical.choose_spec (pt_ex b h)
theorem pt_nz (b : ByteArray) : pt b ≠ (0, 0) := by
  by_cases h : b.size < 9223372036854775808
  · exact (pt_ok h).2.2.1
  · unfold pt; rw [dif_neg h]; decide
def Bd (z : Int) : Prop := -524288 ≤ z ∧ z ≤ 524288
theorem mul_bd {a b : Int} (ha : Bd a) (hb : Bd b) : -274877906944 ≤ a * b ∧ a * b ≤ 274877906944 := by
  have h1 : (a * b).natAbs = a.natAbs * b.natAbs := Int.natAbs_mul a b
  have h2 : a.natAbs * b.natAbs ≤ 524288 * 524288 := Nat.mul_le_mul (by have := ha.1; have := ha.2; omega) (by have := hb.1; have := hb.2; omega)
  omega
theorem all_ok {ρ : Rho} {Φ Ψ : Facts} (h : Facts.ok ρ Φ) (k : Facts.ok ρ Ψ) : Facts.ok ρ (Φ ++ Ψ) := fun p hp => (List.mem_append.1 hp).elim (h p) (k p)
/-- The range of a point, of one, two or three. -/
def sec (m : Int) (p : Pt) : Int := if m = 1 then 0 else if m = 2 then (if cmpP p (-1, 0) < 0 then 0 else 1) else if cmpP p (-1, 2) < 0 then 0 else if cmpP p (-1, -2) < 0 then 1 else 2
theorem sec_b (m : Int) (p : Pt) (h : 1 ≤ m ∧ m ≤ 3) : 0 ≤ sec m p ∧ sec m p < m := by
  unfold sec
  split
  · omega
  · split
    · split <;> omega
    · split
      · omega
      · split <;> omega
theorem hf_t {p : Pt} : half p = true ↔ 0 < p.2 ∨ (p.2 = 0 ∧ 0 < p.1) := half_t
theorem hf_f {p : Pt} : half p = false ↔ ¬ (0 < p.2 ∨ (p.2 = 0 ∧ 0 < p.1)) := by rw [← hf_t]; cases half p <;> simp
theorem cut_10 {p : Pt} : cmpP p (-1, 0) < 0 ↔ 0 < p.2 ∨ (p.2 = 0 ∧ 0 < p.1) := by
  rw [Sr.cmp_lt, hf_t, show half (-1, 0) = false from rfl, hf_f]
  simp only [cross, and_true]
  omega
theorem cut_12 {p : Pt} : cmpP p (-1, 2) < 0 ↔ (0 < p.2 ∨ (p.2 = 0 ∧ 0 < p.1)) ∧ 0 < 2 * p.1 + p.2 := by
  rw [Sr.cmp_lt, show half (-1, 2) = true from rfl, hf_t]
  simp only [cross]
  constructor
  · rintro (h | h)
    · cases h.2
    · exact ⟨h.1, by omega⟩
  · exact fun h => .inr ⟨h.1, by omega⟩
theorem cut_m2 {p : Pt} : cmpP p (-1, -2) < 0 ↔ (0 < p.2 ∨ (p.2 = 0 ∧ 0 < p.1)) ∨ 0 < p.2 - 2 * p.1 := by
  rw [Sr.cmp_lt, show half (-1, -2) = false from rfl, hf_t, hf_f]
  simp only [cross, and_true]
  omega
theorem s3_0 {p : Pt} (h : (0 < p.2 ∨ (p.2 = 0 ∧ 0 < p.1)) ∧ 0 < 2 * p.1 + p.2) : sec 3 p = 0 := by
  unfold sec
  rw [if_neg (by decide), if_neg (by decide), if_pos (cut_12.2 h)]
theorem s3_1 {p : Pt} (h : ¬ ((0 < p.2 ∨ (p.2 = 0 ∧ 0 < p.1)) ∧ 0 < 2 * p.1 + p.2)) (k : (0 < p.2 ∨ (p.2 = 0 ∧ 0 < p.1)) ∨ 0 < p.2 - 2 * p.1) : sec 3 p = 1 := by
  unfold sec
  rw [if_neg (by decide), if_neg (by decide), if_neg (mt cut_12.1 h), if_pos (cut_m2.2 k)]
theorem s3_2 {p : Pt} (h : ¬ ((0 < p.2 ∨ (p.2 = 0 ∧ 0 < p.1)) ∧ 0 < 2 * p.1 + p.2)) (k : ¬ ((0 < p.2 ∨ (p.2 = 0 ∧ 0 < p.1)) ∨ 0 < p.2 - 2 * p.1)) : sec 3 p = 2 := by
  unfold sec
  rw [if_neg (by decide), if_neg (by decide), if_neg (mt cut_12.1 h), if_neg (mt cut_m2.1 k)]
theorem s2_0 {p : Pt} (h : 0 < p.2 ∨ (p.2 = 0 ∧ 0 < p.1)) : sec 2 p = 0 := by
  unfold sec
  rw [if_neg (by decide), if_pos rfl, if_pos (cut_10.2 h)]
theorem s2_1 {p : Pt} (h : ¬ (0 < p.2 ∨ (p.2 = 0 ∧ 0 < p.1))) : sec 2 p = 1 := by
  unfold sec
  rw [if_neg (by decide), if_pos rfl, if_neg (mt cut_10.1 h)]
/-! ### Of -/
theorem sA_den {ρ : Rho} {a b : Int} (ha : Bd a) (hb : Bd b) (h0 : Bd (ρ.i 300)) (h1 : Bd (ρ.i 301)) : (sA a b).den ρ = a * ρ.i 301 - b * ρ.i 300 := by
  have p := mul_bd ha h1
  have q := mul_bd hb h0
  show IOp.den .sub .i64 (IOp.den .mul .i64 a (ρ.i 301)) (IOp.den .mul .i64 b (ρ.i 300)) = _
  simp only [IOp.den]
  rw [wrap_id (a * ρ.i 301) (by omega) (by omega), wrap_id (b * ρ.i 300) (by omega) (by omega), wrap_id _ (by omega) (by omega)]
theorem sB_den {ρ : Rho} {a b : Int} (ha : Bd a) (hb : Bd b) (h0 : Bd (ρ.i 300)) (h1 : Bd (ρ.i 301)) : (sB a b).den ρ = ρ.i 300 * a - ρ.i 301 * b := by
  have p := mul_bd h0 ha
  have q := mul_bd h1 hb
  show IOp.den .sub .i64 (IOp.den .mul .i64 (ρ.i 300) a) (IOp.den .mul .i64 (ρ.i 301) b) = _
  simp only [IOp.den]
  rw [wrap_id (ρ.i 300 * a) (by omega) (by omega), wrap_id (ρ.i 301 * b) (by omega) (by omega), wrap_id _ (by omega) (by omega)]
theorem wA_den {ρ : Rho} {a b : Int} : (wA a b).den ρ = a * ρ.i 300 - b * ρ.i 301 := rfl
theorem zr_ok {ρ : Rho} {e : IE} {z : Int} (h : e.den ρ = z) (k : z = 0) : Facts.ok ρ (zr e) :=
  Facts.ok_cons (by rw [deq_t, h]; exact k) (Facts.ok_cons (by rw [dlt_f, h]; show z ≤ 0; omega) (Facts.ok_nil _))
theorem ps_ok {ρ : Rho} {e : IE} {z : Int} (h : e.den ρ = z) (k : 0 < z) : Facts.ok ρ (ps e) :=
  Facts.ok_cons (by rw [deq_f, h]; show ¬ z = 0; omega) (Facts.ok_cons (by rw [dlt_t, h]; exact k) (Facts.ok_nil _))
theorem ng_ok {ρ : Rho} {e : IE} {z : Int} (h : e.den ρ = z) (k : z < 0) : Facts.ok ρ (ng e) :=
  Facts.ok_cons (by rw [deq_f, h]; show ¬ z = 0; omega) (Facts.ok_cons (by rw [dlt_f, h]; show z ≤ 0; omega) (Facts.ok_nil _))
/-- What is known of a key's point, and how Of's runs are used. -/
def OfG (x : ByteArray) (m : Int) : Prop := hasBody Try.prog 17 = true ∧ ∀ n h, CY Try.prog n 17 [.sc (.string x), .sc (.int .i64 m)] h (.sc (.int .i64 (sec m (pt x)))) []
theorem of_base (x : ByteArray) (hx : x.size < 9223372036854775808) : ∃ ρ : Rho, ρ.i 300 = (pt x).1 ∧ ρ.i 301 = (pt x).2 ∧ Bd (ρ.i 300) ∧ Bd (ρ.i 301) ∧ pt x ≠ (0, 0) ∧ Facts.ok ρ fF ∧
    ∀ {m k : Int} {Φ : Facts} {t : T X}, askF ⟨cfgL ksF (fun _ => []), l_able, [37, 58]⟩ 17 [sX 0, lX m] Φ = t → t = .ret (.sc (.i .i64 (.lit k))) → Facts.ok ρ Φ → sec m (pt x) = k → OfG x m := by
  obtain ⟨x1, x2, x3, x4, x5⟩ := pt_ok hx
  let ρ : Rho := ⟨fun k => if k = 300 then (pt x).1 else if k = 301 then (pt x).2 else 0, fun _ => false, fun _ => x, fun _ => 0, fun _ _ _ => 0, fun _ _ _ => false, fun _ _ _ => ⟨#[]⟩⟩
  have b0 : Bd (ρ.i 300) := ⟨x1.1, by show (pt x).1 ≤ _; omega⟩
  have b1 : Bd (ρ.i 301) := ⟨x2.1, by show (pt x).2 ≤ _; omega⟩
  have bk : ∀ k, Bd (ρ.i k) → Facts.ok ρ (bnd k) := fun k h => Facts.ok_cons (by rw [dlt_f]; exact h.1) (Facts.ok_cons (by rw [dlt_f]; exact h.2) (Facts.ok_nil _))
  have nz : ¬ (ρ.i 300 = 0 ∧ ρ.i 301 = 0) := fun h => x3 (Prod.ext h.1 h.2)
  have fk : Facts.ok ρ fF := all_ok (all_ok (bk 300 b0) (bk 301 b1)) (Facts.ok_cons (by rw [dand_f, deq_f, deq_f]; simp only [IE.den]; omega) (Facts.ok_nil _))
  have k1 : hasBody Try.prog 39 = true ∧ ∀ n h, CY Try.prog n 39 (X.denL ρ [sX 0]) h (X.den ρ (cpX 300 301)) [] := x4
  have k2 : hasBody Try.prog 69 = true ∧ ∀ n h, CY Try.prog n 69 (X.denL ρ [sX 0]) h (X.den ρ (ptX 300 301)) [] := x5
  have cok : CfgOk Try.prog ρ (cfgL ksF (fun _ => [])) := cfgL_ok (List.forall_mem_cons.2 ⟨k1, List.forall_mem_cons.2 ⟨k2, List.forall_mem_nil _⟩⟩) (fun _ _ _ => LpsOk.nil _ _ _ _)
  refine ⟨ρ, rfl, rfl, b0, b1, x3, fk, ?_⟩
  intro m k Φ t h1 h2 h3 h4
  unfold OfG
  rw [h4]
  exact askF_ok (c := ⟨cfgL ksF (fun _ => []), l_able, [37, 58]⟩) cok l_able_ok h3 (r := .sc (.i .i64 (.lit k))) (by rw [h1, h2]; rfl)
theorem bd1 : Bd 1 ∧ Bd 0 ∧ Bd 2 ∧ Bd (-1) ∧ Bd (-2) := by unfold Bd; decide
theorem of_1 (x : ByteArray) (hx : x.size < 9223372036854775808) : OfG x 1 := by
  obtain ⟨ρ, _, _, _, _, _, fk, run⟩ := of_base x hx
  exact run of1_run rfl fk rfl
theorem of_2 (x : ByteArray) (hx : x.size < 9223372036854775808) : OfG x 2 := by
  obtain ⟨ρ, e0, e1, b0, b1, nz, fk, run⟩ := of_base x hx
  obtain ⟨d1, d0, _, n1, _⟩ := bd1
  have A := fun a b (ha : Bd a) (hb : Bd b) => sA_den (ρ := ρ) ha hb b0 b1
  have B := fun a b (ha : Bd a) (hb : Bd b) => sB_den (ρ := ρ) ha hb b0 b1
  generalize hp : pt x = p at e0 e1 nz run
  obtain ⟨u, v⟩ := p
  simp only at e0 e1
  have nz : ¬ (u = 0 ∧ v = 0) := fun h => nz (Prod.ext h.1 h.2)
  rw [e0, e1] at A B
  clear b0 b1
  have dx : ∀ _ : Unit, (IE.var 300).den ρ = u := fun _ => e0
  have wc : ∀ _ : Unit, (IE.op .pmul .i64 (.lit (-1)) (.var 300)).den ρ = -1 * u := fun _ => by rw [← e0]; rfl
  clear e0 e1
  rcases Int.lt_trichotomy 0 v with c | c | c
  · exact run ofA2_run rfl (all_ok fk (ps_ok (A 1 0 d1 d0) (by omega))) (s2_0 (.inl c))
  · by_cases d : 0 < u
    · exact run ofB2_run rfl (all_ok fk (all_ok (zr_ok (A 1 0 d1 d0) (by omega)) (ps_ok (dx ()) d))) (s2_0 (.inr ⟨c.symm, d⟩))
    · exact run ofC2_run rfl (all_ok fk (all_ok (zr_ok (A 1 0 d1 d0) (by omega)) (all_ok (ng_ok (dx ()) (by omega)) (all_ok (zr_ok (B 0 (-1) d0 n1) (by omega)) (all_ok (zr_ok (A (-1) 0 n1 d0) (by omega)) (all_ok (ps_ok (wc ()) (by omega)) (zr_ok (B 0 1 d0 d1) (by omega)))))))) (s2_1 (by simp only; omega))
  · exact run ofD2_run rfl (all_ok fk (all_ok (ng_ok (A 1 0 d1 d0) (by omega)) (all_ok (ng_ok (B 0 (-1) d0 n1) (by omega)) (all_ok (ps_ok (A (-1) 0 n1 d0) (by omega)) (ps_ok (B 0 1 d0 d1) (by omega)))))) (s2_1 (by simp only; omega))
theorem of_3 (x : ByteArray) (hx : x.size < 9223372036854775808) : OfG x 3 := by
  obtain ⟨ρ, e0, e1, b0, b1, nz, fk, run⟩ := of_base x hx
  obtain ⟨d1, d0, d2, n1, n2⟩ := bd1
  have A := fun a b (ha : Bd a) (hb : Bd b) => sA_den (ρ := ρ) ha hb b0 b1
  have B := fun a b (ha : Bd a) (hb : Bd b) => sB_den (ρ := ρ) ha hb b0 b1
  have W := fun a b => wA_den (ρ := ρ) (a := a) (b := b)
  generalize hp : pt x = p at e0 e1 nz run
  obtain ⟨u, v⟩ := p
  simp only at e0 e1
  have nz : ¬ (u = 0 ∧ v = 0) := fun h => nz (Prod.ext h.1 h.2)
  rw [e0, e1] at A B W
  clear b0 b1
  have dx : ∀ _ : Unit, (IE.var 300).den ρ = u := fun _ => e0
  clear e0 e1
  rcases Int.lt_trichotomy 0 v with c | c | c
  · rcases Int.lt_trichotomy 0 (2 * u + v) with d | d | d
    · exact run ofA3_run rfl (all_ok fk (all_ok (ps_ok (A 1 0 d1 d0) (by omega)) (ps_ok (B 2 (-1) d2 n1) (by omega)))) (s3_0 (by simp only; omega))
    · exact run ofC3_run rfl (all_ok fk (all_ok (ps_ok (A 1 0 d1 d0) (by omega)) (all_ok (zr_ok (B 2 (-1) d2 n1) (by omega)) (all_ok (zr_ok (A (-1) 2 n1 d2) (by omega)) (all_ok (ps_ok (W (-1) (-2)) (by omega)) (ps_ok (B (-2) (-1) n2 n1) (by omega))))))) (s3_1 (by simp only; omega) (by simp only; omega))
    · exact run ofD3_run rfl (all_ok fk (all_ok (ps_ok (A 1 0 d1 d0) (by omega)) (all_ok (ng_ok (B 2 (-1) d2 n1) (by omega)) (all_ok (ps_ok (A (-1) 2 n1 d2) (by omega)) (ps_ok (B (-2) (-1) n2 n1) (by omega)))))) (s3_1 (by simp only; omega) (by simp only; omega))
  · by_cases d : 0 < u
    · exact run ofB3_run rfl (all_ok fk (all_ok (zr_ok (A 1 0 d1 d0) (by omega)) (all_ok (ps_ok (dx ()) d) (ps_ok (B 2 (-1) d2 n1) (by omega))))) (s3_0 (by simp only; omega))
    · exact run ofE3_run rfl (all_ok fk (all_ok (zr_ok (A 1 0 d1 d0) (by omega)) (all_ok (ng_ok (dx ()) (by omega)) (all_ok (ps_ok (A (-1) 2 n1 d2) (by omega)) (ps_ok (B (-2) (-1) n2 n1) (by omega)))))) (s3_1 (by simp only; omega) (by simp only; omega))
  · rcases Int.lt_trichotomy 0 (v - 2 * u) with d | d | d
    · exact run ofF3_run rfl (all_ok fk (all_ok (ng_ok (A 1 0 d1 d0) (by omega)) (all_ok (ps_ok (A (-1) 2 n1 d2) (by omega)) (ps_ok (B (-2) (-1) n2 n1) (by omega))))) (s3_1 (by simp only; omega) (by simp only; omega))
    · exact run ofG3_run rfl (all_ok fk (all_ok (ng_ok (A 1 0 d1 d0) (by omega)) (all_ok (ps_ok (A (-1) 2 n1 d2) (by omega)) (all_ok (zr_ok (B (-2) (-1) n2 n1) (by omega)) (all_ok (zr_ok (A (-1) (-2) n1 n2) (by omega)) (all_ok (ps_ok (W (-1) 2) (by omega)) (ps_ok (B 0 1 d0 d1) (by omega)))))))) (s3_2 (by simp only; omega) (by simp only; omega))
    · rcases Int.lt_trichotomy 0 (2 * u + v) with e | e | e
      · exact run ofJ3_run rfl (all_ok fk (all_ok (ng_ok (A 1 0 d1 d0) (by omega)) (all_ok (ng_ok (A (-1) 2 n1 d2) (by omega)) (all_ok (ng_ok (B (-2) (-1) n2 n1) (by omega)) (all_ok (ps_ok (A (-1) (-2) n1 n2) (by omega)) (ps_ok (B 0 1 d0 d1) (by omega))))))) (s3_2 (by simp only; omega) (by simp only; omega))
      · exact run ofI3_run rfl (all_ok fk (all_ok (ng_ok (A 1 0 d1 d0) (by omega)) (all_ok (zr_ok (A (-1) 2 n1 d2) (by omega)) (all_ok (ng_ok (W (-1) (-2)) (by omega)) (all_ok (ng_ok (B (-2) (-1) n2 n1) (by omega)) (all_ok (ps_ok (A (-1) (-2) n1 n2) (by omega)) (ps_ok (B 0 1 d0 d1) (by omega)))))))) (s3_2 (by simp only; omega) (by simp only; omega))
      · exact run ofH3_run rfl (all_ok fk (all_ok (ng_ok (A 1 0 d1 d0) (by omega)) (all_ok (ps_ok (A (-1) 2 n1 d2) (by omega)) (all_ok (ng_ok (B (-2) (-1) n2 n1) (by omega)) (all_ok (ps_ok (A (-1) (-2) n1 n2) (by omega)) (ps_ok (B 0 1 d0 d1) (by omega))))))) (s3_2 (by simp only; omega) (by simp only; omega))
theorem of_cy (x : ByteArray) (hx : x.size < 9223372036854775808) (m : Int) (hm : 1 ≤ m ∧ m ≤ 3) : OfG x m := by
  have hm3 : m = 1 ∨ m = 2 ∨ m = 3 := by omega
  rcases hm3 with rfl | rfl | rfl
  · exact of_1 x hx
  · exact of_2 x hx
  · exact of_3 x hx
end Go.Proofs.Ytdlifdoglhhnfaa

/- What is shown of loops, each by one run of its body over letters. -/
namespace Go.Proofs.Ytdlifdoglhhnfaa
open Go Go.Proofs.Aw Go.Proofs.Xw
def ke : List Kd := List.replicate 6 (.i .i64) ++ [.s, .s, .b] ++ List.replicate 11 (.i .i64)
def ka : List Kd := [.i .i64, .b] ++ ke ++ List.replicate 3 (.i .i64)
def kyR : X := .rl 1 (.len 2) (.var 2 [.s]) false
def anR : X := .rl 25 (.len 3) (.var 3 ka) false
def ixA : List X := [.rl 1 (.var 0) (.var 1 [.s]) false, .sc (.s (.var 0))]

/-! ix: letters [400] [] [] [] -/
noncomputable def ix_c : Code := (loopsOf (Try.f62.body.getD .skip))[0]?.getD .skip
abbrev zTM3_0 : X := .sc (.i .i64 (.var 400))
abbrev zTM3_1 : X := .sc (.i .i64 (.var 0))
abbrev zTM3_2 : X := .rl 1 (.var 0) (.var 1 [.s]) false
abbrev zTM3_3 : X := .sc (.i .i64 (.lit 0))
abbrev zTM3_4 : X := .sc (.s (.var 0))
abbrev zTM3_5 : XTp := [(8, zTM3_0), (7, zTM3_1), (6, zTM3_2), (4, zTM3_3), (0, zTM3_2), (1, zTM3_4)]
abbrev zTM3_6 : BE := .seq (.var 0) (.cl 1 0 (.var 400))
abbrev zTM3_7 : BE := .not (.lt (.var 400) (.var 0))
abbrev zTM3_8 : X := .sc (.i .i64 (.len 2))
abbrev zTM3_9 : X := .rl 1 (.len 2) (.var 2 [.s]) false
abbrev zTM3_10 : X := .sc (.b (.lit false))
abbrev zTM3_11 : XTp := [(7, (.sc (.i .i64 (.var 440)))), (6, zTM3_8), (5, zTM3_9), (2, zTM3_10), (0, zTM3_9)]
def ix_S : XS := ⟨zTM3_5, [], 4⟩
def ix_Φ : Facts := [(.lt (.var 400) (.lit 0), false), (.lt (.var 0) (.lit 0), false)]
def ix_b : Bind := ⟨[(400, (.op .add .i64 (.var 400) (.lit 1)))], [], [], []⟩
def ix_i : Bind := ⟨[(400, (.lit 0))], [], [], []⟩
def ix_t : T (XE × XS) := (.br (.lt (.var 400) (.var 0)) (.br zTM3_6 (.ret (.ret, ⟨[(8, zTM3_0), (7, zTM3_1), (6, zTM3_2), (4, zTM3_0), (0, zTM3_2), (1, zTM3_4)], [], 15⟩)) (.ret (.normal, ⟨[(8, (.sc (.i .i64 (.op .add .i64 (.var 400) (.lit 1))))), (7, zTM3_1), (6, zTM3_2), (4, zTM3_3), (0, zTM3_2), (1, zTM3_4)], [], 15⟩))) (.ret ((.exit 0), ⟨zTM3_5, [], 5⟩)))
noncomputable def ix : LoopX := ⟨((codeKey ix_c).getD 0), 0, 400, ix_S, ix_i, [], ix_t.outs⟩
theorem ix_run : (codeX (cfgL ([]) (fun _ => [])).ti (callS ⟨(cfgL ([]) (fun _ => [])), l_able, []⟩ 12) (((cfgL ([]) (fun _ => [])).ft 62).elim [] (·.ms)) ix.k0 ((fun _ => []) 62) 1000 ix_c ix_Φ ix.S).map (sqz (ix_S.t.map (·.1))) = ix_t := by kernel_rfl
theorem ix_back : ix_t.nrm (okS ix.k0 ix.n ix_b [] ix.S) = true := by kernel_rfl
theorem ix_bel : ix_t.outs.belX 401 = true := by kernel_rfl
theorem ix_ib : ix_i.bel 400 = true := by kernel_rfl
theorem ix_ig : ix_i.ge 400 = true := by kernel_rfl
theorem ix_bg : ix_b.ge 400 = true := by kernel_rfl
theorem ix_same : ix_i.same ix_b = true := by kernel_rfl
theorem ix_Sb : ix_S.bel 401 = true := by kernel_rfl
theorem ix_fits : fitsC Try.f62.ntmps ix_c = true := by kernel_rfl
end Go.Proofs.Ytdlifdoglhhnfaa

/- What functions answer, run over letters, where something is known; each shown by running it. -/
namespace Go.Proofs.Ytdlifdoglhhnfaa
open Go Go.Proofs.Aw Go.Proofs.Xw
noncomputable def lpIx (f : Nat) : List LoopX := if Nat.beq f 62 = true then [ix] else []
theorem lpIx_62o : othersB [ix] [0] 0 (loopsOf (Try.f62.body.getD .skip)) = true := by kernel_rfl
theorem lpIx_62 {ρ : Rho} (h_ix : LoopOk Try.prog ρ Try.f62.ntmps ix_c ix) : LpsOk Try.prog ρ Try.f62.ntmps [ix] (Try.f62.body.getD .skip) :=
  lps_idx [0] lpIx_62o (List.forall_mem_cons.2 ⟨look_list (c := ix_c) (Ls := [ix]) (by kernel_rfl) (List.forall_mem_cons.2 ⟨h_ix, List.forall_mem_nil _⟩), List.forall_mem_nil _⟩)
theorem lpIx_ok {ρ : Rho} (h_ix : LoopOk Try.prog ρ Try.f62.ntmps ix_c ix) : ∀ f i, btLook f ftsT = some i → LpsOk Try.prog ρ i.ntmps (lpIx f) i.body := by
  intro f i h
  have hi := fts_ok (f, i) (bt_of_mem _ _ (btLook_mem h))
  unfold lpIx
  split
  · rename_i hf
    have hf := Nat.eq_of_beq_eq_true hf
    subst hf
    exact lps_row hi Try.func62 (lpIx_62 h_ix)
  · exact LpsOk.nil _ _ _ _

def ctR : T X := (.need (.or zTM3_7 zTM3_6) (.ret (.sc (.b (.not (.or zTM3_7 (.lt (.var 400) (.lit 0))))))))
theorem ctR_run : askF ⟨cfgL [] lpIx, l_able, []⟩ 53 (ixA) [(.lt (.var 0) (.lit 0), false)] = ctR := by kernel_rfl
end Go.Proofs.Ytdlifdoglhhnfaa

/- Txn: contracts of slices.Contains and of much. -/
namespace Go.Proofs.Ytdlifdoglhhnfaa
open Go Go.Proofs.Aw Go.Proofs.Xw Go.Proofs.Sr
set_option maxRecDepth 100000
theorem seq_t (ρ : Rho) (a b : TE) : (BE.seq a b).den ρ = true ↔ a.den ρ = b.den ρ := by
  show ((a.den ρ).toList == (b.den ρ).toList) = true ↔ _
  rw [beq_iff_eq, ByteArray.toList_eq, ByteArray.toList_eq]
  constructor
  · intro h
    generalize a.den ρ = u at h
    generalize b.den ρ = v at h
    cases u; cases v
    simp only [ByteArray.mk.injEq]
    exact Array.toList_inj.1 h
  · intro h; rw [h]
theorem first_fail (P : Nat → Prop) : ∀ n : Nat, ¬ P n → ∃ N, N ≤ n ∧ ¬ P N ∧ ∀ j, j < N → P j := by
  intro n
  induction n using Nat.strongRecOn with
  | ind n ih =>
    intro h
    by_cases c : ∀ j, j < n → P j
    · exact ⟨n, Nat.le_refl _, h, c⟩
    · obtain ⟨m, hm⟩ := Classical.not_forall.1 c
      obtain ⟨hm, hp⟩ := Classical.not_imp.1 hm
      obtain ⟨N, h1, h2, h3⟩ := ih m hm hp
      exact ⟨N, by omega, h2, h3⟩
theorem sel_need {α : Type} {ρ : Rho} {c : BE} {t : T α} {a : Option α} (h : c.den ρ = true) (k : t.sel ρ = a) : (T.need c t).sel ρ = a := by rw [T.sel, if_pos h]; exact k
/-- A row of strings, as it is handed to a function that only reads. -/
def roV (n : Nat) (g : Nat → ByteArray) : AV := .ro 1 ((List.range n).map fun j => [AV.sc (.string (g j))]) false
/-! ### Contains -/
def rhoC (n : Nat) (g : Nat → ByteArray) (s : ByteArray) : Rho := ⟨fun _ => n, fun _ => false, fun _ => s, fun _ => n, fun _ _ _ => 0, fun _ _ _ => false, fun _ _ j => g j⟩
theorem ix_den (n : Nat) (g : Nat → ByteArray) (s : ByteArray) : X.denL (rhoC n g s) ixA = [roV n g, .sc (.string s)] := by
  show [AV.ro 1 (rowsD (rhoC n g s) (.var 0) (.var 1 [.s])) false, _] = _
  unfold roV rowsD
  congr 1
def ixL : BE := .lt (.var 400) (.var 0)
def ixH : BE := .seq (.var 0) (.cl 1 0 (.var 400))
theorem ix_tree : ∃ c s1 s2 s3, ix_t = .br ixL (.br ixH (.ret (.ret, s1)) (.ret (.normal, s2))) (.ret (.exit c, s3)) := ⟨_, _, _, _, rfl⟩
theorem ct_cy (n : Nat) (g : Nat → ByteArray) (s : ByteArray) (hn : n < 4611686018427387904) : ∃ b : Bool, (b = true ↔ ∃ j, j < n ∧ g j = s) ∧ hasBody Try.prog 53 = true ∧ ∀ k hp, CY Try.prog k 53 [roV n g, .sc (.string s)] hp (.sc (.bool b)) [] := by
  have e0 := ix_den n g s
  generalize hρ : rhoC n g s = ρ at e0
  have h0 : ρ.i 0 = n := by rw [← hρ]; rfl
  have hs : ρ.s 0 = s := by rw [← hρ]; rfl
  have hg : ∀ j, ρ.cs 1 0 j = g j := by rw [← hρ]; exact fun _ => rfl
  have cnt := fun j hj => it_count (e := .lit 0) (I := 400) (β := ix_b) rfl (ρ := ix_i.ap ρ) (by rfl) j hj
  have ag := fun j => (Bind.agree ix_ig ρ).trans (Bind.it_agree ix_bg (ix_i.ap ρ) j)
  have hL : ∀ j, j ≤ n → (ixL.den (ix_b.it (ix_i.ap ρ) j) = true ↔ j < n) := fun j hj => by
    unfold ixL
    rw [dlt_t]
    simp only [IE.den, cnt j (by omega), ← (ag j).i 0 (by decide), h0]
    omega
  have hH : ∀ j, j ≤ n → (ixH.den (ix_b.it (ix_i.ap ρ) j) = true ↔ g j = s) := fun j hj => by
    unfold ixH
    rw [seq_t]
    show (ix_b.it (ix_i.ap ρ) j).s 0 = (ix_b.it (ix_i.ap ρ) j).cs 1 0 ((ix_b.it (ix_i.ap ρ) j).i 400).toNat ↔ _
    rw [cnt j (by omega), Int.toNat_natCast, ← (ag j).s 0 (by decide), ← (ag j).cs 1 (by decide), hs, hg]
    exact eq_comm
  have fk : ∀ {ρ' : Rho}, ρ'.i 0 = n → Facts.ok ρ' [(.lt (.var 0) (.lit 0), false)] := fun h => Facts.ok_cons (by rw [dlt_f]; simp only [IE.den, h]; omega) (Facts.ok_nil _)
  obtain ⟨N, h1, h2, h3⟩ := first_fail (fun j => j < n ∧ g j ≠ s) n (fun h => by omega)
  obtain ⟨c, s1, s2, s3, ht⟩ := ix_tree
  have L : LoopOk Try.prog (ix_b.it (ix_i.ap ρ) N) Try.f62.ntmps ix_c ix := by
    refine loopOk_cntG mixed tis_ok ix_run ix_fits ix_back rfl 401 ix_bel ix_ib ix_bg ix_same (I := 400) rfl rfl (Φ0 := [(.lt (.var 0) (.lit 0), false)]) rfl (by kernel_rfl) (fk h0) ix_ig call0 (fun _ => LpsOk.nil _ _ _ _) N (by omega) (fun j hj _ _ => ⟨s2, ?_⟩) (fun _ _ => ?_)
    · have := h3 j hj
      rw [ht, T.sel]
      exact (if_pos ((hL j (by omega)).2 this.1)).trans (by rw [T.sel]; exact (if_neg (fun k => this.2 ((hH j (by omega)).1 k))).trans rfl)
    · by_cases hlt : N < n
      · refine ⟨.ret, s1, (fun h => nomatch h), ?_⟩
        have hh : g N = s := Classical.byContradiction fun k => h2 ⟨hlt, k⟩
        rw [ht, T.sel]
        exact (if_pos ((hL N (by omega)).2 hlt)).trans (by rw [T.sel]; exact (if_pos ((hH N (by omega)).2 hh)).trans rfl)
      · refine ⟨.exit c, s3, (fun h => nomatch h), ?_⟩
        rw [ht, T.sel]
        exact (if_neg (fun k => hlt ((hL N (by omega)).1 k))).trans rfl
  have lN := hL N (by omega)
  have hN := hH N (by omega)
  have c1 := cnt N (by omega)
  have ag := ag N
  generalize ix_b.it (ix_i.ap ρ) N = ρ1 at L ag lN hN c1
  have i0 : ρ1.i 0 = n := by rw [← ag.i 0 (by decide), h0]
  have hr : ctR = .need (.or (.not ixL) ixH) (.ret (.sc (.b (.not (.or (.not ixL) (.lt (.var 400) (.lit 0))))))) := rfl
  have nd : (BE.or (.not ixL) ixH).den ρ1 = true := by
    rw [dor_t, dnot_t]
    by_cases hlt : N < n
    · exact .inr (hN.2 (Classical.byContradiction fun k => h2 ⟨hlt, k⟩))
    · exact .inl (Bool.eq_false_iff.2 (fun k => hlt (lN.1 k)))
  have q := askF_ok (c := ⟨cfgL [] lpIx, l_able, []⟩) (f := 53) (args := ixA) (Φ := [(.lt (.var 0) (.lit 0), false)]) (cfgL_ok (List.forall_mem_nil _) (lpIx_ok L)) l_able_ok (fk i0) (by
    rw [ctR_run, hr]
    exact sel_need nd rfl)
  rw [← X.belL_den ag ixA (by kernel_rfl), e0] at q
  refine ⟨_, ?_, q⟩
  show (BE.not (.or (.not ixL) (.lt (.var 400) (.lit 0)))).den ρ1 = true ↔ _
  rw [dnot_t, dor_f, dnot_f, dlt_f]
  constructor
  · rintro ⟨k, _⟩
    exact ⟨N, lN.1 k, Classical.byContradiction fun e => h2 ⟨lN.1 k, e⟩⟩
  · rintro ⟨j, hj, e⟩
    have hlt : N < n := by
      rcases Nat.lt_or_ge N n with h | h
      · exact h
      · exact absurd e (h3 j (by omega)).2
    exact ⟨lN.2 hlt, by simp only [IE.den, c1]; omega⟩
end Go.Proofs.Ytdlifdoglhhnfaa

/- Txn: rounds of loops: steps and ends. -/
namespace Go.Proofs.Ytdlifdoglhhnfaa
open Go Go.Proofs.Aw Go.Proofs.Xw Go.Proofs.Sr
set_option maxRecDepth 100000
/-- A round leads to a state. -/
theorem fam_goU {N k0 n : Nat} {body : Code} {S U : XS} {ks ms hf : List Nat} {lps : List LoopX} {ρ ρ1 : Rho} {c : Cfg} {Φ : Facts} {t : T (XE × XS)} {s : XS} {β : Bind} {nm : List (Nm × Nm)} (hfit : fitsC N body = true) (hd : S.den ρ = S.den ρ1) (cok : CfgOk Try.prog ρ1 c) (hl : LpsOk Try.prog ρ1 N lps body) (hk : Facts.ok ρ1 Φ)
    (hrun : (codeX c.ti (callS ⟨c, l_able, hf⟩ 12) ms k0 lps 1000 body Φ S).map (sqz ks) = t) (hs : t.sel ρ1 = some (.normal, s)) (hok : okS k0 n β nm U s = true) : StepF Try.prog N body k0 S U ρ (β.ap ρ1) :=
  StepF.from hd (stepF_of mixed cok.ti (callS_ok (c := ⟨c, l_able, hf⟩) cok l_able_ok 12) hl hfit hk rfl (by rw [hrun]; exact hs) hok)
/-- The loop ends, in a state like the one that is told. -/
theorem fam_endU {N k0 : Nat} {body : Code} {S : XS} {ks ms hf : List Nat} {lps : List LoopX} {ρ : Rho} {c : Cfg} {Φ : Facts} {t out : T (XE × XS)} {e : XE} {s s' : XS} (hfit : fitsC N body = true) (cok : CfgOk Try.prog ρ c) (hl : LpsOk Try.prog ρ N lps body) (hk : Facts.ok ρ Φ)
    (hrun : (codeX c.ti (callS ⟨c, l_able, hf⟩ 12) ms k0 lps 1000 body Φ S).map (sqz ks) = t) (hs : t.sel ρ = some (e, s)) (he : e ≠ .normal) (ho : out.sel ρ = some (e, s')) (hi : okS k0 1000 noB [] s' s = true) : EndL Try.prog N body k0 S out ρ :=
  endF_of mixed cok.ti (callS_ok (c := ⟨c, l_able, hf⟩) cok l_able_ok 12) hl hfit hk rfl he (by rw [hrun]; exact hs) ⟨s', ho, fun E hb => okS_imp hb hi ρ⟩
theorem cN_ok (ρ : Rho) : CfgOk Try.prog ρ (cfgL [] (fun _ => [])) := cfgL_ok (List.forall_mem_nil _) (fun _ _ _ => LpsOk.nil _ _ _ _)
theorem cK_ok {ρ : Rho} {ks : List (Nat × List X × X)} (h : ∀ p ∈ ks, hasBody Try.prog p.1 = true ∧ ∀ n h, CY Try.prog n p.1 (X.denL ρ p.2.1) h (p.2.2.den ρ) []) : CfgOk Try.prog ρ (cfgL ks (fun _ => [])) := cfgL_ok h (fun _ _ _ => LpsOk.nil _ _ _ _)
end Go.Proofs.Ytdlifdoglhhnfaa

/- Txn: the loop of right: what is run once. -/
namespace Go.Proofs.Ytdlifdoglhhnfaa
open Go Go.Proofs.Aw Go.Proofs.Xw
set_option maxRecDepth 100000
def rgI : List (BE × Bool) := [(.lt (.var 440) (.lit 0), false)]
def kyI : X := .sc (.s (.cl 2 0 (.var 440)))
def ksR : List (Nat × List X × X) := [(53, [.rl 1 (.var 440) (.var 2 [.s]) false, kyI], .sc (.b (.var 441)))]
def szI : IE := .slen (.cl 2 0 (.var 440))
def inI : BE := .lt (.var 440) (.len 2)

noncomputable def rg_c : Code := (loopsOf (Try.f32.body.getD .skip))[0]?.getD .skip
theorem rg_fits : fitsC Try.f32.ntmps rg_c = true := by kernel_rfl
def rg_E : XS := ⟨[(7, zTM3_3), (6, zTM3_8), (5, zTM3_9), (2, zTM3_10), (0, zTM3_9)], [], 4⟩
def rg_ks : List Nat := [7, 6, 5, 2, 0]
theorem rg_Eb : rg_E.bel 440 = true := by kernel_rfl
def rg_S0 : XS := ⟨zTM3_11, [], 4⟩
theorem rg_S0b : rg_S0.bel 470 = true := by kernel_rfl
def rg_I0 : Bind := ⟨[(440, (.lit 0))], [], [], []⟩
theorem rg_I0ok : okS 0 440 rg_I0 [] rg_S0 rg_E = true := by kernel_rfl
theorem rg_I0g : rg_I0.ge 440 = true := by kernel_rfl
theorem rg_I0_440 : lassoc 440 rg_I0.i = some (.lit 0) := by kernel_rfl
def rg_G_s : XS := ⟨[(7, (.sc (.i .i64 (.op .add .i64 (.var 440) (.lit 1))))), (6, zTM3_8), (5, zTM3_9), (2, zTM3_10), (0, zTM3_9)], [], 27⟩
def rg_G_r : T (XE × XS) := (.ret (.normal, rg_G_s))
theorem rg_G_run : (codeX (cfgL ksR (fun _ => [])).ti (callS ⟨(cfgL ksR (fun _ => [])), l_able, []⟩ 12) (((cfgL ksR (fun _ => [])).ft 32).elim [] (·.ms)) 0 ([]) 1000 rg_c ((inI, true) :: (.lt szI (.lit 1), false) :: (.lt (.lit 16) szI, false) :: (.var 441, false) :: rgI) rg_S0).map (sqz rg_ks) = rg_G_r := by kernel_rfl
def rg_G_b : Bind := ⟨[(440, (.op .add .i64 (.var 440) (.lit 1)))], [], [], []⟩
theorem rg_G_ok : okS 0 440 rg_G_b [] rg_S0 rg_G_s = true := by kernel_rfl
theorem rg_G_g : rg_G_b.ge 440 = true := by kernel_rfl
theorem rg_G_step {ρ ρ1 : Rho} (hd : rg_S0.den ρ = rg_S0.den ρ1) (cok : CfgOk Try.prog ρ1 (cfgL ksR (fun _ => []))) (hl : LpsOk Try.prog ρ1 Try.f32.ntmps ([]) rg_c) (hk : Facts.ok ρ1 ((inI, true) :: (.lt szI (.lit 1), false) :: (.lt (.lit 16) szI, false) :: (.var 441, false) :: rgI)) : StepF Try.prog Try.f32.ntmps rg_c 0 rg_S0 rg_S0 ρ (rg_G_b.ap ρ1) :=
  fam_goU rg_fits hd cok hl hk rg_G_run rfl rg_G_ok
theorem rg_G_440 : lassoc 440 rg_G_b.i = some (.op .add .i64 (.var 440) (.lit 1)) := by kernel_rfl
def rg_A_s : XS := ⟨zTM3_11, [], 18⟩
def rg_A_r : T (XE × XS) := (.ret (.ret, rg_A_s))
theorem rg_A_run : (codeX (cfgL [] (fun _ => [])).ti (callS ⟨(cfgL [] (fun _ => [])), l_able, []⟩ 12) (((cfgL [] (fun _ => [])).ft 32).elim [] (·.ms)) 0 ([]) 1000 rg_c ((inI, true) :: (.lt szI (.lit 1), true) :: rgI) rg_S0).map (sqz rg_ks) = rg_A_r := by kernel_rfl
def rg_B_s : XS := ⟨zTM3_11, [], 21⟩
def rg_B_r : T (XE × XS) := (.ret (.ret, rg_B_s))
theorem rg_B_run : (codeX (cfgL [] (fun _ => [])).ti (callS ⟨(cfgL [] (fun _ => [])), l_able, []⟩ 12) (((cfgL [] (fun _ => [])).ft 32).elim [] (·.ms)) 0 ([]) 1000 rg_c ((inI, true) :: (.lt szI (.lit 1), false) :: (.lt (.lit 16) szI, true) :: rgI) rg_S0).map (sqz rg_ks) = rg_B_r := by kernel_rfl
def rg_D_s : XS := ⟨zTM3_11, [], 26⟩
def rg_D_r : T (XE × XS) := (.ret (.ret, rg_D_s))
theorem rg_D_run : (codeX (cfgL ksR (fun _ => [])).ti (callS ⟨(cfgL ksR (fun _ => [])), l_able, []⟩ 12) (((cfgL ksR (fun _ => [])).ft 32).elim [] (·.ms)) 0 ([]) 1000 rg_c ((inI, true) :: (.lt szI (.lit 1), false) :: (.lt (.lit 16) szI, false) :: (.var 441, true) :: rgI) rg_S0).map (sqz rg_ks) = rg_D_r := by kernel_rfl
def rg_X_s : XS := ⟨zTM3_11, [], 5⟩
def rg_X_r : T (XE × XS) := (.ret ((.exit 0), rg_X_s))
theorem rg_X_run : (codeX (cfgL [] (fun _ => [])).ti (callS ⟨(cfgL [] (fun _ => [])), l_able, []⟩ 12) (((cfgL [] (fun _ => [])).ft 32).elim [] (·.ms)) 0 ([]) 1000 rg_c ((inI, false) :: rgI) rg_S0).map (sqz rg_ks) = rg_X_r := by kernel_rfl
def rg_out : T (XE × XS) := (.br (.var 442) (.ret (.ret, rg_A_s)) (.ret ((.exit 0), rg_X_s)))
noncomputable def rg : LoopX := ⟨((codeKey rg_c).getD 0), 0, 440, rg_E, noB, [], rg_out⟩
theorem rg_ob : rg.out.belX 470 = true := by kernel_rfl
theorem rg_A_end {ρ1 : Rho} (cok : CfgOk Try.prog ρ1 (cfgL [] (fun _ => []))) (hl : LpsOk Try.prog ρ1 Try.f32.ntmps ([]) rg_c) (hk : Facts.ok ρ1 ((inI, true) :: (.lt szI (.lit 1), true) :: rgI)) (ho : rg_out.sel ρ1 = some (.ret, rg_A_s)) : EndL Try.prog Try.f32.ntmps rg_c 0 rg_S0 rg_out ρ1 :=
  fam_endU rg_fits cok hl hk rg_A_run rfl (fun h => nomatch h) ho (by kernel_rfl)
theorem rg_B_end {ρ1 : Rho} (cok : CfgOk Try.prog ρ1 (cfgL [] (fun _ => []))) (hl : LpsOk Try.prog ρ1 Try.f32.ntmps ([]) rg_c) (hk : Facts.ok ρ1 ((inI, true) :: (.lt szI (.lit 1), false) :: (.lt (.lit 16) szI, true) :: rgI)) (ho : rg_out.sel ρ1 = some (.ret, rg_A_s)) : EndL Try.prog Try.f32.ntmps rg_c 0 rg_S0 rg_out ρ1 :=
  fam_endU rg_fits cok hl hk rg_B_run rfl (fun h => nomatch h) ho (by kernel_rfl)
theorem rg_D_end {ρ1 : Rho} (cok : CfgOk Try.prog ρ1 (cfgL ksR (fun _ => []))) (hl : LpsOk Try.prog ρ1 Try.f32.ntmps ([]) rg_c) (hk : Facts.ok ρ1 ((inI, true) :: (.lt szI (.lit 1), false) :: (.lt (.lit 16) szI, false) :: (.var 441, true) :: rgI)) (ho : rg_out.sel ρ1 = some (.ret, rg_A_s)) : EndL Try.prog Try.f32.ntmps rg_c 0 rg_S0 rg_out ρ1 :=
  fam_endU rg_fits cok hl hk rg_D_run rfl (fun h => nomatch h) ho (by kernel_rfl)
theorem rg_X_end {ρ1 : Rho} (cok : CfgOk Try.prog ρ1 (cfgL [] (fun _ => []))) (hl : LpsOk Try.prog ρ1 Try.f32.ntmps ([]) rg_c) (hk : Facts.ok ρ1 ((inI, false) :: rgI)) (ho : rg_out.sel ρ1 = some ((.exit 0), rg_X_s)) : EndL Try.prog Try.f32.ntmps rg_c 0 rg_S0 rg_out ρ1 :=
  fam_endU rg_fits cok hl hk rg_X_run rfl (fun h => nomatch h) ho (by kernel_rfl)
end Go.Proofs.Ytdlifdoglhhnfaa

/- What functions answer, run over letters, where something is known; each shown by running it. -/
namespace Go.Proofs.Ytdlifdoglhhnfaa
open Go Go.Proofs.Aw Go.Proofs.Xw
noncomputable def lpRg (f : Nat) : List LoopX := if Nat.beq f 32 = true then [rg] else []
theorem lpRg_32o : othersB [rg] [0] 0 (loopsOf (Try.f32.body.getD .skip)) = true := by kernel_rfl
theorem lpRg_32 {ρ : Rho} (h_rg : LoopOk Try.prog ρ Try.f32.ntmps rg_c rg) : LpsOk Try.prog ρ Try.f32.ntmps [rg] (Try.f32.body.getD .skip) :=
  lps_idx [0] lpRg_32o (List.forall_mem_cons.2 ⟨look_list (c := rg_c) (Ls := [rg]) (by kernel_rfl) (List.forall_mem_cons.2 ⟨h_rg, List.forall_mem_nil _⟩), List.forall_mem_nil _⟩)
theorem lpRg_ok {ρ : Rho} (h_rg : LoopOk Try.prog ρ Try.f32.ntmps rg_c rg) : ∀ f i, btLook f ftsT = some i → LpsOk Try.prog ρ i.ntmps (lpRg f) i.body := by
  intro f i h
  have hi := fts_ok (f, i) (bt_of_mem _ _ (btLook_mem h))
  unfold lpRg
  split
  · rename_i hf
    have hf := Nat.eq_of_beq_eq_true hf
    subst hf
    exact lps_row hi Try.func32 (lpRg_32 h_rg)
  · exact LpsOk.nil _ _ _ _

def rgR : T X := (.ret (.sc (.b (.and (.not (.var 442)) (.and (.not (.lt (.len 2) (.lit 1))) (.not (.lt (.lit 6) (.len 2))))))))
theorem rgR_run : askF ⟨cfgL [] lpRg, l_able, []⟩ 32 ([kyR]) [] = rgR := by kernel_rfl
end Go.Proofs.Ytdlifdoglhhnfaa
