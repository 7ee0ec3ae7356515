/- The abstract logic, part 2: the abstract heap, and what one operation yields. -/
import Derived.Test.YtcllappmhdfffaaAw1
namespace Go.Proofs.Aw
open Go

abbrev Tp := List (Nat × AV)
abbrev Hp := List (Nm × List AV)
abbrev Dl := List (Nm × Option (List AV))

def tget : Tp → Nat → AV
  | [], _ => .top
  | (j, v) :: l, i => if j = i then v else tget l i
def hget : Hp → Nm → Option (List AV)
  | [], _ => none
  | (m, v) :: l, n => if m = n then some v else hget l n
def hdel : Hp → Nm → Hp
  | [], _ => []
  | (m, v) :: l, n => if m = n then hdel l n else (m, v) :: hdel l n
def hset : Hp → Nm → List AV → Hp
  | [], n, v => [(n, v)]
  | (m, u) :: l, n, v => if m = n then (m, v) :: l else (m, u) :: hset l n v
def hap : Dl → Hp → Hp
  | [], h => h
  | (n, some v) :: d, h => hap d (hset h n v)
  | (n, none) :: d, h => hap d (hdel h n)
def tput (d : Option Tmp) (v : AV) (t : Tp) : Tp :=
  match d with
  | some d => (d, v) :: t
  | none => t
def ev (t : Tp) : Operand → AV
  | .tmp i => tget t i
  | .const v => .sc v
  | .global g => .sc (.pointer (some ⟨g, 0, none⟩))
  | .func f => .fn (.func f) [] []

theorem hget_hset (h : Hp) (n m : Nm) (v : List AV) : hget (hset h n v) m = if n = m then some v else hget h m := by
  induction h with
  | nil => simp [hset, hget]
  | cons x l ih =>
    obtain ⟨k, u⟩ := x
    by_cases hk : k = n
    · subst hk; by_cases hm : k = m <;> simp [hset, hget, hm]
    · by_cases hm : k = m
      · subst hm; simp [hset, hget, hk, Ne.symm hk]
      · simp only [hset, hk, if_false, hget, hm, ih]
theorem hget_hdel (h : Hp) (n m : Nm) : hget (hdel h n) m = if n = m then none else hget h m := by
  induction h with
  | nil => simp [hdel, hget]
  | cons x l ih =>
    obtain ⟨k, u⟩ := x
    by_cases hk : k = n
    · subst hk
      simp only [hdel, if_true, ih, hget]
      by_cases hm : k = m <;> simp [hm]
    · by_cases hm : k = m
      · subst hm; simp [hdel, hget, hk, Ne.symm hk]
      · simp only [hdel, hk, if_false, hget, hm, ih]
theorem hget_hap_other : ∀ (d : Dl) (h : Hp) (m : Nm), m ∉ d.map (·.1) → hget (hap d h) m = hget h m
  | [], _, _, _ => rfl
  | (n, some v) :: d, h, m, hm => by
    simp only [List.map_cons, List.mem_cons, not_or] at hm
    simp only [hap]
    rw [hget_hap_other d _ m hm.2, hget_hset, if_neg (Ne.symm hm.1)]
  | (n, none) :: d, h, m, hm => by
    simp only [List.map_cons, List.mem_cons, not_or] at hm
    simp only [hap]
    rw [hget_hap_other d _ m hm.2, hget_hdel, if_neg (Ne.symm hm.1)]

/-- The cells of an object lie at the head of its block. -/
def ObjOk (C : Ctx) (b : Nat) (cs : List AV) : Prop :=
  ∃ arr ty, C.w.heap[b]? = some (.cells arr ty (0, 0)) ∧ ∀ (j : Nat) (c : AV), cs[j]? = some c → ∃ u, arr[j]? = some u ∧ Conc C c u

structure HeapOk (C : Ctx) (h : Hp) : Prop where
  live : ∀ n, C.live n ↔ (hget h n).isSome = true
  obj : ∀ n cs, hget h n = some cs → ObjOk C (C.ρ n) cs
  inj : ∀ n m, C.live n → C.live m → C.ρ n = C.ρ m → n = m
  mt : ∀ n, C.live n → C.mt (C.ρ n)
  kn : ∀ n, C.live n → C.kn n

def TOk (C : Ctx) (t : Tp) (a : Act) : Prop := ∀ i, Conc C (tget t i) (a.tmps.getD i undef)

theorem HeapOk.lt {C : Ctx} {h : Hp} (hh : HeapOk C h) {n : Nm} (hl : C.live n) : C.ρ n < C.w.heap.size := by
  have h1 := (hh.live n).1 hl
  obtain ⟨cs, hcs⟩ := Option.isSome_iff_exists.1 h1
  obtain ⟨arr, ty, ha, _⟩ := hh.obj n cs hcs
  rcases Nat.lt_or_ge (C.ρ n) C.w.heap.size with h2 | h2
  · exact h2
  · rw [Array.getElem?_eq_none h2] at ha; cases ha
theorem HeapOk.get {C : Ctx} {h : Hp} (hh : HeapOk C h) {n : Nm} {cs : List AV} (hg : hget h n = some cs) : C.live n := (hh.live n).2 (by rw [hg]; rfl)

theorem TOk.mono {C C' : Ctx} {t : Tp} {a : Act} (h : C.le C') (ht : TOk C t a) : TOk C' t a := fun i => Conc.mono h _ _ (ht i)
theorem ev_conc {C : Ctx} {t : Tp} {a : Act} (ht : TOk C t a) (x : Operand) : Conc C (ev t x) (a.eval x) := by
  cases x with
  | tmp i => exact ht i
  | const v => simp only [ev, Conc, Act.eval]
  | global g => simp only [ev, Conc, Act.eval]
  | func f => simp only [ev, Conc, ConcL, Act.eval]; exact ⟨#[], #[], rfl, rfl, rfl⟩

/-- What holds behind one operation. -/
structure Post (C : Ctx) (n : Nat) (h : Hp) (r : AV) (d : Dl) (u : Value) (C' : Ctx) : Prop where
  le : C.le C'
  kn : ∀ i, C'.kn i ↔ C.kn i ∨ i.1 = n
  heap : HeapOk C' (hap d h)
  val : Conc C' r u
  same : ∀ b, b < C.w.heap.size → (∀ m, m ∈ d.map (·.1) → C.live m → b ≠ C.ρ m) → C'.w.heap[b]? = C.w.heap[b]?
  mt : ∀ b, b < C.w.heap.size → (C'.mt b ↔ C.mt b)
  os : C'.w.os = C.w.os
  tape : C'.w.tape = C.w.tape
  output : C'.w.output = C.w.output
  orig : ∀ m, C'.live m → (C.live m ∧ C'.ρ m = C.ρ m) ∨ C.w.heap.size ≤ C'.ρ m ∨ ∃ m0, m0 ∈ d.map (·.1) ∧ C.live m0 ∧ C'.ρ m = C.ρ m0
  names : ∀ m, m ∈ d.map (·.1) → C.live m ∨ m.1 = n

/-- An operation yields r, and turns the heap by d; new objects bear the number n. -/
def Yields (P : Program) (n : Nat) (op : Op) (t : Tp) (h : Hp) (r : AV) (d : Dl) : Prop :=
  ∀ (C : Ctx) (a : Act) (o : Oper) (next : Act → World → Prop) (Q : Exit → Act → World → Prop), o.op = op → HeapOk C h → TOk C t a → (∀ k, ¬ C.kn (n, k)) →
    (∀ u C', Post C n h r d u C' → next (a.put o.dst u) C'.w) → o.wp P a C.w next Q

/-! ### Contexts behind an operation -/

/-- The world has drawn, or nothing: the heap is the same. -/
def Ctx.same (C : Ctx) (n : Nat) (w : World) : Ctx := { C with kn := fun i => C.kn i ∨ i.1 = n, w := w }
theorem Ctx.le_same (C : Ctx) (n : Nat) {w : World} (hw : w.heap = C.w.heap) : C.le (C.same n w) where
  size := by simp [Ctx.same, hw]
  same b _ _ := by simp [Ctx.same, hw]
  mt _ _ h := h
  kn _ h := .inl h
  live _ _ h := ⟨h, rfl⟩
  own n _ _ cs ty hc := ⟨cs, ty, by simp [Ctx.same, hw, hc], rfl⟩

theorem HeapOk.mono {C C' : Ctx} {h : Hp} (hh : HeapOk C h) (le : C.le C') (hl : ∀ n, C'.live n ↔ C.live n) (hb : ∀ n, C.live n → C'.w.heap[C.ρ n]? = C.w.heap[C.ρ n]?) (hm : ∀ b, C.mt b → b < C.w.heap.size → C'.mt b) : HeapOk C' h where
  live n := (hl n).trans (hh.live n)
  obj n cs hg := by
    have hlv := hh.get hg
    have e := (le.live n (hh.kn n hlv) ((hl n).2 hlv)).2
    obtain ⟨arr, ty, ha, hc⟩ := hh.obj n cs hg
    refine ⟨arr, ty, by rw [e, hb n hlv]; exact ha, fun j c hj => ?_⟩
    obtain ⟨u, hu, hcu⟩ := hc j c hj
    exact ⟨u, hu, hcu.mono le⟩
  inj n m hn hm' he := by
    have h1 := (hl n).1 hn
    have h2 := (hl m).1 hm'
    rw [(le.live n (hh.kn n h1) hn).2, (le.live m (hh.kn m h2) hm').2] at he
    exact hh.inj n m h1 h2 he
  mt n hn := by
    have h1 := (hl n).1 hn
    rw [(le.live n (hh.kn n h1) hn).2]
    exact hm _ (hh.mt n h1) (hh.lt h1)
  kn n hn := le.kn _ (hh.kn n ((hl n).1 hn))

theorem Post.pure {C : Ctx} {n : Nat} {h : Hp} {r : AV} {u : Value} (hh : HeapOk C h) (hr : Conc C r u) {w : World} (hw : w.heap = C.w.heap) (ho : w.os = C.w.os) (ht : w.tape = C.w.tape) (hu : w.output = C.w.output) : Post C n h r [] u (C.same n w) where
  le := C.le_same n hw
  kn _ := Iff.rfl
  heap := hh.mono (C.le_same n hw) (fun _ => Iff.rfl) (fun _ _ => by simp [Ctx.same, hw]) (fun _ hm _ => hm)
  val := hr.mono (C.le_same n hw)
  same b _ _ := by simp [Ctx.same, hw]
  mt _ _ := Iff.rfl
  os := ho
  tape := ht
  output := hu
  orig m hm := .inl ⟨hm, rfl⟩
  names _ hm := by simp at hm

/-- The same with a new block that nobody may write. -/
def Ctx.allocI (C : Ctx) (n : Nat) (w : World) : Ctx := { C with kn := fun i => C.kn i ∨ i.1 = n, mt := fun b => C.mt b ∧ b < C.w.heap.size, w := w }
theorem Ctx.le_allocI (C : Ctx) (n : Nat) {w : World} {o : Obj} (hw : w.heap = C.w.heap.push o) : C.le (C.allocI n w) where
  size := by simp [Ctx.allocI, hw]
  same b hb _ := by simp [Ctx.allocI, hw, Array.getElem?_push, Nat.ne_of_lt hb]
  mt _ _ h := h.1
  kn _ h := .inl h
  live _ _ h := ⟨h, rfl⟩
  own n _ _ cs ty hc := ⟨cs, ty, by
    have hb : C.ρ n < C.w.heap.size := by
      rcases Nat.lt_or_ge (C.ρ n) C.w.heap.size with h2 | h2
      · exact h2
      · rw [Array.getElem?_eq_none h2] at hc; cases hc
    simp [Ctx.allocI, hw, Array.getElem?_push, Nat.ne_of_lt hb, hc], rfl⟩
theorem Post.allocI {C : Ctx} {n : Nat} {h : Hp} {r : AV} {u : Value} (hh : HeapOk C h) {w : World} {o : Obj} (hw : w.heap = C.w.heap.push o) (hr : Conc (C.allocI n w) r u) (ho : w.os = C.w.os) (ht : w.tape = C.w.tape) (hu : w.output = C.w.output) : Post C n h r [] u (C.allocI n w) where
  le := C.le_allocI n hw
  kn _ := Iff.rfl
  heap := hh.mono (C.le_allocI n hw) (fun _ => Iff.rfl) (fun n' hl => by
      have hb := hh.lt hl
      simp [Ctx.allocI, hw, Array.getElem?_push, Nat.ne_of_lt hb]) (fun b hm hb => ⟨hm, hb⟩)
  val := hr
  same b hb _ := by simp [Ctx.allocI, hw, Array.getElem?_push, Nat.ne_of_lt hb]
  mt b hb := ⟨fun hm => hm.1, fun hm => ⟨hm, hb⟩⟩
  os := ho
  tape := ht
  output := hu
  orig m hm := .inl ⟨hm, rfl⟩
  names _ hm := by simp at hm

/-- The same with a new object. -/
def Ctx.allocN (C : Ctx) (n : Nat) (w : World) : Ctx where
  ρ := fun m => if m = (n, 0) then C.w.heap.size else C.ρ m
  live := fun m => m = (n, 0) ∨ C.live m
  kn := fun i => C.kn i ∨ i.1 = n
  mt := fun b => (C.mt b ∧ b < C.w.heap.size) ∨ b = C.w.heap.size
  w := w
theorem Ctx.le_allocN (C : Ctx) (n : Nat) (hn : (∀ k, ¬ C.kn (n, k))) {w : World} {o : Obj} (hw : w.heap = C.w.heap.push o) : C.le (C.allocN n w) where
  size := by simp [Ctx.allocN, hw]
  same b hb _ := by simp [Ctx.allocN, hw, Array.getElem?_push, Nat.ne_of_lt hb]
  mt b hb h := by
    rcases h with h | h
    · exact h.1
    · omega
  kn _ h := .inl h
  live m hk h := by
    have hne : m ≠ (n, 0) := fun e => by subst e; exact hn 0 hk
    simp only [Ctx.allocN, hne, false_or, if_false] at h ⊢
    exact ⟨h, trivial⟩
  own m _ _ cs ty hc := ⟨cs, ty, by
    have hb : C.ρ m < C.w.heap.size := by
      rcases Nat.lt_or_ge (C.ρ m) C.w.heap.size with h2 | h2
      · exact h2
      · rw [Array.getElem?_eq_none h2] at hc; cases hc
    simp [Ctx.allocN, hw, Array.getElem?_push, Nat.ne_of_lt hb, hc], rfl⟩
theorem Post.allocN {C : Ctx} {n : Nat} {h : Hp} {r : AV} {u : Value} {cs : List AV} {arr : Array Value} {ty : TypeId} (hh : HeapOk C h) (hn : (∀ k, ¬ C.kn (n, k))) {w : World} (hw : w.heap = C.w.heap.push (.cells arr ty))
    (hcs : ∀ (j : Nat) (c : AV), cs[j]? = some c → ∃ u, arr[j]? = some u ∧ Conc C c u) (hr : Conc (C.allocN n w) r u) (ho : w.os = C.w.os) (ht : w.tape = C.w.tape) (hu : w.output = C.w.output) :
    Post C n h r [((n, 0), some cs)] u (C.allocN n w) := by
  have le := C.le_allocN n hn hw
  have hne : ∀ m, C.live m → m ≠ (n, 0) := fun m hm e => hn 0 (by have := hh.kn m hm; rw [e] at this; exact this)
  have hget' : ∀ m, hget (hap [((n, 0), some cs)] h) m = if (n, 0) = m then some cs else hget h m := fun m => by simp only [hap]; exact hget_hset _ _ _ _
  have hrho : ∀ m, C.live m → (C.allocN n w).ρ m = C.ρ m := fun m hm => by simp [Ctx.allocN, hne m hm]
  refine ⟨le, fun _ => Iff.rfl, ⟨fun m => ?_, fun m cs' hg => ?_, fun m m' hm hm' he => ?_, fun m hm => ?_, fun m hm => ?_⟩, hr, fun b hb _ => ?_, fun b hb => ?_, ho, ht, hu, fun m hm => ?_, fun m hm => ?_⟩
  · rw [hget']
    by_cases e : (n, 0) = m
    · simp [Ctx.allocN, ← e]
    · rw [if_neg e, ← hh.live m]
      simp [Ctx.allocN, Ne.symm e]
  · rw [hget'] at hg
    by_cases e : (n, 0) = m
    · rw [if_pos e] at hg
      subst e
      cases hg
      refine ⟨arr, ty, by simp [Ctx.allocN, hw], fun j c hj => ?_⟩
      obtain ⟨u', hu', hc⟩ := hcs j c hj
      exact ⟨u', hu', hc.mono le⟩
    · rw [if_neg e] at hg
      have hl := hh.get hg
      obtain ⟨arr', ty', ha, hc⟩ := hh.obj m cs' hg
      have hb := hh.lt hl
      refine ⟨arr', ty', by rw [hrho m hl]; simp [Ctx.allocN, hw, Array.getElem?_push, Nat.ne_of_lt hb, ha], fun j c hj => ?_⟩
      obtain ⟨u', hu', hc'⟩ := hc j c hj
      exact ⟨u', hu', hc'.mono le⟩
  · by_cases e : m = (n, 0) <;> by_cases e' : m' = (n, 0)
    · rw [e, e']
    · have hl' : C.live m' := by simpa [Ctx.allocN, e'] using hm'
      have := hh.lt hl'
      rw [hrho m' hl', e] at he
      simp [Ctx.allocN] at he
      omega
    · have hl : C.live m := by simpa [Ctx.allocN, e] using hm
      have := hh.lt hl
      rw [hrho m hl, e'] at he
      simp [Ctx.allocN] at he
      omega
    · have hl : C.live m := by simpa [Ctx.allocN, e] using hm
      have hl' : C.live m' := by simpa [Ctx.allocN, e'] using hm'
      rw [hrho m hl, hrho m' hl'] at he
      exact hh.inj m m' hl hl' he
  · by_cases e : m = (n, 0)
    · simp [Ctx.allocN, e]
    · have hl : C.live m := by simpa [Ctx.allocN, e] using hm
      rw [hrho m hl]
      exact .inl ⟨hh.mt m hl, hh.lt hl⟩
  · by_cases e : m = (n, 0)
    · simp [Ctx.allocN, e]
    · have hl : C.live m := by simpa [Ctx.allocN, e] using hm
      exact .inl (hh.kn m hl)
  · simp [Ctx.allocN, hw, Array.getElem?_push, Nat.ne_of_lt hb]
  · simp only [Ctx.allocN]
    constructor
    · rintro (h1 | h1)
      · exact h1.1
      · omega
    · intro h1; exact .inl ⟨h1, hb⟩
  · by_cases e : m = (n, 0)
    · exact .inr (.inl (by simp [Ctx.allocN, e]))
    · have hl : C.live m := by simpa [Ctx.allocN, e] using hm
      exact .inl ⟨hl, hrho m hl⟩
  · simp at hm
    exact .inr (by rw [hm])

/-- An object's cells have turned. -/
theorem Ctx.le_mod (C : Ctx) (n : Nat) {b : Nat} (hm : C.mt b) {w : World} {arr arr' : Array Value} {ty : TypeId} (hb : C.w.heap[b]? = some (.cells arr ty (0, 0))) (hb' : w.heap[b]? = some (.cells arr' ty (0, 0)))
    (hs : arr'.size = arr.size) (hsz : w.heap.size = C.w.heap.size) (ho : ∀ k, k ≠ b → w.heap[k]? = C.w.heap[k]?) : C.le (C.same n w) where
  size := by simp [Ctx.same, hsz]
  same k _ hk := ho k (fun e => hk (by rw [e]; exact hm))
  mt _ _ h := h
  kn _ h := .inl h
  live _ _ h := ⟨h, rfl⟩
  own m _ _ cs ty' hc := by
    by_cases e : C.ρ m = b
    · rw [e] at hc ⊢
      rw [hb] at hc
      cases hc
      exact ⟨arr', ty, hb', hs⟩
    · exact ⟨cs, ty', (ho _ e).trans hc, rfl⟩
theorem Post.mod {C : Ctx} {n : Nat} {h : Hp} {r : AV} {u : Value} {m : Nm} {cs cs' : List AV} (hh : HeapOk C h) (hg : hget h m = some cs) {w : World} {arr arr' : Array Value} {ty : TypeId}
    (hb : C.w.heap[C.ρ m]? = some (.cells arr ty (0, 0))) (hb' : w.heap[C.ρ m]? = some (.cells arr' ty (0, 0))) (hs : arr'.size = arr.size) (hsz : w.heap.size = C.w.heap.size) (hot : ∀ k, k ≠ C.ρ m → w.heap[k]? = C.w.heap[k]?)
    (hcs : ∀ (j : Nat) (c : AV), cs'[j]? = some c → ∃ u, arr'[j]? = some u ∧ Conc C c u) (hr : Conc C r u) (ho : w.os = C.w.os) (ht : w.tape = C.w.tape) (hu : w.output = C.w.output) :
    Post C n h r [(m, some cs')] u (C.same n w) := by
  have hl := hh.get hg
  have le := C.le_mod n (hh.mt m hl) hb hb' hs hsz hot
  have hget' : ∀ k, hget (hap [(m, some cs')] h) k = if m = k then some cs' else hget h k := fun k => by simp only [hap]; exact hget_hset _ _ _ _
  refine ⟨le, fun _ => Iff.rfl, ⟨fun k => ?_, fun k ds hk => ?_, fun k k' hk hk' he => hh.inj k k' hk hk' he, fun k hk => hh.mt k hk, fun k hk => .inl (hh.kn k hk)⟩, hr.mono le, fun b _ hne => hot b (hne m (by simp) hl), fun _ _ => Iff.rfl, ho, ht, hu, fun k hk => .inl ⟨hk, rfl⟩, fun k hk => ?_⟩
  · rw [hget']
    by_cases e : m = k
    · subst e; simp [Ctx.same, hl]
    · rw [if_neg e]; exact hh.live k
  · rw [hget'] at hk
    by_cases e : m = k
    · subst e
      rw [if_pos rfl] at hk; cases hk
      refine ⟨arr', ty, hb', fun j c hj => ?_⟩
      obtain ⟨u', hu', hc⟩ := hcs j c hj
      exact ⟨u', hu', hc.mono le⟩
    · rw [if_neg e] at hk
      obtain ⟨arr1, ty1, ha, hc⟩ := hh.obj k ds hk
      refine ⟨arr1, ty1, ?_, fun j c hj => ?_⟩
      · exact (hot _ (fun he => e (hh.inj _ _ hl (hh.get hk) he.symm))).trans ha
      · obtain ⟨u', hu', hc'⟩ := hc j c hj
        exact ⟨u', hu', hc'.mono le⟩
  · simp at hk; subst hk; exact .inl hl

theorem Yields.pure {P : Program} {n : Nat} {op : Op} {t : Tp} {h : Hp} {r : AV}
    (H : ∀ (C : Ctx) (a : Act) (o : Oper), o.op = op → HeapOk C h → TOk C t a → ∃ u, (execOp a.eval o).run P C.w = .ok (.value u) C.w ∧ Conc C r u) : Yields P n op t h r [] := by
  intro C a o next Q ho hh ht _ hk
  obtain ⟨u, hr, hc⟩ := H C a o ho hh ht
  unfold Oper.wp
  rw [hr]
  exact hk u (C.same n C.w) (Post.pure hh hc rfl rfl rfl rfl)
theorem Yields.run {P : Program} {n : Nat} {op : Op} {t : Tp} {h : Hp} {r : AV} {d : Dl}
    (H : ∀ (C : Ctx) (a : Act) (o : Oper), o.op = op → HeapOk C h → TOk C t a → (∀ k, ¬ C.kn (n, k)) → ∃ u C', (execOp a.eval o).run P C.w = .ok (.value u) C'.w ∧ Post C n h r d u C') : Yields P n op t h r d := by
  intro C a o next Q ho hh ht hn hk
  obtain ⟨u, C', hr, hp⟩ := H C a o ho hh ht hn
  unfold Oper.wp
  rw [hr]
  exact hk u C' hp
theorem Yields.skip {P : Program} {n : Nat} {op : Op} {t : Tp} {h : Hp} {d : Dl}
    (H : ∀ (C : Ctx) (a : Act) (o : Oper), o.op = op → HeapOk C h → TOk C t a → (∀ k, ¬ C.kn (n, k)) → ∃ C', (execOp a.eval o).run P C.w = .ok .skip C'.w ∧ Post C n h (.sc undef) d undef C') : Yields P n op t h (.sc undef) d := by
  intro C a o next Q ho hh ht hn hk
  obtain ⟨C', hr, hp⟩ := H C a o ho hh ht hn
  unfold Oper.wp
  rw [hr]
  exact hk undef C' hp
end Go.Proofs.Aw
