/- The abstract logic, part 16: a region that draws its order: one walk in the order of the text serves every order. -/
import Derived.Test.YtcllappmhdfffaaAw15
namespace Go.Proofs.Aw
open Go

/-- An operation that was walked: its slot, what it yielded, how it turned the heap, and which operations it must wait for. -/
structure En where
  dst : Option Tmp
  r : AV
  d : Dl
  ms : Nat

def ent : List En → Nat → Option En
  | [], _ => none
  | e :: es, j => if j = es.length then some e else ent es j
def tview (A : Nat → Bool) : List En → Tp → Tp
  | [], t => t
  | e :: es, t => tput e.dst (if A es.length = true then e.r else .top) (tview A es t)
def hview (A : Nat → Bool) : List En → Hp → Hp
  | [], h => h
  | e :: es, h => if A es.length = true then hap e.d (hview A es h) else hview A es h
def freshD (n : Nat) : Dl → Bool
  | [] => true
  | (m, some _) :: d => m.1 == n && freshD n d
  | (_, none) :: _ => false
def entMk (es : List En) (j : Nat) : Nat := match ent es j with | some e => e.ms | none => 0
def maskE (es : List En) : List Edge → Nat
  | [] => 0
  | e :: l => if Region.binds .any e = true then (2 ^ e.on ||| entMk es e.on) ||| maskE es l else maskE es l

def DW (P : Program) (ms : List Nat) (ops : List Oper) (nx : Nat) (t0 : Tp) (h0 : Hp) (K : Tp → Hp → Prop) : List Oper → List En → Nat → Prop
  | [], es, _ => K (tview (fun _ => true) es t0) (hview (fun _ => true) es h0)
  | o :: l, es, bm => ∀ mk, maskE es o.after.toList = mk → mk < 2 ^ es.length ∧ (bm &&& mk) = bm ∧
    match o.guard with
    | none => stepK P (nx + es.length) (o.dst.any ms.contains) o.op (tview mk.testBit es t0) (hview mk.testBit es h0) fun r d =>
        if freshD (nx + es.length) d = true then DW P ms ops nx t0 h0 K l (⟨o.dst, r, d, mk⟩ :: es) bm
        else mk + 1 = 2 ^ es.length ∧ DW P ms ops nx t0 h0 K l (⟨o.dst, r, d, mk⟩ :: es) (bm ||| 2 ^ es.length)
    | some (j, want) => gdK (yv ops (tview mk.testBit es t0) j) want
        (stepK P (nx + es.length) (o.dst.any ms.contains) o.op (tview mk.testBit es t0) (hview mk.testBit es h0) fun r d =>
          if freshD (nx + es.length) d = true then DW P ms ops nx t0 h0 K l (⟨o.dst, r, d, mk⟩ :: es) bm
          else mk + 1 = 2 ^ es.length ∧ DW P ms ops nx t0 h0 K l (⟨o.dst, r, d, mk⟩ :: es) (bm ||| 2 ^ es.length))
        (DW P ms ops nx t0 h0 K l (⟨o.dst, .sc undef, [], mk⟩ :: es) bm)

/-- All slots are written once. -/
def once : List Oper → Bool
  | [] => true
  | o :: l => (match o.dst with | some d => l.all fun o' => o'.dst != some d | none => true) && once l
/-- The slots that a region writes are taken out. -/
def tdel (ops : List Oper) : Tp → Tp
  | [] => []
  | p :: t => if ops.any (fun o => o.dst == some p.1) = true then tdel ops t else p :: tdel ops t

/-! ### Look-ups -/
theorem ent_lt : ∀ {es : List En} {j : Nat} {e : En}, ent es j = some e → j < es.length
  | [], j, e, h => by simp [ent] at h
  | x :: es, j, e, h => by
    simp only [ent] at h
    split at h
    · rename_i hj; subst hj; simp
    · have := ent_lt h; simp; omega
theorem ent_some : ∀ {es : List En} {j : Nat}, j < es.length → ∃ e, ent es j = some e
  | [], j, h => by simp at h
  | x :: es, j, h => by
    simp only [ent]
    split
    · exact ⟨x, rfl⟩
    · exact ent_some (by simp at h; omega)
theorem tget_tput (d : Option Tmp) (v : AV) (t : Tp) (x : Nat) : tget (tput d v t) x = if d = some x then v else tget t x := by
  cases d with
  | none => simp [tput]
  | some d => simp [tput, tget]
/-- Either an entry writes the slot, or none does. -/
theorem tget_view (A : Nat → Bool) (t0 : Tp) (x : Nat) : ∀ (es : List En), (∃ j e, ent es j = some e ∧ e.dst = some x ∧ tget (tview A es t0) x = (if A j = true then e.r else .top)) ∨
    ((∀ j e, ent es j = some e → e.dst ≠ some x) ∧ tget (tview A es t0) x = tget t0 x)
  | [] => .inr ⟨fun j e h => by simp [ent] at h, rfl⟩
  | e :: es => by
    simp only [tview, tget_tput]
    by_cases he : e.dst = some x
    · exact .inl ⟨es.length, e, by simp [ent], he, by rw [if_pos he]⟩
    · rw [if_neg he]
      rcases tget_view A t0 x es with ⟨j, e', h1, h2, h3⟩ | ⟨h1, h2⟩
      · exact .inl ⟨j, e', by simp only [ent]; rw [if_neg (by have := ent_lt h1; omega)]; exact h1, h2, h3⟩
      · refine .inr ⟨fun j e' hj => ?_, h2⟩
        simp only [ent] at hj
        split at hj
        · cases hj; exact he
        · exact h1 j e' hj
theorem tget_tdel (ops : List Oper) (x : Nat) : ∀ (t : Tp), tget (tdel ops t) x = if ops.any (fun o => o.dst == some x) = true then .top else tget t x
  | [] => by simp [tdel, tget]
  | (i, v) :: t => by
    simp only [tdel]
    by_cases hi : i = x
    · subst hi
      split
      · rename_i h; rw [tget_tdel ops i t, if_pos h]
      · simp only [tget, if_true]
    · split
      · rw [tget_tdel ops x t]; simp only [tget, hi, if_false]
      · simp only [tget, hi, if_false]; rw [tget_tdel ops x t]

theorem hget_hap (m : Nm) : ∀ (d : Dl) (h : Hp), (m ∈ d.map (·.1) ∧ ∀ h', hget (hap d h) m = hget (hap d h') m) ∨ (m ∉ d.map (·.1) ∧ hget (hap d h) m = hget h m) := by
  intro d h
  by_cases hm : m ∈ d.map (·.1)
  · refine .inl ⟨hm, ?_⟩
    induction d generalizing h with
    | nil => simp at hm
    | cons p d ih =>
      obtain ⟨k, v⟩ := p
      intro h'
      by_cases hd : m ∈ d.map (·.1)
      · cases v <;> exact ih _ hd _
      · have hk : k = m := by
          simp only [List.map_cons, List.mem_cons] at hm
          rcases hm with h1 | h1
          · exact h1.symm
          · exact absurd h1 hd
        subst hk
        cases v with
        | none => simp only [hap]; rw [hget_hap_other d _ _ hd, hget_hap_other d _ _ hd, hget_hdel, hget_hdel]; simp
        | some v => simp only [hap]; rw [hget_hap_other d _ _ hd, hget_hap_other d _ _ hd, hget_hset, hget_hset]; simp
  · exact .inr ⟨hm, hget_hap_other d h m hm⟩
theorem freshD_names {n : Nat} : ∀ {d : Dl}, freshD n d = true → ∀ m ∈ d.map (·.1), m.1 = n
  | [], _, m, h => by simp at h
  | (k, some v) :: d, hf, m, h => by
    simp only [freshD, Bool.and_eq_true, beq_iff_eq] at hf
    simp only [List.map_cons, List.mem_cons] at h
    rcases h with rfl | h
    · exact hf.1
    · exact freshD_names hf.2 m h
  | (k, none) :: d, hf, _, _ => by simp [freshD] at hf

/-- Two lists of entries under which a name is seen alike. -/
theorem hget_view_congr {A B : Nat → Bool} {h0 : Hp} {m : Nm} : ∀ (es : List En), (∀ j e, ent es j = some e → m ∈ e.d.map (·.1) → A j = B j) → hget (hview A es h0) m = hget (hview B es h0) m
  | [], _ => rfl
  | e :: es, h => by
    have ih := hget_view_congr (A := A) (B := B) (h0 := h0) (m := m) es fun j e' hj hm => h j e' (by simp only [ent]; rw [if_neg (by have := ent_lt hj; omega)]; exact hj) hm
    simp only [hview]
    by_cases hm : m ∈ e.d.map (·.1)
    · have hab := h es.length e (by simp [ent]) hm
      rw [hab]
      split
      · rcases hget_hap m e.d (hview A es h0) with ⟨_, h1⟩ | ⟨h1, _⟩
        · exact h1 _
        · exact absurd hm h1
      · exact ih
    · have e1 : ∀ h, hget (hap e.d h) m = hget h m := fun h => hget_hap_other e.d h m hm
      split <;> split <;> simp only [e1, ih]

/-! ### What a walk has shown -/
structure Shown (P : Program) (ops : List Oper) (nx : Nat) (t0 : Tp) (h0 : Hp) (es : List En) (e : En) (o : Oper) : Prop where
  dst : e.dst = o.dst
  mask : e.ms = maskE es o.after.toList
  lt : e.ms < 2 ^ es.length
  yields : (o.guard = none ∧ Yields P (nx + es.length) o.op (tview e.ms.testBit es t0) (hview e.ms.testBit es h0) e.r e.d) ∨
    (∃ j want b, o.guard = some (j, want) ∧ yv ops (tview e.ms.testBit es t0) j = .sc (.bool b) ∧ b = want ∧ Yields P (nx + es.length) o.op (tview e.ms.testBit es t0) (hview e.ms.testBit es h0) e.r e.d) ∨
    (∃ j want, o.guard = some (j, want) ∧ ((∃ b, yv ops (tview e.ms.testBit es t0) j = .sc (.bool b) ∧ b ≠ want) ∨ ∃ x, yv ops (tview e.ms.testBit es t0) j = .sc (.tuple x)) ∧ e.r = .sc undef ∧ e.d = [])
  fresh : freshD (nx + es.length) e.d = true ∨ e.ms + 1 = 2 ^ es.length
  waits : ∀ j e', ent es j = some e' → freshD (nx + j) e'.d = false → e.ms.testBit j = true
def Walked (P : Program) (ops : List Oper) (nx : Nat) (t0 : Tp) (h0 : Hp) : List En → Prop
  | [] => True
  | e :: es => Walked P ops nx t0 h0 es ∧ ∃ o, ops[es.length]? = some o ∧ Shown P ops nx t0 h0 es e o

theorem DW_walked {P : Program} {ms : List Nat} {ops : List Oper} {nx : Nat} {t0 : Tp} {h0 : Hp} {K : Tp → Hp → Prop} : ∀ (l : List Oper) (es : List En) (bm : Nat), (∀ j, l[j]? = ops[es.length + j]?) → Walked P ops nx t0 h0 es →
    (∀ j e, ent es j = some e → freshD (nx + j) e.d = false → bm.testBit j = true) → DW P ms ops nx t0 h0 K l es bm →
    ∃ es', Walked P ops nx t0 h0 es' ∧ es'.length = es.length + l.length ∧ K (tview (fun _ => true) es' t0) (hview (fun _ => true) es' h0)
  | [], es, bm, _, hw, _, h => ⟨es, hw, by simp, h⟩
  | o :: l, es, bm, hl, hw, hbm, h => by
    have ho : ops[es.length]? = some o := by have := hl 0; simpa using this.symm
    obtain ⟨hlt, hb, h⟩ := h _ rfl
    have hl' : ∀ j, l[j]? = ops[es.length + 1 + j]? := fun j => by
      have := hl (j + 1)
      rw [List.getElem?_cons_succ] at this
      rw [this]; congr 1; omega
    have wait : ∀ j e', ent es j = some e' → freshD (nx + j) e'.d = false → (maskE es o.after.toList).testBit j = true := fun j e' he hf => by
      have h1 := hbm j e' he hf
      rw [← hb, Nat.testBit_and, Bool.and_eq_true] at h1
      exact h1.2
    have goOn : ∀ (r : AV) (d : Dl), (∀ e : En, e = ⟨o.dst, r, d, maskE es o.after.toList⟩ → (freshD (nx + es.length) d = true ∨ maskE es o.after.toList + 1 = 2 ^ es.length) → Shown P ops nx t0 h0 es e o) →
        (if freshD (nx + es.length) d = true then DW P ms ops nx t0 h0 K l (⟨o.dst, r, d, maskE es o.after.toList⟩ :: es) bm
          else maskE es o.after.toList + 1 = 2 ^ es.length ∧ DW P ms ops nx t0 h0 K l (⟨o.dst, r, d, maskE es o.after.toList⟩ :: es) (bm ||| 2 ^ es.length)) →
        ∃ es', Walked P ops nx t0 h0 es' ∧ es'.length = es.length + (o :: l).length ∧ K (tview (fun _ => true) es' t0) (hview (fun _ => true) es' h0) := by
      intro r d hs hk
      split at hk
      · rename_i hf
        obtain ⟨es', h1, h2, h3⟩ := DW_walked l (⟨o.dst, r, d, maskE es o.after.toList⟩ :: es) bm hl' ⟨hw, o, ho, hs _ rfl (.inl hf)⟩ (fun j e he hf' => by
          simp only [ent] at he
          split at he
          · rename_i hj; cases he; subst hj; rw [hf] at hf'; cases hf'
          · exact hbm j e he hf') hk
        exact ⟨es', h1, by rw [h2]; simp; omega, h3⟩
      · rename_i hf
        obtain ⟨es', h1, h2, h3⟩ := DW_walked l (⟨o.dst, r, d, maskE es o.after.toList⟩ :: es) (bm ||| 2 ^ es.length) hl' ⟨hw, o, ho, hs _ rfl (.inr hk.1)⟩ (fun j e he hf' => by
          rw [Nat.testBit_or]
          simp only [ent] at he
          split at he
          · rename_i hj; subst hj; rw [Nat.testBit_two_pow_self, Bool.or_true]
          · rw [hbm j e he hf']; rfl) hk.2
        exact ⟨es', h1, by rw [h2]; simp; omega, h3⟩
    cases hg : o.guard with
    | none =>
      rw [hg] at h
      obtain ⟨r, d, hy, hk⟩ := stepK_sound h
      exact goOn r d (fun e he hf => by subst he; exact ⟨rfl, rfl, hlt, .inl ⟨hg, hy⟩, hf, wait⟩) hk
    | some jw =>
      obtain ⟨j, want⟩ := jw
      rw [hg] at h
      simp only at h
      have skipped : ((∃ b, yv ops (tview (maskE es o.after.toList).testBit es t0) j = .sc (.bool b) ∧ b ≠ want) ∨ ∃ x, yv ops (tview (maskE es o.after.toList).testBit es t0) j = .sc (.tuple x)) →
          DW P ms ops nx t0 h0 K l (⟨o.dst, .sc undef, [], maskE es o.after.toList⟩ :: es) bm →
          ∃ es', Walked P ops nx t0 h0 es' ∧ es'.length = es.length + (o :: l).length ∧ K (tview (fun _ => true) es' t0) (hview (fun _ => true) es' h0) := fun hno hk =>
        goOn (.sc undef) [] (fun e he hf => by subst he; exact ⟨rfl, rfl, hlt, .inr (.inr ⟨j, want, hg, hno, rfl, rfl⟩), hf, wait⟩) (by simpa [freshD] using hk)
      unfold gdK at h
      split at h
      · rename_i b hb'
        by_cases hbw : b = want
        · obtain ⟨r, d, hy, hk⟩ := stepK_sound (h.1 hbw)
          exact goOn r d (fun e he hf => by subst he; exact ⟨rfl, rfl, hlt, .inr (.inl ⟨j, want, b, hg, hb', hbw, hy⟩), hf, wait⟩) hk
        · exact skipped (.inl ⟨b, hb', hbw⟩) (h.2 ((by decide : ∀ x y : Bool, x ≠ y → x = !y) b want hbw))
      · rename_i x hx
        exact skipped (.inr ⟨x, hx⟩) h
      · exact h.elim
end Go.Proofs.Aw
