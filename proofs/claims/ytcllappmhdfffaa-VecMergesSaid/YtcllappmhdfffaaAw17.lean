/- The abstract logic, part 17: whatever order is drawn, it comes to what the walk in the order of the text has shown. -/
import Derived.Test.YtcllappmhdfffaaAw16
namespace Go.Proofs.Aw
open Go

theorem Walked.get {P : Program} {ops : List Oper} {nx : Nat} {t0 : Tp} {h0 : Hp} : ∀ {es : List En}, Walked P ops nx t0 h0 es → ∀ {j : Nat} {e : En}, ent es j = some e →
    ∃ es' o, es'.length = j ∧ (∀ k, k < j → ent es' k = ent es k) ∧ ops[j]? = some o ∧ Shown P ops nx t0 h0 es' e o ∧ (∀ (A : Nat → Bool), (∀ k, j ≤ k → A k = false) → hview A es h0 = hview A es' h0) ∧ (∀ A : Nat → Bool, A j = true → (∀ k, j < k → A k = false) → hview A es h0 = hap e.d (hview A es' h0))
  | [], _, j, e, h => by simp [ent] at h
  | x :: es, ⟨hw, o, ho, hs⟩, j, e, h => by
    simp only [ent] at h
    split at h
    · rename_i hj
      cases h
      subst hj
      refine ⟨es, o, rfl, fun k hk => by simp only [ent]; rw [if_neg (by omega)], ho, hs, fun A hA => ?_, fun A hA _ => ?_⟩
      · simp only [hview]; rw [hA _ (Nat.le_refl _)]; rfl
      · simp only [hview]; rw [if_pos hA]
    · have hlt := ent_lt h
      obtain ⟨es', o', h1, h2, h3, h4, h5, h6⟩ := Walked.get hw h
      refine ⟨es', o', h1, fun k hk => by rw [h2 k hk]; simp only [ent]; rw [if_neg (by omega)], h3, h4, fun A hA => ?_, fun A hA hA' => ?_⟩
      · simp only [hview]; rw [hA es.length (by omega)]; exact h5 A hA
      · simp only [hview]; rw [hA' es.length hlt]; exact h6 A hA hA'

theorem maskE_bit {es : List En} {k : Nat} : ∀ {l : List Edge}, (maskE es l).testBit k = true ↔ ∃ e ∈ l, Region.binds .any e = true ∧ (e.on = k ∨ (entMk es e.on).testBit k = true)
  | [] => by simp [maskE]
  | e :: l => by
    simp only [maskE]
    split
    · rename_i hb
      rw [Nat.testBit_or, Nat.testBit_or, Bool.or_eq_true, Bool.or_eq_true, maskE_bit (l := l), Nat.testBit_two_pow, decide_eq_true_eq]
      constructor
      · rintro ((h | h) | ⟨e', h1, h2⟩)
        · exact ⟨e, List.mem_cons_self, hb, .inl h⟩
        · exact ⟨e, List.mem_cons_self, hb, .inr h⟩
        · exact ⟨e', List.mem_cons_of_mem _ h1, h2⟩
      · rintro ⟨e', h1, h2, h3⟩
        rcases List.mem_cons.1 h1 with rfl | h1
        · exact .inl h3
        · exact .inr ⟨e', h1, h2, h3⟩
    · rename_i hb
      rw [maskE_bit (l := l)]
      constructor
      · rintro ⟨e', h1, h2⟩; exact ⟨e', List.mem_cons_of_mem _ h1, h2⟩
      · rintro ⟨e', h1, h2, h3⟩
        rcases List.mem_cons.1 h1 with rfl | h1
        · exact absurd h2 hb
        · exact ⟨e', h1, h2, h3⟩

theorem once_spec : ∀ {ops : List Oper}, once ops = true → ∀ {j k : Nat} {o o' : Oper} {x : Nat}, ops[j]? = some o → ops[k]? = some o' → o.dst = some x → o'.dst = some x → j = k
  | [], _, j, k, o, o', x, h, _, _, _ => by simp at h
  | p :: l, ho, j, k, o, o', x, hj, hk, hx, hx' => by
    simp only [once, Bool.and_eq_true] at ho
    cases j with
    | zero =>
      cases k with
      | zero => rfl
      | succ k =>
        simp at hj hk
        subst hj
        have := ho.1
        rw [hx] at this
        have h1 := List.all_eq_true.1 this o' (List.mem_of_getElem? hk)
        simp [hx'] at h1
    | succ j =>
      cases k with
      | zero =>
        simp at hj hk
        subst hk
        have := ho.1
        rw [hx'] at this
        have h1 := List.all_eq_true.1 this o (List.mem_of_getElem? hj)
        simp [hx] at h1
      | succ k => exact congrArg (· + 1) (once_spec ho.2 (by simpa using hj) (by simpa using hk) hx hx')
theorem fits_spec {N : Nat} {ops : List Oper} (h : fits N ops = true) {j : Nat} {o : Oper} (hj : ops[j]? = some o) : ∀ x, o.dst = some x → x < N := fun x hx => by
  have := List.all_eq_true.1 h o (List.mem_of_getElem? hj)
  rw [hx] at this
  simpa [Nat.blt_eq] using this

/-- What is fixed while the orders are gone through. -/
structure Fixed (P : Program) (E : Env) (ops : List Oper) (nx : Nat) (t0 : Tp) (h0 : Hp) (es : List En) : Prop where
  walked : Walked P ops nx t0 h0 es
  len : es.length = ops.length
  once : once ops = true
  fits : fits E.N ops = true
  top : ∀ o ∈ ops, ∀ x, o.dst = some x → tget t0 x = .top

/-- The world as those see it who wait for the operations of A alone. -/
def Ctx.at_ (C : Ctx) (nx : Nat) (h0 : Hp) (es : List En) (A : Nat → Bool) : Ctx :=
  { ρ := C.ρ, live := fun m => (hget (hview A es h0) m).isSome = true, kn := fun m => m.1 < nx ∨ ∃ j, A j = true ∧ m.1 = nx + j, mt := C.mt, w := C.w }

section
variable {P : Program} {E : Env} {ops : List Oper} {nx : Nat} {t0 : Tp} {h0 : Hp} {es : List En}

theorem Fixed.entry (F : Fixed P E ops nx t0 h0 es) {j : Nat} {o : Oper} (ho : ops[j]? = some o) : ∃ e, ent es j = some e ∧ e.dst = o.dst := by
  have hj := (List.getElem?_eq_some_iff.1 ho).1
  obtain ⟨e, he⟩ := ent_some (es := es) (j := j) (by rw [F.len]; exact hj)
  obtain ⟨es', o', h1, h2, h3, h4, _⟩ := F.walked.get he
  rw [ho] at h3; cases h3
  exact ⟨e, he, h4.dst⟩
theorem Fixed.op (F : Fixed P E ops nx t0 h0 es) {j : Nat} {e : En} (he : ent es j = some e) : ∃ o, ops[j]? = some o ∧ e.dst = o.dst := by
  obtain ⟨es', o', h1, h2, h3, h4, _⟩ := F.walked.get he
  exact ⟨o', h3, h4.dst⟩
/-- A slot that operation i writes. -/
theorem Fixed.tget_dst (F : Fixed P E ops nx t0 h0 es) (A : Nat → Bool) {i : Nat} {e : En} {x : Nat} (he : ent es i = some e) (hx : e.dst = some x) : tget (tview A es t0) x = if A i = true then e.r else .top := by
  rcases tget_view A t0 x es with ⟨j, e', h1, h2, h3⟩ | ⟨h1, _⟩
  · obtain ⟨o, ho, hd⟩ := F.op he
    obtain ⟨o', ho', hd'⟩ := F.op h1
    have hij := once_spec F.once ho ho' (hd ▸ hx) (hd' ▸ h2)
    subst hij
    rw [he] at h1; cases h1
    exact h3
  · exact absurd hx (h1 i e he)
/-- Views that differ in operations that do not write the slot. -/
theorem Fixed.tget_congr (F : Fixed P E ops nx t0 h0 es) {A B : Nat → Bool} {x : Nat} (h : ∀ j e, ent es j = some e → e.dst = some x → A j = B j) : tget (tview A es t0) x = tget (tview B es t0) x := by
  rcases tget_view A t0 x es with ⟨j, e, h1, h2, h3⟩ | ⟨h1, h2⟩
  · rw [F.tget_dst A h1 h2, F.tget_dst B h1 h2, h j e h1 h2]
  · rcases tget_view B t0 x es with ⟨j, e, h3, h4, _⟩ | ⟨_, h4⟩
    · exact absurd h4 (h1 j e h3)
    · rw [h2, h4]
/-- The view of an operation, as it was walked. -/
theorem Fixed.tget_walk (F : Fixed P E ops nx t0 h0 es) {es' : List En} {j : Nat} (hl : es'.length = j) (he : ∀ k, k < j → ent es' k = ent es k) {A : Nat → Bool} (hA : ∀ k, j ≤ k → A k = false) (x : Nat) : tget (tview A es' t0) x = tget (tview A es t0) x := by
  rcases tget_view A t0 x es' with ⟨k, e, h1, h2, h3⟩ | ⟨h1, h2⟩
  · have hk := ent_lt h1
    rw [hl] at hk
    rw [he k hk] at h1
    rw [h3, F.tget_dst A h1 h2]
  · rcases tget_view A t0 x es with ⟨k, e, h3, h4, h5⟩ | ⟨_, h4⟩
    · rcases Nat.lt_or_ge k j with hk | hk
      · exact absurd h4 (h1 k e (by rw [he k hk]; exact h3))
      · rw [h2, h5, hA k hk]
        obtain ⟨o, ho, hd⟩ := F.op h3
        exact F.top o (List.mem_of_getElem? ho) x (hd ▸ h4)
    · rw [h2, h4]

theorem entMk_of {es : List En} {j : Nat} {e : En} (h : ent es j = some e) : entMk es j = e.ms := by simp [entMk, h]
theorem Fixed.mask (F : Fixed P E ops nx t0 h0 es) {j : Nat} {e : En} {o : Oper} (he : ent es j = some e) (ho : ops[j]? = some o) :
    (∀ k, e.ms.testBit k = true → k < j) ∧ (∀ ed ∈ o.after, Region.binds .any ed = true → e.ms.testBit ed.on = true) ∧
    (∀ k, e.ms.testBit k = true → ∃ ed ∈ o.after, Region.binds .any ed = true ∧ (ed.on = k ∨ ∃ e', ent es ed.on = some e' ∧ e'.ms.testBit k = true)) ∧
    (∀ ed ∈ o.after, Region.binds .any ed = true → ∀ e', ent es ed.on = some e' → ∀ m, e'.ms.testBit m = true → e.ms.testBit m = true) := by
  obtain ⟨es', o', h1, h2, h3, h4, _⟩ := F.walked.get he
  rw [ho] at h3; cases h3
  have hlt : ∀ k, e.ms.testBit k = true → k < j := fun k hk => by
    rcases Nat.lt_or_ge k j with h | h
    · exact h
    · have := Nat.testBit_lt_two_pow (x := e.ms) (i := k) (Nat.lt_of_lt_of_le (by rw [← h1]; exact h4.lt) (Nat.pow_le_pow_right (by omega) h))
      rw [hk] at this; cases this
  have hin : ∀ ed ∈ o.after, Region.binds .any ed = true → e.ms.testBit ed.on = true := fun ed hed hb => by
    rw [h4.mask]
    exact maskE_bit.2 ⟨ed, by simpa using hed, hb, .inl rfl⟩
  refine ⟨hlt, hin, fun k hk => ?_, fun ed hed hb e' he' m hm => ?_⟩
  · rw [h4.mask] at hk
    obtain ⟨ed, hed, hb, hor⟩ := maskE_bit.1 hk
    refine ⟨ed, by simpa using hed, hb, ?_⟩
    rcases hor with h | h
    · exact .inl h
    · refine .inr ?_
      unfold entMk at h
      cases hx : ent es' ed.on with
      | none => rw [hx] at h; simp at h
      | some e' =>
        rw [hx] at h
        have hlt' := ent_lt hx
        rw [h1] at hlt'
        rw [h2 _ hlt'] at hx
        exact ⟨e', hx, h⟩
  · have hl := hlt _ (hin ed hed hb)
    have hx : ent es' ed.on = some e' := by rw [h2 _ hl]; exact he'
    rw [h4.mask]
    exact maskE_bit.2 ⟨ed, by simpa using hed, hb, .inr (by rw [entMk_of hx]; exact hm)⟩
/-- What an operation waits for waits for no more than it does. -/
theorem Fixed.trans (F : Fixed P E ops nx t0 h0 es) : ∀ (j : Nat) {k : Nat} {e e' : En}, ent es j = some e → e.ms.testBit k = true → ent es k = some e' → ∀ m, e'.ms.testBit m = true → e.ms.testBit m = true := by
  intro j
  induction j using Nat.strongRecOn with
  | _ j ih =>
    intro k e e' he hk he' m hm
    obtain ⟨o, ho, _⟩ := F.op he
    obtain ⟨hlt, hin, hex, hsub⟩ := F.mask he ho
    obtain ⟨ed, hed, hb, hor⟩ := hex k hk
    rcases hor with h | ⟨e1, he1, hk1⟩
    · subst h; exact hsub ed hed hb e' he' m hm
    · exact hsub ed hed hb e1 he1 m (ih ed.on (hlt _ (hin ed hed hb)) he1 hk1 he' m hm)

theorem hview_congr {A B : Nat → Bool} {h0 : Hp} : ∀ (es : List En), (∀ j, j < es.length → A j = B j) → hview A es h0 = hview B es h0
  | [], _ => rfl
  | e :: es, h => by
    simp only [hview]
    rw [hview_congr es (fun j hj => h j (by simp; omega)), h es.length (by simp)]
theorem tview_congr {A B : Nat → Bool} {t0 : Tp} : ∀ (es : List En), (∀ j, j < es.length → A j = B j) → tview A es t0 = tview B es t0
  | [], _ => rfl
  | e :: es, h => by
    simp only [tview]
    rw [tview_congr es (fun j hj => h j (by simp; omega)), h es.length (by simp)]

/-- The operations of L are done; A has seen as much of them as it must. -/
structure Adm (nx : Nat) (es : List En) (L A : Nat → Bool) : Prop where
  sub : ∀ j, A j = true → L j = true
  closed : ∀ j e, A j = true → ent es j = some e → ∀ k, e.ms.testBit k = true → A k = true
  bars : ∀ j e, L j = true → ent es j = some e → freshD (nx + j) e.d = false → A j = true
structure InvD (E : Env) (nx : Nat) (t0 : Tp) (h0 : Hp) (es : List En) (L : Nat → Bool) (C : Ctx) (a : Act) : Prop where
  lt : ∀ j, L j = true → j < es.length
  closed : ∀ j e, L j = true → ent es j = some e → ∀ k, e.ms.testBit k = true → L k = true
  names : ∀ j e, L j = true → ent es j = some e → ∀ m ∈ e.d.map (·.1), m.1 < nx ∨ ∃ k, (k = j ∨ e.ms.testBit k = true) ∧ m.1 = nx + k
  size : a.tmps.size = E.N
  defers : a.defers = []
  ok : ∀ A, Adm nx es L A → HeapOk (C.at_ nx h0 es A) (hview A es h0) ∧ TOk (C.at_ nx h0 es A) (tview A es t0) a ∧ FrameOk E (C.at_ nx h0 es A)

def addL (L : Nat → Bool) (i : Nat) : Nat → Bool := fun j => L j || j == i
theorem addL_iff {L : Nat → Bool} {i j : Nat} : addL L i j = true ↔ L j = true ∨ j = i := by simp [addL]

/-- The context behind operation i. -/
def Ctx.next (C C' : Ctx) (n : Nat) : Ctx := { C' with ρ := fun m => if m.1 = n then C'.ρ m else C.ρ m }

theorem FrameOk.of {E : Env} {C C' : Ctx} (h : FrameOk E C) (hw : C'.w = C.w) (hm : C'.mt = C.mt) (hle : E.c0.le C') (hr : ∀ n, C'.live n → C'.ρ n < E.w0.heap.size → E.wr (C'.ρ n)) : FrameOk E C' where
  os := by rw [hw]; exact h.os
  tape := by rw [hw]; exact h.tape
  output := by rw [hw]; exact h.output
  size := by rw [hw]; exact h.size
  same b hb hn := by rw [hw]; exact h.same b hb hn
  mt b hb := by rw [hm]; exact h.mt b hb
  wr := hr
  le := hle

theorem InvD.step (F : Fixed P E ops nx t0 h0 es) {L : Nat → Bool} {C : Ctx} {a : Act} (I : InvD E nx t0 h0 es L C a) {i : Nat} {e : En} {o : Oper} (he : ent es i = some e) (ho : ops[i]? = some o) (hiL : L i = false)
    (hin : ∀ k, e.ms.testBit k = true → L k = true) {es' : List En} (hl' : es'.length = i) (he' : ∀ k, k < i → ent es' k = ent es k) (hs : Shown P ops nx t0 h0 es' e o)
    (h6 : ∀ A : Nat → Bool, A i = true → (∀ k, i < k → A k = false) → hview A es h0 = hap e.d (hview A es' h0)) (h5 : hview e.ms.testBit es h0 = hview e.ms.testBit es' h0) {u : Value} {C' : Ctx} (hadm : Adm nx es L e.ms.testBit)
    (hp : Post (C.at_ nx h0 es e.ms.testBit) (nx + i) (hview e.ms.testBit es' h0) e.r e.d u C') :
    InvD E nx t0 h0 es (addL L i) (C.next C' (nx + i)) (a.put o.dst u) := by
  obtain ⟨mlt, _, _, _⟩ := F.mask he ho
  have hi : i < es.length := ent_lt he
  obtain ⟨hH, hT, hF⟩ := I.ok _ hadm
  have hFr : FrameOk E C' := hF.step hp
  have later : ∀ j ej, L j = true → ent es j = some ej → freshD (nx + j) ej.d = false → i < j → False := fun j ej hj hej hf hij => by
    obtain ⟨es1, o1, g1, g2, g3, g4, _⟩ := F.walked.get hej
    rcases g4.fresh with g | g
    · rw [g1, hf] at g; cases g
    · have : ej.ms.testBit i = true := by
        rw [show ej.ms = 2 ^ j - 1 from by rw [← g1]; omega, Nat.testBit_two_pow_sub_one]
        simpa using hij
      rw [I.closed j ej hj hej i this] at hiL; cases hiL
  have nameI : ∀ m ∈ e.d.map (·.1), m.1 < nx ∨ ∃ k, (k = i ∨ e.ms.testBit k = true) ∧ m.1 = nx + k := fun m hm => by
    rcases hp.names m hm with h | h
    · rcases hH.kn m h with h | ⟨k, hk, h⟩
      · exact .inl h
      · exact .inr ⟨k, .inr hk, h⟩
    · exact .inr ⟨i, .inl rfl, h⟩
  have notKnown : ∀ m : Nm, m.1 = nx + i → ¬ (C.at_ nx h0 es e.ms.testBit).kn m := fun m hm h => by
    rcases h with h | ⟨k, hk, h⟩
    · omega
    · have := mlt k hk; omega
  have mlt' : ∀ k, i ≤ k → e.ms.testBit k = false := fun k hk => by
    cases h : e.ms.testBit k with
    | false => rfl
    | true => have := mlt k h; omega
  -- names of operation i, as A' sees them
  have seeNew : ∀ A' : Nat → Bool, A' i = true → (∀ j, A' j = true → addL L i j = true) → (∀ k, e.ms.testBit k = true → A' k = true) → ∀ m : Nm, m.1 = nx + i → hget (hview A' es h0) m = hget (hap e.d (hview e.ms.testBit es' h0)) m := by
    intro A' hA' hsub hms m hm
    have e1 : hget (hview A' es h0) m = hget (hview (addL e.ms.testBit i) es h0) m := hget_view_congr es fun j ej hej hmj => by
      by_cases hji : j = i
      · subst hji; rw [hA', (addL_iff.2 (.inr rfl) : addL e.ms.testBit j j = true)]
      · have hno : L j = false := by
          cases hLj : L j with
          | false => rfl
          | true =>
            rcases I.names j ej hLj hej m hmj with h | ⟨k, hk, h⟩
            · omega
            · have hki : k = i := by omega
              subst hki
              rcases hk with hk | hk
              · exact absurd hk.symm hji
              · rw [I.closed j ej hLj hej _ hk] at hiL; cases hiL
        have h1 : A' j = false := by
          cases h : A' j with
          | false => rfl
          | true => rcases addL_iff.1 (hsub j h) with h | h
                    · rw [hno] at h; cases h
                    · exact absurd h hji
        have h2 : addL e.ms.testBit i j = false := by
          cases h : addL e.ms.testBit i j with
          | false => rfl
          | true => rcases addL_iff.1 h with h | h
                    · rw [hin j h] at hno; cases hno
                    · exact absurd h hji
        rw [h1, h2]
    rw [e1, h6 _ (addL_iff.2 (.inr rfl)) (fun k hk => by
      cases h : addL e.ms.testBit i k with
      | false => rfl
      | true => rcases addL_iff.1 h with h | h
                · rw [mlt' k (by omega)] at h; cases h
                · omega), hview_congr (A := addL e.ms.testBit i) (B := e.ms.testBit) es' (fun k hk => by
      rw [hl'] at hk
      simp [addL, Nat.ne_of_lt hk])]
  have putOther : ∀ x, o.dst ≠ some x → (a.put o.dst u).tmps.getD x undef = a.tmps.getD x undef := fun x hx => by
    cases hd : o.dst with
    | none => simp [Act.put]
    | some d =>
      have hdx : d ≠ x := fun h => hx (by rw [hd, h])
      simp [Act.put, Array.getD_eq_getD_getElem?, Array.getElem?_setIfInBounds_ne hdx]
  have putSelf : ∀ x, o.dst = some x → (a.put o.dst u).tmps.getD x undef = u := fun x hx => by
    have hj : x < a.tmps.size := by rw [I.size]; exact fits_spec F.fits ho x hx
    rw [hx]
    simp [Act.put, Array.getD, hj]
  have seeSlot : ∀ A' A : Nat → Bool, (∀ j, j ≠ i → A j = A' j) → ∀ x, o.dst ≠ some x → tget (tview A' es t0) x = tget (tview A es t0) x := fun A' A hAA x hx => F.tget_congr fun j ej hej hd => by
    refine (hAA j fun hji => hx ?_).symm
    subst hji
    rw [he] at hej; cases hej
    rw [← hs.dst]; exact hd
  refine ⟨fun j hj => ?_, fun j ej hj hej k hk => ?_, fun j ej hj hej m hm => ?_, by rw [put_size]; exact I.size, by rw [put_defers]; exact I.defers, fun A' hA' => ?_⟩
  · rcases addL_iff.1 hj with h | h
    · exact I.lt j h
    · omega
  · rcases addL_iff.1 hj with h | h
    · exact addL_iff.2 (.inl (I.closed j ej h hej k hk))
    · subst h; rw [he] at hej; cases hej; exact addL_iff.2 (.inl (hin k hk))
  · rcases addL_iff.1 hj with h | h
    · exact I.names j ej h hej m hm
    · subst h; rw [he] at hej; cases hej; exact nameI m hm
  · cases hfr : freshD (nx + i) e.d with
    | false =>
      -- a barrier: all before it are done, none behind it
      have hmk : e.ms = 2 ^ i - 1 := by
        rcases hs.fresh with g | g
        · rw [hl', hfr] at g; cases g
        · rw [← hl']; omega
      have bit : ∀ k, k < i → e.ms.testBit k = true := fun k hk => by rw [hmk, Nat.testBit_two_pow_sub_one]; simpa using hk
      have hAi : A' i = true := hA'.bars i e (addL_iff.2 (.inr rfl)) he hfr
      have hAlt : ∀ k, k < i → A' k = true := fun k hk => hA'.closed i e hAi he k (bit k hk)
      have hAgt : ∀ k, i < k → A' k = false := fun k hk => by
        cases h : A' k with
        | false => rfl
        | true =>
          rcases addL_iff.1 (hA'.sub k h) with h | h
          · obtain ⟨ek, hek⟩ := ent_some (es := es) (I.lt k h)
            obtain ⟨es1, o1, g1, g2, g3, g4, _⟩ := F.walked.get hek
            have hb := g4.waits i e (by rw [g2 i hk]; exact he) hfr
            rw [I.closed k ek h hek i hb] at hiL; cases hiL
          · omega
      have hview' : hview A' es h0 = hap e.d (hview e.ms.testBit es' h0) := by
        rw [h6 A' hAi hAgt, hview_congr (A := A') (B := e.ms.testBit) es' (fun k hk => by rw [hl'] at hk; rw [hAlt k hk, bit k hk])]
      have le2 : C'.le ((C.next C' (nx + i)).at_ nx h0 es A') := by
        refine ⟨Nat.le_refl _, fun _ _ _ => rfl, fun _ _ h => h, fun m hm => ?_, fun m hm hl => ?_, fun _ _ _ cs ty h => ⟨cs, ty, h, rfl⟩⟩
        · rcases (hp.kn m).1 hm with (h | ⟨k, hk, h⟩) | h
          · exact .inl h
          · exact .inr ⟨k, hAlt k (mlt k hk), h⟩
          · exact .inr ⟨i, hAi, h⟩
        · have hl' : C'.live m := by
            refine (hp.heap.live m).2 ?_
            have : (hget (hview A' es h0) m).isSome = true := hl
            rwa [hview'] at this
          refine ⟨hl', ?_⟩
          simp only [Ctx.at_, Ctx.next]
          split
          · rfl
          · rename_i hne
            exact ((hp.le.live m (((hp.kn m).1 hm).resolve_right hne) hl').2).symm
      have live' : ∀ m, ((C.next C' (nx + i)).at_ nx h0 es A').live m ↔ C'.live m := fun m => by
        rw [hp.heap.live m, ← hview']; exact Iff.rfl
      refine ⟨?_, fun x => ?_, ?_⟩
      · rw [hview']
        exact hp.heap.mono le2 live' (fun _ _ => rfl) (fun _ h _ => h)
      · by_cases hx : o.dst = some x
        · rw [F.tget_dst A' he (by rw [hs.dst]; exact hx), if_pos hAi, putSelf x hx]
          exact hp.val.mono le2
        · rw [putOther x hx, F.tget_congr (A := A') (B := e.ms.testBit) (fun j ej hej hd => by
            rcases Nat.lt_trichotomy j i with h | h | h
            · rw [hAlt j h, bit j h]
            · subst h; rw [he] at hej; cases hej; exact absurd (by rw [← hs.dst]; exact hd) hx
            · rw [hAgt j h, mlt' j (by omega)])]
          exact ((hT x).mono hp.le).mono le2
      · refine hFr.of rfl rfl (hFr.le.trans le2) fun m hm hb => ?_
        have hlm := (live' m).1 hm
        rw [(le2.live m (hp.heap.kn m hlm) hm).2] at hb ⊢
        exact hFr.wr m hlm hb
    | true =>
      have hnm : ∀ m ∈ e.d.map (·.1), m.1 = nx + i := freshD_names hfr
      have blocks : ∀ b, b < C.w.heap.size → C'.w.heap[b]? = C.w.heap[b]? := fun b hb => hp.same b hb fun m hm hl => absurd (hH.kn m hl) (notKnown m (hnm m hm))
      have old : ∀ A : Nat → Bool, Adm nx es L A → ∀ B : Nat → Bool, (∀ j, B j = true → A j = true ∨ j = i) → (∀ j, A j = true → B j = true) → (∀ m : Nm, m.1 ≠ nx + i → hget (hview B es h0) m = hget (hview A es h0) m) → (C.at_ nx h0 es A).le ((C.next C' (nx + i)).at_ nx h0 es B) := by
        intro A hA B _ hAB hsee
        refine ⟨hp.le.size, hp.le.same, hp.le.mt, fun m hm => ?_, fun m hm hl => ?_, fun m hm _ cs ty hc => ⟨cs, ty, ?_, rfl⟩⟩
        · rcases hm with h | ⟨k, hk, h⟩
          · exact .inl h
          · exact .inr ⟨k, hAB k hk, h⟩
        · have hne : m.1 ≠ nx + i := fun h => by
            rcases hm with g | ⟨k, hk, g⟩
            · omega
            · have : k = i := by omega
              subst this
              rw [hA.sub k hk] at hiL; cases hiL
          refine ⟨?_, ?_⟩
          · have : (hget (hview B es h0) m).isSome = true := hl
            rw [hsee m hne] at this
            exact this
          · simp only [Ctx.at_, Ctx.next]; rw [if_neg hne]
        · have hb : C.ρ m < C.w.heap.size := by
            rcases Nat.lt_or_ge (C.ρ m) C.w.heap.size with h2 | h2
            · exact h2
            · have : C.w.heap[C.ρ m]? = some (.cells cs ty (0, 0)) := hc
              rw [Array.getElem?_eq_none h2] at this; cases this
          exact (blocks _ hb).trans hc
      cases hAi : A' i with
      | false =>
        have hA : Adm nx es L A' := by
          refine ⟨fun j hj => (addL_iff.1 (hA'.sub j hj)).resolve_right fun h => ?_, hA'.closed, fun j ej hj => hA'.bars j ej (addL_iff.2 (.inl hj))⟩
          subst h; rw [hj] at hAi; cases hAi
        obtain ⟨oH, oT, oF⟩ := I.ok A' hA
        have le := old A' hA A' (fun j h => .inl h) (fun _ h => h) (fun _ _ => rfl)
        refine ⟨oH.mono le (fun _ => Iff.rfl) (fun m hm => blocks _ (oH.lt hm)) (fun b hb hlt => (hp.mt b hlt).2 hb), fun x => ?_, ?_⟩
        · by_cases hx : o.dst = some x
          · rw [F.tget_dst A' he (by rw [hs.dst]; exact hx), if_neg (by rw [hAi]; simp)]
            trivial
          · rw [putOther x hx]
            exact (oT x).mono le
        · refine hFr.of rfl rfl (oF.le.trans le) fun m hm hb => ?_
          rw [(le.live m (oH.kn m hm) hm).2] at hb ⊢
          exact oF.wr m hm hb
      | true =>
        let A : Nat → Bool := fun j => A' j && !(j == i)
        have hAdef : ∀ j, A j = true ↔ A' j = true ∧ j ≠ i := fun j => by simp [A]
        have hA : Adm nx es L A := by
          refine ⟨fun j hj => ?_, fun j ej hj hej k hk => ?_, fun j ej hj hej hf => (hAdef j).2 ⟨hA'.bars j ej (addL_iff.2 (.inl hj)) hej hf, fun h => ?_⟩⟩
          · obtain ⟨h1, h2⟩ := (hAdef j).1 hj
            exact (addL_iff.1 (hA'.sub j h1)).resolve_right h2
          · obtain ⟨h1, h2⟩ := (hAdef j).1 hj
            refine (hAdef k).2 ⟨hA'.closed j ej h1 hej k hk, fun h => ?_⟩
            subst h
            rw [I.closed j ej ((addL_iff.1 (hA'.sub j h1)).resolve_right h2) hej _ hk] at hiL; cases hiL
          · subst h; rw [hiL] at hj; cases hj
        obtain ⟨oH, oT, oF⟩ := I.ok A hA
        have hms : ∀ k, e.ms.testBit k = true → A k = true := fun k hk => (hAdef k).2 ⟨hA'.closed i e hAi he k hk, fun h => by have := mlt k hk; omega⟩
        have seeOld : ∀ m : Nm, m.1 ≠ nx + i → hget (hview A' es h0) m = hget (hview A es h0) m := fun m hm => hget_view_congr es fun j ej hej hmj => by
          by_cases hji : j = i
          · subst hji; rw [he] at hej; cases hej; exact absurd (hnm m hmj) hm
          · simp [A, hji]
        have seeNew' := seeNew A' hAi hA'.sub (fun k hk => ((hAdef k).1 (hms k hk)).1)
        have le1 := old A hA A' (fun j h => by
          by_cases hji : j = i
          · exact .inr hji
          · exact .inl ((hAdef j).2 ⟨h, hji⟩)) (fun j h => ((hAdef j).1 h).1) seeOld
        have le2 : C'.le ((C.next C' (nx + i)).at_ nx h0 es A') := by
          refine ⟨Nat.le_refl _, fun _ _ _ => rfl, fun _ _ h => h, fun m hm => ?_, fun m hm hl => ?_, fun _ _ _ cs ty h => ⟨cs, ty, h, rfl⟩⟩
          · rcases (hp.kn m).1 hm with (h | ⟨k, hk, h⟩) | h
            · exact .inl h
            · exact .inr ⟨k, ((hAdef k).1 (hms k hk)).1, h⟩
            · exact .inr ⟨i, hAi, h⟩
          · have hl0 : (hget (hview A' es h0) m).isSome = true := hl
            by_cases hne : m.1 = nx + i
            · rw [seeNew' m hne] at hl0
              refine ⟨(hp.heap.live m).2 hl0, ?_⟩
              simp only [Ctx.at_, Ctx.next]; rw [if_pos hne]
            · have hk := ((hp.kn m).1 hm).resolve_right hne
              have e1 : hget (hview A es h0) m = hget (hview e.ms.testBit es h0) m := hget_view_congr es fun j ej hej hmj => by
                cases hLj : L j with
                | false =>
                  have h1 : A j = false := by
                    cases h : A j with
                    | false => rfl
                    | true => rw [hA.sub j h] at hLj; cases hLj
                  have h2 : e.ms.testBit j = false := by
                    cases h : e.ms.testBit j with
                    | false => rfl
                    | true => rw [hin j h] at hLj; cases hLj
                  rw [h1, h2]
                | true =>
                  cases hfj : freshD (nx + j) ej.d with
                  | false => rw [hA.bars j ej hLj hej hfj, hadm.bars j ej hLj hej hfj]
                  | true =>
                    have hmj' := freshD_names hfj m hmj
                    have hbit : e.ms.testBit j = true := by
                      rcases hk with h | ⟨k, hk, h⟩
                      · omega
                      · have : k = j := by omega
                        subst this; exact hk
                    rw [hbit, hms j hbit]
              have hlv : (C.at_ nx h0 es e.ms.testBit).live m := by
                show (hget (hview e.ms.testBit es h0) m).isSome = true
                rw [← e1, ← seeOld m hne]; exact hl0
              have hlv' : (hget (hview e.ms.testBit es' h0) m).isSome = true := by
                rw [← h5]; exact hlv
              have hl' : C'.live m := (hp.heap.live m).2 (by rw [hget_hap_other _ _ _ (fun h => hne (hnm m h))]; exact hlv')
              refine ⟨hl', ?_⟩
              simp only [Ctx.at_, Ctx.next]; rw [if_neg hne]
              exact ((hp.le.live m hk hl').2).symm
        have newLive : ∀ m : Nm, m.1 = nx + i → ((C.next C' (nx + i)).at_ nx h0 es A').live m → C'.live m ∧ ((C.next C' (nx + i)).at_ nx h0 es A').ρ m = C'.ρ m := fun m hm hl => le2.live m ((hp.kn m).2 (.inr hm)) hl
        have oldLive : ∀ m : Nm, m.1 ≠ nx + i → ((C.next C' (nx + i)).at_ nx h0 es A').live m → (C.at_ nx h0 es A).live m ∧ ((C.next C' (nx + i)).at_ nx h0 es A').ρ m = C.ρ m := fun m hm hl => by
          have hl0 : (hget (hview A' es h0) m).isSome = true := hl
          rw [seeOld m hm] at hl0
          exact ⟨hl0, by simp only [Ctx.at_, Ctx.next]; rw [if_neg hm]⟩
        have far : ∀ m : Nm, m.1 = nx + i → C'.live m → C.w.heap.size ≤ C'.ρ m := fun m hm hl => by
          rcases hp.orig m hl with ⟨h1, _⟩ | h1 | ⟨m0, h0', h1, _⟩
          · exact absurd (hH.kn m h1) (notKnown m hm)
          · exact h1
          · exact absurd (hH.kn m0 h1) (notKnown m0 (hnm m0 h0'))
        refine ⟨⟨fun m => Iff.rfl, fun m cs hg => ?_, fun m m' hm hm' heq => ?_, fun m hm => ?_, fun m hm => ?_⟩, fun x => ?_, ?_⟩
        · have hlv : ((C.next C' (nx + i)).at_ nx h0 es A').live m := by show (hget (hview A' es h0) m).isSome = true; rw [hg]; rfl
          by_cases hne : m.1 = nx + i
          · rw [(newLive m hne hlv).2]
            rw [seeNew' m hne] at hg
            obtain ⟨arr, ty, ha, hc⟩ := hp.heap.obj m cs hg
            exact ⟨arr, ty, ha, fun j c hj => by obtain ⟨v, hv, hcv⟩ := hc j c hj; exact ⟨v, hv, hcv.mono le2⟩⟩
          · rw [(oldLive m hne hlv).2]
            rw [seeOld m hne] at hg
            obtain ⟨arr, ty, ha, hc⟩ := oH.obj m cs hg
            exact ⟨arr, ty, (blocks _ (oH.lt (oH.get hg))).trans ha, fun j c hj => by obtain ⟨v, hv, hcv⟩ := hc j c hj; exact ⟨v, hv, hcv.mono le1⟩⟩
        · by_cases hne : m.1 = nx + i <;> by_cases hne' : m'.1 = nx + i
          · obtain ⟨l1, r1⟩ := newLive m hne hm
            obtain ⟨l2, r2⟩ := newLive m' hne' hm'
            exact hp.heap.inj m m' l1 l2 (by rw [← r1, ← r2]; exact heq)
          · obtain ⟨l1, r1⟩ := newLive m hne hm
            obtain ⟨l2, r2⟩ := oldLive m' hne' hm'
            have h1 := far m hne l1
            have h2 : C.ρ m' < C.w.heap.size := oH.lt l2
            rw [r1, r2] at heq; omega
          · obtain ⟨l1, r1⟩ := oldLive m hne hm
            obtain ⟨l2, r2⟩ := newLive m' hne' hm'
            have h1 := far m' hne' l2
            have h2 : C.ρ m < C.w.heap.size := oH.lt l1
            rw [r1, r2] at heq; omega
          · obtain ⟨l1, r1⟩ := oldLive m hne hm
            obtain ⟨l2, r2⟩ := oldLive m' hne' hm'
            exact oH.inj m m' l1 l2 (by show C.ρ m = C.ρ m'; rw [← r1, ← r2]; exact heq)
        · by_cases hne : m.1 = nx + i
          · obtain ⟨l1, r1⟩ := newLive m hne hm
            rw [r1]; exact hp.heap.mt m l1
          · obtain ⟨l1, r1⟩ := oldLive m hne hm
            rw [r1]; exact (hp.mt _ (oH.lt l1)).2 (oH.mt m l1)
        · by_cases hne : m.1 = nx + i
          · exact .inr ⟨i, hAi, hne⟩
          · obtain ⟨l1, r1⟩ := oldLive m hne hm
            exact le1.kn m (oH.kn m l1)
        · by_cases hx : o.dst = some x
          · rw [F.tget_dst A' he (by rw [hs.dst]; exact hx), if_pos hAi, putSelf x hx]
            exact hp.val.mono le2
          · rw [putOther x hx, seeSlot A' A (fun j hji => by simp [A, hji]) x hx]
            exact (oT x).mono le1
        · refine hFr.of rfl rfl (hFr.le.trans le2) fun m hm hb => ?_
          by_cases hne : m.1 = nx + i
          · obtain ⟨l1, r1⟩ := newLive m hne hm
            rw [r1] at hb ⊢; exact hFr.wr m l1 hb
          · obtain ⟨l1, r1⟩ := oldLive m hne hm
            rw [r1] at hb ⊢; exact oF.wr m l1 hb
end
end Go.Proofs.Aw
