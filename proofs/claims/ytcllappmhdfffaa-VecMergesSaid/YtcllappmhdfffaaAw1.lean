/- The abstract logic, part 1: abstract values, when a value is one of them, and that this stays so while only what may be written is written. -/
import Derived.WalkKit
import Derived.Orders
namespace Go.Proofs.Aw
open Go

/-- Names of objects: the number of the step that made it, and which of those that it made. -/
abbrev Nm := Nat × Nat

/-- Abstract values. -/
inductive AV where
  | top
  | sc (v : Value)
  | agg (cs : List AV)
  | tup (vs : List AV)
  | ptr (n : Nm) (off : Nat)
  | sl (n : Nm) (z off len : Nat) (own : Bool)
  | ip (cs : List AV) (off : Nat)
  | ro (z : Nat) (es : List (List AV)) (full : Bool)
  | fn (f : Fn) (first cap : List AV)
  | ifc (t : TypeId) (v : AV)

/-- Where the named objects lie, which of them are known, what may be written, and the world. -/
structure Ctx where
  ρ : Nm → Nat
  live : Nm → Prop
  kn : Nm → Prop
  mt : Nat → Prop
  w : World

mutual
def Conc (C : Ctx) : AV → Value → Prop
  | .top, _ => True
  | .sc v, u => u = v
  | .agg cs, u => ∃ us, u = .agg us ∧ ConcL C cs us.toList
  | .tup cs, u => ∃ us, u = .tuple us ∧ ConcL C cs us.toList
  | .ptr n off, u => (∃ p, u = .pointer p) ∧ C.kn n ∧ (C.live n → u = .pointer (some ⟨C.ρ n, off, none⟩))
  | .sl n z off len own, u => (∃ A l c, u = .slice A l c) ∧ C.kn n ∧ (C.live n → ∃ cap o, u = .slice (some ⟨C.ρ n, o, none⟩) len cap ∧ len ≤ cap ∧ (o = off ∨ cap = 0) ∧
      (own = true → ∃ cs ty, C.w.heap[C.ρ n]? = some (.cells cs ty (0, 0)) ∧ off + cap * z ≤ cs.size))
  | .ip cs off, u => ∃ a : Addr, u = .pointer (some (a.add off)) ∧ a.block < C.w.heap.size ∧ ¬ C.mt a.block ∧ ConcM C a 0 cs
  | .ro z es full, u => ∃ A cap, u = .slice A es.length cap ∧ es.length ≤ cap ∧ (full = true → cap = es.length) ∧
      (es ≠ [] → ∃ a, A = some a ∧ a.block < C.w.heap.size ∧ ¬ C.mt a.block ∧ ConcE C a z 0 es)
  | .fn f xs ys, u => ∃ us vs, u = .func f us vs ∧ ConcL C xs us.toList ∧ ConcL C ys vs.toList
  | .ifc t v, u => ∃ x, u = .iface t x ∧ Conc C v x
def ConcL (C : Ctx) : List AV → List Value → Prop
  | [], us => us = []
  | c :: cs, us => ∃ u vs, us = u :: vs ∧ Conc C c u ∧ ConcL C cs vs
def ConcM (C : Ctx) (a : Addr) : Nat → List AV → Prop
  | _, [] => True
  | i, c :: cs => (∃ u, C.w.cell? (a.add i) = some u ∧ Conc C c u) ∧ ConcM C a (i + 1) cs
def ConcE (C : Ctx) (a : Addr) (z : Nat) : Nat → List (List AV) → Prop
  | _, [] => True
  | i, e :: es => e.length = z ∧ ConcM C a (i * z) e ∧ ConcE C a z (i + 1) es
end

theorem block_add (a : Addr) (n : Nat) : (a.add n).block = a.block := by unfold Addr.add; split <;> rfl
theorem add_add (a : Addr) (i j : Nat) : (a.add i).add j = a.add (i + j) := by
  unfold Addr.add
  by_cases hi : i = 0 <;> by_cases hj : j = 0 <;> simp [hi, hj, Nat.add_assoc]
theorem add_mk (b o n : Nat) : (⟨b, o, none⟩ : Addr).add n = ⟨b, o + n, none⟩ := by
  unfold Addr.add
  by_cases h : n = 0 <;> simp [h]

/-- The later context: nothing that may not be written has turned; what is known stays known. -/
structure Ctx.le (C C' : Ctx) : Prop where
  size : C.w.heap.size ≤ C'.w.heap.size
  same : ∀ b, b < C.w.heap.size → ¬ C.mt b → C'.w.heap[b]? = C.w.heap[b]?
  mt : ∀ b, b < C.w.heap.size → C'.mt b → C.mt b
  kn : ∀ i, C.kn i → C'.kn i
  live : ∀ n, C.kn n → C'.live n → C.live n ∧ C'.ρ n = C.ρ n
  own : ∀ n, C.kn n → C'.live n → ∀ cs ty, C.w.heap[C.ρ n]? = some (.cells cs ty (0, 0)) → ∃ cs' ty', C'.w.heap[C.ρ n]? = some (.cells cs' ty' (0, 0)) ∧ cs'.size = cs.size

theorem Ctx.le.refl (C : Ctx) : C.le C := ⟨Nat.le_refl _, fun _ _ _ => rfl, fun _ _ h => h, fun _ h => h, fun _ _ h => ⟨h, rfl⟩, fun _ _ _ cs ty h => ⟨cs, ty, h, rfl⟩⟩
theorem Ctx.le.trans {A B C : Ctx} (h : A.le B) (k : B.le C) : A.le C where
  size := Nat.le_trans h.size k.size
  same b hb hm := (k.same b (Nat.lt_of_lt_of_le hb h.size) (fun hm' => hm (h.mt b hb hm'))).trans (h.same b hb hm)
  mt b hb hm := h.mt b hb (k.mt b (Nat.lt_of_lt_of_le hb h.size) hm)
  kn i hi := k.kn i (h.kn i hi)
  live n hn hl := by
    obtain ⟨l1, e1⟩ := k.live n (h.kn _ hn) hl
    obtain ⟨l2, e2⟩ := h.live n hn l1
    exact ⟨l2, e1.trans e2⟩
  own n hn hl cs ty hc := by
    obtain ⟨l1, e1⟩ := k.live n (h.kn _ hn) hl
    obtain ⟨cs1, ty1, h1, s1⟩ := h.own n hn l1 cs ty hc
    have e2 := (h.live n hn l1).2
    obtain ⟨cs2, ty2, h2, s2⟩ := k.own n (h.kn _ hn) hl cs1 ty1 (by rw [e2]; exact h1)
    exact ⟨cs2, ty2, by rw [← e2]; exact h2, s2.trans s1⟩

theorem Ctx.le.cell {C C' : Ctx} (h : C.le C') {a : Addr} (hb : a.block < C.w.heap.size) (hm : ¬ C.mt a.block) : C'.w.cell? a = C.w.cell? a :=
  World.cell?_of_block (h.same _ hb hm)

mutual
theorem Conc.mono {C C' : Ctx} (h : C.le C') : ∀ (v : AV) (u : Value), Conc C v u → Conc C' v u
  | .top, _, _ => trivial
  | .sc _, _, hu => hu
  | .agg cs, _, ⟨us, e, hc⟩ => ⟨us, e, ConcL.mono h cs _ hc⟩
  | .tup cs, _, ⟨us, e, hc⟩ => ⟨us, e, ConcL.mono h cs _ hc⟩
  | .ptr n _, _, ⟨hp, hk, hu⟩ => ⟨hp, h.kn _ hk, fun hl => by
      obtain ⟨l, e⟩ := h.live n hk hl
      rw [e]; exact hu l⟩
  | .sl n z off len own, _, ⟨hp, hk, hu⟩ => ⟨hp, h.kn _ hk, fun hl => by
      obtain ⟨l, e⟩ := h.live n hk hl
      obtain ⟨cap, o, hu1, hle, hoff, ho⟩ := hu l
      refine ⟨cap, o, by rw [e]; exact hu1, hle, hoff, fun hown => ?_⟩
      obtain ⟨cs, ty, hc, hs⟩ := ho hown
      obtain ⟨cs', ty', hc', hs'⟩ := h.own n hk hl cs ty hc
      exact ⟨cs', ty', by rw [e]; exact hc', by rw [hs']; exact hs⟩⟩
  | .ip cs off, _, ⟨a, hu, hb, hm, hc⟩ => ⟨a, hu, Nat.lt_of_lt_of_le hb h.size, fun hm' => hm (h.mt _ hb hm'), ConcM.mono h a hb hm 0 cs hc⟩
  | .ro z es full, _, ⟨A, cap, hu, hle, hf, he⟩ => ⟨A, cap, hu, hle, hf, fun hne => by
      obtain ⟨a, hA, hb, hm, hc⟩ := he hne
      exact ⟨a, hA, Nat.lt_of_lt_of_le hb h.size, fun hm' => hm (h.mt _ hb hm'), ConcE.mono h a z hb hm 0 es hc⟩⟩
  | .fn f xs ys, _, ⟨us, vs, e, hx, hy⟩ => ⟨us, vs, e, ConcL.mono h xs _ hx, ConcL.mono h ys _ hy⟩
  | .ifc t v, _, ⟨x, e, hx⟩ => ⟨x, e, Conc.mono h v _ hx⟩
theorem ConcL.mono {C C' : Ctx} (h : C.le C') : ∀ (cs : List AV) (us : List Value), ConcL C cs us → ConcL C' cs us
  | [], _, hu => hu
  | c :: cs, _, ⟨u, vs, e, hc, hl⟩ => ⟨u, vs, e, Conc.mono h c u hc, ConcL.mono h cs vs hl⟩
theorem ConcM.mono {C C' : Ctx} (h : C.le C') (a : Addr) (hb : a.block < C.w.heap.size) (hm : ¬ C.mt a.block) : ∀ (i : Nat) (cs : List AV), ConcM C a i cs → ConcM C' a i cs
  | _, [], _ => trivial
  | i, c :: cs, ⟨⟨u, hu, hc⟩, hl⟩ => ⟨⟨u, by rw [h.cell (by rw [block_add]; exact hb) (by rw [block_add]; exact hm)]; exact hu, Conc.mono h c u hc⟩, ConcM.mono h a hb hm (i + 1) cs hl⟩
theorem ConcE.mono {C C' : Ctx} (h : C.le C') (a : Addr) (z : Nat) (hb : a.block < C.w.heap.size) (hm : ¬ C.mt a.block) : ∀ (i : Nat) (es : List (List AV)), ConcE C a z i es → ConcE C' a z i es
  | _, [], _ => trivial
  | i, e :: es, ⟨hl, hc, he⟩ => ⟨hl, ConcM.mono h a hb hm _ e hc, ConcE.mono h a z hb hm (i + 1) es he⟩
end

/-! ### Lists of cells -/
theorem ConcL.length {C : Ctx} : ∀ {cs : List AV} {us : List Value}, ConcL C cs us → cs.length = us.length
  | [], _, h => by simp only [ConcL] at h; subst h; rfl
  | c :: cs, _, h => by
    simp only [ConcL] at h
    obtain ⟨u, vs, rfl, _, hl⟩ := h
    simp [ConcL.length hl]
theorem ConcL.get {C : Ctx} : ∀ {cs : List AV} {us : List Value}, ConcL C cs us → ∀ (i : Nat) (c : AV), cs[i]? = some c → ∃ u, us[i]? = some u ∧ Conc C c u
  | [], _, _, i, c, h => by simp at h
  | d :: cs, _, hh, i, c, h => by
    simp only [ConcL] at hh
    obtain ⟨u, vs, rfl, hc, hl⟩ := hh
    cases i with
    | zero => simp at h; subst h; exact ⟨u, rfl, hc⟩
    | succ i => simpa using ConcL.get hl i c (by simpa using h)
theorem ConcL.mk {C : Ctx} : ∀ {cs : List AV} {us : List Value}, cs.length = us.length → (∀ (i : Nat) (c : AV) (u : Value), cs[i]? = some c → us[i]? = some u → Conc C c u) → ConcL C cs us
  | [], us, hl, _ => by
    simp only [ConcL]
    exact List.length_eq_zero_iff.1 hl.symm
  | c :: cs, [], hl, _ => by simp at hl
  | c :: cs, u :: us, hl, h => by
    simp only [ConcL]
    exact ⟨u, us, rfl, h 0 c u rfl rfl, ConcL.mk (by simpa using hl) fun i c' u' h1 h2 => h (i + 1) c' u' (by simpa using h1) (by simpa using h2)⟩
theorem ConcL.take {C : Ctx} {cs : List AV} {us : List Value} (h : ConcL C cs us) (n : Nat) : ConcL C (cs.take n) (us.take n) :=
  ConcL.mk (by simp [h.length]) fun i c u h1 h2 => by
    simp only [List.getElem?_take] at h1 h2
    split at h1
    · rename_i hi
      simp only [hi, if_true] at h2
      obtain ⟨u', hu', hc⟩ := h.get i c h1
      rw [hu'] at h2; cases h2; exact hc
    · cases h1
theorem ConcL.drop {C : Ctx} {cs : List AV} {us : List Value} (h : ConcL C cs us) (n : Nat) : ConcL C (cs.drop n) (us.drop n) :=
  ConcL.mk (by simp [h.length]) fun i c u h1 h2 => by
    simp only [List.getElem?_drop] at h1 h2
    obtain ⟨u', hu', hc⟩ := h.get _ c h1
    rw [hu'] at h2; cases h2; exact hc
theorem ConcL.append {C : Ctx} : ∀ {cs ds : List AV} {us vs : List Value}, ConcL C cs us → ConcL C ds vs → ConcL C (cs ++ ds) (us ++ vs)
  | [], ds, us, vs, h, k => by simp only [ConcL] at h; subst h; exact k
  | c :: cs, ds, _, vs, h, k => by
    simp only [ConcL] at h
    obtain ⟨u, us, rfl, hc, hl⟩ := h
    simp only [List.cons_append, ConcL]
    exact ⟨u, us ++ vs, rfl, hc, ConcL.append hl k⟩

theorem ConcM.get {C : Ctx} {a : Addr} : ∀ {i : Nat} {cs : List AV}, ConcM C a i cs → ∀ (j : Nat) (c : AV), cs[j]? = some c → ∃ u, C.w.cell? (a.add (i + j)) = some u ∧ Conc C c u
  | _, [], _, j, c, h => by simp at h
  | i, d :: cs, hh, j, c, h => by
    simp only [ConcM] at hh
    obtain ⟨⟨u, hu, hc⟩, hl⟩ := hh
    cases j with
    | zero => simp at h; subst h; exact ⟨u, hu, hc⟩
    | succ j =>
      have := ConcM.get hl j c (by simpa using h)
      rwa [show i + 1 + j = i + (j + 1) from by omega] at this
theorem ConcM.mk {C : Ctx} {a : Addr} : ∀ {i : Nat} {cs : List AV}, (∀ (j : Nat) (c : AV), cs[j]? = some c → ∃ u, C.w.cell? (a.add (i + j)) = some u ∧ Conc C c u) → ConcM C a i cs
  | _, [], _ => by simp only [ConcM]
  | i, d :: cs, h => by
    simp only [ConcM]
    refine ⟨h 0 d rfl, ConcM.mk fun j c hj => ?_⟩
    have := h (j + 1) c (by simpa using hj)
    rwa [show i + (j + 1) = i + 1 + j from by omega] at this
theorem ConcE.get {C : Ctx} {a : Addr} {z : Nat} : ∀ {i : Nat} {es : List (List AV)}, ConcE C a z i es → ∀ (j : Nat) (e : List AV), es[j]? = some e → e.length = z ∧ ConcM C (a.add ((i + j) * z)) 0 e
  | _, [], _, j, c, h => by simp at h
  | i, d :: es, hh, j, e, h => by
    simp only [ConcE] at hh
    obtain ⟨hz, hc, hl⟩ := hh
    cases j with
    | zero =>
      simp at h; subst h
      refine ⟨hz, ConcM.mk fun j c hj => ?_⟩
      obtain ⟨u, hu, hcu⟩ := hc.get j c hj
      exact ⟨u, by rw [add_add]; simpa using hu, hcu⟩
    | succ j =>
      have := ConcE.get hl j e (by simpa using h)
      rwa [show i + 1 + j = i + (j + 1) from by omega] at this
theorem ConcE.mk {C : Ctx} {a : Addr} {z : Nat} : ∀ {i : Nat} {es : List (List AV)}, (∀ (j : Nat) (e : List AV), es[j]? = some e → e.length = z ∧ ConcM C (a.add ((i + j) * z)) 0 e) → ConcE C a z i es
  | _, [], _ => by simp only [ConcE]
  | i, d :: es, h => by
    simp only [ConcE]
    obtain ⟨h1, h2⟩ := h 0 d rfl
    refine ⟨h1, ConcM.mk fun j c hj => ?_, ConcE.mk fun j e hj => ?_⟩
    · obtain ⟨u, hu, hcu⟩ := h2.get j c hj
      rw [add_add] at hu
      exact ⟨u, by simpa using hu, hcu⟩
    · have := h (j + 1) e (by simpa using hj)
      rwa [show i + (j + 1) = i + 1 + j from by omega] at this
end Go.Proofs.Aw
