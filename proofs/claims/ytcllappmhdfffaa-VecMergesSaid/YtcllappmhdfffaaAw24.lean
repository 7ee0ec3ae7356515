/- The abstract logic, part 24: a callee that is handed slices of the caller's own objects, and only reads them. -/
import Derived.Test.YtcllappmhdfffaaAw23
namespace Go.Proofs.Aw
open Go

mutual
/-- A value that points at nothing. -/
def plainA : AV → Bool
  | .top => true
  | .sc _ => true
  | .agg cs => plainAL cs
  | .tup cs => plainAL cs
  | _ => false
def plainAL : List AV → Bool
  | [] => true
  | v :: vs => plainA v && plainAL vs
end
mutual
theorem Conc.plain {C C' : Ctx} : ∀ (v : AV) (u : Value), plainA v = true → Conc C v u → Conc C' v u
  | .top, _, _, _ => by simp only [Conc]
  | .sc _, _, _, h => h
  | .agg cs, _, hp, ⟨us, e, h⟩ => ⟨us, e, ConcL.plain cs _ hp h⟩
  | .tup cs, _, hp, ⟨us, e, h⟩ => ⟨us, e, ConcL.plain cs _ hp h⟩
  | .ptr _ _, _, hp, _ => by cases hp
  | .sl _ _ _ _ _, _, hp, _ => by cases hp
  | .ip _ _, _, hp, _ => by cases hp
  | .ro _ _ _, _, hp, _ => by cases hp
  | .fn _ _ _, _, hp, _ => by cases hp
  | .ifc _ _, _, hp, _ => by cases hp
theorem ConcL.plain {C C' : Ctx} : ∀ (vs : List AV) (us : List Value), plainAL vs = true → ConcL C vs us → ConcL C' vs us
  | [], _, _, h => h
  | v :: vs, _, hp, ⟨u, us, e, h1, h2⟩ => by
    simp only [plainAL, Bool.and_eq_true] at hp
    exact ⟨u, us, e, Conc.plain v u hp.1 h1, ConcL.plain vs us hp.2 h2⟩
end
/-- The value as the callee sees it. -/
def Frz (h : Hp) (v v' : AV) : Prop :=
  (v' = v ∧ nms (fun _ => false) v = true) ∨ ∃ m z off len own fs, v = .sl m z off len own ∧ 0 < z ∧ elemsA h z v = some fs ∧ nmsE (fun _ => false) fs = true ∧ v' = .ro z fs false
def FrzL (h : Hp) : List AV → List AV → Prop
  | [], vs' => vs' = []
  | v :: vs, l => ∃ v' vs', l = v' :: vs' ∧ Frz h v v' ∧ FrzL h vs vs'
def Ctx.bare (C : Ctx) : Ctx := { ρ := C.ρ, live := fun _ => False, kn := fun _ => False, mt := fun _ => False, w := C.w }
theorem Ctx.bare_sub (C : Ctx) : C.sub C.bare id (fun _ => false) := ⟨rfl, fun _ _ h => h.elim, fun m hm => (nomatch hm), fun m hm => (nomatch hm)⟩
theorem nmsE_get {p : Nm → Bool} : ∀ {es : List (List AV)} {i : Nat} {e : List AV}, nmsE p es = true → es[i]? = some e → nmsL p e = true
  | [], i, e, _, h => by simp at h
  | d :: es, 0, e, hp, h => by simp only [nmsE, Bool.and_eq_true] at hp; simp at h; rw [← h]; exact hp.1
  | d :: es, i + 1, e, hp, h => by simp only [nmsE, Bool.and_eq_true] at hp; exact nmsE_get hp.2 (by simpa using h)
theorem conc_frz {C : Ctx} {h : Hp} (hh : HeapOk C h) {v v' : AV} {u : Value} (hf : Frz h v v') (hc : Conc C v u) : Conc C.bare v' u := by
  rcases hf with ⟨rfl, hn⟩ | ⟨m, z, off, len, own, fs, rfl, h0, he, hn, rfl⟩
  · exact Conc.ren C.bare_sub _ u hn (by rw [ren_id]; exact hc)
  · simp only [elemsA] at he
    obtain ⟨cs, hg, he⟩ := Option.bind_eq_some_iff.1 he
    split at he
    · rename_i hz
      cases he
      obtain ⟨_, _, hl⟩ := hc
      have hlive := hh.get hg
      obtain ⟨cap, o, rfl, hle, hoff, _⟩ := hl hlive
      obtain ⟨arr, ty, hb, hcells⟩ := hh.obj _ _ hg
      refine conc_ro.2 ⟨some ⟨C.ρ m, o, none⟩, cap, by rw [chunk_length], by rw [chunk_length]; exact hle, (fun hx => nomatch hx), fun hne => ⟨_, rfl, ?_, (fun hx => hx), ?_⟩⟩
      · have := (Array.getElem?_eq_some_iff.1 hb).1
        exact this
      · have hlen : 0 < len := by
          rcases Nat.eq_zero_or_pos len with h1 | h1
          · subst h1; exact absurd rfl hne
          · exact h1
        obtain rfl : o = off := by
          rcases hoff with h1 | h1
          · exact h1
          · omega
        refine ConcE.mk fun j e hj => ?_
        have hj' := chunk_get z len _ j e hj
        have hin : j * z + z ≤ len * z := by rw [← Nat.succ_mul]; exact Nat.mul_le_mul_right z hj'.1
        have hel : e.length = z := by
          rw [hj'.2]; simp only [List.length_take, List.length_drop]; omega
        refine ⟨hel, ConcM.mk fun k c hk => ?_⟩
        have hk' : k < z := by
          have := (List.getElem?_eq_some_iff.1 hk).1
          omega
        have hcell : cs[o + (j * z + k)]? = some c := by
          rw [hj'.2, List.getElem?_take, if_pos hk', List.getElem?_drop, List.getElem?_drop] at hk
          exact hk
        obtain ⟨u, hu, hcc⟩ := obj_row (C := C) (b := C.ρ m) (cs := cs) ⟨arr, ty, hb, hcells⟩ _ _ hcell
        refine ⟨u, ?_, Conc.ren C.bare_sub c u (nmsL_get (nmsE_get hn hj) hk) (by rw [ren_id]; exact hcc)⟩
        simp only [add_mk] at hu ⊢
        have e1 : o + (0 + j) * z + (0 + k) = 0 + (o + (j * z + k)) := by simp only [Nat.zero_add]; omega
        rw [e1]
        exact hu
    · cases he
theorem concL_frz {C : Ctx} {h : Hp} (hh : HeapOk C h) : ∀ {vs vs' : List AV} {us : List Value}, FrzL h vs vs' → ConcL C vs us → ConcL C.bare vs' us
  | [], _, us, hf, hc => by simp only [FrzL] at hf; subst hf; exact hc
  | v :: vs, _, us, ⟨v', vs', rfl, h1, h2⟩, hc => by
    obtain ⟨u, us', rfl, hc1, hc2⟩ := hc
    exact ⟨u, us', rfl, conc_frz hh h1 hc1, concL_frz hh h2 hc2⟩
theorem CY_frz {P : Program} {n : Nat} {f : FuncId} {args args' : List AV} {h : Hp} {r : AV} (hf : FrzL h args args') (hr : plainA r = true) (hc : CY P n f args' [] r []) : CY P n f args h r [] := by
  intro C vs hh hL hn
  have hbare : HeapOk C.bare [] := ⟨fun m => by simp [Ctx.bare, hget], fun m cs hg => by simp [hget] at hg, fun m m' hm => hm.elim, fun m hm => hm.elim, fun m hm => hm.elim⟩
  refine (hc C.bare vs hbare (concL_frz hh hf hL) (fun k hk => hk)).mono ?_
  rintro e w' ⟨u, C0, rfl, rfl, hp⟩
  have hsame : ∀ b, b < C.w.heap.size → C0.w.heap[b]? = C.w.heap[b]? := fun b hb => hp.same b hb (fun m hm => by simp at hm)
  let C' : Ctx := { ρ := C.ρ, live := C.live, kn := fun m => C.kn m ∨ m.1 = n, mt := fun b => C.mt b ∧ b < C.w.heap.size, w := C0.w }
  have le : C.le C' := by
    refine ⟨hp.le.size, fun b hb _ => hsame b hb, fun b hb hm => hm.1, fun _ h => .inl h, fun m _ hl => ⟨hl, rfl⟩, fun m _ hl cs ty hcs => ?_⟩
    have hlt : C.ρ m < C.w.heap.size := by
      rcases Nat.lt_or_ge (C.ρ m) C.w.heap.size with h2 | h2
      · exact h2
      · rw [Array.getElem?_eq_none h2] at hcs; cases hcs
    exact ⟨cs, ty, (hsame _ hlt).trans hcs, rfl⟩
  refine ⟨u, C', rfl, rfl, le, fun _ => Iff.rfl, ?_, Conc.plain r u hr hp.val, fun b hb _ => hsame b hb, fun b hb => ⟨fun h => h.1, fun h => ⟨h, hb⟩⟩, hp.os, hp.tape, hp.output, fun m hl => .inl ⟨hl, rfl⟩, fun m hm => by simp at hm⟩
  exact hh.mono le (fun _ => Iff.rfl) (fun m hm => hsame _ (hh.lt hm)) (fun b hb hlt => ⟨hb, hlt⟩)
end Go.Proofs.Aw
