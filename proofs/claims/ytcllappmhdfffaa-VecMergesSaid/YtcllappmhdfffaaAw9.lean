/- The abstract logic, part 9: max, min; append. -/
import Derived.Test.YtcllappmhdfffaaAw8
namespace Go.Proofs.Aw
open Go

def maxA : AV → List AV → Option AV
  | .sc (.int k a), [] => some (.sc (.int k a))
  | .sc (.int k a), .sc (.int _ b) :: r => maxA (.sc (.int k (max a b))) r
  | _, _ => none
def minA : AV → List AV → Option AV
  | .sc (.int k a), [] => some (.sc (.int k a))
  | .sc (.int k a), .sc (.int _ b) :: r => minA (.sc (.int k (min a b))) r
  | _, _ => none
theorem run_maxA {P : Program} {C : Ctx} : ∀ (xs : List AV) (us : List Value) (x v : AV) (u : Value), Conc C x u → ConcL C xs us → maxA x xs = some v → ∃ r, (us.foldlM Builtin.max2 u).run P C.w = .ok r C.w ∧ Conc C v r
  | [], us, x, v, u, hx, hl, h => by
    simp only [ConcL] at hl
    subst hl
    unfold maxA at h
    split at h
    · cases h; exact ⟨u, rfl, hx⟩
    · contradiction
    · cases h
  | y :: xs, us, x, v, u, hx, hl, h => by
    simp only [ConcL] at hl
    obtain ⟨w, vs, rfl, hy, hl⟩ := hl
    unfold maxA at h
    split at h
    · contradiction
    · rename_i k a k' b r h1
      cases h1
      simp only [Conc] at hx hy
      subst hx; subst hy
      obtain ⟨r', h2, h3⟩ := run_maxA xs vs (.sc (.int k (max a b))) v (.int k (max a b)) (by simp only [Conc]) hl h
      refine ⟨r', ?_, h3⟩
      have e : (if b > a then b else a) = max a b := by split <;> omega
      simp only [List.foldlM_cons, Sem.run_bind, Builtin.max2, Sem.run_pure, Result.andThen_ok, e]
      exact h2
    · cases h
theorem run_minA {P : Program} {C : Ctx} : ∀ (xs : List AV) (us : List Value) (x v : AV) (u : Value), Conc C x u → ConcL C xs us → minA x xs = some v → ∃ r, (us.foldlM Builtin.min2 u).run P C.w = .ok r C.w ∧ Conc C v r
  | [], us, x, v, u, hx, hl, h => by
    simp only [ConcL] at hl
    subst hl
    unfold minA at h
    split at h
    · cases h; exact ⟨u, rfl, hx⟩
    · contradiction
    · cases h
  | y :: xs, us, x, v, u, hx, hl, h => by
    simp only [ConcL] at hl
    obtain ⟨w, vs, rfl, hy, hl⟩ := hl
    unfold minA at h
    split at h
    · contradiction
    · rename_i k a k' b r h1
      cases h1
      simp only [Conc] at hx hy
      subst hx; subst hy
      obtain ⟨r', h2, h3⟩ := run_minA xs vs (.sc (.int k (min a b))) v (.int k (min a b)) (by simp only [Conc]) hl h
      refine ⟨r', ?_, h3⟩
      have e : (if b < a then b else a) = min a b := by split <;> omega
      simp only [List.foldlM_cons, Sem.run_bind, Builtin.min2, Sem.run_pure, Result.andThen_ok, e]
      exact h2
    · cases h

/-! ### What is appended -/
/-- The elements of a slice, each a list of z cells. -/
def elemsA (h : Hp) (z : Nat) : AV → Option (List (List AV))
  | .ro z' es _ => if z' = z then some es else none
  | .sl m z' off len _ => (hget h m).bind fun cs => if z' = z ∧ off + len * z ≤ cs.length then some (chunk z len (cs.drop off)) else none
  | .sc (.slice none 0 0) => some []
  | _ => none

structure SrcOk (P : Program) (C : Ctx) (z : Nat) (u : Value) (fs : List (List AV)) : Prop where
  len : ∀ (j : Nat) (e : List AV), fs[j]? = some e → e.length = z
  news : ∃ (A : Option Addr) (c : Nat) (news : List Value), u = .slice A fs.length c ∧ fs.length ≤ c ∧ ConcL C fs.flatten news ∧ (∀ w : World, w.heap = C.w.heap → (Builtin.firstCells z fs.length u).run P w = .ok news.toArray w)

theorem elemsA_ok {P : Program} {C : Ctx} {h : Hp} (hh : HeapOk C h) {z : Nat} (h0 : 0 < z) {v : AV} {u : Value} {fs : List (List AV)} (hc : Conc C v u) (he : elemsA h z v = some fs) : SrcOk P C z u fs := by
  have fromCells : ∀ (a : Addr) (c : Nat), (∀ (j : Nat) (e : List AV), fs[j]? = some e → e.length = z) → fs.length ≤ c → (∀ (j : Nat) (c : AV), fs.flatten[j]? = some c → ∃ u, C.w.cell? (a.add j) = some u ∧ Conc C c u) → u = .slice (some a) fs.length c → SrcOk P C z u fs := by
    intro a c hl hcap hcell hu
    refine ⟨hl, some a, c, (List.range (fs.length * z)).map fun j => (C.w.cell? (a.add j)).getD undef, hu, hcap, ?_, ?_⟩
    · refine ConcL.mk (by rw [flat_length fs hl]; simp) fun i c u h1 h2 => ?_
      obtain ⟨u', hu', hcu⟩ := hcell i c h1
      have hi : i < fs.length * z := by rw [← flat_length fs hl]; exact (List.getElem?_eq_some_iff.1 h1).1
      rw [List.getElem?_map, List.getElem?_range hi, Option.map_some, hu', Option.getD_some] at h2
      cases h2; exact hcu
    · intro w hw
      rw [hu]
      have hg : ∀ (j : Nat) (v : Value), ((List.range (fs.length * z)).map fun j => (C.w.cell? (a.add j)).getD undef)[j]? = some v → w.cell? (a.add j) = some v := by
        intro j v hj
        have hi : j < fs.length * z := by
          have := (List.getElem?_eq_some_iff.1 hj).1
          simpa using this
        rw [List.getElem?_map, List.getElem?_range hi, Option.map_some] at hj
        have hfl : fs.flatten[j]? = some (fs.flatten[j]'(by rw [flat_length fs hl]; exact hi)) := List.getElem?_eq_getElem _
        obtain ⟨u', hu', _⟩ := hcell j _ hfl
        rw [hu', Option.getD_some] at hj
        cases hj
        rw [World.cell?, hw]
        exact hu'
      exact run_firstCells_some (P := P) w z fs.length a fs.length c _ (by simp) hg
  unfold elemsA at he
  split at he
  · split at he
    · rename_i z' es full hz
      subst hz
      cases he
      simp only [Conc] at hc
      obtain ⟨A, cap, hu, hle, _, hne⟩ := hc
      by_cases hnil : fs = []
      · subst hnil
        refine ⟨fun j e hj => by simp at hj, A, cap, [], hu, hle, by simp only [List.flatten_nil, ConcL], fun w hw => ?_⟩
        rw [hu]
        cases A with
        | none => rfl
        | some a => simp [Builtin.firstCells, loadCells, loadCellsFrom]
      · obtain ⟨a, rfl, hb, hm, hE⟩ := hne hnil
        have hl : ∀ (j : Nat) (e : List AV), fs[j]? = some e → e.length = z' := fun j e hj => (hE.get j e hj).1
        refine fromCells a cap hl hle (fun j c hj => ?_) hu
        obtain ⟨e, he, hce⟩ := flat_of h0 fs hl j c hj
        obtain ⟨_, hM⟩ := hE.get _ e he
        obtain ⟨u', hu', hcu⟩ := hM.get _ c hce
        rw [add_add, Nat.zero_add, Nat.zero_add, Nat.mul_comm, Nat.div_add_mod] at hu'
        exact ⟨u', hu', hcu⟩
    · cases he
  · obtain ⟨cs, hg, he⟩ := Option.bind_eq_some_iff.1 he
    split at he
    · rename_i m z' off len own _ hz
      obtain ⟨rfl, hlen⟩ := hz
      cases he
      simp only [Conc] at hc
      obtain ⟨cap, o, hu, hle, hof, _⟩ := hc.2.2 (hh.get hg)
      by_cases hl0 : len = 0
      · subst hl0
        refine ⟨fun j e hj => by simp [chunk] at hj, some ⟨C.ρ m, o, none⟩, cap, [], by rw [hu]; rfl, by simp [chunk], by simp only [chunk, List.flatten_nil, ConcL], fun w hw => ?_⟩
        rw [hu]
        simp [Builtin.firstCells, loadCells, loadCellsFrom, chunk]
      · have hof' : o = off := by
          rcases hof with h3 | h3
          · exact h3
          · omega
        subst hof'
        have hcl : (chunk z' len (cs.drop o)).length = len := chunk_length _ _ _
        have hl : ∀ (j : Nat) (e : List AV), (chunk z' len (cs.drop o))[j]? = some e → e.length = z' := fun j e hj => by
          obtain ⟨h1, rfl⟩ := chunk_get _ _ _ _ _ hj
          have : (j + 1) * z' ≤ len * z' := Nat.mul_le_mul_right _ h1
          rw [Nat.succ_mul] at this
          simp; omega
        refine fromCells ⟨C.ρ m, o, none⟩ cap hl (by rw [hcl]; exact hle) (fun j c hj => ?_) (by rw [hcl]; exact hu)
        obtain ⟨e, he, hce⟩ := flat_of h0 _ hl j c hj
        obtain ⟨h1, rfl⟩ := chunk_get _ _ _ _ _ he
        rw [List.getElem?_take, if_pos (Nat.mod_lt _ h0), List.getElem?_drop, List.getElem?_drop] at hce
        have e1 : o + (j / z' * z' + j % z') = o + j := by rw [Nat.mul_comm, Nat.div_add_mod]
        rw [e1] at hce
        obtain ⟨u', hu', hcu⟩ := obj_row (hh.obj m cs hg) _ c hce
        rw [add_mk, Nat.zero_add] at hu'
        exact ⟨u', by rw [add_mk]; exact hu', hcu⟩
    · cases he
  · cases he
    simp only [Conc] at hc
    subst hc
    exact ⟨fun j e hj => by simp at hj, none, 0, [], rfl, Nat.le_refl _, by simp only [List.flatten_nil, ConcL], fun w _ => rfl⟩
  · cases he

def bytesT (P : Program) (e : TypeId) : Nat := ((P.info? e).map (·.bytes)).getD 0

theorem run_append_grows {P : Program} {w : World} {t xt ty e : TypeId} {i : TypeInfo} {zv : Value} (ht : P.underlying t = some (.slice e)) (hxt : P.underlying xt = some (.slice e)) (hi : P.info? e = some i) (hz : i.zero = some zv)
    (A B : Option Addr) (sLen sCap k c : Nat) (olds news : List Value)
    (ho : ∀ w' : World, w'.heap = w.heap → (Builtin.firstCells i.size sLen (.slice A sLen sCap)).run P w' = .ok olds.toArray w')
    (hn : ∀ w' : World, w'.heap = w.heap → (Builtin.firstCells i.size k (.slice B k c)).run P w' = .ok news.toArray w')
    (hg : sCap < sLen + k) (h47 : (sLen + k) * i.bytes ≤ 140737488355328) (h63 : sLen + k ≤ 9223372036854775807) :
    ∃ cap zs, (Builtin.append_ #[t, xt] ty #[.slice A sLen sCap, .slice B k c]).run P w = .ok (.slice (some ⟨w.heap.size, 0, none⟩) (sLen + k) cap) (w.drew.alloc (.cells (olds.toArray ++ news.toArray ++ zs) e)) ∧ sLen + k ≤ cap ∧ zs.size = (cap - (sLen + k)) * zv.cells.size := by
  have hn' : ¬ (sLen + k ≤ sCap) := by omega
  have h63' : ¬ (9223372036854775807 < ((sLen : Int) + (k : Int))) := by omega
  have hfit := growslice_fits (bytes := i.bytes) hg h47
  have h48' : ¬ (281474976710656 < Builtin.nextslicecap (sLen + k) sCap * i.bytes) := by omega
  refine ⟨grownCap w (sLen + k) sCap e, Builtin.zeroCells zv.cells (grownCap w (sLen + k) sCap e - (sLen + k)), ?_, grownCap_ge _ _ _ _, by rw [size_zeroCells]⟩
  have hf := hn w.drew rfl
  have hfo := ho w.drew rfl
  simp [Builtin.append_, run_underlying ht, run_underlying hxt, sizeOf, typeInfo, zeroValue, hi, hz, Builtin.lenOf, hn', h63', h48', Question.forced, hf, hfo, newRow, grownCap]
  congr 2
  apply Array.ext'
  simp [List.append_assoc]
theorem run_append_none {P : Program} {w : World} {t xt ty e : TypeId} {i : TypeInfo} (ht : P.underlying t = some (.slice e)) (hxt : P.underlying xt = some (.slice e)) (hi : P.info? e = some i)
    (A B : Option Addr) (sLen sCap c : Nat) (hs : sLen ≤ sCap) (hn : (Builtin.firstCells i.size 0 (.slice B 0 c)).run P w = .ok #[] w) :
    (Builtin.append_ #[t, xt] ty #[.slice A sLen sCap, .slice B 0 c]).run P w = .ok (.slice A sLen sCap) w := by
  cases A <;> simp [Builtin.append_, run_underlying ht, run_underlying hxt, sizeOf, typeInfo, hi, Builtin.lenOf, hs, hn, storeCells]
end Go.Proofs.Aw
