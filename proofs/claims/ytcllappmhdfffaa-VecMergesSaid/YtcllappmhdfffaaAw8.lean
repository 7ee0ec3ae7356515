/- The abstract logic, part 8: slice literals; len, max, min; append; make. -/
import Derived.Test.YtcllappmhdfffaaAw7
namespace Go.Proofs.Aw
open Go

/-! ### Slice literals -/
def densP (z : Nat) : Nat → List (Nat × AV) → Bool
  | _, [] => true
  | k, (i, v) :: r => i == k && (v.cells.length == z && (v.cells.all AV.one && densP z (k + 1) r))
def partCells : List (Nat × AV) → List (List AV)
  | [] => []
  | (_, v) :: r => v.cells :: partCells r
theorem partCells_length : ∀ ps, (partCells ps).length = ps.length
  | [] => rfl
  | (_, v) :: r => by simp [partCells, partCells_length r]
theorem densP_len {z : Nat} : ∀ (k : Nat) (ps : List (Nat × AV)), densP z k ps = true → ∀ (j : Nat) (e : List AV), (partCells ps)[j]? = some e → e.length = z ∧ e.all AV.one = true
  | _, [], _, j, e, h => by simp [partCells] at h
  | k, (i, v) :: r, hd, j, e, h => by
    simp only [densP, Bool.and_eq_true, beq_iff_eq] at hd
    cases j with
    | zero => simp [partCells] at h; subst h; exact ⟨hd.2.1, hd.2.2.1⟩
    | succ j => exact densP_len (k + 1) r hd.2.2.2 j e (by simpa [partCells] using h)
theorem flat_length {α : Type} {z : Nat} : ∀ (es : List (List α)), (∀ (j : Nat) (e : List α), es[j]? = some e → e.length = z) → es.flatten.length = es.length * z
  | [], _ => by simp
  | e :: es, h => by
    have h0 := h 0 e rfl
    have ih := flat_length es fun j e' hj => h (j + 1) e' (by simpa using hj)
    rw [List.flatten_cons, List.length_append, ih, h0, List.length_cons, Nat.succ_mul]; omega
theorem flat_at {α : Type} {z : Nat} : ∀ (es : List (List α)), (∀ (j : Nat) (e : List α), es[j]? = some e → e.length = z) → ∀ (j : Nat) (e : List α), es[j]? = some e → ∀ k, k < z → es.flatten[j * z + k]? = e[k]?
  | [], _, j, e, h, _, _ => by simp at h
  | d :: es, h, j, e, hj, k, hk => by
    have h0 := h 0 d rfl
    cases j with
    | zero =>
      simp at hj; subst hj
      rw [List.flatten_cons, List.getElem?_append_left (by omega), Nat.zero_mul, Nat.zero_add]
    | succ j =>
      rw [List.flatten_cons, List.getElem?_append_right (by rw [Nat.succ_mul]; omega), h0, show (j + 1) * z + k - z = j * z + k from by rw [Nat.succ_mul]; omega]
      exact flat_at es (fun j e' hj => h (j + 1) e' (by simpa using hj)) j e (by simpa using hj) k hk
theorem flat_of {α : Type} {z : Nat} (hz : 0 < z) (es : List (List α)) (h : ∀ (j : Nat) (e : List α), es[j]? = some e → e.length = z) (i : Nat) (c : α) (hc : es.flatten[i]? = some c) : ∃ e, es[i / z]? = some e ∧ e[i % z]? = some c := by
  have hi : i < es.length * z := by rw [← flat_length es h]; exact (List.getElem?_eq_some_iff.1 hc).1
  have hd : i / z < es.length := Nat.div_lt_of_lt_mul (by rw [Nat.mul_comm]; exact hi)
  have he : es[i / z]? = some es[i / z] := List.getElem?_eq_getElem hd
  refine ⟨_, he, ?_⟩
  have := flat_at es h _ _ he (i % z) (Nat.mod_lt _ hz)
  rw [← this, Nat.mul_comm, Nat.div_add_mod]
  exact hc

theorem fillA_dense {z : Nat} : ∀ (ps : List (Nat × AV)) (k : Nat) (cs : List AV), densP z k ps = true → cs.length = (k + ps.length) * z →
    fillA (fun i => some (i * z, z)) cs ps = some (cs.take (k * z) ++ (partCells ps).flatten)
  | [], k, cs, _, hl => by
    simp only [fillA, partCells, List.flatten_nil, List.append_nil]
    rw [List.take_of_length_le (by rw [hl]; simp)]
  | (i, v) :: r, k, cs, hd, hl => by
    simp only [densP, Bool.and_eq_true, beq_iff_eq] at hd
    obtain ⟨rfl, h1, h2, h3⟩ := hd
    have hle : i * z + z ≤ cs.length := by
      rw [hl, ← Nat.succ_mul]; exact Nat.mul_le_mul_right _ (by simp)
    simp only [fillA]
    rw [if_pos ⟨h1, hle, h2⟩]
    have hlen : (spliceL cs (i * z) v.cells).length = cs.length := by simp [spliceL]; omega
    rw [fillA_dense r (i + 1) _ h3 (by rw [hlen, hl, List.length_cons]; congr 1; omega)]
    congr 1
    simp only [partCells, List.flatten_cons, spliceL]
    have e : (i + 1) * z = i * z + v.cells.length := by rw [Nat.succ_mul, h1]
    rw [e, List.take_append, List.take_of_length_le (by simp; omega), List.append_assoc]
    congr 1
    rw [List.length_take, Nat.min_eq_left (by omega), Nat.add_sub_cancel_left, List.take_left']
    rfl

/-- A row of new memory that nobody may write. -/
theorem ro_new {C : Ctx} {n : Nat} {w : World} {arr : Array Value} {ty : TypeId} {cs : List AV} {es : List (List AV)} {z cap : Nat} {full : Bool} (hw : w.heap = C.w.heap.push (.cells arr ty))
    (hcs : ∀ (j : Nat) (c : AV), cs[j]? = some c → ∃ u, arr[j]? = some u ∧ Conc C c u) (hes : ∀ (j : Nat) (e : List AV), es[j]? = some e → e.length = z) (hfl : cs = es.flatten) (hcap : es.length ≤ cap) (hfull : full = true → cap = es.length) :
    Conc (C.allocI n w) (.ro z es full) (.slice (some ⟨C.w.heap.size, 0, none⟩) es.length cap) := by
  simp only [Conc]
  refine ⟨_, cap, rfl, hcap, hfull, fun _ => ⟨_, rfl, by simp [Ctx.allocI, hw], by simp [Ctx.allocI], ConcE.mk fun j e hj => ⟨hes j e hj, ConcM.mk fun k c hk => ?_⟩⟩⟩
  have hkz : k < z := by rw [← hes j e hj]; exact (List.getElem?_eq_some_iff.1 hk).1
  have h1 : cs[j * z + k]? = some c := by rw [hfl, flat_at es hes j e hj k hkz]; exact hk
  obtain ⟨u, hu, hc⟩ := hcs _ c h1
  refine ⟨u, ?_, hc.mono (C.le_allocI n hw)⟩
  rw [add_add, add_mk]
  simp [Ctx.allocI, World.cell?, hw]
  exact hu

section
variable {P : Program} {n : Nat} {t : Tp} {h : Hp}

theorem run_slit {ty e : TypeId} {z len : Nat} {zc : List AV} (hs : slT P ty = some (e, z)) (hz : zeroC P e = some zc) (hzl : zc.length = z) (hsm : len * z ≤ 2 ^ 24) {C : Ctx} {a : Act} (ht : TOk C t a) {ps : Array (Nat × Operand)}
    (hl : ps.size = len) (hd : densP z 0 (ps.toList.map fun p => (p.1, ev t p.2)) = true) :
    ∃ arr : Array Value, (∀ (j : Nat) (c : AV), (partCells (ps.toList.map fun p => (p.1, ev t p.2))).flatten[j]? = some c → ∃ u, arr[j]? = some u ∧ Conc C c u) ∧ arr.size = len * z ∧
      (Instr.buildSlice ty len (ps.map fun p => (p.1, a.eval p.2))).run P C.w = .ok (.slice (some ⟨C.w.heap.size, 0, none⟩) len len) (C.w.alloc (.cells arr e)) := by
  obtain ⟨hu, he, h0⟩ := slT_some hs
  obtain ⟨ie, zv, hie, hz0, hzc⟩ := zeroC_some hz
  have hsz : ie.size = z := by
    have : P.cellsOf e = ie.size := by simp [Program.cellsOf, hie]
    omega
  by_cases hlen : len = 0
  · subst hlen
    have hps : ps = #[] := by
      apply Array.eq_empty_of_size_eq_zero hl
    subst hps
    refine ⟨#[], by simp [partCells], by simp, ?_⟩
    simp [Instr.buildSlice, run_underlying hu, sizeOf, typeInfo, hie, Instr.fill, newRow]
    congr 2
    apply Array.ext'
    simp
  · have hzr := zeroRow (C := C) (len := len) hzc (by omega)
    rw [hzl] at hzr
    have hfd := fillA_dense (z := z) (ps.toList.map fun p => (p.1, ev t p.2)) 0 (zeros len zc) hd (by rw [length_zeros, hzl]; simp [hl])
    rw [Nat.zero_mul, List.take_zero, List.nil_append] at hfd
    obtain ⟨us', hu', hL⟩ := fill_conc (C := C) (ps.toList.map fun p => (p.1, ev t p.2)) (ps.toList.map fun p => (p.1, a.eval p.2)) _ _ _ (by simp) (fun i p q h1 h2 => by
      rw [List.getElem?_map] at h1 h2
      cases hx : ps.toList[i]? with
      | none => rw [hx] at h1; cases h1
      | some x => rw [hx] at h1 h2; cases h1; cases h2; exact ev_conc ht x.2) hzr hfd
    refine ⟨us', fun j c hj => ?_, ?_, ?_⟩
    · obtain ⟨u, hu2, hc⟩ := hL.get j c hj
      exact ⟨u, by simpa using hu2, hc⟩
    · have h1 := hL.length
      rw [flat_length (z := z) _ (fun j e hj => (densP_len 0 _ hd j e hj).1), partCells_length] at h1
      simp [hl] at h1
      omega
    · have hpos : ¬ len * ie.size = 0 := by
        rw [hsz]
        have : 0 < len * z := Nat.mul_pos (by omega) h0
        omega
      refine run_buildSlice C.w ty e len _ us' ie zv hu hie hz0 (by rw [hsz]; omega) hpos ?_
      rw [hsz]
      simpa using hu'

theorem Y_slit_ro {ty e : TypeId} {z len : Nat} {zc : List AV} {ps : Array (Nat × Operand)} (hs : slT P ty = some (e, z)) (hz : zeroC P e = some zc) (hzl : zc.length = z) (hsm : len * z ≤ 2 ^ 24) (hl : ps.size = len) (hd : densP z 0 (ps.toList.map fun p => (p.1, ev t p.2)) = true) :
    Yields P n (.buildSlice ty len ps) t h (.ro z (partCells (ps.toList.map fun p => (p.1, ev t p.2))) true) [] :=
  Yields.run fun C a o ho hh ht hn => by
    obtain ⟨arr, hcs, _, hr⟩ := run_slit hs hz hzl hsm ht hl hd
    have hlen : (partCells (ps.toList.map fun p => (p.1, ev t p.2))).length = len := by rw [partCells_length]; simp [hl]
    refine ⟨.slice (some ⟨C.w.heap.size, 0, none⟩) len len, C.allocI n (C.w.alloc (.cells arr e)), ?_, Post.allocI hh (o := .cells arr e) rfl ?_ rfl rfl rfl⟩
    · unfold execOp
      rw [ho]
      simp only [Sem.run_bind, hr, Result.andThen_ok]
      rfl
    · have := ro_new (C := C) (n := n) (w := C.w.alloc (.cells arr e)) (ty := e) (full := true) (cap := len) rfl hcs (fun j e hj => (densP_len 0 _ hd j e hj).1) rfl (by omega) (fun _ => hlen.symm)
      rwa [hlen] at this
theorem Y_slit_sl {ty e : TypeId} {z len : Nat} {zc : List AV} {ps : Array (Nat × Operand)} (hs : slT P ty = some (e, z)) (hz : zeroC P e = some zc) (hzl : zc.length = z) (hsm : len * z ≤ 2 ^ 24) (hl : ps.size = len) (hd : densP z 0 (ps.toList.map fun p => (p.1, ev t p.2)) = true) :
    Yields P n (.buildSlice ty len ps) t h (.sl (n, 0) z 0 len true) [((n, 0), some (partCells (ps.toList.map fun p => (p.1, ev t p.2))).flatten)] :=
  Yields.run fun C a o ho hh ht hn => by
    obtain ⟨arr, hcs, hsz, hr⟩ := run_slit hs hz hzl hsm ht hl hd
    refine ⟨.slice (some ⟨C.w.heap.size, 0, none⟩) len len, C.allocN n (C.w.alloc (.cells arr e)), ?_, Post.allocN hh hn (arr := arr) (ty := e) rfl hcs ?_ rfl rfl rfl⟩
    · unfold execOp
      rw [ho]
      simp only [Sem.run_bind, hr, Result.andThen_ok]
      rfl
    · simp only [Conc, Ctx.allocN, if_true]
      exact ⟨⟨_, _, _, rfl⟩, .inr trivial, fun _ => ⟨len, 0, rfl, Nat.le_refl _, .inl rfl, fun _ => ⟨arr, e, heap_alloc_new C.w _, by omega⟩⟩⟩

/-! ### len, max, min -/
def lenT (P : Program) (h : Hp) (ty : TypeId) (x : AV) : Option Int :=
  match x with
  | .ro _ es _ => if (slT P ty).isSome = true then some es.length else none
  | .sl m _ _ len _ => if (slT P ty).isSome = true ∧ (hget h m).isSome = true then some len else none
  | .sc (.slice _ m _) => if (slT P ty).isSome = true then some m else none
  | .sc (.string s) => if strT P ty = true then some s.size else none
  | .agg _ => (arrT P ty).map fun p => (p.1 : Int)
  | _ => none
theorem run_len {P : Program} {ty : TypeId} {e : TypeId} {A : Option Addr} {l c : Nat} (hu : P.underlying ty = some (.slice e)) {tys : Array TypeId} {vs : Array Value} (h1 : tys[0]? = some ty) (h2 : vs[0]? = some (.slice A l c)) (r : TypeId) (w : World) :
    (Builtin.len_ tys r vs).run P w = .ok (goInt l) w := by
  unfold Builtin.len_
  simp only [h1, h2, Sem.run_bind, run_underlying hu, Result.andThen_ok, Sem.run_pure]
theorem Y_len {c : Call} {ty : TypeId} {x : Operand} {m : Int} (hb : c.callee = .builtin .len) (h1 : c.argTypes[0]? = some ty) (hx : c.args[0]? = some x) (hl : lenT P h ty (ev t x) = some m) : Yields P n (.call c) t h (.sc (.int .i64 m)) [] :=
  Yields.pure fun C a o ho hh ht => by
    refine ⟨.int .i64 m, ?_, by simp only [Conc]⟩
    rw [run_builtin hb _ _ o ho]
    have h2 : (c.args.map a.eval)[0]? = some (a.eval x) := by simp [hx]
    have hc := ev_conc ht x
    have key : (Builtin.len_ c.argTypes o.type (c.args.map a.eval)).run P C.w = .ok (goInt m) C.w := by
      revert hc hl
      generalize ev t x = X
      intro hl hc
      unfold lenT at hl
      split at hl
      · split at hl
        · rename_i hs
          cases hl
          obtain ⟨⟨e, z⟩, hs⟩ := Option.isSome_iff_exists.1 hs
          simp only [Conc] at hc
          obtain ⟨A, cap, hv, _⟩ := hc
          exact run_len (slT_some hs).1 h1 (by rw [h2, hv]) _ _
        · cases hl
      · split at hl
        · rename_i hs
          cases hl
          obtain ⟨⟨e, z⟩, hs1⟩ := Option.isSome_iff_exists.1 hs.1
          simp only [Conc] at hc
          obtain ⟨cap, of, hv, _⟩ := hc.2.2 ((hh.live _).2 hs.2)
          exact run_len (slT_some hs1).1 h1 (by rw [h2, hv]) _ _
        · cases hl
      · split at hl
        · rename_i hs
          cases hl
          obtain ⟨⟨e, z⟩, hs⟩ := Option.isSome_iff_exists.1 hs
          simp only [Conc] at hc
          exact run_len (slT_some hs).1 h1 (by rw [h2, hc]) _ _
        · cases hl
      · split at hl
        · rename_i hs
          cases hl
          simp only [Conc] at hc
          unfold strT at hs
          split at hs
          · rename_i hu
            unfold Builtin.len_
            simp only [h1, h2, hc, Sem.run_bind, run_underlying hu, Result.andThen_ok, Sem.run_pure]
          · cases hs
        · cases hl
      · obtain ⟨⟨p, z⟩, hp, rfl⟩ := Option.map_eq_some_iff.1 hl
        obtain ⟨e, hu, _⟩ := arrT_some hp
        unfold Builtin.len_
        simp only [h1, h2, Sem.run_bind, run_underlying hu, Result.andThen_ok, Sem.run_pure]
      · cases hl
    simp only [builtin, Sem.run_bind, key, Result.andThen_ok]
    rfl
end
end Go.Proofs.Aw
