/- The abstract logic, part 3: what each operation yields: moves, new variables, loads, stores, addresses, arithmetic. -/
import Derived.Test.YtcllappmhdfffaaAw2
namespace Go.Proofs.Aw
open Go

def AV.cells : AV → List AV
  | .agg cs => cs
  | v => [v]
def AV.one : AV → Bool
  | .sc v => v.oneCell'
  | .top | .agg _ | .tup _ => false
  | _ => true
def zeroC (P : Program) (t : TypeId) : Option (List AV) := (P.info? t).bind fun i => i.zero.map fun v => v.cells.toList.map AV.sc
def aggT (P : Program) (t : TypeId) : Option Bool := match P.underlying t with | some (.struct _) | some (.array _ _) => some true | some _ => some false | none => none

section
variable {P : Program} {n : Nat} {t : Tp} {h : Hp}

theorem Y_move (x : Operand) : Yields P n (.move x) t h (ev t x) [] :=
  Yields.pure fun C a o ho _ ht => ⟨a.eval x, by unfold execOp; rw [ho]; rfl, ev_conc ht x⟩
theorem Y_assign (x : Operand) : Yields P n (.assign x) t h (ev t x) [] :=
  Yields.pure fun C a o ho _ ht => ⟨a.eval x, by unfold execOp; rw [ho]; rfl, ev_conc ht x⟩
theorem Y_pick {c x y : Operand} {b : Bool} (hc : ev t c = .sc (.bool b)) : Yields P n (.pick c x y) t h (if b = true then ev t x else ev t y) [] :=
  Yields.pure fun C a o ho _ ht => by
    have h1 := ev_conc ht c
    rw [hc] at h1
    simp only [Conc] at h1
    refine ⟨if b = true then a.eval x else a.eval y, ?_, ?_⟩
    · unfold execOp
      rw [ho]
      simp only [h1, asBool]
      rfl
    · split
      · exact ev_conc ht x
      · exact ev_conc ht y

theorem one_conc {C : Ctx} {v : AV} {u : Value} (hc : Conc C v u) (h1 : v.one = true) : u.oneCell' = true := by
  cases v <;> simp only [AV.one, Bool.false_eq_true] at h1 <;> simp only [Conc] at hc
  case sc => rw [hc]; exact h1
  case ptr => obtain ⟨⟨p, rfl⟩, _⟩ := hc; rfl
  case sl => obtain ⟨⟨A, l, c, rfl⟩, _⟩ := hc; rfl
  case ip => obtain ⟨a, rfl, _⟩ := hc; rfl
  case ro => obtain ⟨A, c, rfl, _⟩ := hc; rfl
  case fn => obtain ⟨x, y, rfl, _⟩ := hc; rfl
  case ifc => obtain ⟨x, rfl, _⟩ := hc; rfl
theorem cells_conc {C : Ctx} {v : AV} {u : Value} (hc : Conc C v u) (h1 : v.cells.all AV.one = true) : ConcL C v.cells u.cells.toList ∧ ∀ x ∈ u.cells.toList, x.oneCell' = true := by
  have hL : ConcL C v.cells u.cells.toList := by
    cases v with
    | agg cs =>
      simp only [Conc] at hc
      obtain ⟨us, rfl, hl⟩ := hc
      exact hl
    | _ =>
      have ho : u.oneCell' = true := one_conc hc (by simpa [AV.cells] using h1)
      have e : u.cells.toList = [u] := by cases u <;> first | rfl | cases ho
      rw [e]
      simp only [AV.cells, ConcL]
      exact ⟨u, [], rfl, hc, rfl⟩
  refine ⟨hL, fun x hx => ?_⟩
  obtain ⟨i, hi, rfl⟩ := List.mem_iff_getElem.1 hx
  have hlen := hL.length
  obtain ⟨u', hu', hcu⟩ := hL.get i (v.cells[i]'(by omega)) (List.getElem?_eq_getElem _)
  rw [List.getElem?_eq_getElem hi] at hu'
  cases hu'
  exact one_conc hcu (List.all_eq_true.1 h1 _ (List.getElem_mem _))

theorem run_newVar' (w : World) (e : TypeId) (v : Value) : (newVar e v).run P w = .ok ⟨w.heap.size, 0, none⟩ { w with heap := w.heap.push (.cells v.cells e) } := rfl
theorem run_zero {e : TypeId} {cs : List AV} (hz : zeroC P e = some cs) (w : World) : ∃ z, (zeroValue e).run P w = .ok z w ∧ cs = z.cells.toList.map AV.sc := by
  unfold zeroC at hz
  cases hi : P.info? e with
  | none => rw [hi] at hz; cases hz
  | some i =>
    rw [hi] at hz
    cases hz0 : i.zero with
    | none => simp [hz0] at hz
    | some z =>
      simp [hz0] at hz
      refine ⟨z, ?_, hz.symm⟩
      unfold zeroValue typeInfo program
      simp only [bind, Sem.bind, pure, Sem.run, hi, hz0]
theorem sc_cells {C : Ctx} (us : List Value) (j : Nat) (c : AV) (h : (us.map AV.sc)[j]? = some c) : ∃ u, us.toArray[j]? = some u ∧ Conc C c u := by
  rw [List.getElem?_map] at h
  cases hu : us[j]? with
  | none => rw [hu] at h; cases h
  | some u =>
    rw [hu] at h; cases h
    exact ⟨u, by simpa using hu, by simp only [Conc]⟩

theorem Y_alloc {e : TypeId} {cs : List AV} (hz : zeroC P e = some cs) : Yields P n (.alloc e) t h (.ptr (n, 0) 0) [((n, 0), some cs)] :=
  Yields.run fun C a o ho hh _ hn => by
    obtain ⟨z, hr, rfl⟩ := run_zero hz C.w
    refine ⟨.pointer (some ⟨C.w.heap.size, 0, none⟩), C.allocN n { C.w with heap := C.w.heap.push (.cells z.cells e) }, ?_, ?_⟩
    · unfold execOp
      rw [ho]
      simp only [Instr.alloc, Sem.run_bind, hr, Result.andThen_ok, run_newVar', Ctx.allocN]
      rfl
    · refine Post.allocN (arr := z.cells) (ty := e) hh hn rfl (fun j c hj => by simpa using sc_cells _ j c hj) ?_ rfl rfl rfl
      simp only [Conc, Ctx.allocN, if_true]
      exact ⟨⟨_, rfl⟩, .inr trivial, fun _ => trivial⟩
theorem Y_box {e : TypeId} {x : Operand} (h1 : (ev t x).cells.all AV.one = true) : Yields P n (.box e x) t h (.ptr (n, 0) 0) [((n, 0), some (ev t x).cells)] :=
  Yields.run fun C a o ho hh ht hn => by
    refine ⟨.pointer (some ⟨C.w.heap.size, 0, none⟩), C.allocN n { C.w with heap := C.w.heap.push (.cells (a.eval x).cells e) }, ?_, ?_⟩
    · unfold execOp
      rw [ho]
      simp only [Instr.box, Sem.run_bind, run_newVar', Result.andThen_ok, Ctx.allocN]
      rfl
    · refine Post.allocN (arr := (a.eval x).cells) (ty := e) hh hn rfl (fun j c hj => ?_) ?_ rfl rfl rfl
      · obtain ⟨u, hu, hcu⟩ := (cells_conc (ev_conc ht x) h1).1.get j c hj
        exact ⟨u, by simpa using hu, hcu⟩
      · simp only [Conc, Ctx.allocN, if_true]
        exact ⟨⟨_, rfl⟩, .inr trivial, fun _ => trivial⟩

/-! ### Reading -/
theorem run_isAgg {ty : TypeId} {b : Bool} (hb : aggT P ty = some b) (w : World) : (isAgg ty).run P w = .ok b w := by
  unfold aggT at hb
  unfold isAgg
  cases hu : P.underlying ty with
  | none => rw [hu] at hb; cases hb
  | some d =>
    rw [hu] at hb
    simp only [Sem.run_bind, run_underlying hu, Result.andThen_ok]
    cases d <;> simp at hb <;> subst hb <;> rfl
theorem info_of_cells {ty : TypeId} {z : Nat} (hz : P.cellsOf ty = z) (h0 : 0 < z) : ∃ i, P.info? ty = some i ∧ i.size = z := by
  unfold Program.cellsOf at hz
  cases hi : P.info? ty with
  | none => simp [hi] at hz; omega
  | some i => exact ⟨i, rfl, by simpa [hi] using hz⟩
theorem run_size {ty : TypeId} (h0 : 0 < P.cellsOf ty) (w : World) : (sizeOf ty).run P w = .ok (P.cellsOf ty) w := by
  obtain ⟨i, hi, _⟩ := info_of_cells (P := P) (ty := ty) rfl h0
  exact run_sizeOf w hi

/-- A read of z cells from a row at off. -/
def Rd (agg : Bool) (z : Nat) (cs : List AV) (off : Nat) (v : AV) : Prop :=
  (agg = true ∧ 0 < z ∧ off + z ≤ cs.length ∧ v = .agg ((cs.drop off).take z)) ∨ (agg = false ∧ cs[off]? = some v)

theorem run_loadVar_rd {ty : TypeId} {agg : Bool} (hb : aggT P ty = some agg) {C : Ctx} {a : Addr} {cs : List AV} {off : Nat} {v : AV}
    (hrow : ∀ (j : Nat) (c : AV), cs[j]? = some c → ∃ u, C.w.cell? (a.add j) = some u ∧ Conc C c u) (hr : Rd agg (P.cellsOf ty) cs off v) : ∃ u, (loadVar ty (a.add off)).run P C.w = .ok u C.w ∧ Conc C v u := by
  unfold loadVar
  rcases hr with ⟨rfl, h0, hlen, rfl⟩ | ⟨rfl, hv⟩
  · have hx : ∀ j, j < P.cellsOf ty → ∃ u, C.w.cell? ((a.add off).add j) = some u ∧ ∃ c, ((cs.drop off).take (P.cellsOf ty))[j]? = some c ∧ Conc C c u := fun j hj => by
      obtain ⟨u, hu, hc⟩ := hrow (off + j) (cs[off + j]'(by omega)) (List.getElem?_eq_getElem _)
      refine ⟨u, by rw [add_add]; exact hu, _, ?_, hc⟩
      rw [List.getElem?_take, if_pos hj, List.getElem?_drop, List.getElem?_eq_getElem (by omega)]
    let us : List Value := (List.range (P.cellsOf ty)).map fun j => (C.w.cell? ((a.add off).add j)).getD undef
    have hus : us.length = P.cellsOf ty := by simp [us]
    have hget : ∀ j v, us[j]? = some v → C.w.cell? ((a.add off).add j) = some v := fun j v hj => by
      have hj' : j < P.cellsOf ty := by
        have := (List.getElem?_eq_some_iff.1 hj).1
        omega
      obtain ⟨u, hu, _⟩ := hx j hj'
      simp only [us, List.getElem?_map, List.getElem?_range hj', Option.map_some, hu, Option.getD_some, Option.some.injEq] at hj
      rw [← hj]; exact hu
    have hrun := run_loadCells_list (P := P) C.w (a.add off) us hget
    rw [hus] at hrun
    refine ⟨.agg us.toArray, ?_, ?_⟩
    · simp only [Sem.run_bind, run_isAgg hb, Result.andThen_ok, if_true, run_size h0, hrun]
      rfl
    · simp only [Conc]
      refine ⟨us.toArray, rfl, ConcL.mk ?_ fun j c u h1 h2 => ?_⟩
      · simp [hus]; omega
      · have hj' : j < P.cellsOf ty := by
          have := (List.getElem?_eq_some_iff.1 h1).1
          simp at this; omega
        obtain ⟨u', hu', c', hc', hcc⟩ := hx j hj'
        rw [h1] at hc'; cases hc'
        have := hget j u (by simpa using h2)
        rw [hu'] at this; cases this
        exact hcc
  · obtain ⟨u, hu, hc⟩ := hrow off v hv
    refine ⟨u, ?_, hc⟩
    simp only [Sem.run_bind, run_isAgg hb, Result.andThen_ok, Bool.false_eq_true, if_false]
    unfold load
    simp only [Sem.run, hu]

theorem obj_row {C : Ctx} {b : Nat} {cs : List AV} (ho : ObjOk C b cs) (j : Nat) (c : AV) (hj : cs[j]? = some c) : ∃ u, C.w.cell? ((⟨b, 0, none⟩ : Addr).add j) = some u ∧ Conc C c u := by
  obtain ⟨arr, ty, ha, hc⟩ := ho
  obtain ⟨u, hu, hcu⟩ := hc j c hj
  exact ⟨u, by rw [add_mk, World.cell?, ha]; simpa using hu, hcu⟩

theorem Y_load_ptr {ty : TypeId} {x : Operand} {m : Nm} {off : Nat} {cs : List AV} {agg : Bool} {v : AV} (hx : ev t x = .ptr m off) (hg : hget h m = some cs) (hb : aggT P ty = some agg) (hr : Rd agg (P.cellsOf ty) cs off v) :
    Yields P n (.load ty x) t h v [] :=
  Yields.pure fun C a o ho hh ht => by
    have h1 := ev_conc ht x
    rw [hx] at h1
    simp only [Conc] at h1
    have h2 := h1.2.2 (hh.get hg)
    obtain ⟨u, hu, hc⟩ := run_loadVar_rd (a := ⟨C.ρ m, 0, none⟩) hb (obj_row (hh.obj m cs hg)) hr
    rw [add_mk, Nat.zero_add] at hu
    refine ⟨u, ?_, hc⟩
    unfold execOp
    rw [ho]
    simp only [Instr.loadAt, h2, Instr.sureAddr, Sem.run_bind, Sem.run_pure, Result.andThen_ok, hu]
theorem Y_load_ip {ty : TypeId} {x : Operand} {off : Nat} {cs : List AV} {agg : Bool} {v : AV} (hx : ev t x = .ip cs off) (hb : aggT P ty = some agg) (hr : Rd agg (P.cellsOf ty) cs off v) :
    Yields P n (.load ty x) t h v [] :=
  Yields.pure fun C a o ho hh ht => by
    have h1 := ev_conc ht x
    rw [hx] at h1
    simp only [Conc] at h1
    obtain ⟨ad, h2, _, _, hM⟩ := h1
    obtain ⟨u, hu, hc⟩ := run_loadVar_rd (a := ad) hb (fun j c hj => by simpa using hM.get j c hj) hr
    refine ⟨u, ?_, hc⟩
    unfold execOp
    rw [ho]
    simp only [Instr.loadAt, h2, Instr.sureAddr, Sem.run_bind, Sem.run_pure, Result.andThen_ok, hu]

/-! ### Writing -/
def spliceL (cs : List AV) (off : Nat) (vs : List AV) : List AV := cs.take off ++ (vs ++ cs.drop (off + vs.length))
theorem Y_store {ty : TypeId} {x y : Operand} {m : Nm} {off : Nat} {cs : List AV} (hx : ev t x = .ptr m off) (hg : hget h m = some cs) (h0 : 0 < P.cellsOf ty) (hl : (ev t y).cells.length = P.cellsOf ty) (hlen : off + P.cellsOf ty ≤ cs.length)
    (h1 : (ev t y).cells.all AV.one = true) : Yields P n (.store ty x y) t h (.sc undef) [(m, some (spliceL cs off (ev t y).cells))] :=
  Yields.skip fun C a o ho hh ht hn => by
    have hp := ev_conc ht x
    rw [hx] at hp
    simp only [Conc] at hp
    have h2 := hp.2.2 (hh.get hg)
    obtain ⟨hcL, hone⟩ := cells_conc (ev_conc ht y) h1
    obtain ⟨arr, ty0, ha, hc⟩ := hh.obj m cs hg
    have hsz : off + P.cellsOf ty ≤ arr.size := by
      have hlast : cs[off + P.cellsOf ty - 1]? = some (cs[off + P.cellsOf ty - 1]'(by omega)) := List.getElem?_eq_getElem _
      obtain ⟨u, hu, _⟩ := hc _ _ hlast
      have := (Array.getElem?_eq_some_iff.1 hu).1
      omega
    have hvl : (a.eval y).cells.toList.length = P.cellsOf ty := by rw [← hcL.length]; exact hl
    have hvl' : (a.eval y).cells.size = P.cellsOf ty := by simpa using hvl
    let arr' : Array Value := (arr.toList.take off ++ (a.eval y).cells.toList ++ arr.toList.drop (off + P.cellsOf ty)).toArray
    have hrun := run_storeCells_at (P := P) (C.ρ m) off ty0 (a.eval y).cells.toList 0 arr C.w ha (by omega) hone
    rw [Nat.add_zero, hvl] at hrun
    refine ⟨C.same n (C.w.setRow (C.ρ m) arr'), ?_, ?_⟩
    · unfold execOp
      rw [ho]
      simp only [Instr.storeAt, h2, Instr.sureAddr, Sem.run_bind, Sem.run_pure, Result.andThen_ok, storeVar, run_size h0, hvl', ne_eq, not_true_eq_false, if_false, hrun, Ctx.same]
      rfl
    · refine Post.mod hh hg ha (setRow_heap C.w (C.ρ m) arr _ ty0 _ ha) ?_ (by simp) (fun k hk => ?_) (fun j c hj => ?_) (by simp only [Conc]) rfl rfl rfl
      · simp [arr', hvl']; omega
      · simp [World.setRow, Array.getElem?_modify, Ne.symm hk]
      · simp only [spliceL, hl] at hj
        have e1 : arr'[j]? = (arr.toList.take off ++ (a.eval y).cells.toList ++ arr.toList.drop (off + P.cellsOf ty))[j]? := by simp [arr']
        rw [e1]
        by_cases hj1 : j < off
        · rw [List.getElem?_append_left (by simp; omega), List.getElem?_take, if_pos hj1] at hj
          obtain ⟨u, hu, hcu⟩ := hc j c hj
          refine ⟨u, ?_, hcu⟩
          rw [List.append_assoc, List.getElem?_append_left (by simp; omega), List.getElem?_take, if_pos hj1]
          simpa using hu
        · rw [List.getElem?_append_right (by simp; omega)] at hj
          simp only [List.length_take, Nat.min_eq_left (show off ≤ cs.length by omega)] at hj
          rw [List.append_assoc, List.getElem?_append_right (by simp; omega)]
          simp only [List.length_take, Array.length_toList, Nat.min_eq_left (show off ≤ arr.size by omega)]
          by_cases hj2 : j - off < P.cellsOf ty
          · rw [List.getElem?_append_left (by omega)] at hj ⊢
            exact hcL.get _ c hj
          · rw [List.getElem?_append_right (by omega)] at hj ⊢
            rw [hl, List.getElem?_drop] at hj
            rw [hvl, List.getElem?_drop]
            obtain ⟨u, hu, hcu⟩ := hc _ c hj
            exact ⟨u, by simpa using hu, hcu⟩
end
end Go.Proofs.Aw
