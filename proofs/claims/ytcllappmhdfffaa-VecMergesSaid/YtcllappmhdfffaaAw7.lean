/- The abstract logic, part 7: literals of structs, arrays and slices; len, cap, max, min; append. -/
import Derived.Test.YtcllappmhdfffaaAw6
import Derived.Lib.LazyBuf
import Derived.Great.BuildSlice
namespace Go.Proofs.Aw
open Go

/-! ### What is known of a type, each one closed fact -/
def arrT (P : Program) (t : TypeId) : Option (Nat × Nat) := match P.underlying t with | some (.array n e) => if 0 < P.cellsOf e then some (n, P.cellsOf e) else none | _ => none
def slT (P : Program) (t : TypeId) : Option (TypeId × Nat) := match P.underlying t with | some (.slice e) => if 0 < P.cellsOf e then some (e, P.cellsOf e) else none | _ => none
def recT (P : Program) (t : TypeId) : Option (List (Nat × Nat)) := match P.underlying t with | some (.struct fs) => if fs.toList.all (fun f => decide (0 < P.cellsOf f.type)) = true then some (fs.toList.map fun f => (f.offset, P.cellsOf f.type)) else none | _ => none
def strT (P : Program) (t : TypeId) : Bool := match P.underlying t with | some .string => true | _ => false

theorem arrT_some {P : Program} {t : TypeId} {n z : Nat} (h : arrT P t = some (n, z)) : ∃ e, P.underlying t = some (.array n e) ∧ P.cellsOf e = z ∧ 0 < z := by
  unfold arrT at h
  split at h
  · rename_i m e hu
    split at h
    · cases h; exact ⟨e, hu, rfl, by assumption⟩
    · cases h
  · cases h
theorem slT_some {P : Program} {t e : TypeId} {z : Nat} (h : slT P t = some (e, z)) : P.underlying t = some (.slice e) ∧ P.cellsOf e = z ∧ 0 < z := by
  unfold slT at h
  split at h
  · rename_i e' hu
    split at h
    · cases h; exact ⟨hu, rfl, by assumption⟩
    · cases h
  · cases h
theorem recT_some {P : Program} {t : TypeId} {l : List (Nat × Nat)} (h : recT P t = some l) : ∃ fs, P.underlying t = some (.struct fs) ∧ (∀ f ∈ fs.toList, 0 < P.cellsOf f.type) ∧ l = fs.toList.map fun f => (f.offset, P.cellsOf f.type) := by
  unfold recT at h
  split at h
  · rename_i fs hu
    split at h
    · rename_i ha
      cases h
      exact ⟨fs, hu, fun f hf => by simpa using List.all_eq_true.1 ha f hf, rfl⟩
    · cases h
  · cases h

/-! ### Filling in parts -/
def fillA (place : Nat → Option (Nat × Nat)) (cells : List AV) : List (Nat × AV) → Option (List AV)
  | [] => some cells
  | (i, v) :: r => match place i with
    | none => none
    | some (off, size) => if v.cells.length = size ∧ off + size ≤ cells.length ∧ v.cells.all AV.one = true then fillA place (spliceL cells off v.cells) r else none

theorem foldl_set (off : Nat) : ∀ (l : List Value) (k : Nat) (cs : Array Value), ((l.zipIdx k).foldl (fun cs x => cs.setIfInBounds (off + x.2) x.1) cs).size = cs.size ∧
    ∀ i, i < cs.size → ((l.zipIdx k).foldl (fun cs x => cs.setIfInBounds (off + x.2) x.1) cs)[i]? = if off + k ≤ i ∧ i < off + k + l.length then l[i - (off + k)]? else cs[i]?
  | [], k, cs => by
    refine ⟨by simp, fun i _ => ?_⟩
    rw [if_neg (by simp)]
    simp
  | v :: l, k, cs => by
    have ih := foldl_set off l (k + 1) (cs.setIfInBounds (off + k) v)
    simp only [List.zipIdx_cons, List.foldl_cons]
    refine ⟨by rw [ih.1]; simp, fun i hi => ?_⟩
    rw [ih.2 i (by simpa using hi)]
    by_cases h1 : off + (k + 1) ≤ i ∧ i < off + (k + 1) + l.length
    · rw [if_pos h1, if_pos (by simp; omega)]
      rw [show i - (off + k) = i - (off + (k + 1)) + 1 from by omega, List.getElem?_cons_succ]
    · rw [if_neg h1]
      by_cases h2 : i = off + k
      · subst h2
        rw [if_pos (by simp), Nat.sub_self, List.getElem?_cons_zero, Array.getElem?_setIfInBounds_self]
        simp [hi]
      · rw [if_neg (by simp; omega), Array.getElem?_setIfInBounds_ne (Ne.symm h2)]

theorem splice_conc {C : Ctx} {cs vs : List AV} {us ws rs : List Value} {off : Nat} (hc : ConcL C cs us) (hv : ConcL C vs ws) (hl : off + vs.length ≤ cs.length) (hrl : rs.length = us.length)
    (hr : ∀ i, i < us.length → rs[i]? = if off ≤ i ∧ i < off + ws.length then ws[i - off]? else us[i]?) : ConcL C (spliceL cs off vs) rs := by
  have l1 := hc.length
  have l2 := hv.length
  refine ConcL.mk (by simp [spliceL]; omega) fun i c u h1 h2 => ?_
  have hi : i < us.length := by rw [← hrl]; exact (List.getElem?_eq_some_iff.1 h2).1
  rw [hr i hi] at h2
  simp only [spliceL] at h1
  by_cases ha : i < off
  · rw [List.getElem?_append_left (by simp; omega), List.getElem?_take, if_pos ha] at h1
    rw [if_neg (by omega)] at h2
    obtain ⟨u', hu', hcu⟩ := hc.get i c h1
    rw [h2] at hu'; cases hu'; exact hcu
  · rw [List.getElem?_append_right (by simp; omega)] at h1
    simp only [List.length_take, Nat.min_eq_left (show off ≤ cs.length by omega)] at h1
    by_cases hb : i < off + vs.length
    · rw [List.getElem?_append_left (by omega)] at h1
      rw [if_pos (by omega)] at h2
      obtain ⟨u', hu', hcu⟩ := hv.get _ c h1
      rw [h2] at hu'; cases hu'; exact hcu
    · rw [List.getElem?_append_right (by omega), List.getElem?_drop, show off + vs.length + (i - off - vs.length) = i from by omega] at h1
      rw [if_neg (by omega)] at h2
      obtain ⟨u', hu', hcu⟩ := hc.get i c h1
      rw [h2] at hu'; cases hu'; exact hcu

theorem fill_conc {C : Ctx} {place : Nat → Option (Nat × Nat)} : ∀ (ps : List (Nat × AV)) (qs : List (Nat × Value)) (cs cs' : List AV) (us : Array Value), ps.map (·.1) = qs.map (·.1) → (∀ (i : Nat) (p : Nat × AV) (q : Nat × Value), ps[i]? = some p → qs[i]? = some q → Conc C p.2 q.2) →
    ConcL C cs us.toList → fillA place cs ps = some cs' → ∃ us', Instr.fill place us qs = some us' ∧ ConcL C cs' us'.toList
  | [], [], cs, cs', us, _, _, hc, h => by
    simp only [fillA, Option.some.injEq] at h
    subst h
    exact ⟨us, rfl, hc⟩
  | [], _ :: _, _, _, _, hm, _, _, _ => by simp at hm
  | _ :: _, [], _, _, _, hm, _, _, _ => by simp at hm
  | (i, v) :: ps, (j, q) :: qs, cs, cs', us, hm, hc, hL, h => by
    simp only [List.map_cons, List.cons.injEq] at hm
    obtain ⟨e, hm⟩ := hm
    subst e
    have hv : Conc C v q := hc 0 _ _ rfl rfl
    simp only [fillA] at h
    simp only [Instr.fill]
    cases hp : place i with
    | none => simp [hp] at h
    | some os =>
      obtain ⟨off, size⟩ := os
      simp only [hp] at h ⊢
      split at h
      · rename_i hcond
        obtain ⟨h1, h2, h3⟩ := hcond
        obtain ⟨hvL, _⟩ := cells_conc hv h3
        have hqs : q.cells.size = size := by have := hvL.length; simp at this; omega
        have hus : us.size = cs.length := by have := hL.length; simp at this; omega
        have hno : ¬ ((decide (q.cells.size ≠ size) || decide (off + q.cells.size > us.size)) = true) := by
          simp [hqs]; omega
        rw [if_neg hno]
        have hf := foldl_set off q.cells.toList 0 us
        simp only [Nat.add_zero] at hf
        have hz : q.cells.zipIdx = (q.cells.toList.zipIdx 0).toArray := by apply Array.ext'; simp
        refine fill_conc ps qs (spliceL cs off v.cells) cs' _ hm (fun k p q' hk hq => hc (k + 1) p q' (by simpa using hk) (by simpa using hq)) ?_ h
        refine splice_conc hL hvL (by omega) ?_ ?_
        · rw [hz, ← Array.foldl_toList]
          simpa using hf.1
        · intro k hk
          rw [hz, ← Array.foldl_toList]
          have := hf.2 k (by simpa using hk)
          simpa using this
      · cases h

theorem zeroC_some {P : Program} {t : TypeId} {cs : List AV} (h : zeroC P t = some cs) : ∃ i z, P.info? t = some i ∧ i.zero = some z ∧ cs = z.cells.toList.map AV.sc := by
  unfold zeroC at h
  obtain ⟨i, hi, h⟩ := Option.bind_eq_some_iff.1 h
  obtain ⟨z, hz, rfl⟩ := Option.map_eq_some_iff.1 h
  exact ⟨i, z, hi, hz, rfl⟩
theorem sc_concL {C : Ctx} : ∀ (us : List Value), ConcL C (us.map AV.sc) us
  | [] => by simp only [List.map_nil, ConcL]
  | u :: us => by simp only [List.map_cons, ConcL]; exact ⟨u, us, rfl, by simp only [Conc], sc_concL us⟩

/-- Where the parts of a type lie. -/
def placeOf (P : Program) (t : TypeId) : Nat → Option (Nat × Nat) :=
  match arrT P t, recT P t with
  | some (_, z), _ => fun i => some (i * z, z)
  | none, some l => fun i => l[i]?
  | none, none => fun _ => none

theorem mapM_places {P : Program} : ∀ (fs : List Field), (∀ f ∈ fs, 0 < P.cellsOf f.type) → fs.mapM (fun f => (P.info? f.type).map fun i => (f.offset, i.size)) = some (fs.map fun f => (f.offset, P.cellsOf f.type))
  | [], _ => rfl
  | f :: fs, h => by
    obtain ⟨i, hi, hs⟩ := info_of_cells (P := P) (ty := f.type) rfl (h f List.mem_cons_self)
    rw [List.mapM_cons, mapM_places fs fun g hg => h g (List.mem_cons_of_mem _ hg)]
    simp [hi, hs]

section
variable {P : Program} {n : Nat} {t : Tp} {h : Hp}
theorem Y_build {ty : TypeId} {ps : Array (Nat × Operand)} {cs cs' : List AV} (hz : zeroC P ty = some cs) (hf : fillA (placeOf P ty) cs (ps.toList.map fun p => (p.1, ev t p.2)) = some cs') (hp : ((arrT P ty).isSome || (recT P ty).isSome) = true) : Yields P n (.build ty ps) t h (.agg cs') [] :=
  Yields.pure fun C a o ho hh ht => by
    obtain ⟨it, z, hit, hz0, rfl⟩ := zeroC_some hz
    obtain ⟨us', hu', hL⟩ := fill_conc (C := C) (ps.toList.map fun p => (p.1, ev t p.2)) (ps.toList.map fun p => (p.1, a.eval p.2)) _ cs' z.cells (by simp) (fun i p q h1 h2 => by
      rw [List.getElem?_map] at h1 h2
      cases hx : ps.toList[i]? with
      | none => rw [hx] at h1; cases h1
      | some x => rw [hx] at h1 h2; cases h1; cases h2; exact ev_conc ht x.2) (sc_concL _) hf
    refine ⟨.agg us', ?_, by simp only [Conc]; exact ⟨us', rfl, hL⟩⟩
    have hb : P.built ty (ps.toList.map fun p => (p.1, a.eval p.2)) = some us' := by
      unfold Program.built
      rw [hit]
      cases ha : arrT P ty with
      | some nz =>
        obtain ⟨m, zz⟩ := nz
        obtain ⟨e, hu, he, h0⟩ := arrT_some ha
        obtain ⟨ie, hie, hs⟩ := info_of_cells he h0
        simp only [placeOf, ha] at hu'
        simp only [hu, hz0, hie, hs]
        exact hu'
      | none =>
        cases hr : recT P ty with
        | none => simp [ha, hr] at hp
        | some l =>
          obtain ⟨fs, hu, hpos, rfl⟩ := recT_some hr
          simp only [placeOf, ha, hr] at hu'
          simp only [hu, hz0, mapM_places fs.toList hpos]
          have e : (fun i : Nat => (fs.toList.map fun f => (f.offset, P.cellsOf f.type)).toArray[i]?) = fun i : Nat => (fs.toList.map fun f => (f.offset, P.cellsOf f.type))[i]? := by
            funext i; simp
          rw [e]; exact hu'
    unfold execOp
    rw [ho]
    have := run_build C.w ty (ps.map fun p => (p.1, a.eval p.2)) us' (by simpa using hb)
    simp only [Sem.run_bind, this, Result.andThen_ok]
    rfl

/-- The cells of a slice's elements, one behind the other: all at zero. -/
def zeros : Nat → List AV → List AV
  | 0, _ => []
  | k + 1, z => z ++ zeros k z
/-- A row cut into elements of z cells. -/
def chunk (z : Nat) : Nat → List AV → List (List AV)
  | 0, _ => []
  | k + 1, cs => cs.take z :: chunk z k (cs.drop z)
theorem length_zeros (z : List AV) : ∀ k, (zeros k z).length = k * z.length
  | 0 => by simp [zeros]
  | k + 1 => by simp only [zeros, List.length_append, length_zeros z k, Nat.succ_mul]; omega
theorem zeros_get (z : List AV) (hz : 0 < z.length) : ∀ k i, i < k * z.length → (zeros k z)[i]? = z[i % z.length]?
  | 0, i, h => by simp at h
  | k + 1, i, h => by
    simp only [zeros]
    by_cases hi : i < z.length
    · rw [List.getElem?_append_left hi, Nat.mod_eq_of_lt hi]
    · rw [List.getElem?_append_right (by omega), zeros_get z hz k (i - z.length) (by rw [Nat.succ_mul] at h; omega)]
      congr 1
      rw [← Nat.mod_eq_sub_mod (by omega)]
theorem chunk_length (z : Nat) : ∀ k cs, (chunk z k cs).length = k
  | 0, _ => rfl
  | k + 1, cs => by simp [chunk, chunk_length z k]
theorem chunk_get (z : Nat) : ∀ k cs j e, (chunk z k cs)[j]? = some e → j < k ∧ e = (cs.drop (j * z)).take z
  | 0, _, j, e, h => by simp [chunk] at h
  | k + 1, cs, 0, e, h => by simp [chunk] at h; simp [h]
  | k + 1, cs, j + 1, e, h => by
    simp only [chunk, List.getElem?_cons_succ] at h
    obtain ⟨h1, h2⟩ := chunk_get z k _ j e h
    refine ⟨by omega, ?_⟩
    rw [h2, List.drop_drop, Nat.succ_mul, Nat.add_comm z]

theorem zeroRow {zc : List AV} {z : Value} {len : Nat} {C : Ctx} (h : zc = z.cells.toList.map AV.sc) (h0 : 0 < zc.length) : ConcL C (zeros len zc) ((Array.range (len * zc.length)).map (z.cells[· % z.cells.size]!)).toList := by
  have hzl : z.cells.size = zc.length := by rw [h]; simp
  refine ConcL.mk (by simp [length_zeros]) fun i c u h1 h2 => ?_
  have hi : i < len * zc.length := by rw [← length_zeros]; exact (List.getElem?_eq_some_iff.1 h1).1
  rw [zeros_get zc h0 len i hi] at h1
  simp [hi] at h2
  have hm : i % zc.length < z.cells.size := by rw [hzl]; exact Nat.mod_lt _ h0
  rw [h, List.getElem?_map] at h1
  have hg : z.cells.toList[i % zc.length]? = some (z.cells[i % zc.length]) := by simp [hm]
  rw [← h, hg] at h1
  simp only [Option.map_some, Option.some.injEq] at h1
  rw [← h1, ← h2]
  simp only [Conc]
  rw [hzl]
  simp [hm]
end

def nilB : BinOp → Bool → Option AV
  | .eql, b => some (.sc (.bool b))
  | .neq, b => some (.sc (.bool (!b)))
  | _, _ => none
/-- A slice against nil. -/
def nilR (P : Program) (h : Hp) (op : BinOp) (ty : TypeId) (x y : AV) : Option AV :=
  match y with
  | .sc (.slice none 0 0) => match slT P ty with
    | some _ => match x with
      | .sl m _ _ _ _ => if (hget h m).isSome = true then nilB op false else none
      | .ro _ (_ :: _) _ => nilB op false
      | .sc (.slice none 0 0) => nilB op true
      | _ => none
    | none => none
  | _ => none
def binRh (P : Program) (h : Hp) (op : BinOp) (ty : TypeId) (x y : AV) : Option AV :=
  match binR P op ty x y with
  | some v => some v
  | none => nilR P h op ty x y
theorem binRh_of {P : Program} {h : Hp} {op : BinOp} {ty : TypeId} {x y v : AV} (hv : binR P op ty x y = some v) : binRh P h op ty x y = some v := by
  unfold binRh; rw [hv]
theorem Y_nilOp {P : Program} {n : Nat} {t : Tp} {h : Hp} {op : BinOp} {ty ty' : TypeId} {x y : Operand} {v : AV} (hv : nilR P h op ty (ev t x) (ev t y) = some v) : Yields P n (.binOp op ty x y ty') t h v [] :=
  Yields.pure fun C a o ho hh ht => by
    have h1 := ev_conc ht x
    have h2 := ev_conc ht y
    revert h1 h2 hv
    generalize ev t x = X
    generalize ev t y = Y
    intro hv h1 h2
    unfold nilR at hv
    split at hv
    · simp only [Conc] at h2
      split at hv
      · rename_i p hs
        obtain ⟨e, z⟩ := p
        obtain ⟨hu, _, _⟩ := slT_some hs
        have fin : ∀ (A : Option Addr) (l c : Nat) (b : Bool), a.eval x = .slice A l c → A.isNone = b → nilB op b = some v → ∃ u, (execOp a.eval o).run P C.w = .ok (.value u) C.w ∧ Conc C v u := by
          intro A l c b hA hb hn
          have e1 : (eqGuard op ty x y (a.eval x) (a.eval y)).run P C.w = .ok () C.w := by rw [hA]; exact run_eqGuard_int _ _ _ _ _ _ (by simp) (by simp) _
          unfold nilB at hn
          split at hn
          · cases hn
            refine ⟨.bool b, ?_, by simp only [Conc]⟩
            unfold execOp
            rw [ho]
            simp only [Sem.run_bind, e1, Result.andThen_ok]
            rw [hA, h2, Go.run_eql_slice_nil _ _ e _ _ _ hu, hb]
            rfl
          · cases hn
            refine ⟨.bool (!b), ?_, by simp only [Conc]⟩
            unfold execOp
            rw [ho]
            simp only [Sem.run_bind, e1, Result.andThen_ok]
            rw [hA, h2, Go.run_neq_slice_nil _ _ e _ _ _ hu, hb]
            rfl
          · cases hn
        split at hv
        · rename_i m z' off len own
          split at hv
          · rename_i hm
            simp only [Conc] at h1
            obtain ⟨cap, o', hx, _⟩ := h1.2.2 ((hh.live m).2 hm)
            exact fin _ _ _ false hx rfl hv
          · cases hv
        · rename_i z' e0 es full
          simp only [Conc] at h1
          obtain ⟨A, cap, hx, _, _, hne⟩ := h1
          obtain ⟨a', rfl, _⟩ := hne (by simp)
          exact fin _ _ _ false hx rfl hv
        · simp only [Conc] at h1
          exact fin _ _ _ true h1 rfl hv
        · cases hv
      · cases hv
    · cases hv
theorem Y_binOpH {P : Program} {n : Nat} {t : Tp} {h : Hp} {op : BinOp} {ty ty' : TypeId} {x y : Operand} {v : AV} (hv : binRh P h op ty (ev t x) (ev t y) = some v) : Yields P n (.binOp op ty x y ty') t h v [] := by
  unfold binRh at hv
  split at hv
  · rename_i w hw; cases hv; exact Y_binOp hw
  · exact Y_nilOp hv
end Go.Proofs.Aw
