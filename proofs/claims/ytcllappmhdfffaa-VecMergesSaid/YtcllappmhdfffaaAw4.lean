/- The abstract logic, part 4: addresses, fields, indexes, slices. -/
import Derived.Test.YtcllappmhdfffaaAw3
namespace Go.Proofs.Aw
open Go

section
variable {P : Program} {n : Nat} {t : Tp} {h : Hp}

theorem run_asIntOf (k : IntKind) (i : Int) (w : World) : (asIntOf (.int k i)).run P w = .ok (k, i) w := rfl

/-! ### indexAddr -/
theorem run_indexAt_arr {ty e : TypeId} {len : Nat} (hu : P.underlying ty = some (.array len e)) (he : 0 < P.cellsOf e) (a : Addr) (k : IntKind) (i : Int) (h0 : 0 ≤ i) (h1 : i < len) (w : World) :
    (Instr.indexAt ty (.pointer (some a)) (.int k i)).run P w = .ok (.pointer (some (a.add (i.toNat * P.cellsOf e)))) w := by
  unfold Instr.indexAt
  simp only [Sem.run_bind, run_asIntOf, Result.andThen_ok, run_underlying hu, Instr.sureAddr, Sem.run_pure, run_size he, h0, h1, and_self, if_true]
theorem run_indexAt_sl {ty e : TypeId} {len cap : Nat} (hu : P.underlying ty = some (.slice e)) (he : 0 < P.cellsOf e) (a : Addr) (k : IntKind) (i : Int) (h0 : 0 ≤ i) (h1 : i < len) (w : World) :
    (Instr.indexAt ty (.slice (some a) len cap) (.int k i)).run P w = .ok (.pointer (some (a.add (i.toNat * P.cellsOf e)))) w := by
  unfold Instr.indexAt
  simp only [Sem.run_bind, run_asIntOf, Result.andThen_ok, run_underlying hu, Sem.run_pure, run_size he, h0, h1, and_self, if_true]

theorem Y_indexAddr_arr {ty e : TypeId} {len : Nat} {x i : Operand} {m : Nm} {off : Nat} {k : IntKind} {j : Int} (hu : P.underlying ty = some (.array len e)) (he : 0 < P.cellsOf e) (hx : ev t x = .ptr m off) (hi : ev t i = .sc (.int k j))
    (hm : (hget h m).isSome = true) (h0 : 0 ≤ j) (h1 : j < len) : Yields P n (.indexAddr ty x i) t h (.ptr m (off + j.toNat * P.cellsOf e)) [] :=
  Yields.pure fun C a o ho hh ht => by
    have hp := ev_conc ht x
    have hq := ev_conc ht i
    rw [hx] at hp
    rw [hi] at hq
    simp only [Conc] at hp hq
    have h2 := hp.2.2 ((hh.live m).2 hm)
    refine ⟨.pointer (some ⟨C.ρ m, off + j.toNat * P.cellsOf e, none⟩), ?_, ?_⟩
    · unfold execOp
      rw [ho]
      simp only [h2, hq, Sem.run_bind, run_indexAt_arr hu he _ k j h0 h1, Result.andThen_ok, add_mk]
      rfl
    · simp only [Conc]
      exact ⟨⟨_, rfl⟩, hp.2.1, fun _ => trivial⟩
theorem Y_indexAddr_arr_ip {ty e : TypeId} {len : Nat} {x i : Operand} {cs : List AV} {off : Nat} {k : IntKind} {j : Int} (hu : P.underlying ty = some (.array len e)) (he : 0 < P.cellsOf e) (hx : ev t x = .ip cs off) (hi : ev t i = .sc (.int k j))
    (h0 : 0 ≤ j) (h1 : j < len) : Yields P n (.indexAddr ty x i) t h (.ip cs (off + j.toNat * P.cellsOf e)) [] :=
  Yields.pure fun C a o ho hh ht => by
    have hp := ev_conc ht x
    have hq := ev_conc ht i
    rw [hx] at hp
    rw [hi] at hq
    simp only [Conc] at hp hq
    obtain ⟨ad, h2, hb, hm, hc⟩ := hp
    refine ⟨.pointer (some (ad.add (off + j.toNat * P.cellsOf e))), ?_, ?_⟩
    · unfold execOp
      rw [ho]
      simp only [h2, hq, Sem.run_bind, run_indexAt_arr hu he _ k j h0 h1, Result.andThen_ok, add_add]
      rfl
    · simp only [Conc]
      exact ⟨ad, rfl, hb, hm, hc⟩
theorem Y_indexAddr_sl {ty e : TypeId} {len z : Nat} {own : Bool} {x i : Operand} {m : Nm} {off : Nat} {k : IntKind} {j : Int} (hu : P.underlying ty = some (.slice e)) (he : 0 < z) (hz : P.cellsOf e = z) (hx : ev t x = .sl m z off len own)
    (hi : ev t i = .sc (.int k j)) (hm : (hget h m).isSome = true) (h0 : 0 ≤ j) (h1 : j < len) : Yields P n (.indexAddr ty x i) t h (.ptr m (off + j.toNat * z)) [] :=
  Yields.pure fun C a o ho hh ht => by
    have hp := ev_conc ht x
    have hq := ev_conc ht i
    rw [hx] at hp
    rw [hi] at hq
    simp only [Conc] at hp hq
    obtain ⟨cap, of, h2, hle, hof, _⟩ := hp.2.2 ((hh.live m).2 hm)
    have hof' : of = off := by
      rcases hof with h3 | h3
      · exact h3
      · omega
    subst hof'
    refine ⟨.pointer (some ⟨C.ρ m, of + j.toNat * z, none⟩), ?_, ?_⟩
    · unfold execOp
      rw [ho]
      simp only [h2, hq, Sem.run_bind, run_indexAt_sl hu (by omega) _ k j h0 h1, Result.andThen_ok, add_mk, hz]
      rfl
    · simp only [Conc]
      exact ⟨⟨_, rfl⟩, hp.2.1, fun _ => trivial⟩
theorem Y_indexAddr_ro {ty e : TypeId} {z : Nat} {full : Bool} {es : List (List AV)} {x i : Operand} {k : IntKind} {j : Int} {el : List AV} (hu : P.underlying ty = some (.slice e)) (he : 0 < z) (hz : P.cellsOf e = z) (hx : ev t x = .ro z es full)
    (hi : ev t i = .sc (.int k j)) (h0 : 0 ≤ j) (h1 : es[j.toNat]? = some el) : Yields P n (.indexAddr ty x i) t h (.ip el 0) [] :=
  Yields.pure fun C a o ho hh ht => by
    have hp := ev_conc ht x
    have hq := ev_conc ht i
    rw [hx] at hp
    rw [hi] at hq
    simp only [Conc] at hp hq
    obtain ⟨A, cap, h2, hle, _, hne⟩ := hp
    have hlt : j.toNat < es.length := (List.getElem?_eq_some_iff.1 h1).1
    obtain ⟨ad, rfl, hb, hm, hc⟩ := hne (by intro e; rw [e] at hlt; simp at hlt)
    obtain ⟨_, hM⟩ := hc.get j.toNat el h1
    rw [Nat.zero_add] at hM
    have hj : j < es.length := by omega
    have he' : 0 < P.cellsOf e := by omega
    refine ⟨.pointer (some (ad.add (j.toNat * z))), ?_, ?_⟩
    · unfold execOp
      rw [ho]
      simp only [h2, hq, Sem.run_bind, run_indexAt_sl hu he' _ k j h0 hj, Result.andThen_ok, hz]
      rfl
    · simp only [Conc]
      exact ⟨ad.add (j.toNat * z), by simp [Addr.add], by rw [block_add]; exact hb, by rw [block_add]; exact hm, hM⟩

/-! ### fieldAddr, nilCheck -/
def fieldOff (P : Program) (ty : TypeId) (f : Nat) : Option Nat := match P.underlying ty with | some (.struct fs) => (fs[f]?).bind fun fl => if 0 < P.cellsOf fl.type then some fl.offset else none | _ => none
theorem run_fieldAt {ty : TypeId} {f o : Nat} (hf : fieldOff P ty f = some o) (a : Addr) (w : World) : (Instr.fieldAt ty (.pointer (some a)) f).run P w = .ok (.pointer (some (a.add o))) w := by
  unfold fieldOff at hf
  unfold Instr.fieldAt
  cases hu : P.underlying ty with
  | none => rw [hu] at hf; cases hf
  | some d =>
    rw [hu] at hf
    cases d <;> simp only [reduceCtorEq] at hf
    obtain ⟨fl, hfl, hf⟩ := Option.bind_eq_some_iff.1 hf
    by_cases hsz : 0 < P.cellsOf fl.type
    case neg => rw [if_neg hsz] at hf; cases hf
    rw [if_pos hsz] at hf
    cases hf
    unfold fieldPlace
    simp only [Sem.run_bind, run_underlying hu, Result.andThen_ok, hfl, Instr.sureAddr, Sem.run_pure, run_size hsz, Nat.ne_of_gt hsz, if_false]
theorem Y_fieldAddr {ty : TypeId} {x : Operand} {f o : Nat} {m : Nm} {off : Nat} (hf : fieldOff P ty f = some o) (hx : ev t x = .ptr m off) (hm : (hget h m).isSome = true) : Yields P n (.fieldAddr ty x f) t h (.ptr m (off + o)) [] :=
  Yields.pure fun C a op ho hh ht => by
    have hp := ev_conc ht x
    rw [hx] at hp
    simp only [Conc] at hp
    have h2 := hp.2.2 ((hh.live m).2 hm)
    refine ⟨.pointer (some ⟨C.ρ m, off + o, none⟩), ?_, ?_⟩
    · unfold execOp
      rw [ho]
      simp only [h2, Sem.run_bind, run_fieldAt hf, Result.andThen_ok, add_mk]
      rfl
    · simp only [Conc]
      exact ⟨⟨_, rfl⟩, hp.2.1, fun _ => trivial⟩
theorem Y_fieldAddr_ip {ty : TypeId} {x : Operand} {f o : Nat} {cs : List AV} {off : Nat} (hf : fieldOff P ty f = some o) (hx : ev t x = .ip cs off) : Yields P n (.fieldAddr ty x f) t h (.ip cs (off + o)) [] :=
  Yields.pure fun C a op ho hh ht => by
    have hp := ev_conc ht x
    rw [hx] at hp
    simp only [Conc] at hp
    obtain ⟨ad, h2, hb, hm, hc⟩ := hp
    refine ⟨.pointer (some (ad.add (off + o))), ?_, ?_⟩
    · unfold execOp
      rw [ho]
      simp only [h2, Sem.run_bind, run_fieldAt hf, Result.andThen_ok, add_add]
      rfl
    · simp only [Conc]
      exact ⟨ad, rfl, hb, hm, hc⟩
theorem Y_nilCheck_ptr {x : Operand} {m : Nm} {off : Nat} (hx : ev t x = .ptr m off) (hm : (hget h m).isSome = true) : Yields P n (.nilCheck x) t h (.ptr m off) [] :=
  Yields.pure fun C a op ho hh ht => by
    have hp := ev_conc ht x
    rw [hx] at hp
    have h2 : a.eval x = .pointer (some ⟨C.ρ m, off, none⟩) := by
      simp only [Conc] at hp
      exact hp.2.2 ((hh.live m).2 hm)
    refine ⟨_, ?_, hp⟩
    unfold execOp
    rw [ho]
    simp only [h2]
    rfl
theorem Y_nilCheck_ip {x : Operand} {cs : List AV} {off : Nat} (hx : ev t x = .ip cs off) : Yields P n (.nilCheck x) t h (.ip cs off) [] :=
  Yields.pure fun C a op ho hh ht => by
    have hp := ev_conc ht x
    rw [hx] at hp
    have hp' := hp
    simp only [Conc] at hp'
    obtain ⟨ad, h2, _⟩ := hp'
    refine ⟨_, ?_, hp⟩
    unfold execOp
    rw [ho]
    simp only [h2]
    rfl
theorem Y_nilCheck_fn {x : Operand} {f : FuncId} {xs ys : List AV} (hx : ev t x = .fn (.func f) xs ys) : Yields P n (.nilCheck x) t h (.fn (.func f) xs ys) [] :=
  Yields.pure fun C a op ho hh ht => by
    have hp := ev_conc ht x
    rw [hx] at hp
    have hp' := hp
    simp only [Conc] at hp'
    obtain ⟨us, vs, h2, _⟩ := hp'
    refine ⟨_, ?_, hp⟩
    unfold execOp
    rw [ho]
    simp only [h2]
    rfl

/-! ### field, index, extract, makeFunc -/
theorem run_part {ty : TypeId} {agg : Bool} (hb : aggT P ty = some agg) {C : Ctx} {cs : List AV} {us : Array Value} (hL : ConcL C cs us.toList) {off : Nat} {v : AV} (hr : Rd agg (P.cellsOf ty) cs off v) : ∃ u, (part ty us off).run P C.w = .ok u C.w ∧ Conc C v u := by
  unfold part
  rcases hr with ⟨rfl, h0, hlen, rfl⟩ | ⟨rfl, hv⟩
  · refine ⟨.agg (us.extract off (off + P.cellsOf ty)), ?_, ?_⟩
    · simp only [Sem.run_bind, run_isAgg hb, Result.andThen_ok, if_true, run_size h0]
      rfl
    · simp only [Conc]
      refine ⟨_, rfl, ?_⟩
      have := (hL.drop off).take (P.cellsOf ty)
      have e : (us.extract off (off + P.cellsOf ty)).toList = (us.toList.drop off).take (P.cellsOf ty) := by
        rw [Array.toList_extract, List.extract_eq_take_drop]
        simp
      rw [e]; exact this
  · obtain ⟨u, hu, hc⟩ := hL.get off v hv
    refine ⟨u, ?_, hc⟩
    have hu' : us[off]? = some u := by simpa using hu
    simp only [Sem.run_bind, run_isAgg hb, Result.andThen_ok, Bool.false_eq_true, if_false, hu']
    rfl
/-- A field of a struct that is a value. -/
theorem Y_field {ty : TypeId} {x : Operand} {f : Nat} {fs : Array Field} {fl : Field} {cs : List AV} {agg : Bool} {v : AV} (hu : P.underlying ty = some (.struct fs)) (hf : fs[f]? = some fl) (hx : ev t x = .agg cs) (hb : aggT P fl.type = some agg)
    (hr : Rd agg (P.cellsOf fl.type) cs fl.offset v) : Yields P n (.field ty x f) t h v [] :=
  Yields.pure fun C a op ho hh ht => by
    have hp := ev_conc ht x
    rw [hx] at hp
    simp only [Conc] at hp
    obtain ⟨us, h2, hL⟩ := hp
    obtain ⟨u, hu', hc⟩ := run_part hb hL hr
    refine ⟨u, ?_, hc⟩
    unfold execOp
    rw [ho]
    simp only [h2, Instr.field, Sem.run_bind, run_underlying hu, Result.andThen_ok, hf, asAgg, Sem.run_pure, hu']
theorem Y_index_arr {ty e : TypeId} {len : Nat} {x i : Operand} {k : IntKind} {j : Int} {cs : List AV} {agg : Bool} {v : AV} (hu : P.underlying ty = some (.array len e)) (he : 0 < P.cellsOf e) (hx : ev t x = .agg cs) (hi : ev t i = .sc (.int k j))
    (h0 : 0 ≤ j) (h1 : j < len) (hb : aggT P e = some agg) (hr : Rd agg (P.cellsOf e) cs (j.toNat * P.cellsOf e) v) : Yields P n (.index ty x i) t h v [] :=
  Yields.pure fun C a op ho hh ht => by
    have hp := ev_conc ht x
    have hq := ev_conc ht i
    rw [hx] at hp
    rw [hi] at hq
    simp only [Conc] at hp hq
    obtain ⟨us, h2, hL⟩ := hp
    obtain ⟨u, hu', hc⟩ := run_part hb hL hr
    refine ⟨u, ?_, hc⟩
    unfold execOp
    rw [ho]
    simp only [h2, hq, Instr.index, Sem.run_bind, run_asIntOf, run_underlying hu, Result.andThen_ok, h0, h1, and_self, if_true, run_size he, Sem.run_pure, hu']
theorem Y_extract {x : Operand} {i : Nat} {vs : List AV} {v : AV} (hx : ev t x = .tup vs) (hv : vs[i]? = some v) : Yields P n (.extract x i) t h v [] :=
  Yields.pure fun C a op ho hh ht => by
    have hp := ev_conc ht x
    rw [hx] at hp
    simp only [Conc] at hp
    obtain ⟨us, h2, hL⟩ := hp
    obtain ⟨u, hu, hc⟩ := hL.get i v hv
    have hu' : us[i]? = some u := by simpa using hu
    refine ⟨u, ?_, hc⟩
    unfold execOp
    rw [ho]
    simp only [h2, Instr.extract, hu']
    rfl
theorem ConcL.evs {C : Ctx} {a : Act} (ht : TOk C t a) : ∀ (xs : List Operand), ConcL C (xs.map (ev t)) (xs.map a.eval)
  | [] => by simp only [List.map_nil, ConcL]
  | x :: xs => by
    simp only [List.map_cons, ConcL]
    exact ⟨_, _, rfl, ev_conc ht x, ConcL.evs ht xs⟩
theorem Y_makeFunc {f : Fn} {xs ys : Array Operand} : Yields P n (.makeFunc f xs ys) t h (.fn f (xs.toList.map (ev t)) (ys.toList.map (ev t))) [] :=
  Yields.pure fun C a op ho hh ht => by
    refine ⟨.func f (xs.map a.eval) (ys.map a.eval), ?_, ?_⟩
    · unfold execOp
      rw [ho]
      rfl
    · simp only [Conc]
      exact ⟨_, _, rfl, by simpa using ConcL.evs ht xs.toList, by simpa using ConcL.evs ht ys.toList⟩

/-! ### Slices -/
/-- A bound of a slice expression. -/
def Bnd (d : Nat) (x : Option AV) (l : Nat) : Prop := (x = none ∧ l = d) ∨ ∃ k i, x = some (.sc (.int k i)) ∧ 0 ≤ i ∧ l = i.toNat
theorem Bnd.val {C : Ctx} {a : Act} (ht : TOk C t a) {d l : Nat} {x : Option Operand} (hb : Bnd d (x.map (ev t)) l) : (x.map a.eval = none ∧ l = d) ∨ ∃ k i, x.map a.eval = some (.int k i) ∧ 0 ≤ i ∧ l = i.toNat := by
  cases x with
  | none => rcases hb with ⟨_, h2⟩ | ⟨k, i, h1, _⟩
            · exact .inl ⟨rfl, h2⟩
            · cases h1
  | some x =>
    rcases hb with ⟨h1, _⟩ | ⟨k, i, h1, h2, h3⟩
    · cases h1
    · simp only [Option.map_some, Option.some.injEq] at h1
      have := ev_conc ht x
      rw [h1] at this
      simp only [Conc] at this
      exact .inr ⟨k, i, by simp [this], h2, h3⟩
theorem run_sliceBound (k : IntKind) (i : Int) (y : Nat) (code : BoundsCode) (h0 : 0 ≤ i) (h1 : i.toNat ≤ y) (w : World) : (Instr.sliceBound (.int k i) y code).run P w = .ok i.toNat w := by
  unfold Instr.sliceBound
  have : i ≤ (y : Int) := by omega
  simp only [Sem.run_bind, run_asIntOf, Result.andThen_ok, h0, this, and_self, if_true, Sem.run_pure]
theorem run_sliceBounds (isS : Bool) (len cap l hh : Nat) (lo hi : Option Value) (hlo : (lo = none ∧ l = 0) ∨ ∃ k i, lo = some (.int k i) ∧ 0 ≤ i ∧ l = i.toNat) (hhi : (hi = none ∧ hh = len) ∨ ∃ k i, hi = some (.int k i) ∧ 0 ≤ i ∧ hh = i.toNat)
    (h1 : l ≤ hh) (h2 : hh ≤ cap) (w : World) : (Instr.sliceBounds isS len cap lo hi none).run P w = .ok (l, hh, cap) w := by
  unfold Instr.sliceBounds
  rcases hhi with ⟨rfl, rfl⟩ | ⟨k, i, rfl, hi0, rfl⟩ <;> rcases hlo with ⟨rfl, rfl⟩ | ⟨k', i', rfl, hi0', rfl⟩
  · simp only [Sem.run_bind, Sem.run_pure, Result.andThen_ok]
  · simp only [Sem.run_bind, Sem.run_pure, Result.andThen_ok, run_sliceBound k' i' _ _ hi0' h1]
  · simp only [Sem.run_bind, Sem.run_pure, Result.andThen_ok, run_sliceBound k i _ _ hi0 h2]
  · simp only [Sem.run_bind, Sem.run_pure, Result.andThen_ok, run_sliceBound k i _ _ hi0 h2, run_sliceBound k' i' _ _ hi0' h1]
theorem run_sliceBounds3 (isS : Bool) (len cap l hh m : Nat) (lo hi mx : Option Value) (hlo : (lo = none ∧ l = 0) ∨ ∃ k i, lo = some (.int k i) ∧ 0 ≤ i ∧ l = i.toNat) (hhi : ∃ k i, hi = some (.int k i) ∧ 0 ≤ i ∧ hh = i.toNat)
    (hmx : ∃ k i, mx = some (.int k i) ∧ 0 ≤ i ∧ m = i.toNat) (h1 : l ≤ hh) (h2 : hh ≤ m) (h3 : m ≤ cap) (w : World) : (Instr.sliceBounds isS len cap lo hi mx).run P w = .ok (l, hh, m) w := by
  unfold Instr.sliceBounds
  obtain ⟨k, i, rfl, hi0, rfl⟩ := hhi
  obtain ⟨k1, i1, rfl, hi1, rfl⟩ := hmx
  rcases hlo with ⟨rfl, rfl⟩ | ⟨k', i', rfl, hi0', rfl⟩
  · simp only [Sem.run_bind, Sem.run_pure, Result.andThen_ok, run_sliceBound k i _ _ hi0 h2, run_sliceBound k1 i1 _ _ hi1 h3]
  · simp only [Sem.run_bind, Sem.run_pure, Result.andThen_ok, run_sliceBound k i _ _ hi0 h2, run_sliceBound k1 i1 _ _ hi1 h3, run_sliceBound k' i' _ _ hi0' h1]

theorem ConcE.cut {C : Ctx} {a : Addr} {z : Nat} {es : List (List AV)} (hE : ConcE C a z 0 es) (l hh : Nat) : ConcE C (a.add (l * z)) z 0 ((es.take hh).drop l) :=
  ConcE.mk fun j e hj => by
    rw [List.getElem?_drop, List.getElem?_take] at hj
    split at hj
    · obtain ⟨h1, h2⟩ := hE.get (l + j) e hj
      refine ⟨h1, ?_⟩
      rw [add_add, Nat.zero_add, ← Nat.add_mul]
      simpa using h2
    · cases hj
theorem conc_cut {C : Ctx} {z : Nat} {es : List (List AV)} {A : Option Addr} {cap l hh m : Nat} {full : Bool} (h1 : l ≤ hh) (h2 : hh ≤ es.length) (hm : hh ≤ m) (hf : full = true → m = hh)
    (hne : es ≠ [] → ∃ a, A = some a ∧ a.block < C.w.heap.size ∧ ¬ C.mt a.block ∧ ConcE C a z 0 es) (hcap : cap = m - l) (A' : Option Addr) (hA : A' = if m = l then A else A.map (·.add (l * z))) :
    Conc C (.ro z ((es.take hh).drop l) full) (.slice A' (hh - l) cap) := by
  have hlen : ((es.take hh).drop l).length = hh - l := by simp [Nat.min_eq_left h2]
  simp only [Conc]
  refine ⟨A', cap, by rw [hlen], by rw [hlen]; omega, fun hfu => by rw [hlen, hcap, hf hfu], fun hn => ?_⟩
  have hlt : l < hh := by
    rcases Nat.lt_or_ge l hh with h3 | h3
    · exact h3
    · exfalso; apply hn; apply List.length_eq_zero_iff.1; rw [hlen]; omega
  obtain ⟨a, rfl, hb, hm', hE⟩ := hne (by intro e; rw [e] at h2; simp at h2; omega)
  refine ⟨a.add (l * z), by rw [hA, if_neg (by omega)]; rfl, by rw [block_add]; exact hb, by rw [block_add]; exact hm', hE.cut l hh⟩

theorem run_slice_sl {ty e : TypeId} (hu : P.underlying ty = some (.slice e)) {z : Nat} (hz : P.cellsOf e = z) (h0 : 0 < z) (A : Option Addr) (len cap l hh m : Nat) (lo hi mx : Option Value)
    (hb : ∀ w, (Instr.sliceBounds true len cap lo hi mx).run P w = .ok (l, hh, m) w) (w : World) :
    (Instr.sliceAt ty (.slice A len cap) lo hi mx).run P w = .ok (.slice (if m = l then A else A.map (·.add (l * z))) (hh - l) (m - l)) w := by
  unfold Instr.sliceAt
  simp only [Sem.run_bind, run_underlying hu, Result.andThen_ok, Instr.slice, hb, run_size (show 0 < P.cellsOf e by omega), hz, Sem.run_pure]

theorem Y_slice_ro {ty e : TypeId} {x : Operand} {lo hi : Option Operand} {z l hh : Nat} {es : List (List AV)} {full : Bool} (hu : P.underlying ty = some (.slice e)) (hz : P.cellsOf e = z) (h0 : 0 < z) (hx : ev t x = .ro z es full)
    (hlo : Bnd 0 (lo.map (ev t)) l) (hhi : Bnd es.length (hi.map (ev t)) hh) (h1 : l ≤ hh) (h2 : hh ≤ es.length) : Yields P n (.slice ty x lo hi none) t h (.ro z ((es.take hh).drop l) (full && hh == es.length)) [] :=
  Yields.pure fun C a op ho hok ht => by
    have hp := ev_conc ht x
    rw [hx] at hp
    simp only [Conc] at hp
    obtain ⟨A, cap, hv, hle, hf, hne⟩ := hp
    refine ⟨_, ?_, conc_cut (m := cap) h1 h2 (by omega) (fun hfu => ?_) hne rfl _ rfl⟩
    · unfold execOp
      rw [ho]
      simp only [hv, Option.map_none, Sem.run_bind, run_slice_sl hu hz h0 A _ cap l hh cap _ _ _ (run_sliceBounds true es.length cap l hh _ _ (hlo.val ht) (hhi.val ht) h1 (by omega)), Result.andThen_ok]
      rfl
    · simp only [Bool.and_eq_true, beq_iff_eq] at hfu
      rw [hf hfu.1, hfu.2]
theorem Y_slice_ro3 {ty e : TypeId} {x mx hi : Operand} {lo : Option Operand} {z l hh m : Nat} {es : List (List AV)} {full : Bool} (hu : P.underlying ty = some (.slice e)) (hz : P.cellsOf e = z) (h0 : 0 < z) (hx : ev t x = .ro z es full)
    (hlo : Bnd 0 (lo.map (ev t)) l) (hhi : Bnd 0 ((some hi).map (ev t)) hh) (hmx : Bnd 0 ((some mx).map (ev t)) m) (h1 : l ≤ hh) (h2 : hh ≤ m) (h3 : m ≤ es.length) : Yields P n (.slice ty x lo (some hi) (some mx)) t h (.ro z ((es.take hh).drop l) (m == hh)) [] :=
  Yields.pure fun C a op ho hok ht => by
    have hp := ev_conc ht x
    rw [hx] at hp
    simp only [Conc] at hp
    obtain ⟨A, cap, hv, hle, hf, hne⟩ := hp
    have b1 : ∃ k i, (some hi).map a.eval = some (.int k i) ∧ 0 ≤ i ∧ hh = i.toNat := by
      rcases hhi.val ht with ⟨h, _⟩ | h
      · cases h
      · exact h
    have b2 : ∃ k i, (some mx).map a.eval = some (.int k i) ∧ 0 ≤ i ∧ m = i.toNat := by
      rcases hmx.val ht with ⟨h, _⟩ | h
      · cases h
      · exact h
    refine ⟨_, ?_, conc_cut (m := m) h1 (by omega) h2 (fun hfu => by simpa using hfu) hne rfl _ rfl⟩
    unfold execOp
    rw [ho]
    simp only [hv, Sem.run_bind, run_slice_sl hu hz h0 A _ cap l hh m _ _ _ (run_sliceBounds3 true es.length cap l hh m _ _ _ (hlo.val ht) b1 b2 h1 h2 (by omega)), Result.andThen_ok]
    rfl
theorem Y_slice_e3 {ty e : TypeId} {x mx hi : Operand} {lo : Option Operand} {z l off len : Nat} {own : Bool} {mm : Nm} (hu : P.underlying ty = some (.slice e)) (hz : P.cellsOf e = z) (h0 : 0 < z) (hx : ev t x = .sl mm z off len own) (hm : (hget h mm).isSome = true)
    (hlo : Bnd 0 (lo.map (ev t)) l) (hhi : Bnd 0 ((some hi).map (ev t)) l) (hmx : Bnd 0 ((some mx).map (ev t)) l) (h3 : l ≤ len) : Yields P n (.slice ty x lo (some hi) (some mx)) t h (.ro z [] true) [] :=
  Yields.pure fun C a op ho hok ht => by
    have hp := ev_conc ht x
    rw [hx] at hp
    simp only [Conc] at hp
    obtain ⟨_, _, hp⟩ := hp
    obtain ⟨cap, o, hv, hle, _, _⟩ := hp ((hok.live mm).2 hm)
    have b1 : ∃ k i, (some hi).map a.eval = some (.int k i) ∧ 0 ≤ i ∧ l = i.toNat := by
      rcases hhi.val ht with ⟨h, _⟩ | h
      · cases h
      · exact h
    have b2 : ∃ k i, (some mx).map a.eval = some (.int k i) ∧ 0 ≤ i ∧ l = i.toNat := by
      rcases hmx.val ht with ⟨h, _⟩ | h
      · cases h
      · exact h
    refine ⟨.slice (if l = l then some ⟨C.ρ mm, o, none⟩ else (some ⟨C.ρ mm, o, none⟩ : Option Addr).map (·.add (l * z))) (l - l) (l - l), ?_, ?_⟩
    · unfold execOp
      rw [ho]
      simp only [hv, Sem.run_bind, run_slice_sl hu hz h0 _ len cap l l l _ _ _ (run_sliceBounds3 true len cap l l l _ _ _ (hlo.val ht) b1 b2 (Nat.le_refl _) (Nat.le_refl _) (by omega)), Result.andThen_ok]
      rfl
    · simp only [Conc, Nat.sub_self]
      exact ⟨_, 0, rfl, Nat.le_refl _, fun _ => rfl, fun h => absurd rfl h⟩
theorem Y_slice_sl {ty e : TypeId} {x : Operand} {lo hi : Option Operand} {z l hh off len : Nat} {own : Bool} {m : Nm} (hu : P.underlying ty = some (.slice e)) (hz : P.cellsOf e = z) (h0 : 0 < z) (hx : ev t x = .sl m z off len own) (hm : (hget h m).isSome = true)
    (hlo : Bnd 0 (lo.map (ev t)) l) (hhi : Bnd len (hi.map (ev t)) hh) (h1 : l ≤ hh) (h2 : hh ≤ len) : Yields P n (.slice ty x lo hi none) t h (.sl m z (off + l * z) (hh - l) own) [] :=
  Yields.pure fun C a op ho hok ht => by
    have hp := ev_conc ht x
    rw [hx] at hp
    simp only [Conc] at hp
    obtain ⟨_, hk, hp⟩ := hp
    obtain ⟨cap, o, hv, hle, hof, hown⟩ := hp ((hok.live m).2 hm)
    refine ⟨.slice (if cap = l then some ⟨C.ρ m, o, none⟩ else some ⟨C.ρ m, o + l * z, none⟩) (hh - l) (cap - l), ?_, ?_⟩
    · unfold execOp
      rw [ho]
      simp only [hv, Option.map_none, Sem.run_bind, run_slice_sl hu hz h0 _ len cap l hh cap _ _ _ (run_sliceBounds true len cap l hh _ _ (hlo.val ht) (hhi.val ht) h1 (by omega)), Result.andThen_ok, Option.map_some, add_mk]
      rfl
    · simp only [Conc]
      refine ⟨⟨_, _, _, rfl⟩, hk, fun _ => ?_⟩
      by_cases hc : cap = l
      · refine ⟨cap - l, o, by rw [if_pos hc], by omega, .inr (by omega), fun ho' => ?_⟩
        obtain ⟨cs, ty', h4, h5⟩ := hown ho'
        refine ⟨cs, ty', h4, ?_⟩
        have e1 : cap - l = 0 := by omega
        rw [e1, Nat.zero_mul, Nat.add_zero, ← hc]
        exact h5
      · refine ⟨cap - l, o + l * z, by rw [if_neg hc], by omega, ?_, fun ho' => ?_⟩
        · rcases hof with h3 | h3
          · exact .inl (by rw [h3])
          · exact .inr (by omega)
        · obtain ⟨cs, ty', h4, h5⟩ := hown ho'
          refine ⟨cs, ty', h4, ?_⟩
          have e1 : l * z + (cap - l) * z = cap * z := by rw [← Nat.add_mul]; congr 1; omega
          omega
theorem run_slice_arr {ty e : TypeId} {len : Nat} (hu : P.underlying ty = some (.array len e)) {z : Nat} (hz : P.cellsOf e = z) (h0 : 0 < z) (a : Addr) (l hh m : Nat) (lo hi mx : Option Value)
    (hb : ∀ w, (Instr.sliceBounds false len len lo hi mx).run P w = .ok (l, hh, m) w) (w : World) :
    (Instr.sliceAt ty (.pointer (some a)) lo hi mx).run P w = .ok (.slice (some (if m = l then a else a.add (l * z))) (hh - l) (m - l)) w := by
  unfold Instr.sliceAt
  simp only [Sem.run_bind, run_underlying hu, Result.andThen_ok, Instr.sureAddr, hb, run_size (show 0 < P.cellsOf e by omega), hz, Sem.run_pure]
theorem Y_slice_arr {ty e : TypeId} {x : Operand} {lo hi : Option Operand} {z l hh off len : Nat} {m : Nm} (hu : P.underlying ty = some (.array len e)) (hz : P.cellsOf e = z) (h0 : 0 < z) (hx : ev t x = .ptr m off) (hm : (hget h m).isSome = true)
    (hlo : Bnd 0 (lo.map (ev t)) l) (hhi : Bnd len (hi.map (ev t)) hh) (h1 : l ≤ hh) (h2 : hh ≤ len) : Yields P n (.slice ty x lo hi none) t h (.sl m z (off + l * z) (hh - l) false) [] :=
  Yields.pure fun C a op ho hok ht => by
    have hp := ev_conc ht x
    rw [hx] at hp
    simp only [Conc] at hp
    obtain ⟨_, hk, hp⟩ := hp
    have hv := hp ((hok.live m).2 hm)
    refine ⟨.slice (some (if len = l then ⟨C.ρ m, off, none⟩ else ⟨C.ρ m, off + l * z, none⟩)) (hh - l) (len - l), ?_, ?_⟩
    · unfold execOp
      rw [ho]
      simp only [hv, Option.map_none, Sem.run_bind, run_slice_arr hu hz h0 _ l hh len _ _ _ (run_sliceBounds false len len l hh _ _ (hlo.val ht) (hhi.val ht) h1 h2), Result.andThen_ok, add_mk]
      rfl
    · simp only [Conc]
      refine ⟨⟨_, _, _, rfl⟩, hk, fun _ => ?_⟩
      by_cases hc : len = l
      · exact ⟨len - l, off, by rw [if_pos hc], by omega, .inr (by omega), fun ho' => by cases ho'⟩
      · exact ⟨len - l, off + l * z, by rw [if_neg hc], by omega, .inl rfl, fun ho' => by cases ho'⟩
theorem Y_slice_str {ty : TypeId} {x : Operand} {lo hi : Option Operand} {l hh : Nat} {s : ByteArray} (hu : P.underlying ty = some .string) (hx : ev t x = .sc (.string s))
    (hlo : Bnd 0 (lo.map (ev t)) l) (hhi : Bnd s.size (hi.map (ev t)) hh) (h1 : l ≤ hh) (h2 : hh ≤ s.size) : Yields P n (.slice ty x lo hi none) t h (.sc (.string (s.extract l hh))) [] :=
  Yields.pure fun C a op ho hok ht => by
    have hp := ev_conc ht x
    rw [hx] at hp
    simp only [Conc] at hp
    refine ⟨.string (s.extract l hh), ?_, by simp only [Conc]⟩
    unfold execOp
    rw [ho]
    simp only [hp, Option.map_none, Sem.run_bind, Instr.sliceAt, Instr.slice, run_underlying hu, Result.andThen_ok, Option.isSome_none, Bool.false_eq_true, if_false, Sem.run_pure, run_sliceBounds false s.size s.size l hh _ _ (hlo.val ht) (hhi.val ht) h1 h2]
end
end Go.Proofs.Aw
