/- The abstract logic, part 5: equality of plain structs and arrays, cell by cell. -/
import Derived.Test.YtcllappmhdfffaaAw4
namespace Go.Proofs.Aw
open Go

/-- The kinds of a plain type's cells: 0 a bool, 1 an integer, 2 a string. -/
def eqL : List Nat → List AV → List AV → Option Bool
  | [], [], [] => some true
  | k :: ks, a :: as, b :: bs =>
    match k, a, b with
    | 0, .sc (.bool x), .sc (.bool y) => (eqL ks as bs).map fun r => (x == y) && r
    | 1, .sc (.int i x), .sc (.int j y) => if i = j then (eqL ks as bs).map fun r => (x == y) && r else none
    | 2, .sc (.string x), .sc (.string y) => (eqL ks as bs).map fun r => (x.toList == y.toList) && r
    | _, _, _ => none
  | _, _, _ => none

/-- One cell of the kind. -/
def eq1 : Nat → AV → AV → Option Bool
  | 0, .sc (.bool x), .sc (.bool y) => some (x == y)
  | 1, .sc (.int i x), .sc (.int j y) => if i = j then some (x == y) else none
  | 2, .sc (.string x), .sc (.string y) => some (x.toList == y.toList)
  | _, _, _ => none
theorem eqL_cons {k : Nat} {ks : List Nat} {a b : AV} {as bs : List AV} {r : Bool} (h : eqL (k :: ks) (a :: as) (b :: bs) = some r) : ∃ x y, eq1 k a b = some x ∧ eqL ks as bs = some y ∧ r = (x && y) := by
  simp only [eqL] at h
  split at h
  · obtain ⟨y, hy, rfl⟩ := Option.map_eq_some_iff.1 h
    exact ⟨_, y, rfl, hy, rfl⟩
  · split at h
    · rename_i hij
      obtain ⟨y, hy, rfl⟩ := Option.map_eq_some_iff.1 h
      exact ⟨_, y, by simp only [eq1, hij, if_true], hy, rfl⟩
    · cases h
  · obtain ⟨y, hy, rfl⟩ := Option.map_eq_some_iff.1 h
    exact ⟨_, y, rfl, hy, rfl⟩
  · cases h
theorem eqL_length : ∀ {ks : List Nat} {xs ys : List AV} {r : Bool}, eqL ks xs ys = some r → xs.length = ks.length ∧ ys.length = ks.length
  | [], [], [], _, _ => ⟨rfl, rfl⟩
  | [], [], _ :: _, _, h => by simp [eqL] at h
  | [], _ :: _, _, _, h => by simp [eqL] at h
  | _ :: _, [], _, _, h => by simp [eqL] at h
  | _ :: _, _ :: _, [], _, h => by simp [eqL] at h
  | k :: ks, a :: as, b :: bs, r, h => by
    obtain ⟨x, y, _, h2, _⟩ := eqL_cons h
    have := eqL_length h2
    simp [this]
theorem eqL_append : ∀ {ks ls : List Nat} {xs ys : List AV} {r : Bool}, eqL (ks ++ ls) xs ys = some r →
    ∃ b1 b2, eqL ks (xs.take ks.length) (ys.take ks.length) = some b1 ∧ eqL ls (xs.drop ks.length) (ys.drop ks.length) = some b2 ∧ r = (b1 && b2)
  | [], ls, xs, ys, r, h => ⟨true, r, by simp [eqL], by simpa using h, by simp⟩
  | k :: ks, ls, [], ys, r, h => by simp [eqL] at h
  | k :: ks, ls, _ :: _, [], r, h => by simp [eqL] at h
  | k :: ks, ls, x :: xs, y :: ys, r, h => by
    simp only [List.cons_append] at h
    obtain ⟨c, s, h1, h2, rfl⟩ := eqL_cons h
    obtain ⟨b1, b2, e1, e2, rfl⟩ := eqL_append h2
    refine ⟨c && b1, b2, ?_, by simpa using e2, by rw [Bool.and_assoc]⟩
    simp only [List.length_cons, List.take_succ_cons, eqL]
    unfold eq1 at h1
    split at h1
    · cases h1; simp [e1]
    · split at h1
      · rename_i hij; cases h1; simp [e1, hij]
      · cases h1
    · cases h1; simp [e1]
    · cases h1

def leavesF (P : Program) (p : TypeId → Option (List Nat)) : Nat → List Field → Option (List Nat)
  | _, [] => some []
  | off, f :: fs =>
    if f.name ≠ "_" ∧ f.offset = off ∧ 0 < P.cellsOf f.type then
      (p f.type).bind fun l => (leavesF P p (off + P.cellsOf f.type) fs).map fun r => l ++ r
    else none
def rep : Nat → List Nat → List Nat
  | 0, _ => []
  | n + 1, l => l ++ rep n l
def leaves (P : Program) : Nat → TypeId → Option (List Nat)
  | 0, _ => none
  | d + 1, t =>
    let r := match P.underlying t with
      | some .bool => some [0]
      | some (.int _) => some [1]
      | some .string => some [2]
      | some (.struct fs) => if P.stoodInHeld t then none else leavesF P (leaves P d) 0 fs.toList
      | some (.array n e) => if 0 < P.cellsOf e then (leaves P d e).map (rep n) else none
      | _ => none
    r.bind fun l => if l.length = P.cellsOf t then some l else none
theorem leaves_length {P : Program} {d : Nat} {t : TypeId} {l : List Nat} (h : leaves P d t = some l) : l.length = P.cellsOf t := by
  cases d with
  | zero => simp [leaves] at h
  | succ d =>
    simp only [leaves] at h
    obtain ⟨r, _, hr⟩ := Option.bind_eq_some_iff.1 h
    split at hr
    · cases hr; assumption
    · cases hr

/-- The value that these cells make of a type. -/
def mkv (agg : Bool) (cs : List AV) : AV := if agg = true then .agg cs else cs.headD .top
theorem leaves_agg {P : Program} {d : Nat} {t : TypeId} {l : List Nat} (h : leaves P d t = some l) : ∃ b, aggT P t = some b ∧ (b = false → P.cellsOf t = 1) := by
  have hlen := leaves_length h
  cases d with
  | zero => simp [leaves] at h
  | succ d =>
    simp only [leaves] at h
    obtain ⟨r, hr, hr2⟩ := Option.bind_eq_some_iff.1 h
    have e : r = l := by
      split at hr2
      · cases hr2; rfl
      · cases hr2
    subst e
    unfold aggT
    cases hu : P.underlying t with
    | none => rw [hu] at hr; cases hr
    | some ds =>
      rw [hu] at hr
      cases ds <;> simp only [reduceCtorEq] at hr <;> first
        | exact ⟨true, rfl, fun h => by cases h⟩
        | (cases hr; exact ⟨false, rfl, fun _ => by simpa using hlen.symm⟩)

theorem run_part_eq {P : Program} {C : Ctx} {d : Nat} {t : TypeId} {l : List Nat} (hp : leaves P d t = some l) (h0 : 0 < P.cellsOf t) {cs : List AV} {us : Array Value} (hL : ConcL C cs us.toList) {off : Nat} (hlen : off + P.cellsOf t ≤ cs.length) :
    ∃ b u, aggT P t = some b ∧ (part t us off).run P C.w = .ok u C.w ∧ Conc C (mkv b ((cs.drop off).take (P.cellsOf t))) u := by
  obtain ⟨b, hb, hb1⟩ := leaves_agg hp
  cases b with
  | true =>
    obtain ⟨u, hu, hc⟩ := run_part hb hL (.inl ⟨rfl, h0, hlen, rfl⟩)
    exact ⟨true, u, hb, hu, hc⟩
  | false =>
    have e := hb1 rfl
    have hv : cs[off]? = some (cs[off]'(by omega)) := List.getElem?_eq_getElem _
    obtain ⟨u, hu, hc⟩ := run_part hb hL (.inr ⟨rfl, hv⟩)
    refine ⟨false, u, hb, hu, ?_⟩
    rw [e]
    have e2 : mkv false ((cs.drop off).take 1) = cs[off]'(by omega) := by
      rw [List.drop_eq_getElem_cons (by omega)]
      rfl
    rw [e2]; exact hc

/-- What is said of one type. -/
def EqOk (P : Program) (C : Ctx) (D : Nat) (t : TypeId) (l : List Nat) : Prop :=
  ∀ (xs ys : List AV) (b ag : Bool) (u v : Value), aggT P t = some ag → eqL l xs ys = some b → Conc C (mkv ag xs) u → Conc C (mkv ag ys) v → (Op.equalIn D t u v).run P C.w = .ok b C.w

theorem run_eqFields_plain {P : Program} {C : Ctx} {d D : Nat} (ih : ∀ t l, leaves P d t = some l → EqOk P C D t l) {xs ys : List AV} {us vs : Array Value} (hx : ConcL C xs us.toList) (hy : ConcL C ys vs.toList) :
    ∀ (fs : List Field) (off : Nat) (l : List Nat) (b : Bool), leavesF P (leaves P d) off fs = some l → off + l.length = xs.length → off + l.length = ys.length → eqL l (xs.drop off) (ys.drop off) = some b → (Op.eqFields D us vs fs).run P C.w = .ok b C.w
  | [], off, l, b, hl, _, _, he => by
    simp only [leavesF, Option.some.injEq] at hl
    subst hl
    have := eqL_length he
    simp only [List.length_nil, List.length_eq_zero_iff] at this
    rw [this.1, this.2] at he
    simp [eqL] at he
    subst he
    rfl
  | f :: fs, off, l, b, hl, h1, h2, he => by
    simp only [leavesF] at hl
    split at hl
    · rename_i hf
      obtain ⟨hn, rfl, h0⟩ := hf
      obtain ⟨l1, hl1, hl2⟩ := Option.bind_eq_some_iff.1 hl
      obtain ⟨l2, hl3, rfl⟩ := Option.map_eq_some_iff.1 hl2
      have hz := leaves_length hl1
      simp only [List.length_append] at h1 h2
      obtain ⟨b1, b2, e1, e2, rfl⟩ := eqL_append he
      rw [hz] at e1 e2
      rw [List.drop_drop, List.drop_drop] at e2
      obtain ⟨ag, u, hag, hu, hcu⟩ := run_part_eq (P := P) hl1 h0 hx (off := f.offset) (by omega)
      obtain ⟨ag', v, hag', hv, hcv⟩ := run_part_eq (P := P) hl1 h0 hy (off := f.offset) (by omega)
      rw [hag] at hag'; cases hag'
      have hr := ih f.type l1 hl1 _ _ b1 ag u v hag e1 hcu hcv
      simp only [Op.eqFields, hn, ne_eq, not_false_eq_true, if_true, Sem.run_bind, hu, hv, Result.andThen_ok, hr]
      cases b1 with
      | false => simp
      | true =>
        simp only [Bool.not_true, Bool.false_eq_true, if_false, Bool.true_and]
        exact run_eqFields_plain ih hx hy fs _ l2 b2 hl3 (by omega) (by omega) e2
    · cases hl

theorem run_eqArr_plain {P : Program} {C : Ctx} {D : Nat} {e : TypeId} {le : List Nat} {d : Nat} (hle : leaves P d e = some le) (ih : EqOk P C D e le) (h0 : 0 < P.cellsOf e) {xs ys : List AV} {us vs : Array Value} (hx : ConcL C xs us.toList) (hy : ConcL C ys vs.toList) :
    ∀ (n i : Nat) (b : Bool), (i + n) * P.cellsOf e = xs.length → (i + n) * P.cellsOf e = ys.length → eqL (rep n le) (xs.drop (i * P.cellsOf e)) (ys.drop (i * P.cellsOf e)) = some b →
      ((forIn (List.range' i n) ((none, ()) : Option Bool × Unit) fun i (_ : Option Bool × Unit) => (do
          let x ← part e us (i * P.cellsOf e)
          let y ← part e vs (i * P.cellsOf e)
          let r ← Op.equalIn D e x y
          if (!r) = true then pure (ForInStep.done (some false, ())) else pure (ForInStep.yield (none, ())) : Sem (ForInStep (Option Bool × Unit)))) : Sem (Option Bool × Unit)).run P C.w = .ok (if b then none else some false, ()) C.w
  | 0, i, b, _, _, he => by
    have := eqL_length he
    simp only [rep, List.length_nil, List.length_eq_zero_iff] at this
    rw [this.1, this.2] at he
    simp [eqL, rep] at he
    subst he
    rfl
  | n + 1, i, b, h1, h2, he => by
    have hz := leaves_length hle
    simp only [rep] at he
    obtain ⟨b1, b2, e1, e2, rfl⟩ := eqL_append he
    rw [hz] at e1 e2
    rw [List.drop_drop, List.drop_drop, show i * P.cellsOf e + P.cellsOf e = (i + 1) * P.cellsOf e from by rw [Nat.add_mul]; omega] at e2
    have hle1 : i * P.cellsOf e + P.cellsOf e ≤ xs.length := by
      rw [← h1, ← Nat.succ_mul]; exact Nat.mul_le_mul_right _ (by omega)
    have hle2 : i * P.cellsOf e + P.cellsOf e ≤ ys.length := by
      rw [← h2, ← Nat.succ_mul]; exact Nat.mul_le_mul_right _ (by omega)
    obtain ⟨ag, u, hag, hu, hcu⟩ := run_part_eq (P := P) hle h0 hx (off := i * P.cellsOf e) hle1
    obtain ⟨ag', v, hag', hv, hcv⟩ := run_part_eq (P := P) hle h0 hy (off := i * P.cellsOf e) hle2
    rw [hag] at hag'; cases hag'
    have hr := ih _ _ b1 ag u v hag e1 hcu hcv
    simp only [List.range'_succ, List.forIn_cons, Sem.run_bind, hu, hv, Result.andThen_ok, hr]
    cases b1 with
    | false => simp
    | true =>
      simp only [Bool.not_true, Bool.false_eq_true, if_false, Bool.true_and, Sem.run_pure, Result.andThen_ok]
      exact run_eqArr_plain hle ih h0 hx hy n (i + 1) b2 (by rw [← h1]; congr 1; omega) (by rw [← h2]; congr 1; omega) e2

theorem aux_mkv_true {C : Ctx} {xs : List AV} {u : Value} (h : Conc C (mkv true xs) u) : ∃ us : Array Value, u = .agg us ∧ ConcL C xs us.toList := by
  simpa only [mkv, if_true, Conc] using h

theorem eq1_b {a b : AV} {x : Bool} (h : eq1 0 a b = some x) : ∃ p q, a = .sc (.bool p) ∧ b = .sc (.bool q) ∧ x = (p == q) := by
  unfold eq1 at h
  split at h <;> first
    | contradiction
    | exact ⟨_, _, rfl, rfl, by simpa using h.symm⟩
theorem eq1_i {a b : AV} {x : Bool} (h : eq1 1 a b = some x) : ∃ k p q, a = .sc (.int k p) ∧ b = .sc (.int k q) ∧ x = (p == q) := by
  unfold eq1 at h
  split at h <;> first
    | contradiction
    | (split at h
       · rename_i hij; subst hij; exact ⟨_, _, _, rfl, rfl, by simpa using h.symm⟩
       · cases h)
theorem eq1_s {a b : AV} {x : Bool} (h : eq1 2 a b = some x) : ∃ p q, a = .sc (.string p) ∧ b = .sc (.string q) ∧ x = (p.toList == q.toList) := by
  unfold eq1 at h
  split at h <;> first
    | contradiction
    | exact ⟨_, _, rfl, rfl, by simpa using h.symm⟩
theorem eqL_one {k : Nat} {xs ys : List AV} {b : Bool} (h : eqL [k] xs ys = some b) : ∃ x y, xs = [x] ∧ ys = [y] ∧ eq1 k x y = some b := by
  obtain ⟨h1, h2⟩ := eqL_length h
  match xs, h1, ys, h2 with
  | [x], _, [y], _ =>
    obtain ⟨c, s, h3, h4, rfl⟩ := eqL_cons h
    simp [eqL] at h4; subst h4
    exact ⟨x, y, rfl, rfl, by simpa using h3⟩

theorem eqOk {P : Program} {C : Ctx} : ∀ (d D : Nat) (t : TypeId) (l : List Nat), d ≤ D → leaves P d t = some l → EqOk P C D t l
  | 0, _, _, _, _, h => by simp [leaves] at h
  | d + 1, 0, _, _, hd, _ => by omega
  | d + 1, D + 1, t, l, hd, h => by
    have hlen := leaves_length h
    simp only [leaves] at h
    obtain ⟨r, hr, hr2⟩ := Option.bind_eq_some_iff.1 h
    have e : r = l := by
      split at hr2
      · cases hr2; rfl
      · cases hr2
    subst e
    clear hr2 h
    intro xs ys b ag u v hag he hu hv
    obtain ⟨hx, hy⟩ := eqL_length he
    cases hut : P.underlying t with
    | none => rw [hut] at hr; cases hr
    | some ds =>
      rw [hut] at hr
      unfold aggT at hag
      rw [hut] at hag
      cases ds <;> simp only [reduceCtorEq] at hr <;> simp only [Option.some.injEq] at hag <;> subst hag
      case bool =>
        cases hr
        obtain ⟨x, y, rfl, rfl, h1⟩ := eqL_one he
        obtain ⟨p, q, rfl, rfl, rfl⟩ := eq1_b h1
        simp only [mkv, Bool.false_eq_true, if_false, List.headD_cons, Conc] at hu hv
        subst hu; subst hv
        exact run_equalIn_bool' _ _ _ _ _ hut
      case int k =>
        cases hr
        obtain ⟨x, y, rfl, rfl, h1⟩ := eqL_one he
        obtain ⟨k', p, q, rfl, rfl, rfl⟩ := eq1_i h1
        simp only [mkv, Bool.false_eq_true, if_false, List.headD_cons, Conc] at hu hv
        subst hu; subst hv
        exact run_equalIn_int _ _ _ _ _ _ _ hut
      case string =>
        cases hr
        obtain ⟨x, y, rfl, rfl, h1⟩ := eqL_one he
        obtain ⟨p, q, rfl, rfl, rfl⟩ := eq1_s h1
        simp only [mkv, Bool.false_eq_true, if_false, List.headD_cons, Conc] at hu hv
        subst hu; subst hv
        exact run_equalIn_string _ _ _ _ _ hut
      case array n e =>
        split at hr
        · rename_i h0
          obtain ⟨le, hle, rfl⟩ := Option.map_eq_some_iff.1 hr
          obtain ⟨us, rfl, hus⟩ := aux_mkv_true hu
          obtain ⟨vs, rfl, hvs⟩ := aux_mkv_true hv
          have hz := leaves_length hle
          have hrep : ∀ n, (rep n le).length = n * P.cellsOf e := fun n => by
            induction n with
            | zero => simp [rep]
            | succ n ih => simp only [rep, List.length_append, ih, hz, Nat.succ_mul]; omega
          have hfor := run_eqArr_plain hle (eqOk d D e le (by omega) hle) h0 hus hvs n 0 b (by rw [hx, hrep]; simp) (by rw [hy, hrep]; simp) (by simpa using he)
          simp only [Op.equalIn, Sem.run_bind, run_underlying hut, Result.andThen_ok, run_size h0]
          rw [Std.Legacy.Range.forIn_eq_forIn_range']
          have hsz : (([:n] : Std.Legacy.Range)).size = n := by simp [Std.Legacy.Range.size]
          rw [hsz]
          rw [hfor]
          cases b <;> rfl
        · cases hr
      case struct fs =>
        split at hr
        · cases hr
        · rename_i hst
          obtain ⟨us, rfl, hus⟩ := aux_mkv_true hu
          obtain ⟨vs, rfl, hvs⟩ := aux_mkv_true hv
          have hfs : P.fieldsOf t = fs := by simp [Program.fieldsOf, hut]
          rw [run_equalIn_struct C.w D t us vs (by rw [hfs]; exact hut) (by simpa using hst), hfs]
          exact run_eqFields_plain (fun t' l' hl' => eqOk d D t' l' (by omega) hl') hus hvs fs.toList 0 r b hr (by omega) (by omega) (by simpa using he)
end Go.Proofs.Aw
