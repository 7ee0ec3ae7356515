/- The abstract logic, part 11: calls; one step, as a condition on what comes behind. -/
import Derived.Test.YtcllappmhdfffaaAw10
namespace Go.Proofs.Aw
open Go

/-! ### Calls -/
/-- A call yields r, and turns the heap by d. -/
def CY (P : Program) (n : Nat) (f : FuncId) (args : List AV) (h : Hp) (r : AV) (d : Dl) : Prop :=
  ∀ (C : Ctx) (vs : List Value), HeapOk C h → ConcL C args vs → (∀ k, ¬ C.kn (n, k)) → Calls P f vs.toArray C.w fun e w' => ∃ u C', e = .returned u ∧ C'.w = w' ∧ Post C n h r d u C'

/-- The function has a body of its own. -/
def hasBody (P : Program) (f : FuncId) : Bool := match P.funcs[f]? with | some fn => fn.body.isSome && fn.name != "runtime.NumGoroutine" | none => false
theorem run_callFunc {P : Program} {f : FuncId} (hb : hasBody P f = true) (args : Array Value) (w : World) : (callFunc f args).run P w = .ok (.enter f args) w := by
  unfold hasBody at hb
  cases hf : P.funcs[f]? with
  | none => rw [hf] at hb; cases hb
  | some fn =>
    rw [hf] at hb
    simp only [Bool.and_eq_true, bne_iff_ne, ne_eq] at hb
    unfold callFunc
    have hn : (fn.name == "runtime.NumGoroutine") = false := by simpa using hb.2
    have hi : fn.body.isNone = false := by
      cases h : fn.body with
      | none => rw [h] at hb; simp at hb
      | some c => rfl
    simp only [program, bind, Sem.bind, pure, Sem.run, hf, hn, hi, Bool.false_eq_true, if_false]

theorem Y_call {P : Program} {n : Nat} {t : Tp} {h : Hp} {c : Call} {x : Operand} {f : FuncId} {xs ys : List AV} {r : AV} {d : Dl} (hc : c.callee = .value x) (hx : ev t x = .fn (.func f) xs ys) (hb : hasBody P f = true)
    (hcy : CY P n f (xs ++ (c.args.toList.map (ev t) ++ ys)) h r d) : Yields P n (.call c) t h r d := by
  intro C a o next Q ho hh ht hn hk
  have h1 := ev_conc ht x
  rw [hx] at h1
  simp only [Conc] at h1
  obtain ⟨us, vs, hv, hus, hvs⟩ := h1
  have hargs := evArgs ht c
  have hL := hus.append (hargs.append hvs)
  have hcalls := hcy C _ hh hL hn
  have harr : (us.toList ++ ((c.args.map a.eval).toList ++ vs.toList)).toArray = us ++ c.args.map a.eval ++ vs := by
    apply Array.ext'; simp
  rw [harr] at hcalls
  have hrun : (execOp a.eval o).run P C.w = .ok (.enter f (us ++ c.args.map a.eval ++ vs)) C.w := by
    obtain ⟨cal, args, tys⟩ := c
    simp only at hc
    subst hc
    unfold execOp
    rw [ho]
    simp only [resolve, Deferred.ofValue, hv, Sem.run_bind, Sem.run_pure, Result.andThen_ok, invoke, run_callFunc hb]
  unfold Oper.wp
  rw [hrun, Oper.upon_enter]
  exact hcalls.mono fun e w' ⟨u, C', he, hw, hp⟩ => by
    subst he; subst hw
    exact hk u C' hp

/-! ### One step -/
def rdK (b : Option Bool) (z : Nat) (cs : List AV) (off : Nat) (K : AV → Prop) : Prop :=
  match b with
  | some true => 0 < z ∧ off + z ≤ cs.length ∧ K (.agg ((cs.drop off).take z))
  | some false => match cs[off]? with
    | some v => K v
    | none => False
  | none => False
theorem rdK_rd {b : Option Bool} {z : Nat} {cs : List AV} {off : Nat} {K : AV → Prop} (h : rdK b z cs off K) : ∃ ag v, b = some ag ∧ Rd ag z cs off v ∧ K v := by
  unfold rdK at h
  split at h
  · exact ⟨true, _, rfl, .inl ⟨rfl, h.1, h.2.1, rfl⟩, h.2.2⟩
  · split at h
    · rename_i v hv
      exact ⟨false, v, rfl, .inr ⟨rfl, hv⟩, h⟩
    · exact h.elim
  · exact h.elim
def loadK (P : Program) (h : Hp) (ty : TypeId) (x : AV) (K : AV → Prop) : Prop :=
  match x with
  | .ptr m off => match hget h m with
    | some cs => rdK (aggT P ty) (P.cellsOf ty) cs off K
    | none => False
  | .ip cs off => rdK (aggT P ty) (P.cellsOf ty) cs off K
  | _ => False
def storeK (P : Program) (h : Hp) (ty : TypeId) (x y : AV) (K : Dl → Prop) : Prop :=
  match x with
  | .ptr m off => match hget h m with
    | some cs => 0 < P.cellsOf ty ∧ y.cells.length = P.cellsOf ty ∧ off + P.cellsOf ty ≤ cs.length ∧ y.cells.all AV.one = true ∧ K [(m, some (spliceL cs off y.cells))]
    | none => False
  | _ => False
def idxAddrK (P : Program) (h : Hp) (ty : TypeId) (x i : AV) (K : AV → Prop) : Prop :=
  match i with
  | .sc (.int _ j) => match x with
    | .ptr m off => match arrT P ty with
      | some (len, z) => (hget h m).isSome = true ∧ 0 ≤ j ∧ j < len ∧ K (.ptr m (off + j.toNat * z))
      | none => False
    | .ip cs off => match arrT P ty with
      | some (len, z) => 0 ≤ j ∧ j < len ∧ K (.ip cs (off + j.toNat * z))
      | none => False
    | .sl m z off len _ => match slT P ty with
      | some (_, z') => z' = z ∧ (hget h m).isSome = true ∧ 0 ≤ j ∧ j < len ∧ K (.ptr m (off + j.toNat * z))
      | none => False
    | .ro z es _ => match slT P ty with
      | some (_, z') => z' = z ∧ 0 ≤ j ∧ match es[j.toNat]? with
        | some el => K (.ip el 0)
        | none => False
      | none => False
    | _ => False
  | _ => False
def fieldAddrK (P : Program) (h : Hp) (ty : TypeId) (x : AV) (f : Nat) (K : AV → Prop) : Prop :=
  match recT P ty with
  | some l => match l[f]? with
    | some (o, _) => match x with
      | .ptr m off => (hget h m).isSome = true ∧ K (.ptr m (off + o))
      | .ip cs off => K (.ip cs (off + o))
      | _ => False
    | none => False
  | none => False
/-- Are the fields of a struct structs or arrays? -/
def recA (P : Program) (ty : TypeId) : Option (List (Option Bool)) := match P.underlying ty with | some (.struct fs) => some (fs.toList.map fun f => aggT P f.type) | _ => none
def arrA (P : Program) (ty : TypeId) : Option Bool := match P.underlying ty with | some (.array _ e) => aggT P e | _ => none
def fieldK (P : Program) (ty : TypeId) (x : AV) (f : Nat) (K : AV → Prop) : Prop :=
  match recT P ty, recA P ty, x with
  | some l, some bs, .agg cs => match l[f]?, bs[f]? with
    | some (o, z), some b => rdK b z cs o K
    | _, _ => False
  | _, _, _ => False
def indexK (P : Program) (ty : TypeId) (x i : AV) (K : AV → Prop) : Prop :=
  match i with
  | .sc (.int _ j) => match x with
    | .agg cs => match arrT P ty with
      | some (len, z) => 0 ≤ j ∧ j < len ∧ rdK (arrA P ty) z cs (j.toNat * z) K
      | none => False
    | .sc (.string s) => strT P ty = true ∧ 0 ≤ j ∧ match s[j.toNat]? with
      | some b => K (.sc (.int .u8 b.toNat))
      | none => False
    | _ => False
  | _ => False
/-- A bound of a slice expression, as a condition. -/
def bndK (d : Nat) (x : Option AV) (K : Nat → Prop) : Prop :=
  match x with
  | none => K d
  | some (.sc (.int _ i)) => 0 ≤ i ∧ K i.toNat
  | _ => False
theorem bndK_bnd {d : Nat} {x : Option AV} {K : Nat → Prop} (h : bndK d x K) : ∃ l, Bnd d x l ∧ K l := by
  unfold bndK at h
  split at h
  · exact ⟨d, .inl ⟨rfl, rfl⟩, h⟩
  · exact ⟨_, .inr ⟨_, _, rfl, h.1, rfl⟩, h.2⟩
  · exact h.elim
def sliceK (P : Program) (h : Hp) (ty : TypeId) (x : AV) (lo hi mx : Option AV) (K : AV → Prop) : Prop :=
  match x with
  | .ro z es full => match slT P ty with
    | some (_, z') => z' = z ∧ (match mx with
      | none => bndK 0 lo fun l => bndK es.length hi fun hh => l ≤ hh ∧ hh ≤ es.length ∧ K (.ro z ((es.take hh).drop l) (full && hh == es.length))
      | some mx => bndK 0 lo fun l => (match hi with
        | some hi => bndK 0 (some hi) fun hh => bndK 0 (some mx) fun m => l ≤ hh ∧ hh ≤ m ∧ m ≤ es.length ∧ K (.ro z ((es.take hh).drop l) (m == hh))
        | none => False))
    | none => False
  | .sl m z off len own => match slT P ty with
    | some (_, z') => z' = z ∧ (hget h m).isSome = true ∧ (match mx with
      | none => bndK 0 lo fun l => bndK len hi fun hh => l ≤ hh ∧ hh ≤ len ∧ K (.sl m z (off + l * z) (hh - l) own)
      | some mx => bndK 0 lo fun l => (match hi with
        | some hi => bndK 0 (some hi) fun hh => bndK 0 (some mx) fun m' => hh = l ∧ m' = l ∧ l ≤ len ∧ K (.ro z [] true)
        | none => False))
    | none => False
  | .ptr m off => match arrT P ty with
    | some (len, z) => (hget h m).isSome = true ∧ mx = none ∧ bndK 0 lo fun l => bndK len hi fun hh => l ≤ hh ∧ hh ≤ len ∧ K (.sl m z (off + l * z) (hh - l) false)
    | none => False
  | .sc (.string s) => strT P ty = true ∧ mx = none ∧ bndK 0 lo fun l => bndK s.size hi fun hh => l ≤ hh ∧ hh ≤ s.size ∧ K (.sc (.string (s.extract l hh)))
  | _ => False
def zlenT (P : Program) (e : TypeId) : Option Nat := (zeroC P e).map List.length
/-- Whether 'dst' is to be a new object. -/
def buildSliceK (P : Program) (n : Nat) (mu : Bool) (ty : TypeId) (len : Nat) (ps : List (Nat × AV)) (K : AV → Dl → Prop) : Prop :=
  match slT P ty with
  | some (e, z) => zlenT P e = some z ∧ len * z ≤ 16777216 ∧ ps.length = len ∧ densP z 0 ps = true ∧
    (match mu with
    | false => K (.ro z (partCells ps) true) []
    | true => K (.sl (n, 0) z 0 len true) [((n, 0), some (partCells ps).flatten)])
  | none => False
def appendK (P : Program) (n : Nat) (h : Hp) (mu : Bool) (ty xt : TypeId) (s x : AV) (K : AV → Dl → Prop) : Prop :=
  match slT P ty with
  | some (e, z) => slT P xt = some (e, z) ∧ zlenT P e = some z ∧
    (match elemsA h z x with
    | some fs => match s with
      | .sl m z' off len own => z' = z ∧ off = 0 ∧ own = true ∧ (match hget h m with
        | some cs => cs.length = len * z ∧ fs.flatten.all AV.one = true ∧ (len + fs.length) * bytesT P e ≤ 140737488355328 ∧ len + fs.length ≤ 9223372036854775807 ∧ K (.sl (n, 0) z 0 (len + fs.length) true) [(m, none), ((n, 0), some (cs ++ fs.flatten))]
        | none => False)
      | s => match baseRo z s with
        | some es => (es.length + fs.length) * bytesT P e ≤ 140737488355328 ∧ es.length + fs.length ≤ 9223372036854775807 ∧
          (match mu with
          | false => K (.ro z (es ++ fs) false) []
          | true => fs ≠ [] ∧ K (.sl (n, 0) z 0 (es.length + fs.length) true) [((n, 0), some (es.flatten ++ fs.flatten))])
        | none => False
    | none => False)
  | none => False
/-- A call of a function, as a condition. -/
def callK (P : Program) (n : Nat) (f : FuncId) (args : List AV) (h : Hp) (K : AV → Dl → Prop) : Prop := ∃ r d, hasBody P f = true ∧ CY P n f args h r d ∧ K r d
def pickK (c a b : AV) (K : AV → Prop) : Prop :=
  match c with
  | .sc (.bool p) => (p = true → K a) ∧ (p = false → K b)
  | _ => False
def nilK (h : Hp) (x : AV) (K : AV → Prop) : Prop :=
  match x with
  | .ptr m off => (hget h m).isSome = true ∧ K (.ptr m off)
  | .ip cs off => K (.ip cs off)
  | .fn (.func f) xs ys => K (.fn (.func f) xs ys)
  | _ => False
def optK (x : Option AV) (K : AV → Prop) : Prop := match x with | some v => K v | none => False

def builtinK (P : Program) (n : Nat) (mu : Bool) (b : Builtin) (h : Hp) (tys : List TypeId) (args : List AV) (K : AV → Dl → Prop) : Prop :=
  match b, tys, args with
  | .len, ty :: _, x :: _ => match lenT P h ty x with
    | some m => K (.sc (.int .i64 m)) []
    | none => False
  | .max, _, x :: xs => optK (maxA x xs) fun v => K v []
  | .min, _, x :: xs => optK (minA x xs) fun v => K v []
  | .append, [ty, xt], [s, x] => appendK P n h mu ty xt s x K
  | _, _, _ => False

def stepK (P : Program) (n : Nat) (mu : Bool) (op : Op) (t : Tp) (h : Hp) (K : AV → Dl → Prop) : Prop :=
  match op with
  | .move x => K (ev t x) []
  | .assign x => K (ev t x) []
  | .pick c a b => pickK (ev t c) (ev t a) (ev t b) fun v => K v []
  | .alloc e => match zeroC P e with
    | some cs => K (.ptr (n, 0) 0) [((n, 0), some cs)]
    | none => False
  | .box _ x => (ev t x).cells.all AV.one = true ∧ K (.ptr (n, 0) 0) [((n, 0), some (ev t x).cells)]
  | .load ty x => loadK P h ty (ev t x) fun v => K v []
  | .store ty x y => storeK P h ty (ev t x) (ev t y) fun d => K (.sc undef) d
  | .nilCheck x => nilK h (ev t x) fun v => K v []
  | .indexAddr ty x i => idxAddrK P h ty (ev t x) (ev t i) fun v => K v []
  | .fieldAddr ty x f => fieldAddrK P h ty (ev t x) f fun v => K v []
  | .field ty x f => fieldK P ty (ev t x) f fun v => K v []
  | .index ty x i => indexK P ty (ev t x) (ev t i) fun v => K v []
  | .slice ty x lo hi mx => sliceK P h ty (ev t x) (lo.map (ev t)) (hi.map (ev t)) (mx.map (ev t)) fun v => K v []
  | .binOp op ty x y _ => optK (binRh P h op ty (ev t x) (ev t y)) fun v => K v []
  | .unOp op _ x => optK (unR op (ev t x)) fun v => K v []
  | .convert src dst x => (P.underlying src).isSome = true ∧ optK (convR P dst (ev t x)) fun v => K v []
  | .extract x i => match ev t x with
    | .tup vs => optK vs[i]? fun v => K v []
    | _ => False
  | .makeFunc f xs ys => K (.fn f (xs.toList.map (ev t)) (ys.toList.map (ev t))) []
  | .build ty ps => match zeroC P ty with
    | some cs => match fillA (placeOf P ty) cs (ps.toList.map fun p => (p.1, ev t p.2)) with
      | some cs' => ((arrT P ty).isSome || (recT P ty).isSome) = true ∧ K (.agg cs') []
      | none => False
    | none => False
  | .buildSlice ty len ps => buildSliceK P n mu ty len (ps.toList.map fun p => (p.1, ev t p.2)) K
  | .call c => match c.callee with
    | .builtin b => builtinK P n mu b h c.argTypes.toList (c.args.toList.map (ev t)) K
    | .value x => match ev t x with
      | .fn (.func f) xs ys => callK P n f (xs ++ (c.args.toList.map (ev t) ++ ys)) h K
      | _ => False
    | _ => False
  | _ => False

/-! ### It is sound -/
section
variable {P : Program} {n : Nat} {t : Tp} {h : Hp} {mu : Bool} {K : AV → Dl → Prop}

def Sound (P : Program) (n : Nat) (op : Op) (t : Tp) (h : Hp) (K : AV → Dl → Prop) : Prop := ∃ r d, Yields P n op t h r d ∧ K r d

theorem arrT_cells {ty : TypeId} {len z : Nat} (ha : arrT P ty = some (len, z)) : ∃ e, P.underlying ty = some (.array len e) ∧ P.cellsOf e = z ∧ 0 < P.cellsOf e := by
  obtain ⟨e, hu, he, h0⟩ := arrT_some ha
  exact ⟨e, hu, he, by omega⟩
theorem recT_field {ty : TypeId} {l : List (Nat × Nat)} {f o z : Nat} (hr : recT P ty = some l) (hf : l[f]? = some (o, z)) : fieldOff P ty f = some o ∧ ∃ fs fl, P.underlying ty = some (.struct fs) ∧ fs[f]? = some fl ∧ fl.offset = o ∧ P.cellsOf fl.type = z := by
  obtain ⟨fs, hu, hp, rfl⟩ := recT_some hr
  rw [List.getElem?_map] at hf
  cases hg : fs.toList[f]? with
  | none => rw [hg] at hf; cases hf
  | some fl =>
    rw [hg] at hf
    simp only [Option.map_some, Option.some.injEq, Prod.mk.injEq] at hf
    have hg' : fs[f]? = some fl := by simpa using hg
    have h0 := hp fl (List.mem_of_getElem? hg)
    refine ⟨?_, fs, fl, hu, hg', hf.1, hf.2⟩
    unfold fieldOff
    simp [hu, hg', h0, hf.1]

theorem S_load {ty : TypeId} {x : Operand} (hk : loadK P h ty (ev t x) fun v => K v []) : Sound P n (.load ty x) t h K := by
  unfold loadK at hk
  split at hk
  · rename_i m off hx
    split at hk
    · rename_i cs hg
      obtain ⟨ag, v, hb, hr, hv⟩ := rdK_rd hk
      exact ⟨v, [], Y_load_ptr hx hg hb hr, hv⟩
    · exact hk.elim
  · rename_i cs off hx
    obtain ⟨ag, v, hb, hr, hv⟩ := rdK_rd hk
    exact ⟨v, [], Y_load_ip hx hb hr, hv⟩
  · exact hk.elim
theorem S_store {ty : TypeId} {x y : Operand} (hk : storeK P h ty (ev t x) (ev t y) fun d => K (.sc undef) d) : Sound P n (.store ty x y) t h K := by
  unfold storeK at hk
  split at hk
  · rename_i m off hx
    split at hk
    · rename_i cs hg
      obtain ⟨h0, hl, hlen, h1, hv⟩ := hk
      exact ⟨_, _, Y_store hx hg h0 hl hlen h1, hv⟩
    · exact hk.elim
  · exact hk.elim
theorem S_indexAddr {ty : TypeId} {x i : Operand} (hk : idxAddrK P h ty (ev t x) (ev t i) fun v => K v []) : Sound P n (.indexAddr ty x i) t h K := by
  unfold idxAddrK at hk
  split at hk
  · rename_i k j hi
    split at hk
    · rename_i m off hx
      split at hk
      · rename_i len z ha
        obtain ⟨e, hu, he, h0⟩ := arrT_cells ha
        have := Y_indexAddr_arr (P := P) (n := n) hu h0 hx hi hk.1 hk.2.1 hk.2.2.1
        rw [he] at this
        exact ⟨_, _, this, hk.2.2.2⟩
      · exact hk.elim
    · rename_i cs off hx
      split at hk
      · rename_i len z ha
        obtain ⟨e, hu, he, h0⟩ := arrT_cells ha
        have := Y_indexAddr_arr_ip (P := P) (n := n) (h := h) hu h0 hx hi hk.1 hk.2.1
        rw [he] at this
        exact ⟨_, _, this, hk.2.2⟩
      · exact hk.elim
    · rename_i m z off len own hx
      split at hk
      · rename_i e z' ha
        obtain ⟨rfl, hm, h0, h1, hv⟩ := hk
        obtain ⟨hu, he, hz⟩ := slT_some ha
        exact ⟨_, _, Y_indexAddr_sl hu hz he hx hi hm h0 h1, hv⟩
      · exact hk.elim
    · rename_i z es full hx
      split at hk
      · rename_i e z' ha
        obtain ⟨rfl, h0, hk⟩ := hk
        obtain ⟨hu, he, hz⟩ := slT_some ha
        split at hk
        · rename_i el hel
          exact ⟨_, _, Y_indexAddr_ro hu hz he hx hi h0 hel, hk⟩
        · exact hk.elim
      · exact hk.elim
    · exact hk.elim
  · exact hk.elim
theorem S_fieldAddr {ty : TypeId} {x : Operand} {f : Nat} (hk : fieldAddrK P h ty (ev t x) f fun v => K v []) : Sound P n (.fieldAddr ty x f) t h K := by
  unfold fieldAddrK at hk
  split at hk
  · rename_i l hr
    split at hk
    · rename_i o z hf
      have hfo := (recT_field hr hf).1
      split at hk
      · rename_i m off hx
        exact ⟨_, _, Y_fieldAddr hfo hx hk.1, hk.2⟩
      · rename_i cs off hx
        exact ⟨_, _, Y_fieldAddr_ip hfo hx, hk⟩
      · exact hk.elim
    · exact hk.elim
  · exact hk.elim
theorem S_field {ty : TypeId} {x : Operand} {f : Nat} (hk : fieldK P ty (ev t x) f fun v => K v []) : Sound P n (.field ty x f) t h K := by
  unfold fieldK at hk
  split at hk
  · rename_i l bs cs hr hb hx
    split at hk
    · rename_i o z b hf hbf
      obtain ⟨ag, v, rfl, hrd, hv⟩ := rdK_rd hk
      obtain ⟨_, fs, fl, hu, hfl, ho, hz⟩ := recT_field hr hf
      have hag : aggT P fl.type = some ag := by
        unfold recA at hb
        rw [hu] at hb
        simp only [Option.some.injEq] at hb
        rw [← hb, List.getElem?_map] at hbf
        have : fs.toList[f]? = some fl := by simpa using hfl
        rw [this] at hbf
        simpa using hbf
      exact ⟨v, [], Y_field hu hfl hx hag (by rw [hz, ho]; exact hrd), hv⟩
    · exact hk.elim
  · exact hk.elim
end
end Go.Proofs.Aw
