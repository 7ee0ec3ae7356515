/- The abstract logic, part 10: what max, min and append yield. -/
import Derived.Test.YtcllappmhdfffaaAw9
namespace Go.Proofs.Aw
open Go

/-- An object is gone, and a new one is there: in the same block, or in a new one. -/
def Ctx.move (C : Ctx) (n : Nat) (m : Nm) (b : Nat) (w : World) : Ctx where
  ρ := fun k => if k = (n, 0) then b else C.ρ k
  live := fun k => k = (n, 0) ∨ (C.live k ∧ k ≠ m)
  kn := fun i => C.kn i ∨ i.1 = n
  mt := fun b' => (C.mt b' ∧ b' < C.w.heap.size) ∨ b' = b
  w := w

theorem Post.move {C : Ctx} {n : Nat} {h : Hp} {r : AV} {u : Value} {m : Nm} {cs cs' : List AV} {b : Nat} {arr' : Array Value} {ty : TypeId} (hh : HeapOk C h) (hn : (∀ k, ¬ C.kn (n, k))) (hg : hget h m = some cs) {w : World}
    (hb' : w.heap[b]? = some (.cells arr' ty (0, 0))) (hsz : C.w.heap.size ≤ w.heap.size) (hot : ∀ k, k < C.w.heap.size → k ≠ C.ρ m → w.heap[k]? = C.w.heap[k]?) (hbm : b = C.ρ m ∨ C.w.heap.size ≤ b)
    (hcs : ∀ (j : Nat) (c : AV), cs'[j]? = some c → ∃ u, arr'[j]? = some u ∧ Conc C c u) (hr : Conc (C.move n m b w) r u) (ho : w.os = C.w.os) (ht : w.tape = C.w.tape) (hu : w.output = C.w.output) :
    Post C n h r [(m, none), ((n, 0), some cs')] u (C.move n m b w) := by
  have hl := hh.get hg
  have hne : ∀ k, C.live k → k ≠ (n, 0) := fun k hk e => hn 0 (by have := hh.kn k hk; rw [e] at this; exact this)
  have hmn := hne m hl
  have hmt := hh.mt m hl
  have hml := hh.lt hl
  have hrho : ∀ k, C.live k → (C.move n m b w).ρ k = C.ρ k := fun k hk => by simp [Ctx.move, hne k hk]
  have hget' : ∀ k, hget (hap [(m, none), ((n, 0), some cs')] h) k = if (n, 0) = k then some cs' else if m = k then none else hget h k := fun k => by
    simp only [hap]; rw [hget_hset, hget_hdel]
  have le : C.le (C.move n m b w) := by
    refine ⟨hsz, fun k hk hmk => hot k hk (fun e => hmk (by rw [e]; exact hmt)), fun k hk hmk => ?_, fun _ h => .inl h, fun k hk hlk => ?_, fun k hk hlk ds ty' hc => ?_⟩
    · rcases hmk with h1 | h1
      · exact h1.1
      · rcases hbm with h2 | h2
        · rw [h1, h2]; exact hmt
        · omega
    · have hk' : k ≠ (n, 0) := fun e => hn 0 (by rw [e] at hk; exact hk)
      rcases hlk with h1 | h1
      · exact absurd h1 hk'
      · exact ⟨h1.1, by simp [Ctx.move, hk']⟩
    · have hk' : k ≠ (n, 0) := fun e => hn 0 (by rw [e] at hk; exact hk)
      rcases hlk with h1 | h1
      · exact absurd h1 hk'
      · exact ⟨ds, ty', (hot _ (hh.lt h1.1) (fun e => h1.2 (hh.inj _ _ h1.1 hl e))).trans hc, rfl⟩
  have hbt : b < w.heap.size := by
    rcases Nat.lt_or_ge b w.heap.size with h2 | h2
    · exact h2
    · rw [Array.getElem?_eq_none h2] at hb'; cases hb'
  have hbne : ∀ k, C.live k → k ≠ m → C.ρ k ≠ b := fun k hk hkm e => by
    rcases hbm with h2 | h2
    · exact hkm (hh.inj _ _ hk hl (e.trans h2))
    · have := hh.lt hk; omega
  refine ⟨le, fun _ => Iff.rfl, ⟨fun k => ?_, fun k ds hk => ?_, fun k k' hk hk' he => ?_, fun k hk => ?_, fun k hk => ?_⟩, hr, fun k hk hno => hot k hk (hno m (by simp) hl), fun k hk => ?_, ho, ht, hu, fun k hk => ?_, fun k hk => ?_⟩
  · rw [hget']
    by_cases e : (n, 0) = k
    · simp [Ctx.move, ← e]
    · rw [if_neg e]
      by_cases e2 : m = k
      · simp [Ctx.move, ← e2, hmn]
      · rw [if_neg e2, ← hh.live k]
        simp [Ctx.move, Ne.symm e, Ne.symm e2]
  · rw [hget'] at hk
    by_cases e : (n, 0) = k
    · rw [if_pos e] at hk
      subst e
      cases hk
      refine ⟨arr', ty, by simp [Ctx.move, hb'], fun j c hj => ?_⟩
      obtain ⟨u', hu', hc⟩ := hcs j c hj
      exact ⟨u', hu', hc.mono le⟩
    · rw [if_neg e] at hk
      by_cases e2 : m = k
      · rw [if_pos e2] at hk; cases hk
      · rw [if_neg e2] at hk
        have hlk := hh.get hk
        obtain ⟨arr1, ty1, ha, hc⟩ := hh.obj k ds hk
        refine ⟨arr1, ty1, ?_, fun j c hj => ?_⟩
        · rw [hrho k hlk]
          exact (hot _ (hh.lt hlk) (fun he => e2 (hh.inj _ _ hlk hl he).symm)).trans ha
        · obtain ⟨u', hu', hc'⟩ := hc j c hj
          exact ⟨u', hu', hc'.mono le⟩
  · rcases hk with rfl | ⟨hk, hkm⟩ <;> rcases hk' with rfl | ⟨hk', hkm'⟩
    · rfl
    · rw [hrho k' hk'] at he
      simp [Ctx.move] at he
      exact absurd he.symm (hbne k' hk' hkm')
    · rw [hrho k hk] at he
      simp [Ctx.move] at he
      exact absurd he (hbne k hk hkm)
    · rw [hrho k hk, hrho k' hk'] at he
      exact hh.inj k k' hk hk' he
  · rcases hk with rfl | ⟨hk, _⟩
    · simp [Ctx.move]
    · rw [hrho k hk]; exact .inl ⟨hh.mt k hk, hh.lt hk⟩
  · rcases hk with rfl | ⟨hk, _⟩
    · exact .inr rfl
    · exact .inl (hh.kn k hk)
  · simp only [Ctx.move]
    constructor
    · rintro (h1 | h1)
      · exact h1.1
      · rcases hbm with h2 | h2
        · rw [h1, h2]; exact hmt
        · omega
    · intro h1; exact .inl ⟨h1, hk⟩
  · rcases hk with rfl | ⟨hk, _⟩
    · rcases hbm with h2 | h2
      · exact .inr (.inr ⟨m, by simp, hl, by simp [Ctx.move, h2]⟩)
      · exact .inr (.inl (by simp [Ctx.move, h2]))
    · exact .inl ⟨hk, hrho k hk⟩
  · simp at hk
    rcases hk with rfl | rfl
    · exact .inl hl
    · exact .inr rfl

theorem chunk_flatten (z : Nat) : ∀ (k : Nat) (cs : List AV), cs.length = k * z → (chunk z k cs).flatten = cs
  | 0, cs, h => by simp [chunk]; exact List.length_eq_zero_iff.1 (by simpa using h)
  | k + 1, cs, h => by
    simp only [chunk, List.flatten_cons]
    rw [chunk_flatten z k (cs.drop z) (by rw [List.length_drop, h, Nat.succ_mul]; omega)]
    exact List.take_append_drop z cs

section
variable {P : Program} {n : Nat} {t : Tp} {h : Hp}

theorem evArgs {C : Ctx} {a : Act} (ht : TOk C t a) (c : Call) : ConcL C (c.args.toList.map (ev t)) (c.args.map a.eval).toList := by
  rw [Array.toList_map]
  exact ConcL.evs ht _
theorem Y_max {c : Call} {x : AV} {xs : List AV} {v : AV} (hb : c.callee = .builtin .max) (hx : c.args.toList.map (ev t) = x :: xs) (hm : maxA x xs = some v) : Yields P n (.call c) t h v [] :=
  Yields.pure fun C a o ho hh ht => by
    have hL := evArgs ht c
    rw [hx] at hL
    simp only [ConcL] at hL
    obtain ⟨u, us, he, hu, hus⟩ := hL
    obtain ⟨r, hr, hv⟩ := run_maxA (P := P) xs us x v u hu hus hm
    refine ⟨r, ?_, hv⟩
    rw [run_builtin hb _ _ o ho]
    have : (Builtin.max_ c.argTypes o.type (c.args.map a.eval)).run P C.w = .ok r C.w := by
      unfold Builtin.max_
      simp only [he, hr]
    simp only [builtin, Sem.run_bind, this, Result.andThen_ok]
    rfl
theorem Y_min {c : Call} {x : AV} {xs : List AV} {v : AV} (hb : c.callee = .builtin .min) (hx : c.args.toList.map (ev t) = x :: xs) (hm : minA x xs = some v) : Yields P n (.call c) t h v [] :=
  Yields.pure fun C a o ho hh ht => by
    have hL := evArgs ht c
    rw [hx] at hL
    simp only [ConcL] at hL
    obtain ⟨u, us, he, hu, hus⟩ := hL
    obtain ⟨r, hr, hv⟩ := run_minA (P := P) xs us x v u hu hus hm
    refine ⟨r, ?_, hv⟩
    rw [run_builtin hb _ _ o ho]
    have : (Builtin.min_ c.argTypes o.type (c.args.map a.eval)).run P C.w = .ok r C.w := by
      unfold Builtin.min_
      simp only [he, hr]
    simp only [builtin, Sem.run_bind, this, Result.andThen_ok]
    rfl

/-- A slice that has no room behind it: its elements. -/
def baseRo (z : Nat) : AV → Option (List (List AV))
  | .ro z' es true => if z' = z then some es else none
  | .sc (.slice none 0 0) => some []
  | _ => none
theorem conc_ro {C : Ctx} {z : Nat} {es : List (List AV)} {full : Bool} {u : Value} : Conc C (.ro z es full) u ↔ ∃ A cap, u = .slice A es.length cap ∧ es.length ≤ cap ∧ (full = true → cap = es.length) ∧
      (es ≠ [] → ∃ a, A = some a ∧ a.block < C.w.heap.size ∧ ¬ C.mt a.block ∧ ConcE C a z 0 es) := Iff.rfl
theorem baseRo_ok {C : Ctx} (hh : HeapOk C h) {z : Nat} (h0 : 0 < z) {v : AV} {u : Value} {es : List (List AV)} (hc : Conc C v u) (he : baseRo z v = some es) :
    SrcOk P C z u es ∧ (∃ A, u = .slice A es.length es.length) ∧ Conc C (.ro z es false) u := by
  unfold baseRo at he
  split at he
  · split at he
    · rename_i z' es' hz
      cases he
      subst hz
      have hs : SrcOk P C z' u es := elemsA_ok hh h0 hc (by simp [elemsA])
      obtain ⟨A, cap, hu, hle, hf, hne⟩ := conc_ro.1 hc
      exact ⟨hs, ⟨A, by rw [hu, hf rfl]⟩, conc_ro.2 ⟨A, cap, hu, hle, fun h => (nomatch h), hne⟩⟩
    · cases he
  · cases he
    have hs : SrcOk P C z u [] := elemsA_ok hh h0 hc (by simp [elemsA])
    simp only [Conc] at hc
    subst hc
    exact ⟨hs, ⟨none, rfl⟩, conc_ro.2 ⟨none, 0, rfl, Nat.le_refl _, fun h => (nomatch h), fun h => absurd rfl h⟩⟩
  · cases he

/-- What all appends share. -/
structure AppT (P : Program) (ty xt e : TypeId) (z : Nat) (tot : Nat) : Prop where
  hs : slT P ty = some (e, z)
  hx : slT P xt = some (e, z)
  hz : (zeroC P e).map List.length = some z
  hb : tot * bytesT P e ≤ 140737488355328
  hm : tot ≤ 9223372036854775807

theorem AppT.info {ty xt e : TypeId} {z tot : Nat} (hA : AppT P ty xt e z tot) : ∃ i zv, P.underlying ty = some (.slice e) ∧ P.underlying xt = some (.slice e) ∧ P.info? e = some i ∧ i.zero = some zv ∧ zv.cells.size = z ∧ i.size = z ∧ 0 < z ∧ tot * i.bytes ≤ 140737488355328 := by
  obtain ⟨hu, he, h0⟩ := slT_some hA.hs
  obtain ⟨hu', _, _⟩ := slT_some hA.hx
  obtain ⟨zc, hzc, hzl⟩ := Option.map_eq_some_iff.1 hA.hz
  obtain ⟨i, zv, hi, hz0, rfl⟩ := zeroC_some hzc
  refine ⟨i, zv, hu, hu', hi, hz0, by simpa using hzl, ?_, h0, ?_⟩
  · have : P.cellsOf e = i.size := by simp [Program.cellsOf, hi]
    omega
  · have hb := hA.hb
    simp only [bytesT, hi, Option.map_some, Option.getD_some] at hb
    exact hb

theorem run_appendOp {c : Call} {ty xt : TypeId} {s x : Operand} (hb : c.callee = .builtin .append) (hty : c.argTypes = #[ty, xt]) (ha : c.args = #[s, x]) {a : Act} {o : Oper} (ho : o.op = .call c) {w w' : World} {r : Value}
    (h : (Builtin.append_ #[ty, xt] o.type #[a.eval s, a.eval x]).run P w = .ok r w') : (execOp a.eval o).run P w = .ok (.value r) w' := by
  rw [run_builtin hb _ _ o ho, hty, ha]
  simp only [builtin, Sem.run_bind, List.map_toArray, List.map_cons, List.map_nil, h, Result.andThen_ok]
  rfl

/-- Onto a slice without room: as a slice that nobody may write. -/
theorem Y_append_ro {c : Call} {ty xt e : TypeId} {s x : Operand} {z : Nat} {es fs : List (List AV)} (hb : c.callee = .builtin .append) (hty : c.argTypes = #[ty, xt]) (ha : c.args = #[s, x]) (he : baseRo z (ev t s) = some es) (hf : elemsA h z (ev t x) = some fs)
    (hA : AppT P ty xt e z (es.length + fs.length)) : Yields P n (.call c) t h (.ro z (es ++ fs) false) [] :=
  Yields.run fun C a o ho hh ht hn => by
    obtain ⟨i, zv, hu, hu', hi, hz0, hzs, hsz, h0, hby⟩ := hA.info
    obtain ⟨hs1, ⟨A, hv⟩, hc1⟩ := baseRo_ok (P := P) hh h0 (ev_conc ht s) he
    have hs2 := elemsA_ok (P := P) hh h0 (ev_conc ht x) hf
    obtain ⟨B, c2, news, hv2, _, hn2, hr2⟩ := hs2.news
    by_cases hfs : fs = []
    · subst hfs
      refine ⟨a.eval s, C.same n C.w, ?_, ?_⟩
      · refine run_appendOp hb hty ha ho ?_
        rw [hv, hv2]
        have hnil : news = [] := by
          have := hn2.length
          simpa using this.symm
        have := hr2 C.w rfl
        rw [hv2, hnil, ← hsz] at this
        exact run_append_none hu hu' hi A B _ _ c2 (Nat.le_refl _) this
      · rw [List.append_nil]
        exact Post.pure hh hc1 rfl rfl rfl rfl
    · obtain ⟨A', c1, olds, hv1, _, hn1, hr1⟩ := hs1.news
      have hlen : 0 < fs.length := List.length_pos_iff.2 hfs
      rw [hv] at hv1
      obtain ⟨e1, -, e2⟩ := Value.slice.inj hv1
      subst e1 e2
      obtain ⟨cap, zs, hrun, hcap, _⟩ := run_append_grows (P := P) (w := C.w) (ty := o.type) hu hu' hi hz0 A B es.length es.length fs.length c2 olds news
        (fun w' hw => by have := hr1 w' hw; rw [hv] at this; rw [hsz]; exact this) (fun w' hw => by have := hr2 w' hw; rw [hv2] at this; rw [hsz]; exact this) (by omega) hby hA.hm
      refine ⟨_, C.allocI n (C.w.drew.alloc (.cells (olds.toArray ++ news.toArray ++ zs) e)), run_appendOp hb hty ha ho (by rw [hv, hv2]; exact hrun), ?_⟩
      refine Post.allocI hh (o := .cells (olds.toArray ++ news.toArray ++ zs) e) rfl ?_ rfl rfl rfl
      have hlens : ∀ (j : Nat) (e : List AV), (es ++ fs)[j]? = some e → e.length = z := fun j e hj => by
        rcases List.mem_append.1 (List.mem_of_getElem? hj) with h1 | h1
        · obtain ⟨k, hk⟩ := List.mem_iff_getElem?.1 h1; exact hs1.len k e hk
        · obtain ⟨k, hk⟩ := List.mem_iff_getElem?.1 h1; exact hs2.len k e hk
      have hL := hn1.append hn2
      have := ro_new (C := C) (n := n) (w := C.w.drew.alloc (.cells (olds.toArray ++ news.toArray ++ zs) e)) (ty := e) (cs := (es ++ fs).flatten) (es := es ++ fs) (z := z) (cap := cap) (full := false) rfl (fun j c hj => by
        rw [List.flatten_append] at hj
        obtain ⟨u, hu, hcu⟩ := hL.get j c hj
        refine ⟨u, ?_, hcu⟩
        rw [Array.getElem?_append_left]
        · simpa using hu
        · have := (List.getElem?_eq_some_iff.1 hu).1
          simpa using this) hlens rfl (by simpa using hcap) (fun h => by cases h)
      rw [List.length_append] at this
      exact this

/-- Onto a slice without room: as a new object. -/
theorem Y_append_new {c : Call} {ty xt e : TypeId} {s x : Operand} {z : Nat} {es fs : List (List AV)} (hb : c.callee = .builtin .append) (hty : c.argTypes = #[ty, xt]) (ha : c.args = #[s, x]) (he : baseRo z (ev t s) = some es) (hf : elemsA h z (ev t x) = some fs)
    (hA : AppT P ty xt e z (es.length + fs.length)) (hne : fs ≠ []) : Yields P n (.call c) t h (.sl (n, 0) z 0 (es.length + fs.length) true) [((n, 0), some (es.flatten ++ fs.flatten))] :=
  Yields.run fun C a o ho hh ht hn => by
    obtain ⟨i, zv, hu, hu', hi, hz0, hzs, hsz, h0, hby⟩ := hA.info
    obtain ⟨hs1, ⟨A, hv⟩, _⟩ := baseRo_ok (P := P) hh h0 (ev_conc ht s) he
    have hs2 := elemsA_ok (P := P) hh h0 (ev_conc ht x) hf
    obtain ⟨B, c2, news, hv2, _, hn2, hr2⟩ := hs2.news
    obtain ⟨A', c1, olds, hv1, _, hn1, hr1⟩ := hs1.news
    have hlen : 0 < fs.length := List.length_pos_iff.2 hne
    rw [hv] at hv1
    obtain ⟨e1, -, e2⟩ := Value.slice.inj hv1
    subst e1 e2
    obtain ⟨cap, zs, hrun, hcap, hzz⟩ := run_append_grows (P := P) (w := C.w) (ty := o.type) hu hu' hi hz0 A B es.length es.length fs.length c2 olds news
      (fun w' hw => by have := hr1 w' hw; rw [hv] at this; rw [hsz]; exact this) (fun w' hw => by have := hr2 w' hw; rw [hv2] at this; rw [hsz]; exact this) (by omega) hby hA.hm
    refine ⟨_, C.allocN n (C.w.drew.alloc (.cells (olds.toArray ++ news.toArray ++ zs) e)), run_appendOp hb hty ha ho (by rw [hv, hv2]; exact hrun), ?_⟩
    have hL := hn1.append hn2
    refine Post.allocN hh hn (arr := olds.toArray ++ news.toArray ++ zs) (ty := e) rfl (fun j c hj => ?_) ?_ rfl rfl rfl
    · obtain ⟨u, hu, hcu⟩ := hL.get j c hj
      refine ⟨u, ?_, hcu⟩
      rw [Array.getElem?_append_left]
      · simpa using hu
      · have := (List.getElem?_eq_some_iff.1 hu).1
        simpa using this
    · simp only [Conc, Ctx.allocN, if_true]
      refine ⟨⟨_, _, _, rfl⟩, .inr trivial, fun _ => ⟨cap, 0, rfl, hcap, .inl rfl, fun _ => ⟨_, e, heap_alloc_new C.w.drew _, ?_⟩⟩⟩
      have l1 := hn1.length
      have l2 := hn2.length
      rw [flat_length es hs1.len] at l1
      rw [flat_length fs hs2.len] at l2
      have : (es.length + fs.length) * z + (cap - (es.length + fs.length)) * z = cap * z := by rw [← Nat.add_mul]; congr 1; omega
      rw [Nat.add_mul] at this
      simp [hzz, hzs]
      omega

/-- Onto a slice that ends its object and has the room behind it. -/
theorem Y_append_own {c : Call} {ty xt e : TypeId} {s x : Operand} {z len : Nat} {m : Nm} {cs : List AV} {fs : List (List AV)} (hb : c.callee = .builtin .append) (hty : c.argTypes = #[ty, xt]) (ha : c.args = #[s, x]) (hsv : ev t s = .sl m z 0 len true)
    (hg : hget h m = some cs) (hcl : cs.length = len * z) (hf : elemsA h z (ev t x) = some fs) (h1 : fs.flatten.all AV.one = true) (hA : AppT P ty xt e z (len + fs.length)) :
    Yields P n (.call c) t h (.sl (n, 0) z 0 (len + fs.length) true) [(m, none), ((n, 0), some (cs ++ fs.flatten))] :=
  Yields.run fun C a o ho hh ht hn => by
    obtain ⟨i, zv, hu, hu', hi, hz0, hzs, hsz, h0, hby⟩ := hA.info
    have hc1 := ev_conc ht s
    rw [hsv] at hc1
    have hs1 : SrcOk P C z (a.eval s) (chunk z len cs) := elemsA_ok hh h0 hc1 (by simp [elemsA, hg, hcl])
    simp only [Conc] at hc1
    obtain ⟨cap, of, hv, hle, hof, hown⟩ := hc1.2.2 (hh.get hg)
    obtain ⟨arr, ty0, harr, hcap⟩ := hown trivial
    have hal : arr.toList.length = arr.size := by simp
    have hs2 := elemsA_ok (P := P) hh h0 (ev_conc ht x) hf
    obtain ⟨B, c2, news, hv2, _, hn2, hr2⟩ := hs2.news
    have l2 := hn2.length
    rw [flat_length fs hs2.len] at l2
    obtain ⟨arr0, ty1, ha0, hobj⟩ := hh.obj m cs hg
    rw [harr] at ha0
    cases ha0
    have harrlen : len * z ≤ arr.size := by
      have : len * z ≤ cap * z := Nat.mul_le_mul_right _ hle
      omega
    have hfz : ∀ w' : World, w'.heap = C.w.heap → (Builtin.firstCells i.size fs.length (.slice B fs.length c2)).run P w' = .ok news.toArray w' := fun w' hw => by
      have := hr2 w' hw; rw [hv2] at this; rw [hsz]; exact this
    have hLf : ∀ (arr' : Array Value), (∀ (j : Nat) (c : AV), cs[j]? = some c → ∃ u, arr'[j]? = some u ∧ Conc C c u) → (∀ (j : Nat) (u : Value), news[j]? = some u → arr'[len * z + j]? = some u) → ∀ (j : Nat) (c : AV), (cs ++ fs.flatten)[j]? = some c → ∃ u, arr'[j]? = some u ∧ Conc C c u := by
      intro arr' hA1 hA2 j c hj
      by_cases hjl : j < cs.length
      · rw [List.getElem?_append_left hjl] at hj
        exact hA1 j c hj
      · rw [List.getElem?_append_right (by omega)] at hj
        obtain ⟨u, hu, hcu⟩ := hn2.get _ c hj
        have := hA2 _ u hu
        rw [hcl, show len * z + (j - len * z) = j from by omega] at this
        exact ⟨u, this, hcu⟩
    have hml := hh.lt (hh.get hg)
    by_cases hf0 : fs = []
    · -- nothing is appended
      subst hf0
      have hnil : news = [] := by simpa using l2.symm
      refine ⟨a.eval s, C.move n m (C.ρ m) C.w, ?_, Post.move hh hn hg harr (Nat.le_refl _) (fun _ _ _ => rfl) (.inl rfl) (hLf arr hobj (fun j u hj => by rw [hnil] at hj; simp at hj)) ?_ rfl rfl rfl⟩
      · refine run_appendOp hb hty ha ho ?_
        rw [hv, hv2]
        have := hfz C.w rfl
        rw [hnil] at this
        exact run_append_none hu hu' hi _ B _ _ c2 hle this
      · simp only [Conc, Ctx.move, if_true]
        refine ⟨⟨_, _, _, hv⟩, .inr trivial, fun _ => ⟨cap, of, by rw [hv]; rfl, by simpa using hle, hof, fun _ => ⟨arr, ty0, harr, hcap⟩⟩⟩
    have hlen : 0 < fs.length := List.length_pos_iff.2 hf0
    by_cases hroom : len + fs.length ≤ cap
    · -- in place
      have hof0 : of = 0 := by
        rcases hof with h2 | h2
        · exact h2
        · omega
      subst hof0
      have hone : ∀ v ∈ news, v.oneCell' = true := fun v hv' => by
        obtain ⟨k, hk⟩ := List.mem_iff_getElem?.1 hv'
        have hkl : k < fs.flatten.length := by rw [flat_length fs hs2.len, l2]; exact (List.getElem?_eq_some_iff.1 hk).1
        obtain ⟨u', hu', hcu⟩ := hn2.get k (fs.flatten[k]) (List.getElem?_eq_getElem hkl)
        rw [hk] at hu'; cases hu'
        exact one_conc hcu (List.all_eq_true.1 h1 _ (List.getElem_mem _))
      have htot : len * z + news.length ≤ arr.size := by
        have : (len + fs.length) * z ≤ cap * z := Nat.mul_le_mul_right _ hroom
        rw [Nat.add_mul] at this
        omega
      have hst := run_storeCells_at (P := P) (C.ρ m) (len * z) ty0 news 0 arr C.w harr (by simpa using htot) hone
      rw [Nat.add_zero] at hst
      refine ⟨.slice (some ⟨C.ρ m, 0, none⟩) (len + fs.length) cap, C.move n m (C.ρ m) (C.w.setRow (C.ρ m) (arr.toList.take (len * z) ++ news ++ arr.toList.drop (len * z + news.length)).toArray), ?_,
        Post.move (arr' := (arr.toList.take (len * z) ++ news ++ arr.toList.drop (len * z + news.length)).toArray) hh hn hg (setRow_heap C.w (C.ρ m) arr _ ty0 _ harr) (by simp) (fun k _ hk => by simp [World.setRow, Array.getElem?_modify, Ne.symm hk]) (.inl rfl) (hLf _ (fun j c hj => ?_) (fun j u hj => ?_)) ?_ rfl rfl rfl⟩
      · refine run_appendOp hb hty ha ho ?_
        rw [hv, hv2]
        have hfc := hfz C.w rfl
        simp only [hsz] at hfc
        simp [Builtin.append_, run_underlying hu, run_underlying hu', sizeOf, typeInfo, hi, hsz, Builtin.lenOf, hroom, hfc, add_mk, hst, Ctx.move]
      · obtain ⟨u, hu', hcu⟩ := hobj j c hj
        refine ⟨u, ?_, hcu⟩
        have hjl : j < len * z := by rw [← hcl]; exact (List.getElem?_eq_some_iff.1 hj).1
        simp only [List.getElem?_toArray]
        rw [List.append_assoc, List.getElem?_append_left (by simp; omega), List.getElem?_take, if_pos hjl]
        simpa using hu'
      · simp only [List.getElem?_toArray]
        have hjl := (List.getElem?_eq_some_iff.1 hj).1
        rw [List.append_assoc, List.getElem?_append_right (by simp; omega), List.length_take, hal, Nat.min_eq_left harrlen, Nat.add_sub_cancel_left, List.getElem?_append_left hjl]
        exact hj
      · simp only [Conc, Ctx.move, if_true]
        refine ⟨⟨_, _, _, rfl⟩, .inr trivial, fun _ => ⟨cap, 0, rfl, hroom, .inl rfl, fun _ => ⟨_, ty0, setRow_heap C.w (C.ρ m) arr _ ty0 _ harr, ?_⟩⟩⟩
        simp
        omega
    · -- in a new block
      obtain ⟨A1, c1, olds, hv1, _, hn1, hr1⟩ := hs1.news
      rw [chunk_length] at hv1 hr1
      rw [hv] at hv1
      obtain ⟨e1, -, e2⟩ := Value.slice.inj hv1
      subst e1 e2
      have l1 := hn1.length
      rw [flat_length _ hs1.len, chunk_length] at l1
      obtain ⟨cap', zs, hrun, hcap', hzz⟩ := run_append_grows (P := P) (w := C.w) (ty := o.type) hu hu' hi hz0 _ B len cap fs.length c2 olds news
        (fun w' hw => by have := hr1 w' hw; rw [hv] at this; rw [hsz]; exact this) hfz (by omega) hby hA.hm
      rw [chunk_flatten z len cs hcl] at hn1
      refine ⟨_, C.move n m C.w.heap.size (C.w.drew.alloc (.cells (olds.toArray ++ news.toArray ++ zs) e)), run_appendOp hb hty ha ho (by rw [hv, hv2]; exact hrun),
        Post.move (arr' := olds.toArray ++ news.toArray ++ zs) (ty := e) hh hn hg (heap_alloc_new C.w.drew _) (by simp) (fun k hk _ => heap_alloc_old C.w.drew _ hk) (.inr (Nat.le_refl _)) (hLf _ (fun j c hj => ?_) (fun j u hj => ?_)) ?_ rfl rfl rfl⟩
      · obtain ⟨u, hu', hcu⟩ := hn1.get j c hj
        refine ⟨u, ?_, hcu⟩
        have hjl := (List.getElem?_eq_some_iff.1 hu').1
        rw [Array.getElem?_append_left (by simp; omega), Array.getElem?_append_left (by simpa using hjl)]
        simpa using hu'
      · have hjl := (List.getElem?_eq_some_iff.1 hj).1
        rw [Array.getElem?_append_left (by simp; omega), Array.getElem?_append_right (by simp; omega)]
        simp [← l1]
        exact hj
      · simp only [Conc, Ctx.move, if_true]
        refine ⟨⟨_, _, _, rfl⟩, .inr trivial, fun _ => ⟨cap', 0, rfl, hcap', .inl rfl, fun _ => ⟨_, e, heap_alloc_new C.w.drew _, ?_⟩⟩⟩
        have : (len + fs.length) * z + (cap' - (len + fs.length)) * z = cap' * z := by rw [← Nat.add_mul]; congr 1; omega
        rw [Nat.add_mul] at this
        simp [hzz, hzs]
        omega
end

/-! ### Copy -/
def copyN (P : Program) (h : Hp) (ty : TypeId) (s x : AV) : Option (AV × Dl) :=
  match slT P ty with
  | some (_, z) => match elemsA h z x with
    | some fs => match s with
      | .sl m z' off len _ => match hget h m with
        | some cs => if z' = z ∧ fs.length ≤ len ∧ off + fs.length * z ≤ cs.length ∧ fs.flatten.all AV.one = true then some (.sc (.int .i64 fs.length), [(m, some (spliceL cs off fs.flatten))]) else none
        | none => none
      | _ => none
    | none => none
  | none => none
theorem Y_copy {P : Program} {n : Nat} {t : Tp} {h : Hp} {c : Call} {ty xt : TypeId} {s x : Operand} {r : AV} {d : Dl} (hb : c.callee = .builtin .copy) (hty : c.argTypes = #[ty, xt]) (ha : c.args = #[s, x]) (he : copyN P h ty (ev t s) (ev t x) = some (r, d)) : Yields P n (.call c) t h r d :=
  Yields.run fun C a o ho hh ht hn => by
    unfold copyN at he
    split at he
    · rename_i e z hs
      obtain ⟨hu, hz, h0⟩ := slT_some hs
      subst hz
      split at he
      · rename_i fs hf
        split at he
        · rename_i m z' off len own hsv
          split at he
          · rename_i cs hg
            split at he
            · rename_i hc
              obtain ⟨rfl, hle, hfit, h1⟩ := hc
              cases he
              have hc1 := ev_conc ht s
              rw [hsv] at hc1
              simp only [Conc] at hc1
              obtain ⟨cap, of, hv, hlc, hof, _⟩ := hc1.2.2 (hh.get hg)
              have hs2 := elemsA_ok (P := P) hh h0 (ev_conc ht x) hf
              obtain ⟨B, c2, news, hv2, _, hn2, hr2⟩ := hs2.news
              have l2 := hn2.length
              rw [flat_length fs hs2.len] at l2
              obtain ⟨arr, ty0, harr, hobj⟩ := hh.obj m cs hg
              have hal : arr.toList.length = arr.size := by simp
              have hmin : Nat.min fs.length len = fs.length := Nat.min_eq_left hle
              have hfc := hr2 C.w rfl
              rw [hv2] at hfc
              have hcall : ∀ w', (storeCells ⟨C.ρ m, of, none⟩ news).run P C.w = .ok () w' → (execOp a.eval o).run P C.w = .ok (.value (.int .i64 fs.length)) w' := by
                intro w' hst
                rw [run_builtin hb _ _ o ho, hty, ha]
                have hcp : (Builtin.copy_ #[ty, xt] o.type #[a.eval s, a.eval x]).run P C.w = .ok (.int .i64 fs.length) w' := by
                  rw [hv, hv2]
                  simp [Builtin.copy_, run_underlying hu, Builtin.lenOf, hmin, run_size h0, hfc, hst, goInt]
                simp only [builtin, Sem.run_bind, List.map_toArray, List.map_cons, List.map_nil, hcp, Result.andThen_ok]
                rfl
              by_cases hf0 : fs = []
              · subst hf0
                have hnil : news = [] := by simpa using l2.symm
                refine ⟨_, C.same n C.w, hcall C.w (by rw [hnil]; rfl), ?_⟩
                refine Post.mod hh hg harr harr rfl rfl (fun _ _ => rfl) (fun j c hj => ?_) (by simp only [Conc]) rfl rfl rfl
                have e0 : spliceL cs off ([] : List (List AV)).flatten = cs := by simp [spliceL]
                rw [e0] at hj
                exact hobj j c hj
              · have hlen : 0 < fs.length := List.length_pos_iff.2 hf0
                have hof0 : of = off := by
                  rcases hof with h2 | h2
                  · exact h2
                  · omega
                subst hof0
                have hone : ∀ v ∈ news, v.oneCell' = true := fun v hv' => by
                  obtain ⟨k, hk⟩ := List.mem_iff_getElem?.1 hv'
                  have hkl : k < fs.flatten.length := by rw [flat_length fs hs2.len, l2]; exact (List.getElem?_eq_some_iff.1 hk).1
                  obtain ⟨u', hu', hcu⟩ := hn2.get k (fs.flatten[k]) (List.getElem?_eq_getElem hkl)
                  rw [hk] at hu'; cases hu'
                  exact one_conc hcu (List.all_eq_true.1 h1 _ (List.getElem_mem _))
                have hflen : fs.flatten.length = news.length := by rw [flat_length fs hs2.len, l2]
                have hpos : 0 < fs.length * P.cellsOf e := Nat.mul_pos hlen h0
                have hsz : of + news.length ≤ arr.size := by
                  have hlast : cs[of + fs.length * P.cellsOf e - 1]? = some (cs[of + fs.length * P.cellsOf e - 1]'(by omega)) := List.getElem?_eq_getElem _
                  obtain ⟨u, hu, _⟩ := hobj _ _ hlast
                  have := (Array.getElem?_eq_some_iff.1 hu).1
                  omega
                have hst := run_storeCells_at (P := P) (C.ρ m) of ty0 news 0 arr C.w harr (by omega) hone
                rw [Nat.add_zero] at hst
                refine ⟨_, C.same n (C.w.setRow (C.ρ m) (arr.toList.take of ++ news ++ arr.toList.drop (of + news.length)).toArray), hcall _ hst, ?_⟩
                refine Post.mod (arr' := (arr.toList.take of ++ news ++ arr.toList.drop (of + news.length)).toArray) hh hg harr (setRow_heap C.w (C.ρ m) arr _ ty0 _ harr) ?_ (by simp) (fun k hk => ?_) (fun j c hj => ?_) (by simp only [Conc]) rfl rfl rfl
                · simp; omega
                · simp [World.setRow, Array.getElem?_modify, Ne.symm hk]
                · simp only [spliceL, hflen] at hj
                  simp only [List.getElem?_toArray]
                  by_cases hj1 : j < of
                  · rw [List.getElem?_append_left (by simp; omega), List.getElem?_take, if_pos hj1] at hj
                    obtain ⟨u, hu, hcu⟩ := hobj j c hj
                    refine ⟨u, ?_, hcu⟩
                    rw [List.append_assoc, List.getElem?_append_left (by simp; omega), List.getElem?_take, if_pos hj1]
                    simpa using hu
                  · rw [List.getElem?_append_right (by simp; omega)] at hj
                    simp only [List.length_take, Nat.min_eq_left (show of ≤ cs.length by omega)] at hj
                    rw [List.append_assoc, List.getElem?_append_right (by simp; omega)]
                    simp only [List.length_take, Array.length_toList, Nat.min_eq_left (show of ≤ arr.size by omega)]
                    by_cases hj2 : j - of < news.length
                    · rw [List.getElem?_append_left (by omega)] at hj ⊢
                      exact hn2.get _ c hj
                    · rw [List.getElem?_append_right (by omega)] at hj ⊢
                      rw [hflen, List.getElem?_drop] at hj
                      rw [List.getElem?_drop]
                      obtain ⟨u, hu, hcu⟩ := hobj _ c hj
                      exact ⟨u, by simpa using hu, hcu⟩
            · cases he
          · cases he
        · cases he
      · cases he
    · cases he
end Go.Proofs.Aw
