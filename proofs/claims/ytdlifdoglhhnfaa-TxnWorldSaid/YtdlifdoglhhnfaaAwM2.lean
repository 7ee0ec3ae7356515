/- Parts of the logic that the proof runs in, one behind the other. -/
import Derived.Test.YtdlifdoglhhnfaaAwM1
/- The abstract logic, part 15: contracts of functions that write nothing that was there. -/
namespace Go.Proofs.Aw
open Go

/-- New objects, named by the step that makes them, one behind the other. -/
def nd (n : Nat) : Nat → List (List AV) → Dl
  | _, [] => []
  | k, c :: cs => ((n, k), some c) :: nd n (k + 1) cs
def upN (n : Nat) (m : Nm) : Nm := (n, m.2)
theorem hget_nd (n : Nat) : ∀ (cs : List (List AV)) (k : Nat) (h : Hp) (m : Nm), hget (hap (nd n k cs) h) m = if m.1 = n ∧ k ≤ m.2 ∧ m.2 < k + cs.length then cs[m.2 - k]? else hget h m
  | [], k, h, m => by
    simp only [nd, hap, List.length_nil, Nat.add_zero]
    rw [if_neg (by omega)]
  | c :: cs, k, h, m => by
    simp only [nd, hap]
    rw [hget_nd n cs (k + 1) _ m, hget_hset]
    by_cases h1 : m.1 = n
    · by_cases h2 : m.2 = k
      · rw [if_neg (by omega), if_pos (by rw [← h1, ← h2]), if_pos ⟨h1, by omega, by simp; omega⟩, h2, Nat.sub_self]
        rfl
      · have hne : ¬ (n, k) = m := fun e => h2 (by rw [← e])
        rw [if_neg hne]
        by_cases h3 : k + 1 ≤ m.2 ∧ m.2 < k + 1 + cs.length
        · rw [if_pos ⟨h1, h3⟩, if_pos ⟨h1, by omega, by simp; omega⟩, show m.2 - k = m.2 - (k + 1) + 1 from by omega, List.getElem?_cons_succ]
        · rw [if_neg (fun h => h3 h.2), if_neg (by simp; omega)]
    · have hne : ¬ (n, k) = m := fun e => h1 (by rw [← e])
      rw [if_neg (fun h => h1 h.1), if_neg hne, if_neg (fun h => h1 h.1)]
theorem nd_names (n : Nat) : ∀ (cs : List (List AV)) (k : Nat) (m : Nm), m ∈ (nd n k cs).map (·.1) → m.1 = n
  | [], _, m, h => by simp [nd] at h
  | c :: cs, k, m, h => by
    simp only [nd, List.map_cons, List.mem_cons] at h
    rcases h with rfl | h
    · rfl
    · exact nd_names n cs (k + 1) m h

mutual
theorem ren_ren (f g : Nm → Nm) : ∀ v, ren f (ren g v) = ren (fun m => f (g m)) v
  | .top => rfl
  | .sc _ => rfl
  | .agg cs => by simp only [ren, renL_ren f g cs]
  | .tup cs => by simp only [ren, renL_ren f g cs]
  | .ptr _ _ => rfl
  | .sl _ _ _ _ _ => rfl
  | .ip cs _ => by simp only [ren, renL_ren f g cs]
  | .ro _ es _ => by simp only [ren, renE_ren f g es]
  | .fn _ xs ys => by simp only [ren, renL_ren f g xs, renL_ren f g ys]
  | .ifc _ v => by simp only [ren, ren_ren f g v]
theorem renL_ren (f g : Nm → Nm) : ∀ cs, renL f (renL g cs) = renL (fun m => f (g m)) cs
  | [] => rfl
  | c :: cs => by simp only [renL, ren_ren f g c, renL_ren f g cs]
theorem renE_ren (f g : Nm → Nm) : ∀ es, renE f (renE g es) = renE (fun m => f (g m)) es
  | [] => rfl
  | e :: es => by simp only [renE, renL_ren f g e, renE_ren f g es]
end
mutual
theorem nms_up (n : Nat) : ∀ v, nms (fun m => m.1 == n) (ren (upN n) v) = true
  | .top => rfl
  | .sc _ => rfl
  | .agg cs => nmsL_up n cs
  | .tup cs => nmsL_up n cs
  | .ptr _ _ => by simp [ren, nms, upN]
  | .sl _ _ _ _ _ => by simp [ren, nms, upN]
  | .ip cs _ => nmsL_up n cs
  | .ro _ es _ => nmsE_up n es
  | .fn _ xs ys => by simp only [ren, nms, nmsL_up n xs, nmsL_up n ys, Bool.and_self]
  | .ifc _ v => nms_up n v
theorem nmsL_up (n : Nat) : ∀ cs, nmsL (fun m => m.1 == n) (renL (upN n) cs) = true
  | [] => rfl
  | c :: cs => by simp only [renL, nmsL, nms_up n c, nmsL_up n cs, Bool.and_self]
theorem nmsE_up (n : Nat) : ∀ es, nmsE (fun m => m.1 == n) (renE (upN n) es) = true
  | [] => rfl
  | e :: es => by simp only [renE, nmsE, nmsL_up n e, nmsE_up n es, Bool.and_self]
end
mutual
theorem ren_none (f : Nm → Nm) : ∀ v, nms (fun _ => false) v = true → ren f v = v
  | .top, _ => rfl
  | .sc _, _ => rfl
  | .agg cs, h => by simp only [ren, renL_none f cs h]
  | .tup cs, h => by simp only [ren, renL_none f cs h]
  | .ptr _ _, h => by cases h
  | .sl _ _ _ _ _, h => by cases h
  | .ip cs _, h => by simp only [ren, renL_none f cs h]
  | .ro _ es _, h => by simp only [ren, renE_none f es h]
  | .fn _ xs ys, h => by
      simp only [nms, Bool.and_eq_true] at h
      simp only [ren, renL_none f xs h.1, renL_none f ys h.2]
  | .ifc _ v, h => by simp only [ren, ren_none f v h]
theorem renL_none (f : Nm → Nm) : ∀ cs, nmsL (fun _ => false) cs = true → renL f cs = cs
  | [], _ => rfl
  | c :: cs, h => by
      simp only [nmsL, Bool.and_eq_true] at h
      simp only [renL, ren_none f c h.1, renL_none f cs h.2]
theorem renE_none (f : Nm → Nm) : ∀ es, nmsE (fun _ => false) es = true → renE f es = es
  | [], _ => rfl
  | e :: es, h => by
      simp only [nmsE, Bool.and_eq_true] at h
      simp only [renE, renL_none f e h.1, renE_none f es h.2]
end

/-- How a body ends that hands r and new objects back: φ k is the object that becomes the k-th. -/
def RetN (P : Program) (rs : List ResultVar) (φ : Nat → Nm) (r : AV) (news : List (List AV)) (e : Exit) (σ : St) : Prop :=
  (e = .ret ∨ e = .normal) ∧ (resK P σ rs fun vs => oneOf vs = ren (fun m => φ m.2) r) ∧ (∀ k cs, news[k]? = some cs → hget σ.h (φ k) = some (renL (fun m => φ m.2) cs)) ∧ (∀ j k, j < news.length → k < news.length → φ j = φ k → j = k)

theorem TOk_slots {C : Ctx} : ∀ (k : Nat) (args : List AV) (vs : List Value) (tmps : Array Value), ConcL C args vs → (∀ i v, vs[i]? = some v → tmps[k + i]? = some v) → ∀ i, Conc C (tget (slots k args) i) (tmps.getD i undef)
  | _, [], _, _, _, _, i => by simp only [slots, tget, Conc]
  | k, a :: args, vs, tmps, hL, hv, i => by
    simp only [ConcL] at hL
    obtain ⟨u, us, rfl, hc, hl⟩ := hL
    simp only [slots, tget]
    split
    · rename_i hik
      subst hik
      have := hv 0 u rfl
      rw [Nat.add_zero] at this
      simp only [Array.getD_eq_getD_getElem?, this, Option.getD_some]
      exact hc
    · exact TOk_slots (k + 1) args us tmps hl (fun j v hj => by
        have := hv (j + 1) v (by simpa using hj)
        rwa [show k + (j + 1) = k + 1 + j from by omega] at this) i

theorem CY_own {P : Program} {f : FuncId} {fn : Func} {c : Code} {args : List AV} {r : AV} {news : List (List AV)} (φ : Nat → Nm) (hf : P.funcs[f]? = some fn) (hb : fn.body = some c) (hN : args.length ≤ fn.ntmps) (hA : nmsL (fun _ => false) args = true)
    (h : ∀ E : Env, E.N = fn.ntmps → (∀ b, ¬ E.wr b) → (∀ m, ¬ E.c0.kn m) → AW P E c (RetN P fn.results.toList φ r news) ⟨slots 0 args, [], 0⟩) (n : Nat) (h0 : Hp) : CY P n f args h0 (ren (upN n) r) (nd n 0 (news.map (renL (upN n)))) := by
  intro C vs hh hL hn
  refine calls_of_wp hf hb ?_
  -- the body's own context: it knows no name
  let C0 : Ctx := { ρ := C.ρ, bs := C.bs, live := fun _ => False, kn := fun _ => False, mt := C.mt, w := C.w }
  let E : Env := { N := fn.ntmps, w0 := C.w, wr := fun _ => False, mt0 := C.mt, c0 := C0 }
  have hlen : vs.length = args.length := hL.length.symm
  have sub0 : C.sub C0 id (fun _ => false) := ⟨rfl, fun _ _ h => h, fun m hm => (nomatch hm), fun m hm => (nomatch hm)⟩
  have hL0 : ConcL C0 args vs := ConcL.ren sub0 args vs hA (by rw [renL_id]; exact hL)
  have hrel : Rel E ⟨slots 0 args, [], 0⟩ { tmps := vs.toArray ++ Array.replicate (fn.ntmps - vs.toArray.size) undef, defers := [] } C.w := by
    refine ⟨C0, rfl, ⟨⟨fun m => by simp [C0, hget], fun m cs hg => by simp [hget] at hg, fun m m' hm => hm.elim, fun m hm => hm.elim, fun m hm => hm.elim⟩, ?_, ?_, rfl, fun m hm => hm.elim, ⟨rfl, rfl, rfl, Nat.le_refl _, fun _ _ _ => rfl, fun _ _ => Iff.rfl, fun m hm => hm.elim, Ctx.le.refl _⟩⟩⟩
    · refine TOk_slots 0 args vs _ hL0 fun i v hv => ?_
      have hi := (List.getElem?_eq_some_iff.1 hv).1
      rw [Nat.zero_add, Array.getElem?_append_left (by simpa using hi)]
      simpa using hv
    · simp [E]; omega
  refine Code.wp_mono ?_ (h E rfl (fun _ k => k) (fun _ k => k) _ _ hrel)
  rintro e a' w' ⟨σ', ⟨Cb, rfl, hCb⟩, he, hres, hnews, hinj⟩
  obtain ⟨us, u, hrun, hcu, hus⟩ := run_results hCb.heap hCb.t hres
  have hkn0 : ∀ m, C.live m → m.1 ≠ n := fun m hm e => hn m.2 (by have := hh.kn m hm; rwa [show m = (n, m.2) from by rw [← e]] at this)
  -- the caller's context
  let C' : Ctx := { ρ := fun m => if m.1 = n then Cb.ρ (φ m.2) else C.ρ m, bs := fun m => if m.1 = n then Cb.bs (φ m.2) else C.bs m, live := fun m => C.live m ∨ (m.1 = n ∧ m.2 < news.length), kn := fun m => C.kn m ∨ m.1 = n,
                    mt := fun b => (C.mt b ∧ b < C.w.heap.size) ∨ ∃ k, k < news.length ∧ b = Cb.ρ (φ k), w := Cb.w }
  have hsame : ∀ b, b < C.w.heap.size → Cb.w.heap[b]? = C.w.heap[b]? := fun b hb => hCb.frame.same b hb (fun h => h)
  have hlv : ∀ k, k < news.length → Cb.live (φ k) := fun k hk => hCb.heap.get (hnews k _ (List.getElem?_eq_getElem hk))
  have hnew : ∀ k, k < news.length → C.w.heap.size ≤ Cb.ρ (φ k) := fun k hk => by
    rcases Nat.lt_or_ge (Cb.ρ (φ k)) C.w.heap.size with h2 | h2
    · exact (hCb.frame.wr _ (hlv k hk) h2).elim
    · exact h2
  have le : C.le C' := by
    refine ⟨hCb.frame.size, fun b hb _ => hsame b hb, fun b hb hm => ?_, fun _ h => .inl h, fun m hk hl => ?_, fun m hk hl cs ty hc => ?_⟩
    · rcases hm with h1 | ⟨k, hk, h1⟩
      · exact h1.1
      · have := hnew k hk; omega
    · have hm : m.1 ≠ n := fun e => hn m.2 (by rwa [show m = (n, m.2) from by rw [← e]] at hk)
      rcases hl with h1 | h1
      · exact ⟨h1, by simp [C', hm], by simp [C', hm]⟩
      · exact absurd h1.1 hm
    · have hlt : C.ρ m < C.w.heap.size := by
        rcases Nat.lt_or_ge (C.ρ m) C.w.heap.size with h2 | h2
        · exact h2
        · rw [Array.getElem?_eq_none h2] at hc; cases hc
      exact ⟨cs, ty, (hsame _ hlt).trans hc, rfl⟩
  -- what the body knows at its end, in the caller's words
  have sub : Cb.sub C' (fun m => φ m.2) (fun m => m.1 == n) := by
    refine ⟨rfl, fun b hb hm => ?_, fun m hm _ => .inr (by simpa using hm), fun m hm hk hl => ?_⟩
    · rcases hm with h1 | ⟨k, hk, h1⟩
      · exact (hCb.frame.mt b h1.2).2 h1.1
      · rw [h1]; exact hCb.heap.mt _ (hlv k hk)
    · have hm' : m.1 = n := by simpa using hm
      rcases hl with h1 | h1
      · exact absurd hm' (hkn0 m h1)
      · exact ⟨hlv _ h1.2, by simp [C', hm'], by simp [C', hm']⟩
  have hcr : Conc C' (ren (upN n) r) u := by
    refine Conc.ren sub _ u (nms_up n r) ?_
    rw [ren_ren]
    show Conc Cb (ren (fun m => φ m.2) r) u
    rw [← hus]; exact hcu
  have hpost : Post C n h0 (ren (upN n) r) (nd n 0 (news.map (renL (upN n)))) u C' := by
    have hget' : ∀ m, hget (hap (nd n 0 (news.map (renL (upN n)))) h0) m = if m.1 = n ∧ m.2 < news.length then (news.map (renL (upN n)))[m.2]? else hget h0 m := fun m => by
      rw [hget_nd]
      simp only [Nat.zero_le, true_and, Nat.zero_add, List.length_map, Nat.sub_zero]
    refine ⟨le, fun _ => Iff.rfl, ⟨fun m => ?_, fun m cs hg => ?_, fun m m' hm hm' he => ?_, fun m hm => ?_, fun m hm => ?_⟩, hcr, fun b hb _ => hsame b hb, fun b hb => ?_, hCb.frame.os, hCb.frame.tape, hCb.frame.output, fun m hm => ?_, fun m hm => .inr (nd_names _ _ _ _ hm)⟩
    · rw [hget']
      by_cases h1 : m.1 = n ∧ m.2 < news.length
      · rw [if_pos h1]
        simp [C', h1]
      · rw [if_neg h1, ← hh.live m]
        simp only [C', h1, or_false]
    · rw [hget'] at hg
      by_cases h1 : m.1 = n ∧ m.2 < news.length
      · rw [if_pos h1, List.getElem?_map] at hg
        have h2 : news[m.2]? = some news[m.2] := List.getElem?_eq_getElem h1.2
        rw [h2] at hg
        simp only [Option.map_some, Option.some.injEq] at hg
        obtain ⟨arr, ty, ha, hc⟩ := hCb.heap.obj _ _ (hnews _ _ h2)
        refine ⟨arr, ty, by simp only [C', h1.1, if_true]; exact ha, fun j c hj => ?_⟩
        rw [← hg] at hj
        have hx : (renL (fun m => φ m.2) news[m.2])[j]? = some (ren (fun m => φ m.2) c) := by
          have := renL_get (fun m => φ m.2) _ j c hj
          rw [renL_ren] at this
          exact this
        obtain ⟨u', hu', hcu'⟩ := hc j _ hx
        exact ⟨u', by simp only [C', h1.1, if_true]; exact hu', Conc.ren sub c u' (nmsL_get (nmsL_up n _) hj) hcu'⟩
      · rw [if_neg h1] at hg
        have hl := hh.get hg
        obtain ⟨arr, ty, ha, hc⟩ := hh.obj m cs hg
        refine ⟨arr, ty, ?_, fun j c hj => ?_⟩
        · simp only [C', hkn0 m hl, if_false]
          exact (hsame _ (hh.lt hl)).trans ha
        · obtain ⟨u', hu', hcu'⟩ := hc j c hj
          exact ⟨u', by simp only [C', hkn0 m hl, if_false]; exact hu', hcu'.mono le⟩
    · rcases hm with h1 | h1 <;> rcases hm' with h2 | h2
      · simp only [C', hkn0 m h1, hkn0 m' h2, if_false] at he
        exact hh.inj m m' h1 h2 he
      · simp only [C', hkn0 m h1, h2.1, if_false, if_true] at he
        have := hh.lt h1
        have := hnew _ h2.2
        omega
      · simp only [C', hkn0 m' h2, h1.1, if_false, if_true] at he
        have := hh.lt h2
        have := hnew _ h1.2
        omega
      · simp only [C', h1.1, h2.1, if_true] at he
        have e1 := hCb.heap.inj _ _ (hlv _ h1.2) (hlv _ h2.2) he
        have e2 := hinj _ _ h1.2 h2.2 e1
        exact Prod.ext (h1.1.trans h2.1.symm) e2
    · rcases hm with h1 | h1
      · simp only [C', hkn0 m h1, if_false]
        exact .inl ⟨hh.mt m h1, hh.lt h1⟩
      · simp only [C', h1.1, if_true]
        exact .inr ⟨m.2, h1.2, rfl⟩
    · rcases hm with h1 | h1
      · exact .inl (hh.kn m h1)
      · exact .inr h1.1
    · constructor
      · rintro (h1 | ⟨k, hk, h1⟩)
        · exact h1.1
        · have := hnew k hk; omega
      · intro h1; exact .inl ⟨h1, hb⟩
    · rcases hm with h1 | h1
      · exact .inl ⟨h1, by simp only [C', hkn0 m h1, if_false]⟩
      · exact .inr (.inl (by simp only [C', h1.1, if_true]; exact hnew _ h1.2))
  rcases he with rfl | rfl
  · exact ⟨hCb.defers, u, hrun, u, C', rfl, rfl, hpost⟩
  · exact ⟨hCb.defers, u, hrun, u, C', rfl, rfl, hpost⟩

theorem CY_pureO {P : Program} {f : FuncId} {fn : Func} {c : Code} {args : List AV} {r : AV} (hf : P.funcs[f]? = some fn) (hb : fn.body = some c) (hN : args.length ≤ fn.ntmps) (hA : nmsL (fun _ => false) args = true) (hR : nms (fun _ => false) r = true)
    (h : ∀ E : Env, E.N = fn.ntmps → (∀ b, ¬ E.wr b) → (∀ m, ¬ E.c0.kn m) → AW P E c (RetP P fn.results.toList r) ⟨slots 0 args, [], 0⟩) (n : Nat) (h0 : Hp) : CY P n f args h0 r [] := by
  have := CY_own (r := r) (news := []) (fun _ => (0, 0)) hf hb hN hA (fun E hE hw hk => AW_mono (fun e σ hq => ⟨hq.1, by rw [ren_none _ r hR]; exact hq.2, by simp, by simp⟩) (h E hE hw hk)) n h0
  rw [ren_none _ r hR] at this
  exact this
theorem CY_pure {P : Program} {f : FuncId} {fn : Func} {c : Code} {args : List AV} {r : AV} (hf : P.funcs[f]? = some fn) (hb : fn.body = some c) (hN : args.length ≤ fn.ntmps) (hA : nmsL (fun _ => false) args = true) (hR : nms (fun _ => false) r = true)
    (h : ∀ E : Env, E.N = fn.ntmps → AW P E c (RetP P fn.results.toList r) ⟨slots 0 args, [], 0⟩) (n : Nat) (h0 : Hp) : CY P n f args h0 r [] :=
  CY_pureO hf hb hN hA hR (fun E hE _ _ => h E hE) n h0
end Go.Proofs.Aw

/- The abstract logic, part 16: a region that draws its order: one walk in the order of the text serves every order. -/
namespace Go.Proofs.Aw
open Go

/-- An operation that was walked: its slot, what it yielded, how it turned the heap, and which operations it must wait for. -/
structure En where
  dst : Option Tmp
  r : AV
  d : Dl
  ms : Nat

def ent : List En → Nat → Option En
  | [], _ => none
  | e :: es, j => if j = es.length then some e else ent es j
def tview (A : Nat → Bool) : List En → Tp → Tp
  | [], t => t
  | e :: es, t => tput e.dst (if A es.length = true then e.r else .top) (tview A es t)
def hview (A : Nat → Bool) : List En → Hp → Hp
  | [], h => h
  | e :: es, h => if A es.length = true then hap e.d (hview A es h) else hview A es h
def freshD (n : Nat) : Dl → Bool
  | [] => true
  | (m, some _) :: d => m.1 == n && freshD n d
  | (_, none) :: _ => false
def entMk (es : List En) (j : Nat) : Nat := match ent es j with | some e => e.ms | none => 0
def maskE (es : List En) : List Edge → Nat
  | [] => 0
  | e :: l => if Region.binds .any e = true then (2 ^ e.on ||| entMk es e.on) ||| maskE es l else maskE es l

/-- All slots are written once. -/
def once : List Oper → Bool
  | [] => true
  | o :: l => (match o.dst with | some d => l.all fun o' => o'.dst != some d | none => true) && once l
/-- The slots that a region writes are taken out. -/
def tdel (ops : List Oper) : Tp → Tp
  | [] => []
  | p :: t => if ops.any (fun o => o.dst == some p.1) = true then tdel ops t else p :: tdel ops t

/-! ### Look-ups -/
theorem ent_lt : ∀ {es : List En} {j : Nat} {e : En}, ent es j = some e → j < es.length
  | [], j, e, h => by simp [ent] at h
  | x :: es, j, e, h => by
    simp only [ent] at h
    split at h
    · rename_i hj; subst hj; simp
    · have := ent_lt h; simp; omega
theorem ent_some : ∀ {es : List En} {j : Nat}, j < es.length → ∃ e, ent es j = some e
  | [], j, h => by simp at h
  | x :: es, j, h => by
    simp only [ent]
    split
    · exact ⟨x, rfl⟩
    · exact ent_some (by simp at h; omega)
theorem tget_tput (d : Option Tmp) (v : AV) (t : Tp) (x : Nat) : tget (tput d v t) x = if d = some x then v else tget t x := by
  cases d with
  | none => simp [tput]
  | some d => simp [tput, tget]
/-- Either an entry writes the slot, or none does. -/
theorem tget_view (A : Nat → Bool) (t0 : Tp) (x : Nat) : ∀ (es : List En), (∃ j e, ent es j = some e ∧ e.dst = some x ∧ tget (tview A es t0) x = (if A j = true then e.r else .top)) ∨
    ((∀ j e, ent es j = some e → e.dst ≠ some x) ∧ tget (tview A es t0) x = tget t0 x)
  | [] => .inr ⟨fun j e h => by simp [ent] at h, rfl⟩
  | e :: es => by
    simp only [tview, tget_tput]
    by_cases he : e.dst = some x
    · exact .inl ⟨es.length, e, by simp [ent], he, by rw [if_pos he]⟩
    · rw [if_neg he]
      rcases tget_view A t0 x es with ⟨j, e', h1, h2, h3⟩ | ⟨h1, h2⟩
      · exact .inl ⟨j, e', by simp only [ent]; rw [if_neg (by have := ent_lt h1; omega)]; exact h1, h2, h3⟩
      · refine .inr ⟨fun j e' hj => ?_, h2⟩
        simp only [ent] at hj
        split at hj
        · cases hj; exact he
        · exact h1 j e' hj
theorem tget_tdel (ops : List Oper) (x : Nat) : ∀ (t : Tp), tget (tdel ops t) x = if ops.any (fun o => o.dst == some x) = true then .top else tget t x
  | [] => by simp [tdel, tget]
  | (i, v) :: t => by
    simp only [tdel]
    by_cases hi : i = x
    · subst hi
      split
      · rename_i h; rw [tget_tdel ops i t, if_pos h]
      · simp only [tget, if_true]
    · split
      · rw [tget_tdel ops x t]; simp only [tget, hi, if_false]
      · simp only [tget, hi, if_false]; rw [tget_tdel ops x t]

theorem hget_hap (m : Nm) : ∀ (d : Dl) (h : Hp), (m ∈ d.map (·.1) ∧ ∀ h', hget (hap d h) m = hget (hap d h') m) ∨ (m ∉ d.map (·.1) ∧ hget (hap d h) m = hget h m) := by
  intro d h
  by_cases hm : m ∈ d.map (·.1)
  · refine .inl ⟨hm, ?_⟩
    induction d generalizing h with
    | nil => simp at hm
    | cons p d ih =>
      obtain ⟨k, v⟩ := p
      intro h'
      by_cases hd : m ∈ d.map (·.1)
      · cases v <;> exact ih _ hd _
      · have hk : k = m := by
          simp only [List.map_cons, List.mem_cons] at hm
          rcases hm with h1 | h1
          · exact h1.symm
          · exact absurd h1 hd
        subst hk
        cases v with
        | none => simp only [hap]; rw [hget_hap_other d _ _ hd, hget_hap_other d _ _ hd, hget_hdel, hget_hdel]; simp
        | some v => simp only [hap]; rw [hget_hap_other d _ _ hd, hget_hap_other d _ _ hd, hget_hset, hget_hset]; simp
  · exact .inr ⟨hm, hget_hap_other d h m hm⟩
theorem freshD_names {n : Nat} : ∀ {d : Dl}, freshD n d = true → ∀ m ∈ d.map (·.1), m.1 = n
  | [], _, m, h => by simp at h
  | (k, some v) :: d, hf, m, h => by
    simp only [freshD, Bool.and_eq_true, beq_iff_eq] at hf
    simp only [List.map_cons, List.mem_cons] at h
    rcases h with rfl | h
    · exact hf.1
    · exact freshD_names hf.2 m h
  | (k, none) :: d, hf, _, _ => by simp [freshD] at hf

/-- Two lists of entries under which a name is seen alike. -/
theorem hget_view_congr {A B : Nat → Bool} {h0 : Hp} {m : Nm} : ∀ (es : List En), (∀ j e, ent es j = some e → m ∈ e.d.map (·.1) → A j = B j) → hget (hview A es h0) m = hget (hview B es h0) m
  | [], _ => rfl
  | e :: es, h => by
    have ih := hget_view_congr (A := A) (B := B) (h0 := h0) (m := m) es fun j e' hj hm => h j e' (by simp only [ent]; rw [if_neg (by have := ent_lt hj; omega)]; exact hj) hm
    simp only [hview]
    by_cases hm : m ∈ e.d.map (·.1)
    · have hab := h es.length e (by simp [ent]) hm
      rw [hab]
      split
      · rcases hget_hap m e.d (hview A es h0) with ⟨_, h1⟩ | ⟨h1, _⟩
        · exact h1 _
        · exact absurd hm h1
      · exact ih
    · have e1 : ∀ h, hget (hap e.d h) m = hget h m := fun h => hget_hap_other e.d h m hm
      split <;> split <;> simp only [e1, ih]

/-! ### What a walk has shown -/
/-- What an operation yields, seen so: wanted, or left out. -/
def YieldsG (P : Program) (ops : List Oper) (n : Nat) (o : Oper) (t : Tp) (h : Hp) (r : AV) (d : Dl) : Prop :=
  (o.guard = none ∧ Yields P n o.op t h r d) ∨
    (∃ j want b, o.guard = some (j, want) ∧ yv ops t j = .sc (.bool b) ∧ b = want ∧ Yields P n o.op t h r d) ∨
    (∃ j want, o.guard = some (j, want) ∧ ((∃ b, yv ops t j = .sc (.bool b) ∧ b ≠ want) ∨ ∃ x, yv ops t j = .sc (.tuple x)) ∧ r = .sc undef ∧ d = [])
/-- One object turns, or one goes and a new one comes. -/
def LateD (n : Nat) (d : Dl) : Prop := (∃ m cs, d = [(m, some cs)]) ∨ ∃ m q cs, d = [(m, none), (q, some cs)] ∧ m.1 ≠ n ∧ q.1 = n
/-- A write that need not wait for all ahead of it: those that it does not wait for yield behind it what they yield ahead of it. -/
def Later (P : Program) (ops : List Oper) (nx : Nat) (t0 : Tp) (h0 : Hp) (es : List En) (e : En) : Prop :=
  LateD (nx + es.length) e.d ∧ ∀ k ek o, k < es.length → e.ms.testBit k = false → ent es k = some ek → ops[k]? = some o →
    ek.d = [] ∧ YieldsG P ops (nx + k) o (tview ((ek.ms ||| e.ms) ||| 2 ^ es.length).testBit (e :: es) t0) (hview ((ek.ms ||| e.ms) ||| 2 ^ es.length).testBit (e :: es) h0) ek.r []
/-- An operation that only reads need not wait for a write, where it yields the same behind it. -/
def Early (P : Program) (ops : List Oper) (nx : Nat) (t0 : Tp) (h0 : Hp) (es : List En) (e : En) (o : Oper) (j : Nat) (e' : En) : Prop :=
  e.d = [] ∧ YieldsG P ops (nx + es.length) o (tview ((e.ms ||| e'.ms) ||| 2 ^ j).testBit es t0) (hview ((e.ms ||| e'.ms) ||| 2 ^ j).testBit es h0) e.r []
structure Shown (P : Program) (ops : List Oper) (nx : Nat) (t0 : Tp) (h0 : Hp) (es : List En) (e : En) (o : Oper) : Prop where
  dst : e.dst = o.dst
  mask : e.ms = maskE es o.after.toList
  lt : e.ms < 2 ^ es.length
  yields : (o.guard = none ∧ Yields P (nx + es.length) o.op (tview e.ms.testBit es t0) (hview e.ms.testBit es h0) e.r e.d) ∨
    (∃ j want b, o.guard = some (j, want) ∧ yv ops (tview e.ms.testBit es t0) j = .sc (.bool b) ∧ b = want ∧ Yields P (nx + es.length) o.op (tview e.ms.testBit es t0) (hview e.ms.testBit es h0) e.r e.d) ∨
    (∃ j want, o.guard = some (j, want) ∧ ((∃ b, yv ops (tview e.ms.testBit es t0) j = .sc (.bool b) ∧ b ≠ want) ∨ ∃ x, yv ops (tview e.ms.testBit es t0) j = .sc (.tuple x)) ∧ e.r = .sc undef ∧ e.d = [])
  fresh : freshD (nx + es.length) e.d = true ∨ e.ms + 1 = 2 ^ es.length ∨ Later P ops nx t0 h0 es e
  waits : ∀ j e', ent es j = some e' → freshD (nx + j) e'.d = false → e.ms.testBit j = true ∨ Early P ops nx t0 h0 es e o j e'
def Walked (P : Program) (ops : List Oper) (nx : Nat) (t0 : Tp) (h0 : Hp) : List En → Prop
  | [] => True
  | e :: es => Walked P ops nx t0 h0 es ∧ ∃ o, ops[es.length]? = some o ∧ Shown P ops nx t0 h0 es e o

end Go.Proofs.Aw

/- The abstract logic, part 17: whatever order is drawn, it comes to what the walk in the order of the text has shown. -/
namespace Go.Proofs.Aw
open Go

theorem Walked.get {P : Program} {ops : List Oper} {nx : Nat} {t0 : Tp} {h0 : Hp} : ∀ {es : List En}, Walked P ops nx t0 h0 es → ∀ {j : Nat} {e : En}, ent es j = some e →
    ∃ es' o, es'.length = j ∧ (∀ k, k < j → ent es' k = ent es k) ∧ ops[j]? = some o ∧ Shown P ops nx t0 h0 es' e o ∧ (∀ (A : Nat → Bool), (∀ k, j ≤ k → A k = false) → hview A es h0 = hview A es' h0) ∧ (∀ A : Nat → Bool, A j = true → (∀ k, j < k → A k = false) → hview A es h0 = hap e.d (hview A es' h0))
  | [], _, j, e, h => by simp [ent] at h
  | x :: es, ⟨hw, o, ho, hs⟩, j, e, h => by
    simp only [ent] at h
    split at h
    · rename_i hj
      cases h
      subst hj
      refine ⟨es, o, rfl, fun k hk => by simp only [ent]; rw [if_neg (by omega)], ho, hs, fun A hA => ?_, fun A hA _ => ?_⟩
      · simp only [hview]; rw [hA _ (Nat.le_refl _)]; rfl
      · simp only [hview]; rw [if_pos hA]
    · have hlt := ent_lt h
      obtain ⟨es', o', h1, h2, h3, h4, h5, h6⟩ := Walked.get hw h
      refine ⟨es', o', h1, fun k hk => by rw [h2 k hk]; simp only [ent]; rw [if_neg (by omega)], h3, h4, fun A hA => ?_, fun A hA hA' => ?_⟩
      · simp only [hview]; rw [hA es.length (by omega)]; exact h5 A hA
      · simp only [hview]; rw [hA' es.length hlt]; exact h6 A hA hA'

theorem maskE_bit {es : List En} {k : Nat} : ∀ {l : List Edge}, (maskE es l).testBit k = true ↔ ∃ e ∈ l, Region.binds .any e = true ∧ (e.on = k ∨ (entMk es e.on).testBit k = true)
  | [] => by simp [maskE]
  | e :: l => by
    simp only [maskE]
    split
    · rename_i hb
      rw [Nat.testBit_or, Nat.testBit_or, Bool.or_eq_true, Bool.or_eq_true, maskE_bit (l := l), Nat.testBit_two_pow, decide_eq_true_eq]
      constructor
      · rintro ((h | h) | ⟨e', h1, h2⟩)
        · exact ⟨e, List.mem_cons_self, hb, .inl h⟩
        · exact ⟨e, List.mem_cons_self, hb, .inr h⟩
        · exact ⟨e', List.mem_cons_of_mem _ h1, h2⟩
      · rintro ⟨e', h1, h2, h3⟩
        rcases List.mem_cons.1 h1 with rfl | h1
        · exact .inl h3
        · exact .inr ⟨e', h1, h2, h3⟩
    · rename_i hb
      rw [maskE_bit (l := l)]
      constructor
      · rintro ⟨e', h1, h2⟩; exact ⟨e', List.mem_cons_of_mem _ h1, h2⟩
      · rintro ⟨e', h1, h2, h3⟩
        rcases List.mem_cons.1 h1 with rfl | h1
        · exact absurd h2 hb
        · exact ⟨e', h1, h2, h3⟩

theorem once_spec : ∀ {ops : List Oper}, once ops = true → ∀ {j k : Nat} {o o' : Oper} {x : Nat}, ops[j]? = some o → ops[k]? = some o' → o.dst = some x → o'.dst = some x → j = k
  | [], _, j, k, o, o', x, h, _, _, _ => by simp at h
  | p :: l, ho, j, k, o, o', x, hj, hk, hx, hx' => by
    simp only [once, Bool.and_eq_true] at ho
    cases j with
    | zero =>
      cases k with
      | zero => rfl
      | succ k =>
        simp at hj hk
        subst hj
        have := ho.1
        rw [hx] at this
        have h1 := List.all_eq_true.1 this o' (List.mem_of_getElem? hk)
        simp [hx'] at h1
    | succ j =>
      cases k with
      | zero =>
        simp at hj hk
        subst hk
        have := ho.1
        rw [hx'] at this
        have h1 := List.all_eq_true.1 this o (List.mem_of_getElem? hj)
        simp [hx] at h1
      | succ k => exact congrArg (· + 1) (once_spec ho.2 (by simpa using hj) (by simpa using hk) hx hx')
theorem fits_spec {N : Nat} {ops : List Oper} (h : fits N ops = true) {j : Nat} {o : Oper} (hj : ops[j]? = some o) : ∀ x, o.dst = some x → x < N := fun x hx => by
  have := List.all_eq_true.1 h o (List.mem_of_getElem? hj)
  rw [hx] at this
  simpa [Nat.blt_eq] using this

/-- What is fixed while the orders are gone through. -/
structure Fixed (P : Program) (E : Env) (ops : List Oper) (nx : Nat) (t0 : Tp) (h0 : Hp) (es : List En) : Prop where
  walked : Walked P ops nx t0 h0 es
  len : es.length = ops.length
  once : once ops = true
  fits : fits E.N ops = true
  top : ∀ o ∈ ops, ∀ x, o.dst = some x → tget t0 x = .top

/-- The world as those see it who wait for the operations of A alone. -/
def Ctx.at_ (C : Ctx) (nx : Nat) (h0 : Hp) (es : List En) (A : Nat → Bool) : Ctx :=
  { ρ := C.ρ, bs := C.bs, live := fun m => (hget (hview A es h0) m).isSome = true, kn := fun m => m.1 < nx ∨ ∃ j, A j = true ∧ m.1 = nx + j, mt := C.mt, w := C.w }

section
variable {P : Program} {E : Env} {ops : List Oper} {nx : Nat} {t0 : Tp} {h0 : Hp} {es : List En}

theorem Fixed.entry (F : Fixed P E ops nx t0 h0 es) {j : Nat} {o : Oper} (ho : ops[j]? = some o) : ∃ e, ent es j = some e ∧ e.dst = o.dst := by
  have hj := (List.getElem?_eq_some_iff.1 ho).1
  obtain ⟨e, he⟩ := ent_some (es := es) (j := j) (by rw [F.len]; exact hj)
  obtain ⟨es', o', h1, h2, h3, h4, _⟩ := F.walked.get he
  rw [ho] at h3; cases h3
  exact ⟨e, he, h4.dst⟩
theorem Fixed.op (F : Fixed P E ops nx t0 h0 es) {j : Nat} {e : En} (he : ent es j = some e) : ∃ o, ops[j]? = some o ∧ e.dst = o.dst := by
  obtain ⟨es', o', h1, h2, h3, h4, _⟩ := F.walked.get he
  exact ⟨o', h3, h4.dst⟩
/-- A slot that operation i writes. -/
theorem Fixed.tget_dst (F : Fixed P E ops nx t0 h0 es) (A : Nat → Bool) {i : Nat} {e : En} {x : Nat} (he : ent es i = some e) (hx : e.dst = some x) : tget (tview A es t0) x = if A i = true then e.r else .top := by
  rcases tget_view A t0 x es with ⟨j, e', h1, h2, h3⟩ | ⟨h1, _⟩
  · obtain ⟨o, ho, hd⟩ := F.op he
    obtain ⟨o', ho', hd'⟩ := F.op h1
    have hij := once_spec F.once ho ho' (hd ▸ hx) (hd' ▸ h2)
    subst hij
    rw [he] at h1; cases h1
    exact h3
  · exact absurd hx (h1 i e he)
/-- Views that differ in operations that do not write the slot. -/
theorem Fixed.tget_congr (F : Fixed P E ops nx t0 h0 es) {A B : Nat → Bool} {x : Nat} (h : ∀ j e, ent es j = some e → e.dst = some x → A j = B j) : tget (tview A es t0) x = tget (tview B es t0) x := by
  rcases tget_view A t0 x es with ⟨j, e, h1, h2, h3⟩ | ⟨h1, h2⟩
  · rw [F.tget_dst A h1 h2, F.tget_dst B h1 h2, h j e h1 h2]
  · rcases tget_view B t0 x es with ⟨j, e, h3, h4, _⟩ | ⟨_, h4⟩
    · exact absurd h4 (h1 j e h3)
    · rw [h2, h4]
/-- The view of an operation, as it was walked. -/
theorem Fixed.tget_walk (F : Fixed P E ops nx t0 h0 es) {es' : List En} {j : Nat} (hl : es'.length = j) (he : ∀ k, k < j → ent es' k = ent es k) {A : Nat → Bool} (hA : ∀ k, j ≤ k → A k = false) (x : Nat) : tget (tview A es' t0) x = tget (tview A es t0) x := by
  rcases tget_view A t0 x es' with ⟨k, e, h1, h2, h3⟩ | ⟨h1, h2⟩
  · have hk := ent_lt h1
    rw [hl] at hk
    rw [he k hk] at h1
    rw [h3, F.tget_dst A h1 h2]
  · rcases tget_view A t0 x es with ⟨k, e, h3, h4, h5⟩ | ⟨_, h4⟩
    · rcases Nat.lt_or_ge k j with hk | hk
      · exact absurd h4 (h1 k e (by rw [he k hk]; exact h3))
      · rw [h2, h5, hA k hk]
        obtain ⟨o, ho, hd⟩ := F.op h3
        exact F.top o (List.mem_of_getElem? ho) x (hd ▸ h4)
    · rw [h2, h4]

theorem entMk_of {es : List En} {j : Nat} {e : En} (h : ent es j = some e) : entMk es j = e.ms := by simp [entMk, h]
theorem Fixed.mask (F : Fixed P E ops nx t0 h0 es) {j : Nat} {e : En} {o : Oper} (he : ent es j = some e) (ho : ops[j]? = some o) :
    (∀ k, e.ms.testBit k = true → k < j) ∧ (∀ ed ∈ o.after, Region.binds .any ed = true → e.ms.testBit ed.on = true) ∧
    (∀ k, e.ms.testBit k = true → ∃ ed ∈ o.after, Region.binds .any ed = true ∧ (ed.on = k ∨ ∃ e', ent es ed.on = some e' ∧ e'.ms.testBit k = true)) ∧
    (∀ ed ∈ o.after, Region.binds .any ed = true → ∀ e', ent es ed.on = some e' → ∀ m, e'.ms.testBit m = true → e.ms.testBit m = true) := by
  obtain ⟨es', o', h1, h2, h3, h4, _⟩ := F.walked.get he
  rw [ho] at h3; cases h3
  have hlt : ∀ k, e.ms.testBit k = true → k < j := fun k hk => by
    rcases Nat.lt_or_ge k j with h | h
    · exact h
    · have := Nat.testBit_lt_two_pow (x := e.ms) (i := k) (Nat.lt_of_lt_of_le (by rw [← h1]; exact h4.lt) (Nat.pow_le_pow_right (by omega) h))
      rw [hk] at this; cases this
  have hin : ∀ ed ∈ o.after, Region.binds .any ed = true → e.ms.testBit ed.on = true := fun ed hed hb => by
    rw [h4.mask]
    exact maskE_bit.2 ⟨ed, by simpa using hed, hb, .inl rfl⟩
  refine ⟨hlt, hin, fun k hk => ?_, fun ed hed hb e' he' m hm => ?_⟩
  · rw [h4.mask] at hk
    obtain ⟨ed, hed, hb, hor⟩ := maskE_bit.1 hk
    refine ⟨ed, by simpa using hed, hb, ?_⟩
    rcases hor with h | h
    · exact .inl h
    · refine .inr ?_
      unfold entMk at h
      cases hx : ent es' ed.on with
      | none => rw [hx] at h; simp at h
      | some e' =>
        rw [hx] at h
        have hlt' := ent_lt hx
        rw [h1] at hlt'
        rw [h2 _ hlt'] at hx
        exact ⟨e', hx, h⟩
  · have hl := hlt _ (hin ed hed hb)
    have hx : ent es' ed.on = some e' := by rw [h2 _ hl]; exact he'
    rw [h4.mask]
    exact maskE_bit.2 ⟨ed, by simpa using hed, hb, .inr (by rw [entMk_of hx]; exact hm)⟩
/-- What an operation waits for waits for no more than it does. -/
theorem Fixed.trans (F : Fixed P E ops nx t0 h0 es) : ∀ (j : Nat) {k : Nat} {e e' : En}, ent es j = some e → e.ms.testBit k = true → ent es k = some e' → ∀ m, e'.ms.testBit m = true → e.ms.testBit m = true := by
  intro j
  induction j using Nat.strongRecOn with
  | _ j ih =>
    intro k e e' he hk he' m hm
    obtain ⟨o, ho, _⟩ := F.op he
    obtain ⟨hlt, hin, hex, hsub⟩ := F.mask he ho
    obtain ⟨ed, hed, hb, hor⟩ := hex k hk
    rcases hor with h | ⟨e1, he1, hk1⟩
    · subst h; exact hsub ed hed hb e' he' m hm
    · exact hsub ed hed hb e1 he1 m (ih ed.on (hlt _ (hin ed hed hb)) he1 hk1 he' m hm)

theorem hview_congr {A B : Nat → Bool} {h0 : Hp} : ∀ (es : List En), (∀ j, j < es.length → A j = B j) → hview A es h0 = hview B es h0
  | [], _ => rfl
  | e :: es, h => by
    simp only [hview]
    rw [hview_congr es (fun j hj => h j (by simp; omega)), h es.length (by simp)]
theorem tview_congr {A B : Nat → Bool} {t0 : Tp} : ∀ (es : List En), (∀ j, j < es.length → A j = B j) → tview A es t0 = tview B es t0
  | [], _ => rfl
  | e :: es, h => by
    simp only [tview]
    rw [tview_congr es (fun j hj => h j (by simp; omega)), h es.length (by simp)]

theorem hview_congr' {A B : Nat → Bool} {h0 : Hp} : ∀ (es : List En), (∀ j e, ent es j = some e → e.d ≠ [] → A j = B j) → hview A es h0 = hview B es h0
  | [], _ => rfl
  | e :: es, h => by
    have ih := hview_congr' (A := A) (B := B) (h0 := h0) es (fun j e' hj hn => h j e' (by simp only [ent]; rw [if_neg (by have := ent_lt hj; omega)]; exact hj) hn)
    simp only [hview]
    rw [ih]
    by_cases hd : e.d = []
    · rw [hd]; simp only [hap, ite_self]
    · rw [h es.length e (by simp [ent]) hd]
/-- The operations of L are done; A has seen as much of them as it must. -/
structure Adm (nx : Nat) (es : List En) (L A : Nat → Bool) : Prop where
  sub : ∀ j, A j = true → L j = true
  closed : ∀ j e, A j = true → ent es j = some e → ∀ k, e.ms.testBit k = true → A k = true
  bars : ∀ j e, L j = true → ent es j = some e → freshD (nx + j) e.d = false → A j = true
structure InvD (E : Env) (nx : Nat) (t0 : Tp) (h0 : Hp) (es : List En) (L : Nat → Bool) (C : Ctx) (a : Act) : Prop where
  lt : ∀ j, L j = true → j < es.length
  closed : ∀ j e, L j = true → ent es j = some e → ∀ k, e.ms.testBit k = true → L k = true
  names : ∀ j e, L j = true → ent es j = some e → ∀ m ∈ e.d.map (·.1), m.1 < nx ∨ ∃ k, (k = j ∨ e.ms.testBit k = true) ∧ m.1 = nx + k
  size : a.tmps.size = E.N
  defers : a.defers = []
  ok : ∀ A, Adm nx es L A → HeapOk (C.at_ nx h0 es A) (hview A es h0) ∧ TOk (C.at_ nx h0 es A) (tview A es t0) a ∧ FrameOk E (C.at_ nx h0 es A)

def addL (L : Nat → Bool) (i : Nat) : Nat → Bool := fun j => L j || j == i
theorem addL_iff {L : Nat → Bool} {i j : Nat} : addL L i j = true ↔ L j = true ∨ j = i := by simp [addL]

/-- The context behind operation i. -/
def Ctx.next (C C' : Ctx) (n : Nat) : Ctx := { C' with ρ := fun m => if m.1 = n then C'.ρ m else C.ρ m, bs := fun m => if m.1 = n then C'.bs m else C.bs m }

theorem FrameOk.of {E : Env} {C C' : Ctx} (h : FrameOk E C) (hw : C'.w = C.w) (hm : C'.mt = C.mt) (hle : E.c0.le C') (hr : ∀ n, C'.live n → C'.ρ n < E.w0.heap.size → E.wr (C'.ρ n)) : FrameOk E C' where
  os := by rw [hw]; exact h.os
  tape := by rw [hw]; exact h.tape
  output := by rw [hw]; exact h.output
  size := by rw [hw]; exact h.size
  same b hb hn := by rw [hw]; exact h.same b hb hn
  mt b hb := by rw [hm]; exact h.mt b hb
  wr := hr
  le := hle

theorem InvD.step (F : Fixed P E ops nx t0 h0 es) {L : Nat → Bool} {C : Ctx} {a : Act} (I : InvD E nx t0 h0 es L C a) {i : Nat} {e : En} {o : Oper} (he : ent es i = some e) (ho : ops[i]? = some o) (hiL : L i = false)
    (hin : ∀ k, e.ms.testBit k = true → L k = true) {es' : List En} (hl' : es'.length = i) (he' : ∀ k, k < i → ent es' k = ent es k) (hs : Shown P ops nx t0 h0 es' e o)
    (h6 : ∀ A : Nat → Bool, A i = true → (∀ k, i < k → A k = false) → hview A es h0 = hap e.d (hview A es' h0)) (h5 : hview e.ms.testBit es h0 = hview e.ms.testBit es' h0) {u : Value} {C' : Ctx} (hadm : Adm nx es L e.ms.testBit)
    (hp : Post (C.at_ nx h0 es e.ms.testBit) (nx + i) (hview e.ms.testBit es' h0) e.r e.d u C') (hfull : freshD (nx + i) e.d = false → e.ms + 1 = 2 ^ es'.length) (hlt : freshD (nx + i) e.d = false → ∀ k, L k = true → k < i ∨ ∃ ek, ent es k = some ek ∧ ek.d = []) :
    InvD E nx t0 h0 es (addL L i) (C.next C' (nx + i)) (a.put o.dst u) := by
  obtain ⟨mlt, _, _, _⟩ := F.mask he ho
  have hi : i < es.length := ent_lt he
  obtain ⟨hH, hT, hF⟩ := I.ok _ hadm
  have hFr : FrameOk E C' := hF.step hp
  have nameI : ∀ m ∈ e.d.map (·.1), m.1 < nx ∨ ∃ k, (k = i ∨ e.ms.testBit k = true) ∧ m.1 = nx + k := fun m hm => by
    rcases hp.names m hm with h | h
    · rcases hH.kn m h with h | ⟨k, hk, h⟩
      · exact .inl h
      · exact .inr ⟨k, .inr hk, h⟩
    · exact .inr ⟨i, .inl rfl, h⟩
  have notKnown : ∀ m : Nm, m.1 = nx + i → ¬ (C.at_ nx h0 es e.ms.testBit).kn m := fun m hm h => by
    rcases h with h | ⟨k, hk, h⟩
    · omega
    · have := mlt k hk; omega
  have mlt' : ∀ k, i ≤ k → e.ms.testBit k = false := fun k hk => by
    cases h : e.ms.testBit k with
    | false => rfl
    | true => have := mlt k h; omega
  -- names of operation i, as A' sees them
  have seeNew : ∀ A' : Nat → Bool, A' i = true → (∀ j, A' j = true → addL L i j = true) → (∀ k, e.ms.testBit k = true → A' k = true) → ∀ m : Nm, m.1 = nx + i → hget (hview A' es h0) m = hget (hap e.d (hview e.ms.testBit es' h0)) m := by
    intro A' hA' hsub hms m hm
    have e1 : hget (hview A' es h0) m = hget (hview (addL e.ms.testBit i) es h0) m := hget_view_congr es fun j ej hej hmj => by
      by_cases hji : j = i
      · subst hji; rw [hA', (addL_iff.2 (.inr rfl) : addL e.ms.testBit j j = true)]
      · have hno : L j = false := by
          cases hLj : L j with
          | false => rfl
          | true =>
            rcases I.names j ej hLj hej m hmj with h | ⟨k, hk, h⟩
            · omega
            · have hki : k = i := by omega
              subst hki
              rcases hk with hk | hk
              · exact absurd hk.symm hji
              · rw [I.closed j ej hLj hej _ hk] at hiL; cases hiL
        have h1 : A' j = false := by
          cases h : A' j with
          | false => rfl
          | true => rcases addL_iff.1 (hsub j h) with h | h
                    · rw [hno] at h; cases h
                    · exact absurd h hji
        have h2 : addL e.ms.testBit i j = false := by
          cases h : addL e.ms.testBit i j with
          | false => rfl
          | true => rcases addL_iff.1 h with h | h
                    · rw [hin j h] at hno; cases hno
                    · exact absurd h hji
        rw [h1, h2]
    rw [e1, h6 _ (addL_iff.2 (.inr rfl)) (fun k hk => by
      cases h : addL e.ms.testBit i k with
      | false => rfl
      | true => rcases addL_iff.1 h with h | h
                · rw [mlt' k (by omega)] at h; cases h
                · omega), hview_congr (A := addL e.ms.testBit i) (B := e.ms.testBit) es' (fun k hk => by
      rw [hl'] at hk
      simp [addL, Nat.ne_of_lt hk])]
  have putOther : ∀ x, o.dst ≠ some x → (a.put o.dst u).tmps.getD x undef = a.tmps.getD x undef := fun x hx => by
    cases hd : o.dst with
    | none => simp [Act.put]
    | some d =>
      have hdx : d ≠ x := fun h => hx (by rw [hd, h])
      simp [Act.put, Array.getD_eq_getD_getElem?, Array.getElem?_setIfInBounds_ne hdx]
  have putSelf : ∀ x, o.dst = some x → (a.put o.dst u).tmps.getD x undef = u := fun x hx => by
    have hj : x < a.tmps.size := by rw [I.size]; exact fits_spec F.fits ho x hx
    rw [hx]
    simp [Act.put, Array.getD, hj]
  have seeSlot : ∀ A' A : Nat → Bool, (∀ j, j ≠ i → A j = A' j) → ∀ x, o.dst ≠ some x → tget (tview A' es t0) x = tget (tview A es t0) x := fun A' A hAA x hx => F.tget_congr fun j ej hej hd => by
    refine (hAA j fun hji => hx ?_).symm
    subst hji
    rw [he] at hej; cases hej
    rw [← hs.dst]; exact hd
  refine ⟨fun j hj => ?_, fun j ej hj hej k hk => ?_, fun j ej hj hej m hm => ?_, by rw [put_size]; exact I.size, by rw [put_defers]; exact I.defers, fun A' hA' => ?_⟩
  · rcases addL_iff.1 hj with h | h
    · exact I.lt j h
    · omega
  · rcases addL_iff.1 hj with h | h
    · exact addL_iff.2 (.inl (I.closed j ej h hej k hk))
    · subst h; rw [he] at hej; cases hej; exact addL_iff.2 (.inl (hin k hk))
  · rcases addL_iff.1 hj with h | h
    · exact I.names j ej h hej m hm
    · subst h; rw [he] at hej; cases hej; exact nameI m hm
  · cases hfr : freshD (nx + i) e.d with
    | false =>
      -- a barrier: all before it are done, none behind it
      have hmk : e.ms = 2 ^ i - 1 := by
        have := hfull hfr
        rw [← hl']; omega
      have bit : ∀ k, k < i → e.ms.testBit k = true := fun k hk => by rw [hmk, Nat.testBit_two_pow_sub_one]; simpa using hk
      have hAi : A' i = true := hA'.bars i e (addL_iff.2 (.inr rfl)) he hfr
      have hAlt : ∀ k, k < i → A' k = true := fun k hk => hA'.closed i e hAi he k (bit k hk)
      -- what is done behind it only reads
      have hAgt : ∀ k ek, i < k → A' k = true → ent es k = some ek → ek.d = [] := fun k ek hk h hek => by
        rcases addL_iff.1 (hA'.sub k h) with h | h
        · rcases hlt hfr k h with h | ⟨e2, h2, h3⟩
          · omega
          · rw [hek] at h2; cases h2; exact h3
        · omega
      have hview' : hview A' es h0 = hap e.d (hview e.ms.testBit es' h0) := by
        rw [hview_congr' (A := A') (B := fun k => A' k && decide (k ≤ i)) es (fun k ek hek hne => by
          by_cases hk : k ≤ i
          · simp [hk]
          · cases h : A' k with
            | false => simp
            | true => exact absurd (hAgt k ek (by omega) h hek) hne)]
        rw [h6 _ (by simp [hAi]) (fun k hk => by simp; omega), hview_congr (A := fun k => A' k && decide (k ≤ i)) (B := e.ms.testBit) es' (fun k hk => by rw [hl'] at hk; simp [hAlt k hk, bit k hk, show k ≤ i by omega])]
      have le2 : C'.le ((C.next C' (nx + i)).at_ nx h0 es A') := by
        refine ⟨Nat.le_refl _, fun _ _ _ => rfl, fun _ _ h => h, fun m hm => ?_, fun m hm hl => ?_, fun _ _ _ cs ty h => ⟨cs, ty, h, rfl⟩⟩
        · rcases (hp.kn m).1 hm with (h | ⟨k, hk, h⟩) | h
          · exact .inl h
          · exact .inr ⟨k, hAlt k (mlt k hk), h⟩
          · exact .inr ⟨i, hAi, h⟩
        · have hl' : C'.live m := by
            refine (hp.heap.live m).2 ?_
            have : (hget (hview A' es h0) m).isSome = true := hl
            rwa [hview'] at this
          refine ⟨hl', ?_⟩
          simp only [Ctx.at_, Ctx.next]
          by_cases hne : m.1 = nx + i
          · rw [if_pos hne, if_pos hne]; exact ⟨rfl, rfl⟩
          · rw [if_neg hne, if_neg hne]
            have q := (hp.le.live m (((hp.kn m).1 hm).resolve_right hne) hl').2
            exact ⟨q.1.symm, q.2.symm⟩
      have live' : ∀ m, ((C.next C' (nx + i)).at_ nx h0 es A').live m ↔ C'.live m := fun m => by
        rw [hp.heap.live m, ← hview']; exact Iff.rfl
      refine ⟨?_, fun x => ?_, ?_⟩
      · rw [hview']
        exact hp.heap.mono le2 live' (fun _ _ => rfl) (fun _ h _ => h)
      · by_cases hx : o.dst = some x
        · rw [F.tget_dst A' he (by rw [hs.dst]; exact hx), if_pos hAi, putSelf x hx]
          exact hp.val.mono le2
        · -- the view without i
          let A : Nat → Bool := fun j => A' j && !(j == i)
          have hAdef : ∀ j, A j = true ↔ A' j = true ∧ j ≠ i := fun j => by simp [A]
          have hA : Adm nx es L A := by
            refine ⟨fun j hj => ?_, fun j ej hj hej k hk => ?_, fun j ej hj hej hf => (hAdef j).2 ⟨hA'.bars j ej (addL_iff.2 (.inl hj)) hej hf, fun h => ?_⟩⟩
            · obtain ⟨h1, h2⟩ := (hAdef j).1 hj
              exact (addL_iff.1 (hA'.sub j h1)).resolve_right h2
            · obtain ⟨h1, h2⟩ := (hAdef j).1 hj
              refine (hAdef k).2 ⟨hA'.closed j ej h1 hej k hk, fun h => ?_⟩
              subst h
              rw [I.closed j ej ((addL_iff.1 (hA'.sub j h1)).resolve_right h2) hej _ hk] at hiL; cases hiL
            · subst h; rw [hiL] at hj; cases hj
          obtain ⟨_, oT, _⟩ := I.ok A hA
          have sameH : hview A es h0 = hview e.ms.testBit es h0 := hview_congr' es fun k ek hek hne => by
            rcases Nat.lt_trichotomy k i with h | h | h
            · rw [bit k h]; exact (hAdef k).2 ⟨hAlt k h, by omega⟩
            · subst h; rw [mlt' k (Nat.le_refl _)]; simp [A]
            · rw [mlt' k (by omega)]
              cases h2 : A' k with
              | false => simp [A, h2]
              | true => exact absurd (hAgt k ek h h2 hek) hne
          have known : ∀ m, (C.at_ nx h0 es A).kn m → ((C.next C' (nx + i)).at_ nx h0 es A').live m → (C.at_ nx h0 es e.ms.testBit).kn m := fun m hm hl => by
            have hl' := (live' m).1 hl
            rcases (hp.kn m).1 (hp.heap.kn m hl') with h | h
            · exact h
            · exfalso
              rcases hm with g | ⟨k, hk, g⟩
              · omega
              · have : k = i := by omega
                exact ((hAdef k).1 hk).2 this
          have le : (C.at_ nx h0 es A).le ((C.next C' (nx + i)).at_ nx h0 es A') := by
            refine ⟨hp.le.size, hp.le.same, hp.le.mt, fun m hm => ?_, fun m hm hl => ?_, fun m hm hl cs ty hc => ?_⟩
            · rcases hm with h | ⟨k, hk, h⟩
              · exact .inl h
              · exact .inr ⟨k, ((hAdef k).1 hk).1, h⟩
            · have hk := known m hm hl
              obtain ⟨g1, g2⟩ := hp.le.live m hk ((live' m).1 hl)
              refine ⟨?_, ?_⟩
              · show (hget (hview A es h0) m).isSome = true
                rw [sameH]; exact g1
              · simp only [Ctx.at_, Ctx.next]
                rw [if_neg (fun h => notKnown m h hk), if_neg (fun h => notKnown m h hk)]
                exact ⟨rfl, rfl⟩
            · exact hp.le.own m (known m hm hl) ((live' m).1 hl) cs ty hc
          rw [putOther x hx, seeSlot A' A (fun j hj => by simp [A, hj]) x hx]
          exact (oT x).mono le
      · refine hFr.of rfl rfl (hFr.le.trans le2) fun m hm hb => ?_
        have hlm := (live' m).1 hm
        rw [(le2.live m (hp.heap.kn m hlm) hm).2.1] at hb ⊢
        exact hFr.wr m hlm hb
    | true =>
      have hnm : ∀ m ∈ e.d.map (·.1), m.1 = nx + i := freshD_names hfr
      have blocks : ∀ b, b < C.w.heap.size → C'.w.heap[b]? = C.w.heap[b]? := fun b hb => hp.same b hb fun m hm hl => absurd (hH.kn m hl) (notKnown m (hnm m hm))
      have old : ∀ A : Nat → Bool, Adm nx es L A → ∀ B : Nat → Bool, (∀ j, B j = true → A j = true ∨ j = i) → (∀ j, A j = true → B j = true) → (∀ m : Nm, m.1 ≠ nx + i → hget (hview B es h0) m = hget (hview A es h0) m) → (C.at_ nx h0 es A).le ((C.next C' (nx + i)).at_ nx h0 es B) := by
        intro A hA B _ hAB hsee
        refine ⟨hp.le.size, hp.le.same, hp.le.mt, fun m hm => ?_, fun m hm hl => ?_, fun m hm _ cs ty hc => ⟨cs, ty, ?_, rfl⟩⟩
        · rcases hm with h | ⟨k, hk, h⟩
          · exact .inl h
          · exact .inr ⟨k, hAB k hk, h⟩
        · have hne : m.1 ≠ nx + i := fun h => by
            rcases hm with g | ⟨k, hk, g⟩
            · omega
            · have : k = i := by omega
              subst this
              rw [hA.sub k hk] at hiL; cases hiL
          refine ⟨?_, ?_⟩
          · have : (hget (hview B es h0) m).isSome = true := hl
            rw [hsee m hne] at this
            exact this
          · simp only [Ctx.at_, Ctx.next]; rw [if_neg hne, if_neg hne]; exact ⟨rfl, rfl⟩
        · have hb : C.ρ m < C.w.heap.size := by
            rcases Nat.lt_or_ge (C.ρ m) C.w.heap.size with h2 | h2
            · exact h2
            · have : C.w.heap[C.ρ m]? = some (.cells cs ty (0, 0)) := hc
              rw [Array.getElem?_eq_none h2] at this; cases this
          exact (blocks _ hb).trans hc
      cases hAi : A' i with
      | false =>
        have hA : Adm nx es L A' := by
          refine ⟨fun j hj => (addL_iff.1 (hA'.sub j hj)).resolve_right fun h => ?_, hA'.closed, fun j ej hj => hA'.bars j ej (addL_iff.2 (.inl hj))⟩
          subst h; rw [hj] at hAi; cases hAi
        obtain ⟨oH, oT, oF⟩ := I.ok A' hA
        have le := old A' hA A' (fun j h => .inl h) (fun _ h => h) (fun _ _ => rfl)
        refine ⟨oH.mono le (fun _ => Iff.rfl) (fun m hm => blocks _ (oH.lt hm)) (fun b hb hlt => (hp.mt b hlt).2 hb), fun x => ?_, ?_⟩
        · by_cases hx : o.dst = some x
          · rw [F.tget_dst A' he (by rw [hs.dst]; exact hx), if_neg (by rw [hAi]; simp)]
            trivial
          · rw [putOther x hx]
            exact (oT x).mono le
        · refine hFr.of rfl rfl (oF.le.trans le) fun m hm hb => ?_
          rw [(le.live m (oH.kn m hm) hm).2.1] at hb ⊢
          exact oF.wr m hm hb
      | true =>
        let A : Nat → Bool := fun j => A' j && !(j == i)
        have hAdef : ∀ j, A j = true ↔ A' j = true ∧ j ≠ i := fun j => by simp [A]
        have hA : Adm nx es L A := by
          refine ⟨fun j hj => ?_, fun j ej hj hej k hk => ?_, fun j ej hj hej hf => (hAdef j).2 ⟨hA'.bars j ej (addL_iff.2 (.inl hj)) hej hf, fun h => ?_⟩⟩
          · obtain ⟨h1, h2⟩ := (hAdef j).1 hj
            exact (addL_iff.1 (hA'.sub j h1)).resolve_right h2
          · obtain ⟨h1, h2⟩ := (hAdef j).1 hj
            refine (hAdef k).2 ⟨hA'.closed j ej h1 hej k hk, fun h => ?_⟩
            subst h
            rw [I.closed j ej ((addL_iff.1 (hA'.sub j h1)).resolve_right h2) hej _ hk] at hiL; cases hiL
          · subst h; rw [hiL] at hj; cases hj
        obtain ⟨oH, oT, oF⟩ := I.ok A hA
        have hms : ∀ k, e.ms.testBit k = true → A k = true := fun k hk => (hAdef k).2 ⟨hA'.closed i e hAi he k hk, fun h => by have := mlt k hk; omega⟩
        have seeOld : ∀ m : Nm, m.1 ≠ nx + i → hget (hview A' es h0) m = hget (hview A es h0) m := fun m hm => hget_view_congr es fun j ej hej hmj => by
          by_cases hji : j = i
          · subst hji; rw [he] at hej; cases hej; exact absurd (hnm m hmj) hm
          · simp [A, hji]
        have seeNew' := seeNew A' hAi hA'.sub (fun k hk => ((hAdef k).1 (hms k hk)).1)
        have le1 := old A hA A' (fun j h => by
          by_cases hji : j = i
          · exact .inr hji
          · exact .inl ((hAdef j).2 ⟨h, hji⟩)) (fun j h => ((hAdef j).1 h).1) seeOld
        have le2 : C'.le ((C.next C' (nx + i)).at_ nx h0 es A') := by
          refine ⟨Nat.le_refl _, fun _ _ _ => rfl, fun _ _ h => h, fun m hm => ?_, fun m hm hl => ?_, fun _ _ _ cs ty h => ⟨cs, ty, h, rfl⟩⟩
          · rcases (hp.kn m).1 hm with (h | ⟨k, hk, h⟩) | h
            · exact .inl h
            · exact .inr ⟨k, ((hAdef k).1 (hms k hk)).1, h⟩
            · exact .inr ⟨i, hAi, h⟩
          · have hl0 : (hget (hview A' es h0) m).isSome = true := hl
            by_cases hne : m.1 = nx + i
            · rw [seeNew' m hne] at hl0
              refine ⟨(hp.heap.live m).2 hl0, ?_⟩
              simp only [Ctx.at_, Ctx.next]; rw [if_pos hne, if_pos hne]; exact ⟨rfl, rfl⟩
            · have hk := ((hp.kn m).1 hm).resolve_right hne
              have e1 : hget (hview A es h0) m = hget (hview e.ms.testBit es h0) m := hget_view_congr es fun j ej hej hmj => by
                cases hLj : L j with
                | false =>
                  have h1 : A j = false := by
                    cases h : A j with
                    | false => rfl
                    | true => rw [hA.sub j h] at hLj; cases hLj
                  have h2 : e.ms.testBit j = false := by
                    cases h : e.ms.testBit j with
                    | false => rfl
                    | true => rw [hin j h] at hLj; cases hLj
                  rw [h1, h2]
                | true =>
                  cases hfj : freshD (nx + j) ej.d with
                  | false => rw [hA.bars j ej hLj hej hfj, hadm.bars j ej hLj hej hfj]
                  | true =>
                    have hmj' := freshD_names hfj m hmj
                    have hbit : e.ms.testBit j = true := by
                      rcases hk with h | ⟨k, hk, h⟩
                      · omega
                      · have : k = j := by omega
                        subst this; exact hk
                    rw [hbit, hms j hbit]
              have hlv : (C.at_ nx h0 es e.ms.testBit).live m := by
                show (hget (hview e.ms.testBit es h0) m).isSome = true
                rw [← e1, ← seeOld m hne]; exact hl0
              have hlv' : (hget (hview e.ms.testBit es' h0) m).isSome = true := by
                rw [← h5]; exact hlv
              have hl' : C'.live m := (hp.heap.live m).2 (by rw [hget_hap_other _ _ _ (fun h => hne (hnm m h))]; exact hlv')
              refine ⟨hl', ?_⟩
              simp only [Ctx.at_, Ctx.next]; rw [if_neg hne, if_neg hne]
              exact ⟨(hp.le.live m hk hl').2.1.symm, (hp.le.live m hk hl').2.2.symm⟩
        have newLive : ∀ m : Nm, m.1 = nx + i → ((C.next C' (nx + i)).at_ nx h0 es A').live m → C'.live m ∧ ((C.next C' (nx + i)).at_ nx h0 es A').ρ m = C'.ρ m ∧ ((C.next C' (nx + i)).at_ nx h0 es A').bs m = C'.bs m := fun m hm hl => le2.live m ((hp.kn m).2 (.inr hm)) hl
        have oldLive : ∀ m : Nm, m.1 ≠ nx + i → ((C.next C' (nx + i)).at_ nx h0 es A').live m → (C.at_ nx h0 es A).live m ∧ ((C.next C' (nx + i)).at_ nx h0 es A').ρ m = C.ρ m ∧ ((C.next C' (nx + i)).at_ nx h0 es A').bs m = C.bs m := fun m hm hl => by
          have hl0 : (hget (hview A' es h0) m).isSome = true := hl
          rw [seeOld m hm] at hl0
          exact ⟨hl0, by simp only [Ctx.at_, Ctx.next]; rw [if_neg hm], by simp only [Ctx.at_, Ctx.next]; rw [if_neg hm]⟩
        have far : ∀ m : Nm, m.1 = nx + i → C'.live m → C.w.heap.size ≤ C'.ρ m := fun m hm hl => by
          rcases hp.orig m hl with ⟨h1, _⟩ | h1 | ⟨m0, h0', h1, _⟩
          · exact absurd (hH.kn m h1) (notKnown m hm)
          · exact h1
          · exact absurd (hH.kn m0 h1) (notKnown m0 (hnm m0 h0'))
        refine ⟨⟨fun m => Iff.rfl, fun m cs hg => ?_, fun m m' hm hm' heq => ?_, fun m hm => ?_, fun m hm => ?_⟩, fun x => ?_, ?_⟩
        · have hlv : ((C.next C' (nx + i)).at_ nx h0 es A').live m := by show (hget (hview A' es h0) m).isSome = true; rw [hg]; rfl
          by_cases hne : m.1 = nx + i
          · rw [(newLive m hne hlv).2.1, (newLive m hne hlv).2.2]
            rw [seeNew' m hne] at hg
            obtain ⟨arr, ty, ha, hc⟩ := hp.heap.obj m cs hg
            exact ⟨arr, ty, ha, fun j c hj => by obtain ⟨v, hv, hcv⟩ := hc j c hj; exact ⟨v, hv, hcv.mono le2⟩⟩
          · rw [(oldLive m hne hlv).2.1, (oldLive m hne hlv).2.2]
            rw [seeOld m hne] at hg
            obtain ⟨arr, ty, ha, hc⟩ := oH.obj m cs hg
            exact ⟨arr, ty, (blocks _ (oH.lt (oH.get hg))).trans ha, fun j c hj => by obtain ⟨v, hv, hcv⟩ := hc j c hj; exact ⟨v, hv, hcv.mono le1⟩⟩
        · by_cases hne : m.1 = nx + i <;> by_cases hne' : m'.1 = nx + i
          · obtain ⟨l1, r1, _⟩ := newLive m hne hm
            obtain ⟨l2, r2, _⟩ := newLive m' hne' hm'
            exact hp.heap.inj m m' l1 l2 (by rw [← r1, ← r2]; exact heq)
          · obtain ⟨l1, r1, _⟩ := newLive m hne hm
            obtain ⟨l2, r2, _⟩ := oldLive m' hne' hm'
            have h1 := far m hne l1
            have h2 : C.ρ m' < C.w.heap.size := oH.lt l2
            rw [r1, r2] at heq; omega
          · obtain ⟨l1, r1, _⟩ := oldLive m hne hm
            obtain ⟨l2, r2, _⟩ := newLive m' hne' hm'
            have h1 := far m' hne' l2
            have h2 : C.ρ m < C.w.heap.size := oH.lt l1
            rw [r1, r2] at heq; omega
          · obtain ⟨l1, r1, _⟩ := oldLive m hne hm
            obtain ⟨l2, r2, _⟩ := oldLive m' hne' hm'
            exact oH.inj m m' l1 l2 (by show C.ρ m = C.ρ m'; rw [← r1, ← r2]; exact heq)
        · by_cases hne : m.1 = nx + i
          · obtain ⟨l1, r1, _⟩ := newLive m hne hm
            rw [r1]; exact hp.heap.mt m l1
          · obtain ⟨l1, r1, _⟩ := oldLive m hne hm
            rw [r1]; exact (hp.mt _ (oH.lt l1)).2 (oH.mt m l1)
        · by_cases hne : m.1 = nx + i
          · exact .inr ⟨i, hAi, hne⟩
          · obtain ⟨l1, r1, _⟩ := oldLive m hne hm
            exact le1.kn m (oH.kn m l1)
        · by_cases hx : o.dst = some x
          · rw [F.tget_dst A' he (by rw [hs.dst]; exact hx), if_pos hAi, putSelf x hx]
            exact hp.val.mono le2
          · rw [putOther x hx, seeSlot A' A (fun j hji => by simp [A, hji]) x hx]
            exact (oT x).mono le1
        · refine hFr.of rfl rfl (hFr.le.trans le2) fun m hm hb => ?_
          by_cases hne : m.1 = nx + i
          · obtain ⟨l1, r1, _⟩ := newLive m hne hm
            rw [r1] at hb ⊢; exact hFr.wr m l1 hb
          · obtain ⟨l1, r1, _⟩ := oldLive m hne hm
            rw [r1] at hb ⊢; exact oF.wr m l1 hb
end
end Go.Proofs.Aw

/- The abstract logic, part 25: an operation that only reads, behind a write that need not wait for it; and such a write. -/
namespace Go.Proofs.Aw
open Go

section
variable {P : Program} {E : Env} {ops : List Oper} {nx : Nat} {t0 : Tp} {h0 : Hp} {es : List En}
theorem put_other {a : Act} {d : Option Tmp} {u : Value} {x : Nat} (hx : d ≠ some x) : (a.put d u).tmps.getD x undef = a.tmps.getD x undef := by
  cases hd : d with
  | none => simp [Act.put]
  | some d' =>
    have hdx : d' ≠ x := fun h => hx (by rw [hd, h])
    simp [Act.put, Array.getD_eq_getD_getElem?, Array.getElem?_setIfInBounds_ne hdx]
theorem put_self {a : Act} {d : Option Tmp} {u : Value} {x : Nat} (hx : d = some x) (hj : x < a.tmps.size) : (a.put d u).tmps.getD x undef = u := by
  rw [hx]
  simp [Act.put, Array.getD, hj]
/-- Two views that both know a name's maker, and all writes, see it alike. -/
theorem InvD.seeAlike {L : Nat → Bool} {C : Ctx} {a : Act} (_I : InvD E nx t0 h0 es L C a) {A B : Nat → Bool} (hA : Adm nx es L A) (hB : Adm nx es L B) {m : Nm} (hk : m.1 < nx ∨ ∃ k, (A k = true ∧ B k = true) ∧ m.1 = nx + k) : hget (hview A es h0) m = hget (hview B es h0) m :=
  hget_view_congr es fun j ej hej hmj => by
    cases hLj : L j with
    | false =>
      have h1 : A j = false := by
        cases h : A j with
        | false => rfl
        | true => rw [hA.sub j h] at hLj; cases hLj
      have h2 : B j = false := by
        cases h : B j with
        | false => rfl
        | true => rw [hB.sub j h] at hLj; cases hLj
      rw [h1, h2]
    | true =>
      cases hfj : freshD (nx + j) ej.d with
      | false => rw [hA.bars j ej hLj hej hfj, hB.bars j ej hLj hej hfj]
      | true =>
        have hmj' := freshD_names hfj m hmj
        rcases hk with h | ⟨k, ⟨hk1, hk2⟩, h⟩
        · omega
        · have : k = j := by omega
          subst this; rw [hk1, hk2]
theorem Adm.without {L : Nat → Bool} {C : Ctx} {a : Act} (I : InvD E nx t0 h0 es L C a) {i : Nat} (hiL : L i = false) {A' : Nat → Bool} (hA' : Adm nx es (addL L i) A') : Adm nx es L (fun j => A' j && !(j == i)) := by
  have hdef : ∀ j, (fun j => A' j && !(j == i)) j = true ↔ A' j = true ∧ j ≠ i := fun j => by simp
  refine ⟨fun j hj => ?_, fun j ej hj hej k hk => ?_, fun j ej hj hej hf => (hdef j).2 ⟨hA'.bars j ej (addL_iff.2 (.inl hj)) hej hf, fun h => ?_⟩⟩
  · obtain ⟨h1, h2⟩ := (hdef j).1 hj
    exact (addL_iff.1 (hA'.sub j h1)).resolve_right h2
  · obtain ⟨h1, h2⟩ := (hdef j).1 hj
    refine (hdef k).2 ⟨hA'.closed j ej h1 hej k hk, fun h => ?_⟩
    subst h
    rw [I.closed j ej ((addL_iff.1 (hA'.sub j h1)).resolve_right h2) hej _ hk] at hiL; cases hiL
  · subst h; rw [hiL] at hj; cases hj
theorem InvD.stepPure (F : Fixed P E ops nx t0 h0 es) {L : Nat → Bool} {C : Ctx} {a : Act} (I : InvD E nx t0 h0 es L C a) {i : Nat} {e : En} {o : Oper} (he : ent es i = some e) (ho : ops[i]? = some o) (hdst : e.dst = o.dst) (hiL : L i = false)
    (hin : ∀ k, e.ms.testBit k = true → L k = true) (hd : e.d = []) {B : Nat → Bool} (hB : Adm nx es L B) (hup : ∀ A', Adm nx es (addL L i) A' → A' i = true → ∀ k, B k = true → A' k = true) {u : Value} {C' : Ctx}
    (hp : Post (C.at_ nx h0 es B) (nx + i) (hview B es h0) e.r [] u C') : InvD E nx t0 h0 es (addL L i) (C.next C' (nx + i)) (a.put o.dst u) := by
  have hi : i < es.length := ent_lt he
  obtain ⟨hH, hT, hF⟩ := I.ok _ hB
  have hFr : FrameOk E C' := hF.step hp
  have hBi : B i = false := by
    cases h : B i with
    | false => rfl
    | true => rw [hB.sub i h] at hiL; cases hiL
  have blocks : ∀ b, b < C.w.heap.size → C'.w.heap[b]? = C.w.heap[b]? := fun b hb => hp.same b hb fun m hm => by simp at hm
  have knB : ∀ m : Nm, m.1 = nx + i → ¬ (C.at_ nx h0 es B).kn m := fun m hm h => by
    rcases h with h | ⟨k, hk, h⟩
    · omega
    · have : k = i := by omega
      subst this; rw [hBi] at hk; cases hk
  refine ⟨fun j hj => ?_, fun j ej hj hej k hk => ?_, fun j ej hj hej m hm => ?_, by rw [put_size]; exact I.size, by rw [put_defers]; exact I.defers, fun A' hA' => ?_⟩
  · rcases addL_iff.1 hj with h | h
    · exact I.lt j h
    · omega
  · rcases addL_iff.1 hj with h | h
    · exact addL_iff.2 (.inl (I.closed j ej h hej k hk))
    · subst h; rw [he] at hej; cases hej; exact addL_iff.2 (.inl (hin k hk))
  · rcases addL_iff.1 hj with h | h
    · exact I.names j ej h hej m hm
    · subst h; rw [he] at hej; cases hej; rw [hd] at hm; simp at hm
  · -- the view without i
    let A : Nat → Bool := fun j => A' j && !(j == i)
    have hA : Adm nx es L A := Adm.without I hiL hA'
    obtain ⟨oH, oT, oF⟩ := I.ok A hA
    have see : ∀ m : Nm, hget (hview A' es h0) m = hget (hview A es h0) m := fun m => hget_view_congr es fun j ej hej hmj => by
      by_cases hji : j = i
      · subst hji; rw [he] at hej; cases hej; rw [hd] at hmj; simp at hmj
      · simp [A, hji]
    have notI : ∀ m : Nm, (C.at_ nx h0 es A).live m → m.1 ≠ nx + i := fun m hm h => by
      rcases oH.kn m hm with g | ⟨k, hk, g⟩
      · omega
      · have : k = i := by omega
        subst this
        simp [A] at hk
    have live' : ∀ m, ((C.next C' (nx + i)).at_ nx h0 es A').live m ↔ (C.at_ nx h0 es A).live m := fun m => by
      show (hget (hview A' es h0) m).isSome = true ↔ (hget (hview A es h0) m).isSome = true
      rw [see m]
    have ρ' : ∀ m, (C.at_ nx h0 es A).live m → ((C.next C' (nx + i)).at_ nx h0 es A').ρ m = C.ρ m := fun m hm => by
      simp only [Ctx.at_, Ctx.next]; rw [if_neg (notI m hm)]
    have bs' : ∀ m, (C.at_ nx h0 es A).live m → ((C.next C' (nx + i)).at_ nx h0 es A').bs m = C.bs m := fun m hm => by
      simp only [Ctx.at_, Ctx.next]; rw [if_neg (notI m hm)]
    have le1 : (C.at_ nx h0 es A).le ((C.next C' (nx + i)).at_ nx h0 es A') := by
      refine ⟨hp.le.size, hp.le.same, hp.le.mt, fun m hm => ?_, fun m hm hl => ⟨(live' m).1 hl, ρ' m ((live' m).1 hl), bs' m ((live' m).1 hl)⟩, fun m hm _ cs ty hc => ⟨cs, ty, ?_, rfl⟩⟩
      · rcases hm with h | ⟨k, hk, h⟩
        · exact .inl h
        · exact .inr ⟨k, by simp [A] at hk; exact hk.1, h⟩
      · have hb : C.ρ m < C.w.heap.size := by
          rcases Nat.lt_or_ge (C.ρ m) C.w.heap.size with h2 | h2
          · exact h2
          · have : C.w.heap[C.ρ m]? = some (.cells cs ty (0, 0)) := hc
            rw [Array.getElem?_eq_none h2] at this; cases this
        exact (blocks _ hb).trans hc
    by_cases hAi : A' i = true
    · have hBA := hup A' hA' hAi
      have hBA2 : ∀ k, B k = true → A k = true := fun k hk => by
        have hki : k ≠ i := fun h => by subst h; rw [hBi] at hk; cases hk
        simp [A, hBA k hk, hki]
      have le2 : C'.le ((C.next C' (nx + i)).at_ nx h0 es A') := by
        refine ⟨Nat.le_refl _, fun _ _ _ => rfl, fun _ _ h => h, fun m hm => ?_, fun m hm hl => ?_, fun _ _ _ cs ty h => ⟨cs, ty, h, rfl⟩⟩
        · rcases (hp.kn m).1 hm with (h | ⟨k, hk, h⟩) | h
          · exact .inl h
          · exact .inr ⟨k, hBA k hk, h⟩
          · exact .inr ⟨i, hAi, h⟩
        · have hl0 := (live' m).1 hl
          have hne := notI m hl0
          have hk := ((hp.kn m).1 hm).resolve_right hne
          have e1 : hget (hview A es h0) m = hget (hview B es h0) m := I.seeAlike hA hB (by
            rcases hk with h | ⟨k, hk, h⟩
            · exact .inl h
            · exact .inr ⟨k, ⟨hBA2 k hk, hk⟩, h⟩)
          have hlv : C'.live m := (hp.heap.live m).2 (by
            have : (hget (hview A es h0) m).isSome = true := hl0
            rw [e1] at this; exact this)
          exact ⟨hlv, by rw [ρ' m hl0]; exact ((hp.le.live m hk hlv).2.1).symm, by rw [bs' m hl0]; exact ((hp.le.live m hk hlv).2.2).symm⟩
      refine ⟨⟨fun m => Iff.rfl, fun m cs hg => ?_, fun m m' hm hm' heq => ?_, fun m hm => ?_, fun m hm => ?_⟩, fun x => ?_, ?_⟩
      · rw [see m] at hg
        rw [ρ' m (oH.get hg), bs' m (oH.get hg)]
        obtain ⟨arr, ty, ha, hc⟩ := oH.obj m cs hg
        exact ⟨arr, ty, (blocks _ (oH.lt (oH.get hg))).trans ha, fun j c hj => by obtain ⟨v, hv, hcv⟩ := hc j c hj; exact ⟨v, hv, hcv.mono le1⟩⟩
      · have l1 := (live' m).1 hm
        have l2 := (live' m').1 hm'
        rw [ρ' m l1, ρ' m' l2] at heq
        exact oH.inj m m' l1 l2 heq
      · have l1 := (live' m).1 hm
        rw [ρ' m l1]
        exact (hp.mt _ (oH.lt l1)).2 (oH.mt m l1)
      · exact le1.kn m (oH.kn m ((live' m).1 hm))
      · by_cases hx : o.dst = some x
        · rw [F.tget_dst A' he (by rw [hdst]; exact hx), if_pos hAi, put_self hx (by rw [I.size]; exact fits_spec F.fits ho x hx)]
          exact hp.val.mono le2
        · rw [put_other hx, F.tget_congr (A := A') (B := A) (fun j ej hej hdj => by
            by_cases hji : j = i
            · subst hji; rw [he] at hej; cases hej; exact absurd (by rw [← hdst]; exact hdj) hx
            · simp [A, hji])]
          exact (oT x).mono le1
      · refine hFr.of rfl rfl (oF.le.trans le1) fun m hm hb => ?_
        have l1 := (live' m).1 hm
        rw [ρ' m l1] at hb ⊢
        exact oF.wr m l1 hb
    · have hAi' : A' i = false := by simpa using hAi
      refine ⟨⟨fun m => Iff.rfl, fun m cs hg => ?_, fun m m' hm hm' heq => ?_, fun m hm => ?_, fun m hm => ?_⟩, fun x => ?_, ?_⟩
      · rw [see m] at hg
        rw [ρ' m (oH.get hg), bs' m (oH.get hg)]
        obtain ⟨arr, ty, ha, hc⟩ := oH.obj m cs hg
        exact ⟨arr, ty, (blocks _ (oH.lt (oH.get hg))).trans ha, fun j c hj => by obtain ⟨v, hv, hcv⟩ := hc j c hj; exact ⟨v, hv, hcv.mono le1⟩⟩
      · have l1 := (live' m).1 hm
        have l2 := (live' m').1 hm'
        rw [ρ' m l1, ρ' m' l2] at heq
        exact oH.inj m m' l1 l2 heq
      · have l1 := (live' m).1 hm
        rw [ρ' m l1]
        exact (hp.mt _ (oH.lt l1)).2 (oH.mt m l1)
      · exact le1.kn m (oH.kn m ((live' m).1 hm))
      · by_cases hx : o.dst = some x
        · rw [F.tget_dst A' he (by rw [hdst]; exact hx), if_neg hAi]
          simp only [Conc]
        · rw [put_other hx, F.tget_congr (A := A') (B := A) (fun j ej hej hdj => by
            by_cases hji : j = i
            · subst hji; rw [he] at hej; cases hej; exact absurd (by rw [← hdst]; exact hdj) hx
            · simp [A, hji])]
          exact (oT x).mono le1
      · refine hFr.of rfl rfl (oF.le.trans le1) fun m hm hb => ?_
        have l1 := (live' m).1 hm
        rw [ρ' m l1] at hb ⊢
        exact oF.wr m l1 hb
/-- A write to an object that is there. -/
theorem InvD.stepStore (F : Fixed P E ops nx t0 h0 es) {L : Nat → Bool} {C : Ctx} {a : Act} (I : InvD E nx t0 h0 es L C a) {i : Nat} {e : En} {o : Oper} (he : ent es i = some e) (ho : ops[i]? = some o) (hdst : e.dst = o.dst) (hiL : L i = false)
    (hin : ∀ k, e.ms.testBit k = true → L k = true) {m0 : Nm} {cs0 : List AV} (hd : e.d = [(m0, some cs0)]) (hfr : freshD (nx + i) e.d = false) (hlt : ∀ k, L k = true → k < i ∨ ∃ ek, ent es k = some ek ∧ ek.d = []) {es' : List En}
    (h6 : ∀ A : Nat → Bool, A i = true → (∀ k, i < k → A k = false) → hview A es h0 = hap e.d (hview A es' h0)) (h5 : ∀ A : Nat → Bool, (∀ k, i ≤ k → A k = false) → hview A es h0 = hview A es' h0) (hl' : es'.length = i)
    (hadm : Adm nx es L e.ms.testBit) {u : Value} {C' : Ctx} (hp : Post (C.at_ nx h0 es e.ms.testBit) (nx + i) (hview e.ms.testBit es h0) e.r e.d u C') : InvD E nx t0 h0 es (addL L i) (C.next C' (nx + i)) (a.put o.dst u) := by
  have hi : i < es.length := ent_lt he
  obtain ⟨hH, hT, hF⟩ := I.ok _ hadm
  have hFr : FrameOk E C' := hF.step hp
  have hm0i : m0.1 ≠ nx + i := fun h => by
    rw [hd] at hfr
    simp [freshD, h] at hfr
  have hm0l : (C.at_ nx h0 es e.ms.testBit).live m0 := by
    rcases hp.names m0 (by rw [hd]; simp) with h | h
    · exact h
    · exact absurd h hm0i
  have hm0k := hH.kn m0 hm0l
  have hm0l' : C'.live m0 := (hp.heap.live m0).2 (by rw [hd]; simp [hap, hget_hset])
  have hρ0 : C'.ρ m0 = C.ρ m0 := (hp.le.live m0 hm0k hm0l').2.1
  have hbs0 : C'.bs m0 = C.bs m0 := (hp.le.live m0 hm0k hm0l').2.2
  have blocks : ∀ b, b < C.w.heap.size → b ≠ C.ρ m0 → C'.w.heap[b]? = C.w.heap[b]? := fun b hb hne => hp.same b hb fun m hm _ => by
    rw [hd] at hm
    simp at hm
    subst hm; exact hne
  refine ⟨fun j hj => ?_, fun j ej hj hej k hk => ?_, fun j ej hj hej m hm => ?_, by rw [put_size]; exact I.size, by rw [put_defers]; exact I.defers, fun A' hA' => ?_⟩
  · rcases addL_iff.1 hj with h | h
    · exact I.lt j h
    · omega
  · rcases addL_iff.1 hj with h | h
    · exact addL_iff.2 (.inl (I.closed j ej h hej k hk))
    · subst h; rw [he] at hej; cases hej; exact addL_iff.2 (.inl (hin k hk))
  · rcases addL_iff.1 hj with h | h
    · exact I.names j ej h hej m hm
    · subst h; rw [he] at hej; cases hej
      rw [hd] at hm
      simp at hm
      subst hm
      rcases hm0k with h | ⟨k, hk, h⟩
      · exact .inl h
      · exact .inr ⟨k, .inr hk, h⟩
  · have hAi : A' i = true := hA'.bars i e (addL_iff.2 (.inr rfl)) he hfr
    let A : Nat → Bool := fun j => A' j && !(j == i)
    have hA : Adm nx es L A := Adm.without I hiL hA'
    obtain ⟨oH, oT, oF⟩ := I.ok A hA
    -- what is done behind it only reads
    have hAgt : ∀ k ek, i < k → A' k = true → ent es k = some ek → ek.d = [] := fun k ek hk h hek => by
      rcases addL_iff.1 (hA'.sub k h) with h | h
      · rcases hlt k h with h | ⟨e2, h2, h3⟩
        · omega
        · rw [hek] at h2; cases h2; exact h3
      · omega
    have hview' : hview A' es h0 = hap e.d (hview A es h0) := by
      have e1 : hview A' es h0 = hview (fun k => A' k && decide (k ≤ i)) es h0 := hview_congr' es fun k ek hek hne => by
        by_cases hk : k ≤ i
        · simp [hk]
        · cases h : A' k with
          | false => simp
          | true => exact absurd (hAgt k ek (by omega) h hek) hne
      have e2 : hview A es h0 = hview (fun k => A k && decide (k ≤ i)) es h0 := hview_congr' es fun k ek hek hne => by
        by_cases hk : k ≤ i
        · simp [hk]
        · cases h : A' k with
          | false => simp [A, h]
          | true => exact absurd (hAgt k ek (by omega) h hek) hne
      rw [e1, e2, h6 _ (by simp [hAi]) (fun k hk => by simp; omega), h5 (fun k => A k && decide (k ≤ i)) (fun k hk => by
        rcases Nat.lt_or_eq_of_le hk with h | h
        · simp; omega
        · subst h; simp [A])]
      congr 1
      exact hview_congr es' fun j hj => by
        rw [hl'] at hj
        simp [A, Nat.ne_of_lt hj, Nat.le_of_lt hj]
    have see : ∀ m : Nm, hget (hview A' es h0) m = if m0 = m then some cs0 else hget (hview A es h0) m := fun m => by
      rw [hview', hd]
      simp only [hap, hget_hset]
    have msA : ∀ k, e.ms.testBit k = true → A k = true := fun k hk => by
      have h1 := hA'.closed i e hAi he k hk
      have hki : k ≠ i := fun h => by subst h; rw [hin _ hk] at hiL; cases hiL
      simp [A, h1, hki]
    have alike : ∀ m : Nm, (C.at_ nx h0 es e.ms.testBit).kn m → hget (hview A es h0) m = hget (hview e.ms.testBit es h0) m := fun m hk => I.seeAlike hA hadm (by
      rcases hk with h | ⟨k, hk, h⟩
      · exact .inl h
      · exact .inr ⟨k, ⟨msA k hk, hk⟩, h⟩)
    have hm0A : (C.at_ nx h0 es A).live m0 := by
      show (hget (hview A es h0) m0).isSome = true
      rw [alike m0 hm0k]; exact hm0l
    have notI : ∀ m : Nm, (C.at_ nx h0 es A).live m → m.1 ≠ nx + i := fun m hm h => by
      rcases oH.kn m hm with g | ⟨k, hk, g⟩
      · omega
      · have : k = i := by omega
        subst this
        simp [A] at hk
    have live' : ∀ m, ((C.next C' (nx + i)).at_ nx h0 es A').live m ↔ (C.at_ nx h0 es A).live m := fun m => by
      show (hget (hview A' es h0) m).isSome = true ↔ (hget (hview A es h0) m).isSome = true
      rw [see m]
      split
      · rename_i h; subst h; simp only [Option.isSome_some, true_iff]; exact hm0A
      · exact Iff.rfl
    have ρ' : ∀ m, (C.at_ nx h0 es A).live m → ((C.next C' (nx + i)).at_ nx h0 es A').ρ m = C.ρ m := fun m hm => by
      simp only [Ctx.at_, Ctx.next]; rw [if_neg (notI m hm)]
    have bs' : ∀ m, (C.at_ nx h0 es A).live m → ((C.next C' (nx + i)).at_ nx h0 es A').bs m = C.bs m := fun m hm => by
      simp only [Ctx.at_, Ctx.next]; rw [if_neg (notI m hm)]
    have inB : ∀ {b : Nat} {cs : Array Value} {ty : TypeId}, C.w.heap[b]? = some (.cells cs ty (0, 0)) → b < C.w.heap.size := fun {b cs ty} hc => by
      rcases Nat.lt_or_ge b C.w.heap.size with h2 | h2
      · exact h2
      · rw [Array.getElem?_eq_none h2] at hc; cases hc
    have le1 : (C.at_ nx h0 es A).le ((C.next C' (nx + i)).at_ nx h0 es A') := by
      refine ⟨hp.le.size, hp.le.same, hp.le.mt, fun m hm => ?_, fun m hm hl => ⟨(live' m).1 hl, ρ' m ((live' m).1 hl), bs' m ((live' m).1 hl)⟩, fun m hm _ cs ty hc => ?_⟩
      · rcases hm with h | ⟨k, hk, h⟩
        · exact .inl h
        · exact .inr ⟨k, by simp [A] at hk; exact hk.1, h⟩
      · have hc' : C.w.heap[C.ρ m]? = some (.cells cs ty (0, 0)) := hc
        by_cases hb0 : C.ρ m = C.ρ m0
        · have := hp.le.own m0 hm0k hm0l' cs ty (show C.w.heap[C.ρ m0]? = some (.cells cs ty (0, 0)) from by rw [← hb0]; exact hc')
          obtain ⟨cs', ty', h1, h2⟩ := this
          exact ⟨cs', ty', by show C'.w.heap[C.ρ m]? = _; rw [hb0]; exact h1, h2⟩
        · exact ⟨cs, ty, (blocks _ (inB hc') hb0).trans hc', rfl⟩
    have le2 : C'.le ((C.next C' (nx + i)).at_ nx h0 es A') := by
      refine ⟨Nat.le_refl _, fun _ _ _ => rfl, fun _ _ h => h, fun m hm => ?_, fun m hm hl => ?_, fun _ _ _ cs ty h => ⟨cs, ty, h, rfl⟩⟩
      · rcases (hp.kn m).1 hm with (h | ⟨k, hk, h⟩) | h
        · exact .inl h
        · exact .inr ⟨k, hA'.closed i e hAi he k hk, h⟩
        · exact .inr ⟨i, hAi, h⟩
      · have hl0 := (live' m).1 hl
        have hne := notI m hl0
        have hk := ((hp.kn m).1 hm).resolve_right hne
        have hlv : C'.live m := (hp.heap.live m).2 (by
          have h1 : (hget (hview A es h0) m).isSome = true := hl0
          rw [alike m hk] at h1
          rw [hd]
          simp only [hap, hget_hset]
          split
          · rfl
          · exact h1)
        exact ⟨hlv, by rw [ρ' m hl0]; exact ((hp.le.live m hk hlv).2.1).symm, by rw [bs' m hl0]; exact ((hp.le.live m hk hlv).2.2).symm⟩
    refine ⟨⟨fun m => Iff.rfl, fun m cs hg => ?_, fun m m' hm hm' heq => ?_, fun m hm => ?_, fun m hm => ?_⟩, fun x => ?_, ?_⟩
    · rw [see m] at hg
      split at hg
      · rename_i h; subst h
        cases hg
        rw [ρ' m0 hm0A, ← hρ0, bs' m0 hm0A, ← hbs0]
        obtain ⟨arr, ty, ha, hc⟩ := hp.heap.obj m0 cs0 (by rw [hd]; simp [hap, hget_hset])
        exact ⟨arr, ty, ha, fun j c hj => by obtain ⟨v, hv, hcv⟩ := hc j c hj; exact ⟨v, hv, hcv.mono le2⟩⟩
      · rename_i h
        have hlm := oH.get hg
        rw [ρ' m hlm, bs' m hlm]
        obtain ⟨arr, ty, ha, hc⟩ := oH.obj m cs hg
        have hbne : C.ρ m ≠ C.ρ m0 := fun hh => h (oH.inj m m0 hlm hm0A hh).symm
        exact ⟨arr, ty, (blocks _ (oH.lt hlm) hbne).trans ha, fun j c hj => by obtain ⟨v, hv, hcv⟩ := hc j c hj; exact ⟨v, hv, hcv.mono le1⟩⟩
    · have l1 := (live' m).1 hm
      have l2 := (live' m').1 hm'
      rw [ρ' m l1, ρ' m' l2] at heq
      exact oH.inj m m' l1 l2 heq
    · have l1 := (live' m).1 hm
      rw [ρ' m l1]
      exact (hp.mt _ (oH.lt l1)).2 (oH.mt m l1)
    · exact le1.kn m (oH.kn m ((live' m).1 hm))
    · by_cases hx : o.dst = some x
      · rw [F.tget_dst A' he (by rw [hdst]; exact hx), if_pos hAi, put_self hx (by rw [I.size]; exact fits_spec F.fits ho x hx)]
        exact hp.val.mono le2
      · rw [put_other hx, F.tget_congr (A := A') (B := A) (fun j ej hej hdj => by
          by_cases hji : j = i
          · subst hji; rw [he] at hej; cases hej; exact absurd (by rw [← hdst]; exact hdj) hx
          · simp [A, hji])]
        exact (oT x).mono le1
    · refine hFr.of rfl rfl (oF.le.trans le1) fun m hm hb => ?_
      have l1 := (live' m).1 hm
      rw [ρ' m l1] at hb ⊢
      exact oF.wr m l1 hb
end
end Go.Proofs.Aw

/- The abstract logic, part 28: an object that is put in place of another one, shown late. -/
namespace Go.Proofs.Aw
open Go

section
variable {P : Program} {E : Env} {ops : List Oper} {nx : Nat} {t0 : Tp} {h0 : Hp} {es : List En}
/-- An object goes, a new one comes. -/
theorem InvD.stepMove (F : Fixed P E ops nx t0 h0 es) {L : Nat → Bool} {C : Ctx} {a : Act} (I : InvD E nx t0 h0 es L C a) {i : Nat} {e : En} {o : Oper} (he : ent es i = some e) (ho : ops[i]? = some o) (hdst : e.dst = o.dst) (hiL : L i = false)
    (hin : ∀ k, e.ms.testBit k = true → L k = true) {m0 q : Nm} {cs0 : List AV} (hd : e.d = [(m0, none), (q, some cs0)]) (hm0i : m0.1 ≠ nx + i) (hqi : q.1 = nx + i) (hfr : freshD (nx + i) e.d = false) (hlt : ∀ k, L k = true → k < i ∨ ∃ ek, ent es k = some ek ∧ ek.d = []) {es' : List En}
    (h6 : ∀ A : Nat → Bool, A i = true → (∀ k, i < k → A k = false) → hview A es h0 = hap e.d (hview A es' h0)) (h5 : ∀ A : Nat → Bool, (∀ k, i ≤ k → A k = false) → hview A es h0 = hview A es' h0) (hl' : es'.length = i)
    (hadm : Adm nx es L e.ms.testBit) {u : Value} {C' : Ctx} (hp : Post (C.at_ nx h0 es e.ms.testBit) (nx + i) (hview e.ms.testBit es h0) e.r e.d u C') : InvD E nx t0 h0 es (addL L i) (C.next C' (nx + i)) (a.put o.dst u) := by
  have hi : i < es.length := ent_lt he
  obtain ⟨hH, hT, hF⟩ := I.ok _ hadm
  have hFr : FrameOk E C' := hF.step hp
  have hqm : q ≠ m0 := fun h => hm0i (by rw [← h]; exact hqi)
  have hm0l : (C.at_ nx h0 es e.ms.testBit).live m0 := by
    rcases hp.names m0 (by rw [hd]; simp) with h | h
    · exact h
    · exact absurd h hm0i
  have hm0k := hH.kn m0 hm0l
  have hq' : C'.live q := (hp.heap.live q).2 (by rw [hd]; simp [hap, hget_hset])
  have hqno : ¬ (C.at_ nx h0 es e.ms.testBit).live q := fun h => by
    rcases hH.kn q h with g | ⟨k, hk, g⟩
    · omega
    · have : k = i := by omega
      subst this
      rw [hin _ hk] at hiL; cases hiL
  have blocks : ∀ b, b < C.w.heap.size → b ≠ C.ρ m0 → C'.w.heap[b]? = C.w.heap[b]? := fun b hb hne => hp.same b hb fun m hm hml => by
    rw [hd] at hm
    simp at hm
    rcases hm with rfl | rfl
    · exact hne
    · exact absurd hml hqno
  refine ⟨fun j hj => ?_, fun j ej hj hej k hk => ?_, fun j ej hj hej m hm => ?_, by rw [put_size]; exact I.size, by rw [put_defers]; exact I.defers, fun A' hA' => ?_⟩
  · rcases addL_iff.1 hj with h | h
    · exact I.lt j h
    · omega
  · rcases addL_iff.1 hj with h | h
    · exact addL_iff.2 (.inl (I.closed j ej h hej k hk))
    · subst h; rw [he] at hej; cases hej; exact addL_iff.2 (.inl (hin k hk))
  · rcases addL_iff.1 hj with h | h
    · exact I.names j ej h hej m hm
    · subst h; rw [he] at hej; cases hej
      rw [hd] at hm
      simp at hm
      rcases hm with rfl | rfl
      · rcases hm0k with h | ⟨k, hk, h⟩
        · exact .inl h
        · exact .inr ⟨k, .inr hk, h⟩
      · exact .inr ⟨_, .inl rfl, hqi⟩
  · have hAi : A' i = true := hA'.bars i e (addL_iff.2 (.inr rfl)) he hfr
    let A : Nat → Bool := fun j => A' j && !(j == i)
    have hA : Adm nx es L A := Adm.without I hiL hA'
    obtain ⟨oH, oT, oF⟩ := I.ok A hA
    -- what is done behind it only reads
    have hAgt : ∀ k ek, i < k → A' k = true → ent es k = some ek → ek.d = [] := fun k ek hk h hek => by
      rcases addL_iff.1 (hA'.sub k h) with h | h
      · rcases hlt k h with h | ⟨e2, h2, h3⟩
        · omega
        · rw [hek] at h2; cases h2; exact h3
      · omega
    have hview' : hview A' es h0 = hap e.d (hview A es h0) := by
      have e1 : hview A' es h0 = hview (fun k => A' k && decide (k ≤ i)) es h0 := hview_congr' es fun k ek hek hne => by
        by_cases hk : k ≤ i
        · simp [hk]
        · cases h : A' k with
          | false => simp
          | true => exact absurd (hAgt k ek (by omega) h hek) hne
      have e2 : hview A es h0 = hview (fun k => A k && decide (k ≤ i)) es h0 := hview_congr' es fun k ek hek hne => by
        by_cases hk : k ≤ i
        · simp [hk]
        · cases h : A' k with
          | false => simp [A, h]
          | true => exact absurd (hAgt k ek (by omega) h hek) hne
      rw [e1, e2, h6 _ (by simp [hAi]) (fun k hk => by simp; omega), h5 (fun k => A k && decide (k ≤ i)) (fun k hk => by
        rcases Nat.lt_or_eq_of_le hk with h | h
        · simp; omega
        · subst h; simp [A])]
      congr 1
      exact hview_congr es' fun j hj => by
        rw [hl'] at hj
        simp [A, Nat.ne_of_lt hj, Nat.le_of_lt hj]
    have see : ∀ m : Nm, hget (hview A' es h0) m = if q = m then some cs0 else if m0 = m then none else hget (hview A es h0) m := fun m => by
      rw [hview', hd]
      simp only [hap, hget_hset, hget_hdel]
    have msA : ∀ k, e.ms.testBit k = true → A k = true := fun k hk => by
      have h1 := hA'.closed i e hAi he k hk
      have hki : k ≠ i := fun h => by subst h; rw [hin _ hk] at hiL; cases hiL
      simp [A, h1, hki]
    have alike : ∀ m : Nm, (C.at_ nx h0 es e.ms.testBit).kn m → hget (hview A es h0) m = hget (hview e.ms.testBit es h0) m := fun m hk => I.seeAlike hA hadm (by
      rcases hk with h | ⟨k, hk, h⟩
      · exact .inl h
      · exact .inr ⟨k, ⟨msA k hk, hk⟩, h⟩)
    have hm0A : (C.at_ nx h0 es A).live m0 := by
      show (hget (hview A es h0) m0).isSome = true
      rw [alike m0 hm0k]; exact hm0l
    have notI : ∀ m : Nm, (C.at_ nx h0 es A).kn m → m.1 ≠ nx + i := fun m hm h => by
      rcases hm with g | ⟨k, hk, g⟩
      · omega
      · have : k = i := by omega
        subst this
        simp [A] at hk
    have live' : ∀ m, ((C.next C' (nx + i)).at_ nx h0 es A').live m ↔ m = q ∨ (m ≠ m0 ∧ (C.at_ nx h0 es A).live m) := fun m => by
      show (hget (hview A' es h0) m).isSome = true ↔ _ ∨ (_ ∧ (hget (hview A es h0) m).isSome = true)
      rw [see m]
      by_cases h1 : q = m
      · subst h1; simp
      · rw [if_neg h1]
        by_cases h2 : m0 = m
        · subst h2; simp [Ne.symm h1]
        · rw [if_neg h2]; simp [Ne.symm h1, Ne.symm h2]
    have ρ' : ∀ m, (C.at_ nx h0 es A).kn m → ((C.next C' (nx + i)).at_ nx h0 es A').ρ m = C.ρ m := fun m hm => by
      simp only [Ctx.at_, Ctx.next]; rw [if_neg (notI m hm)]
    have ρq : ((C.next C' (nx + i)).at_ nx h0 es A').ρ q = C'.ρ q := by
      simp only [Ctx.at_, Ctx.next]; rw [if_pos hqi]
    have bs' : ∀ m, (C.at_ nx h0 es A).kn m → ((C.next C' (nx + i)).at_ nx h0 es A').bs m = C.bs m := fun m hm => by
      simp only [Ctx.at_, Ctx.next]; rw [if_neg (notI m hm)]
    have bsq : ((C.next C' (nx + i)).at_ nx h0 es A').bs q = C'.bs q := by
      simp only [Ctx.at_, Ctx.next]; rw [if_pos hqi]
    have inB : ∀ {b : Nat} {cs : Array Value} {ty : TypeId}, C.w.heap[b]? = some (.cells cs ty (0, 0)) → b < C.w.heap.size := fun {b cs ty} hc => by
      rcases Nat.lt_or_ge b C.w.heap.size with h2 | h2
      · exact h2
      · rw [Array.getElem?_eq_none h2] at hc; cases hc
    have le1 : (C.at_ nx h0 es A).le ((C.next C' (nx + i)).at_ nx h0 es A') := by
      have old : ∀ m, (C.at_ nx h0 es A).kn m → ((C.next C' (nx + i)).at_ nx h0 es A').live m → m ≠ m0 ∧ (C.at_ nx h0 es A).live m := fun m hm hl => by
        rcases (live' m).1 hl with rfl | h
        · exact absurd hqi (notI _ hm)
        · exact h
      refine ⟨hp.le.size, hp.le.same, hp.le.mt, fun m hm => ?_, fun m hm hl => ⟨(old m hm hl).2, ρ' m hm, bs' m hm⟩, fun m hm hl cs ty hc => ?_⟩
      · rcases hm with h | ⟨k, hk, h⟩
        · exact .inl h
        · exact .inr ⟨k, by simp [A] at hk; exact hk.1, h⟩
      · have hc' : C.w.heap[C.ρ m]? = some (.cells cs ty (0, 0)) := hc
        obtain ⟨hne, hml⟩ := old m hm hl
        have hb0 : C.ρ m ≠ C.ρ m0 := fun hh => hne (oH.inj m m0 hml hm0A hh)
        exact ⟨cs, ty, (blocks _ (inB hc') hb0).trans hc', rfl⟩
    have le2 : C'.le ((C.next C' (nx + i)).at_ nx h0 es A') := by
      refine ⟨Nat.le_refl _, fun _ _ _ => rfl, fun _ _ h => h, fun m hm => ?_, fun m hm hl => ?_, fun _ _ _ cs ty h => ⟨cs, ty, h, rfl⟩⟩
      · rcases (hp.kn m).1 hm with (h | ⟨k, hk, h⟩) | h
        · exact .inl h
        · exact .inr ⟨k, hA'.closed i e hAi he k hk, h⟩
        · exact .inr ⟨i, hAi, h⟩
      · rcases (live' m).1 hl with rfl | ⟨hne, hl0⟩
        · exact ⟨hq', ρq, bsq⟩
        · have hkA := oH.kn m hl0
          have hnI := notI m hkA
          have hk := ((hp.kn m).1 hm).resolve_right hnI
          have hlv : C'.live m := (hp.heap.live m).2 (by
            have h1 : (hget (hview A es h0) m).isSome = true := hl0
            rw [alike m hk] at h1
            rw [hd]
            simp only [hap, hget_hset, hget_hdel]
            rw [if_neg (fun h => hnI (by rw [← h]; exact hqi)), if_neg (Ne.symm hne)]
            exact h1)
          exact ⟨hlv, by rw [ρ' m hkA]; exact ((hp.le.live m hk hlv).2.1).symm, by rw [bs' m hkA]; exact ((hp.le.live m hk hlv).2.2).symm⟩
    have apart : ∀ m, m ≠ m0 → (C.at_ nx h0 es A).live m → C'.ρ q ≠ C.ρ m := fun m hne hml heq => by
      rcases hp.orig q hq' with ⟨h, _⟩ | h | ⟨m1, hm1, hl1, h⟩
      · exact hqno h
      · have := oH.lt hml
        have h' : C.w.heap.size ≤ C'.ρ q := h
        have h'' : C.ρ m < C.w.heap.size := this
        omega
      · rw [hd] at hm1
        simp at hm1
        rcases hm1 with rfl | rfl
        · exact hne (oH.inj m m1 hml hm0A (show C.ρ m = C.ρ m1 by rw [← heq]; exact h))
        · exact hqno hl1
    refine ⟨⟨fun m => Iff.rfl, fun m cs hg => ?_, fun m m' hm hm' heq => ?_, fun m hm => ?_, fun m hm => ?_⟩, fun x => ?_, ?_⟩
    · rw [see m] at hg
      split at hg
      · rename_i h; subst h
        cases hg
        rw [ρq, bsq]
        obtain ⟨arr, ty, ha, hc⟩ := hp.heap.obj q cs0 (by rw [hd]; simp [hap, hget_hset])
        exact ⟨arr, ty, ha, fun j c hj => by obtain ⟨v, hv, hcv⟩ := hc j c hj; exact ⟨v, hv, hcv.mono le2⟩⟩
      · split at hg
        · cases hg
        · rename_i h
          have hlm := oH.get hg
          rw [ρ' m (oH.kn m hlm), bs' m (oH.kn m hlm)]
          obtain ⟨arr, ty, ha, hc⟩ := oH.obj m cs hg
          have hbne : C.ρ m ≠ C.ρ m0 := fun hh => h (oH.inj m m0 hlm hm0A hh).symm
          exact ⟨arr, ty, (blocks _ (oH.lt hlm) hbne).trans ha, fun j c hj => by obtain ⟨v, hv, hcv⟩ := hc j c hj; exact ⟨v, hv, hcv.mono le1⟩⟩
    · rcases (live' m).1 hm with rfl | ⟨n1, l1⟩ <;> rcases (live' m').1 hm' with h | ⟨n2, l2⟩
      · exact h.symm
      · rw [ρq, ρ' m' (oH.kn m' l2)] at heq
        exact absurd heq (apart m' n2 l2)
      · subst h
        rw [ρq, ρ' m (oH.kn m l1)] at heq
        exact absurd heq.symm (apart m n1 l1)
      · rw [ρ' m (oH.kn m l1), ρ' m' (oH.kn m' l2)] at heq
        exact oH.inj m m' l1 l2 heq
    · rcases (live' m).1 hm with rfl | ⟨n1, l1⟩
      · rw [ρq]; exact hp.heap.mt _ hq'
      · rw [ρ' m (oH.kn m l1)]
        exact (hp.mt _ (oH.lt l1)).2 (oH.mt m l1)
    · rcases (live' m).1 hm with rfl | ⟨n1, l1⟩
      · exact .inr ⟨i, hAi, hqi⟩
      · exact le1.kn m (oH.kn m l1)
    · by_cases hx : o.dst = some x
      · rw [F.tget_dst A' he (by rw [hdst]; exact hx), if_pos hAi, put_self hx (by rw [I.size]; exact fits_spec F.fits ho x hx)]
        exact hp.val.mono le2
      · rw [put_other hx, F.tget_congr (A := A') (B := A) (fun j ej hej hdj => by
          by_cases hji : j = i
          · subst hji; rw [he] at hej; cases hej; exact absurd (by rw [← hdst]; exact hdj) hx
          · simp [A, hji])]
        exact (oT x).mono le1
    · refine hFr.of rfl rfl (oF.le.trans le1) fun m hm hb => ?_
      rcases (live' m).1 hm with rfl | ⟨n1, l1⟩
      · rw [ρq] at hb ⊢
        exact hFr.wr _ hq' hb
      · rw [ρ' m (oH.kn m l1)] at hb ⊢
        exact oF.wr m l1 hb
end
end Go.Proofs.Aw

/- The abstract logic, part 18: the rule for a region that draws its order. -/
namespace Go.Proofs.Aw
open Go

/-- How many are not done. -/
def left (L : Nat → Bool) : Nat → Nat
  | 0 => 0
  | n + 1 => left L n + if L n = true then 0 else 1
theorem left_zero {L : Nat → Bool} : ∀ {n : Nat}, left L n = 0 → ∀ j, j < n → L j = true
  | 0, _, j, hj => by omega
  | n + 1, h, j, hj => by
    simp only [left] at h
    by_cases hn : L n = true
    · rcases Nat.lt_or_ge j n with hj' | hj'
      · exact left_zero (by omega) j hj'
      · rw [show j = n from by omega]; exact hn
    · rw [if_neg hn] at h; omega
theorem left_same {L M : Nat → Bool} : ∀ {n : Nat}, (∀ j, j < n → L j = M j) → left L n = left M n
  | 0, _ => rfl
  | n + 1, h => by simp only [left]; rw [left_same (fun j hj => h j (by omega)), h n (by omega)]
theorem left_add {L : Nat → Bool} {i : Nat} (hi : L i = false) : ∀ {n : Nat}, i < n → left (addL L i) n + 1 = left L n
  | 0, h => by omega
  | n + 1, h => by
    simp only [left]
    by_cases hin : i = n
    · subst hin
      rw [if_pos (addL_iff.2 (.inr rfl)), hi, left_same (L := addL L i) (M := L) fun j hj => by simp [addL, Nat.ne_of_lt hj]]
      simp
    · have := left_add hi (n := n) (by omega)
      have h2 : addL L i n = L n := by
        have : (n == i) = false := by simpa using Ne.symm hin
        simp [addL, this]
      rw [h2]; omega

def lst (listed : Array Bool) : Nat → Bool := fun j => listed.getD j false
theorem lst_set {listed : Array Bool} {i : Nat} (hi : i < listed.size) (j : Nat) : lst (listed.setIfInBounds i true) j = addL (lst listed) i j := by
  unfold lst addL
  by_cases h : j = i
  · subst h; simp [Array.getD, hi]
  · have : (j == i) = false := by simpa using h
    simp [Array.getD_eq_getD_getElem?, Array.getElem?_setIfInBounds_ne (Ne.symm h), this]
theorem lst_ready {listed : Array Bool} {j : Nat} : listed.getD j true = false ↔ j < listed.size ∧ lst listed j = false := by
  unfold lst
  by_cases h : j < listed.size
  · simp [Array.getD, h]
  · simp [Array.getD, h]

theorem Adm.congr {nx : Nat} {es : List En} {L M A : Nat → Bool} (h : ∀ j, L j = M j) (k : Adm nx es L A) : Adm nx es M A :=
  ⟨fun j hj => by rw [← h]; exact k.sub j hj, k.closed, fun j e hj => k.bars j e (by rw [h]; exact hj)⟩
theorem InvD.congr {E : Env} {nx : Nat} {t0 : Tp} {h0 : Hp} {es : List En} {L M : Nat → Bool} {C : Ctx} {a : Act} (h : ∀ j, L j = M j) (I : InvD E nx t0 h0 es L C a) : InvD E nx t0 h0 es M C a where
  lt j hj := I.lt j (by rw [h]; exact hj)
  closed j e hj he k hk := by rw [← h]; exact I.closed j e (by rw [h]; exact hj) he k hk
  names j e hj := I.names j e (by rw [h]; exact hj)
  size := I.size
  defers := I.defers
  ok A hA := I.ok A (hA.congr fun j => (h j).symm)

section
variable {P : Program} {E : Env} {ops : List Oper} {nx : Nat} {t0 : Tp} {h0 : Hp} {es : List En}

theorem InvD.adm (F : Fixed P E ops nx t0 h0 es) {L : Nat → Bool} {C : Ctx} {a : Act} (_I : InvD E nx t0 h0 es L C a) {i : Nat} {e : En} (he : ent es i = some e)
    (hin : ∀ k, e.ms.testBit k = true → L k = true) (hall : ∀ j ej, L j = true → ent es j = some ej → freshD (nx + j) ej.d = false → e.ms.testBit j = true) : Adm nx es L e.ms.testBit :=
  ⟨hin, fun _ _ hj hej k hk => F.trans i he hj hej k hk, fun j ej hj hej hf => hall j ej hj hej hf⟩
theorem exists_max {p : Nat → Prop} : ∀ n, (∃ j, p j ∧ j < n) → ∃ j, (p j ∧ j < n) ∧ ∀ k, p k → k < n → k ≤ j
  | 0, ⟨_, _, h⟩ => by omega
  | n + 1, ⟨j, hp, hj⟩ => by
    by_cases hn : p n
    · exact ⟨n, ⟨hn, by omega⟩, fun k _ hk => by omega⟩
    · have hjn : j < n := by
        rcases Nat.lt_or_eq_of_le (Nat.le_of_lt_succ hj) with h | h
        · exact h
        · subst h; exact absurd hp hn
      obtain ⟨q, ⟨h1, h2⟩, h3⟩ := exists_max n ⟨j, hp, hjn⟩
      refine ⟨q, ⟨h1, by omega⟩, fun k hk hkn => h3 k hk ?_⟩
      rcases Nat.lt_or_eq_of_le (Nat.le_of_lt_succ hkn) with h | h
      · exact h
      · subst h; exact absurd hk hn

theorem InvD.wp (F : Fixed P E ops nx t0 h0 es) {Q : Exit → Act → World → Prop} (hQ : ∀ C a, InvD E nx t0 h0 es (fun j => decide (j < es.length)) C a → Q .normal a C.w) :
    ∀ (fuel : Nat) (listed : Array Bool) (C : Ctx) (a : Act), listed.size = ops.length → left (lst listed) ops.length ≤ fuel → InvD E nx t0 h0 es (lst listed) C a → wpAny P .any ops.toArray Q fuel listed a C.w := by
  have done : ∀ (listed : Array Bool) (C : Ctx) (a : Act), listed.size = ops.length → InvD E nx t0 h0 es (lst listed) C a → (∀ j, j < ops.length → lst listed j = true) → Q .normal a C.w := fun listed C a hsz I hall =>
    hQ C a (I.congr fun j => by
      by_cases hj : j < es.length
      · rw [hall j (by rw [← F.len]; exact hj)]; simp [hj]
      · cases h : lst listed j with
        | false => simp [hj]
        | true => exact absurd (I.lt j h) hj)
  have noneLeft : ∀ (listed : Array Bool), listed.size = ops.length → Region.ready .any ops.toArray listed = [] → ∀ j, j < ops.length → lst listed j = true := by
    intro listed hsz hr j
    induction j using Nat.strongRecOn with
    | _ j ih =>
      intro hj
      cases h : lst listed j with
      | true => rfl
      | false =>
        exfalso
        have hmem : j ∈ Region.ready .any ops.toArray listed := by
          refine mem_ready.2 ⟨lst_ready.2 ⟨by rw [hsz]; exact hj, h⟩, ops[j], by simp [hj], fun ed hed hb => ?_⟩
          have ho : ops[j]? = some ops[j] := by simp [hj]
          obtain ⟨e, he, _⟩ := F.entry ho
          obtain ⟨mlt, min, _, _⟩ := F.mask he ho
          have hlt := mlt _ (min ed hed hb)
          exact ih ed.on hlt (by omega)
        rw [hr] at hmem; cases hmem
  intro fuel
  induction fuel with
  | zero =>
    intro listed C a hsz hl I
    have hall := left_zero (Nat.le_zero.1 hl)
    refine ⟨?_, done listed C a hsz I hall⟩
    apply List.eq_nil_iff_forall_not_mem.2
    intro j hj
    obtain ⟨h1, _⟩ := mem_ready.1 hj
    obtain ⟨h2, h3⟩ := lst_ready.1 h1
    rw [hall j (by omega)] at h3; cases h3
  | succ fuel ih =>
    intro listed C a hsz hl I
    refine ⟨fun hr => done listed C a hsz I (noneLeft listed hsz hr), fun i hi => ?_⟩
    obtain ⟨h1, o, ho', hedges⟩ := mem_ready.1 hi
    obtain ⟨hisz, hiL⟩ := lst_ready.1 h1
    have ho : ops[i]? = some o := by simpa using ho'
    obtain ⟨e, he, hdst⟩ := F.entry ho
    obtain ⟨mlt, _, mex, _⟩ := F.mask he ho
    have hin : ∀ k, e.ms.testBit k = true → lst listed k = true := fun k hk => by
      obtain ⟨ed, hed, hb, hor⟩ := mex k hk
      have hon : lst listed ed.on = true := hedges ed hed hb
      rcases hor with h | ⟨e1, he1, hk1⟩
      · rw [← h]; exact hon
      · exact I.closed _ _ hon he1 k hk1
    have fin : ∀ (C2 : Ctx) (a2 : Act), InvD E nx t0 h0 es (addL (lst listed) i) C2 a2 → wpAny P .any ops.toArray Q fuel (listed.setIfInBounds i true) a2 C2.w := fun C2 a2 I2 => by
      refine ih (listed.setIfInBounds i true) C2 a2 (by simpa using hsz) ?_ (I2.congr fun j => (lst_set hisz j).symm)
      have h7 := left_add hiL (n := ops.length) (by omega)
      rw [left_same (L := lst (listed.setIfInBounds i true)) (M := addL (lst listed) i) fun j _ => lst_set hisz j]
      omega
    -- one operation, seen from B
    have run : ∀ (B : Nat → Bool) (l : List En), Adm nx es (lst listed) B → (∀ x, tget (tview B l t0) x = tget (tview B es t0) x) → hview B es h0 = hview B l h0 → ∀ d, YieldsG P ops (nx + i) o (tview B l t0) (hview B l h0) e.r d →
        (∀ (u : Value) (C' : Ctx), Post (C.at_ nx h0 es B) (nx + i) (hview B es h0) e.r d u C' → InvD E nx t0 h0 es (addL (lst listed) i) (C.next C' (nx + i)) (a.put o.dst u)) → wpOp P ops.toArray Q i (wpAny P .any ops.toArray Q fuel (listed.setIfInBounds i true)) a C.w := by
      intro B l hB hsee hv d hyg hgo
      obtain ⟨hH, hT, hF⟩ := I.ok _ hB
      have hBi : B i = false := by
        cases h : B i with
        | false => rfl
        | true => rw [hB.sub i h] at hiL; cases hiL
      have hT' : TOk (C.at_ nx h0 es B) (tview B l t0) a := fun x => by rw [hsee x]; exact hT x
      have hH' : HeapOk (C.at_ nx h0 es B) (hview B l h0) := by rw [← hv]; exact hH
      have hno : ∀ k, ¬ (C.at_ nx h0 es B).kn (nx + i, k) := fun k h => by
        rcases h with h | ⟨q, hq, h⟩
        · simp only at h; omega
        · simp only at h
          have : q = i := by omega
          subst this; rw [hBi] at hq; cases hq
      have goOn : ∀ (u : Value) (C' : Ctx), Post (C.at_ nx h0 es B) (nx + i) (hview B l h0) e.r d u C' → wpAny P .any ops.toArray Q fuel (listed.setIfInBounds i true) (a.put o.dst u) C'.w := fun u C' hp =>
        fin (C.next C' (nx + i)) (a.put o.dst u) (hgo u C' (by rw [hv]; exact hp))
      obtain ⟨y1, y2⟩ := yielded_conc hT' ops
        |> fun h => (⟨fun j => (h j).1, fun j => (h j).2⟩ : (∀ j b, yv ops (tview B l t0) j = .sc (.bool b) → yielded ops.toArray a.tmps j = some b) ∧ (∀ j x, yv ops (tview B l t0) j = .sc (.tuple x) → yielded ops.toArray a.tmps j = none))
      unfold wpOp
      rw [ho']
      simp only
      have wanted : Yields P (nx + i) o.op (tview B l t0) (hview B l h0) e.r d → Region.wanted o (yielded ops.toArray a.tmps) = true →
          if Region.wanted o (yielded ops.toArray a.tmps) then o.wp P a C.w (wpAny P .any ops.toArray Q fuel (listed.setIfInBounds i true)) Q ∨ (o.asks P a C.w ∧ LetsOut Q) else wpAny P .any ops.toArray Q fuel (listed.setIfInBounds i true) (a.put o.dst undef) C.w := fun hy hw => by
        rw [if_pos hw]
        exact .inl (hy (C.at_ nx h0 es B) a o _ _ rfl hH' hT' hno goOn)
      rcases hyg with ⟨hg, hy⟩ | ⟨j, want, b, hg, hb, hbw, hy⟩ | ⟨j, want, hg, hnot, hr, hd⟩
      · exact wanted hy (by simp [Region.wanted, hg])
      · exact wanted hy (by simp [Region.wanted, hg, y1 j b hb, hbw])
      · have hw : Region.wanted o (yielded ops.toArray a.tmps) = false := by
          rcases hnot with ⟨b, hb, hbw⟩ | ⟨x, hx⟩
          · simp [Region.wanted, hg, y1 j b hb, hbw]
          · simp [Region.wanted, hg, y2 j x hx]
        rw [if_neg (by rw [hw]; simp)]
        have hp : Post (C.at_ nx h0 es B) (nx + i) (hview B l h0) e.r d undef ((C.at_ nx h0 es B).same (nx + i) C.w) := by
          rw [hr, hd]
          exact Post.pure hH' (by simp only [Conc]) rfl rfl rfl rfl
        exact goOn undef ((C.at_ nx h0 es B).same (nx + i) C.w) hp
    obtain ⟨es', o', g1, g2, g3, hs, h5, h6⟩ := F.walked.get he
    rw [ho] at g3; cases g3
    have mlt' : ∀ k, i ≤ k → e.ms.testBit k = false := fun k hk => by
      cases h : e.ms.testBit k with
      | false => rfl
      | true => have := mlt k h; omega
    by_cases hlate : ∃ j, (lst listed j = true ∧ e.ms.testBit j = false ∧ ∃ ej, ent es j = some ej ∧ freshD (nx + j) ej.d = false) ∧ j < es.length
    · -- behind a write that it did not wait for, or that did not wait for it
      obtain ⟨j, ⟨⟨hjL, hjm, ej, hej, hjf⟩, hjlt⟩, hmax⟩ := exists_max es.length hlate
      obtain ⟨es1, o1, k1, k2, k3, k4, k5, k6⟩ := F.walked.get hej
      have hbit : ej.ms.testBit i = false := by
        cases h : ej.ms.testBit i with
        | false => rfl
        | true => rw [I.closed j ej hjL hej i h] at hiL; cases hiL
      have bB : ∀ k, (((e.ms ||| ej.ms) ||| 2 ^ j).testBit k = true) ↔ (e.ms.testBit k = true ∨ ej.ms.testBit k = true) ∨ k = j := fun k => by
        rw [Nat.testBit_or, Nat.testBit_or, Bool.or_eq_true, Bool.or_eq_true, Nat.testBit_two_pow]
        simp only [decide_eq_true_eq]
        exact or_congr Iff.rfl eq_comm
      obtain ⟨mltj, _, _, _⟩ := F.mask hej k3
      have hB : Adm nx es (lst listed) ((e.ms ||| ej.ms) ||| 2 ^ j).testBit := by
        refine ⟨fun k hk => ?_, fun k ek hk hek q hq => ?_, fun k ek hk hek hf => ?_⟩
        · rcases (bB k).1 hk with (h | h) | h
          · exact hin k h
          · exact I.closed j ej hjL hej k h
          · subst h; exact hjL
        · rcases (bB k).1 hk with (h | h) | h
          · exact (bB q).2 (.inl (.inl (F.trans i he h hek q hq)))
          · exact (bB q).2 (.inl (.inr (F.trans j hej h hek q hq)))
          · subst h; rw [hej] at hek; cases hek; exact (bB q).2 (.inl (.inr hq))
        · cases hek2 : e.ms.testBit k with
          | true => exact (bB k).2 (.inl (.inl hek2))
          | false =>
            rcases Nat.lt_trichotomy k j with h | h | h
            · rcases k4.waits k ek (by rw [k2 k h]; exact hek) hf with g | g
              · exact (bB k).2 (.inl (.inr g))
              · have := g.1
                rw [this] at hjf; cases hjf
            · exact (bB k).2 (.inr h)
            · have := hmax k ⟨hk, hek2, ek, hek, hf⟩ (I.lt k hk)
              omega
      have hup : ∀ A', Adm nx es (addL (lst listed) i) A' → A' i = true → ∀ k, ((e.ms ||| ej.ms) ||| 2 ^ j).testBit k = true → A' k = true := fun A' hA' hAi k hk => by
        rcases (bB k).1 hk with (h | h) | h
        · exact hA'.closed i e hAi he k h
        · exact hA'.closed j ej (hA'.bars j ej (addL_iff.2 (.inl hjL)) hej hjf) hej k h
        · subst h; exact hA'.bars k ej (addL_iff.2 (.inl hjL)) hej hjf
      by_cases hij : i < j
      case neg =>
        -- it stands behind the write
        have hji : j < i := by
          rcases Nat.lt_trichotomy j i with h | h | h
          · exact h
          · subst h; rw [hjL] at hiL; cases hiL
          · exact absurd h hij
        rcases hs.waits j ej (by rw [g2 j hji]; exact hej) hjf with g | ⟨hd, hy⟩
        · rw [g] at hjm; cases hjm
        · have hfar : ∀ k, i ≤ k → ((e.ms ||| ej.ms) ||| 2 ^ j).testBit k = false := fun k hk => by
            cases h : ((e.ms ||| ej.ms) ||| 2 ^ j).testBit k with
            | false => rfl
            | true =>
              rcases (bB k).1 h with (h | h) | h
              · have := mlt k h; omega
              · have := mltj k h; omega
              · omega
          rw [g1] at hy
          exact run _ es' hB (fun x => F.tget_walk g1 g2 hfar x) (h5 _ hfar) [] hy (fun u C' hp => I.stepPure F he ho hdst hiL hin hd hB hup hp)
      have hlater : Later P ops nx t0 h0 es1 ej := by
        rcases k4.fresh with g | g | g
        · rw [k1, hjf] at g; cases g
        · have : ej.ms.testBit i = true := by
            rw [show ej.ms = 2 ^ j - 1 from by rw [← k1]; omega, Nat.testBit_two_pow_sub_one]
            simpa using hij
          rw [this] at hbit; cases hbit
        · exact g
      have hei : ent es1 i = some e := by rw [k2 i hij]; exact he
      obtain ⟨hd, hy⟩ := hlater.2 i e o (by rw [k1]; exact hij) hbit hei ho
      rw [k1] at hy
      have hfar : ∀ k, j + 1 ≤ k → ((e.ms ||| ej.ms) ||| 2 ^ j).testBit k = false := fun k hk => by
        cases h : ((e.ms ||| ej.ms) ||| 2 ^ j).testBit k with
        | false => rfl
        | true =>
          rcases (bB k).1 h with (h | h) | h
          · have := mlt k h; omega
          · have := mltj k h; omega
          · omega
      have hent : ∀ k, k < j + 1 → ent (ej :: es1) k = ent es k := fun k hk => by
        simp only [ent, k1]
        split
        · rename_i h; subst h; exact hej.symm
        · exact k2 k (by omega)
      refine run _ (ej :: es1) hB (fun x => F.tget_walk (by simp [k1]) hent hfar x) ?_ [] hy (fun u C' hp => I.stepPure F he ho hdst hiL hin hd hB hup hp)
      rw [k6 _ ((bB j).2 (.inr rfl)) (fun k hk => hfar k hk)]
      simp only [hview]
      rw [if_pos (by rw [k1]; exact (bB j).2 (.inr rfl))]
    · have hno : ∀ j ej, lst listed j = true → ent es j = some ej → freshD (nx + j) ej.d = false → e.ms.testBit j = true := fun j ej hj hej hf => by
        cases h : e.ms.testBit j with
        | true => rfl
        | false => exact absurd ⟨j, ⟨hj, h, ej, hej, hf⟩, I.lt j hj⟩ hlate
      have hadm := I.adm F he hin hno
      have hv := h5 e.ms.testBit mlt'
      have hys := hs.yields
      rw [g1] at hys
      refine run e.ms.testBit es' hadm (fun x => F.tget_walk g1 g2 mlt' x) hv e.d hys (fun u C' hp => ?_)
      have hlt : freshD (nx + i) e.d = false → ∀ k, lst listed k = true → k < i ∨ ∃ ek, ent es k = some ek ∧ ek.d = [] := fun hf k hk => by
        rcases Nat.lt_trichotomy k i with h | h | h
        · exact .inl h
        · subst h; rw [hk] at hiL; cases hiL
        · obtain ⟨ek, hek⟩ := ent_some (es := es) (I.lt k hk)
          obtain ⟨es1, o1, k1, k2, k3, k4, _⟩ := F.walked.get hek
          rcases k4.waits i e (by rw [k2 i h]; exact he) hf with hb | hb
          · rw [I.closed k ek hk hek i hb] at hiL; cases hiL
          · exact .inr ⟨ek, hek, hb.1⟩
      by_cases hfull : e.ms + 1 = 2 ^ es'.length
      · exact I.step F he ho hiL hin g1 g2 hs h6 hv hadm (by rw [← hv]; exact hp) (fun _ => hfull) hlt
      rcases hs.fresh with g | g | g
      · rw [g1] at g
        exact I.step F he ho hiL hin g1 g2 hs h6 hv hadm (by rw [← hv]; exact hp) (fun hf => by rw [g] at hf; cases hf) hlt
      · exact absurd g hfull
      · by_cases hf : freshD (nx + i) e.d = true
        · exact I.step F he ho hiL hin g1 g2 hs h6 hv hadm (by rw [← hv]; exact hp) (fun hf' => by rw [hf] at hf'; cases hf') hlt
        · obtain ⟨hfd, _⟩ := g
          have hf' : freshD (nx + i) e.d = false := by simpa using hf
          rw [g1] at hfd
          rcases hfd with ⟨m, cs, hd⟩ | ⟨m, q, cs, hd, hm, hq⟩
          · exact I.stepStore F he ho hdst hiL hin hd hf' (hlt hf') h6 h5 g1 hadm hp
          · exact I.stepMove F he ho hdst hiL hin hd hm hq hf' (hlt hf') h6 h5 g1 hadm hp

/-- Whatever order is drawn, the operations come to what the walk in the order of the text shows. -/
theorem drawn_any {Q : Exit → St → Prop} {σ : St} (hf : fits E.N ops = true) (ho : once ops = true) (es : List En) (hw : Walked P ops σ.nx (tdel ops σ.t) σ.h es) (hl : es.length = ops.length)
    (hk : Q .normal ⟨tview (fun _ => true) es (tdel ops σ.t), hview (fun _ => true) es σ.h, σ.nx + ops.length⟩) {a : Act} {w : World} (hr : Rel E σ a w) :
    wpAny P .any ops.toArray (fun e a' w' => ∃ σ', Rel E σ' a' w' ∧ Q e σ') ops.toArray.size (Array.replicate ops.toArray.size false) a { w with drawn := w.drawn + 1 } := by
  obtain ⟨C0, rfl, hC⟩ := hr
  have F : Fixed P E ops σ.nx (tdel ops σ.t) σ.h es := ⟨hw, hl, ho, hf, fun o hoi x hx => by
    rw [tget_tdel, if_pos (List.any_eq_true.2 ⟨o, hoi, by simp [hx]⟩)]⟩
  let C : Ctx := { C0 with w := { C0.w with drawn := C0.w.drawn + 1 } }
  have hL : ∀ j, lst (Array.replicate ops.toArray.size false) j = false := fun j => by
    unfold lst
    rw [Array.getD_eq_getD_getElem?, Array.getElem?_replicate]
    split <;> rfl
  have start : InvD E σ.nx (tdel ops σ.t) σ.h es (lst (Array.replicate ops.toArray.size false)) C a := by
    refine ⟨fun j hj => absurd hj (by rw [hL]; simp), fun j e hj => absurd hj (by rw [hL]; simp), fun j e hj => absurd hj (by rw [hL]; simp), hC.size, hC.defers, fun A hA => ?_⟩
    have hA0 : ∀ j, A j = false := fun j => by
      cases h : A j with
      | false => rfl
      | true => have := hA.sub j h; rw [hL] at this; cases this
    have hv : ∀ l : List En, hview A l σ.h = σ.h := fun l => by
      induction l with
      | nil => rfl
      | cons e l ih => simp only [hview]; rw [if_neg (by rw [hA0]; simp)]; exact ih
    have le : C0.le (C.at_ σ.nx σ.h es A) := by
      refine ⟨Nat.le_refl _, fun _ _ _ => rfl, fun _ _ h => h, fun m hm => .inl (hC.kn m hm), fun m hm hl => ⟨(hC.heap.live m).2 ?_, rfl, rfl⟩, fun _ _ _ cs ty h => ⟨cs, ty, h, rfl⟩⟩
      have : (hget (hview A es σ.h) m).isSome = true := hl
      rwa [hv] at this
    have live : ∀ m, (C.at_ σ.nx σ.h es A).live m ↔ C0.live m := fun m => by
      rw [hC.heap.live m]
      have : hview A es σ.h = σ.h := hv es
      show (hget (hview A es σ.h) m).isSome = true ↔ _
      rw [this]
    refine ⟨?_, fun x => ?_, ⟨hC.frame.os, hC.frame.tape, hC.frame.output, hC.frame.size, hC.frame.same, hC.frame.mt, fun m hm hb => hC.frame.wr m ((live m).1 hm) hb, hC.frame.le.trans le⟩⟩
    · rw [hv]
      exact hC.heap.mono le live (fun _ _ => rfl) (fun _ h _ => h)
    · rcases tget_view A (tdel ops σ.t) x es with ⟨j, e, _, _, h3⟩ | ⟨_, h2⟩
      · rw [h3, if_neg (by rw [hA0]; simp)]; trivial
      · rw [h2, tget_tdel]
        split
        · trivial
        · exact (hC.t x).mono le
  refine InvD.wp F (fun C' a' I => ?_) ops.toArray.size (Array.replicate ops.toArray.size false) C a (by simp) ?_ start
  · have hadm : Adm σ.nx es (fun j => decide (j < es.length)) (fun j => decide (j < es.length)) := ⟨fun _ h => h, I.closed, fun _ _ h _ _ => h⟩
    obtain ⟨hH, hT, hF⟩ := I.ok _ hadm
    have e1 : hview (fun j => decide (j < es.length)) es σ.h = hview (fun _ => true) es σ.h := hview_congr es fun j hj => by simp [hj]
    have e2 : tview (fun j => decide (j < es.length)) es (tdel ops σ.t) = tview (fun _ => true) es (tdel ops σ.t) := tview_congr es fun j hj => by simp [hj]
    rw [e1] at hH
    rw [e2] at hT
    refine ⟨_, ⟨C'.at_ σ.nx σ.h es (fun j => decide (j < es.length)), rfl, hH, hT, I.size, I.defers, fun m hm => ?_, hF⟩, hk⟩
    rcases hm with h | ⟨j, hj, h⟩
    · simp only; omega
    · simp at hj; simp only; omega
  · have : ∀ n, left (lst (Array.replicate ops.toArray.size false)) n ≤ n := fun n => by
      induction n with
      | zero => simp [left]
      | succ n ih => simp only [left]; split <;> omega
    exact this _
theorem AW_drawn {Q : Exit → St → Prop} {σ : St} {id : Nat} (hm : P.follows .mixedOrders = true) (hf : fits E.N ops = true) (ho : once ops = true) (es : List En) (hw : Walked P ops σ.nx (tdel ops σ.t) σ.h es) (hl : es.length = ops.length)
    (hk : Q .normal ⟨tview (fun _ => true) es (tdel ops σ.t), hview (fun _ => true) es σ.h, σ.nx + ops.length⟩) : AW P E (.region id ops.toArray true) Q σ := fun _ _ hr =>
  wp_region_any hm (drawn_any hf ho es hw hl hk hr)
end
end Go.Proofs.Aw

/- The abstract logic, part 19: a step as a function of what is known; so simp walks a region one operation after the other, with no continuation in sight. -/
namespace Go.Proofs.Aw
open Go

inductive Res where
  | no
  | ok (r : AV) (d : Dl)
  | call (f : FuncId) (args : List AV)
def lift1 : Option AV → Res
  | some v => .ok v []
  | none => .no
def lift2 : Option (AV × Dl) → Res
  | some (v, d) => .ok v d
  | none => .no
def liftD : Option Dl → Res
  | some d => .ok (.sc undef) d
  | none => .no

def rdN : Option Bool → Nat → List AV → Nat → Option AV
  | some true, z, cs, off => if 0 < z ∧ off + z ≤ cs.length then some (.agg ((cs.drop off).take z)) else none
  | some false, _, cs, off => cs[off]?
  | none, _, _, _ => none
def rdO (b : Option Bool) (z : Nat) (off : Nat) : Option (List AV) → Option AV
  | some cs => rdN b z cs off
  | none => none
def loadN (P : Program) (h : Hp) (ty : TypeId) : AV → Option AV
  | .ptr m off => rdO (aggT P ty) (P.cellsOf ty) off (hget h m)
  | .ip cs off => rdN (aggT P ty) (P.cellsOf ty) cs off
  | _ => none
def wrN (z : Nat) (m : Nm) (off : Nat) (ys : List AV) : Option (List AV) → Option Dl
  | some cs => if 0 < z ∧ ys.length = z ∧ off + z ≤ cs.length ∧ ys.all AV.one = true then some [(m, some (spliceL cs off ys))] else none
  | none => none
def storeN (P : Program) (h : Hp) (ty : TypeId) : AV → List AV → Option Dl
  | .ptr m off, ys => wrN (P.cellsOf ty) m off ys (hget h m)
  | _, _ => none
def iaP (m : Nm) (off : Nat) (j : Int) (live : Bool) : Option (Nat × Nat) → Option AV
  | some (len, z) => if live = true ∧ 0 ≤ j ∧ j < len then some (.ptr m (off + j.toNat * z)) else none
  | none => none
def iaI (cs : List AV) (off : Nat) (j : Int) : Option (Nat × Nat) → Option AV
  | some (len, z) => if 0 ≤ j ∧ j < len then some (.ip cs (off + j.toNat * z)) else none
  | none => none
def iaS (m : Nm) (z off len : Nat) (j : Int) (live : Bool) : Option (TypeId × Nat) → Option AV
  | some (_, z') => if z' = z ∧ live = true ∧ 0 ≤ j ∧ j < len then some (.ptr m (off + j.toNat * z)) else none
  | none => none
def iaE : Option (List AV) → Option AV
  | some el => some (.ip el 0)
  | none => none
def iaR (z : Nat) (es : List (List AV)) (j : Int) : Option (TypeId × Nat) → Option AV
  | some (_, z') => if z' = z ∧ 0 ≤ j then iaE es[j.toNat]? else none
  | none => none
def idxAddrN (P : Program) (h : Hp) (ty : TypeId) : AV → AV → Option AV
  | .ptr m off, .sc (.int _ j) => iaP m off j (hget h m).isSome (arrT P ty)
  | .ip cs off, .sc (.int _ j) => iaI cs off j (arrT P ty)
  | .sl m z off len _, .sc (.int _ j) => iaS m z off len j (hget h m).isSome (slT P ty)
  | .ro z es _, .sc (.int _ j) => iaR z es j (slT P ty)
  | _, _ => none
def faO (h : Hp) (x : AV) : Option (Nat × Nat) → Option AV
  | some (o, _) => match x with
    | .ptr m off => if (hget h m).isSome = true then some (.ptr m (off + o)) else none
    | .ip cs off => some (.ip cs (off + o))
    | _ => none
  | none => none
def fieldAddrN (P : Program) (h : Hp) (ty : TypeId) (f : Nat) (x : AV) : Option AV := match recT P ty with
  | some l => faO h x l[f]?
  | none => none
def fdO (cs : List AV) : Option (Nat × Nat) → Option (Option Bool) → Option AV
  | some (o, z), some b => rdN b z cs o
  | _, _ => none
def fieldN (P : Program) (ty : TypeId) (f : Nat) : AV → Option AV
  | .agg cs => match recT P ty, recA P ty with
    | some l, some bs => fdO cs l[f]? bs[f]?
    | _, _ => none
  | _ => none
def indexN (P : Program) (ty : TypeId) : AV → AV → Option AV
  | .agg cs, .sc (.int _ j) => match arrT P ty with
    | some (len, z) => if 0 ≤ j ∧ j < len then rdN (arrA P ty) z cs (j.toNat * z) else none
    | none => none
  | .sc (.string s), .sc (.int _ j) => if strT P ty = true ∧ 0 ≤ j then (s[j.toNat]?).map fun b => .sc (.int .u8 b.toNat) else none
  | _, _ => none
def bndN (d : Nat) : Option AV → Option Nat
  | none => some d
  | some (.sc (.int _ i)) => if 0 ≤ i then some i.toNat else none
  | _ => none
def slN (P : Program) (h : Hp) (ty : TypeId) (x : AV) (lo hi : Option Nat) : Option AV :=
  match lo, hi with
  | some l, some hh => match x with
    | .ro z es full => match slT P ty with
      | some (_, z') => if z' = z ∧ l ≤ hh ∧ hh ≤ es.length then some (.ro z ((es.take hh).drop l) (full && hh == es.length)) else none
      | none => none
    | .sl m z off len own => match slT P ty with
      | some (_, z') => if z' = z ∧ (hget h m).isSome = true ∧ l ≤ hh ∧ hh ≤ len then some (.sl m z (off + l * z) (hh - l) own) else none
      | none => none
    | .ptr m off => match arrT P ty with
      | some (len, z) => if (hget h m).isSome = true ∧ l ≤ hh ∧ hh ≤ len then some (.sl m z (off + l * z) (hh - l) false) else none
      | none => none
    | .sc (.string s) => if strT P ty = true ∧ l ≤ hh ∧ hh ≤ s.size then some (.sc (.string (s.extract l hh))) else none
    | .sc (.slice none 0 0) => match slT P ty with
      | some _ => if l = 0 ∧ hh = 0 then some (.sc (.slice none 0 0)) else none
      | none => none
    | _ => none
  | _, _ => none
def topN (P : Program) (ty : TypeId) : AV → Nat
  | .ro _ es _ => es.length
  | .sl _ _ _ len _ => len
  | .ptr _ _ => match arrT P ty with | some (len, _) => len | none => 0
  | .sc (.string s) => s.size
  | _ => 0
def slN3 (P : Program) (h : Hp) (ty : TypeId) (x : AV) : Option Nat → Option Nat → Option Nat → Option AV
  | some l, some hh, some m => match x with
    | .ro z es _ => match slT P ty with
      | some (_, z') => if z' = z ∧ l ≤ hh ∧ hh ≤ m ∧ m ≤ es.length then some (.ro z ((es.take hh).drop l) (m == hh)) else none
      | none => none
    | .sl n z _ len _ => match slT P ty with
      | some (_, z') => if z' = z ∧ (hget h n).isSome = true ∧ hh = l ∧ m = l ∧ l ≤ len then some (.ro z [] true) else none
      | none => none
    | _ => none
  | _, _, _ => none
def sliceN (P : Program) (h : Hp) (ty : TypeId) (x : AV) (lo hi mx : Option AV) : Option AV :=
  match mx with
  | none => slN P h ty x (bndN 0 lo) (bndN (topN P ty x) hi)
  | some m => slN3 P h ty x (bndN 0 lo) (match hi with | some v => bndN 0 (some v) | none => none) (bndN 0 (some m))
def buildSliceN (P : Program) (n : Nat) (mu : Bool) (ty : TypeId) (len : Nat) (ps : List (Nat × AV)) : Option (AV × Dl) :=
  match slT P ty with
  | some (e, z) => if zlenT P e = some z ∧ len * z ≤ 16777216 ∧ ps.length = len ∧ densP z 0 ps = true then
      (match mu with
      | false => some (.ro z (partCells ps) true, [])
      | true => some (.sl (n, 0) z 0 len true, [((n, 0), some (partCells ps).flatten)]))
    else none
  | none => none
def apO (n : Nat) (mu : Bool) (z : Nat) (by_ : Nat) (fs : List (List AV)) : Option (List (List AV)) → Option (AV × Dl)
  | some es => if (es.length + fs.length) * by_ ≤ 140737488355328 ∧ es.length + fs.length ≤ 9223372036854775807 ∧ (mu = true → fs ≠ []) then
      (match mu with
      | false => some (.ro z (es ++ fs) false, [])
      | true => some (.sl (n, 0) z 0 (es.length + fs.length) true, [((n, 0), some (es.flatten ++ fs.flatten))]))
    else none
  | none => none
def apS (n : Nat) (z : Nat) (by_ : Nat) (fs : List (List AV)) (m : Nm) (off len : Nat) : Option (List AV) → Option (AV × Dl)
  | some cs => if cs.length = off + len * z ∧ fs.flatten.all AV.one = true ∧ (len + fs.length) * by_ ≤ 140737488355328 ∧ len + fs.length ≤ 9223372036854775807 then some (.sl (n, 0) z 0 (len + fs.length) true, [(m, none), ((n, 0), some (cs.drop off ++ fs.flatten))]) else none
  | none => none
def apN (P : Program) (n : Nat) (h : Hp) (mu : Bool) (e : TypeId) (z : Nat) (s : AV) : Option (List (List AV)) → Option (AV × Dl)
  | some fs => match s with
    | .sl m z' off len own => if z' = z ∧ own = true then apS n z (bytesT P e) fs m off len (hget h m) else none
    | s => apO n mu z (bytesT P e) fs (baseRo z s)
  | none => none
def appendN (P : Program) (n : Nat) (h : Hp) (mu : Bool) (ty xt : TypeId) (s x : AV) : Option (AV × Dl) :=
  match slT P ty with
  | some (e, z) => if slT P xt = some (e, z) ∧ zlenT P e = some z then apN P n h mu e z s (elemsA h z x) else none
  | none => none
def pickN : AV → AV → AV → Option AV
  | .sc (.bool true), a, _ => some a
  | .sc (.bool false), _, b => some b
  | _, _, _ => none
def nilN (h : Hp) : AV → Option AV
  | .ptr m off => if (hget h m).isSome = true then some (.ptr m off) else none
  | .ip cs off => some (.ip cs off)
  | .fn (.func f) xs ys => some (.fn (.func f) xs ys)
  | _ => none
def lenN : Option Int → Option AV
  | some m => some (.sc (.int .i64 m))
  | none => none
def builtinN (P : Program) (n : Nat) (mu : Bool) (h : Hp) : Builtin → List TypeId → List AV → Res
  | .len, ty :: _, x :: _ => lift1 (lenN (lenT P h ty x))
  | .max, _, x :: xs => lift1 (maxA x xs)
  | .min, _, x :: xs => lift1 (minA x xs)
  | .append, [ty, xt], [s, x] => lift2 (appendN P n h mu ty xt s x)
  | .copy, [ty, _], [s, x] => lift2 (copyN P h ty s x)
  | b, _, xs => lift1 (cpxR b xs)
def boxN (n : Nat) (ys : List AV) : Res := if ys.all AV.one = true then .ok (.ptr (n, 0) 0) [((n, 0), some ys)] else .no
def allocN (n : Nat) : Option (List AV) → Res
  | some cs => .ok (.ptr (n, 0) 0) [((n, 0), some cs)]
  | none => .no
def extractN : AV → Nat → Option AV
  | .tup vs, i => vs[i]?
  | _, _ => none
def buildN (P : Program) (ty : TypeId) (ps : List (Nat × AV)) : Option (List AV) → Option AV
  | some cs => if ((arrT P ty).isSome || (recT P ty).isSome) = true then (fillA (placeOf P ty) cs ps).map .agg else none
  | none => none
def callN (args : List AV) : AV → Res
  | .fn (.func f) xs ys => .call f (xs ++ (args ++ ys))
  | _ => .no
def convN (P : Program) (src dst : TypeId) (x : AV) : Option AV := if (P.underlying src).isSome = true then convR P dst x else none
def evO (t : Tp) : Option Operand → Option AV
  | some x => some (ev t x)
  | none => none
def evL (t : Tp) : List Operand → List AV
  | [] => []
  | x :: xs => ev t x :: evL t xs
def evP (t : Tp) : List (Nat × Operand) → List (Nat × AV)
  | [] => []
  | (i, x) :: xs => (i, ev t x) :: evP t xs
theorem evO_eq (t : Tp) (x : Option Operand) : evO t x = x.map (ev t) := by cases x <;> rfl
theorem evL_eq (t : Tp) : ∀ l, evL t l = l.map (ev t)
  | [] => rfl
  | x :: xs => by simp only [evL, List.map_cons, evL_eq t xs]
theorem evP_eq (t : Tp) : ∀ l : List (Nat × Operand), evP t l = l.map fun p => (p.1, ev t p.2)
  | [] => rfl
  | (i, x) :: xs => by simp only [evP, List.map_cons, evP_eq t xs]

def stepN (P : Program) (n : Nat) (mu : Bool) (t : Tp) (h : Hp) : Op → Res
  | .move x => .ok (ev t x) []
  | .assign x => .ok (ev t x) []
  | .pick c a b => lift1 (pickN (ev t c) (ev t a) (ev t b))
  | .alloc e => allocN n (zeroC P e)
  | .box _ x => boxN n (ev t x).cells
  | .load ty x => lift1 (loadN P h ty (ev t x))
  | .store ty x y => liftD (storeN P h ty (ev t x) (ev t y).cells)
  | .nilCheck x => lift1 (nilN h (ev t x))
  | .indexAddr ty x i => lift1 (idxAddrN P h ty (ev t x) (ev t i))
  | .fieldAddr ty x f => lift1 (fieldAddrN P h ty f (ev t x))
  | .field ty x f => lift1 (fieldN P ty f (ev t x))
  | .index ty x i => lift1 (indexN P ty (ev t x) (ev t i))
  | .slice ty x lo hi mx => lift1 (sliceN P h ty (ev t x) (evO t lo) (evO t hi) (evO t mx))
  | .binOp op ty x y _ => lift1 (binRh P h op ty (ev t x) (ev t y))
  | .unOp op _ x => lift1 (unR op (ev t x))
  | .convert src dst x => lift1 (convN P src dst (ev t x))
  | .extract x i => lift1 (extractN (ev t x) i)
  | .makeFunc f xs ys => .ok (.fn f (evL t xs.toList) (evL t ys.toList)) []
  | .build ty ps => lift1 (buildN P ty (evP t ps.toList) (zeroC P ty))
  | .buildSlice ty len ps => lift2 (buildSliceN P n mu ty len (evP t ps.toList))
  | .makeSlice ty l c => lift2 (makeSliceN P n ty (ev t l) (ev t c))
  | .call ⟨.builtin b, args, tys⟩ => builtinN P n mu h b tys.toList (evL t args.toList)
  | .call ⟨.value x, args, _⟩ => callN (evL t args.toList) (ev t x)
  | _ => .no
end Go.Proofs.Aw

/- The abstract logic, part 20: the steps as functions are sound. -/
namespace Go.Proofs.Aw
open Go

section
variable {P : Program} {n : Nat} {mu : Bool} {t : Tp} {h : Hp}
theorem lift1_ok {x : Option AV} {r : AV} {d : Dl} (he : lift1 x = .ok r d) : x = some r ∧ d = [] := by
  cases x with
  | none => cases he
  | some v => cases he; exact ⟨rfl, rfl⟩
theorem lift1_call {x : Option AV} {f : FuncId} {a : List AV} (he : lift1 x = .call f a) : False := by cases x <;> cases he
theorem lift2_ok {x : Option (AV × Dl)} {r : AV} {d : Dl} (he : lift2 x = .ok r d) : x = some (r, d) := by
  cases x with
  | none => cases he
  | some v => obtain ⟨v, e⟩ := v; cases he; rfl
theorem lift2_call {x : Option (AV × Dl)} {f : FuncId} {a : List AV} (he : lift2 x = .call f a) : False := by
  cases x with
  | none => cases he
  | some v => obtain ⟨v, e⟩ := v; cases he
theorem liftD_ok {x : Option Dl} {r : AV} {d : Dl} (he : liftD x = .ok r d) : x = some d ∧ r = .sc undef := by
  cases x with
  | none => cases he
  | some v => cases he; exact ⟨rfl, rfl⟩
theorem liftD_call {x : Option Dl} {f : FuncId} {a : List AV} (he : liftD x = .call f a) : False := by cases x <;> cases he
theorem rdN_K {b : Option Bool} {z : Nat} {cs : List AV} {off : Nat} {v : AV} {K : AV → Prop} (he : rdN b z cs off = some v) (hk : K v) : rdK b z cs off K := by
  unfold rdN at he
  split at he
  · split at he
    · rename_i hc; cases he; exact ⟨hc.1, hc.2, hk⟩
    · cases he
  · simp only [rdK, he]; exact hk
  · cases he
theorem loadN_K {ty : TypeId} {x v : AV} {K : AV → Prop} (he : loadN P h ty x = some v) (hk : K v) : loadK P h ty x K := by
  unfold loadN at he
  split at he
  · rename_i m off
    unfold loadK
    simp only
    cases hg : hget h m with
    | none => rw [hg] at he; cases he
    | some cs => rw [hg] at he; exact rdN_K he hk
  · exact rdN_K he hk
  · cases he
theorem storeN_K {ty : TypeId} {x y : AV} {d : Dl} {K : Dl → Prop} (he : storeN P h ty x y.cells = some d) (hk : K d) : storeK P h ty x y K := by
  unfold storeN at he
  split at he
  · rename_i _ m off
    unfold storeK
    simp only
    cases hg : hget h m with
    | none => rw [hg] at he; cases he
    | some cs =>
      rw [hg] at he
      simp only [wrN] at he
      split at he
      · rename_i hc; cases he; exact ⟨hc.1, hc.2.1, hc.2.2.1, hc.2.2.2, hk⟩
      · cases he
  · cases he
theorem idxAddrN_K {ty : TypeId} {x i v : AV} {K : AV → Prop} (he : idxAddrN P h ty x i = some v) (hk : K v) : idxAddrK P h ty x i K := by
  unfold idxAddrN at he
  split at he
  · rename_i m off k j
    unfold idxAddrK
    simp only
    cases ha : arrT P ty with
    | none => rw [ha] at he; cases he
    | some p =>
      obtain ⟨len, z⟩ := p
      rw [ha] at he
      simp only [iaP] at he
      split at he
      · rename_i hc; cases he; exact ⟨hc.1, hc.2.1, hc.2.2, hk⟩
      · cases he
  · unfold idxAddrK
    simp only
    cases ha : arrT P ty with
    | none => rw [ha] at he; cases he
    | some p =>
      obtain ⟨len, z⟩ := p
      rw [ha] at he
      simp only [iaI] at he
      split at he
      · rename_i hc; cases he; exact ⟨hc.1, hc.2, hk⟩
      · cases he
  · unfold idxAddrK
    simp only
    cases ha : slT P ty with
    | none => rw [ha] at he; cases he
    | some p =>
      obtain ⟨len, z⟩ := p
      rw [ha] at he
      simp only [iaS] at he
      split at he
      · rename_i hc; cases he; exact ⟨hc.1, hc.2.1, hc.2.2.1, hc.2.2.2, hk⟩
      · cases he
  · unfold idxAddrK
    simp only
    cases ha : slT P ty with
    | none => rw [ha] at he; cases he
    | some p =>
      obtain ⟨len, z⟩ := p
      rw [ha] at he
      simp only [iaR] at he
      split at he
      · rename_i hc
        refine ⟨hc.1, hc.2, ?_⟩
        rename_i es _ _ j
        cases hg : es[j.toNat]? with
        | none => rw [hg] at he; cases he
        | some el => rw [hg] at he; cases he; exact hk
      · cases he
  · cases he
theorem fieldAddrN_K {ty : TypeId} {x v : AV} {f : Nat} {K : AV → Prop} (he : fieldAddrN P h ty f x = some v) (hk : K v) : fieldAddrK P h ty x f K := by
  unfold fieldAddrN at he
  unfold fieldAddrK
  cases hr : recT P ty with
  | none => rw [hr] at he; cases he
  | some l =>
    rw [hr] at he
    simp only at he ⊢
    cases hl : l[f]? with
    | none => rw [hl] at he; cases he
    | some p =>
      obtain ⟨o, z⟩ := p
      rw [hl] at he
      simp only [faO] at he ⊢
      split at he
      · split at he
        · rename_i hc; cases he; exact ⟨hc, hk⟩
        · cases he
      · cases he; exact hk
      · cases he
theorem fieldN_K {ty : TypeId} {x v : AV} {f : Nat} {K : AV → Prop} (he : fieldN P ty f x = some v) (hk : K v) : fieldK P ty x f K := by
  unfold fieldN at he
  split at he
  · split at he
    · rename_i l bs hr hb
      unfold fieldK
      rw [hr, hb]
      simp only
      cases hl : l[f]? with
      | none => rw [hl] at he; simp [fdO] at he
      | some p =>
        obtain ⟨o, z⟩ := p
        cases hbf : bs[f]? with
        | none => rw [hl, hbf] at he; simp [fdO] at he
        | some b => rw [hl, hbf] at he; exact rdN_K he hk
    · cases he
  · cases he
theorem indexN_K {ty : TypeId} {x i v : AV} {K : AV → Prop} (he : indexN P ty x i = some v) (hk : K v) : indexK P ty x i K := by
  unfold indexN at he
  split at he
  · unfold indexK
    simp only
    cases ha : arrT P ty with
    | none => rw [ha] at he; cases he
    | some p =>
      obtain ⟨len, z⟩ := p
      rw [ha] at he
      simp only at he ⊢
      split at he
      · rename_i hc; exact ⟨hc.1, hc.2, rdN_K he hk⟩
      · cases he
  · unfold indexK
    simp only
    split at he
    · rename_i s k j hc
      refine ⟨hc.1, hc.2, ?_⟩
      cases hb : s[j.toNat]? with
      | none => rw [hb] at he; cases he
      | some b => rw [hb] at he; simp at he; subst he; exact hk
    · cases he
  · cases he
theorem bndN_K {d : Nat} {x : Option AV} {l : Nat} {K : Nat → Prop} (he : bndN d x = some l) (hk : K l) : bndK d x K := by
  unfold bndN at he
  split at he
  · cases he; exact hk
  · split at he
    · rename_i hc; cases he; exact ⟨hc, hk⟩
    · cases he
  · cases he
theorem sliceN_K {ty : TypeId} {x v : AV} {lo hi mx : Option AV} {K : AV → Prop} (he : sliceN P h ty x lo hi mx = some v) (hk : K v) : sliceK P h ty x lo hi mx K := by
  unfold sliceN at he
  split at he
  · unfold slN at he
    split at he
    · rename_i l hh hl hhi
      split at he
      · split at he
        · rename_i hs
          split at he
          · rename_i hc
            cases he
            unfold sliceK
            simp only [hs]
            exact ⟨hc.1, bndN_K hl (bndN_K hhi ⟨hc.2.1, hc.2.2, hk⟩)⟩
          · cases he
        · cases he
      · split at he
        · rename_i hs
          split at he
          · rename_i hc
            cases he
            unfold sliceK
            simp only [hs]
            exact ⟨hc.1, hc.2.1, bndN_K hl (bndN_K hhi ⟨hc.2.2.1, hc.2.2.2, hk⟩)⟩
          · cases he
        · cases he
      · split at he
        · rename_i ha
          split at he
          · rename_i hc
            cases he
            unfold sliceK
            simp only [ha]
            refine ⟨hc.1, trivial, bndN_K hl (bndN_K (d := _) (l := hh) ?_ ⟨hc.2.1, hc.2.2, hk⟩)⟩
            simpa only [topN, ha] using hhi
          · cases he
        · cases he
      · split at he
        · rename_i hc
          cases he
          unfold sliceK
          simp only
          exact ⟨hc.1, trivial, bndN_K hl (bndN_K hhi ⟨hc.2.1, hc.2.2, hk⟩)⟩
        · cases he
      · split at he
        · rename_i hs
          split at he
          · rename_i hc
            cases he
            unfold sliceK
            simp only [hs]
            exact ⟨trivial, bndN_K hl (bndN_K hhi ⟨hc.1, hc.2, hk⟩)⟩
          · cases he
        · cases he
      · cases he
    · cases he
  · rename_i m
    cases hi with
    | none => simp only [slN3] at he; split at he <;> simp_all
    | some hi =>
      simp only at he
      unfold slN3 at he
      split at he
      · rename_i l hh mm hl hhi hmm
        split at he
        · split at he
          · rename_i hs
            split at he
            · rename_i hc
              cases he
              unfold sliceK
              simp only [hs]
              exact ⟨hc.1, bndN_K hl (bndN_K hhi (bndN_K hmm ⟨hc.2.1, hc.2.2.1, hc.2.2.2, hk⟩))⟩
            · cases he
          · cases he
        · split at he
          · rename_i hs
            split at he
            · rename_i hc
              cases he
              unfold sliceK
              simp only [hs]
              exact ⟨hc.1, hc.2.1, bndN_K hl (bndN_K hhi (bndN_K hmm ⟨hc.2.2.1, hc.2.2.2.1, hc.2.2.2.2, hk⟩))⟩
            · cases he
          · cases he
        · cases he
      · cases he
theorem buildSliceN_K {ty : TypeId} {len : Nat} {ps : List (Nat × AV)} {r : AV} {d : Dl} {K : AV → Dl → Prop} (he : buildSliceN P n mu ty len ps = some (r, d)) (hk : K r d) : buildSliceK P n mu ty len ps K := by
  unfold buildSliceN at he
  unfold buildSliceK
  split at he
  · rename_i hs
    split at he
    · rename_i hc
      rw [hs]
      refine ⟨hc.1, hc.2.1, hc.2.2.1, hc.2.2.2, ?_⟩
      cases mu <;> (simp only at he ⊢; cases he; exact hk)
    · cases he
  · cases he
theorem apO_K {z b : Nat} {fs : List (List AV)} {s r : AV} {d : Dl} {K : AV → Dl → Prop} (he : apO n mu z b fs (baseRo z s) = some (r, d)) (hk : K r d) : match (generalizing := false) baseRo z s with
    | some es => (es.length + fs.length) * b ≤ 140737488355328 ∧ es.length + fs.length ≤ 9223372036854775807 ∧
      (match (generalizing := false) mu with
      | false => K (.ro z (es ++ fs) false) []
      | true => fs ≠ [] ∧ K (.sl (n, 0) z 0 (es.length + fs.length) true) [((n, 0), some (es.flatten ++ fs.flatten))])
    | none => False := by
  cases hb : baseRo z s with
  | none => rw [hb] at he; simp [apO] at he
  | some es =>
    rw [hb] at he
    simp only [apO] at he
    split at he
    · rename_i hc3
      refine ⟨hc3.1, hc3.2.1, ?_⟩
      cases mu with
      | false => simp only at he ⊢; cases he; exact hk
      | true => simp only at he ⊢; cases he; exact ⟨hc3.2.2 rfl, hk⟩
    · cases he
theorem appendN_K {ty xt : TypeId} {s x r : AV} {d : Dl} {K : AV → Dl → Prop} (he : appendN P n h mu ty xt s x = some (r, d)) (hk : K r d) : appendK P n h mu ty xt s x K := by
  unfold appendN at he
  unfold appendK
  split at he
  · rename_i e z hs
    split at he
    · rename_i hc
      rw [hs]
      refine ⟨hc.1, hc.2, ?_⟩
      cases hf : elemsA h z x with
      | none => rw [hf] at he; simp [apN] at he
      | some fs =>
        rw [hf] at he
        cases s with
        | sl m z' off len own =>
          simp only [apN] at he
          split at he
          · rename_i hc2
            simp only
            refine ⟨hc2.1, hc2.2, ?_⟩
            cases hg : hget h m with
            | none => rw [hg] at he; cases he
            | some cs =>
              rw [hg] at he
              simp only [apS] at he ⊢
              split at he
              · rename_i hc3; cases he; exact ⟨hc3.1, hc3.2.1, hc3.2.2.1, hc3.2.2.2, hk⟩
              · cases he
          · cases he
        | top => exact apO_K (s := .top ) (n := n) (mu := mu) (fs := fs) (b := bytesT P e) (z := z) he hk
        | sc a1 => exact apO_K (s := .sc a1) (n := n) (mu := mu) (fs := fs) (b := bytesT P e) (z := z) he hk
        | agg a1 => exact apO_K (s := .agg a1) (n := n) (mu := mu) (fs := fs) (b := bytesT P e) (z := z) he hk
        | tup a1 => exact apO_K (s := .tup a1) (n := n) (mu := mu) (fs := fs) (b := bytesT P e) (z := z) he hk
        | ptr a1 a2 => exact apO_K (s := .ptr a1 a2) (n := n) (mu := mu) (fs := fs) (b := bytesT P e) (z := z) he hk
        | ip a1 a2 => exact apO_K (s := .ip a1 a2) (n := n) (mu := mu) (fs := fs) (b := bytesT P e) (z := z) he hk
        | ro a1 a2 a3 => exact apO_K (s := .ro a1 a2 a3) (n := n) (mu := mu) (fs := fs) (b := bytesT P e) (z := z) he hk
        | fn a1 a2 a3 => exact apO_K (s := .fn a1 a2 a3) (n := n) (mu := mu) (fs := fs) (b := bytesT P e) (z := z) he hk
        | ifc a1 a2 => exact apO_K (s := .ifc a1 a2) (n := n) (mu := mu) (fs := fs) (b := bytesT P e) (z := z) he hk
    · cases he
  · cases he
theorem pickN_K {c a b v : AV} {K : AV → Prop} (he : pickN c a b = some v) (hk : K v) : pickK c a b K := by
  unfold pickN at he
  split at he <;> first | (cases he; simp only [pickK]; exact ⟨fun _ => hk, fun e => (nomatch e)⟩) | (cases he; simp only [pickK]; exact ⟨fun e => (nomatch e), fun _ => hk⟩) | cases he
theorem nilN_K {x v : AV} {K : AV → Prop} (he : nilN h x = some v) (hk : K v) : nilK h x K := by
  unfold nilN at he
  split at he
  · split at he
    · rename_i hc; cases he; exact ⟨hc, hk⟩
    · cases he
  · cases he; exact hk
  · cases he; exact hk
  · cases he
theorem builtinN_K {b : Builtin} {tys : List TypeId} {args : List AV} {r : AV} {d : Dl} {K : AV → Dl → Prop} (he : builtinN P n mu h b tys args = .ok r d) (hk : K r d) : builtinK P n mu b h tys args K := by
  unfold builtinN at he
  split at he
  · obtain ⟨h1, rfl⟩ := lift1_ok he
    unfold builtinK
    simp only
    rename_i ty _ x _
    cases hl : lenT P h ty x with
    | none => rw [hl] at h1; cases h1
    | some m => rw [hl] at h1; cases h1; exact hk
  · obtain ⟨h1, rfl⟩ := lift1_ok he
    unfold builtinK optK; simp only [h1]; exact hk
  · obtain ⟨h1, rfl⟩ := lift1_ok he
    unfold builtinK optK; simp only [h1]; exact hk
  · unfold builtinK
    exact appendN_K (lift2_ok he) hk
  · unfold builtinK
    simp only [lift2_ok he]
    exact hk
  · obtain ⟨g1, rfl⟩ := lift1_ok he
    unfold builtinK
    split <;> first
      | (simp only [cpxR, reduceCtorEq] at g1; done)
      | (unfold optK; simp only [g1]; exact hk)
theorem builtinN_call {b : Builtin} {tys : List TypeId} {args : List AV} {f : FuncId} {a : List AV} (he : builtinN P n mu h b tys args = .call f a) : False := by
  unfold builtinN at he
  split at he
  · exact lift1_call he
  · exact lift1_call he
  · exact lift1_call he
  · exact lift2_call he
  · exact lift2_call he
  · exact lift1_call he

/-- A step that is known. -/
theorem stepN_K {op : Op} {r : AV} {d : Dl} {K : AV → Dl → Prop} (he : stepN P n mu t h op = .ok r d) (hk : K r d) : stepK P n mu op t h K := by
  unfold stepN at he
  split at he
  · cases he; exact hk
  · cases he; exact hk
  · obtain ⟨h1, rfl⟩ := lift1_ok he; exact pickN_K (K := fun v => K v []) h1 hk
  · rename_i e
    simp only [stepK]
    cases hz : zeroC P e with
    | none => rw [hz] at he; cases he
    | some cs => rw [hz] at he; cases he; exact hk
  · simp only [boxN] at he
    split at he
    · rename_i hc; cases he; exact ⟨hc, hk⟩
    · cases he
  · obtain ⟨h1, rfl⟩ := lift1_ok he; exact loadN_K (K := fun v => K v []) h1 hk
  · obtain ⟨h1, rfl⟩ := liftD_ok he; exact storeN_K (K := fun d => K (.sc undef) d) h1 hk
  · obtain ⟨h1, rfl⟩ := lift1_ok he; exact nilN_K (K := fun v => K v []) h1 hk
  · obtain ⟨h1, rfl⟩ := lift1_ok he; exact idxAddrN_K (K := fun v => K v []) h1 hk
  · obtain ⟨h1, rfl⟩ := lift1_ok he; exact fieldAddrN_K (K := fun v => K v []) h1 hk
  · obtain ⟨h1, rfl⟩ := lift1_ok he; exact fieldN_K (K := fun v => K v []) h1 hk
  · obtain ⟨h1, rfl⟩ := lift1_ok he; exact indexN_K (K := fun v => K v []) h1 hk
  · obtain ⟨h1, rfl⟩ := lift1_ok he
    rw [evO_eq, evO_eq, evO_eq] at h1
    exact sliceN_K (K := fun v => K v []) h1 hk
  · obtain ⟨h1, rfl⟩ := lift1_ok he; simp only [stepK, h1, optK]; exact hk
  · obtain ⟨h1, rfl⟩ := lift1_ok he; simp only [stepK, h1, optK]; exact hk
  · obtain ⟨h1, rfl⟩ := lift1_ok he
    simp only [convN] at h1
    split at h1
    · rename_i hc; exact ⟨hc, by simp only [h1, optK]; exact hk⟩
    · cases h1
  · obtain ⟨h1, rfl⟩ := lift1_ok he
    rename_i x i
    simp only [stepK]
    unfold extractN at h1
    split at h1
    · rename_i vs heq
      simp only [heq, h1, optK]; exact hk
    · cases h1
  · cases he
    simp only [evL_eq] at hk
    exact hk
  · obtain ⟨h1, rfl⟩ := lift1_ok he
    rename_i ty ps
    rw [evP_eq] at h1
    simp only [stepK]
    cases hz : zeroC P ty with
    | none => rw [hz] at h1; cases h1
    | some cs =>
      rw [hz] at h1
      simp only [buildN] at h1
      split at h1
      · rename_i hc
        simp only
        cases hf : fillA (placeOf P ty) cs (ps.toList.map fun p => (p.1, ev t p.2)) with
        | none => rw [hf] at h1; cases h1
        | some cs' => rw [hf] at h1; cases h1; exact ⟨hc, hk⟩
      · cases h1
  · rw [evP_eq] at he
    exact buildSliceN_K (lift2_ok he) hk
  · simp only [stepK, lift2_ok he]; exact hk
  · rw [evL_eq] at he
    exact builtinN_K he hk
  · unfold callN at he
    split at he <;> cases he
  · cases he
theorem stepN_call {op : Op} {f : FuncId} {args : List AV} {K : AV → Dl → Prop} (he : stepN P n mu t h op = .call f args) (hk : callK P n f args h K) : stepK P n mu op t h K := by
  unfold stepN at he
  split at he <;> first | cases he | (exact (lift1_call he).elim) | (exact (lift2_call he).elim) | (exact (liftD_call he).elim) | (exact (builtinN_call he).elim) | skip
  · rename_i e
    cases hz : zeroC P e with
    | none => rw [hz] at he; cases he
    | some cs => rw [hz] at he; cases he
  · simp only [boxN] at he
    split at he <;> cases he
  · rename_i x as tys
    unfold callN at he
    split at he
    · rename_i g xs ys heq
      cases he
      simp only [stepK, heq]
      rw [evL_eq] at hk
      exact hk
    · cases he
end
end Go.Proofs.Aw

/- The abstract logic, part 21: regions, one known step after the other. -/
namespace Go.Proofs.Aw
open Go

/-! ### The same with no continuation in sight -/
section
variable {P : Program} {ms : List Nat} {ops l : List Oper} {K : St → Prop} {t : Tp} {h : Hp} {nx : Nat} {dst : Option Tmp} {op : Op} {mu : Bool} {ty : TypeId} {pos : String} {es : Array Edge}
end
/-! ### Drawn regions -/
section
variable {P : Program} {ms : List Nat} {ops l : List Oper} {nx : Nat} {t0 : Tp} {h0 : Hp} {K : Tp → Hp → Prop} {es : List En} {bm mk k : Nat} {dst : Option Tmp} {op : Op} {mu : Bool} {ty : TypeId} {pos : String} {ed : Array Edge} {o : Oper}
end
end Go.Proofs.Aw

/- The abstract logic, part 27: a region that draws its order, and ends with an operation that waits for all others. -/
namespace Go.Proofs.Aw
open Go

theorem wp_exits {P : Program} {o : Oper} {a : Act} {w : World} {K : Act → World → Prop} {Q Q' : Exit → Act → World → Prop} (h : ∀ e a w, e ≠ .normal → Q e a w → Q' e a w) (hh : o.wp P a w K Q) : o.wp P a w K Q' := by
  have hl : LetsOut Q → LetsOut Q' := fun ⟨a, w, hq⟩ => ⟨a, w, h _ _ _ (by simp) hq⟩
  unfold Oper.wp at *
  generalize (execOp a.eval o).run P w = r at *
  cases r with
  | ok n w' =>
    cases n <;> simp only [Oper.upon] at hh ⊢ <;>
      first
        | exact hh
        | exact Calls.mono hh (fun e w'' he => by cases e <;> first | exact he | exact h _ _ _ (by simp) he | exact hl he)
        | exact Rows.mono hh (fun _ _ he => he)
  | halt x w' => cases x <;> simp only [Oper.upon] at hh ⊢ <;> first | exact hh | exact h _ _ _ (by simp) hh
/-- o waits for all of them. -/
structure LastOp (ops : List Oper) (o : Oper) : Prop where
  all : ∀ j, j < ops.length → ∃ ed ∈ o.after, Region.binds .any ed = true ∧ ed.on = j
  own : ∀ ed ∈ o.after, Region.binds .any ed = true → ed.on < ops.length
  free : o.guard = none
  guards : ∀ p ∈ ops, ∀ j want, p.guard = some (j, want) → j < ops.length
  edges : ∀ i p, ops[i]? = some p → ∀ ed ∈ p.after, Region.binds .any ed = true → ed.on < i
theorem push_getD (l : Array Bool) (j : Nat) : (l.push false).getD j false = l.getD j false := by
  simp only [Array.getD_eq_getD_getElem?, Array.getElem?_push]
  split
  · rename_i h; subst h; simp
  · rfl
theorem push_getT (l : Array Bool) {j : Nat} (h : j < l.size) : (l.push false).getD j true = l.getD j true := by
  simp only [Array.getD_eq_getD_getElem?, Array.getElem?_push]
  rw [if_neg (by omega)]
theorem push_getN (l : Array Bool) : (l.push false).getD l.size true = false := by
  simp [Array.getD_eq_getD_getElem?]
theorem push_set (l : Array Bool) {i : Nat} (h : i < l.size) : (l.push false).setIfInBounds i true = (l.setIfInBounds i true).push false := by
  apply Array.ext_getElem?
  intro j
  rw [Array.getElem?_push, Array.size_setIfInBounds]
  by_cases hj : i = j
  · subst hj
    rw [if_neg (by omega), Array.getElem?_setIfInBounds_self_of_lt (by simp; omega), Array.getElem?_setIfInBounds_self_of_lt h]
  · rw [Array.getElem?_setIfInBounds_ne hj, Array.getElem?_setIfInBounds_ne hj, Array.getElem?_push]
theorem any_last {P : Program} {ops : List Oper} {o : Oper} (H : LastOp ops o) {Q Q0 : Exit → Act → World → Prop} (hn : ∀ a w, Q0 .normal a w → o.wp P a w (fun a w => Q .normal a w) Q) (he : ∀ e a w, e ≠ .normal → Q0 e a w → Q e a w) :
    ∀ (fuel : Nat) (listed : Array Bool) (a : Act) (w : World), listed.size = ops.length → left (lst listed) ops.length ≤ fuel → wpAny P .any ops.toArray Q0 fuel listed a w → wpAny P .any (ops ++ [o]).toArray Q (fuel + 1) (listed.push false) a w := by
  have lets : LetsOut Q0 → LetsOut Q := fun ⟨a, w, hq⟩ => ⟨a, w, he _ _ _ (by simp) hq⟩
  have none : ∀ (listed : Array Bool), listed.size = ops.length → Region.ready .any (ops ++ [o]).toArray (listed.push false) ≠ [] := by
    intro listed hsz hr
    have all : ∀ j, j < ops.length → lst listed j = true := by
      intro j
      induction j using Nat.strongRecOn with
      | _ j ih =>
        intro hj
        cases h : lst listed j with
        | true => rfl
        | false =>
          exfalso
          have hmem : j ∈ Region.ready .any (ops ++ [o]).toArray (listed.push false) := by
            refine mem_ready.2 ⟨by rw [push_getT _ (by omega)]; exact lst_ready.2 ⟨by omega, h⟩, ops[j], by simp [List.getElem?_append_left hj], fun ed hed hb => ?_⟩
            have hlt := H.edges j ops[j] (by simp [hj]) ed hed hb
            rw [push_getD]
            exact ih ed.on hlt (by omega)
          rw [hr] at hmem; cases hmem
    have hmem : ops.length ∈ Region.ready .any (ops ++ [o]).toArray (listed.push false) := by
      refine mem_ready.2 ⟨by rw [← hsz]; exact push_getN listed, o, by simp, fun ed hed hb => ?_⟩
      rw [push_getD]
      exact all _ (H.own ed hed hb)
    rw [hr] at hmem; cases hmem
  have full : ∀ (fuel : Nat) (listed : Array Bool) (a : Act) (w : World), listed.size = ops.length → (∀ j, j < ops.length → lst listed j = true) → wpAny P .any ops.toArray Q0 fuel listed a w → Q0 .normal a w := by
    intro fuel listed a w hsz hall h
    have hr : Region.ready .any ops.toArray listed = [] := by
      apply List.eq_nil_iff_forall_not_mem.2
      intro j hj
      obtain ⟨h1, _⟩ := mem_ready.1 hj
      obtain ⟨h2, h3⟩ := lst_ready.1 h1
      rw [hall j (by omega)] at h3; cases h3
    cases fuel with
    | zero => exact h.2
    | succ f => exact h.1 hr
  -- all but the last are done
  have last : ∀ (fuel : Nat) (listed : Array Bool) (a : Act) (w : World), listed.size = ops.length → (∀ j, j < ops.length → lst listed j = true) → Q0 .normal a w → wpOp P (ops ++ [o]).toArray Q ops.length (wpAny P .any (ops ++ [o]).toArray Q fuel ((listed.push false).setIfInBounds ops.length true)) a w := by
    intro fuel listed a w hsz hall hq
    have hr : Region.ready .any (ops ++ [o]).toArray ((listed.push false).setIfInBounds ops.length true) = [] := by
      apply List.eq_nil_iff_forall_not_mem.2
      intro j hj
      obtain ⟨h1, p, hp, _⟩ := mem_ready.1 hj
      have hjn : j < ops.length + 1 := by
        have := (Array.getElem?_eq_some_iff.1 hp).1
        simpa using this
      have : ((listed.push false).setIfInBounds ops.length true).getD j true = true := by
        simp only [Array.getD_eq_getD_getElem?]
        by_cases hji : j = ops.length
        · subst hji
          rw [← hsz]
          simp
        · rw [Array.getElem?_setIfInBounds_ne (by omega), ← Array.getD_eq_getD_getElem?, push_getT _ (by omega)]
          have := hall j (by omega)
          unfold lst at this
          rw [Array.getD_eq_getD_getElem?] at this ⊢
          have hlt : j < listed.size := by omega
          simp only [Array.getElem?_eq_getElem hlt, Option.getD_some] at this ⊢
          exact this
      rw [this] at h1; cases h1
    have hend : ∀ a w, Q .normal a w → wpAny P .any (ops ++ [o]).toArray Q fuel ((listed.push false).setIfInBounds ops.length true) a w := by
      intro a w hq
      cases fuel with
      | zero => exact ⟨hr, hq⟩
      | succ f => exact ⟨fun _ => hq, fun i hi => by rw [hr] at hi; cases hi⟩
    unfold wpOp
    have ho : (ops ++ [o]).toArray[ops.length]? = some o := by simp
    rw [ho]
    simp only
    rw [if_pos (by simp [Region.wanted, H.free])]
    exact .inl (Oper.wp_mono hend (hn a w hq))
  intro fuel
  induction fuel with
  | zero =>
    intro listed a w hsz hl h
    have hall := left_zero (Nat.le_zero.1 hl)
    have hq := full _ _ _ _ hsz hall h
    refine ⟨fun hr => absurd hr (none listed hsz), fun i hi => ?_⟩
    obtain ⟨h1, p, hp, hed⟩ := mem_ready.1 hi
    have hin : i < ops.length + 1 := by
      have := (Array.getElem?_eq_some_iff.1 hp).1
      simpa using this
    rcases Nat.lt_or_ge i ops.length with hlt | hge
    · rw [push_getT _ (by omega)] at h1
      obtain ⟨_, h3⟩ := lst_ready.1 h1
      rw [hall i hlt] at h3; cases h3
    · obtain rfl : i = ops.length := by omega
      exact last 0 listed a w hsz hall hq
  | succ f ih =>
    intro listed a w hsz hl h
    refine ⟨fun hr => absurd hr (none listed hsz), fun i hi => ?_⟩
    obtain ⟨h1, p, hp, hed⟩ := mem_ready.1 hi
    have hin : i < ops.length + 1 := by
      have := (Array.getElem?_eq_some_iff.1 hp).1
      simpa using this
    rcases Nat.lt_or_ge i ops.length with hlt | hge
    · have hp' : ops[i]? = some p := by
        have : (ops ++ [o])[i]? = some p := by simpa using hp
        rwa [List.getElem?_append_left hlt] at this
      rw [push_getT _ (by omega)] at h1
      have hi' : i ∈ Region.ready .any ops.toArray listed := mem_ready.2 ⟨h1, p, by simpa using hp', fun ed he hb => by
        have := hed ed he hb
        rwa [push_getD] at this⟩
      have hL : lst listed i = false := (lst_ready.1 h1).2
      have g := h.2 i hi'
      rw [push_set _ (by omega)]
      have hK : ∀ a w, wpAny P .any ops.toArray Q0 f (listed.setIfInBounds i true) a w → wpAny P .any (ops ++ [o]).toArray Q (f + 1) ((listed.setIfInBounds i true).push false) a w := fun a w hh => by
        refine ih _ a w (by simpa using hsz) ?_ hh
        have e1 : left (lst (listed.setIfInBounds i true)) ops.length = left (addL (lst listed) i) ops.length := left_same fun j _ => lst_set (by omega) j
        have := left_add hL hlt
        omega
      unfold wpOp at g ⊢
      have hpa : ops.toArray[i]? = some p := by simpa using hp'
      rw [hpa] at g
      rw [hp]
      simp only at g ⊢
      have hw : Region.wanted p (yielded (ops ++ [o]).toArray a.tmps) = Region.wanted p (yielded ops.toArray a.tmps) := by
        unfold Region.wanted
        cases hg : p.guard with
        | none => rfl
        | some jw =>
          obtain ⟨j, want⟩ := jw
          have hj := H.guards p (List.mem_of_getElem? hp') j want hg
          have : yielded (ops ++ [o]).toArray a.tmps j = yielded ops.toArray a.tmps j := by
            unfold yielded
            have e : (ops ++ [o]).toArray[j]? = ops.toArray[j]? := by
              simp [List.getElem?_append_left hj]
            rw [e]
          simp only [this]
      rw [hw]
      split
      · rename_i hc
        rw [if_pos hc] at g
        rcases g with g | ⟨g1, g2⟩
        · exact .inl (wp_exits he (Oper.wp_mono hK g))
        · exact .inr ⟨g1, lets g2⟩
      · rename_i hc
        rw [if_neg hc] at g
        exact hK _ _ g
    · obtain rfl : i = ops.length := by omega
      have hall : ∀ j, j < ops.length → lst listed j = true := fun j hj => by
        have hpo : p = o := by
          have : (ops ++ [o])[ops.length]? = some p := by simpa using hp
          simpa using this.symm
        subst hpo
        obtain ⟨ed, h2, h3, h4⟩ := H.all j hj
        have := hed ed h2 h3
        rw [push_getD, h4] at this
        exact this
      exact last (f + 1) listed a w hsz hall (full _ _ _ _ hsz hall h)
/-- The last operation that waits for all, behind the others in whatever order. -/
theorem AW_lastR {P : Program} {E : Env} {ops : List Oper} {o : Oper} {Q : Exit → St → Prop} {σ : St} {id : Nat} (hm : P.follows .mixedOrders = true) (H : LastOp ops o) (hd : ∀ i, o.dst = some i → i < E.N) (hf : fits E.N ops = true) (ho : once ops = true) (es : List En)
    (hw : Walked P ops σ.nx (tdel ops σ.t) σ.h es) (hl : es.length = ops.length) {r : AV} {d : Dl}
    (hy : Yields P (σ.nx + ops.length) o.op (tview (fun _ => true) es (tdel ops σ.t)) (hview (fun _ => true) es σ.h) r d)
    (hk : Q .normal ⟨tput o.dst r (tview (fun _ => true) es (tdel ops σ.t)), hap d (hview (fun _ => true) es σ.h), σ.nx + ops.length + 1⟩) : AW P E (.region id (ops ++ [o]).toArray true) Q σ := fun a w hr => by
  refine wp_region_any hm ?_
  have g := drawn_any (Q := fun e σ' => e = .normal ∧ σ' = ⟨tview (fun _ => true) es (tdel ops σ.t), hview (fun _ => true) es σ.h, σ.nx + ops.length⟩) hf ho es hw hl ⟨rfl, rfl⟩ hr
  have e1 : (ops ++ [o]).toArray.size = ops.toArray.size + 1 := by simp
  have e2 : Array.replicate (ops ++ [o]).toArray.size false = (Array.replicate ops.toArray.size false).push false := by
    rw [e1]
    exact Array.replicate_succ
  rw [e2, e1]
  refine any_last H (fun a' w' hq => ?_) (fun e a' w' hne hq => ?_) _ _ _ _ (by simp) ?_ g
  · obtain ⟨σ', hrel, _, rfl⟩ := hq
    obtain ⟨C, rfl, hC⟩ := hrel
    exact hy C a' o _ _ rfl hC.heap hC.t (fun k hkn => absurd (hC.kn _ hkn) (by simp)) fun u C' hp => ⟨_, ⟨C', rfl, hC.step hp hd⟩, hk⟩
  · obtain ⟨_, _, h1, _⟩ := hq
    exact absurd h1 hne
  · have : ∀ n, left (lst (Array.replicate ops.toArray.size false)) n ≤ n := fun n => by
      induction n with
      | zero => simp [left]
      | succ n ih => simp only [left]; split <;> omega
    have h2 := this ops.length
    simpa using h2
end Go.Proofs.Aw

/- The abstract logic, part 22: contracts of functions that write what they are handed. -/
namespace Go.Proofs.Aw
open Go

/-- The name that a new object has in the body. -/
def nmF (n : Nat) (φ : Nat → Nm) (m : Nm) : Nm := if m.1 = n then φ m.2 else m
def nmP (n : Nat) (hs : Hp) (m : Nm) : Bool := m.1 == n || (hget hs m).isSome
/-- How a body ends that was handed the objects of hs: what it hands back; what the old and the new objects hold then. -/
def RetH (P : Program) (rs : List ResultVar) (n : Nat) (φ : Nat → Nm) (hs h' : Hp) (r : AV) (e : Exit) (σ : St) : Prop :=
  (e = .ret ∨ e = .normal) ∧ (resK P σ rs fun vs => oneOf vs = ren (nmF n φ) r) ∧ ∀ m cs, hget h' m = some cs → nmP n hs m = true → hget σ.h (nmF n φ m) = some (renL (nmF n φ) cs)

theorem CY_heap {P : Program} {f : FuncId} {fn : Func} {c : Code} {args : List AV} {r : AV} {n : Nat} {hs h0 : Hp} {d : Dl} (φ : Nat → Nm) (hf : P.funcs[f]? = some fn) (hb : fn.body = some c) (hN : args.length ≤ fn.ntmps)
    (hsub : ∀ m cs, hget hs m = some cs → hget h0 m = some cs) (hlt : ∀ m cs, hget hs m = some cs → m.1 < n ∧ nmsL (fun k => Nat.blt k.1 n) cs = true) (hA : nmsL (fun k => Nat.blt k.1 n) args = true)
    (hd1 : ∀ m, m ∈ d.map (·.1) → m.1 = n ∨ (hget hs m).isSome = true) (hd2 : ∀ m, (hget hs m).isSome = true → m ∈ d.map (·.1))
    (hR : nms (nmP n hs) r = true) (hC : ∀ m cs, hget (hap d h0) m = some cs → nmP n hs m = true → nmsL (nmP n hs) cs = true)
    (hφ : ∀ k, (hget (hap d h0) (n, k)).isSome = true → n < (φ k).1) (hφi : ∀ j k, (hget (hap d h0) (n, j)).isSome = true → (hget (hap d h0) (n, k)).isSome = true → φ j = φ k → j = k)
    (h : ∀ E : Env, E.N = fn.ntmps → AW P E c (RetH P fn.results.toList n φ hs (hap d h0) r) ⟨slots 0 args, hs, n + 1⟩) : CY P n f args h0 r d := by
  intro C vs hh hL hn
  refine calls_of_wp hf hb ?_
  let C0 : Ctx := { ρ := C.ρ, bs := C.bs, live := fun m => (hget hs m).isSome = true, kn := fun m => m.1 < n + 1, mt := C.mt, w := C.w }
  let E : Env := { N := fn.ntmps, w0 := C.w, wr := fun b => ∃ m, (hget hs m).isSome = true ∧ b = C.ρ m, mt0 := C.mt, c0 := C0 }
  have hlen : vs.length = args.length := hL.length.symm
  have hsome : ∀ m, (hget hs m).isSome = true → C.live m := fun m hm => by
    obtain ⟨cs, hcs⟩ := Option.isSome_iff_exists.1 hm
    exact hh.get (hsub m cs hcs)
  have hslt : ∀ m, (hget hs m).isSome = true → m.1 < n := fun m hm => by
    obtain ⟨cs, hcs⟩ := Option.isSome_iff_exists.1 hm
    exact (hlt m cs hcs).1
  have sub0 : C.sub C0 id (fun k => Nat.blt k.1 n) := ⟨rfl, fun _ _ h => h, fun m hm _ => by simp only [Nat.blt_eq] at hm; exact Nat.lt_succ_of_lt hm, fun m _ _ hm => ⟨hsome m hm, rfl, rfl⟩⟩
  have hL0 : ConcL C0 args vs := ConcL.ren sub0 args vs hA (by rw [renL_id]; exact hL)
  have hH0 : HeapOk C0 hs := by
    refine ⟨fun m => Iff.rfl, fun m cs hg => ?_, fun m m' hm hm' he => hh.inj m m' (hsome m hm) (hsome m' hm') he, fun m hm => hh.mt m (hsome m hm), fun m hm => Nat.lt_succ_of_lt (hslt m hm)⟩
    obtain ⟨arr, ty, ha, hc⟩ := hh.obj m cs (hsub m cs hg)
    refine ⟨arr, ty, ha, fun j c hj => ?_⟩
    obtain ⟨u', hu', hcu'⟩ := hc j c hj
    exact ⟨u', hu', Conc.ren sub0 c u' (nmsL_get (hlt m cs hg).2 hj) (by rw [ren_id]; exact hcu')⟩
  have hrel : Rel E ⟨slots 0 args, hs, n + 1⟩ { tmps := vs.toArray ++ Array.replicate (fn.ntmps - vs.toArray.size) undef, defers := [] } C.w := by
    refine ⟨C0, rfl, hH0, ?_, ?_, rfl, fun m hm => hm, ⟨rfl, rfl, rfl, Nat.le_refl _, fun _ _ _ => rfl, fun _ _ => Iff.rfl, fun m hm _ => ⟨m, hm, rfl⟩, Ctx.le.refl _⟩⟩
    · refine TOk_slots 0 args vs _ hL0 fun i v hv => ?_
      have hi := (List.getElem?_eq_some_iff.1 hv).1
      rw [Nat.zero_add, Array.getElem?_append_left (by simpa using hi)]
      simpa using hv
    · simp [E]; omega
  refine Code.wp_mono ?_ (h E rfl _ _ hrel)
  rintro e a' w' ⟨σ', ⟨Cb, rfl, hCb⟩, he, hres, hobj⟩
  obtain ⟨us, u, hrun, hcu, hus⟩ := run_results hCb.heap hCb.t hres
  have hkn0 : ∀ m, C.live m → m.1 ≠ n := fun m hm e => hn m.2 (by have := hh.kn m hm; rwa [show m = (n, m.2) from by rw [← e]] at this)
  have hold : ∀ m, m.1 ≠ n → (hget hs m).isSome = false → hget (hap d h0) m = hget h0 m := fun m h1 h2 => hget_hap_other d h0 m fun hm => by
    rcases hd1 m hm with h3 | h3
    · exact h1 h3
    · rw [h2] at h3; cases h3
  let C' : Ctx := { ρ := fun m => if m.1 = n then Cb.ρ (φ m.2) else C.ρ m, bs := fun m => if m.1 = n then Cb.bs (φ m.2) else C.bs m, live := fun m => (hget (hap d h0) m).isSome = true, kn := fun m => C.kn m ∨ m.1 = n,
                    mt := fun b => (C.mt b ∧ b < C.w.heap.size) ∨ ∃ k, (hget (hap d h0) (n, k)).isSome = true ∧ b = Cb.ρ (φ k), w := Cb.w }
  have lvb : ∀ m, (hget (hap d h0) m).isSome = true → nmP n hs m = true → Cb.live (nmF n φ m) := fun m hm hp => by
    obtain ⟨cs, hcs⟩ := Option.isSome_iff_exists.1 hm
    exact hCb.heap.get (hobj m cs hcs hp)
  have lvn : ∀ k, (hget (hap d h0) (n, k)).isSome = true → Cb.live (φ k) := fun k hk => by
    have := lvb (n, k) hk (by simp [nmP])
    simpa [nmF] using this
  have lvo : ∀ m, m.1 ≠ n → (hget hs m).isSome = true → (hget (hap d h0) m).isSome = true → Cb.live m ∧ Cb.ρ m = C.ρ m ∧ Cb.bs m = C.bs m := fun m h1 h2 h3 => by
    have := lvb m h3 (by simp [nmP, h2])
    rw [show nmF n φ m = m from by simp [nmF, h1]] at this
    exact ⟨this, (hCb.frame.le.live m (Nat.lt_succ_of_lt (hslt m h2)) this).2⟩
  -- what lives behind the call, of what was there
  have lvC : ∀ m, m.1 ≠ n → (hget (hap d h0) m).isSome = true → C.live m := fun m h1 h3 => by
    cases h2 : (hget hs m).isSome with
    | true => exact hsome m h2
    | false =>
      rw [hold m h1 h2] at h3
      exact (hh.live m).2 h3
  have hsame : ∀ b, b < C.w.heap.size → (∀ m, (hget hs m).isSome = true → b ≠ C.ρ m) → Cb.w.heap[b]? = C.w.heap[b]? := fun b hb hne => hCb.frame.same b hb (fun ⟨m, hm, e⟩ => hne m hm e)
  have le : C.le C' := by
    refine ⟨hCb.frame.size, fun b hb hm => hCb.frame.le.same b hb hm, fun b hb hm => ?_, fun _ h => .inl h, fun m hk hl => ?_, fun m hk hl cs ty hc => ?_⟩
    · rcases hm with h1 | ⟨k, hk, h1⟩
      · exact h1.1
      · exact (hCb.frame.mt b hb).1 (by rw [h1]; exact hCb.heap.mt _ (lvn k hk))
    · have hm : m.1 ≠ n := fun e => hn m.2 (by rwa [show m = (n, m.2) from by rw [← e]] at hk)
      exact ⟨lvC m hm hl, by simp [C', hm], by simp [C', hm]⟩
    · have hm : m.1 ≠ n := fun e => hn m.2 (by rwa [show m = (n, m.2) from by rw [← e]] at hk)
      have hlC := lvC m hm hl
      have hb : C.ρ m < C.w.heap.size := hh.lt hlC
      cases h2 : (hget hs m).isSome with
      | true => exact hCb.frame.le.own m (Nat.lt_succ_of_lt (hslt m h2)) (lvo m hm h2 hl).1 cs ty hc
      | false =>
        refine ⟨cs, ty, (hsame _ hb fun m' hm' e => ?_).trans hc, rfl⟩
        have := hh.inj m m' hlC (hsome m' hm') e
        subst this
        rw [h2] at hm'; cases hm'
  have sub : Cb.sub C' (nmF n φ) (nmP n hs) := by
    refine ⟨rfl, fun b hb hm => ?_, fun m hp _ => ?_, fun m hp hk hl => ?_⟩
    · rcases hm with h1 | ⟨k, hk, h1⟩
      · exact (hCb.frame.mt b h1.2).2 h1.1
      · rw [h1]; exact hCb.heap.mt _ (lvn k hk)
    · simp only [nmP, Bool.or_eq_true, beq_iff_eq] at hp
      rcases hp with h1 | h1
      · exact .inr h1
      · exact .inl (hh.kn m (hsome m h1))
    · refine ⟨lvb m hl hp, ?_⟩
      by_cases h1 : m.1 = n
      · simp [C', nmF, h1]
      · simp only [nmP, Bool.or_eq_true, beq_iff_eq] at hp
        have h2 := hp.resolve_left h1
        simp only [C', nmF, h1, if_false]
        exact ⟨(lvo m h1 h2 hl).2.1.symm, (lvo m h1 h2 hl).2.2.symm⟩
  have hcr : Conc C' r u := Conc.ren sub _ u hR (by rw [← hus]; exact hcu)
  have hpost : Post C n h0 r d u C' := by
    refine ⟨le, fun _ => Iff.rfl, ⟨fun m => Iff.rfl, fun m cs hg => ?_, fun m m' hm hm' he => ?_, fun m hm => ?_, fun m hm => ?_⟩, hcr, fun b hb hne => ?_, fun b hb => ?_, hCb.frame.os, hCb.frame.tape, hCb.frame.output, fun m hm => ?_, fun m hm => ?_⟩
    · cases hp : nmP n hs m with
      | true =>
        obtain ⟨arr, ty, ha, hc⟩ := hCb.heap.obj _ _ (hobj m cs hg hp)
        have hρ : C'.ρ m = Cb.ρ (nmF n φ m) := by
          by_cases h1 : m.1 = n
          · simp [C', nmF, h1]
          · simp only [nmP, Bool.or_eq_true, beq_iff_eq] at hp
            simp only [C', nmF, h1, if_false]
            exact (lvo m h1 (hp.resolve_left h1) (by rw [hg]; rfl)).2.1.symm
        have hbs : C'.bs m = Cb.bs (nmF n φ m) := by
          by_cases h1 : m.1 = n
          · simp [C', nmF, h1]
          · simp only [nmP, Bool.or_eq_true, beq_iff_eq] at hp
            simp only [C', nmF, h1, if_false]
            exact (lvo m h1 (hp.resolve_left h1) (by rw [hg]; rfl)).2.2.symm
        refine ⟨arr, ty, by rw [hρ]; exact ha, fun j c hj => ?_⟩
        obtain ⟨u', hu', hcu'⟩ := hc j _ (renL_get _ cs j c hj)
        exact ⟨u', by rw [hbs]; exact hu', Conc.ren sub c u' (nmsL_get (hC m cs hg hp) hj) hcu'⟩
      | false =>
        simp only [nmP, Bool.or_eq_false_iff, beq_eq_false_iff_ne, ne_eq] at hp
        have hg' := hg
        rw [hold m hp.1 hp.2] at hg'
        have hl := hh.get hg'
        obtain ⟨arr, ty, ha, hc⟩ := hh.obj m cs hg'
        refine ⟨arr, ty, ?_, fun j c hj => ?_⟩
        · simp only [C', hp.1, if_false]
          refine (hsame _ (hh.lt hl) fun m' hm' e => ?_).trans ha
          have := hh.inj m m' hl (hsome m' hm') e
          subst this
          rw [hp.2] at hm'; cases hm'
        · obtain ⟨u', hu', hcu'⟩ := hc j c hj
          exact ⟨u', by simp only [C', hp.1, if_false]; exact hu', hcu'.mono le⟩
    · have oldρ : ∀ m, m.1 ≠ n → (hget (hap d h0) m).isSome = true → ∀ k, (hget (hap d h0) (n, k)).isSome = true → Cb.ρ (φ k) = C.ρ m → False := fun m h1 h3 k hk e => by
        cases h2 : (hget hs m).isSome with
        | true =>
          obtain ⟨l1, e1, _⟩ := lvo m h1 h2 h3
          have := hCb.heap.inj _ _ (lvn k hk) l1 (by rw [e, e1])
          have h4 := hφ k hk
          have h5 := hslt m h2
          rw [this] at h4
          omega
        | false =>
          have hlC := lvC m h1 h3
          have hb := hh.lt hlC
          obtain ⟨m', hm', e'⟩ := hCb.frame.wr _ (lvn k hk) (by rw [e]; exact hb)
          have := hh.inj m m' hlC (hsome m' hm') (by rw [← e, e'])
          subst this
          rw [h2] at hm'; cases hm'
      by_cases h1 : m.1 = n <;> by_cases h2 : m'.1 = n
      · have hm1 : (hget (hap d h0) (n, m.2)).isSome = true := by rw [show (n, m.2) = m from by rw [← h1]]; exact hm
        have hm2 : (hget (hap d h0) (n, m'.2)).isSome = true := by rw [show (n, m'.2) = m' from by rw [← h2]]; exact hm'
        simp only [C', h1, h2, if_true] at he
        have e1 := hCb.heap.inj _ _ (lvn _ hm1) (lvn _ hm2) he
        exact Prod.ext (h1.trans h2.symm) (hφi _ _ hm1 hm2 e1)
      · have hm1 : (hget (hap d h0) (n, m.2)).isSome = true := by rw [show (n, m.2) = m from by rw [← h1]]; exact hm
        simp only [C', h1, h2, if_true, if_false] at he
        exact (oldρ m' h2 hm' _ hm1 he).elim
      · have hm2 : (hget (hap d h0) (n, m'.2)).isSome = true := by rw [show (n, m'.2) = m' from by rw [← h2]]; exact hm'
        simp only [C', h1, h2, if_true, if_false] at he
        exact (oldρ m h1 hm _ hm2 he.symm).elim
      · simp only [C', h1, h2, if_false] at he
        exact hh.inj m m' (lvC m h1 hm) (lvC m' h2 hm') he
    · by_cases h1 : m.1 = n
      · have hm1 : (hget (hap d h0) (n, m.2)).isSome = true := by rw [show (n, m.2) = m from by rw [← h1]]; exact hm
        simp only [C', h1, if_true]
        exact .inr ⟨m.2, hm1, rfl⟩
      · simp only [C', h1, if_false]
        exact .inl ⟨hh.mt m (lvC m h1 hm), hh.lt (lvC m h1 hm)⟩
    · by_cases h1 : m.1 = n
      · exact .inr h1
      · exact .inl (hh.kn m (lvC m h1 hm))
    · exact hsame b hb fun m hm => hne m (hd2 m hm) (hsome m hm)
    · constructor
      · rintro (h1 | ⟨k, hk, h1⟩)
        · exact h1.1
        · exact (hCb.frame.mt b hb).1 (by rw [h1]; exact hCb.heap.mt _ (lvn k hk))
      · intro h1; exact .inl ⟨h1, hb⟩
    · by_cases h1 : m.1 = n
      · have hm1 : (hget (hap d h0) (n, m.2)).isSome = true := by rw [show (n, m.2) = m from by rw [← h1]]; exact hm
        simp only [C', h1, if_true]
        rcases Nat.lt_or_ge (Cb.ρ (φ m.2)) C.w.heap.size with h2 | h2
        · obtain ⟨m', hm', e'⟩ := hCb.frame.wr _ (lvn _ hm1) h2
          exact .inr (.inr ⟨m', hd2 m' hm', hsome m' hm', e'⟩)
        · exact .inr (.inl h2)
      · exact .inl ⟨lvC m h1 hm, by simp only [C', h1, if_false]⟩
    · rcases hd1 m hm with h1 | h1
      · exact .inr h1
      · exact .inl (hsome m h1)
  rcases he with rfl | rfl
  · exact ⟨hCb.defers, u, hrun, u, C', rfl, rfl, hpost⟩
  · exact ⟨hCb.defers, u, hrun, u, C', rfl, rfl, hpost⟩
end Go.Proofs.Aw

/- The abstract logic, part 23: a state under other names; a loop whose rounds begin under the same names. -/
namespace Go.Proofs.Aw
open Go

variable {P : Program} {E : Env} {Q : Exit → St → Prop} {σ σ' : St}
/-- What is known at the start of a body bears lower names than what the body makes. -/
theorem AW_base {c : Code} (h : (∀ m, E.c0.kn m → m.1 < σ.nx) → AW P E c Q σ) : AW P E c Q σ := fun a w hr => by
  obtain ⟨C, rfl, hC⟩ := hr
  exact h (fun m hm => hC.kn m (hC.frame.le.kn m hm)) a C.w ⟨C, rfl, hC⟩
def Ctx.named (C : Ctx) (f : Nm → Nm) (h : Hp) (nx : Nat) : Ctx where
  ρ := fun m => C.ρ (f m)
  bs := fun m => C.bs (f m)
  live := fun m => (hget h m).isSome = true
  kn := fun m => m.1 < nx
  mt := C.mt
  w := C.w
theorem Imp_ren (f : Nm → Nm) {k0 : Nat} (hb : ∀ m, E.c0.kn m → m.1 < k0) (hf : ∀ m : Nm, m.1 < k0 → f m = m) (hk0 : k0 ≤ σ'.nx)
    (ht : ∀ i, tget σ'.t i = .top ∨ (nms (fun m => Nat.blt m.1 σ'.nx) (tget σ'.t i) = true ∧ tget σ.t i = ren f (tget σ'.t i)))
    (hh : ∀ m cs, hget σ'.h m = some cs → nmsL (fun m => Nat.blt m.1 σ'.nx) cs = true ∧ m.1 < σ'.nx ∧ hget σ.h (f m) = some (renL f cs))
    (hinj : ∀ m m', (hget σ'.h m).isSome = true → (hget σ'.h m').isSome = true → f m = f m' → m = m') : Imp E σ σ' := fun a w hr => by
  obtain ⟨C, rfl, hC⟩ := hr
  have hlive : ∀ m, (hget σ'.h m).isSome = true → C.live (f m) := fun m hm => by
    obtain ⟨cs, hcs⟩ := Option.isSome_iff_exists.1 hm
    exact hC.heap.get (hh m cs hcs).2.2
  have hsub : C.sub (C.named f σ'.h σ'.nx) f (fun m => Nat.blt m.1 σ'.nx) :=
    { w := rfl, mt := fun b _ h => h, kn := fun m hp _ => (by simpa using hp : m.1 < σ'.nx), live := fun m _ _ hl => ⟨hlive m hl, rfl, rfl⟩ }
  refine ⟨C.named f σ'.h σ'.nx, rfl, ?_⟩
  have hcell : ∀ m cs, hget σ'.h m = some cs → ObjOk (C.named f σ'.h σ'.nx) (C.ρ (f m)) (C.bs (f m)) cs := fun m cs hcs => by
    obtain ⟨h1, _, h3⟩ := hh m cs hcs
    obtain ⟨arr, ty, h4, h5⟩ := hC.heap.obj _ _ h3
    refine ⟨arr, ty, h4, fun j c hj => ?_⟩
    obtain ⟨u, hu, hc⟩ := h5 j _ (renL_get f cs j c hj)
    exact ⟨u, hu, Conc.ren hsub c u (nmsL_get h1 hj) hc⟩
  exact {
    heap := { live := fun n => Iff.rfl, obj := hcell, inj := fun n m hn hm he => hinj n m hn hm (hC.heap.inj _ _ (hlive n hn) (hlive m hm) he), mt := fun n hn => hC.heap.mt _ (hlive n hn),
              kn := fun n hn => by
                obtain ⟨cs, hcs⟩ := Option.isSome_iff_exists.1 hn
                exact (hh n cs hcs).2.1 }
    t := fun i => by
      rcases ht i with h | ⟨h1, h2⟩
      · rw [h]; simp only [Conc]
      · have := hC.t i
        rw [h2] at this
        exact Conc.ren hsub _ _ h1 this
    size := hC.size
    defers := hC.defers
    kn := fun m hm => hm
    frame := { os := hC.frame.os, tape := hC.frame.tape, output := hC.frame.output, size := hC.frame.size, same := hC.frame.same, mt := hC.frame.mt,
               wr := fun n hn => hC.frame.wr _ (hlive n hn),
               le := { size := hC.frame.le.size, same := hC.frame.le.same, mt := hC.frame.le.mt, kn := fun i hi => Nat.lt_of_lt_of_le (hb i hi) hk0,
                       live := fun n hn hl => by
                         have hfn := hf n (hb n hn)
                         have := hlive n hl
                         rw [hfn] at this
                         obtain ⟨h1, h2⟩ := hC.frame.le.live n hn this
                         exact ⟨h1, by show C.ρ (f n) = _; rw [hfn]; exact h2.1, by show C.bs (f n) = _; rw [hfn]; exact h2.2⟩
                       own := fun n hn hl => by
                         have hfn := hf n (hb n hn)
                         have := hlive n hl
                         rw [hfn] at this
                         exact hC.frame.le.own n hn this } } }
end Go.Proofs.Aw

/- The abstract logic, part 29: a contract of a function that turns one object, at whatever name the object bears. -/
namespace Go.Proofs.Aw
open Go

end Go.Proofs.Aw

/- The abstract logic, part 24: a callee that is handed slices of the caller's own objects, and only reads them. -/
namespace Go.Proofs.Aw
open Go

mutual
/-- A value that points at nothing. -/
def plainA : AV → Bool
  | .top => true
  | .sc _ => true
  | .agg cs => plainAL cs
  | .tup cs => plainAL cs
  | _ => false
def plainAL : List AV → Bool
  | [] => true
  | v :: vs => plainA v && plainAL vs
end
mutual
theorem Conc.plain {C C' : Ctx} : ∀ (v : AV) (u : Value), plainA v = true → Conc C v u → Conc C' v u
  | .top, _, _, _ => by simp only [Conc]
  | .sc _, _, _, h => h
  | .agg cs, _, hp, ⟨us, e, h⟩ => ⟨us, e, ConcL.plain cs _ hp h⟩
  | .tup cs, _, hp, ⟨us, e, h⟩ => ⟨us, e, ConcL.plain cs _ hp h⟩
  | .ptr _ _, _, hp, _ => by cases hp
  | .sl _ _ _ _ _, _, hp, _ => by cases hp
  | .ip _ _, _, hp, _ => by cases hp
  | .ro _ _ _, _, hp, _ => by cases hp
  | .fn _ _ _, _, hp, _ => by cases hp
  | .ifc _ _, _, hp, _ => by cases hp
theorem ConcL.plain {C C' : Ctx} : ∀ (vs : List AV) (us : List Value), plainAL vs = true → ConcL C vs us → ConcL C' vs us
  | [], _, _, h => h
  | v :: vs, _, hp, ⟨u, us, e, h1, h2⟩ => by
    simp only [plainAL, Bool.and_eq_true] at hp
    exact ⟨u, us, e, Conc.plain v u hp.1 h1, ConcL.plain vs us hp.2 h2⟩
end
/-- A value or a slice as the callee sees it. -/
def Frz0 (h : Hp) (v v' : AV) : Prop :=
  (v' = v ∧ nms (fun _ => false) v = true) ∨ ∃ m z off len own fs, v = .sl m z off len own ∧ 0 < z ∧ elemsA h z v = some fs ∧ nmsE (fun _ => false) fs = true ∧ v' = .ro z fs false
def FrzL0 (h : Hp) : List AV → List AV → Prop
  | [], vs' => vs' = []
  | v :: vs, l => ∃ v' vs', l = v' :: vs' ∧ Frz0 h v v' ∧ FrzL0 h vs vs'
theorem FrzL0.get {h : Hp} : ∀ {vs vs' : List AV}, FrzL0 h vs vs' → ∀ (j : Nat) (c : AV), vs'[j]? = some c → ∃ d, vs[j]? = some d ∧ Frz0 h d c
  | [], _, hf, j, c, hc => by simp only [FrzL0] at hf; subst hf; simp at hc
  | v :: vs, _, ⟨v', vs', rfl, h1, h2⟩, 0, c, hc => by simp at hc; subst hc; exact ⟨v, rfl, h1⟩
  | v :: vs, _, ⟨v', vs', rfl, h1, h2⟩, j + 1, c, hc => by simpa using FrzL0.get h2 j c (by simpa using hc)
/-- The value as the callee sees it; a pointer to an object of the caller's is one to what nobody may write. -/
def Frz1 (h : Hp) (v v' : AV) : Prop := Frz0 h v v' ∨ ∃ m off cs fs, v = .ptr m off ∧ hget h m = some cs ∧ FrzL0 h cs fs ∧ v' = .ip fs off
def FrzL1 (h : Hp) : List AV → List AV → Prop
  | [], vs' => vs' = []
  | v :: vs, l => ∃ v' vs', l = v' :: vs' ∧ Frz1 h v v' ∧ FrzL1 h vs vs'
/-- The same of a function with what it has caught. -/
def Frz (h : Hp) (v v' : AV) : Prop := Frz1 h v v' ∨ ∃ f xs ys xs' ys', v = .fn f xs ys ∧ FrzL1 h xs xs' ∧ FrzL1 h ys ys' ∧ v' = .fn f xs' ys'
def FrzL (h : Hp) : List AV → List AV → Prop
  | [], vs' => vs' = []
  | v :: vs, l => ∃ v' vs', l = v' :: vs' ∧ Frz h v v' ∧ FrzL h vs vs'
def Ctx.bare (C : Ctx) : Ctx := { ρ := C.ρ, bs := C.bs, live := fun _ => False, kn := fun _ => False, mt := fun _ => False, w := C.w }
theorem Ctx.bare_sub (C : Ctx) : C.sub C.bare id (fun _ => false) := ⟨rfl, fun _ _ h => h.elim, fun _ hm => (nomatch hm), fun _ hm => (nomatch hm)⟩
theorem nmsE_get {p : Nm → Bool} : ∀ {es : List (List AV)} {i : Nat} {e : List AV}, nmsE p es = true → es[i]? = some e → nmsL p e = true
  | [], i, e, _, h => by simp at h
  | d :: es, 0, e, hp, h => by simp only [nmsE, Bool.and_eq_true] at hp; simp at h; rw [← h]; exact hp.1
  | d :: es, i + 1, e, hp, h => by simp only [nmsE, Bool.and_eq_true] at hp; exact nmsE_get hp.2 (by simpa using h)
theorem conc_frz0 {C : Ctx} {h : Hp} (hh : HeapOk C h) {v v' : AV} {u : Value} (hf : Frz0 h v v') (hc : Conc C v u) : Conc C.bare v' u := by
  rcases hf with ⟨rfl, hn⟩ | ⟨m, z, off, len, own, fs, rfl, h0, he, hn, rfl⟩
  · exact Conc.ren C.bare_sub _ u hn (by rw [ren_id]; exact hc)
  · simp only [elemsA] at he
    obtain ⟨cs, hg, he⟩ := Option.bind_eq_some_iff.1 he
    split at he
    · rename_i hz
      cases he
      obtain ⟨_, _, hl⟩ := hc
      have hlive := hh.get hg
      obtain ⟨cap, o, rfl, hle, hoff, _⟩ := hl hlive
      obtain ⟨arr, ty, hb, hcells⟩ := hh.obj _ _ hg
      refine conc_ro.2 ⟨some ⟨C.ρ m, o, none⟩, cap, by rw [chunk_length], by rw [chunk_length]; exact hle, (fun hx => nomatch hx), fun hne => ⟨_, rfl, ?_, (fun hx => hx), ?_⟩⟩
      · have := (Array.getElem?_eq_some_iff.1 hb).1
        exact this
      · have hlen : 0 < len := by
          rcases Nat.eq_zero_or_pos len with h1 | h1
          · subst h1; exact absurd rfl hne
          · exact h1
        obtain rfl : o = C.bs m + off := by
          rcases hoff with h1 | h1
          · exact h1
          · omega
        refine ConcE.mk fun j e hj => ?_
        have hj' := chunk_get z len _ j e hj
        have hin : j * z + z ≤ len * z := by rw [← Nat.succ_mul]; exact Nat.mul_le_mul_right z hj'.1
        have hel : e.length = z := by
          rw [hj'.2]; simp only [List.length_take, List.length_drop]; omega
        refine ⟨hel, ConcM.mk fun k c hk => ?_⟩
        have hk' : k < z := by
          have := (List.getElem?_eq_some_iff.1 hk).1
          omega
        have hcell : cs[off + (j * z + k)]? = some c := by
          rw [hj'.2, List.getElem?_take, if_pos hk', List.getElem?_drop, List.getElem?_drop] at hk
          exact hk
        obtain ⟨u, hu, hcc⟩ := obj_row (C := C) (b := C.ρ m) (k := C.bs m) (cs := cs) ⟨arr, ty, hb, hcells⟩ _ _ hcell
        refine ⟨u, ?_, Conc.ren C.bare_sub c u (nmsL_get (nmsE_get hn hj) hk) (by rw [ren_id]; exact hcc)⟩
        simp only [add_mk] at hu ⊢
        have e1 : C.bs m + off + (0 + j) * z + (0 + k) = C.bs m + (off + (j * z + k)) := by simp only [Nat.zero_add]; omega
        rw [e1]
        exact hu
    · cases he
theorem conc_frz1 {C : Ctx} {h : Hp} (hh : HeapOk C h) {v v' : AV} {u : Value} (hf : Frz1 h v v') (hc : Conc C v u) : Conc C.bare v' u := by
  rcases hf with hf | ⟨m, off, cs, fs, rfl, hg, hl, rfl⟩
  · exact conc_frz0 hh hf hc
  · simp only [Conc] at hc ⊢
    have hlive := hh.get hg
    refine ⟨⟨C.ρ m, C.bs m, none⟩, ?_, hh.lt hlive, (fun hx => hx), ConcM.mk fun j c hj => ?_⟩
    · rw [hc.2.2 hlive, add_mk]
    · obtain ⟨d, hd, hf⟩ := hl.get j c hj
      obtain ⟨u, hu, hcu⟩ := obj_row (hh.obj m cs hg) j d hd
      rw [Nat.zero_add]
      exact ⟨u, hu, conc_frz0 hh hf hcu⟩
theorem concL_frz1 {C : Ctx} {h : Hp} (hh : HeapOk C h) : ∀ {vs vs' : List AV} {us : List Value}, FrzL1 h vs vs' → ConcL C vs us → ConcL C.bare vs' us
  | [], _, us, hf, hc => by simp only [FrzL1] at hf; subst hf; exact hc
  | v :: vs, _, us, ⟨v', vs', rfl, h1, h2⟩, hc => by
    obtain ⟨u, us', rfl, hc1, hc2⟩ := hc
    exact ⟨u, us', rfl, conc_frz1 hh h1 hc1, concL_frz1 hh h2 hc2⟩
theorem conc_frz {C : Ctx} {h : Hp} (hh : HeapOk C h) {v v' : AV} {u : Value} (hf : Frz h v v') (hc : Conc C v u) : Conc C.bare v' u := by
  rcases hf with hf | ⟨f, xs, ys, xs', ys', rfl, h1, h2, rfl⟩
  · exact conc_frz1 hh hf hc
  · simp only [Conc] at hc ⊢
    obtain ⟨us, vs, e, c1, c2⟩ := hc
    exact ⟨us, vs, e, concL_frz1 hh h1 c1, concL_frz1 hh h2 c2⟩
theorem concL_frz {C : Ctx} {h : Hp} (hh : HeapOk C h) : ∀ {vs vs' : List AV} {us : List Value}, FrzL h vs vs' → ConcL C vs us → ConcL C.bare vs' us
  | [], _, us, hf, hc => by simp only [FrzL] at hf; subst hf; exact hc
  | v :: vs, _, us, ⟨v', vs', rfl, h1, h2⟩, hc => by
    obtain ⟨u, us', rfl, hc1, hc2⟩ := hc
    exact ⟨u, us', rfl, conc_frz hh h1 hc1, concL_frz hh h2 hc2⟩
theorem CY_frz {P : Program} {n : Nat} {f : FuncId} {args args' : List AV} {h : Hp} {r : AV} (hf : FrzL h args args') (hr : plainA r = true) (hc : CY P n f args' [] r []) : CY P n f args h r [] := by
  intro C vs hh hL hn
  have hbare : HeapOk C.bare [] := ⟨fun m => by simp [Ctx.bare, hget], fun m cs hg => by simp [hget] at hg, fun m m' hm => hm.elim, fun m hm => hm.elim, fun m hm => hm.elim⟩
  refine (hc C.bare vs hbare (concL_frz hh hf hL) (fun k hk => hk)).mono ?_
  rintro e w' ⟨u, C0, rfl, rfl, hp⟩
  have hsame : ∀ b, b < C.w.heap.size → C0.w.heap[b]? = C.w.heap[b]? := fun b hb => hp.same b hb (fun m hm => by simp at hm)
  let C' : Ctx := { ρ := C.ρ, bs := C.bs, live := C.live, kn := fun m => C.kn m ∨ m.1 = n, mt := fun b => C.mt b ∧ b < C.w.heap.size, w := C0.w }
  have le : C.le C' := by
    refine ⟨hp.le.size, fun b hb _ => hsame b hb, fun b hb hm => hm.1, fun _ h => .inl h, fun m _ hl => ⟨hl, rfl, rfl⟩, fun m _ hl cs ty hcs => ?_⟩
    have hlt : C.ρ m < C.w.heap.size := by
      rcases Nat.lt_or_ge (C.ρ m) C.w.heap.size with h2 | h2
      · exact h2
      · rw [Array.getElem?_eq_none h2] at hcs; cases hcs
    exact ⟨cs, ty, (hsame _ hlt).trans hcs, rfl⟩
  refine ⟨u, C', rfl, rfl, le, fun _ => Iff.rfl, ?_, Conc.plain r u hr hp.val, fun b hb _ => hsame b hb, fun b hb => ⟨fun h => h.1, fun h => ⟨h, hb⟩⟩, hp.os, hp.tape, hp.output, fun m hl => .inl ⟨hl, rfl⟩, fun m hm => by simp at hm⟩
  exact hh.mono le (fun _ => Iff.rfl) (fun m hm => hsame _ (hh.lt hm)) (fun b hb hlt => ⟨hb, hlt⟩)
end Go.Proofs.Aw

/- The abstract logic, part 32: a callee that only reads what it is handed, and hands back new objects. -/
namespace Go.Proofs.Aw
open Go
mutual
/-- A value that points at new objects alone. -/
def ownA (n : Nat) : AV → Bool
  | .top => true
  | .sc _ => true
  | .agg cs => ownAL n cs
  | .tup cs => ownAL n cs
  | .ptr m _ => Nat.beq m.1 n
  | .sl m _ _ _ _ => Nat.beq m.1 n
  | _ => false
def ownAL (n : Nat) : List AV → Bool
  | [] => true
  | v :: vs => ownA n v && ownAL n vs
end
theorem ownAL_get {n : Nat} : ∀ {cs : List AV} {j : Nat} {c : AV}, ownAL n cs = true → cs[j]? = some c → ownA n c = true
  | [], j, c, _, h => by simp at h
  | d :: cs, 0, c, hp, h => by simp only [ownAL, Bool.and_eq_true] at hp; simp at h; rw [← h]; exact hp.1
  | d :: cs, j + 1, c, hp, h => by simp only [ownAL, Bool.and_eq_true] at hp; exact ownAL_get hp.2 (by simpa using h)
mutual
theorem Conc.own {C C' : Ctx} {n : Nat} (hw : C'.w = C.w) (hk : ∀ m : Nm, m.1 = n → C'.kn m) (hl : ∀ m : Nm, m.1 = n → C'.live m → C.live m ∧ C'.ρ m = C.ρ m ∧ C'.bs m = C.bs m) : ∀ (v : AV) (u : Value), ownA n v = true → Conc C v u → Conc C' v u
  | .top, _, _, _ => by simp only [Conc]
  | .sc _, _, _, h => h
  | .agg cs, _, hp, ⟨us, e, h⟩ => ⟨us, e, ConcL.own hw hk hl cs _ hp h⟩
  | .tup cs, _, hp, ⟨us, e, h⟩ => ⟨us, e, ConcL.own hw hk hl cs _ hp h⟩
  | .ptr m off, u, hp, h => by
    have hm : m.1 = n := Nat.eq_of_beq_eq_true hp
    simp only [Conc] at h ⊢
    refine ⟨h.1, hk m hm, fun hlv => ?_⟩
    obtain ⟨l1, l2, l3⟩ := hl m hm hlv
    rw [l2, l3]; exact h.2.2 l1
  | .sl m z off len own, u, hp, h => by
    have hm : m.1 = n := Nat.eq_of_beq_eq_true hp
    simp only [Conc] at h ⊢
    refine ⟨h.1, hk m hm, fun hlv => ?_⟩
    obtain ⟨l1, l2, l3⟩ := hl m hm hlv
    rw [l2, l3, hw]; exact h.2.2 l1
  | .ip _ _, _, hp, _ => by cases hp
  | .ro _ _ _, _, hp, _ => by cases hp
  | .fn _ _ _, _, hp, _ => by cases hp
  | .ifc _ _, _, hp, _ => by cases hp
theorem ConcL.own {C C' : Ctx} {n : Nat} (hw : C'.w = C.w) (hk : ∀ m : Nm, m.1 = n → C'.kn m) (hl : ∀ m : Nm, m.1 = n → C'.live m → C.live m ∧ C'.ρ m = C.ρ m ∧ C'.bs m = C.bs m) : ∀ (vs : List AV) (us : List Value), ownAL n vs = true → ConcL C vs us → ConcL C' vs us
  | [], _, _, h => h
  | v :: vs, _, hp, ⟨u, us, e, h1, h2⟩ => by
    simp only [ownAL, Bool.and_eq_true] at hp
    exact ⟨u, us, e, Conc.own hw hk hl v u hp.1 h1, ConcL.own hw hk hl vs us hp.2 h2⟩
end
def ownD (n : Nat) (d : Dl) : Prop := ∀ q ∈ d, q.1.1 = n ∧ ∃ cs, q.2 = some cs ∧ ownAL n cs = true
/-- What stands in the new objects. -/
theorem ownD_get {n : Nat} {m : Nm} {cs : List AV} : ∀ {d : Dl} {h : Hp}, ownD n d → (∀ cs', hget h m = some cs' → ownAL n cs' = true) → hget (hap d h) m = some cs → ownAL n cs = true
  | [], h, _, hh, hg => hh cs hg
  | (k, o) :: d, h, hd, hh, hg => by
    obtain ⟨_, c, h2, h3⟩ := hd (k, o) List.mem_cons_self
    simp only at h2
    subst h2
    simp only [hap] at hg
    refine ownD_get (fun q hq => hd q (List.mem_cons_of_mem _ hq)) (fun cs' h' => ?_) hg
    rw [hget_hset] at h'
    split at h'
    · cases h'; exact h3
    · exact hh cs' h'
theorem CY_frzN {P : Program} {n : Nat} {f : FuncId} {args args' : List AV} {h : Hp} {r : AV} {d : Dl} (hf : FrzL h args args') (hr : ownA n r = true) (hd : ownD n d) (hc : CY P n f args' [] r d) : CY P n f args h r d := by
  intro C vs hh hL hn
  have hbare : HeapOk C.bare [] := ⟨fun m => by simp [Ctx.bare, hget], fun m cs hg => by simp [hget] at hg, fun m m' hm => hm.elim, fun m hm => hm.elim, fun m hm => hm.elim⟩
  refine (hc C.bare vs hbare (concL_frz hh hf hL) (fun k hk => hk)).mono ?_
  rintro e w' ⟨u, C0, rfl, rfl, hp⟩
  have hsame : ∀ b, b < C.w.heap.size → C0.w.heap[b]? = C.w.heap[b]? := fun b hb => hp.same b hb (fun m _ hl => hl.elim)
  have hne : ∀ m, C.kn m → m.1 ≠ n := fun m hm e => hn m.2 (by rw [← e]; exact hm)
  have k0 : ∀ m, C0.kn m → m.1 = n := fun m hm => ((hp.kn m).1 hm).elim (fun h => h.elim) id
  have l0 : ∀ m, C0.live m → m.1 = n := fun m hm => k0 m (hp.heap.kn m hm)
  have s0 : ∀ m, C0.live m → C.w.heap.size ≤ C0.ρ m := fun m hm => by
    rcases hp.orig m hm with ⟨h1, _⟩ | h1 | ⟨_, _, h1, _⟩
    · exact h1.elim
    · exact h1
    · exact h1.elim
  have nd : ∀ m, m.1 ≠ n → m ∉ d.map (·.1) := fun m hm hq => by
    obtain ⟨q, q1, rfl⟩ := List.mem_map.1 hq
    exact hm (hd q q1).1
  have hold : ∀ m, m.1 ≠ n → hget (hap d h) m = hget h m := fun m hm => hget_hap_other d h m (nd m hm)
  have hnone : ∀ m, m.1 = n → hget h m = none := fun m hm => by
    cases hg : hget h m with
    | none => rfl
    | some cs => exact absurd hm (hne m (hh.kn m ((hh.live m).2 (by rw [hg]; rfl))))
  have hnew : ∀ m, m.1 = n → hget (hap d h) m = hget (hap d []) m := fun m hm => by
    rcases hget_hap m d h with ⟨_, h1⟩ | ⟨h1, h2⟩
    · exact h1 []
    · rw [h2, hget_hap_other d [] m h1, hnone m hm]; rfl
  let C' : Ctx := { ρ := fun m => if m.1 = n then C0.ρ m else C.ρ m, bs := fun m => if m.1 = n then C0.bs m else C.bs m, live := fun m => C.live m ∨ C0.live m, kn := fun m => C.kn m ∨ m.1 = n, mt := fun b => (C.mt b ∧ b < C.w.heap.size) ∨ (C.w.heap.size ≤ b ∧ C0.mt b), w := C0.w }
  have lt : ∀ m, C.live m → C.ρ m < C.w.heap.size := fun m hm => hh.lt hm
  have eold : ∀ m, m.1 ≠ n → C'.ρ m = C.ρ m ∧ C'.bs m = C.bs m := fun m hm => ⟨if_neg hm, if_neg hm⟩
  have enew : ∀ m, m.1 = n → C'.ρ m = C0.ρ m ∧ C'.bs m = C0.bs m := fun m hm => ⟨if_pos hm, if_pos hm⟩
  have le : C.le C' := by
    refine ⟨hp.le.size, fun b hb _ => hsame b hb, fun b hb hm => ?_, fun _ h => .inl h, fun m hm hl => ?_, fun m hm hl cs ty hcs => ?_⟩
    · rcases hm with hm | hm
      · exact hm.1
      · omega
    · rcases hl with hl | hl
      · exact ⟨hl, eold m (hne m hm)⟩
      · exact absurd (l0 m hl) (hne m hm)
    · have hlt : C.ρ m < C.w.heap.size := by
        rcases Nat.lt_or_ge (C.ρ m) C.w.heap.size with h2 | h2
        · exact h2
        · rw [Array.getElem?_eq_none h2] at hcs; cases hcs
      exact ⟨cs, ty, (hsame _ hlt).trans hcs, rfl⟩
  have hl' : ∀ m : Nm, m.1 = n → C'.live m → C0.live m ∧ C'.ρ m = C0.ρ m ∧ C'.bs m = C0.bs m := fun m hm hl => by
    rcases hl with hl | hl
    · exact absurd hm (hne m (hh.kn m hl))
    · exact ⟨hl, enew m hm⟩
  have conv : ∀ v u, ownA n v = true → Conc C0 v u → Conc C' v u := Conc.own rfl (fun m hm => .inr hm) hl'
  refine ⟨u, C', rfl, rfl, le, fun _ => Iff.rfl, ⟨fun m => ?_, fun m cs hg => ?_, fun m m' hm hm' he => ?_, fun m hm => ?_, fun m hm => ?_⟩, conv r u hr hp.val, fun b hb _ => hsame b hb, fun b hb => ⟨fun h => ?_, fun h => .inl ⟨h, hb⟩⟩, hp.os, hp.tape, hp.output, fun m hl => ?_, fun m hm => ?_⟩
  · by_cases c : m.1 = n
    · rw [hnew m c, ← hp.heap.live m]
      exact ⟨fun h => h.elim (fun h => absurd c (hne m (hh.kn m h))) id, .inr⟩
    · rw [hold m c, ← hh.live m]
      exact ⟨fun h => h.elim id (fun h => absurd (l0 m h) c), .inl⟩
  · by_cases c : m.1 = n
    · rw [hnew m c] at hg
      obtain ⟨arr, ty, ha, hcs⟩ := hp.heap.obj m cs hg
      have ho := ownD_get hd (fun cs' h' => by simp [hget] at h') hg
      refine ⟨arr, ty, by rw [(enew m c).1]; exact ha, fun j x hj => ?_⟩
      obtain ⟨v, v1, v2⟩ := hcs j x hj
      exact ⟨v, by rw [(enew m c).2]; exact v1, conv x v (ownAL_get ho hj) v2⟩
    · rw [hold m c] at hg
      have hlv := hh.get hg
      obtain ⟨arr, ty, ha, hcs⟩ := hh.obj m cs hg
      refine ⟨arr, ty, by rw [(eold m c).1]; show C0.w.heap[C.ρ m]? = _; rw [hsame _ (lt m hlv)]; exact ha, fun j x hj => ?_⟩
      obtain ⟨v, v1, v2⟩ := hcs j x hj
      exact ⟨v, by rw [(eold m c).2]; exact v1, v2.mono le⟩
  · rcases hm with hm | hm <;> rcases hm' with hm' | hm'
    · rw [(eold m (hne m (hh.kn m hm))).1, (eold m' (hne m' (hh.kn m' hm'))).1] at he
      exact hh.inj m m' hm hm' he
    · rw [(eold m (hne m (hh.kn m hm))).1, (enew m' (l0 m' hm')).1] at he
      have := lt m hm; have := s0 m' hm'; omega
    · rw [(enew m (l0 m hm)).1, (eold m' (hne m' (hh.kn m' hm'))).1] at he
      have := lt m' hm'; have := s0 m hm; omega
    · rw [(enew m (l0 m hm)).1, (enew m' (l0 m' hm')).1] at he
      exact hp.heap.inj m m' hm hm' he
  · rcases hm with hm | hm
    · rw [(eold m (hne m (hh.kn m hm))).1]
      exact .inl ⟨hh.mt m hm, lt m hm⟩
    · rw [(enew m (l0 m hm)).1]
      exact .inr ⟨s0 m hm, hp.heap.mt m hm⟩
  · rcases hm with hm | hm
    · exact .inl (hh.kn m hm)
    · exact .inr (l0 m hm)
  · rcases h with h | h
    · exact h.1
    · omega
  · rcases hl with hl | hl
    · exact .inl ⟨hl, (eold m (hne m (hh.kn m hl))).1⟩
    · refine .inr (.inl ?_)
      rw [(enew m (l0 m hl)).1]
      exact s0 m hl
  · obtain ⟨q, q1, rfl⟩ := List.mem_map.1 hm
    exact .inr (hd q q1).1
end Go.Proofs.Aw

/- The abstract logic, part 33: objects that are written no more: their slices are read-only rows from here on. -/
namespace Go.Proofs.Aw
open Go
variable {P : Program} {E : Env} {Q : Exit → St → Prop} {σ σ' : St}
/-- What a value may be told as, where some objects are written no more: as it is; nothing; no rows; its rows. -/
def Fz (h : Hp) (F : Nm → Prop) (v v' : AV) : Prop := v' = v ∨ v' = .top ∨ (∃ z, v = .sc (.slice none 0 0) ∧ v' = .ro z [] false) ∨
  ∃ n cs z len own es, F n ∧ hget h n = some cs ∧ v = .sl n z 0 len own ∧ v' = .ro z es false ∧ es.length = len ∧ ∀ (j : Nat) (e : List AV), es[j]? = some e → e.length = z ∧ ∀ (k : Nat) (c : AV), e[k]? = some c → cs[j * z + k]? = some c
theorem Imp_frz (F : Nm → Prop) (hwr : ∀ b, ¬ E.wr b) (hx : σ'.nx = σ.nx) (ht : ∀ i, Fz σ.h F (tget σ.t i) (tget σ'.t i)) (hd : ∀ n, F n → hget σ'.h n = none)
    (hh : ∀ m ds, hget σ'.h m = some ds → ∃ es, hget σ.h m = some es ∧ ∀ (j : Nat) (c' : AV), ds[j]? = some c' → ∃ c, es[j]? = some c ∧ Fz σ.h F c c') : Imp E σ σ' := fun a w hr => by
  obtain ⟨C, rfl, hC⟩ := hr
  let C' : Ctx := { ρ := C.ρ, bs := C.bs, live := fun m => (hget σ'.h m).isSome = true, kn := C.kn, mt := fun b => C.mt b ∧ ∀ m, F m → C.live m → b ≠ C.ρ m, w := C.w }
  have hlive : ∀ m, C'.live m → C.live m := fun m hm => by
    obtain ⟨ds, hds⟩ := Option.isSome_iff_exists.1 hm
    obtain ⟨es, hes, _⟩ := hh m ds hds
    exact hC.heap.get hes
  have hnf : ∀ m, C'.live m → ¬ F m := fun m hm hf => by
    have hm : (hget σ'.h m).isSome = true := hm
    rw [hd m hf] at hm; cases hm
  have le : C.le C' := ⟨Nat.le_refl _, fun _ _ _ => rfl, fun _ _ h => h.1, fun _ h => h, fun m _ hl => ⟨hlive m hl, rfl, rfl⟩, fun _ _ _ cs ty h => ⟨cs, ty, h, rfl⟩⟩
  have val : ∀ v v' u, Fz σ.h F v v' → Conc C v u → Conc C' v' u := fun v v' u hf hc => by
    rcases hf with rfl | rfl | ⟨z, rfl, rfl⟩ | ⟨n, cs, z, len, own, es, hF, hg, rfl, rfl, hl, hr⟩
    · exact Conc.mono le _ u hc
    · exact trivial
    · have hc : u = .slice none 0 0 := hc
      exact conc_ro.2 ⟨none, 0, hc, Nat.le_refl _, fun h => (nomatch h), fun h => absurd rfl h⟩
    · have hlv := hC.heap.get hg
      obtain ⟨_, _, hu⟩ := hc
      obtain ⟨cap, o, hu, hle, ho, _⟩ := hu hlv
      subst hl
      refine conc_ro.2 ⟨_, cap, hu, hle, fun h => (nomatch h), fun hne => ?_⟩
      have hpos : 0 < es.length := List.length_pos_iff.2 hne
      have ho : o = C.bs n := by omega
      subst ho
      refine ⟨_, rfl, hC.heap.lt hlv, fun hm => hm.2 n hF hlv rfl, ConcE.mk fun j e hj => ?_⟩
      obtain ⟨h1, h2⟩ := hr j e hj
      refine ⟨h1, ConcM.mk fun k c hk => ?_⟩
      obtain ⟨u', hu', hcu⟩ := obj_row (hC.heap.obj n cs hg) (j * z + k) c (h2 k c hk)
      rw [Nat.zero_add, Nat.zero_add, add_add]
      exact ⟨u', hu', Conc.mono le c u' hcu⟩
  refine ⟨C', rfl, ?_⟩
  exact {
    heap := { live := fun n => Iff.rfl
              obj := fun m ds hds => by
                obtain ⟨es, hes, hr⟩ := hh m ds hds
                obtain ⟨arr, ty, h1, h2⟩ := hC.heap.obj m es hes
                refine ⟨arr, ty, h1, fun j c' hj => ?_⟩
                obtain ⟨c, hc, hf⟩ := hr j c' hj
                obtain ⟨u, hu, hcu⟩ := h2 j c hc
                exact ⟨u, hu, val c c' u hf hcu⟩
              inj := fun n m hn hm he => hC.heap.inj n m (hlive n hn) (hlive m hm) he
              mt := fun n hn => ⟨hC.heap.mt n (hlive n hn), fun m hF hl e => hnf n hn (by rw [hC.heap.inj n m (hlive n hn) hl e]; exact hF)⟩
              kn := fun n hn => hC.heap.kn n (hlive n hn) }
    t := fun i => val _ _ _ (ht i) (hC.t i)
    size := hC.size
    defers := hC.defers
    kn := fun m hm => by rw [hx]; exact hC.kn m hm
    frame := { os := hC.frame.os, tape := hC.frame.tape, output := hC.frame.output, size := hC.frame.size, same := hC.frame.same
               mt := fun b hb => ⟨fun h => (hC.frame.mt b hb).1 h.1, fun h => ⟨(hC.frame.mt b hb).2 h, fun m _ hl e => hwr _ (hC.frame.wr m hl (by rw [← e]; exact hb))⟩⟩
               wr := fun n hn => hC.frame.wr n (hlive n hn)
               le := hC.frame.le.trans le } }
end Go.Proofs.Aw
