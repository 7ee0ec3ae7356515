/- The abstract logic, part 15: contracts of functions that write nothing that was there. -/
import Derived.Test.YtcllappmhdfffaaAw14
namespace Go.Proofs.Aw
open Go

/-- New objects, named by the step that makes them, one behind the other. -/
def nd (n : Nat) : Nat → List (List AV) → Dl
  | _, [] => []
  | k, c :: cs => ((n, k), some c) :: nd n (k + 1) cs
def upN (n : Nat) (m : Nm) : Nm := (n, m.2)
theorem hget_nd (n : Nat) : ∀ (cs : List (List AV)) (k : Nat) (h : Hp) (m : Nm), hget (hap (nd n k cs) h) m = if m.1 = n ∧ k ≤ m.2 ∧ m.2 < k + cs.length then cs[m.2 - k]? else hget h m
  | [], k, h, m => by
    simp only [nd, hap, List.length_nil, Nat.add_zero]
    rw [if_neg (by omega)]
  | c :: cs, k, h, m => by
    simp only [nd, hap]
    rw [hget_nd n cs (k + 1) _ m, hget_hset]
    by_cases h1 : m.1 = n
    · by_cases h2 : m.2 = k
      · rw [if_neg (by omega), if_pos (by rw [← h1, ← h2]), if_pos ⟨h1, by omega, by simp; omega⟩, h2, Nat.sub_self]
        rfl
      · have hne : ¬ (n, k) = m := fun e => h2 (by rw [← e])
        rw [if_neg hne]
        by_cases h3 : k + 1 ≤ m.2 ∧ m.2 < k + 1 + cs.length
        · rw [if_pos ⟨h1, h3⟩, if_pos ⟨h1, by omega, by simp; omega⟩, show m.2 - k = m.2 - (k + 1) + 1 from by omega, List.getElem?_cons_succ]
        · rw [if_neg (fun h => h3 h.2), if_neg (by simp; omega)]
    · have hne : ¬ (n, k) = m := fun e => h1 (by rw [← e])
      rw [if_neg (fun h => h1 h.1), if_neg hne, if_neg (fun h => h1 h.1)]
theorem nd_names (n : Nat) : ∀ (cs : List (List AV)) (k : Nat) (m : Nm), m ∈ (nd n k cs).map (·.1) → m.1 = n
  | [], _, m, h => by simp [nd] at h
  | c :: cs, k, m, h => by
    simp only [nd, List.map_cons, List.mem_cons] at h
    rcases h with rfl | h
    · rfl
    · exact nd_names n cs (k + 1) m h

mutual
theorem ren_ren (f g : Nm → Nm) : ∀ v, ren f (ren g v) = ren (fun m => f (g m)) v
  | .top => rfl
  | .sc _ => rfl
  | .agg cs => by simp only [ren, renL_ren f g cs]
  | .tup cs => by simp only [ren, renL_ren f g cs]
  | .ptr _ _ => rfl
  | .sl _ _ _ _ _ => rfl
  | .ip cs _ => by simp only [ren, renL_ren f g cs]
  | .ro _ es _ => by simp only [ren, renE_ren f g es]
  | .fn _ xs ys => by simp only [ren, renL_ren f g xs, renL_ren f g ys]
  | .ifc _ v => by simp only [ren, ren_ren f g v]
theorem renL_ren (f g : Nm → Nm) : ∀ cs, renL f (renL g cs) = renL (fun m => f (g m)) cs
  | [] => rfl
  | c :: cs => by simp only [renL, ren_ren f g c, renL_ren f g cs]
theorem renE_ren (f g : Nm → Nm) : ∀ es, renE f (renE g es) = renE (fun m => f (g m)) es
  | [] => rfl
  | e :: es => by simp only [renE, renL_ren f g e, renE_ren f g es]
end
mutual
theorem nms_up (n : Nat) : ∀ v, nms (fun m => m.1 == n) (ren (upN n) v) = true
  | .top => rfl
  | .sc _ => rfl
  | .agg cs => nmsL_up n cs
  | .tup cs => nmsL_up n cs
  | .ptr _ _ => by simp [ren, nms, upN]
  | .sl _ _ _ _ _ => by simp [ren, nms, upN]
  | .ip cs _ => nmsL_up n cs
  | .ro _ es _ => nmsE_up n es
  | .fn _ xs ys => by simp only [ren, nms, nmsL_up n xs, nmsL_up n ys, Bool.and_self]
  | .ifc _ v => nms_up n v
theorem nmsL_up (n : Nat) : ∀ cs, nmsL (fun m => m.1 == n) (renL (upN n) cs) = true
  | [] => rfl
  | c :: cs => by simp only [renL, nmsL, nms_up n c, nmsL_up n cs, Bool.and_self]
theorem nmsE_up (n : Nat) : ∀ es, nmsE (fun m => m.1 == n) (renE (upN n) es) = true
  | [] => rfl
  | e :: es => by simp only [renE, nmsE, nmsL_up n e, nmsE_up n es, Bool.and_self]
end
mutual
theorem ren_none (f : Nm → Nm) : ∀ v, nms (fun _ => false) v = true → ren f v = v
  | .top, _ => rfl
  | .sc _, _ => rfl
  | .agg cs, h => by simp only [ren, renL_none f cs h]
  | .tup cs, h => by simp only [ren, renL_none f cs h]
  | .ptr _ _, h => by cases h
  | .sl _ _ _ _ _, h => by cases h
  | .ip cs _, h => by simp only [ren, renL_none f cs h]
  | .ro _ es _, h => by simp only [ren, renE_none f es h]
  | .fn _ xs ys, h => by
      simp only [nms, Bool.and_eq_true] at h
      simp only [ren, renL_none f xs h.1, renL_none f ys h.2]
  | .ifc _ v, h => by simp only [ren, ren_none f v h]
theorem renL_none (f : Nm → Nm) : ∀ cs, nmsL (fun _ => false) cs = true → renL f cs = cs
  | [], _ => rfl
  | c :: cs, h => by
      simp only [nmsL, Bool.and_eq_true] at h
      simp only [renL, ren_none f c h.1, renL_none f cs h.2]
theorem renE_none (f : Nm → Nm) : ∀ es, nmsE (fun _ => false) es = true → renE f es = es
  | [], _ => rfl
  | e :: es, h => by
      simp only [nmsE, Bool.and_eq_true] at h
      simp only [renE, renL_none f e h.1, renE_none f es h.2]
end

/-- How a body ends that hands r and new objects back: φ k is the object that becomes the k-th. -/
def RetN (P : Program) (rs : List ResultVar) (φ : Nat → Nm) (r : AV) (news : List (List AV)) (e : Exit) (σ : St) : Prop :=
  (e = .ret ∨ e = .normal) ∧ (resK P σ rs fun vs => oneOf vs = ren (fun m => φ m.2) r) ∧ (∀ k cs, news[k]? = some cs → hget σ.h (φ k) = some (renL (fun m => φ m.2) cs)) ∧ (∀ j k, j < news.length → k < news.length → φ j = φ k → j = k)

theorem TOk_slots {C : Ctx} : ∀ (k : Nat) (args : List AV) (vs : List Value) (tmps : Array Value), ConcL C args vs → (∀ i v, vs[i]? = some v → tmps[k + i]? = some v) → ∀ i, Conc C (tget (slots k args) i) (tmps.getD i undef)
  | _, [], _, _, _, _, i => by simp only [slots, tget, Conc]
  | k, a :: args, vs, tmps, hL, hv, i => by
    simp only [ConcL] at hL
    obtain ⟨u, us, rfl, hc, hl⟩ := hL
    simp only [slots, tget]
    split
    · rename_i hik
      subst hik
      have := hv 0 u rfl
      rw [Nat.add_zero] at this
      simp only [Array.getD_eq_getD_getElem?, this, Option.getD_some]
      exact hc
    · exact TOk_slots (k + 1) args us tmps hl (fun j v hj => by
        have := hv (j + 1) v (by simpa using hj)
        rwa [show k + (j + 1) = k + 1 + j from by omega] at this) i

theorem CY_of {P : Program} {f : FuncId} {fn : Func} {c : Code} {args : List AV} {r : AV} {news : List (List AV)} (φ : Nat → Nm) (hf : P.funcs[f]? = some fn) (hb : fn.body = some c) (hN : args.length ≤ fn.ntmps) (hA : nmsL (fun _ => false) args = true)
    (h : ∀ E : Env, E.N = fn.ntmps → AW P E c (RetN P fn.results.toList φ r news) ⟨slots 0 args, [], 0⟩) (n : Nat) (h0 : Hp) : CY P n f args h0 (ren (upN n) r) (nd n 0 (news.map (renL (upN n)))) := by
  intro C vs hh hL hn
  refine calls_of_wp hf hb ?_
  -- the body's own context: it knows no name
  let C0 : Ctx := { ρ := C.ρ, live := fun _ => False, kn := fun _ => False, mt := C.mt, w := C.w }
  let E : Env := { N := fn.ntmps, w0 := C.w, wr := fun _ => False, mt0 := C.mt, c0 := C0 }
  have hlen : vs.length = args.length := hL.length.symm
  have sub0 : C.sub C0 id (fun _ => false) := ⟨rfl, fun _ _ h => h, fun m hm => (nomatch hm), fun m hm => (nomatch hm)⟩
  have hL0 : ConcL C0 args vs := ConcL.ren sub0 args vs hA (by rw [renL_id]; exact hL)
  have hrel : Rel E ⟨slots 0 args, [], 0⟩ { tmps := vs.toArray ++ Array.replicate (fn.ntmps - vs.toArray.size) undef, defers := [] } C.w := by
    refine ⟨C0, rfl, ⟨⟨fun m => by simp [C0, hget], fun m cs hg => by simp [hget] at hg, fun m m' hm => hm.elim, fun m hm => hm.elim, fun m hm => hm.elim⟩, ?_, ?_, rfl, fun m hm => hm.elim, ⟨rfl, rfl, rfl, Nat.le_refl _, fun _ _ _ => rfl, fun _ _ => Iff.rfl, fun m hm => hm.elim, Ctx.le.refl _⟩⟩⟩
    · refine TOk_slots 0 args vs _ hL0 fun i v hv => ?_
      have hi := (List.getElem?_eq_some_iff.1 hv).1
      rw [Nat.zero_add, Array.getElem?_append_left (by simpa using hi)]
      simpa using hv
    · simp [E]; omega
  refine Code.wp_mono ?_ (h E rfl _ _ hrel)
  rintro e a' w' ⟨σ', ⟨Cb, rfl, hCb⟩, he, hres, hnews, hinj⟩
  obtain ⟨us, u, hrun, hcu, hus⟩ := run_results hCb.heap hCb.t hres
  have hkn0 : ∀ m, C.live m → m.1 ≠ n := fun m hm e => hn m.2 (by have := hh.kn m hm; rwa [show m = (n, m.2) from by rw [← e]] at this)
  -- the caller's context
  let C' : Ctx := { ρ := fun m => if m.1 = n then Cb.ρ (φ m.2) else C.ρ m, live := fun m => C.live m ∨ (m.1 = n ∧ m.2 < news.length), kn := fun m => C.kn m ∨ m.1 = n,
                    mt := fun b => (C.mt b ∧ b < C.w.heap.size) ∨ ∃ k, k < news.length ∧ b = Cb.ρ (φ k), w := Cb.w }
  have hsame : ∀ b, b < C.w.heap.size → Cb.w.heap[b]? = C.w.heap[b]? := fun b hb => hCb.frame.same b hb (fun h => h)
  have hlv : ∀ k, k < news.length → Cb.live (φ k) := fun k hk => hCb.heap.get (hnews k _ (List.getElem?_eq_getElem hk))
  have hnew : ∀ k, k < news.length → C.w.heap.size ≤ Cb.ρ (φ k) := fun k hk => by
    rcases Nat.lt_or_ge (Cb.ρ (φ k)) C.w.heap.size with h2 | h2
    · exact (hCb.frame.wr _ (hlv k hk) h2).elim
    · exact h2
  have le : C.le C' := by
    refine ⟨hCb.frame.size, fun b hb _ => hsame b hb, fun b hb hm => ?_, fun _ h => .inl h, fun m hk hl => ?_, fun m hk hl cs ty hc => ?_⟩
    · rcases hm with h1 | ⟨k, hk, h1⟩
      · exact h1.1
      · have := hnew k hk; omega
    · have hm : m.1 ≠ n := fun e => hn m.2 (by rwa [show m = (n, m.2) from by rw [← e]] at hk)
      rcases hl with h1 | h1
      · exact ⟨h1, by simp [C', hm]⟩
      · exact absurd h1.1 hm
    · have hlt : C.ρ m < C.w.heap.size := by
        rcases Nat.lt_or_ge (C.ρ m) C.w.heap.size with h2 | h2
        · exact h2
        · rw [Array.getElem?_eq_none h2] at hc; cases hc
      exact ⟨cs, ty, (hsame _ hlt).trans hc, rfl⟩
  -- what the body knows at its end, in the caller's words
  have sub : Cb.sub C' (fun m => φ m.2) (fun m => m.1 == n) := by
    refine ⟨rfl, fun b hb hm => ?_, fun m hm _ => .inr (by simpa using hm), fun m hm hk hl => ?_⟩
    · rcases hm with h1 | ⟨k, hk, h1⟩
      · exact (hCb.frame.mt b h1.2).2 h1.1
      · rw [h1]; exact hCb.heap.mt _ (hlv k hk)
    · have hm' : m.1 = n := by simpa using hm
      rcases hl with h1 | h1
      · exact absurd hm' (hkn0 m h1)
      · exact ⟨hlv _ h1.2, by simp [C', hm']⟩
  have hcr : Conc C' (ren (upN n) r) u := by
    refine Conc.ren sub _ u (nms_up n r) ?_
    rw [ren_ren]
    show Conc Cb (ren (fun m => φ m.2) r) u
    rw [← hus]; exact hcu
  have hpost : Post C n h0 (ren (upN n) r) (nd n 0 (news.map (renL (upN n)))) u C' := by
    have hget' : ∀ m, hget (hap (nd n 0 (news.map (renL (upN n)))) h0) m = if m.1 = n ∧ m.2 < news.length then (news.map (renL (upN n)))[m.2]? else hget h0 m := fun m => by
      rw [hget_nd]
      simp only [Nat.zero_le, true_and, Nat.zero_add, List.length_map, Nat.sub_zero]
    refine ⟨le, fun _ => Iff.rfl, ⟨fun m => ?_, fun m cs hg => ?_, fun m m' hm hm' he => ?_, fun m hm => ?_, fun m hm => ?_⟩, hcr, fun b hb _ => hsame b hb, fun b hb => ?_, hCb.frame.os, hCb.frame.tape, hCb.frame.output, fun m hm => ?_, fun m hm => .inr (nd_names _ _ _ _ hm)⟩
    · rw [hget']
      by_cases h1 : m.1 = n ∧ m.2 < news.length
      · rw [if_pos h1]
        simp [C', h1]
      · rw [if_neg h1, ← hh.live m]
        simp only [C', h1, or_false]
    · rw [hget'] at hg
      by_cases h1 : m.1 = n ∧ m.2 < news.length
      · rw [if_pos h1, List.getElem?_map] at hg
        have h2 : news[m.2]? = some news[m.2] := List.getElem?_eq_getElem h1.2
        rw [h2] at hg
        simp only [Option.map_some, Option.some.injEq] at hg
        obtain ⟨arr, ty, ha, hc⟩ := hCb.heap.obj _ _ (hnews _ _ h2)
        refine ⟨arr, ty, by simp only [C', h1.1, if_true]; exact ha, fun j c hj => ?_⟩
        rw [← hg] at hj
        have hx : (renL (fun m => φ m.2) news[m.2])[j]? = some (ren (fun m => φ m.2) c) := by
          have := renL_get (fun m => φ m.2) _ j c hj
          rw [renL_ren] at this
          exact this
        obtain ⟨u', hu', hcu'⟩ := hc j _ hx
        exact ⟨u', hu', Conc.ren sub c u' (nmsL_get (nmsL_up n _) hj) hcu'⟩
      · rw [if_neg h1] at hg
        have hl := hh.get hg
        obtain ⟨arr, ty, ha, hc⟩ := hh.obj m cs hg
        refine ⟨arr, ty, ?_, fun j c hj => ?_⟩
        · simp only [C', hkn0 m hl, if_false]
          exact (hsame _ (hh.lt hl)).trans ha
        · obtain ⟨u', hu', hcu'⟩ := hc j c hj
          exact ⟨u', hu', hcu'.mono le⟩
    · rcases hm with h1 | h1 <;> rcases hm' with h2 | h2
      · simp only [C', hkn0 m h1, hkn0 m' h2, if_false] at he
        exact hh.inj m m' h1 h2 he
      · simp only [C', hkn0 m h1, h2.1, if_false, if_true] at he
        have := hh.lt h1
        have := hnew _ h2.2
        omega
      · simp only [C', hkn0 m' h2, h1.1, if_false, if_true] at he
        have := hh.lt h2
        have := hnew _ h1.2
        omega
      · simp only [C', h1.1, h2.1, if_true] at he
        have e1 := hCb.heap.inj _ _ (hlv _ h1.2) (hlv _ h2.2) he
        have e2 := hinj _ _ h1.2 h2.2 e1
        exact Prod.ext (h1.1.trans h2.1.symm) e2
    · rcases hm with h1 | h1
      · simp only [C', hkn0 m h1, if_false]
        exact .inl ⟨hh.mt m h1, hh.lt h1⟩
      · simp only [C', h1.1, if_true]
        exact .inr ⟨m.2, h1.2, rfl⟩
    · rcases hm with h1 | h1
      · exact .inl (hh.kn m h1)
      · exact .inr h1.1
    · constructor
      · rintro (h1 | ⟨k, hk, h1⟩)
        · exact h1.1
        · have := hnew k hk; omega
      · intro h1; exact .inl ⟨h1, hb⟩
    · rcases hm with h1 | h1
      · exact .inl ⟨h1, by simp only [C', hkn0 m h1, if_false]⟩
      · exact .inr (.inl (by simp only [C', h1.1, if_true]; exact hnew _ h1.2))
  rcases he with rfl | rfl
  · exact ⟨hCb.defers, u, hrun, u, C', rfl, rfl, hpost⟩
  · exact ⟨hCb.defers, u, hrun, u, C', rfl, rfl, hpost⟩

/-- The same for a function that hands no new object back. -/
theorem CY_pure {P : Program} {f : FuncId} {fn : Func} {c : Code} {args : List AV} {r : AV} (hf : P.funcs[f]? = some fn) (hb : fn.body = some c) (hN : args.length ≤ fn.ntmps) (hA : nmsL (fun _ => false) args = true) (hR : nms (fun _ => false) r = true)
    (h : ∀ E : Env, E.N = fn.ntmps → AW P E c (RetP P fn.results.toList r) ⟨slots 0 args, [], 0⟩) (n : Nat) (h0 : Hp) : CY P n f args h0 r [] := by
  have := CY_of (r := r) (news := []) (fun _ => (0, 0)) hf hb hN hA (fun E hE => AW_mono (fun e σ hq => ⟨hq.1, by rw [ren_none _ r hR]; exact hq.2, by simp, by simp⟩) (h E hE)) n h0
  rw [ren_none _ r hR] at this
  exact this
end Go.Proofs.Aw
