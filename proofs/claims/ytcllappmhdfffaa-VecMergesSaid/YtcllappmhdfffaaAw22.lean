/- The abstract logic, part 22: contracts of functions that write what they are handed. -/
import Derived.Test.YtcllappmhdfffaaAw21
namespace Go.Proofs.Aw
open Go

/-- The name that a new object has in the body. -/
def nmF (n : Nat) (φ : Nat → Nm) (m : Nm) : Nm := if m.1 = n then φ m.2 else m
def nmP (n : Nat) (hs : Hp) (m : Nm) : Bool := m.1 == n || (hget hs m).isSome
/-- How a body ends that was handed the objects of hs: what it hands back; what the old and the new objects hold then. -/
def RetH (P : Program) (rs : List ResultVar) (n : Nat) (φ : Nat → Nm) (hs h' : Hp) (r : AV) (e : Exit) (σ : St) : Prop :=
  (e = .ret ∨ e = .normal) ∧ (resK P σ rs fun vs => oneOf vs = ren (nmF n φ) r) ∧ ∀ m cs, hget h' m = some cs → nmP n hs m = true → hget σ.h (nmF n φ m) = some (renL (nmF n φ) cs)

theorem CY_heap {P : Program} {f : FuncId} {fn : Func} {c : Code} {args : List AV} {r : AV} {n : Nat} {hs h0 : Hp} {d : Dl} (φ : Nat → Nm) (hf : P.funcs[f]? = some fn) (hb : fn.body = some c) (hN : args.length ≤ fn.ntmps)
    (hsub : ∀ m cs, hget hs m = some cs → hget h0 m = some cs) (hlt : ∀ m cs, hget hs m = some cs → m.1 < n ∧ nmsL (fun k => Nat.blt k.1 n) cs = true) (hA : nmsL (fun k => Nat.blt k.1 n) args = true)
    (hd1 : ∀ m, m ∈ d.map (·.1) → m.1 = n ∨ (hget hs m).isSome = true) (hd2 : ∀ m, (hget hs m).isSome = true → m ∈ d.map (·.1))
    (hR : nms (nmP n hs) r = true) (hC : ∀ m cs, hget (hap d h0) m = some cs → nmP n hs m = true → nmsL (nmP n hs) cs = true)
    (hφ : ∀ k, (hget (hap d h0) (n, k)).isSome = true → n < (φ k).1) (hφi : ∀ j k, (hget (hap d h0) (n, j)).isSome = true → (hget (hap d h0) (n, k)).isSome = true → φ j = φ k → j = k)
    (h : ∀ E : Env, E.N = fn.ntmps → AW P E c (RetH P fn.results.toList n φ hs (hap d h0) r) ⟨slots 0 args, hs, n + 1⟩) : CY P n f args h0 r d := by
  intro C vs hh hL hn
  refine calls_of_wp hf hb ?_
  let C0 : Ctx := { ρ := C.ρ, live := fun m => (hget hs m).isSome = true, kn := fun m => m.1 < n + 1, mt := C.mt, w := C.w }
  let E : Env := { N := fn.ntmps, w0 := C.w, wr := fun b => ∃ m, (hget hs m).isSome = true ∧ b = C.ρ m, mt0 := C.mt, c0 := C0 }
  have hlen : vs.length = args.length := hL.length.symm
  have hsome : ∀ m, (hget hs m).isSome = true → C.live m := fun m hm => by
    obtain ⟨cs, hcs⟩ := Option.isSome_iff_exists.1 hm
    exact hh.get (hsub m cs hcs)
  have hslt : ∀ m, (hget hs m).isSome = true → m.1 < n := fun m hm => by
    obtain ⟨cs, hcs⟩ := Option.isSome_iff_exists.1 hm
    exact (hlt m cs hcs).1
  have sub0 : C.sub C0 id (fun k => Nat.blt k.1 n) := ⟨rfl, fun _ _ h => h, fun m hm _ => by simp only [Nat.blt_eq] at hm; exact Nat.lt_succ_of_lt hm, fun m _ _ hm => ⟨hsome m hm, rfl⟩⟩
  have hL0 : ConcL C0 args vs := ConcL.ren sub0 args vs hA (by rw [renL_id]; exact hL)
  have hH0 : HeapOk C0 hs := by
    refine ⟨fun m => Iff.rfl, fun m cs hg => ?_, fun m m' hm hm' he => hh.inj m m' (hsome m hm) (hsome m' hm') he, fun m hm => hh.mt m (hsome m hm), fun m hm => Nat.lt_succ_of_lt (hslt m hm)⟩
    obtain ⟨arr, ty, ha, hc⟩ := hh.obj m cs (hsub m cs hg)
    refine ⟨arr, ty, ha, fun j c hj => ?_⟩
    obtain ⟨u', hu', hcu'⟩ := hc j c hj
    exact ⟨u', hu', Conc.ren sub0 c u' (nmsL_get (hlt m cs hg).2 hj) (by rw [ren_id]; exact hcu')⟩
  have hrel : Rel E ⟨slots 0 args, hs, n + 1⟩ { tmps := vs.toArray ++ Array.replicate (fn.ntmps - vs.toArray.size) undef, defers := [] } C.w := by
    refine ⟨C0, rfl, hH0, ?_, ?_, rfl, fun m hm => hm, ⟨rfl, rfl, rfl, Nat.le_refl _, fun _ _ _ => rfl, fun _ _ => Iff.rfl, fun m hm _ => ⟨m, hm, rfl⟩, Ctx.le.refl _⟩⟩
    · refine TOk_slots 0 args vs _ hL0 fun i v hv => ?_
      have hi := (List.getElem?_eq_some_iff.1 hv).1
      rw [Nat.zero_add, Array.getElem?_append_left (by simpa using hi)]
      simpa using hv
    · simp [E]; omega
  refine Code.wp_mono ?_ (h E rfl _ _ hrel)
  rintro e a' w' ⟨σ', ⟨Cb, rfl, hCb⟩, he, hres, hobj⟩
  obtain ⟨us, u, hrun, hcu, hus⟩ := run_results hCb.heap hCb.t hres
  have hkn0 : ∀ m, C.live m → m.1 ≠ n := fun m hm e => hn m.2 (by have := hh.kn m hm; rwa [show m = (n, m.2) from by rw [← e]] at this)
  have hold : ∀ m, m.1 ≠ n → (hget hs m).isSome = false → hget (hap d h0) m = hget h0 m := fun m h1 h2 => hget_hap_other d h0 m fun hm => by
    rcases hd1 m hm with h3 | h3
    · exact h1 h3
    · rw [h2] at h3; cases h3
  let C' : Ctx := { ρ := fun m => if m.1 = n then Cb.ρ (φ m.2) else C.ρ m, live := fun m => (hget (hap d h0) m).isSome = true, kn := fun m => C.kn m ∨ m.1 = n,
                    mt := fun b => (C.mt b ∧ b < C.w.heap.size) ∨ ∃ k, (hget (hap d h0) (n, k)).isSome = true ∧ b = Cb.ρ (φ k), w := Cb.w }
  have lvb : ∀ m, (hget (hap d h0) m).isSome = true → nmP n hs m = true → Cb.live (nmF n φ m) := fun m hm hp => by
    obtain ⟨cs, hcs⟩ := Option.isSome_iff_exists.1 hm
    exact hCb.heap.get (hobj m cs hcs hp)
  have lvn : ∀ k, (hget (hap d h0) (n, k)).isSome = true → Cb.live (φ k) := fun k hk => by
    have := lvb (n, k) hk (by simp [nmP])
    simpa [nmF] using this
  have lvo : ∀ m, m.1 ≠ n → (hget hs m).isSome = true → (hget (hap d h0) m).isSome = true → Cb.live m ∧ Cb.ρ m = C.ρ m := fun m h1 h2 h3 => by
    have := lvb m h3 (by simp [nmP, h2])
    rw [show nmF n φ m = m from by simp [nmF, h1]] at this
    exact ⟨this, (hCb.frame.le.live m (Nat.lt_succ_of_lt (hslt m h2)) this).2⟩
  -- what lives behind the call, of what was there
  have lvC : ∀ m, m.1 ≠ n → (hget (hap d h0) m).isSome = true → C.live m := fun m h1 h3 => by
    cases h2 : (hget hs m).isSome with
    | true => exact hsome m h2
    | false =>
      rw [hold m h1 h2] at h3
      exact (hh.live m).2 h3
  have hsame : ∀ b, b < C.w.heap.size → (∀ m, (hget hs m).isSome = true → b ≠ C.ρ m) → Cb.w.heap[b]? = C.w.heap[b]? := fun b hb hne => hCb.frame.same b hb (fun ⟨m, hm, e⟩ => hne m hm e)
  have le : C.le C' := by
    refine ⟨hCb.frame.size, fun b hb hm => hCb.frame.le.same b hb hm, fun b hb hm => ?_, fun _ h => .inl h, fun m hk hl => ?_, fun m hk hl cs ty hc => ?_⟩
    · rcases hm with h1 | ⟨k, hk, h1⟩
      · exact h1.1
      · exact (hCb.frame.mt b hb).1 (by rw [h1]; exact hCb.heap.mt _ (lvn k hk))
    · have hm : m.1 ≠ n := fun e => hn m.2 (by rwa [show m = (n, m.2) from by rw [← e]] at hk)
      exact ⟨lvC m hm hl, by simp [C', hm]⟩
    · have hm : m.1 ≠ n := fun e => hn m.2 (by rwa [show m = (n, m.2) from by rw [← e]] at hk)
      have hlC := lvC m hm hl
      have hb : C.ρ m < C.w.heap.size := hh.lt hlC
      cases h2 : (hget hs m).isSome with
      | true => exact hCb.frame.le.own m (Nat.lt_succ_of_lt (hslt m h2)) (lvo m hm h2 hl).1 cs ty hc
      | false =>
        refine ⟨cs, ty, (hsame _ hb fun m' hm' e => ?_).trans hc, rfl⟩
        have := hh.inj m m' hlC (hsome m' hm') e
        subst this
        rw [h2] at hm'; cases hm'
  have sub : Cb.sub C' (nmF n φ) (nmP n hs) := by
    refine ⟨rfl, fun b hb hm => ?_, fun m hp _ => ?_, fun m hp hk hl => ?_⟩
    · rcases hm with h1 | ⟨k, hk, h1⟩
      · exact (hCb.frame.mt b h1.2).2 h1.1
      · rw [h1]; exact hCb.heap.mt _ (lvn k hk)
    · simp only [nmP, Bool.or_eq_true, beq_iff_eq] at hp
      rcases hp with h1 | h1
      · exact .inr h1
      · exact .inl (hh.kn m (hsome m h1))
    · refine ⟨lvb m hl hp, ?_⟩
      by_cases h1 : m.1 = n
      · simp [C', nmF, h1]
      · simp only [nmP, Bool.or_eq_true, beq_iff_eq] at hp
        have h2 := hp.resolve_left h1
        simp only [C', nmF, h1, if_false]
        exact (lvo m h1 h2 hl).2.symm
  have hcr : Conc C' r u := Conc.ren sub _ u hR (by rw [← hus]; exact hcu)
  have hpost : Post C n h0 r d u C' := by
    refine ⟨le, fun _ => Iff.rfl, ⟨fun m => Iff.rfl, fun m cs hg => ?_, fun m m' hm hm' he => ?_, fun m hm => ?_, fun m hm => ?_⟩, hcr, fun b hb hne => ?_, fun b hb => ?_, hCb.frame.os, hCb.frame.tape, hCb.frame.output, fun m hm => ?_, fun m hm => ?_⟩
    · cases hp : nmP n hs m with
      | true =>
        obtain ⟨arr, ty, ha, hc⟩ := hCb.heap.obj _ _ (hobj m cs hg hp)
        have hρ : C'.ρ m = Cb.ρ (nmF n φ m) := by
          by_cases h1 : m.1 = n
          · simp [C', nmF, h1]
          · simp only [nmP, Bool.or_eq_true, beq_iff_eq] at hp
            simp only [C', nmF, h1, if_false]
            exact (lvo m h1 (hp.resolve_left h1) (by rw [hg]; rfl)).2.symm
        refine ⟨arr, ty, by rw [hρ]; exact ha, fun j c hj => ?_⟩
        obtain ⟨u', hu', hcu'⟩ := hc j _ (renL_get _ cs j c hj)
        exact ⟨u', hu', Conc.ren sub c u' (nmsL_get (hC m cs hg hp) hj) hcu'⟩
      | false =>
        simp only [nmP, Bool.or_eq_false_iff, beq_eq_false_iff_ne, ne_eq] at hp
        have hg' := hg
        rw [hold m hp.1 hp.2] at hg'
        have hl := hh.get hg'
        obtain ⟨arr, ty, ha, hc⟩ := hh.obj m cs hg'
        refine ⟨arr, ty, ?_, fun j c hj => ?_⟩
        · simp only [C', hp.1, if_false]
          refine (hsame _ (hh.lt hl) fun m' hm' e => ?_).trans ha
          have := hh.inj m m' hl (hsome m' hm') e
          subst this
          rw [hp.2] at hm'; cases hm'
        · obtain ⟨u', hu', hcu'⟩ := hc j c hj
          exact ⟨u', hu', hcu'.mono le⟩
    · have oldρ : ∀ m, m.1 ≠ n → (hget (hap d h0) m).isSome = true → ∀ k, (hget (hap d h0) (n, k)).isSome = true → Cb.ρ (φ k) = C.ρ m → False := fun m h1 h3 k hk e => by
        cases h2 : (hget hs m).isSome with
        | true =>
          obtain ⟨l1, e1⟩ := lvo m h1 h2 h3
          have := hCb.heap.inj _ _ (lvn k hk) l1 (by rw [e, e1])
          have h4 := hφ k hk
          have h5 := hslt m h2
          rw [this] at h4
          omega
        | false =>
          have hlC := lvC m h1 h3
          have hb := hh.lt hlC
          obtain ⟨m', hm', e'⟩ := hCb.frame.wr _ (lvn k hk) (by rw [e]; exact hb)
          have := hh.inj m m' hlC (hsome m' hm') (by rw [← e, e'])
          subst this
          rw [h2] at hm'; cases hm'
      by_cases h1 : m.1 = n <;> by_cases h2 : m'.1 = n
      · have hm1 : (hget (hap d h0) (n, m.2)).isSome = true := by rw [show (n, m.2) = m from by rw [← h1]]; exact hm
        have hm2 : (hget (hap d h0) (n, m'.2)).isSome = true := by rw [show (n, m'.2) = m' from by rw [← h2]]; exact hm'
        simp only [C', h1, h2, if_true] at he
        have e1 := hCb.heap.inj _ _ (lvn _ hm1) (lvn _ hm2) he
        exact Prod.ext (h1.trans h2.symm) (hφi _ _ hm1 hm2 e1)
      · have hm1 : (hget (hap d h0) (n, m.2)).isSome = true := by rw [show (n, m.2) = m from by rw [← h1]]; exact hm
        simp only [C', h1, h2, if_true, if_false] at he
        exact (oldρ m' h2 hm' _ hm1 he).elim
      · have hm2 : (hget (hap d h0) (n, m'.2)).isSome = true := by rw [show (n, m'.2) = m' from by rw [← h2]]; exact hm'
        simp only [C', h1, h2, if_true, if_false] at he
        exact (oldρ m h1 hm _ hm2 he.symm).elim
      · simp only [C', h1, h2, if_false] at he
        exact hh.inj m m' (lvC m h1 hm) (lvC m' h2 hm') he
    · by_cases h1 : m.1 = n
      · have hm1 : (hget (hap d h0) (n, m.2)).isSome = true := by rw [show (n, m.2) = m from by rw [← h1]]; exact hm
        simp only [C', h1, if_true]
        exact .inr ⟨m.2, hm1, rfl⟩
      · simp only [C', h1, if_false]
        exact .inl ⟨hh.mt m (lvC m h1 hm), hh.lt (lvC m h1 hm)⟩
    · by_cases h1 : m.1 = n
      · exact .inr h1
      · exact .inl (hh.kn m (lvC m h1 hm))
    · exact hsame b hb fun m hm => hne m (hd2 m hm) (hsome m hm)
    · constructor
      · rintro (h1 | ⟨k, hk, h1⟩)
        · exact h1.1
        · exact (hCb.frame.mt b hb).1 (by rw [h1]; exact hCb.heap.mt _ (lvn k hk))
      · intro h1; exact .inl ⟨h1, hb⟩
    · by_cases h1 : m.1 = n
      · have hm1 : (hget (hap d h0) (n, m.2)).isSome = true := by rw [show (n, m.2) = m from by rw [← h1]]; exact hm
        simp only [C', h1, if_true]
        rcases Nat.lt_or_ge (Cb.ρ (φ m.2)) C.w.heap.size with h2 | h2
        · obtain ⟨m', hm', e'⟩ := hCb.frame.wr _ (lvn _ hm1) h2
          exact .inr (.inr ⟨m', hd2 m' hm', hsome m' hm', e'⟩)
        · exact .inr (.inl h2)
      · exact .inl ⟨lvC m h1 hm, by simp only [C', h1, if_false]⟩
    · rcases hd1 m hm with h1 | h1
      · exact .inr h1
      · exact .inl (hsome m h1)
  rcases he with rfl | rfl
  · exact ⟨hCb.defers, u, hrun, u, C', rfl, rfl, hpost⟩
  · exact ⟨hCb.defers, u, hrun, u, C', rfl, rfl, hpost⟩
end Go.Proofs.Aw
