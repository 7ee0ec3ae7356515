/- The abstract logic, part 23: a state under other names; a loop whose rounds begin under the same names. -/
import Derived.Test.YtcllappmhdfffaaAw22
namespace Go.Proofs.Aw
open Go

variable {P : Program} {E : Env} {Q : Exit → St → Prop} {σ σ' : St}
/-- What is known at the start of a body bears lower names than what the body makes. -/
theorem AW_base {c : Code} (h : (∀ m, E.c0.kn m → m.1 < σ.nx) → AW P E c Q σ) : AW P E c Q σ := fun a w hr => by
  obtain ⟨C, rfl, hC⟩ := hr
  exact h (fun m hm => hC.kn m (hC.frame.le.kn m hm)) a C.w ⟨C, rfl, hC⟩
def Ctx.named (C : Ctx) (f : Nm → Nm) (h : Hp) (nx : Nat) : Ctx where
  ρ := fun m => C.ρ (f m)
  live := fun m => (hget h m).isSome = true
  kn := fun m => m.1 < nx
  mt := C.mt
  w := C.w
theorem Imp_ren (f : Nm → Nm) {k0 : Nat} (hb : ∀ m, E.c0.kn m → m.1 < k0) (hf : ∀ m : Nm, m.1 < k0 → f m = m) (hk0 : k0 ≤ σ'.nx)
    (ht : ∀ i, tget σ'.t i = .top ∨ (nms (fun m => Nat.blt m.1 σ'.nx) (tget σ'.t i) = true ∧ tget σ.t i = ren f (tget σ'.t i)))
    (hh : ∀ m cs, hget σ'.h m = some cs → nmsL (fun m => Nat.blt m.1 σ'.nx) cs = true ∧ m.1 < σ'.nx ∧ hget σ.h (f m) = some (renL f cs))
    (hinj : ∀ m m', (hget σ'.h m).isSome = true → (hget σ'.h m').isSome = true → f m = f m' → m = m') : Imp E σ σ' := fun a w hr => by
  obtain ⟨C, rfl, hC⟩ := hr
  have hlive : ∀ m, (hget σ'.h m).isSome = true → C.live (f m) := fun m hm => by
    obtain ⟨cs, hcs⟩ := Option.isSome_iff_exists.1 hm
    exact hC.heap.get (hh m cs hcs).2.2
  have hsub : C.sub (C.named f σ'.h σ'.nx) f (fun m => Nat.blt m.1 σ'.nx) :=
    { w := rfl, mt := fun b _ h => h, kn := fun m hp _ => (by simpa using hp : m.1 < σ'.nx), live := fun m _ _ hl => ⟨hlive m hl, rfl⟩ }
  refine ⟨C.named f σ'.h σ'.nx, rfl, ?_⟩
  have hcell : ∀ m cs, hget σ'.h m = some cs → ObjOk (C.named f σ'.h σ'.nx) (C.ρ (f m)) cs := fun m cs hcs => by
    obtain ⟨h1, _, h3⟩ := hh m cs hcs
    obtain ⟨arr, ty, h4, h5⟩ := hC.heap.obj _ _ h3
    refine ⟨arr, ty, h4, fun j c hj => ?_⟩
    obtain ⟨u, hu, hc⟩ := h5 j _ (renL_get f cs j c hj)
    exact ⟨u, hu, Conc.ren hsub c u (nmsL_get h1 hj) hc⟩
  exact {
    heap := { live := fun n => Iff.rfl, obj := hcell, inj := fun n m hn hm he => hinj n m hn hm (hC.heap.inj _ _ (hlive n hn) (hlive m hm) he), mt := fun n hn => hC.heap.mt _ (hlive n hn),
              kn := fun n hn => by
                obtain ⟨cs, hcs⟩ := Option.isSome_iff_exists.1 hn
                exact (hh n cs hcs).2.1 }
    t := fun i => by
      rcases ht i with h | ⟨h1, h2⟩
      · rw [h]; simp only [Conc]
      · have := hC.t i
        rw [h2] at this
        exact Conc.ren hsub _ _ h1 this
    size := hC.size
    defers := hC.defers
    kn := fun m hm => hm
    frame := { os := hC.frame.os, tape := hC.frame.tape, output := hC.frame.output, size := hC.frame.size, same := hC.frame.same, mt := hC.frame.mt,
               wr := fun n hn => hC.frame.wr _ (hlive n hn),
               le := { size := hC.frame.le.size, same := hC.frame.le.same, mt := hC.frame.le.mt, kn := fun i hi => Nat.lt_of_lt_of_le (hb i hi) hk0,
                       live := fun n hn hl => by
                         have hfn := hf n (hb n hn)
                         have := hlive n hl
                         rw [hfn] at this
                         obtain ⟨h1, h2⟩ := hC.frame.le.live n hn this
                         exact ⟨h1, by show C.ρ (f n) = _; rw [hfn]; exact h2⟩
                       own := fun n hn hl => by
                         have hfn := hf n (hb n hn)
                         have := hlive n hl
                         rw [hfn] at this
                         exact hC.frame.le.own n hn this } } }
end Go.Proofs.Aw
