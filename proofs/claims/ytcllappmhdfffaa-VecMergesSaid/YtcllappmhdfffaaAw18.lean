/- The abstract logic, part 18: the rule for a region that draws its order. -/
import Derived.Test.YtcllappmhdfffaaAw17
namespace Go.Proofs.Aw
open Go

/-- How many are not done. -/
def left (L : Nat → Bool) : Nat → Nat
  | 0 => 0
  | n + 1 => left L n + if L n = true then 0 else 1
theorem left_zero {L : Nat → Bool} : ∀ {n : Nat}, left L n = 0 → ∀ j, j < n → L j = true
  | 0, _, j, hj => by omega
  | n + 1, h, j, hj => by
    simp only [left] at h
    by_cases hn : L n = true
    · rcases Nat.lt_or_ge j n with hj' | hj'
      · exact left_zero (by omega) j hj'
      · rw [show j = n from by omega]; exact hn
    · rw [if_neg hn] at h; omega
theorem left_same {L M : Nat → Bool} : ∀ {n : Nat}, (∀ j, j < n → L j = M j) → left L n = left M n
  | 0, _ => rfl
  | n + 1, h => by simp only [left]; rw [left_same (fun j hj => h j (by omega)), h n (by omega)]
theorem left_add {L : Nat → Bool} {i : Nat} (hi : L i = false) : ∀ {n : Nat}, i < n → left (addL L i) n + 1 = left L n
  | 0, h => by omega
  | n + 1, h => by
    simp only [left]
    by_cases hin : i = n
    · subst hin
      rw [if_pos (addL_iff.2 (.inr rfl)), hi, left_same (L := addL L i) (M := L) fun j hj => by simp [addL, Nat.ne_of_lt hj]]
      simp
    · have := left_add hi (n := n) (by omega)
      have h2 : addL L i n = L n := by
        have : (n == i) = false := by simpa using Ne.symm hin
        simp [addL, this]
      rw [h2]; omega

def lst (listed : Array Bool) : Nat → Bool := fun j => listed.getD j false
theorem lst_set {listed : Array Bool} {i : Nat} (hi : i < listed.size) (j : Nat) : lst (listed.setIfInBounds i true) j = addL (lst listed) i j := by
  unfold lst addL
  by_cases h : j = i
  · subst h; simp [Array.getD, hi]
  · have : (j == i) = false := by simpa using h
    simp [Array.getD_eq_getD_getElem?, Array.getElem?_setIfInBounds_ne (Ne.symm h), this]
theorem lst_ready {listed : Array Bool} {j : Nat} : listed.getD j true = false ↔ j < listed.size ∧ lst listed j = false := by
  unfold lst
  by_cases h : j < listed.size
  · simp [Array.getD, h]
  · simp [Array.getD, h]

theorem Adm.congr {nx : Nat} {es : List En} {L M A : Nat → Bool} (h : ∀ j, L j = M j) (k : Adm nx es L A) : Adm nx es M A :=
  ⟨fun j hj => by rw [← h]; exact k.sub j hj, k.closed, fun j e hj => k.bars j e (by rw [h]; exact hj)⟩
theorem InvD.congr {E : Env} {nx : Nat} {t0 : Tp} {h0 : Hp} {es : List En} {L M : Nat → Bool} {C : Ctx} {a : Act} (h : ∀ j, L j = M j) (I : InvD E nx t0 h0 es L C a) : InvD E nx t0 h0 es M C a where
  lt j hj := I.lt j (by rw [h]; exact hj)
  closed j e hj he k hk := by rw [← h]; exact I.closed j e (by rw [h]; exact hj) he k hk
  names j e hj := I.names j e (by rw [h]; exact hj)
  size := I.size
  defers := I.defers
  ok A hA := I.ok A (hA.congr fun j => (h j).symm)

section
variable {P : Program} {E : Env} {ops : List Oper} {nx : Nat} {t0 : Tp} {h0 : Hp} {es : List En}

theorem InvD.adm (F : Fixed P E ops nx t0 h0 es) {L : Nat → Bool} {C : Ctx} {a : Act} (I : InvD E nx t0 h0 es L C a) {i : Nat} {e : En} (he : ent es i = some e) (hiL : L i = false)
    (hin : ∀ k, e.ms.testBit k = true → L k = true) : Adm nx es L e.ms.testBit := by
  refine ⟨hin, fun j ej hj hej k hk => F.trans i he hj hej k hk, fun j ej hj hej hf => ?_⟩
  have hij : j ≠ i := fun h => by subst h; rw [hj] at hiL; cases hiL
  rcases Nat.lt_or_ge j i with h | h
  · obtain ⟨es1, o1, g1, g2, g3, g4, _⟩ := F.walked.get he
    exact g4.waits j ej (by rw [g2 j h]; exact hej) hf
  · obtain ⟨es1, o1, g1, g2, g3, g4, _⟩ := F.walked.get hej
    rcases g4.fresh with g | g
    · rw [g1, hf] at g; cases g
    · have : ej.ms.testBit i = true := by
        rw [show ej.ms = 2 ^ j - 1 from by rw [← g1]; omega, Nat.testBit_two_pow_sub_one]
        simp; omega
      rw [I.closed j ej hj hej i this] at hiL; cases hiL

theorem InvD.wp (F : Fixed P E ops nx t0 h0 es) {Q : Exit → Act → World → Prop} (hQ : ∀ C a, InvD E nx t0 h0 es (fun j => decide (j < es.length)) C a → Q .normal a C.w) :
    ∀ (fuel : Nat) (listed : Array Bool) (C : Ctx) (a : Act), listed.size = ops.length → left (lst listed) ops.length ≤ fuel → InvD E nx t0 h0 es (lst listed) C a → wpAny P .any ops.toArray Q fuel listed a C.w := by
  have done : ∀ (listed : Array Bool) (C : Ctx) (a : Act), listed.size = ops.length → InvD E nx t0 h0 es (lst listed) C a → (∀ j, j < ops.length → lst listed j = true) → Q .normal a C.w := fun listed C a hsz I hall =>
    hQ C a (I.congr fun j => by
      by_cases hj : j < es.length
      · rw [hall j (by rw [← F.len]; exact hj)]; simp [hj]
      · cases h : lst listed j with
        | false => simp [hj]
        | true => exact absurd (I.lt j h) hj)
  have noneLeft : ∀ (listed : Array Bool), listed.size = ops.length → Region.ready .any ops.toArray listed = [] → ∀ j, j < ops.length → lst listed j = true := by
    intro listed hsz hr j
    induction j using Nat.strongRecOn with
    | _ j ih =>
      intro hj
      cases h : lst listed j with
      | true => rfl
      | false =>
        exfalso
        have hmem : j ∈ Region.ready .any ops.toArray listed := by
          refine mem_ready.2 ⟨lst_ready.2 ⟨by rw [hsz]; exact hj, h⟩, ops[j], by simp [hj], fun ed hed hb => ?_⟩
          have ho : ops[j]? = some ops[j] := by simp [hj]
          obtain ⟨e, he, _⟩ := F.entry ho
          obtain ⟨mlt, min, _, _⟩ := F.mask he ho
          have hlt := mlt _ (min ed hed hb)
          exact ih ed.on hlt (by omega)
        rw [hr] at hmem; cases hmem
  intro fuel
  induction fuel with
  | zero =>
    intro listed C a hsz hl I
    have hall := left_zero (Nat.le_zero.1 hl)
    refine ⟨?_, done listed C a hsz I hall⟩
    apply List.eq_nil_iff_forall_not_mem.2
    intro j hj
    obtain ⟨h1, _⟩ := mem_ready.1 hj
    obtain ⟨h2, h3⟩ := lst_ready.1 h1
    rw [hall j (by omega)] at h3; cases h3
  | succ fuel ih =>
    intro listed C a hsz hl I
    refine ⟨fun hr => done listed C a hsz I (noneLeft listed hsz hr), fun i hi => ?_⟩
    obtain ⟨h1, o, ho', hedges⟩ := mem_ready.1 hi
    obtain ⟨hisz, hiL⟩ := lst_ready.1 h1
    have ho : ops[i]? = some o := by simpa using ho'
    obtain ⟨e, he, hdst⟩ := F.entry ho
    obtain ⟨mlt, _, mex, _⟩ := F.mask he ho
    have hin : ∀ k, e.ms.testBit k = true → lst listed k = true := fun k hk => by
      obtain ⟨ed, hed, hb, hor⟩ := mex k hk
      have hon : lst listed ed.on = true := hedges ed hed hb
      rcases hor with h | ⟨e1, he1, hk1⟩
      · rw [← h]; exact hon
      · exact I.closed _ _ hon he1 k hk1
    have hadm := I.adm F he hiL hin
    obtain ⟨hH, hT, hF⟩ := I.ok _ hadm
    obtain ⟨es', o', g1, g2, g3, hs, h5, h6⟩ := F.walked.get he
    rw [ho] at g3; cases g3
    have mlt' : ∀ k, i ≤ k → e.ms.testBit k = false := fun k hk => by
      cases h : e.ms.testBit k with
      | false => rfl
      | true => have := mlt k h; omega
    have hv := h5 e.ms.testBit mlt'
    have hT' : TOk (C.at_ nx h0 es e.ms.testBit) (tview e.ms.testBit es' t0) a := fun x => by
      rw [F.tget_walk g1 g2 mlt' x]; exact hT x
    have hH' : HeapOk (C.at_ nx h0 es e.ms.testBit) (hview e.ms.testBit es' h0) := by rw [← hv]; exact hH
    have hno : ∀ k, ¬ (C.at_ nx h0 es e.ms.testBit).kn (nx + i, k) := fun k h => by
      rcases h with h | ⟨q, hq, h⟩
      · simp only at h; omega
      · have := mlt q hq
        simp only at h; omega
    have goOn : ∀ (u : Value) (C' : Ctx), Post (C.at_ nx h0 es e.ms.testBit) (nx + i) (hview e.ms.testBit es' h0) e.r e.d u C' → wpAny P .any ops.toArray Q fuel (listed.setIfInBounds i true) (a.put o.dst u) C'.w := fun u C' hp => by
      refine ih (listed.setIfInBounds i true) (C.next C' (nx + i)) (a.put o.dst u) (by simpa using hsz) ?_ ((I.step F he ho hiL hin g1 g2 hs h6 hv hadm hp).congr fun j => (lst_set hisz j).symm)
      have h7 := left_add hiL (n := ops.length) (by omega)
      rw [left_same (L := lst (listed.setIfInBounds i true)) (M := addL (lst listed) i) fun j _ => lst_set hisz j]
      omega
    obtain ⟨y1, y2⟩ := yielded_conc hT' ops
      |> fun h => (⟨fun j => (h j).1, fun j => (h j).2⟩ : (∀ j b, yv ops (tview e.ms.testBit es' t0) j = .sc (.bool b) → yielded ops.toArray a.tmps j = some b) ∧ (∀ j x, yv ops (tview e.ms.testBit es' t0) j = .sc (.tuple x) → yielded ops.toArray a.tmps j = none))
    unfold wpOp
    rw [ho']
    simp only
    have wanted : Yields P (nx + i) o.op (tview e.ms.testBit es' t0) (hview e.ms.testBit es' h0) e.r e.d → Region.wanted o (yielded ops.toArray a.tmps) = true → 
        if Region.wanted o (yielded ops.toArray a.tmps) then o.wp P a C.w (wpAny P .any ops.toArray Q fuel (listed.setIfInBounds i true)) Q ∨ (o.asks P a C.w ∧ LetsOut Q) else wpAny P .any ops.toArray Q fuel (listed.setIfInBounds i true) (a.put o.dst undef) C.w := fun hy hw => by
      rw [if_pos hw]
      exact .inl (hy (C.at_ nx h0 es e.ms.testBit) a o _ _ rfl hH' hT' hno goOn)
    have hys := hs.yields
    rw [g1] at hys
    rcases hys with ⟨hg, hy⟩ | ⟨j, want, b, hg, hb, hbw, hy⟩ | ⟨j, want, hg, hnot, hr, hd⟩
    · exact wanted hy (by simp [Region.wanted, hg])
    · exact wanted hy (by simp [Region.wanted, hg, y1 j b hb, hbw])
    · have hw : Region.wanted o (yielded ops.toArray a.tmps) = false := by
        rcases hnot with ⟨b, hb, hbw⟩ | ⟨x, hx⟩
        · simp [Region.wanted, hg, y1 j b hb, hbw]
        · simp [Region.wanted, hg, y2 j x hx]
      rw [if_neg (by rw [hw]; simp)]
      have hp : Post (C.at_ nx h0 es e.ms.testBit) (nx + i) (hview e.ms.testBit es' h0) e.r e.d undef ((C.at_ nx h0 es e.ms.testBit).same (nx + i) C.w) := by
        rw [hr, hd]
        exact Post.pure hH' (by simp only [Conc]) rfl rfl rfl rfl
      exact goOn undef ((C.at_ nx h0 es e.ms.testBit).same (nx + i) C.w) hp

/-- Whatever order is drawn, the region comes to what the walk in the order of the text shows. -/
theorem AW_drawn {Q : Exit → St → Prop} {σ : St} {id : Nat} (hm : P.follows .mixedOrders = true) (hf : fits E.N ops = true) (ho : once ops = true) (es : List En) (hw : Walked P ops σ.nx (tdel ops σ.t) σ.h es) (hl : es.length = ops.length)
    (hk : Q .normal ⟨tview (fun _ => true) es (tdel ops σ.t), hview (fun _ => true) es σ.h, σ.nx + ops.length⟩) : AW P E (.region id ops.toArray true) Q σ := fun a w hr => by
  obtain ⟨C0, rfl, hC⟩ := hr
  have F : Fixed P E ops σ.nx (tdel ops σ.t) σ.h es := ⟨hw, hl, ho, hf, fun o hoi x hx => by
    rw [tget_tdel, if_pos (List.any_eq_true.2 ⟨o, hoi, by simp [hx]⟩)]⟩
  let C : Ctx := { C0 with w := { C0.w with drawn := C0.w.drawn + 1 } }
  refine wp_region_any hm ?_
  have hL : ∀ j, lst (Array.replicate ops.toArray.size false) j = false := fun j => by
    unfold lst
    rw [Array.getD_eq_getD_getElem?, Array.getElem?_replicate]
    split <;> rfl
  have start : InvD E σ.nx (tdel ops σ.t) σ.h es (lst (Array.replicate ops.toArray.size false)) C a := by
    refine ⟨fun j hj => absurd hj (by rw [hL]; simp), fun j e hj => absurd hj (by rw [hL]; simp), fun j e hj => absurd hj (by rw [hL]; simp), hC.size, hC.defers, fun A hA => ?_⟩
    have hA0 : ∀ j, A j = false := fun j => by
      cases h : A j with
      | false => rfl
      | true => have := hA.sub j h; rw [hL] at this; cases this
    have hv : ∀ l : List En, hview A l σ.h = σ.h := fun l => by
      induction l with
      | nil => rfl
      | cons e l ih => simp only [hview]; rw [if_neg (by rw [hA0]; simp)]; exact ih
    have le : C0.le (C.at_ σ.nx σ.h es A) := by
      refine ⟨Nat.le_refl _, fun _ _ _ => rfl, fun _ _ h => h, fun m hm => .inl (hC.kn m hm), fun m hm hl => ⟨(hC.heap.live m).2 ?_, rfl⟩, fun _ _ _ cs ty h => ⟨cs, ty, h, rfl⟩⟩
      have : (hget (hview A es σ.h) m).isSome = true := hl
      rwa [hv] at this
    have live : ∀ m, (C.at_ σ.nx σ.h es A).live m ↔ C0.live m := fun m => by
      rw [hC.heap.live m]
      have : hview A es σ.h = σ.h := hv es
      show (hget (hview A es σ.h) m).isSome = true ↔ _
      rw [this]
    refine ⟨?_, fun x => ?_, ⟨hC.frame.os, hC.frame.tape, hC.frame.output, hC.frame.size, hC.frame.same, hC.frame.mt, fun m hm hb => hC.frame.wr m ((live m).1 hm) hb, hC.frame.le.trans le⟩⟩
    · rw [hv]
      exact hC.heap.mono le live (fun _ _ => rfl) (fun _ h _ => h)
    · rcases tget_view A (tdel ops σ.t) x es with ⟨j, e, _, _, h3⟩ | ⟨_, h2⟩
      · rw [h3, if_neg (by rw [hA0]; simp)]; trivial
      · rw [h2, tget_tdel]
        split
        · trivial
        · exact (hC.t x).mono le
  refine InvD.wp F (fun C' a' I => ?_) ops.toArray.size (Array.replicate ops.toArray.size false) C a (by simp) ?_ start
  · have hadm : Adm σ.nx es (fun j => decide (j < es.length)) (fun j => decide (j < es.length)) := ⟨fun _ h => h, I.closed, fun _ _ h _ _ => h⟩
    obtain ⟨hH, hT, hF⟩ := I.ok _ hadm
    have e1 : hview (fun j => decide (j < es.length)) es σ.h = hview (fun _ => true) es σ.h := hview_congr es fun j hj => by simp [hj]
    have e2 : tview (fun j => decide (j < es.length)) es (tdel ops σ.t) = tview (fun _ => true) es (tdel ops σ.t) := tview_congr es fun j hj => by simp [hj]
    rw [e1] at hH
    rw [e2] at hT
    refine ⟨_, ⟨C'.at_ σ.nx σ.h es (fun j => decide (j < es.length)), rfl, hH, hT, I.size, I.defers, fun m hm => ?_, hF⟩, hk⟩
    rcases hm with h | ⟨j, hj, h⟩
    · simp only; omega
    · simp at hj; simp only; omega
  · have : ∀ n, left (lst (Array.replicate ops.toArray.size false)) n ≤ n := fun n => by
      induction n with
      | zero => simp [left]
      | succ n ih => simp only [left]; split <;> omega
    exact this _
theorem AW_draw {Q : Exit → St → Prop} {σ : St} {id : Nat} (hm : P.follows .mixedOrders = true) (ms : List Nat) (hf : fits E.N ops = true) (ho : once ops = true)
    (h : DW P ms ops σ.nx (tdel ops σ.t) σ.h (fun t h => Q .normal ⟨t, h, σ.nx + ops.length⟩) ops [] 0) : AW P E (.region id ops.toArray true) Q σ := by
  obtain ⟨es, hw, hl, hk⟩ := DW_walked ops [] 0 (fun j => by simp) trivial (fun j e he => by simp [ent] at he) h
  simp only [List.length_nil, Nat.zero_add] at hl
  exact AW_drawn hm hf ho es hw hl hk
end
end Go.Proofs.Aw
