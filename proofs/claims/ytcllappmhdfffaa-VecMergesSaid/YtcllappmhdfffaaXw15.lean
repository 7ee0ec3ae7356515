/- Symbolic runs, part 15: from a row's reading to letters and back. -/
import Derived.Test.YtcllappmhdfffaaXw14
namespace Go.Proofs.Xw
open Go Go.Proofs.Aw Go.ChangeShapes Go.WideShapes

section
variable {H : Type} {enc : TypeId × Value → H} {P : Program}
theorem mapM_all {α β : Type} {f : α → Option β} : ∀ {l : List α} {r : List β}, l.mapM f = some r → ∀ x ∈ l, ∃ y, f x = some y
  | [], _, _, x, hx => by cases hx
  | a :: l, r, h, x, hx => by
    simp only [List.mapM_cons, bind, Option.bind_eq_some_iff, pure] at h
    obtain ⟨y, hy, ys, hys, _⟩ := h
    rcases List.mem_cons.1 hx with rfl | hx
    · exact ⟨y, hy⟩
    · exact mapM_all hys x hx
theorem sameAt_of {W W' : World} (h : ∀ b, b < W.heap.size → W'.heap[b]? = W.heap[b]?) {p : MemPlace} (hp : p.block < W.heap.size) : W.sameAt W' p := by
  cases p with
  | cell b off => simp only [World.sameAt, World.cell?, h b hp]
  | map b => exact h b hp
theorem cells_same {W W' : World} (h : ∀ b, b < W.heap.size → W'.heap[b]? = W.heap[b]?) {base : Nat} {a : Addr} {n : Nat} {cs : List Value} (hn : 0 < n) (hc : W.cells? base a n = some cs) : W'.cells? base a n = some cs := by
  have hb := World.cells?_block hc hn
  refine World.cells?_carry hc fun p hp => ?_
  obtain ⟨i, _, rfl⟩ := MemPlace.mem_row.1 hp
  exact sameAt_of h hb

/-- A slice of plain elements that is read. -/
theorem sl_trod {n : Nat} {t e : TypeId} {ks : List Kd} (hu : P.underlying t = some (.slice e)) (hk : flatT P 8 e = some ks) (hpos : 0 < ks.length) (hz : ks.length = P.cellsOf e) {W : World} {A : Option Addr} {len cap : Nat} {x : DataW H × List MemPlace}
    (h : DataW.trod enc P W 0 (fun _ => true) true (n + 1) t [.slice A len cap] = some x) :
    Fits W (.sl ks) (.slice A len cap) ∧ ∀ (W' : World) (sp : Nat → Bool), (∀ b, b < W.heap.size → W'.heap[b]? = W.heap[b]?) → (∀ q ∈ x.2, sp q.block = true) → DataW.trod enc P W' 0 sp true (n + 1) t [.slice A len cap] = some x := by
  simp only [DataW.trod_step] at h ⊢
  unfold DataW.trodStep at h ⊢
  rw [hu] at h
  simp only [hu] at h ⊢
  cases A with
  | none =>
    have hlc : len = 0 ∧ cap = 0 := by
      cases len <;> cases cap <;> simp_all
    obtain ⟨rfl, rfl⟩ := hlc
    refine ⟨⟨hpos, none, 0, 0, rfl, Nat.le_refl _, fun hh => absurd hh (by omega)⟩, fun W' sp _ _ => ?_⟩
    simpa using h
  | some a =>
    simp only at h ⊢
    split at h
    · rename_i hc
      obtain ⟨elems, he, h⟩ := Option.bind_eq_some_iff.1 h
      obtain ⟨rest, hr, rfl⟩ := Option.map_eq_some_iff.1 h
      simp only [if_true] at hr
      have hflat : ∀ i y, (W.cells? 0 (a.add (i * P.cellsOf e)) (P.cellsOf e)).bind (DataW.trod enc P W 0 (fun _ => true) true n e) = some y →
          ∃ cs, W.cells? 0 (a.add (i * P.cellsOf e)) (P.cellsOf e) = some cs ∧ KS ks cs ∧ ∀ w' b' s' h', DataW.trod enc P w' b' s' h' n e cs = some y := fun i y hy => by
        obtain ⟨cs, h1, h2⟩ := Option.bind_eq_some_iff.1 hy
        obtain ⟨_, g2, g3⟩ := flat_trod (enc := enc) 8 n e ks hk W 0 (fun _ => true) true cs y h2
        exact ⟨cs, h1, g2, g3⟩
      refine ⟨⟨hpos, some a, len, cap, rfl, hc.2.1, fun hl => ⟨a, rfl, ?_, fun r hr' => ?_⟩⟩, fun W' sp hW' hsp => ?_⟩
      · obtain ⟨y, hy⟩ := mapM_all he 0 (by simpa using hl)
        obtain ⟨cs, h1, _⟩ := hflat 0 y hy
        have := World.cells?_block h1 (by omega)
        simpa [block_add] using this
      · obtain ⟨y, hy⟩ := mapM_all he r (by simpa using hr')
        obtain ⟨cs, h1, h2, _⟩ := hflat r y hy
        obtain ⟨_, _, h4⟩ := World.cells?_some h1
        exact ⟨cs, h2, fun k hk' => by rw [hz]; exact h4 k (by omega)⟩
      · rw [if_pos hc]
        have carry : ∀ i y, (W.cells? 0 (a.add (i * P.cellsOf e)) (P.cellsOf e)).bind (DataW.trod enc P W 0 (fun _ => true) true n e) = some y →
            (W'.cells? 0 (a.add (i * P.cellsOf e)) (P.cellsOf e)).bind (DataW.trod enc P W' 0 sp true n e) = some y := fun i y hy => by
          obtain ⟨cs, h1, _, h3⟩ := hflat i y hy
          rw [cells_same hW' (by omega) h1]
          exact h3 _ _ _ _
        have e1 := mapM_carry (g := fun i => (W'.cells? 0 (a.add (i * P.cellsOf e)) (P.cellsOf e)).bind (DataW.trod enc P W' 0 sp true n e)) he fun i y _ _ hy => carry i y hy
        rw [e1]
        simp only [Option.bind_some]
        have e2 : (if sp a.block = true then (List.range (cap - len)).mapM fun j => (W'.cells? 0 (a.add ((len + j) * P.cellsOf e)) (P.cellsOf e)).bind (DataW.trod enc P W' 0 sp true n e) else some []) = some rest := by
          have e3 := mapM_carry (g := fun j => (W'.cells? 0 (a.add ((len + j) * P.cellsOf e)) (P.cellsOf e)).bind (DataW.trod enc P W' 0 sp true n e)) hr fun j y _ _ hy => carry (len + j) y hy
          split
          · exact e3
          · rename_i hsa
            have hrl : rest.length = cap - len := by
              have : ∀ (l : List Nat) (f : Nat → Option (DataW H × List MemPlace)) (r : List (DataW H × List MemPlace)), l.mapM f = some r → r.length = l.length := fun l => by
                induction l with
                | nil => intro f r hh; simp at hh; subst hh; rfl
                | cons x l ih =>
                  intro f r hh
                  simp only [List.mapM_cons, bind, Option.bind_eq_some_iff, pure, Option.some.injEq] at hh
                  obtain ⟨y, _, ys, hys, rfl⟩ := hh
                  simp [ih f ys hys]
              have := this _ _ _ hr
              simpa using this
            by_cases h0 : cap - len = 0
            · rw [h0] at hrl
              rw [List.length_eq_zero_iff.1 hrl]
            · exfalso
              apply hsa
              refine hsp (.cell a.block (a.off + 0)) (List.mem_append_left _ (MemPlace.mem_row.2 ⟨0, ?_, rfl⟩))
              exact Nat.mul_pos (by omega) (by omega)
        rw [e2]; rfl
    · cases h

theorem fits_of_trod {t : TypeId} {sh : Sh} (hs : shT P t = some sh) {W : World} {base : Nat} {v : Value} (hval : Value.okWide P W .any base t v) {d : DataW H} {p : List MemPlace} (h : DataW.Trod enc P W 0 (fun _ => true) true t v d p) :
    Fits W sh v ∧ ∀ (W' : World) (sp : Nat → Bool), (∀ b, b < W.heap.size → W'.heap[b]? = W.heap[b]?) → (∀ q ∈ p, sp q.block = true) → DataW.Trod enc P W' 0 sp true t v d p := by
  obtain ⟨n, hf⟩ := h
  have flatCase : ∀ ks, flatT P 8 t = some ks → KS ks v.cells.toList ∧ ∀ (W' : World) (sp : Nat → Bool), DataW.Trod enc P W' 0 sp true t v d p := fun ks hk => by
    obtain ⟨_, g2, g3⟩ := flat_trod (enc := enc) 8 n t ks hk W 0 (fun _ => true) true _ _ hf
    exact ⟨g2, fun W' sp => ⟨n, g3 W' 0 sp true⟩⟩
  cases hu : P.underlying t with
  | none => unfold shT at hs; rw [hu] at hs; cases hs
  | some ds =>
    unfold shT at hs
    rw [hu] at hs
    cases ds <;> simp only [reduceCtorEq, Option.some.injEq] at hs
    case bool =>
      subst hs
      obtain ⟨b, rfl⟩ := okWide_bool hu hval
      refine ⟨⟨.b, rfl, b, rfl⟩, fun W' sp _ _ => ⟨n, ?_⟩⟩
      cases n with
      | zero => simp [DataW.trod] at hf
      | succ n => simp only [DataW.trod_step, DataW.trodStep, hu, Value.cells] at hf ⊢; exact hf
    case int k =>
      subst hs
      obtain ⟨i, rfl⟩ := okWide_int hu hval
      cases n with
      | zero => simp [DataW.trod] at hf
      | succ n =>
        simp only [DataW.trod_step, DataW.trodStep, hu, Value.cells] at hf
        refine ⟨⟨.i k, rfl, i, rfl, ?_⟩, fun W' sp _ _ => ⟨n + 1, ?_⟩⟩
        · by_cases hw : (Lit.int k i).wf = true
          · exact hw
          · simp [hw] at hf
        · simp only [DataW.trod_step, DataW.trodStep, hu, Value.cells]; exact hf
    case string =>
      subst hs
      obtain ⟨s, rfl⟩ := okWide_string hu hval
      cases n with
      | zero => simp [DataW.trod] at hf
      | succ n =>
        simp only [DataW.trod_step, DataW.trodStep, hu, Value.cells] at hf
        refine ⟨⟨.s, rfl, s, rfl, ?_⟩, fun W' sp _ _ => ⟨n + 1, ?_⟩⟩
        · by_cases hw : s.size ≤ maxLen
          · exact hw
          · simp [hw] at hf
        · simp only [DataW.trod_step, DataW.trodStep, hu, Value.cells]; exact hf
    case struct fs =>
      obtain ⟨ks, hk, rfl⟩ := Option.map_eq_some_iff.1 hs
      obtain ⟨g1, g2⟩ := flatCase ks hk
      have hv : ∃ cs, v = .agg cs := by
        simp only [Value.okWide, hu] at hval
        obtain ⟨cs, h1, _⟩ := hval
        exact ⟨cs, h1⟩
      obtain ⟨cs, rfl⟩ := hv
      exact ⟨⟨cs, rfl, g1⟩, fun W' sp _ _ => g2 W' sp⟩
    case array m e =>
      obtain ⟨ks, hk, rfl⟩ := Option.map_eq_some_iff.1 hs
      obtain ⟨g1, g2⟩ := flatCase ks hk
      have hv : ∃ cs, v = .agg cs := by
        simp only [Value.okWide, hu] at hval
        obtain ⟨cs, h1, _⟩ := hval
        exact ⟨cs, h1⟩
      obtain ⟨cs, rfl⟩ := hv
      exact ⟨⟨cs, rfl, g1⟩, fun W' sp _ _ => g2 W' sp⟩
    case slice e =>
      obtain ⟨ks, hk, hs⟩ := Option.bind_eq_some_iff.1 hs
      split at hs
      · rename_i hc
        cases hs
        obtain ⟨A, len, cap, rfl⟩ := okWide_slice hu hval
        cases n with
        | zero => simp [DataW.trod] at hf
        | succ n =>
          obtain ⟨g1, g2⟩ := sl_trod hu hk hc.1 hc.2 hf
          exact ⟨g1, fun W' sp h1 h2 => ⟨n + 1, g2 W' sp h1 h2⟩⟩
      · cases hs

/-- All arguments. -/
theorem fits_all {W : World} {base : Nat} : ∀ {ts : List TypeId} {shs : List Sh} {vs : List Value} {ds : List (DataW H)} {p : List MemPlace}, ts.map (shT P) = shs.map some → (∀ (j : Nat) t v, ts[j]? = some t → vs[j]? = some v → Value.okWide P W .any base t v) →
    DataW.TrodAll enc P W 0 (fun _ => true) true ts vs ds p → shs.length = vs.length ∧ (∀ (i : Nat) (sh : Sh) (v : Value), shs[i]? = some sh → vs[i]? = some v → Fits W sh v) ∧
    ∀ (W' : World) (sp : Nat → Bool), (∀ b, b < W.heap.size → W'.heap[b]? = W.heap[b]?) → (∀ q ∈ p, sp q.block = true) → DataW.TrodAll enc P W' 0 sp true ts vs ds p
  | [], shs, vs, ds, p, hm, _, h => by
    obtain ⟨rfl, rfl, rfl⟩ := trodAll_nil h
    have : shs = [] := by simpa using hm.symm
    subst this
    exact ⟨rfl, fun i sh v h1 _ => by simp at h1, fun _ _ _ _ => rfl⟩
  | t :: ts, [], vs, ds, p, hm, _, h => by simp at hm
  | t :: ts, sh :: shs, vs, ds, p, hm, hval, h => by
    obtain ⟨v, vs', d, ds', p1, p2, rfl, rfl, rfl, h1, h2⟩ := trodAll_cons h
    simp only [List.map_cons, List.cons.injEq] at hm
    obtain ⟨a1, a2⟩ := fits_of_trod hm.1 (hval 0 t v rfl rfl) h1
    obtain ⟨b1, b2, b3⟩ := fits_all hm.2 (fun j t' v' e1 e2 => hval (j + 1) t' v' (by simpa using e1) (by simpa using e2)) h2
    refine ⟨by simp [b1], fun i sh' v' e1 e2 => ?_, fun W' sp hW hq => ?_⟩
    · cases i with
      | zero => simp at e1 e2; subst e1 e2; exact a1
      | succ i => exact b2 i sh' v' (by simpa using e1) (by simpa using e2)
    · exact ⟨p1, p2, a2 W' sp hW (fun q hq' => hq q (List.mem_append_left _ hq')), b3 W' sp hW (fun q hq' => hq q (List.mem_append_right _ hq')), rfl⟩

theorem trod_len {w : World} {base : Nat} {sp : Nat → Bool} {held : Bool} : ∀ {ts : List TypeId} {vs : List Value} {ds : List (DataW H)} {p : List MemPlace}, DataW.TrodAll enc P w base sp held ts vs ds p → ds.length = ts.length
  | [], vs, ds, p, h => by obtain ⟨_, rfl, _⟩ := trodAll_nil h; rfl
  | t :: ts, vs, ds, p, h => by
    obtain ⟨v, vs', d, ds', p1, p2, _, rfl, _, _, h2⟩ := trodAll_cons h
    simp [trod_len h2]
/-- What a law's answer comes to: its call returns true, and all reads as it read. -/
theorem law_calls {f : FuncId} {fn : Func} {s : ChangeSpec} {shs : List Sh} {r : TypeId} (hts : fn.params.toList.map (shT P) = shs.map some) (hrt : fn.resultTypes = #[r]) (hrb : P.underlying r = some .bool) (hvars : s.vars = [])
    (hcy : ∀ (W : World) (vs : List Value), shs.length = vs.length → (∀ (i : Nat) (sh : Sh) (v : Value), shs[i]? = some sh → vs[i]? = some v → Fits W sh v) → CY P 0 f (X.denL (mkR W (plain shs vs) vs (shs.map shZ)) (pats 0 0 shs)) [] (.sc (.bool true)) [])
    {W : World} {base : Nat} {args : Array Value} {ds gs : List (DataW H)} {before : List MemPlace} {apart : Bool} (hval : ∀ (j : Nat) t v, fn.params[j]? = some t → args[j]? = some v → Value.okWide P W .any base t v)
    (hW : DataW.Whole enc P fn.params.toList s.vars apart W args.toList ds gs before) (hspec : ∀ ds : List (DataW H), ds.length = fn.params.size → s.fn H (ds ++ []) = { results := [.lit (.bool true)], args := ds }) :
    Calls P f args W fun e W' => ∃ v, e = .returned v ∧ s.post enc P fn apart true false false W args v W' := by
  obtain ⟨p, q, hA, hV, rfl, hfz, hnd⟩ := id hW
  rw [hvars] at hV
  obtain ⟨rfl, rfl⟩ : gs = [] ∧ q = [] := by
    cases gs with
    | nil => exact ⟨rfl, hV⟩
    | cons g gs => exact hV.elim
  obtain ⟨hlen, hfit, hcarry⟩ := fits_all hts (fun j t v h1 h2 => hval j t v (by simpa using h1) (by simpa using h2)) hA
  let C : Ctx := { ρ := fun _ => 0, live := fun _ => False, kn := fun _ => False, mt := fun _ => False, w := W }
  have hH : HeapOk C [] := ⟨fun n => by simp [C, hget], fun n cs h => by simp [hget] at h, fun n m h => h.elim, fun n h => h.elim, fun n h => h.elim⟩
  have hC := conc_pats (C := C) (W := W) rfl (fun b h => h) (cells := plain shs args.toList) (vsA := args.toList) (zs := shs.map shZ) shs args.toList [] [] hfit hlen rfl rfl (fun i sh h => by simp [h])
  have hspec := hspec ds (by rw [trod_len hA]; simp)
  have := hcy W args.toList hlen hfit C args.toList hH hC (fun k h => h)
  have e : args.toList.toArray = args := by simp
  rw [e] at this
  refine this.mono fun e W' ⟨u, C', he, hw, hp⟩ => ?_
  have hu : u = .bool true := by have := hp.val; simpa only [Conc] using this
  subst hu
  subst hw
  have hsame : ∀ b, b < W.heap.size → C'.w.heap[b]? = W.heap[b]? := fun b hb => hp.same b hb (fun m hm => by simp at hm)
  refine ⟨_, he, ds, [], p ++ [], [], p, [], hW, ?_, ?_, ?_, ?_, fun h => by cases h⟩
  · rw [hspec, hrt]
    exact trodAll_mk1 (Go.RowKit.shut_bool hrb true)
  · rw [hspec]
    exact hcarry C'.w _ hsame (fun q hq => by simpa using hW.lt q (by simpa using hq))
  · rw [hspec, hvars]; exact rfl
  · refine ⟨hp.os, hp.output, fun i hi => ?_⟩
    rw [hsame i hi]
    split
    · rename_i h1 h2
      rw [h1] at h2
      cases h2
      exact ⟨rfl, rfl, rfl, fun _ _ => rfl⟩
    · rename_i h1 h2
      rw [h1] at h2
      cases h2
      exact .inr ⟨rfl, rfl⟩
    · rfl
end
end Go.Proofs.Xw
