/- The abstract logic, part 20: the steps as functions are sound. -/
import Derived.Test.YtcllappmhdfffaaAw19
namespace Go.Proofs.Aw
open Go

section
variable {P : Program} {n : Nat} {mu : Bool} {t : Tp} {h : Hp}
theorem lift1_ok {x : Option AV} {r : AV} {d : Dl} (he : lift1 x = .ok r d) : x = some r ∧ d = [] := by
  cases x with
  | none => cases he
  | some v => cases he; exact ⟨rfl, rfl⟩
theorem lift1_call {x : Option AV} {f : FuncId} {a : List AV} (he : lift1 x = .call f a) : False := by cases x <;> cases he
theorem lift2_ok {x : Option (AV × Dl)} {r : AV} {d : Dl} (he : lift2 x = .ok r d) : x = some (r, d) := by
  cases x with
  | none => cases he
  | some v => obtain ⟨v, e⟩ := v; cases he; rfl
theorem lift2_call {x : Option (AV × Dl)} {f : FuncId} {a : List AV} (he : lift2 x = .call f a) : False := by
  cases x with
  | none => cases he
  | some v => obtain ⟨v, e⟩ := v; cases he
theorem liftD_ok {x : Option Dl} {r : AV} {d : Dl} (he : liftD x = .ok r d) : x = some d ∧ r = .sc undef := by
  cases x with
  | none => cases he
  | some v => cases he; exact ⟨rfl, rfl⟩
theorem liftD_call {x : Option Dl} {f : FuncId} {a : List AV} (he : liftD x = .call f a) : False := by cases x <;> cases he
theorem rdN_K {b : Option Bool} {z : Nat} {cs : List AV} {off : Nat} {v : AV} {K : AV → Prop} (he : rdN b z cs off = some v) (hk : K v) : rdK b z cs off K := by
  unfold rdN at he
  split at he
  · split at he
    · rename_i hc; cases he; exact ⟨hc.1, hc.2, hk⟩
    · cases he
  · simp only [rdK, he]; exact hk
  · cases he
theorem loadN_K {ty : TypeId} {x v : AV} {K : AV → Prop} (he : loadN P h ty x = some v) (hk : K v) : loadK P h ty x K := by
  unfold loadN at he
  split at he
  · rename_i m off
    unfold loadK
    simp only
    cases hg : hget h m with
    | none => rw [hg] at he; cases he
    | some cs => rw [hg] at he; exact rdN_K he hk
  · exact rdN_K he hk
  · cases he
theorem storeN_K {ty : TypeId} {x y : AV} {d : Dl} {K : Dl → Prop} (he : storeN P h ty x y.cells = some d) (hk : K d) : storeK P h ty x y K := by
  unfold storeN at he
  split at he
  · rename_i _ m off
    unfold storeK
    simp only
    cases hg : hget h m with
    | none => rw [hg] at he; cases he
    | some cs =>
      rw [hg] at he
      simp only [wrN] at he
      split at he
      · rename_i hc; cases he; exact ⟨hc.1, hc.2.1, hc.2.2.1, hc.2.2.2, hk⟩
      · cases he
  · cases he
theorem idxAddrN_K {ty : TypeId} {x i v : AV} {K : AV → Prop} (he : idxAddrN P h ty x i = some v) (hk : K v) : idxAddrK P h ty x i K := by
  unfold idxAddrN at he
  split at he
  · rename_i m off k j
    unfold idxAddrK
    simp only
    cases ha : arrT P ty with
    | none => rw [ha] at he; cases he
    | some p =>
      obtain ⟨len, z⟩ := p
      rw [ha] at he
      simp only [iaP] at he
      split at he
      · rename_i hc; cases he; exact ⟨hc.1, hc.2.1, hc.2.2, hk⟩
      · cases he
  · unfold idxAddrK
    simp only
    cases ha : arrT P ty with
    | none => rw [ha] at he; cases he
    | some p =>
      obtain ⟨len, z⟩ := p
      rw [ha] at he
      simp only [iaI] at he
      split at he
      · rename_i hc; cases he; exact ⟨hc.1, hc.2, hk⟩
      · cases he
  · unfold idxAddrK
    simp only
    cases ha : slT P ty with
    | none => rw [ha] at he; cases he
    | some p =>
      obtain ⟨len, z⟩ := p
      rw [ha] at he
      simp only [iaS] at he
      split at he
      · rename_i hc; cases he; exact ⟨hc.1, hc.2.1, hc.2.2.1, hc.2.2.2, hk⟩
      · cases he
  · unfold idxAddrK
    simp only
    cases ha : slT P ty with
    | none => rw [ha] at he; cases he
    | some p =>
      obtain ⟨len, z⟩ := p
      rw [ha] at he
      simp only [iaR] at he
      split at he
      · rename_i hc
        refine ⟨hc.1, hc.2, ?_⟩
        rename_i es _ _ j
        cases hg : es[j.toNat]? with
        | none => rw [hg] at he; cases he
        | some el => rw [hg] at he; cases he; exact hk
      · cases he
  · cases he
theorem fieldAddrN_K {ty : TypeId} {x v : AV} {f : Nat} {K : AV → Prop} (he : fieldAddrN P h ty f x = some v) (hk : K v) : fieldAddrK P h ty x f K := by
  unfold fieldAddrN at he
  unfold fieldAddrK
  cases hr : recT P ty with
  | none => rw [hr] at he; cases he
  | some l =>
    rw [hr] at he
    simp only at he ⊢
    cases hl : l[f]? with
    | none => rw [hl] at he; cases he
    | some p =>
      obtain ⟨o, z⟩ := p
      rw [hl] at he
      simp only [faO] at he ⊢
      split at he
      · split at he
        · rename_i hc; cases he; exact ⟨hc, hk⟩
        · cases he
      · cases he; exact hk
      · cases he
theorem fieldN_K {ty : TypeId} {x v : AV} {f : Nat} {K : AV → Prop} (he : fieldN P ty f x = some v) (hk : K v) : fieldK P ty x f K := by
  unfold fieldN at he
  split at he
  · split at he
    · rename_i l bs hr hb
      unfold fieldK
      rw [hr, hb]
      simp only
      cases hl : l[f]? with
      | none => rw [hl] at he; simp [fdO] at he
      | some p =>
        obtain ⟨o, z⟩ := p
        cases hbf : bs[f]? with
        | none => rw [hl, hbf] at he; simp [fdO] at he
        | some b => rw [hl, hbf] at he; exact rdN_K he hk
    · cases he
  · cases he
theorem indexN_K {ty : TypeId} {x i v : AV} {K : AV → Prop} (he : indexN P ty x i = some v) (hk : K v) : indexK P ty x i K := by
  unfold indexN at he
  split at he
  · unfold indexK
    simp only
    cases ha : arrT P ty with
    | none => rw [ha] at he; cases he
    | some p =>
      obtain ⟨len, z⟩ := p
      rw [ha] at he
      simp only at he ⊢
      split at he
      · rename_i hc; exact ⟨hc.1, hc.2, rdN_K he hk⟩
      · cases he
  · unfold indexK
    simp only
    split at he
    · rename_i s k j hc
      refine ⟨hc.1, hc.2, ?_⟩
      cases hb : s[j.toNat]? with
      | none => rw [hb] at he; cases he
      | some b => rw [hb] at he; simp at he; subst he; exact hk
    · cases he
  · cases he
theorem bndN_K {d : Nat} {x : Option AV} {l : Nat} {K : Nat → Prop} (he : bndN d x = some l) (hk : K l) : bndK d x K := by
  unfold bndN at he
  split at he
  · cases he; exact hk
  · split at he
    · rename_i hc; cases he; exact ⟨hc, hk⟩
    · cases he
  · cases he
theorem sliceN_K {ty : TypeId} {x v : AV} {lo hi mx : Option AV} {K : AV → Prop} (he : sliceN P h ty x lo hi mx = some v) (hk : K v) : sliceK P h ty x lo hi mx K := by
  unfold sliceN at he
  split at he
  · unfold slN at he
    split at he
    · rename_i l hh hl hhi
      split at he
      · split at he
        · rename_i hs
          split at he
          · rename_i hc
            cases he
            unfold sliceK
            simp only [hs]
            exact ⟨hc.1, bndN_K hl (bndN_K hhi ⟨hc.2.1, hc.2.2, hk⟩)⟩
          · cases he
        · cases he
      · split at he
        · rename_i hs
          split at he
          · rename_i hc
            cases he
            unfold sliceK
            simp only [hs]
            exact ⟨hc.1, hc.2.1, bndN_K hl (bndN_K hhi ⟨hc.2.2.1, hc.2.2.2, hk⟩)⟩
          · cases he
        · cases he
      · split at he
        · rename_i ha
          split at he
          · rename_i hc
            cases he
            unfold sliceK
            simp only [ha]
            refine ⟨hc.1, trivial, bndN_K hl (bndN_K (d := _) (l := hh) ?_ ⟨hc.2.1, hc.2.2, hk⟩)⟩
            simpa only [topN, ha] using hhi
          · cases he
        · cases he
      · split at he
        · rename_i hc
          cases he
          unfold sliceK
          simp only
          exact ⟨hc.1, trivial, bndN_K hl (bndN_K hhi ⟨hc.2.1, hc.2.2, hk⟩)⟩
        · cases he
      · cases he
    · cases he
  · rename_i m
    cases hi with
    | none => simp only [slN3] at he; split at he <;> simp_all
    | some hi =>
      simp only at he
      unfold slN3 at he
      split at he
      · rename_i l hh mm hl hhi hmm
        split at he
        · split at he
          · rename_i hs
            split at he
            · rename_i hc
              cases he
              unfold sliceK
              simp only [hs]
              exact ⟨hc.1, bndN_K hl (bndN_K hhi (bndN_K hmm ⟨hc.2.1, hc.2.2.1, hc.2.2.2, hk⟩))⟩
            · cases he
          · cases he
        · split at he
          · rename_i hs
            split at he
            · rename_i hc
              cases he
              unfold sliceK
              simp only [hs]
              exact ⟨hc.1, hc.2.1, bndN_K hl (bndN_K hhi (bndN_K hmm ⟨hc.2.2.1, hc.2.2.2.1, hc.2.2.2.2, hk⟩))⟩
            · cases he
          · cases he
        · cases he
      · cases he
theorem buildSliceN_K {ty : TypeId} {len : Nat} {ps : List (Nat × AV)} {r : AV} {d : Dl} {K : AV → Dl → Prop} (he : buildSliceN P n mu ty len ps = some (r, d)) (hk : K r d) : buildSliceK P n mu ty len ps K := by
  unfold buildSliceN at he
  unfold buildSliceK
  split at he
  · rename_i hs
    split at he
    · rename_i hc
      rw [hs]
      refine ⟨hc.1, hc.2.1, hc.2.2.1, hc.2.2.2, ?_⟩
      cases mu <;> (simp only at he ⊢; cases he; exact hk)
    · cases he
  · cases he
theorem apO_K {z b : Nat} {fs : List (List AV)} {s r : AV} {d : Dl} {K : AV → Dl → Prop} (he : apO n mu z b fs (baseRo z s) = some (r, d)) (hk : K r d) : match (generalizing := false) baseRo z s with
    | some es => (es.length + fs.length) * b ≤ 140737488355328 ∧ es.length + fs.length ≤ 9223372036854775807 ∧
      (match (generalizing := false) mu with
      | false => K (.ro z (es ++ fs) false) []
      | true => fs ≠ [] ∧ K (.sl (n, 0) z 0 (es.length + fs.length) true) [((n, 0), some (es.flatten ++ fs.flatten))])
    | none => False := by
  cases hb : baseRo z s with
  | none => rw [hb] at he; simp [apO] at he
  | some es =>
    rw [hb] at he
    simp only [apO] at he
    split at he
    · rename_i hc3
      refine ⟨hc3.1, hc3.2.1, ?_⟩
      cases mu with
      | false => simp only at he ⊢; cases he; exact hk
      | true => simp only at he ⊢; cases he; exact ⟨hc3.2.2 rfl, hk⟩
    · cases he
theorem appendN_K {ty xt : TypeId} {s x r : AV} {d : Dl} {K : AV → Dl → Prop} (he : appendN P n h mu ty xt s x = some (r, d)) (hk : K r d) : appendK P n h mu ty xt s x K := by
  unfold appendN at he
  unfold appendK
  split at he
  · rename_i e z hs
    split at he
    · rename_i hc
      rw [hs]
      refine ⟨hc.1, hc.2, ?_⟩
      cases hf : elemsA h z x with
      | none => rw [hf] at he; simp [apN] at he
      | some fs =>
        rw [hf] at he
        cases s with
        | sl m z' off len own =>
          simp only [apN] at he
          split at he
          · rename_i hc2
            simp only
            refine ⟨hc2.1, hc2.2.1, hc2.2.2, ?_⟩
            cases hg : hget h m with
            | none => rw [hg] at he; cases he
            | some cs =>
              rw [hg] at he
              simp only [apS] at he ⊢
              split at he
              · rename_i hc3; cases he; exact ⟨hc3.1, hc3.2.1, hc3.2.2.1, hc3.2.2.2, hk⟩
              · cases he
          · cases he
        | top => exact apO_K (s := .top ) (n := n) (mu := mu) (fs := fs) (b := bytesT P e) (z := z) he hk
        | sc a1 => exact apO_K (s := .sc a1) (n := n) (mu := mu) (fs := fs) (b := bytesT P e) (z := z) he hk
        | agg a1 => exact apO_K (s := .agg a1) (n := n) (mu := mu) (fs := fs) (b := bytesT P e) (z := z) he hk
        | tup a1 => exact apO_K (s := .tup a1) (n := n) (mu := mu) (fs := fs) (b := bytesT P e) (z := z) he hk
        | ptr a1 a2 => exact apO_K (s := .ptr a1 a2) (n := n) (mu := mu) (fs := fs) (b := bytesT P e) (z := z) he hk
        | ip a1 a2 => exact apO_K (s := .ip a1 a2) (n := n) (mu := mu) (fs := fs) (b := bytesT P e) (z := z) he hk
        | ro a1 a2 a3 => exact apO_K (s := .ro a1 a2 a3) (n := n) (mu := mu) (fs := fs) (b := bytesT P e) (z := z) he hk
        | fn a1 a2 a3 => exact apO_K (s := .fn a1 a2 a3) (n := n) (mu := mu) (fs := fs) (b := bytesT P e) (z := z) he hk
        | ifc a1 a2 => exact apO_K (s := .ifc a1 a2) (n := n) (mu := mu) (fs := fs) (b := bytesT P e) (z := z) he hk
    · cases he
  · cases he
theorem pickN_K {c a b v : AV} {K : AV → Prop} (he : pickN c a b = some v) (hk : K v) : pickK c a b K := by
  unfold pickN at he
  split at he <;> first | (cases he; simp only [pickK]; exact ⟨fun _ => hk, fun e => (nomatch e)⟩) | (cases he; simp only [pickK]; exact ⟨fun e => (nomatch e), fun _ => hk⟩) | cases he
theorem nilN_K {x v : AV} {K : AV → Prop} (he : nilN h x = some v) (hk : K v) : nilK h x K := by
  unfold nilN at he
  split at he
  · split at he
    · rename_i hc; cases he; exact ⟨hc, hk⟩
    · cases he
  · cases he; exact hk
  · cases he; exact hk
  · cases he
theorem builtinN_K {b : Builtin} {tys : List TypeId} {args : List AV} {r : AV} {d : Dl} {K : AV → Dl → Prop} (he : builtinN P n mu h b tys args = .ok r d) (hk : K r d) : builtinK P n mu b h tys args K := by
  unfold builtinN at he
  split at he
  · obtain ⟨h1, rfl⟩ := lift1_ok he
    unfold builtinK
    simp only
    rename_i ty _ x _
    cases hl : lenT P h ty x with
    | none => rw [hl] at h1; cases h1
    | some m => rw [hl] at h1; cases h1; exact hk
  · obtain ⟨h1, rfl⟩ := lift1_ok he
    unfold builtinK optK; simp only [h1]; exact hk
  · obtain ⟨h1, rfl⟩ := lift1_ok he
    unfold builtinK optK; simp only [h1]; exact hk
  · unfold builtinK
    exact appendN_K (lift2_ok he) hk
  · cases he
theorem builtinN_call {b : Builtin} {tys : List TypeId} {args : List AV} {f : FuncId} {a : List AV} (he : builtinN P n mu h b tys args = .call f a) : False := by
  unfold builtinN at he
  split at he
  · exact lift1_call he
  · exact lift1_call he
  · exact lift1_call he
  · exact lift2_call he
  · cases he

/-- A step that is known. -/
theorem stepN_K {op : Op} {r : AV} {d : Dl} {K : AV → Dl → Prop} (he : stepN P n mu t h op = .ok r d) (hk : K r d) : stepK P n mu op t h K := by
  unfold stepN at he
  split at he
  · cases he; exact hk
  · cases he; exact hk
  · obtain ⟨h1, rfl⟩ := lift1_ok he; exact pickN_K (K := fun v => K v []) h1 hk
  · rename_i e
    simp only [stepK]
    cases hz : zeroC P e with
    | none => rw [hz] at he; cases he
    | some cs => rw [hz] at he; cases he; exact hk
  · simp only [boxN] at he
    split at he
    · rename_i hc; cases he; exact ⟨hc, hk⟩
    · cases he
  · obtain ⟨h1, rfl⟩ := lift1_ok he; exact loadN_K (K := fun v => K v []) h1 hk
  · obtain ⟨h1, rfl⟩ := liftD_ok he; exact storeN_K (K := fun d => K (.sc undef) d) h1 hk
  · obtain ⟨h1, rfl⟩ := lift1_ok he; exact nilN_K (K := fun v => K v []) h1 hk
  · obtain ⟨h1, rfl⟩ := lift1_ok he; exact idxAddrN_K (K := fun v => K v []) h1 hk
  · obtain ⟨h1, rfl⟩ := lift1_ok he; exact fieldAddrN_K (K := fun v => K v []) h1 hk
  · obtain ⟨h1, rfl⟩ := lift1_ok he; exact fieldN_K (K := fun v => K v []) h1 hk
  · obtain ⟨h1, rfl⟩ := lift1_ok he; exact indexN_K (K := fun v => K v []) h1 hk
  · obtain ⟨h1, rfl⟩ := lift1_ok he
    rw [evO_eq, evO_eq, evO_eq] at h1
    exact sliceN_K (K := fun v => K v []) h1 hk
  · obtain ⟨h1, rfl⟩ := lift1_ok he; simp only [stepK, h1, optK]; exact hk
  · obtain ⟨h1, rfl⟩ := lift1_ok he; simp only [stepK, h1, optK]; exact hk
  · obtain ⟨h1, rfl⟩ := lift1_ok he
    simp only [convN] at h1
    split at h1
    · rename_i hc; exact ⟨hc, by simp only [h1, optK]; exact hk⟩
    · cases h1
  · obtain ⟨h1, rfl⟩ := lift1_ok he
    rename_i x i
    simp only [stepK]
    unfold extractN at h1
    split at h1
    · rename_i vs heq
      simp only [heq, h1, optK]; exact hk
    · cases h1
  · cases he
    simp only [evL_eq] at hk
    exact hk
  · obtain ⟨h1, rfl⟩ := lift1_ok he
    rename_i ty ps
    rw [evP_eq] at h1
    simp only [stepK]
    cases hz : zeroC P ty with
    | none => rw [hz] at h1; cases h1
    | some cs =>
      rw [hz] at h1
      simp only [buildN] at h1
      split at h1
      · rename_i hc
        simp only
        cases hf : fillA (placeOf P ty) cs (ps.toList.map fun p => (p.1, ev t p.2)) with
        | none => rw [hf] at h1; cases h1
        | some cs' => rw [hf] at h1; cases h1; exact ⟨hc, hk⟩
      · cases h1
  · rw [evP_eq] at he
    exact buildSliceN_K (lift2_ok he) hk
  · rw [evL_eq] at he
    exact builtinN_K he hk
  · unfold callN at he
    split at he <;> cases he
  · cases he
theorem stepN_call {op : Op} {f : FuncId} {args : List AV} {K : AV → Dl → Prop} (he : stepN P n mu t h op = .call f args) (hk : callK P n f args h K) : stepK P n mu op t h K := by
  unfold stepN at he
  split at he <;> first | cases he | (exact (lift1_call he).elim) | (exact (lift2_call he).elim) | (exact (liftD_call he).elim) | (exact (builtinN_call he).elim) | skip
  · rename_i e
    cases hz : zeroC P e with
    | none => rw [hz] at he; cases he
    | some cs => rw [hz] at he; cases he
  · simp only [boxN] at he
    split at he <;> cases he
  · rename_i x as tys
    unfold callN at he
    split at he
    · rename_i g xs ys heq
      cases he
      simp only [stepK, heq]
      rw [evL_eq] at hk
      exact hk
    · cases he
end
end Go.Proofs.Aw
