/- The abstract logic, part 12: every step is sound. -/
import Derived.Test.YtcllappmhdfffaaAw11
namespace Go.Proofs.Aw
open Go

section
variable {P : Program} {n : Nat} {t : Tp} {h : Hp} {mu : Bool} {K : AV → Dl → Prop}

theorem strT_some {ty : TypeId} (hs : strT P ty = true) : P.underlying ty = some .string := by
  unfold strT at hs
  split at hs
  · assumption
  · cases hs
theorem Y_index_str {ty : TypeId} {x i : Operand} {k : IntKind} {j : Int} {s : ByteArray} {b : UInt8} (hu : P.underlying ty = some .string) (hx : ev t x = .sc (.string s)) (hi : ev t i = .sc (.int k j)) (h0 : 0 ≤ j) (hb : s[j.toNat]? = some b) :
    Yields P n (.index ty x i) t h (.sc (.int .u8 b.toNat)) [] :=
  Yields.pure fun C a op ho hh ht => by
    have hp := ev_conc ht x
    have hq := ev_conc ht i
    rw [hx] at hp
    rw [hi] at hq
    simp only [Conc] at hp hq
    refine ⟨.int .u8 b.toNat, ?_, by simp only [Conc]⟩
    unfold execOp
    rw [ho]
    simp only [hp, hq, Instr.index, Sem.run_bind, run_asIntOf, run_underlying hu, Result.andThen_ok, h0, if_true, hb, Sem.run_pure]
theorem S_index {ty : TypeId} {x i : Operand} (hk : indexK P ty (ev t x) (ev t i) fun v => K v []) : Sound P n (.index ty x i) t h K := by
  unfold indexK at hk
  split at hk
  · rename_i k j hi
    split at hk
    · rename_i cs hx
      split at hk
      · rename_i len z ha
        obtain ⟨e, hu, he, h0⟩ := arrT_cells ha
        obtain ⟨hj0, hj1, hr⟩ := hk
        obtain ⟨ag, v, hb, hrd, hv⟩ := rdK_rd hr
        have hag : aggT P e = some ag := by
          unfold arrA at hb
          rw [hu] at hb
          exact hb
        exact ⟨v, [], Y_index_arr hu h0 hx hi hj0 hj1 hag (by rw [he]; exact hrd), hv⟩
      · exact hk.elim
    · rename_i s hx
      obtain ⟨hs, hj0, hk⟩ := hk
      split at hk
      · rename_i b hb
        exact ⟨_, _, Y_index_str (strT_some hs) hx hi hj0 hb, hk⟩
      · exact hk.elim
    · exact hk.elim
  · exact hk.elim
theorem S_slice {ty : TypeId} {x : Operand} {lo hi mx : Option Operand} (hk : sliceK P h ty (ev t x) (lo.map (ev t)) (hi.map (ev t)) (mx.map (ev t)) fun v => K v []) : Sound P n (.slice ty x lo hi mx) t h K := by
  unfold sliceK at hk
  split at hk
  · rename_i z es full hx
    split at hk
    · rename_i e z' hs
      obtain ⟨hu, he, h0⟩ := slT_some hs
      obtain ⟨rfl, hk⟩ := hk
      cases mx with
      | none =>
        simp only [Option.map_none] at hk
        obtain ⟨l, hl, hk⟩ := bndK_bnd hk
        obtain ⟨hh, hhh, h1, h2, hk⟩ := bndK_bnd hk
        exact ⟨_, _, Y_slice_ro hu he h0 hx hl hhh h1 h2, hk⟩
      | some m =>
        simp only [Option.map_some] at hk
        obtain ⟨l, hl, hk⟩ := bndK_bnd hk
        cases hi with
        | none => exact hk.elim
        | some hi =>
          simp only [Option.map_some] at hk
          obtain ⟨hh, hhh, hk⟩ := bndK_bnd hk
          obtain ⟨mm, hmm, h1, h2, h3, hk⟩ := bndK_bnd hk
          exact ⟨_, _, Y_slice_ro3 hu he h0 hx hl hhh hmm h1 h2 h3, hk⟩
    · exact hk.elim
  · rename_i m z off len own hx
    split at hk
    · rename_i e z' hs
      obtain ⟨hu, he, h0⟩ := slT_some hs
      obtain ⟨rfl, hm, hk⟩ := hk
      cases mx with
      | some mx =>
        simp only [Option.map_some] at hk
        obtain ⟨l, hl, hk⟩ := bndK_bnd hk
        cases hi with
        | none => exact hk.elim
        | some hi =>
          simp only [Option.map_some] at hk
          obtain ⟨hh, hhh, hk⟩ := bndK_bnd hk
          obtain ⟨mm, hmm, h1, h2, h3, hk'⟩ := bndK_bnd hk
          rw [h1] at hhh
          rw [h2] at hmm
          exact ⟨_, _, Y_slice_e3 hu he h0 hx hm hl hhh hmm h3, hk'⟩
      | none =>
        simp only [Option.map_none] at hk
        obtain ⟨l, hl, hk⟩ := bndK_bnd hk
        obtain ⟨hh, hhh, h1, h2, hk⟩ := bndK_bnd hk
        exact ⟨_, _, Y_slice_sl hu he h0 hx hm hl hhh h1 h2, hk⟩
    · exact hk.elim
  · rename_i m off hx
    split at hk
    · rename_i len z ha
      obtain ⟨e, hu, he, h0⟩ := arrT_some ha
      obtain ⟨hm, hmx, hk⟩ := hk
      cases mx with
      | some m => cases hmx
      | none =>
        obtain ⟨l, hl, hk⟩ := bndK_bnd hk
        obtain ⟨hh, hhh, h1, h2, hk⟩ := bndK_bnd hk
        exact ⟨_, _, Y_slice_arr hu he h0 hx hm hl hhh h1 h2, hk⟩
    · exact hk.elim
  · rename_i s hx
    obtain ⟨hs, hmx, hk⟩ := hk
    cases mx with
    | some m => cases hmx
    | none =>
      obtain ⟨l, hl, hk⟩ := bndK_bnd hk
      obtain ⟨hh, hhh, h1, h2, hk⟩ := bndK_bnd hk
      exact ⟨_, _, Y_slice_str (strT_some hs) hx hl hhh h1 h2, hk⟩
  · exact hk.elim
theorem S_buildSlice {ty : TypeId} {len : Nat} {ps : Array (Nat × Operand)} (hk : buildSliceK P n mu ty len (ps.toList.map fun p => (p.1, ev t p.2)) K) : Sound P n (.buildSlice ty len ps) t h K := by
  unfold buildSliceK at hk
  split at hk
  · rename_i e z hs
    obtain ⟨hz, hsm, hl, hd, hk⟩ := hk
    obtain ⟨zc, hzc, hzl⟩ := Option.map_eq_some_iff.1 hz
    have hl' : ps.size = len := by simpa using hl
    cases mu with
    | false => exact ⟨_, _, Y_slit_ro hs hzc hzl (by omega) hl' hd, hk⟩
    | true => exact ⟨_, _, Y_slit_sl hs hzc hzl (by omega) hl' hd, hk⟩
  · exact hk.elim
theorem S_append {c : Call} {ty xt : TypeId} {s x : Operand} (hb : c.callee = .builtin .append) (hty : c.argTypes = #[ty, xt]) (ha : c.args = #[s, x]) (hk : appendK P n h mu ty xt (ev t s) (ev t x) K) : Sound P n (.call c) t h K := by
  unfold appendK at hk
  split at hk
  · rename_i e z hs
    obtain ⟨hx, hz, hk⟩ := hk
    split at hk
    · rename_i fs hf
      split at hk
      · rename_i m z' off len own hsv
        obtain ⟨rfl, rfl, rfl, hk⟩ := hk
        split at hk
        · rename_i cs hg
          obtain ⟨hcl, h1, hbd, hmx, hk⟩ := hk
          exact ⟨_, _, Y_append_own hb hty ha hsv hg hcl hf h1 ⟨hs, hx, hz, hbd, hmx⟩, hk⟩
        · exact hk.elim
      · split at hk
        · rename_i es he
          obtain ⟨hbd, hmx, hk⟩ := hk
          cases mu with
          | false => exact ⟨_, _, Y_append_ro hb hty ha he hf ⟨hs, hx, hz, hbd, hmx⟩, hk⟩
          | true => exact ⟨_, _, Y_append_new hb hty ha he hf ⟨hs, hx, hz, hbd, hmx⟩ hk.1, hk.2⟩
        · exact hk.elim
    · exact hk.elim
  · exact hk.elim
theorem S_optK {x : Option AV} {op : Op} (hy : ∀ v, x = some v → Yields P n op t h v []) (hk : optK x fun v => K v []) : Sound P n op t h K := by
  unfold optK at hk
  split at hk
  · rename_i v
    exact ⟨v, [], hy v rfl, hk⟩
  · exact hk.elim
theorem list2 {α : Type} {l : Array α} {a b : α} (h : l.toList = [a, b]) : l = #[a, b] := by apply Array.ext'; rw [h]
theorem S_builtin {c : Call} {b : Builtin} (hb : c.callee = .builtin b) (hk : builtinK P n mu b h c.argTypes.toList (c.args.toList.map (ev t)) K) : Sound P n (.call c) t h K := by
  unfold builtinK at hk
  split at hk
  · rename_i ty tys X Xs h1 h2
    split at hk
    · rename_i m hm
      cases ha : c.args.toList with
      | nil => rw [ha] at h2; cases h2
      | cons x xs =>
        rw [ha] at h2
        simp only [List.map_cons, List.cons.injEq] at h2
        have e1 : c.argTypes[0]? = some ty := by rw [← Array.getElem?_toList, h1]; rfl
        have e2 : c.args[0]? = some x := by rw [← Array.getElem?_toList, ha]; rfl
        exact ⟨_, _, Y_len hb e1 e2 (by rw [h2.1]; exact hm), hk⟩
    · exact hk.elim
  · rename_i X Xs h2
    exact S_optK (fun v hv => Y_max hb h2 hv) hk
  · rename_i X Xs h2
    exact S_optK (fun v hv => Y_min hb h2 hv) hk
  · rename_i ty xt S X h1 h2
    match ha : c.args.toList with
    | [] => rw [ha] at h2; cases h2
    | [s] => rw [ha] at h2; cases h2
    | [s, x] =>
      rw [ha] at h2
      simp only [List.map_cons, List.map_nil, List.cons.injEq, and_true] at h2
      obtain ⟨rfl, rfl⟩ := h2
      exact S_append hb (list2 h1) (list2 ha) hk
    | _ :: _ :: _ :: _ => rw [ha] at h2; cases h2
  · exact hk.elim

theorem stepK_sound : ∀ {op : Op}, stepK P n mu op t h K → Sound P n op t h K := by
  intro op hk
  cases op <;> simp only [stepK] at hk
  case move x => exact ⟨_, _, Y_move x, hk⟩
  case assign x => exact ⟨_, _, Y_assign x, hk⟩
  case pick c a b =>
    unfold pickK at hk
    split at hk
    · rename_i p hc
      refine ⟨_, _, Y_pick hc, ?_⟩
      cases p with
      | true => exact hk.1 rfl
      | false => exact hk.2 rfl
    · exact hk.elim
  case alloc e =>
    split at hk
    · rename_i cs hz
      exact ⟨_, _, Y_alloc hz, hk⟩
    · exact hk.elim
  case box e x => exact ⟨_, _, Y_box hk.1, hk.2⟩
  case load ty x => exact S_load hk
  case store ty x y => exact S_store hk
  case nilCheck x =>
    unfold nilK at hk
    split at hk
    · rename_i m off hx
      exact ⟨_, _, Y_nilCheck_ptr hx hk.1, hk.2⟩
    · rename_i cs off hx
      exact ⟨_, _, Y_nilCheck_ip hx, hk⟩
    · rename_i f xs ys hx
      exact ⟨_, _, Y_nilCheck_fn hx, hk⟩
    · exact hk.elim
  case indexAddr ty x i => exact S_indexAddr hk
  case fieldAddr ty x f => exact S_fieldAddr hk
  case field ty x f => exact S_field hk
  case index ty x i => exact S_index hk
  case slice ty x lo hi mx => exact S_slice hk
  case binOp op ty x y ty' => exact S_optK (fun v hv => Y_binOpH hv) hk
  case unOp op ty x => exact S_optK (fun v hv => Y_unOp hv) hk
  case convert src dst x => exact S_optK (fun v hv => Y_convert hk.1 hv) hk.2
  case extract x i =>
    split at hk
    · rename_i vs hx
      exact S_optK (fun v hv => Y_extract hx hv) hk
    · exact hk.elim
  case makeFunc f xs ys => exact ⟨_, _, Y_makeFunc, hk⟩
  case build ty ps =>
    split at hk
    · rename_i cs hz
      split at hk
      · rename_i cs' hf
        exact ⟨_, _, Y_build hz hf hk.1, hk.2⟩
      · exact hk.elim
    · exact hk.elim
  case buildSlice ty len ps => exact S_buildSlice hk
  case call c =>
    split at hk
    · rename_i b hb
      exact S_builtin hb hk
    · rename_i x hx
      split at hk
      · rename_i f xs ys hf
        obtain ⟨r, d, hb, hcy, hk⟩ := hk
        exact ⟨r, d, Y_call hx hf hb hcy, hk⟩
      · exact hk.elim
    · exact hk.elim
end
end Go.Proofs.Aw
