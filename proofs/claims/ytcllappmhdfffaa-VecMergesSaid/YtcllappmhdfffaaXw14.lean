/- Symbolic runs, part 14: arguments as letters; what a law's run says of its calls. -/
import Derived.Test.YtcllappmhdfffaaXw13
namespace Go.Proofs.Xw
open Go Go.Proofs.Aw Go.ChangeShapes Go.WideShapes

/-! ### The shapes of parameters -/
inductive Sh where
  | flat (ks : List Kd) (agg : Bool)
  | sl (ks : List Kd)
def shT (P : Program) (t : TypeId) : Option Sh :=
  match P.underlying t with
  | some .bool => some (.flat [.b] false)
  | some (.int k) => some (.flat [.i k] false)
  | some .string => some (.flat [.s] false)
  | some (.struct _) => (flatT P 8 t).map fun ks => .flat ks true
  | some (.array _ _) => (flatT P 8 t).map fun ks => .flat ks true
  | some (.slice e) => (flatT P 8 e).bind fun ks => if 0 < ks.length ∧ ks.length = P.cellsOf e then some (.sl ks) else none
  | _ => none

def canon : Nat → List Kd → List X
  | _, [] => []
  | p, .i k :: ks => .sc (.i k (.var p)) :: canon (p + 1) ks
  | p, .b :: ks => .sc (.b (.var p)) :: canon (p + 1) ks
  | p, .s :: ks => .sc (.s (.var p)) :: canon (p + 1) ks
def pats : Nat → Nat → List Sh → List X
  | _, _, [] => []
  | p, j, .flat ks true :: r => .agg (canon p ks) :: pats (p + ks.length) (j + 1) r
  | p, j, .flat ks false :: r => (canon p ks).headD .top :: pats (p + ks.length) (j + 1) r
  | p, j, .sl ks :: r => .rl ks.length (.len j) (.var j ks) false :: pats p (j + 1) r
def plain : List Sh → List Value → List Value
  | .flat _ _ :: r, v :: vs => v.cells.toList ++ plain r vs
  | .sl _ :: r, _ :: vs => plain r vs
  | _, _ => []
def intO : Option Value → Int
  | some (.int _ n) => n
  | _ => 0
def boolO : Option Value → Bool
  | some (.bool b) => b
  | _ => false
def strO : Option Value → ByteArray
  | some (.string s) => s
  | _ => ⟨#[]⟩
def rowCell (W : World) (vs : List Value) (zs : List Nat) (l k r : Nat) : Option Value :=
  match vs[l]?, zs[l]? with
  | some (.slice (some a) _ _), some z => W.cell? ((a.add (r * z)).add k)
  | _, _ => none
def lenO : Option Value → Nat
  | some (.slice _ n _) => n
  | _ => 0
def mkR (W : World) (cells vs : List Value) (zs : List Nat) : Rho where
  i p := intO cells[p]?
  b p := boolO cells[p]?
  s p := strO cells[p]?
  len j := lenO vs[j]?
  ci l k r := intO (rowCell W vs zs l k r)
  cb l k r := boolO (rowCell W vs zs l k r)
  cs l k r := strO (rowCell W vs zs l k r)
def shZ : Sh → Nat
  | .flat _ _ => 0
  | .sl ks => ks.length

/-- A value that is read fits its shape. -/
def Fits (W : World) : Sh → Value → Prop
  | .flat ks true, v => ∃ cs, v = .agg cs ∧ KS ks cs.toList
  | .flat ks false, v => ∃ k, ks = [k] ∧ kOk k v
  | .sl ks, v => 0 < ks.length ∧ ∃ A len cap, v = .slice A len cap ∧ len ≤ cap ∧ (0 < len → ∃ a, A = some a ∧ a.block < W.heap.size ∧ ∀ r, r < len → ∃ cs, KS ks cs ∧ ∀ k, k < ks.length → W.cell? ((a.add (r * ks.length)).add k) = cs[k]?)

theorem conc_canon {C : Ctx} {W : World} {cells vs : List Value} {zs : List Nat} : ∀ (ks : List Kd) (p : Nat) (cs : List Value), KS ks cs → (∀ i, i < ks.length → cells[p + i]? = cs[i]?) → ConcL C (X.denL (mkR W cells vs zs) (canon p ks)) cs
  | [], p, cs, h, _ => by simp only [KS] at h; subst h; simp only [canon, X.denL, ConcL]
  | k :: ks, p, cs, ⟨v, r, e, hv, hr⟩, hc => by
    subst e
    have h0 : cells[p]? = some v := by have := hc 0 (by simp); simpa using this
    have ih := conc_canon (C := C) (W := W) (vs := vs) (zs := zs) ks (p + 1) r hr (fun i hi => by
      have := hc (i + 1) (by simp; omega)
      rw [show p + 1 + i = p + (i + 1) from by omega, this]; rfl)
    cases k with
    | i kk =>
      obtain ⟨n, rfl, _⟩ := hv
      simp only [canon, X.denL, X.den, Sc.den, IE.den, ConcL]
      exact ⟨_, _, rfl, by simp only [Conc, mkR, h0, intO], ih⟩
    | b =>
      obtain ⟨n, rfl⟩ := hv
      simp only [canon, X.denL, X.den, Sc.den, BE.den, ConcL]
      exact ⟨_, _, rfl, by simp only [Conc, mkR, h0, boolO], ih⟩
    | s =>
      obtain ⟨n, rfl, _⟩ := hv
      simp only [canon, X.denL, X.den, Sc.den, TE.den, ConcL]
      exact ⟨_, _, rfl, by simp only [Conc, mkR, h0, strO], ih⟩
theorem cellsV_length (ρ : Rho) (l : Nat) : ∀ (ks : List Kd) (k j : Nat), (cellsV ρ l k ks j).length = ks.length
  | [], _, _ => rfl
  | .i _ :: ks, k, j => by simp only [cellsV, List.length_cons, cellsV_length ρ l ks (k + 1) j]
  | .b :: ks, k, j => by simp only [cellsV, List.length_cons, cellsV_length ρ l ks (k + 1) j]
  | .s :: ks, k, j => by simp only [cellsV, List.length_cons, cellsV_length ρ l ks (k + 1) j]
theorem conc_cellsV {C : Ctx} {W : World} {cells vs : List Value} {zs : List Nat} {l j : Nat} : ∀ (ks : List Kd) (k0 : Nat) (cs : List Value), KS ks cs → (∀ k, k < ks.length → rowCell W vs zs l (k0 + k) j = cs[k]?) →
    ∀ (k : Nat) (c : AV), (cellsV (mkR W cells vs zs) l k0 ks j)[k]? = some c → ∃ u, rowCell W vs zs l (k0 + k) j = some u ∧ Conc C c u
  | [], _, _, _, _, k, c, h => by simp [cellsV] at h
  | kd :: ks, k0, cs, ⟨v, r, e, hv, hr⟩, hc, k, c, h => by
    subst e
    have h0 : rowCell W vs zs l k0 j = some v := by have := hc 0 (by simp); simpa using this
    have ih := conc_cellsV (C := C) (cells := cells) ks (k0 + 1) r hr (fun k hk => by
      have := hc (k + 1) (by simp; omega)
      rw [show k0 + 1 + k = k0 + (k + 1) from by omega, this]; rfl)
    cases kd with
    | i kk =>
      obtain ⟨n, rfl, _⟩ := hv
      simp only [cellsV] at h
      cases k with
      | zero => simp at h; subst h; exact ⟨_, h0, by simp only [Conc, mkR, h0, intO]⟩
      | succ k =>
        obtain ⟨u, hu, hcu⟩ := ih k c (by simpa using h)
        exact ⟨u, by rw [← hu]; congr 1; omega, hcu⟩
    | b =>
      obtain ⟨n, rfl⟩ := hv
      simp only [cellsV] at h
      cases k with
      | zero => simp at h; subst h; exact ⟨_, h0, by simp only [Conc, mkR, h0, boolO]⟩
      | succ k =>
        obtain ⟨u, hu, hcu⟩ := ih k c (by simpa using h)
        exact ⟨u, by rw [← hu]; congr 1; omega, hcu⟩
    | s =>
      obtain ⟨n, rfl, _⟩ := hv
      simp only [cellsV] at h
      cases k with
      | zero => simp at h; subst h; exact ⟨_, h0, by simp only [Conc, mkR, h0, strO]⟩
      | succ k =>
        obtain ⟨u, hu, hcu⟩ := ih k c (by simpa using h)
        exact ⟨u, by rw [← hu]; congr 1; omega, hcu⟩
/-- All arguments, as letters. -/
theorem conc_pats {C : Ctx} {W : World} (hW : C.w = W) (hm : ∀ b, ¬ C.mt b) {cells vsA : List Value} {zs : List Nat} : ∀ (shs : List Sh) (vs : List Value) (pre preV : List Value), (∀ (i : Nat) (sh : Sh) (v : Value), shs[i]? = some sh → vs[i]? = some v → Fits W sh v) → shs.length = vs.length →
    cells = pre ++ plain shs vs → vsA = preV ++ vs → (∀ (i : Nat) (sh : Sh), shs[i]? = some sh → zs[preV.length + i]? = some (shZ sh)) → ConcL C (X.denL (mkR W cells vsA zs) (pats pre.length preV.length shs)) vs
  | [], vs, pre, preV, _, hl, _, _, _ => by
    have : vs = [] := List.length_eq_zero_iff.1 hl.symm
    subst this
    simp only [pats, X.denL, ConcL]
  | sh :: shs, [], _, _, _, hl, _, _, _ => by simp at hl
  | sh :: shs, v :: vs, pre, preV, hf, hl, hcells, hvs, hz => by
    have h0 := hf 0 sh v rfl rfl
    have hf' : ∀ (i : Nat) (sh' : Sh) (v' : Value), shs[i]? = some sh' → vs[i]? = some v' → Fits W sh' v' := fun i sh' v' h1 h2 => hf (i + 1) sh' v' (by simpa using h1) (by simpa using h2)
    have hl' : shs.length = vs.length := by simpa using hl
    have hz' : ∀ (i : Nat) (sh' : Sh), shs[i]? = some sh' → zs[(preV ++ [v]).length + i]? = some (shZ sh') := fun i sh' h1 => by
      have := hz (i + 1) sh' (by simpa using h1)
      rw [← this]; congr 1; simp; omega
    have hvs' : vsA = (preV ++ [v]) ++ vs := by rw [hvs]; simp
    have e2 : (preV ++ [v]).length = preV.length + 1 := by simp
    cases sh with
    | flat ks agg =>
      have rest : ∀ n, v.cells.toList.length = n → ConcL C (X.denL (mkR W cells vsA zs) (pats (pre.length + n) (preV.length + 1) shs)) vs := fun n hn => by
        have := conc_pats (cells := cells) (vsA := vsA) (zs := zs) hW hm shs vs (pre ++ v.cells.toList) (preV ++ [v]) hf' hl' (by rw [hcells]; simp [plain]) hvs' hz'
        rw [e2, List.length_append, hn] at this
        exact this
      have here : ∀ i, i < v.cells.toList.length → cells[pre.length + i]? = v.cells.toList[i]? := fun i hi => by
        rw [hcells, List.getElem?_append_right (by omega)]
        simp only [plain]
        rw [List.getElem?_append_left (by omega)]
        congr 1; omega
      cases agg with
      | true =>
        obtain ⟨cs, rfl, hk⟩ := h0
        have hlen := hk.length
        simp only [pats, X.denL, X.den, ConcL]
        refine ⟨_, _, rfl, ?_, rest ks.length (by simpa [Value.cells] using hlen)⟩
        simp only [Conc]
        exact ⟨cs, rfl, conc_canon ks pre.length cs.toList hk fun i hi => here i (by simpa [Value.cells] using (by omega : i < cs.toList.length))⟩
      | false =>
        obtain ⟨k, rfl, hk⟩ := h0
        have hv1 : v.cells.toList = [v] := by cases k with
          | i kk => obtain ⟨n, rfl, _⟩ := hk; rfl
          | b => obtain ⟨n, rfl⟩ := hk; rfl
          | s => obtain ⟨n, rfl, _⟩ := hk; rfl
        have hc := conc_canon (C := C) (W := W) (cells := cells) (vs := vsA) (zs := zs) [k] pre.length [v] ⟨v, [], rfl, hk, rfl⟩ fun i hi => by rw [here i (by rw [hv1]; simpa using hi), hv1]
        simp only [pats, X.denL, ConcL]
        refine ⟨_, _, rfl, ?_, rest 1 (by rw [hv1]; rfl)⟩
        cases k with
        | i kk => simp only [canon, X.denL, ConcL] at hc ⊢; obtain ⟨u, us, e, hcu, _⟩ := hc; simp only [List.cons.injEq] at e; rw [e.1]; exact hcu
        | b => simp only [canon, X.denL, ConcL] at hc ⊢; obtain ⟨u, us, e, hcu, _⟩ := hc; simp only [List.cons.injEq] at e; rw [e.1]; exact hcu
        | s => simp only [canon, X.denL, ConcL] at hc ⊢; obtain ⟨u, us, e, hcu, _⟩ := hc; simp only [List.cons.injEq] at e; rw [e.1]; exact hcu
    | sl ks =>
      obtain ⟨hpos, A, len, cap, rfl, hle, hrows⟩ := h0
      have hvj : vsA[preV.length]? = some (.slice A len cap) := by rw [hvs, List.getElem?_append_right (Nat.le_refl _)]; simp
      have hzj : zs[preV.length]? = some ks.length := by have := hz 0 (.sl ks) rfl; simpa [shZ] using this
      have rest := conc_pats (cells := cells) (vsA := vsA) (zs := zs) hW hm shs vs pre (preV ++ [Value.slice A len cap]) hf' hl' (by rw [hcells]; simp [plain]) hvs' hz'
      rw [e2] at rest
      simp only [pats, X.denL, X.den, ConcL]
      refine ⟨_, _, rfl, ?_, rest⟩
      have hlen : ((mkR W cells vsA zs).len preV.length) = len := by simp only [mkR, hvj, lenO]
      have hrl : (rowsD (mkR W cells vsA zs) (.len preV.length) (.var preV.length ks)).length = len := by simp [rowsD, IE.den, hlen]
      refine conc_ro.2 ⟨A, cap, by rw [hrl], by rw [hrl]; exact hle, fun h => (nomatch h), fun hne => ?_⟩
      have hl0 : 0 < len := by
        rcases Nat.eq_zero_or_pos len with h | h
        · exfalso; apply hne; apply List.length_eq_zero_iff.1; rw [hrl, h]
        · exact h
      obtain ⟨a, rfl, hb, hr⟩ := hrows hl0
      refine ⟨a, rfl, by rw [hW]; exact hb, hm _, ConcE.mk fun j e hj => ?_⟩
      have hjl : j < len := by rw [← hrl]; exact (List.getElem?_eq_some_iff.1 hj).1
      rw [rowsD_get (by simp only [IE.den, hlen]; omega)] at hj
      simp only [Option.some.injEq, RL.row, Int.toNat_natCast] at hj
      subst hj
      obtain ⟨cs, hk, hc⟩ := hr j hjl
      have hrc : ∀ k, rowCell W vsA zs preV.length k j = W.cell? ((a.add (j * ks.length)).add k) := fun k => by simp only [rowCell, hvj, hzj]
      refine ⟨cellsV_length _ _ _ _ _, ConcM.mk fun k c hkc => ?_⟩
      obtain ⟨u, hu, hcu⟩ := conc_cellsV (C := C) (W := W) (cells := cells) (vs := vsA) (zs := zs) (l := preV.length) (j := j) ks 0 cs hk (fun k hk' => by rw [Nat.zero_add, hrc]; exact hc k hk') k c hkc
      rw [Nat.zero_add, hrc] at hu
      exact ⟨u, by rw [hW, Nat.zero_add, Nat.zero_add]; exact hu, hcu⟩
end Go.Proofs.Xw
