/- The abstract logic, part 6: arithmetic; built-in functions; literals; append. -/
import Derived.Test.YtcllappmhdfffaaAw5
namespace Go.Proofs.Aw
open Go

/-! ### Arithmetic -/
def intBin (op : BinOp) (k : IntKind) (a : Int) (k' : IntKind) (b : Int) : Option Value :=
  match op with
  | .shl => if 0 ≤ b then some (.int k (k.wrap (a * 2 ^ (min b.toNat k.bits)))) else none
  | .shr => if 0 ≤ b then some (.int k (a.fdiv (2 ^ (min b.toNat k.bits)))) else none
  | .add => if k = k' then some (.int k (k.wrap (a + b))) else none
  | .sub => if k = k' then some (.int k (k.wrap (a - b))) else none
  | .mul => if k = k' then some (.int k (k.wrap (a * b))) else none
  | .quo => if k = k' ∧ b ≠ 0 then some (.int k (k.wrap (a.tdiv b))) else none
  | .rem => if k = k' ∧ b ≠ 0 then some (.int k (a.tmod b)) else none
  | .and => if k = k' then some (.int k (bits .and k a b)) else none
  | .or => if k = k' then some (.int k (bits .or k a b)) else none
  | .xor => if k = k' then some (.int k (bits .xor k a b)) else none
  | .andNot => if k = k' then some (.int k (bits .andNot k a b)) else none
  | .lss => if k = k' then some (.bool (decide (a < b))) else none
  | .leq => if k = k' then some (.bool (decide (a ≤ b))) else none
  | .gtr => if k = k' then some (.bool (decide (b < a))) else none
  | .geq => if k = k' then some (.bool (decide (b ≤ a))) else none
  | .eql => if k = k' then some (.bool (a == b)) else none
  | .neq => if k = k' then some (.bool (!(a == b))) else none
def strBin (op : BinOp) (a b : ByteArray) : Option Value :=
  match op with
  | .eql => some (.bool (a.toList == b.toList))
  | .neq => some (.bool (!(a.toList == b.toList)))
  | .lss => some (.bool (Op.bytesLess a.toList b.toList))
  | .leq => some (.bool (Op.bytesLess a.toList b.toList || a.toList == b.toList))
  | .gtr => some (.bool (!(Op.bytesLess a.toList b.toList || a.toList == b.toList)))
  | .geq => some (.bool (!Op.bytesLess a.toList b.toList))
  | _ => none
theorem run_intBin {P : Program} {op : BinOp} {k k' : IntKind} {a b : Int} {v : Value} (h : intBin op k a k' b = some v) (ty : TypeId) (w : World) : (binOp op ty (.int k a) (.int k' b)).run P w = .ok v w := by
  cases op <;> simp only [intBin] at h <;> split at h <;> first | cases h | skip
  case shl.isTrue hb => simp [binOp, Op.shift, Int.not_lt.2 hb]
  case shr.isTrue hb => simp [binOp, Op.shift, Int.not_lt.2 hb]
  case quo.isTrue hb => simp [binOp, hb.1, Op.intDiv, hb.2]
  case rem.isTrue hb => simp [binOp, hb.1, Op.intDiv, hb.2]
  all_goals (rename_i hk; subst hk)
  all_goals first
    | (simp [binOp, Op.intArith]; done)
    | (simp [binOp, Op.intCmp]; done)
    | (simp [binOp, Op.intCmp, bne]; done)
    | (simp [binOp, intBits_and, intBits_or, intBits_xor, intBits_andNot]; done)
theorem run_strBin {P : Program} {op : BinOp} {a b : ByteArray} {v : Value} (h : strBin op a b = some v) (ty : TypeId) (w : World) : (binOp op ty (.string a) (.string b)).run P w = .ok v w := by
  cases op <;> simp only [strBin, Option.some.injEq, reduceCtorEq] at h <;> subst h <;> simp [binOp, Op.stringOp]

theorem run_eqGuard_int {P : Program} (op : BinOp) (ty : TypeId) (x y : Operand) (u v : Value) (h1 : ∀ c, u ≠ .agg c) (h2 : u ≠ .nilIface) (w : World) : (eqGuard op ty x y u v).run P w = .ok () w := by
  cases u <;> first
    | exact absurd rfl (h1 _)
    | exact absurd rfl h2
    | (cases op <;> rfl)

def leavesG (P : Program) (ty : TypeId) : Option (List Nat) := if P.eqGuardType P.depth ty = false ∧ aggT P ty = some true then leaves P 8 ty else none
def boolT (P : Program) (ty : TypeId) : Bool := match P.underlying ty with | some .bool => true | _ => false

/-- What a binary operation makes. -/
def binR (P : Program) (op : BinOp) (ty : TypeId) (x y : AV) : Option AV :=
  match x, y with
  | .sc (.int k a), .sc (.int k' b) => (intBin op k a k' b).map .sc
  | .sc (.string a), .sc (.string b) => (strBin op a b).map .sc
  | .sc (.bool a), .sc (.bool b) => match boolT P ty, op with
    | true, .eql => some (.sc (.bool (a == b)))
    | true, .neq => some (.sc (.bool (!(a == b))))
    | _, _ => none
  | .agg xs, .agg ys => match op with
    | .eql => (leavesG P ty).bind fun l => (eqL l xs ys).map fun b => .sc (.bool b)
    | .neq => (leavesG P ty).bind fun l => (eqL l xs ys).map fun b => .sc (.bool (!b))
    | _ => none
  | _, _ => none

theorem run_eqAgg {P : Program} {C : Ctx} {ty : TypeId} {xs ys : List AV} {us vs : Array Value} {l : List Nat} {b : Bool} (hl : leavesG P ty = some l) (he : eqL l xs ys = some b) (hx : ConcL C xs us.toList) (hy : ConcL C ys vs.toList) (x y : Operand) (op : BinOp) :
    (eqGuard op ty x y (.agg us) (.agg vs)).run P C.w = .ok () C.w ∧ (Op.equalIn 10000 ty (.agg us) (.agg vs)).run P C.w = .ok b C.w := by
  unfold leavesG at hl
  split at hl
  · rename_i hg
    refine ⟨run_eqGuard_agg C.w op ty x y us vs hg.1, ?_⟩
    exact eqOk 8 10000 ty l (by omega) hl xs ys b true _ _ hg.2 he (by simp only [mkv, if_true, Conc]; exact ⟨us, rfl, hx⟩) (by simp only [mkv, if_true, Conc]; exact ⟨vs, rfl, hy⟩)
  · cases hl

section
variable {P : Program} {n : Nat} {t : Tp} {h : Hp}
theorem Y_binOp {op : BinOp} {ty ty' : TypeId} {x y : Operand} {v : AV} (hv : binR P op ty (ev t x) (ev t y) = some v) : Yields P n (.binOp op ty x y ty') t h v [] :=
  Yields.pure fun C a o ho hh ht => by
    have h1 := ev_conc ht x
    have h2 := ev_conc ht y
    revert h1 h2 hv
    generalize ev t x = X
    generalize ev t y = Y
    intro hv h1 h2
    have key : ∀ (u : Value), (eqGuard op ty x y (a.eval x) (a.eval y)).run P C.w = .ok () C.w → (binOp op ty (a.eval x) (a.eval y)).run P C.w = .ok u C.w → (execOp a.eval o).run P C.w = .ok (.value u) C.w := by
      intro u e1 e2
      unfold execOp
      rw [ho]
      simp only [Sem.run_bind, e1, e2, Result.andThen_ok]
      rfl
    unfold binR at hv
    split at hv
    · simp only [Conc] at h1 h2
      obtain ⟨u, hu, rfl⟩ := Option.map_eq_some_iff.1 hv
      refine ⟨u, key u ?_ ?_, by simp only [Conc]⟩
      · rw [h1]; exact run_eqGuard_int _ _ _ _ _ _ (by simp) (by simp) _
      · rw [h1, h2]; exact run_intBin hu _ _
    · simp only [Conc] at h1 h2
      obtain ⟨u, hu, rfl⟩ := Option.map_eq_some_iff.1 hv
      refine ⟨u, key u ?_ ?_, by simp only [Conc]⟩
      · rw [h1]; exact run_eqGuard_int _ _ _ _ _ _ (by simp) (by simp) _
      · rw [h1, h2]; exact run_strBin hu _ _
    · simp only [Conc] at h1 h2
      have hg : (eqGuard op ty x y (a.eval x) (a.eval y)).run P C.w = .ok () C.w := by rw [h1]; exact run_eqGuard_int _ _ _ _ _ _ (by simp) (by simp) _
      split at hv
      · rename_i hb
        cases hv
        have hu : P.underlying ty = some .bool := by
          unfold boolT at hb
          split at hb
          · assumption
          · cases hb
        exact ⟨_, key _ hg (by rw [h1, h2]; exact run_eql_bool _ _ _ _ hu), by simp only [Conc]⟩
      · rename_i hb
        cases hv
        have hu : P.underlying ty = some .bool := by
          unfold boolT at hb
          split at hb
          · assumption
          · cases hb
        exact ⟨_, key _ hg (by rw [h1, h2]; exact run_neq_bool _ _ _ _ hu), by simp only [Conc]⟩
      · cases hv
    · simp only [Conc] at h1 h2
      obtain ⟨us, e1, hx⟩ := h1
      obtain ⟨vs, e2, hy⟩ := h2
      split at hv
      · obtain ⟨l, hl, hv⟩ := Option.bind_eq_some_iff.1 hv
        obtain ⟨b, hb, rfl⟩ := Option.map_eq_some_iff.1 hv
        obtain ⟨g1, g2⟩ := run_eqAgg hl hb hx hy x y .eql
        exact ⟨.bool b, key _ (by rw [e1, e2]; exact g1) (by rw [e1, e2, run_eql_struct, g2]; rfl), by simp only [Conc]⟩
      · obtain ⟨l, hl, hv⟩ := Option.bind_eq_some_iff.1 hv
        obtain ⟨b, hb, rfl⟩ := Option.map_eq_some_iff.1 hv
        obtain ⟨g1, g2⟩ := run_eqAgg hl hb hx hy x y .neq
        exact ⟨.bool (!b), key _ (by rw [e1, e2]; exact g1) (by rw [e1, e2, run_neq_struct, g2]; rfl), by simp only [Conc]⟩
      · cases hv
    · cases hv

def unR (op : UnOp) (x : AV) : Option AV :=
  match op, x with
  | .not, .sc (.bool b) => some (.sc (.bool (!b)))
  | .neg, .sc (.int k a) => some (.sc (.int k (k.wrap (0 - a))))
  | _, _ => none
theorem Y_unOp {op : UnOp} {ty : TypeId} {x : Operand} {v : AV} (hv : unR op (ev t x) = some v) : Yields P n (.unOp op ty x) t h v [] :=
  Yields.pure fun C a o ho hh ht => by
    have h1 := ev_conc ht x
    revert h1 hv
    generalize ev t x = X
    intro hv h1
    unfold unR at hv
    split at hv
    · cases hv
      simp only [Conc] at h1
      refine ⟨_, ?_, by simp only [Conc]; rfl⟩
      unfold execOp
      rw [ho]
      simp only [h1]
      rfl
    · cases hv
      simp only [Conc] at h1
      refine ⟨_, ?_, by simp only [Conc]; rfl⟩
      unfold execOp
      rw [ho]
      simp only [h1]
      rfl
    · cases hv

/-- Conversions between integers, and of a text to a text. -/
def convR (P : Program) (dst : TypeId) (x : AV) : Option AV :=
  match P.underlying dst, x with
  | some (.int k), .sc (.int _ i) => some (.sc (.int k (k.wrap i)))
  | _, _ => none
theorem Y_convert {src dst : TypeId} {x : Operand} {v : AV} (hs : (P.underlying src).isSome = true) (hv : convR P dst (ev t x) = some v) : Yields P n (.convert src dst x) t h v [] :=
  Yields.pure fun C a o ho hh ht => by
    have h1 := ev_conc ht x
    revert h1 hv
    generalize ev t x = X
    intro hv h1
    unfold convR at hv
    split at hv
    · rename_i k k' i hd
      cases hv
      simp only [Conc] at h1
      obtain ⟨ds, hds⟩ := Option.isSome_iff_exists.1 hs
      refine ⟨.int k (k.wrap i), ?_, by simp only [Conc]⟩
      unfold execOp
      rw [ho]
      simp only [h1, convert, Sem.run_bind, run_underlying hds, run_underlying hd, Result.andThen_ok]
      cases ds <;> rfl
    · cases hv

/-! ### Built-in functions -/
theorem run_builtin {b : Builtin} {c : Call} (hb : c.callee = .builtin b) (ρ : Operand → Value) (w : World) (o : Oper) (ho : o.op = .call c) :
    (execOp ρ o).run P w = (builtin b c.argTypes o.type (c.args.map fun | .const _ => true | _ => false) (c.args.map ρ)).run P w := by
  obtain ⟨cal, args, tys⟩ := c
  simp only at hb
  subst hb
  unfold execOp
  rw [ho]
  rfl
end
end Go.Proofs.Aw
