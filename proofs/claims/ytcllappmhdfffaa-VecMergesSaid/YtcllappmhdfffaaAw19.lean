/- The abstract logic, part 19: a step as a function of what is known; so simp walks a region one operation after the other, with no continuation in sight. -/
import Derived.Test.YtcllappmhdfffaaAw18
namespace Go.Proofs.Aw
open Go

inductive Res where
  | no
  | ok (r : AV) (d : Dl)
  | call (f : FuncId) (args : List AV)
def lift1 : Option AV → Res
  | some v => .ok v []
  | none => .no
def lift2 : Option (AV × Dl) → Res
  | some (v, d) => .ok v d
  | none => .no
def liftD : Option Dl → Res
  | some d => .ok (.sc undef) d
  | none => .no

def rdN : Option Bool → Nat → List AV → Nat → Option AV
  | some true, z, cs, off => if 0 < z ∧ off + z ≤ cs.length then some (.agg ((cs.drop off).take z)) else none
  | some false, _, cs, off => cs[off]?
  | none, _, _, _ => none
def rdO (b : Option Bool) (z : Nat) (off : Nat) : Option (List AV) → Option AV
  | some cs => rdN b z cs off
  | none => none
def loadN (P : Program) (h : Hp) (ty : TypeId) : AV → Option AV
  | .ptr m off => rdO (aggT P ty) (P.cellsOf ty) off (hget h m)
  | .ip cs off => rdN (aggT P ty) (P.cellsOf ty) cs off
  | _ => none
def wrN (z : Nat) (m : Nm) (off : Nat) (ys : List AV) : Option (List AV) → Option Dl
  | some cs => if 0 < z ∧ ys.length = z ∧ off + z ≤ cs.length ∧ ys.all AV.one = true then some [(m, some (spliceL cs off ys))] else none
  | none => none
def storeN (P : Program) (h : Hp) (ty : TypeId) : AV → List AV → Option Dl
  | .ptr m off, ys => wrN (P.cellsOf ty) m off ys (hget h m)
  | _, _ => none
def iaP (m : Nm) (off : Nat) (j : Int) (live : Bool) : Option (Nat × Nat) → Option AV
  | some (len, z) => if live = true ∧ 0 ≤ j ∧ j < len then some (.ptr m (off + j.toNat * z)) else none
  | none => none
def iaI (cs : List AV) (off : Nat) (j : Int) : Option (Nat × Nat) → Option AV
  | some (len, z) => if 0 ≤ j ∧ j < len then some (.ip cs (off + j.toNat * z)) else none
  | none => none
def iaS (m : Nm) (z off len : Nat) (j : Int) (live : Bool) : Option (TypeId × Nat) → Option AV
  | some (_, z') => if z' = z ∧ live = true ∧ 0 ≤ j ∧ j < len then some (.ptr m (off + j.toNat * z)) else none
  | none => none
def iaE : Option (List AV) → Option AV
  | some el => some (.ip el 0)
  | none => none
def iaR (z : Nat) (es : List (List AV)) (j : Int) : Option (TypeId × Nat) → Option AV
  | some (_, z') => if z' = z ∧ 0 ≤ j then iaE es[j.toNat]? else none
  | none => none
def idxAddrN (P : Program) (h : Hp) (ty : TypeId) : AV → AV → Option AV
  | .ptr m off, .sc (.int _ j) => iaP m off j (hget h m).isSome (arrT P ty)
  | .ip cs off, .sc (.int _ j) => iaI cs off j (arrT P ty)
  | .sl m z off len _, .sc (.int _ j) => iaS m z off len j (hget h m).isSome (slT P ty)
  | .ro z es _, .sc (.int _ j) => iaR z es j (slT P ty)
  | _, _ => none
def faO (h : Hp) (x : AV) : Option (Nat × Nat) → Option AV
  | some (o, _) => match x with
    | .ptr m off => if (hget h m).isSome = true then some (.ptr m (off + o)) else none
    | .ip cs off => some (.ip cs (off + o))
    | _ => none
  | none => none
def fieldAddrN (P : Program) (h : Hp) (ty : TypeId) (f : Nat) (x : AV) : Option AV := match recT P ty with
  | some l => faO h x l[f]?
  | none => none
def fdO (cs : List AV) : Option (Nat × Nat) → Option (Option Bool) → Option AV
  | some (o, z), some b => rdN b z cs o
  | _, _ => none
def fieldN (P : Program) (ty : TypeId) (f : Nat) : AV → Option AV
  | .agg cs => match recT P ty, recA P ty with
    | some l, some bs => fdO cs l[f]? bs[f]?
    | _, _ => none
  | _ => none
def indexN (P : Program) (ty : TypeId) : AV → AV → Option AV
  | .agg cs, .sc (.int _ j) => match arrT P ty with
    | some (len, z) => if 0 ≤ j ∧ j < len then rdN (arrA P ty) z cs (j.toNat * z) else none
    | none => none
  | .sc (.string s), .sc (.int _ j) => if strT P ty = true ∧ 0 ≤ j then (s[j.toNat]?).map fun b => .sc (.int .u8 b.toNat) else none
  | _, _ => none
def bndN (d : Nat) : Option AV → Option Nat
  | none => some d
  | some (.sc (.int _ i)) => if 0 ≤ i then some i.toNat else none
  | _ => none
def slN (P : Program) (h : Hp) (ty : TypeId) (x : AV) (lo hi : Option Nat) : Option AV :=
  match lo, hi with
  | some l, some hh => match x with
    | .ro z es full => match slT P ty with
      | some (_, z') => if z' = z ∧ l ≤ hh ∧ hh ≤ es.length then some (.ro z ((es.take hh).drop l) (full && hh == es.length)) else none
      | none => none
    | .sl m z off len own => match slT P ty with
      | some (_, z') => if z' = z ∧ (hget h m).isSome = true ∧ l ≤ hh ∧ hh ≤ len then some (.sl m z (off + l * z) (hh - l) own) else none
      | none => none
    | .ptr m off => match arrT P ty with
      | some (len, z) => if (hget h m).isSome = true ∧ l ≤ hh ∧ hh ≤ len then some (.sl m z (off + l * z) (hh - l) false) else none
      | none => none
    | .sc (.string s) => if strT P ty = true ∧ l ≤ hh ∧ hh ≤ s.size then some (.sc (.string (s.extract l hh))) else none
    | _ => none
  | _, _ => none
def topN (P : Program) (ty : TypeId) : AV → Nat
  | .ro _ es _ => es.length
  | .sl _ _ _ len _ => len
  | .ptr _ _ => match arrT P ty with | some (len, _) => len | none => 0
  | .sc (.string s) => s.size
  | _ => 0
def slN3 (P : Program) (h : Hp) (ty : TypeId) (x : AV) : Option Nat → Option Nat → Option Nat → Option AV
  | some l, some hh, some m => match x with
    | .ro z es _ => match slT P ty with
      | some (_, z') => if z' = z ∧ l ≤ hh ∧ hh ≤ m ∧ m ≤ es.length then some (.ro z ((es.take hh).drop l) (m == hh)) else none
      | none => none
    | .sl n z _ len _ => match slT P ty with
      | some (_, z') => if z' = z ∧ (hget h n).isSome = true ∧ hh = l ∧ m = l ∧ l ≤ len then some (.ro z [] true) else none
      | none => none
    | _ => none
  | _, _, _ => none
def sliceN (P : Program) (h : Hp) (ty : TypeId) (x : AV) (lo hi mx : Option AV) : Option AV :=
  match mx with
  | none => slN P h ty x (bndN 0 lo) (bndN (topN P ty x) hi)
  | some m => slN3 P h ty x (bndN 0 lo) (match hi with | some v => bndN 0 (some v) | none => none) (bndN 0 (some m))
def buildSliceN (P : Program) (n : Nat) (mu : Bool) (ty : TypeId) (len : Nat) (ps : List (Nat × AV)) : Option (AV × Dl) :=
  match slT P ty with
  | some (e, z) => if zlenT P e = some z ∧ len * z ≤ 16777216 ∧ ps.length = len ∧ densP z 0 ps = true then
      (match mu with
      | false => some (.ro z (partCells ps) true, [])
      | true => some (.sl (n, 0) z 0 len true, [((n, 0), some (partCells ps).flatten)]))
    else none
  | none => none
def apO (n : Nat) (mu : Bool) (z : Nat) (by_ : Nat) (fs : List (List AV)) : Option (List (List AV)) → Option (AV × Dl)
  | some es => if (es.length + fs.length) * by_ ≤ 140737488355328 ∧ es.length + fs.length ≤ 9223372036854775807 ∧ (mu = true → fs ≠ []) then
      (match mu with
      | false => some (.ro z (es ++ fs) false, [])
      | true => some (.sl (n, 0) z 0 (es.length + fs.length) true, [((n, 0), some (es.flatten ++ fs.flatten))]))
    else none
  | none => none
def apS (n : Nat) (z : Nat) (by_ : Nat) (fs : List (List AV)) (m : Nm) (len : Nat) : Option (List AV) → Option (AV × Dl)
  | some cs => if cs.length = len * z ∧ fs.flatten.all AV.one = true ∧ (len + fs.length) * by_ ≤ 140737488355328 ∧ len + fs.length ≤ 9223372036854775807 then some (.sl (n, 0) z 0 (len + fs.length) true, [(m, none), ((n, 0), some (cs ++ fs.flatten))]) else none
  | none => none
def apN (P : Program) (n : Nat) (h : Hp) (mu : Bool) (e : TypeId) (z : Nat) (s : AV) : Option (List (List AV)) → Option (AV × Dl)
  | some fs => match s with
    | .sl m z' off len own => if z' = z ∧ off = 0 ∧ own = true then apS n z (bytesT P e) fs m len (hget h m) else none
    | s => apO n mu z (bytesT P e) fs (baseRo z s)
  | none => none
def appendN (P : Program) (n : Nat) (h : Hp) (mu : Bool) (ty xt : TypeId) (s x : AV) : Option (AV × Dl) :=
  match slT P ty with
  | some (e, z) => if slT P xt = some (e, z) ∧ zlenT P e = some z then apN P n h mu e z s (elemsA h z x) else none
  | none => none
def pickN : AV → AV → AV → Option AV
  | .sc (.bool true), a, _ => some a
  | .sc (.bool false), _, b => some b
  | _, _, _ => none
def nilN (h : Hp) : AV → Option AV
  | .ptr m off => if (hget h m).isSome = true then some (.ptr m off) else none
  | .ip cs off => some (.ip cs off)
  | .fn (.func f) xs ys => some (.fn (.func f) xs ys)
  | _ => none
def lenN : Option Int → Option AV
  | some m => some (.sc (.int .i64 m))
  | none => none
def builtinN (P : Program) (n : Nat) (mu : Bool) (h : Hp) : Builtin → List TypeId → List AV → Res
  | .len, ty :: _, x :: _ => lift1 (lenN (lenT P h ty x))
  | .max, _, x :: xs => lift1 (maxA x xs)
  | .min, _, x :: xs => lift1 (minA x xs)
  | .append, [ty, xt], [s, x] => lift2 (appendN P n h mu ty xt s x)
  | _, _, _ => .no
def boxN (n : Nat) (ys : List AV) : Res := if ys.all AV.one = true then .ok (.ptr (n, 0) 0) [((n, 0), some ys)] else .no
def allocN (n : Nat) : Option (List AV) → Res
  | some cs => .ok (.ptr (n, 0) 0) [((n, 0), some cs)]
  | none => .no
def extractN : AV → Nat → Option AV
  | .tup vs, i => vs[i]?
  | _, _ => none
def buildN (P : Program) (ty : TypeId) (ps : List (Nat × AV)) : Option (List AV) → Option AV
  | some cs => if ((arrT P ty).isSome || (recT P ty).isSome) = true then (fillA (placeOf P ty) cs ps).map .agg else none
  | none => none
def callN (args : List AV) : AV → Res
  | .fn (.func f) xs ys => .call f (xs ++ (args ++ ys))
  | _ => .no
def convN (P : Program) (src dst : TypeId) (x : AV) : Option AV := if (P.underlying src).isSome = true then convR P dst x else none
def evO (t : Tp) : Option Operand → Option AV
  | some x => some (ev t x)
  | none => none
def evL (t : Tp) : List Operand → List AV
  | [] => []
  | x :: xs => ev t x :: evL t xs
def evP (t : Tp) : List (Nat × Operand) → List (Nat × AV)
  | [] => []
  | (i, x) :: xs => (i, ev t x) :: evP t xs
theorem evO_eq (t : Tp) (x : Option Operand) : evO t x = x.map (ev t) := by cases x <;> rfl
theorem evL_eq (t : Tp) : ∀ l, evL t l = l.map (ev t)
  | [] => rfl
  | x :: xs => by simp only [evL, List.map_cons, evL_eq t xs]
theorem evP_eq (t : Tp) : ∀ l : List (Nat × Operand), evP t l = l.map fun p => (p.1, ev t p.2)
  | [] => rfl
  | (i, x) :: xs => by simp only [evP, List.map_cons, evP_eq t xs]

def stepN (P : Program) (n : Nat) (mu : Bool) (t : Tp) (h : Hp) : Op → Res
  | .move x => .ok (ev t x) []
  | .assign x => .ok (ev t x) []
  | .pick c a b => lift1 (pickN (ev t c) (ev t a) (ev t b))
  | .alloc e => allocN n (zeroC P e)
  | .box _ x => boxN n (ev t x).cells
  | .load ty x => lift1 (loadN P h ty (ev t x))
  | .store ty x y => liftD (storeN P h ty (ev t x) (ev t y).cells)
  | .nilCheck x => lift1 (nilN h (ev t x))
  | .indexAddr ty x i => lift1 (idxAddrN P h ty (ev t x) (ev t i))
  | .fieldAddr ty x f => lift1 (fieldAddrN P h ty f (ev t x))
  | .field ty x f => lift1 (fieldN P ty f (ev t x))
  | .index ty x i => lift1 (indexN P ty (ev t x) (ev t i))
  | .slice ty x lo hi mx => lift1 (sliceN P h ty (ev t x) (evO t lo) (evO t hi) (evO t mx))
  | .binOp op ty x y _ => lift1 (binRh P h op ty (ev t x) (ev t y))
  | .unOp op _ x => lift1 (unR op (ev t x))
  | .convert src dst x => lift1 (convN P src dst (ev t x))
  | .extract x i => lift1 (extractN (ev t x) i)
  | .makeFunc f xs ys => .ok (.fn f (evL t xs.toList) (evL t ys.toList)) []
  | .build ty ps => lift1 (buildN P ty (evP t ps.toList) (zeroC P ty))
  | .buildSlice ty len ps => lift2 (buildSliceN P n mu ty len (evP t ps.toList))
  | .call ⟨.builtin b, args, tys⟩ => builtinN P n mu h b tys.toList (evL t args.toList)
  | .call ⟨.value x, args, _⟩ => callN (evL t args.toList) (ev t x)
  | _ => .no
end Go.Proofs.Aw
