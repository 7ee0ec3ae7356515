/- Symbolic runs, part 7: one step. -/
import Derived.Test.YtcllappmhdfffaaXw18
namespace Go.Proofs.Xw
open Go Go.Proofs.Aw

/-! ### One step -/
def evX (g : Nat → X) : Operand → X
  | .tmp i => g i
  | .const v => ofV v
  | .global a => .k (.pointer (some ⟨a, 0, none⟩))
  | .func f => .fn (.func f) [] []
def evLX (g : Nat → X) : List Operand → List X
  | [] => []
  | x :: xs => evX g x :: evLX g xs
def evPX (g : Nat → X) : List (Nat × Operand) → List (Nat × X)
  | [] => []
  | (i, x) :: xs => (i, evX g x) :: evPX g xs
section
variable {ρ : Rho} {g : Nat → X} {t : Tp} (hg : ∀ i, (g i).den ρ = tget t i)
include hg
theorem evX_den (x : Operand) : (evX g x).den ρ = ev t x := by
  cases x with
  | tmp i => exact hg i
  | const v => exact ofV_den ρ v
  | global a => rfl
  | func f => simp only [evX, X.den, X.denL, ev]
theorem evLX_den : ∀ l : List Operand, X.denL ρ (evLX g l) = evL t l
  | [] => rfl
  | x :: xs => by simp only [evLX, X.denL, evL, evX_den hg x, evLX_den xs]
theorem evPX_den : ∀ l : List (Nat × Operand), denP ρ (evPX g l) = evP t l
  | [] => rfl
  | (i, x) :: xs => by
    have := evPX_den xs
    simp only [denP] at this
    simp only [evPX, denP, List.map_cons, evP, evX_den hg x, this]
end
inductive XR where
  | ok (r : X) (d : XDl)
  | call (f : FuncId) (args : List X)
/-- A value that is there under a condition, where that is decided. -/
def strip (Φ : Facts) : X → X
  | .gd c x => match red Φ c with
    | .lit true => x
    | .lit false => .k undef
    | _ => .gd c x
  | x => x
theorem strip_den {ρ : Rho} {Φ : Facts} (hk : Facts.ok ρ Φ) (x : X) : (strip Φ x).den ρ = x.den ρ := by
  unfold strip
  split
  · rename_i c x
    have hr := red_den hk c
    split
    · rename_i hd; rw [hd] at hr; simp only [X.den, ← hr, BE.den, if_true]
    · rename_i hd; rw [hd] at hr; simp only [X.den, ← hr, BE.den]; rfl
    · rfl
  · rfl
def pickX (Φ : Facts) : X → X → X → Option X
  | .sc (.b e), a, b => match red Φ e with
    | .lit true => some a
    | .lit false => some b
    | d => X.mix d (strip (assume d true Φ) a) (strip (assume d false Φ) b)
  | _, _, _ => none
theorem pickX_den {ρ : Rho} {Φ : Facts} (hk : Facts.ok ρ Φ) {c a b v : X} (h : pickX Φ c a b = some v) : pickN (c.den ρ) (a.den ρ) (b.den ρ) = some (v.den ρ) := by
  unfold pickX at h
  split at h
  · rename_i e
    have hr := red_den hk e
    split at h
    · rename_i hd; cases h; rw [hd] at hr; simp only [X.den, Sc.den, ← hr, BE.den, pickN]
    · rename_i hd; cases h; rw [hd] at hr; simp only [X.den, Sc.den, ← hr, BE.den, pickN]
    · rw [X.mix_den _ _ _ h]
      simp only [X.den, Sc.den]
      by_cases hd : BE.den ρ (red Φ e) = true
      · rw [if_pos hd, strip_den (assume_ok _ true Φ hd hk), ← hr, hd]; rfl
      · have hd' : BE.den ρ (red Φ e) = false := by simpa using hd
        rw [if_neg hd, strip_den (assume_ok _ false Φ hd' hk), ← hr, hd']; rfl
  · cases h
def nilX (h : XHp) : X → Option X
  | .ptr n as d => if okPtr h n = true then some (.ptr n as d) else none
  | .ip cs as d => some (.ip cs as d)
  | .fn (.func f) xs ys => some (.fn (.func f) xs ys)
  | _ => none
theorem nilX_den {ρ : Rho} {h : XHp} {x v : X} (hv : nilX h x = some v) : nilN (denH ρ h) (x.den ρ) = some (v.den ρ) := by
  unfold nilX at hv
  split at hv
  · split at hv
    · rename_i ho; cases hv; simp only [X.den, nilN, okPtr_den ho, if_true]
    · cases hv
  · cases hv; simp only [X.den, nilN]
  · cases hv; simp only [X.den, nilN]
  · cases hv
def nilBX : BinOp → Bool → Option X
  | .eql, b => some (.sc (.b (.lit b)))
  | .neq, b => some (.sc (.b (.lit (!b))))
  | _, _ => none
theorem nilBX_den {ρ : Rho} {op : BinOp} {b : Bool} {v : X} (h : nilBX op b = some v) : nilB op b = some (v.den ρ) := by
  unfold nilBX at h
  split at h <;> first | cases h | skip
  · rfl
  · rfl
/-- A slice against nil. -/
def nilCmpX (t : TI) (h : XHp) (op : BinOp) (x : X) : Option X :=
  match t.sl with
  | some _ => match x with
    | .sl m _ _ _ _ => if okPtr h m = true then nilBX op false else none
    | .slv m _ _ _ _ => if okPtr h m = true then nilBX op false else none
    | .ro _ (_ :: _) _ => nilBX op false
    | .k (.slice none 0 0) => nilBX op true
    | _ => none
  | none => none
theorem nilCmpX_den {P : Program} {ρ : Rho} {ty : TypeId} {h : XHp} {op : BinOp} {x v : X} (hv : nilCmpX (tiOf P ty) h op x = some v) : binRh P (denH ρ h) op ty (x.den ρ) (.sc (.slice none 0 0)) = some (v.den ρ) := by
  unfold nilCmpX at hv
  split at hv
  · rename_i p hs
    have hs' : slT P ty = some p := hs
    have e : ∀ y, binR P op ty y (.sc (.slice none 0 0)) = none := fun y => by
      unfold binR
      split <;> simp_all
    unfold binRh
    rw [e]
    simp only [nilR, hs']
    split at hv
    · split at hv
      · rename_i hm
        simp only [X.den]
        rw [if_pos (okPtr_den hm)]
        exact nilBX_den hv
      · cases hv
    · split at hv
      · rename_i hm
        simp only [X.den]
        rw [if_pos (okPtr_den hm)]
        exact nilBX_den hv
      · cases hv
    · simp only [X.den, X.denE]
      exact nilBX_den hv
    · simp only [X.den]
      exact nilBX_den hv
    · cases hv
  · cases hv
def one1 (o : Option X) : T XR := retO (o.map fun v => .ok v [])
def one2 (t : T X) : T XR := t.map fun v => .ok v []
def tiW (ti : Nat → Option TI) (t : Nat) (k : TI → T XR) : T XR := match ti t with
  | some i => k i
  | none => (.fail [])
/-! ### The same with objects of rows -/
def loadW (i : TI) (h : XHp) (Φ : Facts) : X → T X
  | .ptrv m z j o => loadV i h Φ m z j o
  | x => retO (loadX i h x)
theorem loadW_den {P : Program} {ρ : Rho} {ty : TypeId} {h : XHp} {Φ : Facts} {x v : X} (hk : Facts.ok ρ Φ) (hv : (loadW (tiOf P ty) h Φ x).sel ρ = some v) : loadN P (denH ρ h) ty (x.den ρ) = some (v.den ρ) := by
  unfold loadW at hv
  split at hv
  · exact loadV_den hk hv
  · exact loadX_den (sel_retO hv)
def storeW (i : TI) (h : XHp) (Φ : Facts) (x : X) (ys : List X) : T XDl :=
  match x with
  | .ptrv m z j o => storeV i h Φ m z j o ys
  | x => retO (storeX i h x ys)
theorem storeW_den {P : Program} {ρ : Rho} {ty : TypeId} {h : XHp} {Φ : Facts} {x : X} {ys : List X} {d : XDl} (hk : Facts.ok ρ Φ) (hv : (storeW (tiOf P ty) h Φ x ys).sel ρ = some d) : ys.all X.one = true ∧ storeN P (denH ρ h) ty (x.den ρ) (X.denL ρ ys) = some (denD ρ d) := by
  unfold storeW at hv
  split at hv
  · exact storeV_den hk hv
  · exact storeX_den (sel_retO hv)
def idxAddrW (i : TI) (h : XHp) (Φ : Facts) (x y : X) : T X :=
  match x, y with
  | .slv m z off len _, .sc (.i _ e) => idxV i h Φ m z off len e
  | .ptrv m z j o, .sc (.i _ (.lit e)) => match i.arr with
    | some (len, z') => if (okPtr h m && (decide (0 ≤ e) && decide (e < len))) = true then .ret (.ptrv m z j (o + e.toNat * z')) else (.fail ["idxAddrW"])
    | none => (.fail ["idxAddrW"])
  | x, y => idxAddrX i h Φ x y
theorem idxAddrW_den {P : Program} {ρ : Rho} {ty : TypeId} {h : XHp} {Φ : Facts} {x y v : X} (hk : Facts.ok ρ Φ) (hv : (idxAddrW (tiOf P ty) h Φ x y).sel ρ = some v) : idxAddrN P (denH ρ h) ty (x.den ρ) (y.den ρ) = some (v.den ρ) := by
  unfold idxAddrW at hv
  split at hv
  · exact idxV_den hk hv
  · split at hv
    · rename_i m z j o k e len z' ha
      have ha' : arrT P ty = some (len, z') := ha
      split at hv
      · rename_i hc
        simp only [Bool.and_eq_true, decide_eq_true_eq] at hc
        cases hv
        simp only [X.den, Sc.den, IE.den, idxAddrN, ha', iaP, okPtr_den hc.1]
        rw [if_pos ⟨trivial, hc.2.1, hc.2.2⟩]
        congr 2
        omega
      · cases hv
    · cases hv
  · exact idxAddrX_den hk hv
def topW (i : TI) : X → IE
  | .slv _ _ _ len _ => len
  | x => topE i x
def slW (i : TI) (h : XHp) (Φ : Facts) (x : X) (lo hi : IE) (hn : Bool) : T X :=
  match x with
  | .slv m z off len own => sliceV i h Φ m z off len own lo hi
  | x => slX i h Φ x lo hi hn
theorem slW_den {P : Program} {ρ : Rho} {ty : TypeId} {h : XHp} {Φ : Facts} {x v : X} {lo hi : Option X} {l r : IE} (hk : Facts.ok ρ Φ) (hl : bndX lo (.lit 0) = some l) (hr : bndX hi (topW (tiOf P ty) x) = some r)
    (hv : (slW (tiOf P ty) h Φ x l r hi.isNone).sel ρ = some v) : ∃ w, sliceN P (denH ρ h) ty (x.den ρ) (lo.map (X.den ρ)) (hi.map (X.den ρ)) none = some w ∧ LeA (v.den ρ) w := by
  unfold slW at hv
  split at hv
  · exact ⟨_, sliceV_den hk hl hr hv, LeA.refl _⟩
  · rename_i hx
    refine slX_den hk hl ?_ hv
    have : topW (tiOf P ty) x = topE (tiOf P ty) x := by
      unfold topW
      split
      · exact absurd rfl (hx _ _ _ _ _)
      · rfl
    rw [← this]; exact hr
def lenW (i : TI) (h : XHp) (Φ : Facts) : X → T X
  | .slv m _ _ len _ => lenV i h Φ m len
  | x => lenX i h Φ x
theorem lenW_den {P : Program} {ρ : Rho} {ty : TypeId} {h : XHp} {Φ : Facts} {x v : X} (hk : Facts.ok ρ Φ) (hv : (lenW (tiOf P ty) h Φ x).sel ρ = some v) : lenN (lenT P (denH ρ h) ty (x.den ρ)) = some (v.den ρ) := by
  unfold lenW at hv
  split at hv
  · exact lenV_den hk hv
  · exact lenX_den hk hv
def stepX (ti : Nat → Option TI) (n : Nat) (mu : Bool) (g : Nat → X) (h : XHp) (Φ : Facts) : Op → T XR
  | .move x => .ret (.ok (evX g x) [])
  | .assign x => .ret (.ok (evX g x) [])
  | .pick c a b => one1 (pickX Φ (evX g c) (evX g a) (evX g b))
  | .alloc e => tiW ti e fun i => retO (i.zero.bind fun zs => if isRows (zs.map ofV) = true then none else some (.ok (.ptr (n, 0) [] 0) [((n, 0), some (zs.map ofV))]))
  | .box _ x => if (evX g x).cells.all X.one = true then .ret (.ok (.ptr (n, 0) [] 0) [((n, 0), some (evX g x).cells)]) else (.fail [])
  | .load ty x => tiW ti ty fun i => one2 (loadW i h Φ (evX g x))
  | .store ty x y => tiW ti ty fun i => (storeW i h Φ (evX g x) (evX g y).cells).map fun d => .ok (.k undef) d
  | .nilCheck x => one1 (nilX h (evX g x))
  | .indexAddr ty x i => tiW ti ty fun t => one2 (idxAddrW t h Φ (evX g x) (evX g i))
  | .fieldAddr ty x f => tiW ti ty fun t => one1 (fieldAddrX t h f (evX g x))
  | .field ty x f => tiW ti ty fun t => one1 (fieldX t f (evX g x))
  | .index ty x i => tiW ti ty fun t => one2 (indexX t Φ (evX g x) (evX g i))
  | .slice ty x lo hi none => tiW ti ty fun t => match bndX (lo.map (evX g)) (.lit 0), bndX (hi.map (evX g)) (topW t (evX g x)) with
    | some l, some r => one2 (slW t h Φ (evX g x) l r hi.isNone)
    | _, _ => (.fail [])
  | .slice ty x lo (some hi) (some mx) => tiW ti ty fun t => one1 (sl3X t h (evX g x) (lo.map (evX g)) (evX g hi) (evX g mx))
  | .binOp op ty x y _ => tiW ti ty fun t => match evX g y with
    | .k (.slice none 0 0) => one1 (nilCmpX t h op (evX g x))
    | _ => one2 (binX t Φ op (evX g x) (evX g y))
  | .unOp op _ x => one1 (unX op (evX g x))
  | .convert src dst x => tiW ti src fun s => tiW ti dst fun t => one1 (convX s t (evX g x))
  | .extract x i => match evX g x with
    | .tup vs => one1 vs[i]?
    | _ => (.fail [])
  | .makeFunc f xs ys => .ret (.ok (.fn f (evLX g xs.toList) (evLX g ys.toList)) [])
  | .build ty ps => tiW ti ty fun t => one1 (buildX t (evPX g ps.toList))
  | .buildSlice ty len ps => tiW ti ty fun t => retO ((buildSliceX n mu t ti len (evPX g ps.toList)).map fun p => .ok p.1 p.2)
  | .call ⟨.builtin b, args, tys⟩ => match b, tys.toList, evLX g args.toList with
    | .len, ty :: _, x :: _ => tiW ti ty fun t => one2 (lenW t h Φ x)
    | .max, _, x :: xs => one1 (maxX x xs)
    | .min, _, x :: xs => one1 (minX x xs)
    | .append, [ty, xt], [s, x] => tiW ti ty fun t => tiW ti xt fun t' => (appX n mu t t' ti h Φ s x).map fun p => .ok p.1 p.2
    | _, _, _ => (.fail [])
  | .call ⟨.value x, args, _⟩ => match evX g x with
    | .fn (.func f) xs ys => .ret (.call f (xs ++ (evLX g args.toList ++ ys)))
    | _ => (.fail [])
  | _ => (.fail [])

theorem Yields_of_stepN {P : Program} {n : Nat} {mu : Bool} {op : Op} {t : Tp} {h : Hp} {r : AV} {d : Dl} (he : stepN P n mu t h op = .ok r d) : Aw.Yields P n op t h r d := by
  obtain ⟨r', d', hy, h1, h2⟩ := stepK_sound (stepN_K (K := fun a b => a = r ∧ b = d) he ⟨rfl, rfl⟩)
  subst h1 h2; exact hy
theorem Yields_le {P : Program} {n : Nat} {op : Op} {t : Tp} {h : Hp} {r r' : AV} {d : Dl} (hy : Aw.Yields P n op t h r d) (hl : LeA r' r) : Aw.Yields P n op t h r' d := by
  intro C a o next Q ho hh ht hn hk
  refine hy C a o next Q ho hh ht hn fun u C' hp => hk u C' ?_
  exact ⟨hp.le, hp.kn, hp.heap, hl _ _ hp.val, hp.same, hp.mt, hp.os, hp.tape, hp.output, hp.orig, hp.names⟩
theorem Yields_step {P : Program} {n : Nat} {mu : Bool} {op : Op} {t : Tp} {h : Hp} {r r' : AV} {d : Dl} (he : stepN P n mu t h op = .ok r d) (hl : LeA r' r) : Aw.Yields P n op t h r' d := Yields_le (Yields_of_stepN he) hl

/-- What one step shows. -/
def XR.shows (ρ : Rho) (P : Program) (n : Nat) (mu : Bool) (op : Op) (t : Tp) (h : Hp) : XR → Prop
  | .ok r d => Aw.Yields P n op t h (r.den ρ) (denD ρ d)
  | .call f args => stepN P n mu t h op = .call f (X.denL ρ args)
theorem sel_tiW {P : Program} {ρ : Rho} {ti : Nat → Option TI} (hti : TIs.ok P ti) {t : Nat} {k : TI → T XR} {a : XR} (h : (tiW ti t k).sel ρ = some a) : (k (tiOf P t)).sel ρ = some a := by
  unfold tiW at h
  split at h
  · rename_i i hi; rw [hti _ _ hi] at h; exact h
  · cases h
theorem sel_one1 {ρ : Rho} {o : Option X} {a : XR} (h : (one1 o).sel ρ = some a) : ∃ v, o = some v ∧ a = .ok v [] := by
  obtain ⟨v, h1, h2⟩ := Option.map_eq_some_iff.1 (sel_retO h)
  exact ⟨v, h1, h2.symm⟩
theorem sel_one2 {ρ : Rho} {o : T X} {a : XR} (h : (one2 o).sel ρ = some a) : ∃ v, o.sel ρ = some v ∧ a = .ok v [] := T.sel_map o h

theorem stepX_shows {P : Program} {ρ : Rho} {ti : Nat → Option TI} (hti : TIs.ok P ti) {n : Nat} {mu : Bool} {g : Nat → X} {t : Tp} (hg : ∀ i, (g i).den ρ = tget t i) {h : XHp} {Φ : Facts} (hk : Facts.ok ρ Φ) {op : Op} {a : XR}
    (hs : (stepX ti n mu g h Φ op).sel ρ = some a) : a.shows ρ P n mu op t (denH ρ h) := by
  unfold stepX at hs
  split at hs
  · cases hs
    exact Yields_of_stepN (mu := mu) (by simp only [stepN, evX_den hg]; rfl)
  · cases hs
    exact Yields_of_stepN (mu := mu) (by simp only [stepN, evX_den hg]; rfl)
  · obtain ⟨v, hv, rfl⟩ := sel_one1 hs
    have := pickX_den hk hv
    simp only [evX_den hg] at this
    exact Yields_of_stepN (mu := mu) (by simp only [stepN, this, lift1]; rfl)
  · rename_i e
    obtain ⟨zs, hz, hs⟩ := Option.bind_eq_some_iff.1 (sel_retO (sel_tiW hti hs))
    split at hs
    · cases hs
    · rename_i hr
      cases hs
      have hz' : zeroV P e = some zs := hz
      refine Yields_of_stepN (mu := mu) ?_
      simp only [stepN, zeroC_eq, hz', Option.map_some, allocN, X.den, choose, denD, List.map_cons, List.map_nil, denO_of (ρ := ρ) (show isRows (zs.map ofV) = false by simpa using hr), ofVs_den]
  · split at hs
    · rename_i x hc
      cases hs
      refine Yields_of_stepN (mu := mu) ?_
      simp only [stepN, ← evX_den hg, X.cells_den ρ _ hc, boxN, X.all_one ρ _ hc, if_true, X.den, choose, denD, List.map_cons, List.map_nil, Option.map_some, denO_of (ρ := ρ) (isRows_one hc)]
    · cases hs
  · obtain ⟨v, hv, rfl⟩ := sel_one2 (sel_tiW hti hs)
    refine Yields_of_stepN (mu := mu) ?_
    simp only [stepN, ← evX_den hg, loadW_den hk hv, lift1]; rfl
  · obtain ⟨v, hv, rfl⟩ := T.sel_map _ (sel_tiW hti hs)
    refine Yields_of_stepN (mu := mu) ?_
    obtain ⟨h1, h2⟩ := storeW_den (ρ := ρ) hk hv
    simp only [stepN, ← evX_den hg, X.cells_den ρ _ h1, h2, liftD]; rfl
  · obtain ⟨v, hv, rfl⟩ := sel_one1 hs
    refine Yields_of_stepN (mu := mu) ?_
    simp only [stepN, ← evX_den hg, nilX_den hv, lift1]; rfl
  · obtain ⟨v, hv, rfl⟩ := sel_one2 (sel_tiW hti hs)
    refine Yields_of_stepN (mu := mu) ?_
    simp only [stepN, ← evX_den hg, idxAddrW_den hk hv, lift1]; rfl
  · obtain ⟨v, hv, rfl⟩ := sel_one1 (sel_tiW hti hs)
    refine Yields_of_stepN (mu := mu) ?_
    simp only [stepN, ← evX_den hg, fieldAddrX_den hv, lift1]; rfl
  · obtain ⟨v, hv, rfl⟩ := sel_one1 (sel_tiW hti hs)
    refine Yields_of_stepN (mu := mu) ?_
    simp only [stepN, ← evX_den hg, fieldX_den hv, lift1]; rfl
  · obtain ⟨v, hv, rfl⟩ := sel_one2 (sel_tiW hti hs)
    refine Yields_of_stepN (mu := mu) ?_
    simp only [stepN, ← evX_den hg, indexX_den hk hv, lift1]; rfl
  · rename_i ty x lo hi
    have hs := sel_tiW hti hs
    split at hs
    · rename_i l r hl hr
      obtain ⟨v, hv, rfl⟩ := sel_one2 hs
      have hin : hi.isNone = (hi.map (evX g)).isNone := by cases hi <;> rfl
      rw [hin] at hv
      obtain ⟨w, hw, hle⟩ := slW_den hk hl hr hv
      refine Yields_step (mu := mu) (r := w) ?_ hle
      have e : ∀ o : Option Operand, (o.map (evX g)).map (X.den ρ) = evO t o := fun o => by cases o <;> simp only [Option.map_none, Option.map_some, evO, evX_den hg]
      rw [e, e, evX_den hg] at hw
      have e0 : evO t none = none := rfl
      simp only [stepN, e0, hw, lift1]; rfl
    · cases hs
  · rename_i ty x lo hi mx
    obtain ⟨v, hv, rfl⟩ := sel_one1 (sel_tiW hti hs)
    refine Yields_of_stepN (mu := mu) ?_
    have hw := sl3X_den (ρ := ρ) hv
    have e : ∀ o : Option Operand, (o.map (evX g)).map (X.den ρ) = evO t o := fun o => by cases o <;> simp only [Option.map_none, Option.map_some, evO, evX_den hg]
    have e' : ∀ o : Operand, some ((evX g o).den ρ) = evO t (some o) := fun o => by simp only [evO, evX_den hg]
    rw [e, e', e', evX_den hg] at hw
    simp only [stepN, hw, lift1]; rfl
  · rename_i op' ty x y ty'
    have hs := sel_tiW hti hs
    split at hs
    · rename_i hy
      obtain ⟨v, hv, rfl⟩ := sel_one1 hs
      refine Yields_of_stepN (mu := mu) ?_
      have h1 := nilCmpX_den (ρ := ρ) hv
      have e2 : (evX g y).den ρ = .sc (.slice none 0 0) := by rw [hy]; rfl
      simp only [stepN, ← evX_den hg, e2, h1, lift1]; rfl
    · obtain ⟨v, hv, rfl⟩ := sel_one2 hs
      refine Yields_of_stepN (mu := mu) ?_
      simp only [stepN, ← evX_den hg, binRh_of (binX_den hk hv), lift1]; rfl
  · obtain ⟨v, hv, rfl⟩ := sel_one1 hs
    refine Yields_of_stepN (mu := mu) ?_
    simp only [stepN, ← evX_den hg, unX_den hv, lift1]; rfl
  · obtain ⟨v, hv, rfl⟩ := sel_one1 (sel_tiW hti (sel_tiW hti hs))
    refine Yields_of_stepN (mu := mu) ?_
    simp only [stepN, ← evX_den hg, convX_den hv, lift1]; rfl
  · rename_i x i
    split at hs
    · rename_i vs hx
      obtain ⟨v, hv, rfl⟩ := sel_one1 hs
      refine Yields_of_stepN (mu := mu) ?_
      simp only [stepN, ← evX_den hg, hx, X.den, extractN, X.denL_get, hv, Option.map_some, lift1]; rfl
    · cases hs
  · cases hs
    refine Yields_of_stepN (mu := mu) ?_
    simp only [stepN, ← evLX_den hg, X.den]; rfl
  · obtain ⟨v, hv, rfl⟩ := sel_one1 (sel_tiW hti hs)
    refine Yields_of_stepN (mu := mu) ?_
    simp only [stepN, ← evPX_den hg, buildX_den hv, lift1]; rfl
  · obtain ⟨p, hv, rfl⟩ := Option.map_eq_some_iff.1 (sel_retO (sel_tiW hti hs))
    obtain ⟨v, d⟩ := p
    refine Yields_of_stepN (mu := mu) ?_
    simp only [stepN, ← evPX_den hg, buildSliceX_den hti hv, lift2]
  · rename_i b args tys
    have hL := evLX_den (ρ := ρ) hg args.toList
    split at hs
    · rename_i ty _ x _ h1 h2
      obtain ⟨v, hv, rfl⟩ := sel_one2 (sel_tiW hti hs)
      rw [h2] at hL
      refine Yields_of_stepN (mu := mu) ?_
      simp only [stepN, h1, ← hL, X.denL, builtinN, lenW_den hk hv, lift1]; rfl
    · rename_i x xs h2
      obtain ⟨v, hv, rfl⟩ := sel_one1 hs
      rw [h2] at hL
      refine Yields_of_stepN (mu := mu) ?_
      simp only [stepN, ← hL, X.denL, builtinN, maxX_den hv, lift1]; rfl
    · rename_i x xs h2
      obtain ⟨v, hv, rfl⟩ := sel_one1 hs
      rw [h2] at hL
      refine Yields_of_stepN (mu := mu) ?_
      simp only [stepN, ← hL, X.denL, builtinN, minX_den hv, lift1]; rfl
    · rename_i ty xt s x h1 h2
      obtain ⟨p, hv, rfl⟩ := T.sel_map _ (sel_tiW hti (sel_tiW hti hs))
      rw [h2] at hL
      refine Yields_of_stepN (mu := mu) ?_
      simp only [stepN, h1, ← hL, X.denL, builtinN, appX_den hti hk hv, lift2]
    · cases hs
  · rename_i x args tys
    split at hs
    · rename_i f xs ys hx
      cases hs
      simp only [XR.shows, stepN, ← evX_den hg, hx, X.den, callN, ← evLX_den hg, X.denL_append]
    · cases hs
  · cases hs
end Go.Proofs.Xw
