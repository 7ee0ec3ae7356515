/- Symbolic runs, part 6: arithmetic, literals, built-in functions. -/
import Derived.Test.YtcllappmhdfffaaXw5
namespace Go.Proofs.Xw
open Go Go.Proofs.Aw

/-! ### Arithmetic -/
def ifK (k k' : IntKind) (x : X) : T X := if kbeq k k' = true then .ret x else (.fail [])
def intX (op : BinOp) (Φ : Facts) (k : IntKind) (a : IE) (k' : IntKind) (b : IE) : T X :=
  match op with
  | .add => ifK k k' (.sc (.i k (mkOp .add k a b)))
  | .sub => ifK k k' (.sc (.i k (mkOp .sub k a b)))
  | .mul => ifK k k' (.sc (.i k (mkOp .mul k a b)))
  | .and => ifK k k' (.sc (.i k (mkOp .and k a b)))
  | .or => ifK k k' (.sc (.i k (mkOp .or k a b)))
  | .xor => ifK k k' (.sc (.i k (mkOp .xor k a b)))
  | .andNot => ifK k k' (.sc (.i k (mkOp .andNot k a b)))
  | .lss => ifK k k' (.sc (.b (mkLt a b)))
  | .leq => ifK k k' (.sc (.b (mkNot (mkLt b a))))
  | .gtr => ifK k k' (.sc (.b (mkLt b a)))
  | .geq => ifK k k' (.sc (.b (mkNot (mkLt a b))))
  | .eql => ifK k k' (.sc (.b (mkEq a b)))
  | .neq => ifK k k' (.sc (.b (mkNot (mkEq a b))))
  | .quo => want Φ (mkNot (mkEq b (.lit 0))) fun _ => ifK k k' (.sc (.i k (mkOp .quo k a b)))
  | .rem => want Φ (mkNot (mkEq b (.lit 0))) fun _ => ifK k k' (.sc (.i k (mkOp .rem k a b)))
  | .shl => want Φ (mkNot (mkLt b (.lit 0))) fun _ => .ret (.sc (.i k (mkOp .shl k a b)))
  | .shr => want Φ (mkNot (mkLt b (.lit 0))) fun _ => .ret (.sc (.i k (mkOp .shr k a b)))
theorem sel_ifK {ρ : Rho} {k k' : IntKind} {x v : X} (h : (ifK k k' x).sel ρ = some v) : k = k' ∧ v = x := by
  unfold ifK at h
  split at h
  · rename_i hk; cases h; exact ⟨kbeq_eq hk, rfl⟩
  · cases h
theorem decNot {a b : Int} : (!decide (a < b)) = decide (b ≤ a) := by
  rw [Bool.eq_iff_iff]; simp
theorem intX_den {ρ : Rho} {op : BinOp} {Φ : Facts} {k k' : IntKind} {a b : IE} {v : X} (hk : Facts.ok ρ Φ) (h : (intX op Φ k a k' b).sel ρ = some v) : (intBin op k (a.den ρ) k' (b.den ρ)).map AV.sc = some (v.den ρ) := by
  cases op <;> simp only [intX] at h
  case quo =>
    obtain ⟨_, _, h1, h⟩ := sel_want hk h
    obtain ⟨rfl, rfl⟩ := sel_ifK h
    rw [mkNot_den, mkEq_den] at h1
    have hne : b.den ρ ≠ 0 := by simpa [IE.den] using h1
    simp [intBin, hne, X.den, Sc.den, mkOp_den, IOp.den]
  case rem =>
    obtain ⟨_, _, h1, h⟩ := sel_want hk h
    obtain ⟨rfl, rfl⟩ := sel_ifK h
    rw [mkNot_den, mkEq_den] at h1
    have hne : b.den ρ ≠ 0 := by simpa [IE.den] using h1
    simp [intBin, hne, X.den, Sc.den, mkOp_den, IOp.den]
  case shl =>
    obtain ⟨_, _, h1, h⟩ := sel_want hk h
    cases h
    have h1 := not_lt_den h1
    simp only [IE.den] at h1
    have hne : 0 ≤ b.den ρ := by omega
    simp [intBin, hne, X.den, Sc.den, mkOp_den, IOp.den]
  case shr =>
    obtain ⟨_, _, h1, h⟩ := sel_want hk h
    cases h
    have h1 := not_lt_den h1
    simp only [IE.den] at h1
    have hne : 0 ≤ b.den ρ := by omega
    simp [intBin, hne, X.den, Sc.den, mkOp_den, IOp.den]
  all_goals
    obtain ⟨rfl, rfl⟩ := sel_ifK h
    simp only [intBin, if_true, Option.map_some, X.den, Sc.den, mkOp_den, IOp.den, mkLt_den, mkNot_den, mkEq_den, decNot]
def strX (op : BinOp) (a b : TE) : Option X :=
  match op with
  | .eql => some (.sc (.b (mkSeq a b)))
  | .neq => some (.sc (.b (mkNot (mkSeq a b))))
  | .lss => some (.sc (.b (.slt a b)))
  | .leq => some (.sc (.b (mkOr (.slt a b) (mkSeq a b))))
  | .gtr => some (.sc (.b (mkNot (mkOr (.slt a b) (mkSeq a b)))))
  | .geq => some (.sc (.b (mkNot (.slt a b))))
  | _ => none
theorem strX_den {ρ : Rho} {op : BinOp} {a b : TE} {v : X} (h : strX op a b = some v) : (strBin op (a.den ρ) (b.den ρ)).map AV.sc = some (v.den ρ) := by
  cases op <;> simp only [strX, Option.some.injEq, reduceCtorEq] at h <;> subst h <;> simp only [strBin, Option.map_some, X.den, Sc.den, mkSeq_den, mkNot_den, mkOr_den, BE.den]
def eqLX : List Nat → List X → List X → Option BE
  | [], [], [] => some (.lit true)
  | k :: ks, a :: as, b :: bs =>
    match k, a, b with
    | 0, .sc (.b x), .sc (.b y) => (eqLX ks as bs).map fun r => mkAnd (mkIff x y) r
    | 1, .sc (.i i x), .sc (.i j y) => if kbeq i j = true then (eqLX ks as bs).map fun r => mkAnd (mkEq x y) r else none
    | 2, .sc (.s x), .sc (.s y) => (eqLX ks as bs).map fun r => mkAnd (mkSeq x y) r
    | _, _, _ => none
  | _, _, _ => none
theorem eqLX_den {ρ : Rho} : ∀ {l : List Nat} {xs ys : List X} {e : BE}, eqLX l xs ys = some e → eqL l (X.denL ρ xs) (X.denL ρ ys) = some (e.den ρ)
  | [], [], [], e, h => by simp only [eqLX, Option.some.injEq] at h; subst h; rfl
  | k :: ks, a :: as, b :: bs, e, h => by
    simp only [eqLX] at h
    split at h
    · obtain ⟨r, hr, rfl⟩ := Option.map_eq_some_iff.1 h
      simp only [X.denL, X.den, Sc.den, eqL, eqLX_den hr, Option.map_some, mkAnd_den, mkIff_den]
    · split at h
      · rename_i hk
        obtain ⟨r, hr, rfl⟩ := Option.map_eq_some_iff.1 h
        have hk := kbeq_eq hk
        simp only [X.denL, X.den, Sc.den, eqL, eqLX_den hr, Option.map_some, mkAnd_den, mkEq_den, hk, if_true]
      · cases h
    · obtain ⟨r, hr, rfl⟩ := Option.map_eq_some_iff.1 h
      simp only [X.denL, X.den, Sc.den, eqL, eqLX_den hr, Option.map_some, mkAnd_den, mkSeq_den]
    · cases h
  | [], [], _ :: _, _, h => by simp [eqLX] at h
  | [], _ :: _, _, _, h => by simp [eqLX] at h
  | _ :: _, [], _, _, h => by simp [eqLX] at h
  | _ :: _, _ :: _, [], _, h => by simp [eqLX] at h
def binX (i : TI) (Φ : Facts) (op : BinOp) (x y : X) : T X :=
  match x, y with
  | .sc (.i k a), .sc (.i k' b) => intX op Φ k a k' b
  | .sc (.s a), .sc (.s b) => retO (strX op a b)
  | .sc (.b a), .sc (.b b) => match i.bl, op with
    | true, .eql => .ret (.sc (.b (mkIff a b)))
    | true, .neq => .ret (.sc (.b (mkNot (mkIff a b))))
    | _, _ => (.fail [])
  | .agg xs, .agg ys => match i.lv, op with
    | some l, .eql => retO ((eqLX l xs ys).map fun e => .sc (.b e))
    | some l, .neq => retO ((eqLX l xs ys).map fun e => .sc (.b (mkNot e)))
    | _, _ => (.fail [])
  | _, _ => (.fail [])
theorem binX_den {P : Program} {ρ : Rho} {ty : TypeId} {Φ : Facts} {op : BinOp} {x y v : X} (hk : Facts.ok ρ Φ) (h : (binX (tiOf P ty) Φ op x y).sel ρ = some v) : binR P op ty (x.den ρ) (y.den ρ) = some (v.den ρ) := by
  unfold binX at h
  split at h
  · simp only [X.den, Sc.den, binR]
    exact intX_den hk h
  · simp only [X.den, Sc.den, binR]
    exact strX_den (sel_retO h)
  · split at h
    · rename_i hb
      have hb' : boolT P ty = true := hb
      cases h
      simp only [X.den, Sc.den, binR, hb', mkIff_den]
    · rename_i hb
      have hb' : boolT P ty = true := hb
      cases h
      simp only [X.den, Sc.den, binR, hb', mkIff_den, mkNot_den]
    · cases h
  · split at h
    · rename_i l hl
      have hl' : leavesG P ty = some l := hl
      obtain ⟨e, he, rfl⟩ := Option.map_eq_some_iff.1 (sel_retO h)
      simp only [X.den, Sc.den, binR, hl', Option.bind_some, eqLX_den he, Option.map_some]
    · rename_i l hl
      have hl' : leavesG P ty = some l := hl
      obtain ⟨e, he, rfl⟩ := Option.map_eq_some_iff.1 (sel_retO h)
      simp only [X.den, Sc.den, binR, hl', Option.bind_some, eqLX_den he, Option.map_some, mkNot_den]
    · cases h
  · cases h
def unX (op : UnOp) : X → Option X
  | .sc (.b e) => match op with | .not => some (.sc (.b (mkNot e))) | _ => none
  | .sc (.i k e) => match op with | .neg => some (.sc (.i k (mkOp .sub k (.lit 0) e))) | _ => none
  | _ => none
theorem unX_den {ρ : Rho} {op : UnOp} {x v : X} (h : unX op x = some v) : unR op (x.den ρ) = some (v.den ρ) := by
  unfold unX at h
  split at h
  · split at h
    · cases h; simp only [X.den, Sc.den, unR, mkNot_den]
    · cases h
  · split at h
    · cases h; simp only [X.den, Sc.den, unR, mkOp_den, IOp.den, IE.den]
    · cases h
  · cases h
def mkConv (k : IntKind) : IE → IE
  | .lit n => .lit (k.wrap n)
  | e => .op .conv k e (.lit 0)
theorem mkConv_den (ρ : Rho) (k : IntKind) (e : IE) : (mkConv k e).den ρ = k.wrap (e.den ρ) := by
  unfold mkConv; split <;> simp [IE.den, IOp.den]
def convX (src dst : TI) : X → Option X
  | .sc (.i _ e) => match dst.ik, src.und with
    | some k, true => some (.sc (.i k (mkConv k e)))
    | _, _ => none
  | _ => none
theorem convX_den {P : Program} {ρ : Rho} {src dst : TypeId} {x v : X} (h : convX (tiOf P src) (tiOf P dst) x = some v) : convN P src dst (x.den ρ) = some (v.den ρ) := by
  unfold convX at h
  split at h
  · split at h
    · rename_i k hk hu
      have hk' : ikOf P dst = some k := hk
      have hu' : (P.underlying src).isSome = true := hu
      cases h
      simp only [X.den, Sc.den, convN, hu', if_true, convR, mkConv_den]
      unfold ikOf at hk'
      split at hk'
      · rename_i hd; cases hk'; rw [hd]
      · cases hk'
    · cases h
  · cases h

/-! ### Literals -/
def fillX (place : Nat → Option (Nat × Nat)) (cells : List X) : List (Nat × X) → Option (List X)
  | [] => some cells
  | (i, v) :: r => match place i with
    | none => none
    | some (off, size) => if (Nat.beq v.cells.length size && (Nat.ble (off + size) cells.length && v.cells.all X.one)) = true then fillX place (spliceX cells off v.cells) r else none
def denP (ρ : Rho) (ps : List (Nat × X)) : List (Nat × AV) := ps.map fun p => (p.1, p.2.den ρ)
theorem fillX_den {ρ : Rho} {place : Nat → Option (Nat × Nat)} : ∀ {ps : List (Nat × X)} {cells cs : List X}, fillX place cells ps = some cs → fillA place (X.denL ρ cells) (denP ρ ps) = some (X.denL ρ cs)
  | [], _, _, h => by simp only [fillX, Option.some.injEq] at h; subst h; rfl
  | (i, v) :: r, cells, cs, h => by
    simp only [fillX] at h
    simp only [denP, List.map_cons, fillA]
    split at h
    · cases h
    · rename_i off size hp
      rw [hp]
      simp only
      split at h
      · rename_i hc
        simp only [Bool.and_eq_true, Nat.ble_eq] at hc
        rw [X.cells_den ρ v hc.2.2, X.denL_len, X.denL_len, if_pos ⟨Nat.eq_of_beq_eq_true hc.1, hc.2.1, X.all_one ρ _ hc.2.2⟩, ← spliceX_den]
        exact fillX_den h
      · cases h
def placeX (i : TI) : Nat → Option (Nat × Nat) :=
  match i.arr, i.rc with
  | some (_, z), _ => fun j => some (j * z, z)
  | none, some l => fun j => l[j]?
  | none, none => fun _ => none
def buildX (i : TI) (ps : List (Nat × X)) : Option X :=
  match i.zero with
  | some zs => if (i.arr.isSome || i.rc.isSome) = true then (fillX (placeX i) (zs.map ofV) ps).map .agg else none
  | none => none
theorem ofVs_den (ρ : Rho) (l : List Value) : X.denL ρ (l.map ofV) = l.map AV.sc := by simp [X.denL_eq, ofV_den]
theorem buildX_den {P : Program} {ρ : Rho} {ty : TypeId} {ps : List (Nat × X)} {v : X} (h : buildX (tiOf P ty) ps = some v) : buildN P ty (denP ρ ps) (zeroC P ty) = some (v.den ρ) := by
  unfold buildX at h
  split at h
  · rename_i zs hz
    have hz' : zeroV P ty = some zs := hz
    split at h
    · rename_i hc
      obtain ⟨cs, hf, rfl⟩ := Option.map_eq_some_iff.1 h
      rw [zeroC_eq, hz']
      simp only [Option.map_some, buildN]
      have hc' : ((arrT P ty).isSome || (recT P ty).isSome) = true := hc
      rw [if_pos hc', ← ofVs_den ρ]
      have hp : placeX (tiOf P ty) = placeOf P ty := rfl
      rw [hp] at hf
      rw [fillX_den hf]; rfl
    · cases h
  · cases h
def densX (z : Nat) : Nat → List (Nat × X) → Bool
  | _, [] => true
  | k, (i, v) :: r => Nat.beq i k && (Nat.beq v.cells.length z && (v.cells.all X.one && densX z (k + 1) r))
theorem densX_den {ρ : Rho} {z : Nat} : ∀ {ps : List (Nat × X)} {k : Nat}, densX z k ps = true → densP z k (denP ρ ps) = true
  | [], _, _ => rfl
  | (i, v) :: r, k, h => by
    simp only [densX, Bool.and_eq_true] at h
    simp only [denP, List.map_cons, densP, Bool.and_eq_true, beq_iff_eq, X.cells_den ρ v h.2.2.1, X.denL_len]
    exact ⟨Nat.eq_of_beq_eq_true h.1, Nat.eq_of_beq_eq_true h.2.1, X.all_one ρ _ h.2.2.1, densX_den h.2.2.2⟩
def partX : List (Nat × X) → List (List X)
  | [] => []
  | (_, v) :: r => v.cells :: partX r
theorem partX_den (ρ : Rho) {z : Nat} : ∀ (ps : List (Nat × X)) {k : Nat}, densX z k ps = true → X.denE ρ (partX ps) = partCells (denP ρ ps)
  | [], _, _ => rfl
  | (i, v) :: r, k, h => by
    simp only [densX, Bool.and_eq_true] at h
    simp only [partX, X.denE, denP, List.map_cons, partCells, X.cells_den ρ v h.2.2.1]; rw [partX_den ρ r h.2.2.2]; rfl
def flatX : List (List X) → List X
  | [] => []
  | e :: es => e ++ flatX es
theorem flatX_den (ρ : Rho) : ∀ es, X.denL ρ (flatX es) = (X.denE ρ es).flatten
  | [] => rfl
  | e :: es => by simp only [flatX, X.denE, List.flatten_cons, X.denL_append, flatX_den ρ es]
def zlenI (i : TI) : Option Nat := i.zero.map List.length
theorem zlenI_eq (P : Program) (e : TypeId) : zlenI (tiOf P e) = zlenT P e := by
  unfold zlenI zlenT
  rw [zeroC_eq]
  show (zeroV P e).map List.length = _
  cases zeroV P e with
  | none => rfl
  | some l => simp
def zokI (i : TI) (z : Nat) : Bool := match zlenI i with | some z' => Nat.beq z' z | none => false
theorem zokI_eq {P : Program} {e : TypeId} {z : Nat} (h : zokI (tiOf P e) z = true) : zlenT P e = some z := by
  rw [← zlenI_eq]
  unfold zokI at h
  split at h
  · rename_i z' hz'; rw [hz', Nat.eq_of_beq_eq_true h]
  · cases h
def buildSliceX (n : Nat) (mu : Bool) (i : TI) (ti : Nat → Option TI) (len : Nat) (ps : List (Nat × X)) : Option (X × XDl) :=
  match i.sl with
  | some (e, z) => match ti e with
    | some ie => if (zokI ie z && (Nat.ble (len * z) 16777216 && (Nat.beq ps.length len && densX z 0 ps))) = true then
        (match mu with
        | false => some (.ro z (partX ps) true, [])
        | true => if isRows (flatX (partX ps)) = true then none else some (.sl (n, 0) z 0 len true, [((n, 0), some (flatX (partX ps)))]))
      else none
    | none => none
  | none => none
def TIs.ok (P : Program) (ti : Nat → Option TI) : Prop := ∀ t i, ti t = some i → i = tiOf P t
theorem buildSliceX_den {P : Program} {ρ : Rho} {n : Nat} {mu : Bool} {ty : TypeId} {ti : Nat → Option TI} (hti : TIs.ok P ti) {len : Nat} {ps : List (Nat × X)} {v : X} {d : XDl} (h : buildSliceX n mu (tiOf P ty) ti len ps = some (v, d)) :
    buildSliceN P n mu ty len (denP ρ ps) = some (v.den ρ, denD ρ d) := by
  unfold buildSliceX at h
  split at h
  · rename_i e z hs
    have hs' : slT P ty = some (e, z) := hs
    split at h
    · rename_i ie hie
      have hie := hti _ _ hie
      subst hie
      split at h
      · rename_i hc
        simp only [Bool.and_eq_true, Nat.ble_eq] at hc
        obtain ⟨h1, h2, h3, h4⟩ := hc
        have hz := zokI_eq h1
        simp only [buildSliceN, hs', hz]
        rw [if_pos ⟨trivial, h2, by simpa [denP] using Nat.eq_of_beq_eq_true h3, densX_den h4⟩]
        cases mu with
        | false => cases h; simp only [X.den, partX_den ρ ps h4]; rfl
        | true =>
          simp only at h
          split at h
          · cases h
          · rename_i hr
            cases h; simp only [X.den, denD, List.map_cons, List.map_nil, Option.map_some, denO_of (ρ := ρ) (show isRows (flatX (partX ps)) = false by simpa using hr), flatX_den, partX_den ρ ps h4]
      · cases h
    · cases h
  · cases h

/-! ### len, max, min -/
def lenX (i : TI) (h : XHp) (Φ : Facts) : X → T X
  | .ro _ es _ => if i.sl.isSome = true then .ret (.sc (.i .i64 (.lit es.length))) else (.fail [])
  | .rl _ n _ _ => if i.sl.isSome = true then want Φ (mkNot (mkLt n (.lit 0))) fun _ => .ret (.sc (.i .i64 n)) else (.fail [])
  | .sl m _ _ len _ => if (i.sl.isSome && okPtr h m) = true then .ret (.sc (.i .i64 (.lit len))) else (.fail [])
  | .k (.slice _ m _) => if i.sl.isSome = true then .ret (.sc (.i .i64 (.lit m))) else (.fail [])
  | .sc (.s t) => if i.str = true then .ret (.sc (.i .i64 (mkSlen t))) else (.fail [])
  | .agg _ => match i.arr with
    | some (n, _) => .ret (.sc (.i .i64 (.lit n)))
    | none => (.fail [])
  | _ => (.fail [])
theorem lenX_den {P : Program} {ρ : Rho} {ty : TypeId} {h : XHp} {Φ : Facts} {x v : X} (hk : Facts.ok ρ Φ) (hv : (lenX (tiOf P ty) h Φ x).sel ρ = some v) : lenN (lenT P (denH ρ h) ty (x.den ρ)) = some (v.den ρ) := by
  unfold lenX at hv
  split at hv
  · split at hv
    · rename_i hs
      have hs' : (slT P ty).isSome = true := hs
      cases hv
      simp only [X.den, lenT, hs', if_true, lenN, Sc.den, IE.den, X.denE_eq, List.length_map]
    · cases hv
  · split at hv
    · rename_i n l f hs
      have hs' : (slT P ty).isSome = true := hs
      obtain ⟨_, _, h1, hv⟩ := sel_want hk hv
      cases hv
      have h1 := not_lt_den h1
      simp only [IE.den] at h1
      have : ((rowsD ρ n l).length : Int) = n.den ρ := by simp only [rowsD, List.length_map, List.length_range]; omega
      simp only [X.den, lenT, hs', if_true, lenN, Sc.den, this]
    · cases hv
  · split at hv
    · rename_i m z off len own hs
      simp only [Bool.and_eq_true] at hs
      have hs' : (slT P ty).isSome = true := hs.1
      cases hv
      simp only [X.den, lenT, hs', okPtr_den hs.2, and_self, if_true, lenN, Sc.den, IE.den]
    · cases hv
  · split at hv
    · rename_i hs
      have hs' : (slT P ty).isSome = true := hs
      cases hv
      simp only [X.den, lenT, hs', if_true, lenN, Sc.den, IE.den]
    · cases hv
  · split at hv
    · rename_i hs
      have hs' : strT P ty = true := hs
      cases hv
      simp only [X.den, lenT, hs', if_true, lenN, Sc.den, mkSlen_den]
    · cases hv
  · split at hv
    · rename_i n z hs
      have hs' : arrT P ty = some (n, z) := hs
      cases hv
      simp only [X.den, lenT, hs', Option.map_some, lenN, Sc.den, IE.den]
    · cases hv
  · cases hv
def mkMax (a b : IE) : IE := if a.beq b = true then a else mkOp .max .i64 a b
theorem mkMax_den (ρ : Rho) (a b : IE) : (mkMax a b).den ρ = Max.max (a.den ρ) (b.den ρ) := by
  unfold mkMax; split
  · rename_i h; rw [IE.beq_eq _ _ h]; omega
  · rw [mkOp_den]; rfl
def mkMin (a b : IE) : IE := if a.beq b = true then a else mkOp .min .i64 a b
theorem mkMin_den (ρ : Rho) (a b : IE) : (mkMin a b).den ρ = Min.min (a.den ρ) (b.den ρ) := by
  unfold mkMin; split
  · rename_i h; rw [IE.beq_eq _ _ h]; omega
  · rw [mkOp_den]; rfl
def maxX : X → List X → Option X
  | .sc (.i k a), [] => some (.sc (.i k a))
  | .sc (.i k a), .sc (.i _ b) :: r => maxX (.sc (.i k (mkMax a b))) r
  | _, _ => none
theorem maxX_den {ρ : Rho} : ∀ {l : List X} {x v : X}, maxX x l = some v → maxA (x.den ρ) (X.denL ρ l) = some (v.den ρ)
  | [], x, v, h => by
    unfold maxX at h
    split at h
    · cases h; simp only [X.denL, X.den, Sc.den, maxA]
    · contradiction
    · cases h
  | y :: r, x, v, h => by
    unfold maxX at h
    split at h
    · contradiction
    · rename_i k a k' b r' he
      cases he
      have := maxX_den (ρ := ρ) h
      simp only [X.den, Sc.den, mkMax_den] at this
      simp only [X.denL, X.den, Sc.den, maxA]
      exact this
    · cases h
def minX : X → List X → Option X
  | .sc (.i k a), [] => some (.sc (.i k a))
  | .sc (.i k a), .sc (.i _ b) :: r => minX (.sc (.i k (mkMin a b))) r
  | _, _ => none
theorem minX_den {ρ : Rho} : ∀ {l : List X} {x v : X}, minX x l = some v → minA (x.den ρ) (X.denL ρ l) = some (v.den ρ)
  | [], x, v, h => by
    unfold minX at h
    split at h
    · cases h; simp only [X.denL, X.den, Sc.den, minA]
    · contradiction
    · cases h
  | y :: r, x, v, h => by
    unfold minX at h
    split at h
    · contradiction
    · rename_i k a k' b r' he
      cases he
      have := minX_den (ρ := ρ) h
      simp only [X.den, Sc.den, mkMin_den] at this
      simp only [X.denL, X.den, Sc.den, minA]
      exact this
    · cases h
end Go.Proofs.Xw
