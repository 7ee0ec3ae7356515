/- Symbolic runs, part 5: the other operations. -/
import Derived.Test.YtcllappmhdfffaaXw4
namespace Go.Proofs.Xw
open Go Go.Proofs.Aw

theorem natbeq (a b : Nat) : Nat.beq a b = (a == b) := by rw [Bool.eq_iff_iff]; simp

/-! ### Parts of values -/
def fieldX (i : TI) (f : Nat) : X → Option X
  | .agg cs => match i.rc, i.rcA with
    | some l, some bs => match l[f]?, bs[f]? with
      | some (o, z), some b => rdX b z cs o
      | _, _ => none
    | _, _ => none
  | _ => none
theorem fieldX_den {P : Program} {ρ : Rho} {ty : TypeId} {f : Nat} {x v : X} (hv : fieldX (tiOf P ty) f x = some v) : fieldN P ty f (x.den ρ) = some (v.den ρ) := by
  unfold fieldX at hv
  split at hv
  · split at hv
    · rename_i cs l bs hl hb
      have hl' : recT P ty = some l := hl
      have hb' : recA P ty = some bs := hb
      split at hv
      · rename_i o z b h1 h2
        simp only [X.den, fieldN, hl', hb', h1, h2, fdO]
        exact rdX_den hv
      · cases hv
    · cases hv
  · cases hv
def mkByt : TE → IE → IE
  | .lit s, .lit j => .lit (((s[j.toNat]?).getD 0).toNat)
  | t, j => .byt t j
theorem mkByt_den (ρ : Rho) (t : TE) (j : IE) : (mkByt t j).den ρ = (((t.den ρ)[(j.den ρ).toNat]?).getD 0).toNat := by
  unfold mkByt; split <;> simp [IE.den, TE.den]
def indexX (i : TI) (Φ : Facts) (x y : X) : T X :=
  match x, y with
  | .agg cs, .sc (.i _ e) => match i.arr with
    | some (len, z) => inB Φ e (.lit len) fun _ => retO (match e with
      | .lit j => rdX i.arrA z cs (j.toNat * z)
      | e => rdAs i.arrA z cs (idxAs e z len [] 0) (0 + (len - 1) * z))
    | none => (.fail [])
  | .sc (.s t), .sc (.i _ e) => if i.str = true then inB Φ e (mkSlen t) fun _ => .ret (.sc (.i .u8 (mkByt t e))) else (.fail [])
  | _, _ => (.fail [])
theorem indexX_den {P : Program} {ρ : Rho} {ty : TypeId} {Φ : Facts} {x y v : X} (hk : Facts.ok ρ Φ) (hv : (indexX (tiOf P ty) Φ x y).sel ρ = some v) : indexN P ty (x.den ρ) (y.den ρ) = some (v.den ρ) := by
  unfold indexX at hv
  split at hv
  · split at hv
    · rename_i cs k e len z ha
      obtain ⟨Φ', j, _, he, hj, hv⟩ := sel_inB hk hv
      have hv := sel_retO hv
      simp only [IE.den] at hj
      have ha' : arrT P ty = some (len, z) := ha
      simp only [X.den, Sc.den, indexN, ha', he, Int.toNat_natCast]
      rw [if_pos ⟨by omega, by omega⟩]
      split at hv
      · rename_i jj
        simp only [IE.den] at he
        have := rdX_den (ρ := ρ) hv
        rw [he, Int.toNat_natCast] at this
        exact this
      · have := rdAs_den (ρ := ρ) hv
        rw [choose_idx he (by omega), choose, Nat.zero_add] at this
        exact this
    · cases hv
  · split at hv
    · rename_i t k e hs
      have hs' : strT P ty = true := hs
      obtain ⟨Φ', j, _, he, hj, hv⟩ := sel_inB hk hv
      cases hv
      rw [mkSlen_den] at hj
      simp only [X.den, Sc.den, indexN, hs', he, Int.toNat_natCast, mkByt_den]
      rw [if_pos ⟨trivial, by omega⟩]
      have hlt : j < (t.den ρ).size := by omega
      have : (t.den ρ)[j]? = some ((t.den ρ)[j]'hlt) := getElem?_pos (t.den ρ) j hlt
      rw [this]; rfl
    · cases hv
  · cases hv

/-! ### Slices -/
/-- The number that e is, from 0 to n. -/
def enumE {α : Type} (e : IE) (k : Facts → Nat → T α) : Nat → Facts → T α
  | 0, Φ => want Φ (mkEq e (.lit 0)) fun Φ => k Φ 0
  | m + 1, Φ => part Φ (mkEq e (.lit (m + 1 : Nat))) (fun Φ => k Φ (m + 1)) (fun Φ => enumE e k m Φ)
theorem sel_enumE {α : Type} {ρ : Rho} {e : IE} {k : Facts → Nat → T α} {a : α} : ∀ (n : Nat) {Φ : Facts}, Facts.ok ρ Φ → (enumE e k n Φ).sel ρ = some a → ∃ Φ' j, Facts.ok ρ Φ' ∧ j ≤ n ∧ e.den ρ = (j : Nat) ∧ (k Φ' j).sel ρ = some a
  | 0, Φ, hk, h => by
    obtain ⟨Φ', hk', h1, h⟩ := sel_want hk h
    rw [mkEq_den, beq_iff_eq] at h1
    exact ⟨Φ', 0, hk', Nat.le_refl _, h1, h⟩
  | m + 1, Φ, hk, h => by
    obtain ⟨Φ', hk', ⟨h1, h⟩ | ⟨_, h⟩⟩ := sel_part hk h
    · rw [mkEq_den, beq_iff_eq] at h1
      exact ⟨Φ', m + 1, hk', Nat.le_refl _, h1, h⟩
    · obtain ⟨Φ'', j, h2, h3, h4, h5⟩ := sel_enumE m hk' h
      exact ⟨Φ'', j, h2, by omega, h4, h5⟩
def enumL {α : Type} (e : IE) (n : Nat) (Φ : Facts) (k : Facts → Nat → T α) : T α :=
  match e with
  | .lit j => if decide (0 ≤ j) && Nat.ble j.toNat n then k Φ j.toNat else (.fail [])
  | e => enumE e k n Φ
theorem sel_enumL {α : Type} {ρ : Rho} {e : IE} {k : Facts → Nat → T α} {a : α} {n : Nat} {Φ : Facts} (hk : Facts.ok ρ Φ) (h : (enumL e n Φ k).sel ρ = some a) : ∃ Φ' j, Facts.ok ρ Φ' ∧ j ≤ n ∧ e.den ρ = (j : Nat) ∧ (k Φ' j).sel ρ = some a := by
  unfold enumL at h
  split at h
  · split at h
    · rename_i j hc
      simp only [Bool.and_eq_true, decide_eq_true_eq, Nat.ble_eq] at hc
      exact ⟨Φ, j.toNat, hk, hc.2, by simp only [IE.den]; omega, h⟩
    · cases h
  · exact sel_enumE n hk h
def bndX : Option X → IE → Option IE
  | none, d => some d
  | some (.sc (.i _ e)), _ => some e
  | _, _ => none
theorem bndX_den {ρ : Rho} {x : Option X} {d e : IE} {dn : Nat} (h : bndX x d = some e) (hd : d.den ρ = dn) {j : Nat} (he : e.den ρ = j) : bndN dn (x.map (X.den ρ)) = some j := by
  unfold bndX at h
  split at h
  · cases h
    simp only [Option.map_none, bndN, Option.some.injEq]; omega
  · cases h
    simp only [Option.map_some, X.den, Sc.den, bndN, he]
    rw [if_pos (by omega), Int.toNat_natCast]
  · cases h
def topE (i : TI) : X → IE
  | .ro _ es _ => .lit es.length
  | .rl _ n _ _ => n
  | .sl _ _ _ len _ => .lit len
  | .ptr _ _ _ => match i.arr with | some (len, _) => .lit len | none => .lit 0
  | .sc (.s t) => mkSlen t
  | _ => .lit 0
def ptr1 (n : Nm) (z l k : Nat) : List (BE × Nat) → Nat → Option X
  | [], d => some (.sl n z (d + l * z) k false)
  | _, _ => none
def slX (i : TI) (h : XHp) (Φ : Facts) (x : X) (lo hi : IE) (hn : Bool) : T X :=
  match x with
  | .ro z es full => match i.sl with
    | some (_, z') => if Nat.beq z' z = true then enumL hi es.length Φ fun Φ hh => enumL lo hh Φ fun _ l => .ret (.ro z ((es.take hh).drop l) (full && Nat.beq hh es.length)) else (.fail [])
    | none => (.fail [])
  | .rl z n l full => match i.sl with
    | some (_, z') => if Nat.beq z' z = true then
        want Φ (mkNot (mkLt lo (.lit 0))) fun Φ => want Φ (mkNot (mkLt (mkSub hi lo) (.lit 0))) fun Φ => want Φ (mkNot (mkLt n hi)) fun _ =>
          .ret (.rl z (mkSub hi lo) (match lo with | .lit 0 => l | lo => .drop lo l) (full && hn))
      else (.fail [])
    | none => (.fail [])
  | .sl n z off len own => match i.sl with
    | some (_, z') => if (Nat.beq z' z && okPtr h n) = true then enumL hi len Φ fun Φ hh => enumL lo hh Φ fun _ l => .ret (.sl n z (off + l * z) (hh - l) own) else (.fail [])
    | none => (.fail [])
  | .ptr n as d => match i.arr with
    | some (len, z) => if okPtr h n = true then enumL hi len Φ fun Φ hh => enumL lo hh Φ fun _ l => retO (ptr1 n z l (hh - l) as d) else (.fail [])
    | none => (.fail [])
  | .sc (.s t) => if i.str = true then
      want Φ (mkNot (mkLt lo (.lit 0))) fun Φ => want Φ (mkNot (mkLt hi lo)) fun Φ => want Φ (mkNot (mkLt (mkSlen t) hi)) fun _ =>
        .ret (.sc (.s (if (lo.beq (.lit 0) && hi.beq (mkSlen t)) = true then t else .sub t lo hi)))
    else (.fail [])
  | _ => (.fail [])

theorem not_lt_den {ρ : Rho} {a b : IE} (h : (mkNot (mkLt a b)).den ρ = true) : ¬ a.den ρ < b.den ρ := fun hh => by
  rw [mkNot_den, mkLt_den, decide_eq_true hh] at h; cases h
theorem rows_sub {ρ : Rho} {n hi lo : IE} {l : RL} {a b : Nat} (h1 : lo.den ρ = a) (h2 : hi.den ρ = b) (h3 : (b : Int) ≤ n.den ρ) (hab : a ≤ b) (m : RL) (hm : ∀ j : Nat, m.row ρ j = l.row ρ ((j + a : Nat) : Int)) :
    rowsD ρ (mkSub hi lo) m = ((rowsD ρ n l).take b).drop a := by
  unfold rowsD
  apply List.ext_getElem?
  intro j
  rw [mkSub_den, h1, h2, List.getElem?_drop, List.getElem?_take, List.getElem?_map, List.getElem?_map]
  by_cases hj : j < b - a
  · rw [List.getElem?_range (by omega), if_pos (by omega), List.getElem?_range (by omega)]
    simp only [Option.map_some, Option.some.injEq]
    rw [hm j, Nat.add_comm]
  · rw [List.getElem?_eq_none (by simp; omega)]
    by_cases hj2 : a + j < b
    · omega
    · rw [if_neg hj2]; rfl

theorem ro_full {C : Ctx} {z : Nat} {es : List (List AV)} {f f' : Bool} (hf : f' = true → f = true) {u : Value} (h : Conc C (.ro z es f) u) : Conc C (.ro z es f') u := by
  obtain ⟨A, cap, h1, h2, h3, h4⟩ := conc_ro.1 h
  exact conc_ro.2 ⟨A, cap, h1, h2, fun hh => h3 (hf hh), h4⟩
/-- One value says no more than another one. -/
def LeA (a b : AV) : Prop := ∀ (C : Ctx) (u : Value), Conc C b u → Conc C a u
theorem LeA.refl (a : AV) : LeA a a := fun _ _ h => h
theorem LeA.top (b : AV) : LeA .top b := fun _ _ _ => by simp only [Conc]
theorem LeA.of_eq {a b : AV} (h : a = b) : LeA a b := by subst h; exact LeA.refl a

theorem slX_den {P : Program} {ρ : Rho} {ty : TypeId} {h : XHp} {Φ : Facts} {x v : X} {lo hi : Option X} {l r : IE} (hk : Facts.ok ρ Φ) (hl : bndX lo (.lit 0) = some l) (hr : bndX hi (topE (tiOf P ty) x) = some r)
    (hv : (slX (tiOf P ty) h Φ x l r hi.isNone).sel ρ = some v) : ∃ w, sliceN P (denH ρ h) ty (x.den ρ) (lo.map (X.den ρ)) (hi.map (X.den ρ)) none = some w ∧ LeA (v.den ρ) w := by
  unfold slX at hv
  simp only [sliceN]
  split at hv
  · split at hv
    · rename_i z es full _ ee z' ha
      have ha' : slT P ty = some (ee, z') := ha
      split at hv
      · rename_i hz
        have hz := Nat.eq_of_beq_eq_true hz
        subst hz
        obtain ⟨Φ1, b, hk1, hb, hb2, hv⟩ := sel_enumL hk hv
        obtain ⟨Φ2, a, hk2, ha1, ha2, hv⟩ := sel_enumL hk1 hv
        cases hv
        have e1 := bndX_den (ρ := ρ) hl (dn := 0) (by simp [IE.den]) ha2
        have e2 := bndX_den (ρ := ρ) hr (dn := topN P ty ((X.ro z' es full).den ρ)) (by simp [IE.den, topE, X.den, topN, X.denE_eq]) hb2
        rw [e1, e2]
        have hlen : (X.denE ρ es).length = es.length := by simp [X.denE_eq]
        simp only [slN, X.den, ha', hlen]
        rw [if_pos ⟨trivial, ha1, hb⟩]
        refine ⟨_, rfl, LeA.of_eq ?_⟩
        have hbe : (Nat.beq b es.length) = (b == es.length) := natbeq _ _
        simp only [X.denE_eq, List.map_drop, List.map_take, hbe]
      · cases hv
    · cases hv
  · split at hv
    · rename_i z n rl full _ ee z' ha
      have ha' : slT P ty = some (ee, z') := ha
      split at hv
      · rename_i hz
        have hz := Nat.eq_of_beq_eq_true hz
        subst hz
        obtain ⟨Φ1, hk1, c1, hv⟩ := sel_want hk hv
        obtain ⟨Φ2, hk2, c2, hv⟩ := sel_want hk1 hv
        obtain ⟨Φ3, hk3, c3, hv⟩ := sel_want hk2 hv
        cases hv
        have c1 := not_lt_den c1
        have c2 := not_lt_den c2
        have c3 := not_lt_den c3
        rw [mkSub_den] at c2
        simp only [IE.den] at c1 c2
        obtain ⟨a, ha2⟩ : ∃ a : Nat, l.den ρ = a := ⟨(l.den ρ).toNat, by omega⟩
        obtain ⟨b, hb2⟩ : ∃ b : Nat, r.den ρ = b := ⟨(r.den ρ).toNat, by omega⟩
        have hlen : (rowsD ρ n rl).length = (n.den ρ).toNat := by simp [rowsD]
        have e1 := bndX_den (ρ := ρ) hl (dn := 0) (by simp [IE.den]) ha2
        have e2 := bndX_den (ρ := ρ) hr (dn := topN P ty ((X.rl z' n rl full).den ρ)) (by simp only [topE, X.den, topN, hlen]; omega) hb2
        rw [e1, e2]
        simp only [slN, X.den, ha', hlen]
        rw [if_pos ⟨trivial, by omega, by omega⟩]
        refine ⟨_, rfl, ?_⟩
        rw [rows_sub (n := n) (l := rl) ha2 hb2 (by omega) (by omega) _ (fun j => ?_)]
        · intro C u hu
          refine ro_full (fun hf => ?_) hu
          simp only [Bool.and_eq_true] at hf ⊢
          refine ⟨hf.1, ?_⟩
          cases hi with
          | some y => simp at hf
          | none =>
            simp only [bndX, topE, Option.some.injEq] at hr
            subst hr
            simp only [beq_iff_eq]; omega
        · split
          · simp only [IE.den] at ha2
            rw [show j + a = j from by omega]
          · simp only [RL.row, ha2]
            congr 1
      · cases hv
    · cases hv
  · split at hv
    · rename_i n z off len own _ ee z' ha
      have ha' : slT P ty = some (ee, z') := ha
      split at hv
      · rename_i hz
        simp only [Bool.and_eq_true] at hz
        have hz1 := Nat.eq_of_beq_eq_true hz.1
        subst hz1
        obtain ⟨Φ1, b, hk1, hb, hb2, hv⟩ := sel_enumL hk hv
        obtain ⟨Φ2, a, hk2, ha1, ha2, hv⟩ := sel_enumL hk1 hv
        cases hv
        have e1 := bndX_den (ρ := ρ) hl (dn := 0) (by simp [IE.den]) ha2
        have e2 := bndX_den (ρ := ρ) hr (dn := topN P ty ((X.sl n z' off len own).den ρ)) (by simp [IE.den, topE, X.den, topN]) hb2
        rw [e1, e2]
        simp only [slN, X.den, ha']
        rw [if_pos ⟨trivial, okPtr_den hz.2, ha1, hb⟩]
        exact ⟨_, rfl, LeA.refl _⟩
      · cases hv
    · cases hv
  · split at hv
    · rename_i n as d _ len z ha
      have ha' : arrT P ty = some (len, z) := ha
      split at hv
      · rename_i hz
        obtain ⟨Φ1, b, hk1, hb, hb2, hv⟩ := sel_enumL hk hv
        obtain ⟨Φ2, a, hk2, ha1, ha2, hv⟩ := sel_enumL hk1 hv
        have hv := sel_retO hv
        unfold ptr1 at hv
        split at hv
        · cases hv
          have e1 := bndX_den (ρ := ρ) hl (dn := 0) (by simp [IE.den]) ha2
          have e2 := bndX_den (ρ := ρ) hr (dn := topN P ty ((X.ptr n [] d).den ρ)) (by simp [IE.den, topE, X.den, topN, ha', ha]) hb2
          rw [e1, e2]
          simp only [slN, X.den, ha', choose]
          rw [if_pos ⟨okPtr_den hz, ha1, hb⟩]
          exact ⟨_, rfl, LeA.refl _⟩
        · cases hv
      · cases hv
    · cases hv
  · split at hv
    · rename_i t hs
      have hs' : strT P ty = true := hs
      obtain ⟨Φ1, hk1, c1, hv⟩ := sel_want hk hv
      obtain ⟨Φ2, hk2, c2, hv⟩ := sel_want hk1 hv
      obtain ⟨Φ3, hk3, c3, hv⟩ := sel_want hk2 hv
      cases hv
      have c1 := not_lt_den c1
      have c2 := not_lt_den c2
      have c3 := not_lt_den c3
      rw [mkSlen_den] at c3
      simp only [IE.den] at c1
      obtain ⟨a, ha2⟩ : ∃ a : Nat, l.den ρ = a := ⟨(l.den ρ).toNat, by omega⟩
      obtain ⟨b, hb2⟩ : ∃ b : Nat, r.den ρ = b := ⟨(r.den ρ).toNat, by omega⟩
      have e1 := bndX_den (ρ := ρ) hl (dn := 0) (by simp [IE.den]) ha2
      have e2 := bndX_den (ρ := ρ) hr (dn := topN P ty ((X.sc (.s t)).den ρ)) (by simp only [topE, X.den, Sc.den, topN, mkSlen_den]) hb2
      rw [e1, e2]
      simp only [slN, X.den, Sc.den, hs']
      rw [if_pos ⟨trivial, by omega, by omega⟩]
      refine ⟨_, rfl, LeA.of_eq ?_⟩
      split
      · rename_i hc
        simp only [Bool.and_eq_true] at hc
        have h1 := IE.beq_eq _ _ hc.1
        have h2 := IE.beq_eq _ _ hc.2
        subst h1 h2
        rw [mkSlen_den] at hb2
        simp only [IE.den] at ha2
        have ha0 : a = 0 := by omega
        have hbs : b = (t.den ρ).size := by omega
        rw [ha0, hbs, ByteArray.extract_zero_size]
      · simp only [TE.den, ha2, hb2, Int.toNat_natCast]
    · cases hv
  · cases hv

/-! ### Slices with three indexes -/
def litN : X → Option Nat
  | .sc (.i _ (.lit n)) => if 0 ≤ n then some n.toNat else none
  | _ => none
theorem litN_den {ρ : Rho} {x : X} {n : Nat} (h : litN x = some n) : bndN 0 (some (x.den ρ)) = some n := by
  unfold litN at h
  split at h
  · split at h
    · rename_i h0
      cases h
      simp only [X.den, Sc.den, IE.den, bndN]
      rw [if_pos h0]
    · cases h
  · cases h
def sl3X (i : TI) (h : XHp) (x : X) (lo : Option X) (hi mx : X) : Option X :=
  match (match lo with | none => some 0 | some v => litN v), litN hi, litN mx with
  | some l, some hh, some m => match x with
    | .ro z es _ => match i.sl with
      | some (_, z') => if (Nat.beq z' z && (Nat.ble l hh && (Nat.ble hh m && Nat.ble m es.length))) = true then some (.ro z ((es.take hh).drop l) (Nat.beq m hh)) else none
      | none => none
    | .sl n z _ len _ => match i.sl with
      | some (_, z') => if (Nat.beq z' z && (okPtr h n && (Nat.beq hh l && (Nat.beq m l && Nat.ble l len)))) = true then some (.ro z [] true) else none
      | none => none
    | _ => none
  | _, _, _ => none
theorem sl3X_den {P : Program} {ρ : Rho} {ty : TypeId} {h : XHp} {x hi mx v : X} {lo : Option X} (hv : sl3X (tiOf P ty) h x lo hi mx = some v) : sliceN P (denH ρ h) ty (x.den ρ) (lo.map (X.den ρ)) (some (hi.den ρ)) (some (mx.den ρ)) = some (v.den ρ) := by
  unfold sl3X at hv
  split at hv
  · rename_i l hh m h1 h2 h3
    have e1 : bndN 0 (lo.map (X.den ρ)) = some l := by
      cases lo with
      | none => cases h1; rfl
      | some w => exact litN_den h1
    have e2 := litN_den (ρ := ρ) h2
    have e3 := litN_den (ρ := ρ) h3
    simp only [sliceN, e1, e2, e3, slN3]
    split at hv
    · rename_i z es f
      split at hv
      · rename_i ee z' ha
        have ha' : slT P ty = some (ee, z') := ha
        split at hv
        · rename_i hc
          cases hv
          simp only [Bool.and_eq_true, Nat.ble_eq] at hc
          obtain ⟨c1, c2, c3, c4⟩ := hc
          have c1 := Nat.eq_of_beq_eq_true c1
          simp only [X.den, ha']
          have hlen : (X.denE ρ es).length = es.length := by simp [X.denE_eq]
          rw [if_pos ⟨c1, c2, c3, by rw [hlen]; exact c4⟩]
          have : Nat.beq m hh = (m == hh) := by rw [Bool.eq_iff_iff]; simp
          rw [this]
          simp [X.denE_eq, List.map_take, List.map_drop]
        · cases hv
      · cases hv
    · rename_i n z off len own
      split at hv
      · rename_i ee z' ha
        have ha' : slT P ty = some (ee, z') := ha
        split at hv
        · rename_i hc
          cases hv
          simp only [Bool.and_eq_true, Nat.ble_eq] at hc
          obtain ⟨c1, c2, c3, c4, c5⟩ := hc
          simp only [X.den, ha']
          rw [if_pos ⟨Nat.eq_of_beq_eq_true c1, okPtr_den c2, Nat.eq_of_beq_eq_true c3, Nat.eq_of_beq_eq_true c4, c5⟩]
          rfl
        · cases hv
      · cases hv
    · cases hv
  · cases hv
end Go.Proofs.Xw
