/- Symbolic runs, part 19: letters that are put anew at each round of a loop; a state under a loop's pattern. -/
import Derived.Test.YtcllappmhdfffaaXw20
import Derived.Test.YtcllappmhdfffaaAw23
namespace Go.Proofs.Xw
open Go Go.Proofs.Aw

/-! ### Letters below a number -/
structure Agree (n : Nat) (ρ ρ' : Rho) : Prop where
  i : ∀ k, k < n → ρ.i k = ρ'.i k
  b : ∀ k, k < n → ρ.b k = ρ'.b k
  s : ∀ k, k < n → ρ.s k = ρ'.s k
  len : ∀ k, k < n → ρ.len k = ρ'.len k
  ci : ∀ k, k < n → ρ.ci k = ρ'.ci k
  cb : ∀ k, k < n → ρ.cb k = ρ'.cb k
  cs : ∀ k, k < n → ρ.cs k = ρ'.cs k
theorem Agree.refl (n : Nat) (ρ : Rho) : Agree n ρ ρ := ⟨fun _ _ => rfl, fun _ _ => rfl, fun _ _ => rfl, fun _ _ => rfl, fun _ _ => rfl, fun _ _ => rfl, fun _ _ => rfl⟩
theorem Agree.symm {n : Nat} {ρ ρ' : Rho} (h : Agree n ρ ρ') : Agree n ρ' ρ :=
  ⟨fun k hk => (h.i k hk).symm, fun k hk => (h.b k hk).symm, fun k hk => (h.s k hk).symm, fun k hk => (h.len k hk).symm, fun k hk => (h.ci k hk).symm, fun k hk => (h.cb k hk).symm, fun k hk => (h.cs k hk).symm⟩
theorem Agree.trans {n : Nat} {a b c : Rho} (h : Agree n a b) (k : Agree n b c) : Agree n a c :=
  ⟨fun j hj => (h.i j hj).trans (k.i j hj), fun j hj => (h.b j hj).trans (k.b j hj), fun j hj => (h.s j hj).trans (k.s j hj), fun j hj => (h.len j hj).trans (k.len j hj), fun j hj => (h.ci j hj).trans (k.ci j hj), fun j hj => (h.cb j hj).trans (k.cb j hj), fun j hj => (h.cs j hj).trans (k.cs j hj)⟩
theorem Agree.le {m n : Nat} {ρ ρ' : Rho} (h : Agree n ρ ρ') (hm : m ≤ n) : Agree m ρ ρ' :=
  ⟨fun k hk => h.i k (by omega), fun k hk => h.b k (by omega), fun k hk => h.s k (by omega), fun k hk => h.len k (by omega), fun k hk => h.ci k (by omega), fun k hk => h.cb k (by omega), fun k hk => h.cs k (by omega)⟩
mutual
def IE.bel (n : Nat) : IE → Bool
  | .lit _ => true
  | .var i => Nat.blt i n
  | .cl l _ j => Nat.blt l n && j.bel n
  | .len l => Nat.blt l n
  | .slen t => t.bel n
  | .byt t j => t.bel n && j.bel n
  | .op _ _ a b => a.bel n && b.bel n
  | .ite c a b => c.bel n && (a.bel n && b.bel n)
def BE.bel (n : Nat) : BE → Bool
  | .lit _ => true
  | .var i => Nat.blt i n
  | .cl l _ j => Nat.blt l n && j.bel n
  | .lt a b => a.bel n && b.bel n
  | .eq a b => a.bel n && b.bel n
  | .seq a b => a.bel n && b.bel n
  | .slt a b => a.bel n && b.bel n
  | .not a => a.bel n
  | .and a b => a.bel n && b.bel n
  | .or a b => a.bel n && b.bel n
  | .ite c a b => c.bel n && (a.bel n && b.bel n)
def TE.bel (n : Nat) : TE → Bool
  | .lit _ => true
  | .var i => Nat.blt i n
  | .cl l _ j => Nat.blt l n && j.bel n
  | .sub t a b => t.bel n && (a.bel n && b.bel n)
  | .ite c a b => c.bel n && (a.bel n && b.bel n)
end
mutual
theorem IE.bel_den {n : Nat} {ρ ρ' : Rho} (h : Agree n ρ ρ') : ∀ e : IE, e.bel n = true → e.den ρ = e.den ρ'
  | .lit _, _ => rfl
  | .var i, hb => h.i i (by simpa [IE.bel] using hb)
  | .cl l k j, hb => by
    simp only [IE.bel, Bool.and_eq_true] at hb
    simp only [IE.den, IE.bel_den h j hb.2, h.ci l (by simpa using hb.1)]
  | .len l, hb => by simp only [IE.den, h.len l (by simpa [IE.bel] using hb)]
  | .slen t, hb => by simp only [IE.den, TE.bel_den h t hb]
  | .byt t j, hb => by
    simp only [IE.bel, Bool.and_eq_true] at hb
    simp only [IE.den, TE.bel_den h t hb.1, IE.bel_den h j hb.2]
  | .op o k a b, hb => by
    simp only [IE.bel, Bool.and_eq_true] at hb
    simp only [IE.den, IE.bel_den h a hb.1, IE.bel_den h b hb.2]
  | .ite c a b, hb => by
    simp only [IE.bel, Bool.and_eq_true] at hb
    simp only [IE.den, BE.bel_den h c hb.1, IE.bel_den h a hb.2.1, IE.bel_den h b hb.2.2]
theorem BE.bel_den {n : Nat} {ρ ρ' : Rho} (h : Agree n ρ ρ') : ∀ e : BE, e.bel n = true → e.den ρ = e.den ρ'
  | .lit _, _ => rfl
  | .var i, hb => h.b i (by simpa [BE.bel] using hb)
  | .cl l k j, hb => by
    simp only [BE.bel, Bool.and_eq_true] at hb
    simp only [BE.den, IE.bel_den h j hb.2, h.cb l (by simpa using hb.1)]
  | .lt a b, hb => by
    simp only [BE.bel, Bool.and_eq_true] at hb
    simp only [BE.den, IE.bel_den h a hb.1, IE.bel_den h b hb.2]
  | .eq a b, hb => by
    simp only [BE.bel, Bool.and_eq_true] at hb
    simp only [BE.den, IE.bel_den h a hb.1, IE.bel_den h b hb.2]
  | .seq a b, hb => by
    simp only [BE.bel, Bool.and_eq_true] at hb
    simp only [BE.den, TE.bel_den h a hb.1, TE.bel_den h b hb.2]
  | .slt a b, hb => by
    simp only [BE.bel, Bool.and_eq_true] at hb
    simp only [BE.den, TE.bel_den h a hb.1, TE.bel_den h b hb.2]
  | .not a, hb => by simp only [BE.den, BE.bel_den h a hb]
  | .and a b, hb => by
    simp only [BE.bel, Bool.and_eq_true] at hb
    simp only [BE.den, BE.bel_den h a hb.1, BE.bel_den h b hb.2]
  | .or a b, hb => by
    simp only [BE.bel, Bool.and_eq_true] at hb
    simp only [BE.den, BE.bel_den h a hb.1, BE.bel_den h b hb.2]
  | .ite c a b, hb => by
    simp only [BE.bel, Bool.and_eq_true] at hb
    simp only [BE.den, BE.bel_den h c hb.1, BE.bel_den h a hb.2.1, BE.bel_den h b hb.2.2]
theorem TE.bel_den {n : Nat} {ρ ρ' : Rho} (h : Agree n ρ ρ') : ∀ e : TE, e.bel n = true → e.den ρ = e.den ρ'
  | .lit _, _ => rfl
  | .var i, hb => h.s i (by simpa [TE.bel] using hb)
  | .cl l k j, hb => by
    simp only [TE.bel, Bool.and_eq_true] at hb
    simp only [TE.den, IE.bel_den h j hb.2, h.cs l (by simpa using hb.1)]
  | .sub t a b, hb => by
    simp only [TE.bel, Bool.and_eq_true] at hb
    simp only [TE.den, TE.bel_den h t hb.1, IE.bel_den h a hb.2.1, IE.bel_den h b hb.2.2]
  | .ite c a b, hb => by
    simp only [TE.bel, Bool.and_eq_true] at hb
    simp only [TE.den, BE.bel_den h c hb.1, TE.bel_den h a hb.2.1, TE.bel_den h b hb.2.2]
end
def Sc.bel (n : Nat) : Sc → Bool
  | .i _ e => e.bel n
  | .b e => e.bel n
  | .s e => e.bel n
theorem Sc.bel_den {n : Nat} {ρ ρ' : Rho} (h : Agree n ρ ρ') (s : Sc) (hb : s.bel n = true) : s.den ρ = s.den ρ' := by
  cases s with
  | i k e => simp only [Sc.den, IE.bel_den h e hb]
  | b e => simp only [Sc.den, BE.bel_den h e hb]
  | s e => simp only [Sc.den, TE.bel_den h e hb]
theorem scL_bel {n : Nat} {ρ ρ' : Rho} (h : Agree n ρ ρ') : ∀ (r : List Sc), r.all (Sc.bel n) = true → scL ρ r = scL ρ' r
  | [], _ => rfl
  | s :: r, hb => by
    simp only [List.all_cons, Bool.and_eq_true] at hb
    have ih := scL_bel h r hb.2
    simp only [scL] at ih
    simp only [scL, List.map_cons, Sc.bel_den h s hb.1, ih]
theorem cellsV_agree {n : Nat} {ρ ρ' : Rho} (h : Agree n ρ ρ') {l : Nat} (hl : l < n) (j : Nat) : ∀ (ks : List Kd) (k : Nat), cellsV ρ l k ks j = cellsV ρ' l k ks j
  | [], _ => rfl
  | .i K :: ks, k => by simp only [cellsV, h.ci l hl, cellsV_agree h hl j ks (k + 1)]
  | .b :: ks, k => by simp only [cellsV, h.cb l hl, cellsV_agree h hl j ks (k + 1)]
  | .s :: ks, k => by simp only [cellsV, h.cs l hl, cellsV_agree h hl j ks (k + 1)]
def RL.bel (n : Nat) : RL → Bool
  | .var l _ => Nat.blt l n
  | .one r => r.all (Sc.bel n)
  | .app m a b => m.bel n && (a.bel n && b.bel n)
  | .drop m a => m.bel n && a.bel n
  | .upd i r a => i.bel n && (r.all (Sc.bel n) && a.bel n)
  | .ite c a b => c.bel n && (a.bel n && b.bel n)
theorem RL.bel_row {n : Nat} {ρ ρ' : Rho} (h : Agree n ρ ρ') : ∀ (l : RL) (j : Int), l.bel n = true → l.row ρ j = l.row ρ' j
  | .var l ks, j, hb => cellsV_agree h (by simpa [RL.bel] using hb) _ ks 0
  | .one r, j, hb => scL_bel h r hb
  | .app m a b, j, hb => by
    simp only [RL.bel, Bool.and_eq_true] at hb
    simp only [RL.row, IE.bel_den h m hb.1, RL.bel_row h a _ hb.2.1, RL.bel_row h b _ hb.2.2]
  | .drop m a, j, hb => by
    simp only [RL.bel, Bool.and_eq_true] at hb
    simp only [RL.row, IE.bel_den h m hb.1, RL.bel_row h a _ hb.2]
  | .upd i r a, j, hb => by
    simp only [RL.bel, Bool.and_eq_true] at hb
    simp only [RL.row, IE.bel_den h i hb.1, scL_bel h r hb.2.1, RL.bel_row h a _ hb.2.2]
  | .ite c a b, j, hb => by
    simp only [RL.bel, Bool.and_eq_true] at hb
    simp only [RL.row, BE.bel_den h c hb.1, RL.bel_row h a _ hb.2.1, RL.bel_row h b _ hb.2.2]
theorem rowsD_bel {n : Nat} {ρ ρ' : Rho} (h : Agree n ρ ρ') {m : IE} {l : RL} (hm : m.bel n = true) (hl : l.bel n = true) : rowsD ρ m l = rowsD ρ' m l := by
  unfold rowsD
  rw [IE.bel_den h m hm]
  congr 1
  funext j
  exact RL.bel_row h l j hl
def asBel (n : Nat) : List (BE × Nat) → Bool
  | [] => true
  | (c, _) :: r => c.bel n && asBel n r
theorem choose_bel {n : Nat} {ρ ρ' : Rho} (h : Agree n ρ ρ') (d : Nat) : ∀ as, asBel n as = true → choose ρ as d = choose ρ' as d
  | [], _ => rfl
  | (c, o) :: r, hb => by
    simp only [asBel, Bool.and_eq_true] at hb
    simp only [choose, BE.bel_den h c hb.1, choose_bel h d r hb.2]
mutual
def X.bel (n : Nat) : X → Bool
  | .top | .k _ => true
  | .sc s => s.bel n
  | .agg cs | .tup cs => X.belL n cs
  | .ptr _ as _ => asBel n as
  | .sl _ _ _ _ _ => true
  | .ip cs as _ => X.belL n cs && asBel n as
  | .ro _ es _ => X.belE n es
  | .rl _ m l _ => m.bel n && l.bel n
  | .fn _ xs ys => X.belL n xs && X.belL n ys
  | .gd c x => c.bel n && x.bel n
  | .rows _ m l => m.bel n && l.bel n
  | .slv _ _ o l _ => o.bel n && l.bel n
  | .ptrv _ _ j _ => j.bel n
def X.belL (n : Nat) : List X → Bool
  | [] => true
  | x :: xs => x.bel n && X.belL n xs
def X.belE (n : Nat) : List (List X) → Bool
  | [] => true
  | e :: es => X.belL n e && X.belE n es
end
mutual
theorem X.bel_den {n : Nat} {ρ ρ' : Rho} (h : Agree n ρ ρ') : ∀ x : X, x.bel n = true → x.den ρ = x.den ρ'
  | .top, _ => rfl
  | .k _, _ => rfl
  | .sc s, hb => by simp only [X.den, Sc.bel_den h s hb]
  | .agg cs, hb => by simp only [X.den, X.belL_den h cs hb]
  | .tup cs, hb => by simp only [X.den, X.belL_den h cs hb]
  | .ptr _ as d, hb => by simp only [X.den, choose_bel h d as hb]
  | .sl _ _ _ _ _, _ => rfl
  | .ip cs as d, hb => by
    simp only [X.bel, Bool.and_eq_true] at hb
    simp only [X.den, X.belL_den h cs hb.1, choose_bel h d as hb.2]
  | .ro _ es _, hb => by simp only [X.den, X.belE_den h es hb]
  | .rl _ m l _, hb => by
    simp only [X.bel, Bool.and_eq_true] at hb
    simp only [X.den, rowsD_bel h hb.1 hb.2]
  | .fn _ xs ys, hb => by
    simp only [X.bel, Bool.and_eq_true] at hb
    simp only [X.den, X.belL_den h xs hb.1, X.belL_den h ys hb.2]
  | .gd c x, hb => by
    simp only [X.bel, Bool.and_eq_true] at hb
    simp only [X.den, BE.bel_den h c hb.1, X.bel_den h x hb.2]
  | .rows _ _ _, _ => rfl
  | .slv _ _ o l _, hb => by
    simp only [X.bel, Bool.and_eq_true] at hb
    simp only [X.den, IE.bel_den h o hb.1, IE.bel_den h l hb.2]
  | .ptrv _ _ j _, hb => by
    simp only [X.den, IE.bel_den h j hb]
theorem X.belL_den {n : Nat} {ρ ρ' : Rho} (h : Agree n ρ ρ') : ∀ l : List X, X.belL n l = true → X.denL ρ l = X.denL ρ' l
  | [], _ => rfl
  | x :: xs, hb => by
    simp only [X.belL, Bool.and_eq_true] at hb
    simp only [X.denL, X.bel_den h x hb.1, X.belL_den h xs hb.2]
theorem X.belE_den {n : Nat} {ρ ρ' : Rho} (h : Agree n ρ ρ') : ∀ l : List (List X), X.belE n l = true → X.denE ρ l = X.denE ρ' l
  | [], _ => rfl
  | x :: xs, hb => by
    simp only [X.belE, Bool.and_eq_true] at hb
    simp only [X.denE, X.belL_den h x hb.1, X.belE_den h xs hb.2]
end
theorem denO_bel {n : Nat} {ρ ρ' : Rho} (h : Agree n ρ ρ') (cs : List X) (hb : X.belL n cs = true) : denO ρ cs = denO ρ' cs := by
  unfold denO
  split
  · simp only [X.belL, X.bel, Bool.and_eq_true] at hb
    simp only [rowsD_bel h hb.1.1 hb.1.2]
  · exact X.belL_den h cs hb
def XS.bel (n : Nat) (s : XS) : Bool := s.t.all (fun p => p.2.bel n) && s.h.all fun p => X.belL n p.2
theorem XS.bel_den {n : Nat} {ρ ρ' : Rho} (h : Agree n ρ ρ') (s : XS) (hb : s.bel n = true) : s.den ρ = s.den ρ' := by
  simp only [XS.bel, Bool.and_eq_true, List.all_eq_true] at hb
  simp only [XS.den, denT, denH]
  congr 1
  · exact List.map_congr_left fun p hp => by rw [X.bel_den h p.2 (hb.1 p hp)]
  · exact List.map_congr_left fun p hp => by rw [denO_bel h p.2 (hb.2 p hp)]

/-! ### Letters that are put anew -/
structure Bind where
  i : List (Nat × IE)
  b : List (Nat × BE)
  s : List (Nat × TE)
  r : List (Nat × IE × RL)
def lassoc {α : Type} (k : Nat) : List (Nat × α) → Option α
  | [] => none
  | (j, v) :: r => if Nat.beq j k = true then some v else lassoc k r
def cellI : Option AV → Int
  | some (.sc (.int _ v)) => v
  | _ => 0
def cellB : Option AV → Bool
  | some (.sc (.bool v)) => v
  | _ => false
def cellS : Option AV → ByteArray
  | some (.sc (.string v)) => v
  | _ => ⟨#[]⟩
def Bind.ap (β : Bind) (ρ : Rho) : Rho where
  i k := match lassoc k β.i with | some e => e.den ρ | none => ρ.i k
  b k := match lassoc k β.b with | some e => e.den ρ | none => ρ.b k
  s k := match lassoc k β.s with | some e => e.den ρ | none => ρ.s k
  len k := match lassoc k β.r with | some (n, _) => (n.den ρ).toNat | none => ρ.len k
  ci l k j := match lassoc l β.r with | some (_, r) => cellI (r.row ρ j)[k]? | none => ρ.ci l k j
  cb l k j := match lassoc l β.r with | some (_, r) => cellB (r.row ρ j)[k]? | none => ρ.cb l k j
  cs l k j := match lassoc l β.r with | some (_, r) => cellS (r.row ρ j)[k]? | none => ρ.cs l k j
def keysGe {α : Type} (n : Nat) : List (Nat × α) → Bool
  | [] => true
  | (j, _) :: r => Nat.ble n j && keysGe n r
theorem lassoc_ge {α : Type} {n k : Nat} : ∀ {l : List (Nat × α)}, keysGe n l = true → k < n → lassoc k l = none
  | [], _, _ => rfl
  | (j, v) :: r, h, hk => by
    simp only [keysGe, Bool.and_eq_true, Nat.ble_eq] at h
    simp only [lassoc]
    rw [if_neg (by simp; omega)]
    exact lassoc_ge h.2 hk
def Bind.ge (n : Nat) (β : Bind) : Bool := keysGe n β.i && (keysGe n β.b && (keysGe n β.s && keysGe n β.r))
theorem Bind.agree {n : Nat} {β : Bind} (h : β.ge n = true) (ρ : Rho) : Agree n ρ (β.ap ρ) := by
  simp only [Bind.ge, Bool.and_eq_true] at h
  obtain ⟨h1, h2, h3, h4⟩ := h
  refine ⟨fun k hk => ?_, fun k hk => ?_, fun k hk => ?_, fun k hk => ?_, fun k hk => ?_, fun k hk => ?_, fun k hk => ?_⟩
  · simp only [Bind.ap, lassoc_ge h1 hk]
  · simp only [Bind.ap, lassoc_ge h2 hk]
  · simp only [Bind.ap, lassoc_ge h3 hk]
  · simp only [Bind.ap, lassoc_ge h4 hk]
  · funext a b; simp only [Bind.ap, lassoc_ge h4 hk]
  · funext a b; simp only [Bind.ap, lassoc_ge h4 hk]
  · funext a b; simp only [Bind.ap, lassoc_ge h4 hk]
/-- It is no negative number. -/
def IE.nn : IE → Bool
  | .lit n => decide (0 ≤ n)
  | .len _ | .slen _ | .byt _ _ => true
  | .op .padd _ a b => a.nn && b.nn
  | .ite _ a b => a.nn && b.nn
  | _ => false
theorem IE.nn_den (ρ : Rho) : ∀ e : IE, e.nn = true → 0 ≤ e.den ρ
  | .lit n, h => by simpa [IE.nn, IE.den] using h
  | .len l, _ => by simp only [IE.den]; omega
  | .slen t, _ => by simp only [IE.den]; omega
  | .byt t j, _ => by simp only [IE.den]; omega
  | .op .padd k a b, h => by
    simp only [IE.nn, Bool.and_eq_true] at h
    have h1 := IE.nn_den ρ a h.1
    have h2 := IE.nn_den ρ b h.2
    simp only [IE.den, IOp.den]; omega
  | .ite c a b, h => by
    simp only [IE.nn, Bool.and_eq_true] at h
    simp only [IE.den]
    split
    · exact IE.nn_den ρ a h.1
    · exact IE.nn_den ρ b h.2
/-- The rows' cells are of these kinds. -/
def scKd : Kd → Sc → Bool
  | .i k, .i k' _ => kbeq k k'
  | .b, .b _ => true
  | .s, .s _ => true
  | _, _ => false
def scKds : List Kd → List Sc → Bool
  | [], [] => true
  | k :: ks, s :: ss => scKd k s && scKds ks ss
  | _, _ => false
def RL.kd (ks : List Kd) : RL → Bool
  | .var _ ks' => lbeq kdbeq ks ks'
  | .one r => scKds ks r
  | .app _ a b => a.kd ks && b.kd ks
  | .drop _ a => a.kd ks
  | .upd _ r a => scKds ks r && a.kd ks
  | .ite _ a b => a.kd ks && b.kd ks
/-- Cells of these kinds. -/
def avKds : List Kd → List AV → Prop
  | [], l => l = []
  | .i k :: ks, l => ∃ v r, l = .sc (.int k v) :: r ∧ avKds ks r
  | .b :: ks, l => ∃ v r, l = .sc (.bool v) :: r ∧ avKds ks r
  | .s :: ks, l => ∃ v r, l = .sc (.string v) :: r ∧ avKds ks r
theorem scKds_av {ρ : Rho} : ∀ {ks : List Kd} {r : List Sc}, scKds ks r = true → avKds ks (scL ρ r)
  | [], [], _ => rfl
  | [], _ :: _, h => by cases h
  | _ :: _, [], h => by simp [scKds] at h
  | k :: ks, s :: r, h => by
    simp only [scKds, Bool.and_eq_true] at h
    have ih := scKds_av (ρ := ρ) h.2
    have h1 := h.1
    cases k <;> cases s <;> simp only [scKd, Bool.false_eq_true] at h1
    · rw [kbeq_eq h1]; exact ⟨_, _, rfl, ih⟩
    · exact ⟨_, _, rfl, ih⟩
    · exact ⟨_, _, rfl, ih⟩
theorem cellsV_av (ρ : Rho) (l j : Nat) : ∀ (ks : List Kd) (k : Nat), avKds ks (cellsV ρ l k ks j)
  | [], _ => rfl
  | .i K :: ks, k => ⟨_, _, rfl, cellsV_av ρ l j ks (k + 1)⟩
  | .b :: ks, k => ⟨_, _, rfl, cellsV_av ρ l j ks (k + 1)⟩
  | .s :: ks, k => ⟨_, _, rfl, cellsV_av ρ l j ks (k + 1)⟩
theorem RL.kd_av {ρ : Rho} {ks : List Kd} : ∀ {l : RL} {j : Int}, l.kd ks = true → avKds ks (l.row ρ j)
  | .var l ks', j, h => by
    have := lbeq_eq (fun _ _ => kdbeq_eq) h
    subst this
    exact cellsV_av ρ l _ _ 0
  | .one r, j, h => scKds_av h
  | .app n a b, j, h => by
    simp only [RL.kd, Bool.and_eq_true] at h
    simp only [RL.row]
    split
    · exact RL.kd_av h.1
    · exact RL.kd_av h.2
  | .drop n a, j, h => by simp only [RL.row]; exact RL.kd_av (l := a) h
  | .upd i r a, j, h => by
    simp only [RL.kd, Bool.and_eq_true] at h
    simp only [RL.row]
    split
    · exact scKds_av h.1
    · exact RL.kd_av h.2
  | .ite c a b, j, h => by
    simp only [RL.kd, Bool.and_eq_true] at h
    simp only [RL.row]
    split
    · exact RL.kd_av h.1
    · exact RL.kd_av h.2
/-- A letter's rows, where the letter is put. -/
theorem cellsV_put {ρ ρ' : Rho} {l j : Nat} {row : List AV} (hi : ∀ k, ρ'.ci l k j = cellI row[k]?) (hb : ∀ k, ρ'.cb l k j = cellB row[k]?) (hs : ∀ k, ρ'.cs l k j = cellS row[k]?) :
    ∀ (ks : List Kd) (k : Nat) (tl : List AV), (∀ i, tl[i]? = row[k + i]?) → avKds ks tl → cellsV ρ' l k ks j = tl
  | [], k, tl, _, h => by simp only [avKds] at h; subst h; rfl
  | .i K :: ks, k, tl, ht, h => by
    obtain ⟨v, r, rfl, h⟩ := h
    have h0 := ht 0
    simp only [List.getElem?_cons_zero, Nat.add_zero] at h0
    simp only [cellsV, hi, ← h0, cellI, cellsV_put (ρ := ρ) hi hb hs ks (k + 1) r (fun i => by have := ht (i + 1); rw [List.getElem?_cons_succ] at this; rw [this]; congr 1; omega) h]
  | .b :: ks, k, tl, ht, h => by
    obtain ⟨v, r, rfl, h⟩ := h
    have h0 := ht 0
    simp only [List.getElem?_cons_zero, Nat.add_zero] at h0
    simp only [cellsV, hb, ← h0, cellB, cellsV_put (ρ := ρ) hi hb hs ks (k + 1) r (fun i => by have := ht (i + 1); rw [List.getElem?_cons_succ] at this; rw [this]; congr 1; omega) h]
  | .s :: ks, k, tl, ht, h => by
    obtain ⟨v, r, rfl, h⟩ := h
    have h0 := ht 0
    simp only [List.getElem?_cons_zero, Nat.add_zero] at h0
    simp only [cellsV, hs, ← h0, cellS, cellsV_put (ρ := ρ) hi hb hs ks (k + 1) r (fun i => by have := ht (i + 1); rw [List.getElem?_cons_succ] at this; rw [this]; congr 1; omega) h]
theorem Bind.rows {β : Bind} {ρ : Rho} {l : Nat} {n : IE} {r : RL} {ks : List Kd} (h : lassoc l β.r = some (n, r)) (hk : r.kd ks = true) (j : Nat) : cellsV (β.ap ρ) l 0 ks j = r.row ρ j :=
  cellsV_put (ρ := ρ) (row := r.row ρ j) (fun k => by simp only [Bind.ap, h]) (fun k => by simp only [Bind.ap, h]) (fun k => by simp only [Bind.ap, h]) ks 0 _ (fun i => by rw [Nat.zero_add]) (RL.kd_av hk)
end Go.Proofs.Xw
