/- Symbolic runs, part 18: append; objects of rows. -/
import Derived.Test.YtcllappmhdfffaaXw6
namespace Go.Proofs.Xw
open Go Go.Proofs.Aw

/-! ### Append -/
inductive Rows where
  | c (es : List (List X))
  | r (n : IE) (l : RL)
def Rows.den (ρ : Rho) : Rows → List (List AV)
  | .c es => X.denE ρ es
  | .r n l => rowsD ρ n l
def chunkX (z : Nat) : Nat → List X → List (List X)
  | 0, _ => []
  | k + 1, cs => cs.take z :: chunkX z k (cs.drop z)
theorem chunkX_den (ρ : Rho) (z : Nat) : ∀ (k : Nat) (cs : List X), X.denE ρ (chunkX z k cs) = chunk z k (X.denL ρ cs)
  | 0, _ => rfl
  | k + 1, cs => by simp only [chunkX, X.denE, chunk, X.denL_take, chunkX_den ρ z k, X.denL_drop]
def elemsX (h : XHp) (z : Nat) : X → Option Rows
  | .ro z' es _ => if Nat.beq z' z = true then some (.c es) else none
  | .rl z' n l _ => if Nat.beq z' z = true then some (.r n l) else none
  | .sl m z' off len _ => match hgetX h m with
    | some cs => if (Nat.beq z' z && Nat.ble (off + len * z) cs.length) = true then some (.c (chunkX z len (cs.drop off))) else none
    | none => none
  | .k (.slice none 0 0) => some (.c [])
  | _ => none
theorem elemsX_den {ρ : Rho} {h : XHp} {z : Nat} {x : X} {r : Rows} (he : elemsX h z x = some r) : elemsA (denH ρ h) z (x.den ρ) = some (r.den ρ) := by
  unfold elemsX at he
  split at he
  · split at he
    · rename_i hz; cases he; have hz := Nat.eq_of_beq_eq_true hz; subst hz; simp only [X.den, elemsA, if_true, Rows.den]
    · cases he
  · split at he
    · rename_i hz; cases he; have hz := Nat.eq_of_beq_eq_true hz; subst hz; simp only [X.den, elemsA, if_true, Rows.den]
    · cases he
  · split at he
    · rename_i cs hg
      split at he
      · rename_i hz
        cases he
        simp only [Bool.and_eq_true, Nat.ble_eq] at hz
        have hz1 := Nat.eq_of_beq_eq_true hz.1
        subst hz1
        simp only [X.den, elemsA, hget_denH hg, Option.bind_some, X.denL_len, Rows.den, chunkX_den, X.denL_drop]
        rw [if_pos ⟨trivial, hz.2⟩]
      · cases he
    · cases he
  · cases he; simp only [X.den, elemsA, Rows.den, X.denE]
  · cases he
def baseX (z : Nat) : X → Option Rows
  | .ro z' es true => if Nat.beq z' z = true then some (.c es) else none
  | .rl z' n l true => if Nat.beq z' z = true then some (.r n l) else none
  | .k (.slice none 0 0) => some (.c [])
  | _ => none
theorem baseX_den {ρ : Rho} {z : Nat} {x : X} {r : Rows} (he : baseX z x = some r) : baseRo z (x.den ρ) = some (r.den ρ) := by
  unfold baseX at he
  split at he
  · split at he
    · rename_i hz; cases he; have hz := Nat.eq_of_beq_eq_true hz; subst hz; simp only [X.den, baseRo, if_true, Rows.den]
    · cases he
  · split at he
    · rename_i hz; cases he; have hz := Nat.eq_of_beq_eq_true hz; subst hz; simp only [X.den, baseRo, if_true, Rows.den]
    · cases he
  · cases he; simp only [X.den, baseRo, Rows.den, X.denE]
  · cases he
def toScs : List X → Option (List Sc)
  | [] => some []
  | .sc s :: r => (toScs r).map (s :: ·)
  | _ => none
theorem toScs_den {ρ : Rho} : ∀ {l : List X} {s : List Sc}, toScs l = some s → scL ρ s = X.denL ρ l
  | [], s, h => by simp only [toScs, Option.some.injEq] at h; subst h; rfl
  | x :: r, s, h => by
    unfold toScs at h
    split at h
    · contradiction
    · rename_i s' r' he
      cases he
      obtain ⟨t, ht, rfl⟩ := Option.map_eq_some_iff.1 h
      have := toScs_den (ρ := ρ) ht
      simp only [X.denL, X.den, ← this]
      rfl
    · cases h
def toRL : List (List X) → Option RL
  | [] => none
  | [e] => (toScs e).map .one
  | e :: es => match toScs e, toRL es with
    | some s, some l => some (.app (.lit 1) (.one s) l)
    | _, _ => none
theorem toRL_row {ρ : Rho} : ∀ {es : List (List X)} {l : RL}, toRL es = some l → ∀ j : Nat, j < es.length → (X.denE ρ es)[j]? = some (l.row ρ j)
  | [], _, h, _, _ => by simp [toRL] at h
  | [e], l, h, j, hj => by
    simp only [toRL] at h
    obtain ⟨s, hs, rfl⟩ := Option.map_eq_some_iff.1 h
    obtain rfl : j = 0 := by simpa using hj
    simp only [X.denE, List.getElem?_cons_zero, RL.row, toScs_den hs]
  | e :: e' :: es, l, h, j, hj => by
    simp only [toRL] at h
    split at h
    · rename_i s l' hs hl
      cases h
      simp only [RL.row]
      cases j with
      | zero =>
        rw [if_pos (show ((0 : Nat) : Int) < (IE.lit 1).den ρ from by simp [IE.den])]
        simp only [X.denE, List.getElem?_cons_zero, toScs_den hs]
      | succ j =>
        rw [if_neg (show ¬ ((j + 1 : Nat) : Int) < (IE.lit 1).den ρ from by simp only [IE.den]; omega), show ((j + 1 : Nat) : Int) - (IE.lit 1).den ρ = (j : Nat) from by simp only [IE.den]; omega]
        have := toRL_row (ρ := ρ) hl j (by simpa using hj)
        simpa only [X.denE, List.getElem?_cons_succ] using this
    · cases h
theorem toRL_den {ρ : Rho} {es : List (List X)} {l : RL} (h : toRL es = some l) : rowsD ρ (.lit es.length) l = X.denE ρ es := by
  apply List.ext_getElem?
  intro j
  by_cases hj : j < es.length
  · rw [toRL_row h j hj, rowsD_get (by simp only [IE.den]; omega)]
  · rw [List.getElem?_eq_none (by simp [rowsD, IE.den]; omega), List.getElem?_eq_none (by simp [X.denE_eq]; omega)]
theorem rowsD_app {ρ : Rho} {n m : IE} {a b : RL} (hn : 0 ≤ n.den ρ) (hm : 0 ≤ m.den ρ) : rowsD ρ (mkAdd n m) (.app n a b) = rowsD ρ n a ++ rowsD ρ m b := by
  apply List.ext_getElem?
  intro j
  obtain ⟨x, hx⟩ : ∃ x : Nat, n.den ρ = x := ⟨(n.den ρ).toNat, by omega⟩
  obtain ⟨y, hy⟩ : ∃ y : Nat, m.den ρ = y := ⟨(m.den ρ).toNat, by omega⟩
  have hl : (rowsD ρ n a).length = x := by simp [rowsD, hx]
  by_cases h1 : j < x
  · rw [List.getElem?_append_left (by omega), rowsD_get (by rw [mkAdd_den]; omega), rowsD_get (by omega)]
    simp only [RL.row, hx]
    rw [if_pos (by omega)]
  · rw [List.getElem?_append_right (by omega), hl]
    by_cases h2 : j < x + y
    · rw [rowsD_get (by rw [mkAdd_den]; omega), rowsD_get (by omega)]
      simp only [RL.row, hx]
      rw [if_neg (by omega), show (j : Int) - x = (j - x : Nat) from by omega]
    · rw [List.getElem?_eq_none (by simp [rowsD, mkAdd_den, hx, hy]; omega), List.getElem?_eq_none (by simp [rowsD, hy]; omega)]
def Rows.len : Rows → IE
  | .c es => .lit es.length
  | .r n _ => n
def catX : Rows → Rows → Option Rows
  | .c es, .c fs => some (.c (es ++ fs))
  | .r n l, .c [] => some (.r n l)
  | .c [], .r n l => some (.r n l)
  | .r n l, .c fs => (toRL fs).map fun m => .r (mkAdd n (.lit fs.length)) (.app n l m)
  | .c es, .r n l => (toRL es).map fun m => .r (mkAdd (.lit es.length) n) (.app (.lit es.length) m l)
  | .r n l, .r m k => some (.r (mkAdd n m) (.app n l k))
theorem Rows.len_den {ρ : Rho} {a : Rows} (h : 0 ≤ a.len.den ρ) : ((a.den ρ).length : Int) = a.len.den ρ := by
  cases a with
  | c es => simp [Rows.den, Rows.len, X.denE_eq, IE.den]
  | r n l => simp only [Rows.len] at h; simp only [Rows.den, Rows.len, rowsD, List.length_map, List.length_range]; omega
theorem catX_den {ρ : Rho} {a b c : Rows} (ha : 0 ≤ a.len.den ρ) (hb : 0 ≤ b.len.den ρ) (h : catX a b = some c) : c.den ρ = a.den ρ ++ b.den ρ := by
  unfold catX at h
  split at h
  · cases h; simp [Rows.den, X.denE_eq]
  · cases h; simp [Rows.den, X.denE]
  · cases h; simp [Rows.den, X.denE]
  · obtain ⟨m, hm, rfl⟩ := Option.map_eq_some_iff.1 h
    simp only [Rows.den, ← toRL_den hm]
    exact rowsD_app ha hb
  · obtain ⟨m, hm, rfl⟩ := Option.map_eq_some_iff.1 h
    simp only [Rows.den, ← toRL_den hm]
    exact rowsD_app ha hb
  · cases h
    exact rowsD_app ha hb
def capLim (b : Nat) : Nat := Nat.min (140737488355328 / b) 9223372036854775807
theorem capLim_ok {b n : Nat} (h : n ≤ capLim b) : n * b ≤ 140737488355328 ∧ n ≤ 9223372036854775807 := by
  have h1 : n ≤ 140737488355328 / b := Nat.le_trans h (Nat.min_le_left _ _)
  have h2 : n ≤ 9223372036854775807 := Nat.le_trans h (Nat.min_le_right _ _)
  exact ⟨Nat.mul_le_of_le_div b n _ h1, h2⟩
def Rows.ro (z : Nat) : Rows → X
  | .c es => .ro z es false
  | .r n l => .rl z n l false
theorem Rows.ro_den (ρ : Rho) (z : Nat) (a : Rows) : (a.ro z).den ρ = .ro z (a.den ρ) false := by cases a <;> rfl
def okLen {α : Type} (Φ : Facts) (a b : Rows) (by_ : Nat) (k : Facts → T α) : T α :=
  want Φ (mkNot (mkLt a.len (.lit 0))) fun Φ => want Φ (mkNot (mkLt b.len (.lit 0))) fun Φ => want Φ (mkNot (mkLt (.lit (capLim by_)) (mkAdd a.len b.len))) k
theorem sel_okLen {α : Type} {ρ : Rho} {Φ : Facts} {a b : Rows} {by_ : Nat} {k : Facts → T α} {x : α} (hk : Facts.ok ρ Φ) (h : (okLen Φ a b by_ k).sel ρ = some x) :
    ∃ Φ', Facts.ok ρ Φ' ∧ 0 ≤ a.len.den ρ ∧ 0 ≤ b.len.den ρ ∧ ((a.den ρ).length + (b.den ρ).length) * by_ ≤ 140737488355328 ∧ (a.den ρ).length + (b.den ρ).length ≤ 9223372036854775807 ∧ (k Φ').sel ρ = some x := by
  obtain ⟨Φ1, hk1, c1, h⟩ := sel_want hk h
  obtain ⟨Φ2, hk2, c2, h⟩ := sel_want hk1 h
  obtain ⟨Φ3, hk3, c3, h⟩ := sel_want hk2 h
  have c1 := not_lt_den c1
  have c2 := not_lt_den c2
  have c3 := not_lt_den c3
  rw [mkAdd_den] at c3
  simp only [IE.den] at c1 c2 c3
  have l1 := Rows.len_den (ρ := ρ) (a := a) (by omega)
  have l2 := Rows.len_den (ρ := ρ) (a := b) (by omega)
  have := capLim_ok (b := by_) (n := (a.den ρ).length + (b.den ρ).length) (by omega)
  exact ⟨Φ3, hk3, by omega, by omega, this.1, this.2, h⟩
def apSl (n z b : Nat) (m : Nm) (w off len : Nat) (own : Bool) (cs : List X) (fs : List (List X)) : Option (X × XDl) :=
  if (!isRows (cs ++ flatX fs) && (Nat.beq w z && (Nat.beq off 0 && (own && (Nat.beq cs.length (len * z) && ((flatX fs).all X.one && Nat.ble (len + fs.length) (capLim b))))))) = true then
    some (.sl (n, 0) z 0 (len + fs.length) true, [(m, none), ((n, 0), some (cs ++ flatX fs))]) else none
theorem apSl_den {P : Program} {ρ : Rho} {n z : Nat} {m : Nm} {w off len : Nat} {own mu : Bool} {e : TypeId} {h : XHp} {cs : List X} {fs : List (List X)} {r : X × XDl} (hg : hgetX h m = some cs) (hv : apSl n z (bytesT P e) m w off len own cs fs = some r) :
    apN P n (denH ρ h) mu e z (.sl m w off len own) (some (X.denE ρ fs)) = some (r.1.den ρ, denD ρ r.2) := by
  unfold apSl at hv
  split at hv
  · rename_i hcc
    simp only [Bool.and_eq_true, Nat.ble_eq] at hcc
    obtain ⟨g0, g1, g2, g3, g4, g5, g6⟩ := hcc
    have g0 : isRows (cs ++ flatX fs) = false := by simpa using g0
    have g1 := Nat.eq_of_beq_eq_true g1
    have g2 := Nat.eq_of_beq_eq_true g2
    have g4 := Nat.eq_of_beq_eq_true g4
    subst g1 g2
    cases hv
    have hl2 : (X.denE ρ fs).length = fs.length := by simp [X.denE_eq]
    have hcap := capLim_ok g6
    simp only [apN, hget_denH hg, apS, X.denL_len, hl2]
    rw [if_pos ⟨trivial, trivial, g3⟩, if_pos ⟨g4, by rw [← flatX_den]; exact X.all_one ρ _ g5, hcap.1, hcap.2⟩]
    simp only [X.den, denD, List.map_cons, List.map_nil, Option.map_some, Option.map_none, denO_of g0, X.denL_append, flatX_den]
  · cases hv
/-- A new object of rows, and the slice of all of it. -/
def rowsNew (n z : Nat) (d : XDl) (es fs : Rows) : Option (X × XDl) :=
  match catX es fs with
  | some (.r N L) => if (L.wd z && (N.beq (mkAdd es.len fs.len))) = true then some (.slv (n, 0) z (.lit 0) N true, d ++ [((n, 0), some [.rows z N L])]) else none
  | _ => none
theorem rowsNew_den {ρ : Rho} {n z : Nat} {d : XDl} {es fs : Rows} {r : X × XDl} (la : 0 ≤ es.len.den ρ) (lb : 0 ≤ fs.len.den ρ) (hv : rowsNew n z d es fs = some r) :
    (r.1.den ρ, denD ρ r.2) = (.sl (n, 0) z 0 ((es.den ρ).length + (fs.den ρ).length) true, denD ρ d ++ [((n, 0), some ((es.den ρ).flatten ++ (fs.den ρ).flatten))]) := by
  unfold rowsNew at hv
  split at hv
  · rename_i N L hcat
    split at hv
    · rename_i hc
      simp only [Bool.and_eq_true] at hc
      cases hv
      have h1 : rowsD ρ N L = es.den ρ ++ fs.den ρ := catX_den la lb hcat
      have h2 := Rows.len_den la
      have h3 := Rows.len_den lb
      have h4 := IE.beq_eq _ _ hc.2
      have h5 : (N.den ρ).toNat = (es.den ρ).length + (fs.den ρ).length := by rw [h4, mkAdd_den]; omega
      simp only [X.den, IE.den, h5, denD, List.map_append, List.map_cons, List.map_nil, Option.map_some, denO, h1, List.flatten_append]
      simp
    · cases hv
  · cases hv
def apNew (n z b : Nat) (es fs : List (List X)) : Option (X × XDl) :=
  if (!isRows (flatX es ++ flatX fs) && (Nat.ble (es.length + fs.length) (capLim b) && Nat.blt 0 fs.length)) = true then some (.sl (n, 0) z 0 (es.length + fs.length) true, [((n, 0), some (flatX es ++ flatX fs))]) else none
def apBase (n : Nat) (mu : Bool) (z b : Nat) (Φ : Facts) (es fs : Rows) : T (X × XDl) :=
  match mu with
  | false => okLen Φ es fs b fun _ => retO ((catX es fs).map fun r => (r.ro z, []))
  | true => match es, fs with
    | .c es, .c fs => retO (apNew n z b es fs)
    | es, fs => okLen Φ es fs b fun Φ => want Φ (mkLt (.lit 0) fs.len) fun _ => retO (rowsNew n z [] es fs)
theorem apBase_den {ρ : Rho} {n z b : Nat} {mu : Bool} {Φ : Facts} (hk : Facts.ok ρ Φ) {es fs : Rows} {r : X × XDl} (hv : (apBase n mu z b Φ es fs).sel ρ = some r) : apO n mu z b (fs.den ρ) (some (es.den ρ)) = some (r.1.den ρ, denD ρ r.2) := by
  unfold apBase at hv
  split at hv
  · obtain ⟨Φ', _, la, lb, c1, c2, hv⟩ := sel_okLen hk hv
    obtain ⟨c, hcat, rfl⟩ := Option.map_eq_some_iff.1 (sel_retO hv)
    simp only [apO]
    rw [if_pos ⟨c1, c2, fun hh => (nomatch hh)⟩, Rows.ro_den, catX_den la lb hcat]
    rfl
  · split at hv
    · rename_i es fs
      have hv := sel_retO hv
      unfold apNew at hv
      split at hv
      · rename_i hcc
        simp only [Bool.and_eq_true, Nat.ble_eq] at hcc
        have g0 : isRows (flatX es ++ flatX fs) = false := by simpa using hcc.1
        have hcc := hcc.2
        cases hv
        have hl1 : (X.denE ρ es).length = es.length := by simp [X.denE_eq]
        have hl2 : (X.denE ρ fs).length = fs.length := by simp [X.denE_eq]
        have hcap := capLim_ok hcc.1
        have hpos : 0 < fs.length := by simpa [Nat.blt_eq] using hcc.2
        simp only [apO, Rows.den, hl1, hl2]
        rw [if_pos ⟨hcap.1, hcap.2, fun _ hh => by rw [← hl2, hh] at hpos; simp at hpos⟩]
        simp only [X.den, denD, List.map_cons, List.map_nil, Option.map_some, denO_of g0, X.denL_append, flatX_den]
      · cases hv
    · obtain ⟨Φ', hk', la, lb, c1, c2, hv⟩ := sel_okLen hk hv
      obtain ⟨Φ2, _, c3, hv⟩ := sel_want hk' hv
      rw [mkLt_den] at c3
      have c3 := of_decide_eq_true c3
      simp only [IE.den] at c3
      have hl := Rows.len_den (ρ := ρ) lb
      simp only [apO]
      rw [if_pos ⟨c1, c2, fun _ hh => by rw [hh] at hl; simp at hl; omega⟩]
      have := sel_retO hv
      rw [rowsNew_den la lb this]
      rfl
/-! ### Objects of rows -/
def rowsOne : Rows → Bool
  | .c es => (flatX es).all X.one
  | .r _ _ => true
theorem scL_one (ρ : Rho) (r : List Sc) : (scL ρ r).all AV.one = true := by
  unfold scL
  rw [List.all_eq_true]
  intro x hx
  obtain ⟨s, _, rfl⟩ := List.mem_map.1 hx
  cases s <;> rfl
theorem cellsV_one (ρ : Rho) (l j : Nat) : ∀ (ks : List Kd) (k : Nat), (cellsV ρ l k ks j).all AV.one = true
  | [], _ => rfl
  | .i _ :: ks, k => by simp only [cellsV, List.all_cons, cellsV_one ρ l j ks (k + 1), Bool.and_true]; rfl
  | .b :: ks, k => by simp only [cellsV, List.all_cons, cellsV_one ρ l j ks (k + 1), Bool.and_true]; rfl
  | .s :: ks, k => by simp only [cellsV, List.all_cons, cellsV_one ρ l j ks (k + 1), Bool.and_true]; rfl
theorem row_one (ρ : Rho) : ∀ (l : RL) (j : Int), (l.row ρ j).all AV.one = true
  | .var l ks, j => cellsV_one ρ l _ ks 0
  | .one r, j => scL_one ρ r
  | .app n a b, j => by
    simp only [RL.row]
    split
    · exact row_one ρ a _
    · exact row_one ρ b _
  | .drop n a, j => row_one ρ a _
  | .upd i r a, j => by
    simp only [RL.row]
    split
    · exact scL_one ρ r
    · exact row_one ρ a _
  | .ite c a b, j => by
    simp only [RL.row]
    split
    · exact row_one ρ a _
    · exact row_one ρ b _
theorem rowsOne_den {ρ : Rho} {fs : Rows} (h : rowsOne fs = true) : (fs.den ρ).flatten.all AV.one = true := by
  cases fs with
  | c es => simp only [Rows.den, ← flatX_den]; exact X.all_one ρ _ h
  | r n l =>
    simp only [Rows.den, rowsD]
    rw [List.all_eq_true]
    intro x hx
    obtain ⟨r, hr, hx⟩ := List.mem_flatten.1 hx
    obtain ⟨j, _, rfl⟩ := List.mem_map.1 hr
    exact List.all_eq_true.1 (row_one ρ l j) x hx
def rowsAt (h : XHp) (m : Nm) : Option (Nat × IE × RL) := match hgetO h m with
  | some [.rows z n l] => if l.wd z = true then some (z, n, l) else none
  | _ => none
theorem rowsAt_den {ρ : Rho} {h : XHp} {m : Nm} {z : Nat} {n : IE} {l : RL} (hr : rowsAt h m = some (z, n, l)) : hget (denH ρ h) m = some (rowsD ρ n l).flatten ∧ l.wd z = true := by
  unfold rowsAt at hr
  split at hr
  · rename_i z' n' l' hg
    split at hr
    · rename_i hw
      cases hr
      exact ⟨by rw [hget_denO, hg]; rfl, hw⟩
    · cases hr
  · cases hr
theorem rowsD_len {ρ : Rho} {n : IE} {l : RL} {z : Nat} (hw : l.wd z = true) (j : Nat) (e : List AV) (h : (rowsD ρ n l)[j]? = some e) : e.length = z := by
  unfold rowsD at h
  rw [List.getElem?_map] at h
  obtain ⟨k, _, rfl⟩ := Option.map_eq_some_iff.1 h
  exact RL.wd_len hw
theorem rowsD_count (ρ : Rho) (n : IE) (l : RL) : (rowsD ρ n l).length = (n.den ρ).toNat := by simp [rowsD]
theorem rowsD_flat {ρ : Rho} {n : IE} {l : RL} {z : Nat} (hw : l.wd z = true) : (rowsD ρ n l).flatten.length = (n.den ρ).toNat * z := by
  rw [flat_length _ (fun j e h => rowsD_len hw j e h), rowsD_count]
theorem flat_row {ρ : Rho} {n : IE} {l : RL} {z j : Nat} (hw : l.wd z = true) (hj : (j : Int) < n.den ρ) {k : Nat} (hk : k < z) : (rowsD ρ n l).flatten[j * z + k]? = (l.row ρ j)[k]? :=
  flat_at _ (fun j e h => rowsD_len hw j e h) j _ (rowsD_get hj) k hk
theorem row_in {j m z : Nat} (h : j < m) : j * z + z ≤ m * z := by rw [← Nat.succ_mul]; exact Nat.mul_le_mul_right z h
theorem flat_drop {ρ : Rho} {n : IE} {l : RL} {z j : Nat} (hw : l.wd z = true) (hj : (j : Int) < n.den ρ) {o s : Nat} (ho : o + s ≤ z) : ((rowsD ρ n l).flatten.drop (j * z + o)).take s = ((l.row ρ j).drop o).take s := by
  apply List.ext_getElem?
  intro i
  rw [List.getElem?_take, List.getElem?_take]
  split
  · rename_i hi
    rw [List.getElem?_drop, List.getElem?_drop, Nat.add_assoc, flat_row hw hj (by omega)]
  · rfl
theorem rd_flat {ρ : Rho} {n : IE} {l : RL} {z j : Nat} (hw : l.wd z = true) (hj : (j : Int) < n.den ρ) {o s : Nat} (ho : o + s ≤ z) (hz : o < z) (b : Option Bool) {v : AV} (h : rdN b s (l.row ρ j) o = some v) : rdN b s (rowsD ρ n l).flatten (j * z + o) = some v := by
  match b, h with
  | some true, h =>
    simp only [rdN] at h ⊢
    split at h
    · rename_i hc
      have := row_in (z := z) (show j < (n.den ρ).toNat by omega)
      rw [if_pos ⟨hc.1, by rw [rowsD_flat hw]; omega⟩, flat_drop hw hj ho]
      exact h
    · cases h
  | some false, h =>
    simp only [rdN] at h ⊢
    rw [flat_row hw hj hz]; exact h
def loadV (i : TI) (h : XHp) (Φ : Facts) (m : Nm) (z : Nat) (j : IE) (o : Nat) : T X :=
  match rowsAt h m with
  | some (z', n, l) => if (Nat.beq z' z && (Nat.ble (o + i.cells) z && Nat.blt o z)) = true then
      inB Φ j n fun Φ => match l.getF Φ j with
        | some r => retO (rdX i.agg i.cells (ofSc r) o)
        | none => (.fail ["row"])
    else (.fail ["loadV"])
  | none => (.fail ["rowsAt"])
theorem loadV_den {P : Program} {ρ : Rho} {ty : TypeId} {h : XHp} {Φ : Facts} {m : Nm} {z : Nat} {j : IE} {o : Nat} {v : X} (hk : Facts.ok ρ Φ) (hv : (loadV (tiOf P ty) h Φ m z j o).sel ρ = some v) : loadN P (denH ρ h) ty ((X.ptrv m z j o).den ρ) = some (v.den ρ) := by
  unfold loadV at hv
  split at hv
  · rename_i z' n l hr
    split at hv
    · rename_i hc
      simp only [Bool.and_eq_true, Nat.ble_eq, Nat.blt_eq] at hc
      have hz := Nat.eq_of_beq_eq_true hc.1
      subst hz
      obtain ⟨Φ', t, hk', he, hj, hv⟩ := sel_inB hk hv
      obtain ⟨hg, hw⟩ := rowsAt_den (ρ := ρ) hr
      split at hv
      · rename_i r hget
        have h1 := rdX_den (ρ := ρ) (sel_retO hv)
        rw [ofSc_den, RL.getF_den hk' hget, he] at h1
        have hcells : (tiOf P ty).cells = P.cellsOf ty := rfl
        have hagg : (tiOf P ty).agg = aggT P ty := rfl
        rw [hcells, hagg] at h1
        simp only [X.den, loadN, hg, rdO, he, Int.toNat_natCast]
        exact rd_flat hw hj (by have := hc.2.1; rw [hcells] at this; exact this) hc.2.2 _ h1
      · cases hv
    · cases hv
  · cases hv
def mkUpd (j : IE) (r : List Sc) : RL → RL
  | .upd i q a => if i.beq j = true then .upd j r a else .upd j r (.upd i q a)
  | a => .upd j r a
theorem mkUpd_row (ρ : Rho) (j : IE) (r : List Sc) (a : RL) (k : Int) : (mkUpd j r a).row ρ k = if k = j.den ρ then scL ρ r else a.row ρ k := by
  unfold mkUpd
  split
  · split
    · rename_i i q b hb
      have := IE.beq_eq _ _ hb
      subst this
      simp only [RL.row]
      split <;> rfl
    · rfl
  · rfl
theorem mkUpd_wd {j : IE} {r : List Sc} {a : RL} {z : Nat} (h : (mkUpd j r a).wd z = true) : r.length = z := by
  unfold mkUpd at h
  split at h
  · split at h
    · simp only [RL.wd, Bool.and_eq_true] at h; exact Nat.eq_of_beq_eq_true h.1
    · simp only [RL.wd, Bool.and_eq_true] at h; exact Nat.eq_of_beq_eq_true h.1
  · simp only [RL.wd, Bool.and_eq_true] at h; exact Nat.eq_of_beq_eq_true h.1
theorem splice_get {cs ys : List AV} {o : Nat} (ho : o ≤ cs.length) (i : Nat) : (spliceL cs o ys)[i]? = if i < o then cs[i]? else if i < o + ys.length then ys[i - o]? else cs[i]? := by
  unfold spliceL
  have hl : (cs.take o).length = o := by rw [List.length_take]; omega
  by_cases h1 : i < o
  · rw [List.getElem?_append_left (by omega), List.getElem?_take, if_pos h1, if_pos h1]
  · rw [List.getElem?_append_right (by omega), hl, if_neg h1]
    by_cases h2 : i < o + ys.length
    · rw [List.getElem?_append_left (by omega), if_pos h2]
    · rw [List.getElem?_append_right (by omega), if_neg h2, List.getElem?_drop, show o + ys.length + (i - o - ys.length) = i from by omega]
theorem splice_flat {ρ : Rho} {n : IE} {l : RL} {z j : Nat} (hw : l.wd z = true) (hj : (j : Int) < n.den ρ) {o : Nat} {ys : List AV} (ho : o + ys.length ≤ z) {m : RL} (hmw : m.wd z = true)
    (hm : ∀ k : Int, m.row ρ k = if k = j then spliceL (l.row ρ j) o ys else l.row ρ k) : spliceL (rowsD ρ n l).flatten (j * z + o) ys = (rowsD ρ n m).flatten := by
  have hin := row_in (z := z) (show j < (n.den ρ).toNat by omega)
  have hF := rowsD_flat (ρ := ρ) (n := n) hw
  have hG := rowsD_flat (ρ := ρ) (n := n) hmw
  apply List.ext_getElem?
  intro i
  rw [splice_get (by omega)]
  by_cases hi : i < (n.den ρ).toNat * z
  · have hz : 0 < z := by
      rcases Nat.eq_zero_or_pos z with h0 | h0
      · subst h0; simp at hi
      · exact h0
    obtain ⟨q, k, hk, rfl⟩ : ∃ q k, k < z ∧ i = q * z + k := ⟨i / z, i % z, Nat.mod_lt _ hz, by rw [Nat.mul_comm]; exact (Nat.div_add_mod i z).symm⟩
    have hq : (q : Int) < n.den ρ := by
      have : q < (n.den ρ).toNat := by
        rcases Nat.lt_or_ge q (n.den ρ).toNat with h | h
        · exact h
        · have := Nat.mul_le_mul_right z h; omega
      omega
    rw [flat_row hmw hq hk, hm, flat_row hw hq hk]
    by_cases hqj : q = j
    · subst hqj
      rw [if_pos rfl, splice_get (by rw [RL.wd_len hw]; omega)]
      by_cases h1 : k < o
      · rw [if_pos (by omega), if_pos h1]
      · rw [if_neg (by omega), if_neg h1]
        by_cases h2 : k < o + ys.length
        · rw [if_pos (by omega), if_pos h2, show q * z + k - (q * z + o) = k - o from by omega]
        · rw [if_neg (by omega), if_neg h2]
    · rw [if_neg (show ¬ ((q : Nat) : Int) = j by omega)]
      rcases Nat.lt_or_ge q j with h | h
      · have := row_in (z := z) h
        rw [if_pos (by omega)]
      · have := row_in (z := z) (show j < q by omega)
        rw [if_neg (by omega), if_neg (by omega)]
  · rw [if_neg (by omega), if_neg (by omega), List.getElem?_eq_none (by omega), List.getElem?_eq_none (by omega)]
def storeV (i : TI) (h : XHp) (Φ : Facts) (m : Nm) (z : Nat) (j : IE) (o : Nat) (ys : List X) : T XDl :=
  match rowsAt h m with
  | some (z', n, l) => if (Nat.beq z' z && (Nat.ble (o + i.cells) z && (Nat.beq ys.length i.cells && (Nat.blt 0 i.cells && ys.all X.one)))) = true then
      inB Φ j n fun Φ => match l.getF Φ j with
        | some r => match toScs (spliceX (ofSc r) o ys) with
          | some r' => if (mkUpd j r' l).wd z = true then .ret [(m, some [.rows z n (mkUpd j r' l)])] else (.fail ["wd"])
          | none => (.fail ["scs"])
        | none => (.fail ["row"])
    else (.fail ["storeV"])
  | none => (.fail ["rowsAt"])
theorem storeV_den {P : Program} {ρ : Rho} {ty : TypeId} {h : XHp} {Φ : Facts} {m : Nm} {z : Nat} {j : IE} {o : Nat} {ys : List X} {d : XDl} (hk : Facts.ok ρ Φ) (hv : (storeV (tiOf P ty) h Φ m z j o ys).sel ρ = some d) :
    ys.all X.one = true ∧ storeN P (denH ρ h) ty ((X.ptrv m z j o).den ρ) (X.denL ρ ys) = some (denD ρ d) := by
  unfold storeV at hv
  split at hv
  · rename_i z' n l hr
    split at hv
    · rename_i hc
      simp only [Bool.and_eq_true, Nat.ble_eq, Nat.blt_eq] at hc
      obtain ⟨hz, h1, h2, h3, h4⟩ := hc
      have hz := Nat.eq_of_beq_eq_true hz
      subst hz
      have h2 := Nat.eq_of_beq_eq_true h2
      have hcells : (tiOf P ty).cells = P.cellsOf ty := rfl
      rw [hcells] at h1 h2 h3
      obtain ⟨Φ', t, hk', he, hj, hv⟩ := sel_inB hk hv
      obtain ⟨hg, hw⟩ := rowsAt_den (ρ := ρ) hr
      split at hv
      · rename_i r hget
        split at hv
        · rename_i r' hs
          split at hv
          · rename_i hmw
            cases hv
            refine ⟨h4, ?_⟩
            simp only [X.den, storeN, hg, wrN, X.denL_len, he, Int.toNat_natCast]
            have hin := row_in (z := z') (show t < (n.den ρ).toNat by omega)
            rw [if_pos ⟨h3, h2, by rw [rowsD_flat hw]; omega, X.all_one ρ _ h4⟩]
            have hsp : scL ρ r' = spliceL (l.row ρ t) o (X.denL ρ ys) := by
              rw [toScs_den hs, spliceX_den, ofSc_den, RL.getF_den hk' hget, he]
            rw [splice_flat hw hj (by rw [X.denL_len]; omega) hmw (fun k => by rw [mkUpd_row, he, hsp])]
            rfl
          · cases hv
        · cases hv
      · cases hv
    · cases hv
  · cases hv
def idxV (i : TI) (h : XHp) (Φ : Facts) (m : Nm) (z : Nat) (off len e : IE) : T X :=
  match i.sl with
  | some (_, z') => if (Nat.beq z' z && okPtr h m) = true then want Φ (mkNot (mkLt off (.lit 0))) fun Φ => inB Φ e len fun _ => .ret (.ptrv m z (mkAdd off e) 0) else (.fail ["idxV"])
  | none => (.fail ["idxV"])
theorem idxV_den {P : Program} {ρ : Rho} {ty : TypeId} {h : XHp} {Φ : Facts} {m : Nm} {z : Nat} {off len e : IE} {own : Bool} {k : IntKind} {v : X} (hk : Facts.ok ρ Φ) (hv : (idxV (tiOf P ty) h Φ m z off len e).sel ρ = some v) :
    idxAddrN P (denH ρ h) ty ((X.slv m z off len own).den ρ) (.sc (.int k (e.den ρ))) = some (v.den ρ) := by
  unfold idxV at hv
  split at hv
  · rename_i ee z' hs
    have hs' : slT P ty = some (ee, z') := hs
    split at hv
    · rename_i hc
      simp only [Bool.and_eq_true] at hc
      have hz := Nat.eq_of_beq_eq_true hc.1
      subst hz
      obtain ⟨Φ1, hk1, c1, hv⟩ := sel_want hk hv
      obtain ⟨Φ', t, _, he, hj, hv⟩ := sel_inB hk1 hv
      cases hv
      have c1 := not_lt_den c1
      simp only [IE.den] at c1
      simp only [X.den, idxAddrN, iaS, hs', okPtr_den hc.2, he, Int.toNat_natCast, mkAdd_den]
      rw [if_pos ⟨trivial, trivial, by omega, by omega⟩]
      simp only [Nat.add_zero]
      congr 2
      rw [show (off.den ρ + (t : Int)).toNat = (off.den ρ).toNat + t from by omega, Nat.add_mul]
    · cases hv
  · cases hv
def sliceV (i : TI) (h : XHp) (Φ : Facts) (m : Nm) (z : Nat) (off len : IE) (own : Bool) (lo hi : IE) : T X :=
  match i.sl with
  | some (_, z') => if (Nat.beq z' z && okPtr h m) = true then
      want Φ (mkNot (mkLt off (.lit 0))) fun Φ => want Φ (mkNot (mkLt lo (.lit 0))) fun Φ => want Φ (mkNot (mkLt (mkSub hi lo) (.lit 0))) fun Φ => want Φ (mkNot (mkLt len hi)) fun _ =>
        .ret (.slv m z (mkAdd off lo) (mkSub hi lo) own)
    else (.fail ["sliceV"])
  | none => (.fail ["sliceV"])
theorem sliceV_den {P : Program} {ρ : Rho} {ty : TypeId} {h : XHp} {Φ : Facts} {m : Nm} {z : Nat} {off len : IE} {own : Bool} {lo hi : Option X} {l r : IE} {v : X} (hk : Facts.ok ρ Φ) (hl : bndX lo (.lit 0) = some l) (hr : bndX hi len = some r)
    (hv : (sliceV (tiOf P ty) h Φ m z off len own l r).sel ρ = some v) : sliceN P (denH ρ h) ty ((X.slv m z off len own).den ρ) (lo.map (X.den ρ)) (hi.map (X.den ρ)) none = some (v.den ρ) := by
  unfold sliceV at hv
  split at hv
  · rename_i ee z' hs
    have hs' : slT P ty = some (ee, z') := hs
    split at hv
    · rename_i hc
      simp only [Bool.and_eq_true] at hc
      have hz := Nat.eq_of_beq_eq_true hc.1
      subst hz
      obtain ⟨Φ1, hk1, c1, hv⟩ := sel_want hk hv
      obtain ⟨Φ2, hk2, c2, hv⟩ := sel_want hk1 hv
      obtain ⟨Φ3, hk3, c3, hv⟩ := sel_want hk2 hv
      obtain ⟨Φ4, hk4, c4, hv⟩ := sel_want hk3 hv
      cases hv
      have c1 := not_lt_den c1
      have c2 := not_lt_den c2
      have c3 := not_lt_den c3
      have c4 := not_lt_den c4
      rw [mkSub_den] at c3
      simp only [IE.den] at c1 c2 c3
      obtain ⟨a, ha2⟩ : ∃ a : Nat, l.den ρ = a := ⟨(l.den ρ).toNat, by omega⟩
      obtain ⟨b, hb2⟩ : ∃ b : Nat, r.den ρ = b := ⟨(r.den ρ).toNat, by omega⟩
      have e1 := bndX_den (ρ := ρ) hl (dn := 0) (by simp [IE.den]) ha2
      have e2 := bndX_den (ρ := ρ) hr (dn := (len.den ρ).toNat) (by omega) hb2
      simp only [sliceN, e1, X.den, topN, e2, slN, hs', okPtr_den hc.2]
      rw [if_pos ⟨trivial, trivial, by omega, by omega⟩]
      simp only [mkAdd_den, mkSub_den, ha2, hb2, Option.some.injEq, AV.sl.injEq, true_and, and_true]
      exact ⟨by rw [show (off.den ρ + (a : Int)).toNat = (off.den ρ).toNat + a from by omega, Nat.add_mul], by omega⟩
    · cases hv
  · cases hv
def lenV (i : TI) (h : XHp) (Φ : Facts) (m : Nm) (len : IE) : T X :=
  if (i.sl.isSome && okPtr h m) = true then want Φ (mkNot (mkLt len (.lit 0))) fun _ => .ret (.sc (.i .i64 len)) else (.fail ["lenV"])
theorem lenV_den {P : Program} {ρ : Rho} {ty : TypeId} {h : XHp} {Φ : Facts} {m : Nm} {z : Nat} {off len : IE} {own : Bool} {v : X} (hk : Facts.ok ρ Φ) (hv : (lenV (tiOf P ty) h Φ m len).sel ρ = some v) : lenN (lenT P (denH ρ h) ty ((X.slv m z off len own).den ρ)) = some (v.den ρ) := by
  unfold lenV at hv
  split at hv
  · rename_i hs
    simp only [Bool.and_eq_true] at hs
    have hs' : (slT P ty).isSome = true := hs.1
    obtain ⟨_, _, h1, hv⟩ := sel_want hk hv
    cases hv
    have h1 := not_lt_den h1
    simp only [IE.den] at h1
    simp only [X.den, lenT, hs', okPtr_den hs.2, and_self, if_true, lenN, Sc.den]
    congr 3
    omega
  · cases hv
/-- What is appended, of an object of rows too. -/
def elemsT (h : XHp) (Φ : Facts) (z : Nat) : X → T Rows
  | .slv m z' off len _ => match rowsAt h m with
    | some (w, n, l) => if (Nat.beq z' z && Nat.beq w z) = true then
        want Φ (mkNot (mkLt off (.lit 0))) fun Φ => want Φ (mkNot (mkLt len (.lit 0))) fun Φ => want Φ (mkNot (mkLt n (mkAdd off len))) fun _ =>
          .ret (.r len (match off with | .lit 0 => l | off => .drop off l))
      else (.fail ["elemsT"])
    | none => (.fail ["rowsAt"])
  | x => retO (elemsX h z x)
theorem chunk_eq {z : Nat} : ∀ (es : List (List AV)) (k : Nat), (∀ (j : Nat) (e : List AV), es[j]? = some e → e.length = z) → k ≤ es.length → chunk z k es.flatten = es.take k
  | _, 0, _, _ => by simp [chunk]
  | [], k + 1, _, h => by simp at h
  | e :: es, k + 1, h, hk => by
    have h0 := h 0 e rfl
    simp only [chunk, List.flatten_cons, List.take_succ_cons]
    rw [List.take_append_of_le_length (by omega), List.take_of_length_le (by omega), ← h0, List.drop_append_of_le_length (Nat.le_refl _), List.drop_length, List.nil_append, h0,
      chunk_eq es k (fun j e' hj => h (j + 1) e' (by simpa using hj)) (by simpa using hk)]
theorem flat_drop_rows {z : Nat} : ∀ (k : Nat) (es : List (List AV)), (∀ (j : Nat) (e : List AV), es[j]? = some e → e.length = z) → es.flatten.drop (k * z) = (es.drop k).flatten
  | 0, es, _ => by simp
  | k + 1, [], _ => by simp
  | k + 1, e :: es, h => by
    have h0 := h 0 e rfl
    rw [List.flatten_cons, List.drop_succ_cons, Nat.succ_mul, Nat.add_comm, ← List.drop_drop, ← h0, List.drop_append_of_le_length (Nat.le_refl _), List.drop_length, List.nil_append, h0]
    exact flat_drop_rows k es (fun j e' hj => h (j + 1) e' (by simpa using hj))
theorem elemsT_den {ρ : Rho} {h : XHp} {Φ : Facts} {z : Nat} {x : X} {r : Rows} (hk : Facts.ok ρ Φ) (he : (elemsT h Φ z x).sel ρ = some r) : elemsA (denH ρ h) z (x.den ρ) = some (r.den ρ) := by
  unfold elemsT at he
  split at he
  · split at he
    · rename_i m z' off len own oo w n l hr
      split at he
      · rename_i hc
        simp only [Bool.and_eq_true] at hc
        have hz1 := Nat.eq_of_beq_eq_true hc.1
        have hz2 := Nat.eq_of_beq_eq_true hc.2
        subst hz1 hz2
        obtain ⟨Φ1, hk1, c1, he⟩ := sel_want hk he
        obtain ⟨Φ2, hk2, c2, he⟩ := sel_want hk1 he
        obtain ⟨Φ3, hk3, c3, he⟩ := sel_want hk2 he
        cases he
        have c1 := not_lt_den c1
        have c2 := not_lt_den c2
        have c3 := not_lt_den c3
        rw [mkAdd_den] at c3
        simp only [IE.den] at c1 c2
        obtain ⟨a, ha⟩ : ∃ a : Nat, off.den ρ = a := ⟨(off.den ρ).toNat, by omega⟩
        obtain ⟨b, hb⟩ : ∃ b : Nat, len.den ρ = b := ⟨(len.den ρ).toNat, by omega⟩
        obtain ⟨c, hcn⟩ : ∃ c : Nat, n.den ρ = c := ⟨(n.den ρ).toNat, by omega⟩
        obtain ⟨hg, hw⟩ := rowsAt_den (ρ := ρ) hr
        have hle : a + b ≤ c := by omega
        have h2 : (a + b) * w ≤ c * w := Nat.mul_le_mul_right w hle
        rw [Nat.add_mul] at h2
        simp only [X.den, elemsA, hg, Option.bind_some, ha, hb, Int.toNat_natCast, rowsD_flat hw, hcn]
        rw [if_pos ⟨trivial, h2⟩, flat_drop_rows a _ (fun j e h => rowsD_len hw j e h), chunk_eq _ _ (fun j e h => rowsD_len hw (a + j) e (by rw [List.getElem?_drop] at h; exact h)) (by rw [List.length_drop, rowsD_count]; omega)]
        simp only [Rows.den, Option.some.injEq]
        apply List.ext_getElem?
        intro j
        rw [List.getElem?_take, List.getElem?_drop]
        by_cases hj : j < b
        · rw [if_pos hj, rowsD_get (by omega), rowsD_get (by omega)]
          congr 1
          split
          · simp only [IE.den] at ha
            rw [show a + j = j from by omega]
          · simp only [RL.row, ha]
            congr 1
            omega
        · rw [if_neg hj, List.getElem?_eq_none (by rw [rowsD_count]; omega)]
      · cases he
    · cases he
  · exact elemsX_den (sel_retO he)
/-- Onto a slice of all of an object of rows. -/
def apV (n z b : Nat) (h : XHp) (Φ : Facts) (fs : Rows) (m : Nm) (w : Nat) (off len : IE) (own : Bool) : T (X × XDl) :=
  match rowsAt h m with
  | some (w', n', l) => if (Nat.beq w z && (Nat.beq w' z && (off.beq (.lit 0) && (own && n'.beq len)))) = true then
      okLen Φ (.r len l) fs b fun _ => if rowsOne fs = true then retO (rowsNew n z [(m, none)] (.r len l) fs) else (.fail ["one"])
    else (.fail ["apV"])
  | none => (.fail ["rowsAt"])
/-- Onto a slice of an object of which each cell is told. -/
def apC (n z b : Nat) (Φ : Facts) (cs : List X) (fs : Rows) (m : Nm) (w off len : Nat) (own : Bool) : T (X × XDl) :=
  if (Nat.beq w z && (Nat.beq off 0 && (own && Nat.beq cs.length (len * z)))) = true then
    okLen Φ (.c (chunkX z len cs)) fs b fun _ => if rowsOne fs = true then retO (rowsNew n z [(m, none)] (.c (chunkX z len cs)) fs) else (.fail ["one"])
  else (.fail ["apC"])
theorem apV_den {P : Program} {ρ : Rho} {n z : Nat} {mu : Bool} {e : TypeId} {h : XHp} {Φ : Facts} (hk : Facts.ok ρ Φ) {fs : Rows} {m : Nm} {w : Nat} {off len : IE} {own : Bool} {r : X × XDl} (hv : (apV n z (bytesT P e) h Φ fs m w off len own).sel ρ = some r) :
    apN P n (denH ρ h) mu e z ((X.slv m w off len own).den ρ) (some (fs.den ρ)) = some (r.1.den ρ, denD ρ r.2) := by
  unfold apV at hv
  split at hv
  · rename_i w' n' l hr
    split at hv
    · rename_i hc
      simp only [Bool.and_eq_true] at hc
      obtain ⟨g1, g2, g3, g4, g5⟩ := hc
      have g1 := Nat.eq_of_beq_eq_true g1
      have g2 := Nat.eq_of_beq_eq_true g2
      have g3 := IE.beq_eq _ _ g3
      have g5 := IE.beq_eq _ _ g5
      subst g1 g2 g3 g5
      obtain ⟨Φ', _, la, lb, c1, c2, hv⟩ := sel_okLen hk hv
      split at hv
      · rename_i hone
        obtain ⟨hg, hw⟩ := rowsAt_den (ρ := ρ) hr
        have hn := rowsNew_den la lb (sel_retO hv)
        have hl : (rowsD ρ n' l).length = (n'.den ρ).toNat := rowsD_count ρ n' l
        simp only [Rows.den] at c1 c2 hn
        have z0 : (IE.lit 0).den ρ = 0 := rfl
        simp only [X.den, apN, hg, z0, Int.toNat_zero, Nat.zero_mul]
        rw [if_pos ⟨trivial, trivial, g4⟩]
        simp only [apS]
        rw [if_pos ⟨by rw [rowsD_flat hw], rowsOne_den hone, by rw [← hl]; exact c1, by rw [← hl]; exact c2⟩, hn, hl]
        rfl
      · cases hv
    · cases hv
  · cases hv
theorem apC_den {P : Program} {ρ : Rho} {n z : Nat} {mu : Bool} {e : TypeId} {h : XHp} {Φ : Facts} (hk : Facts.ok ρ Φ) {cs : List X} {fs : Rows} {m : Nm} {w off len : Nat} {own : Bool} {r : X × XDl} (hg : hgetX h m = some cs) (hv : (apC n z (bytesT P e) Φ cs fs m w off len own).sel ρ = some r) :
    apN P n (denH ρ h) mu e z (.sl m w off len own) (some (fs.den ρ)) = some (r.1.den ρ, denD ρ r.2) := by
  unfold apC at hv
  split at hv
  · rename_i hc
    simp only [Bool.and_eq_true] at hc
    obtain ⟨g1, g2, g3, g4⟩ := hc
    have g1 := Nat.eq_of_beq_eq_true g1
    have g2 := Nat.eq_of_beq_eq_true g2
    have g4 := Nat.eq_of_beq_eq_true g4
    subst g1 g2
    obtain ⟨Φ', _, la, lb, c1, c2, hv⟩ := sel_okLen hk hv
    split at hv
    · rename_i hone
      have hn := rowsNew_den la lb (sel_retO hv)
      have hcl : (X.denL ρ cs).length = len * w := by rw [X.denL_len]; exact g4
      have hf : (X.denE ρ (chunkX w len cs)).flatten = X.denL ρ cs := by rw [chunkX_den]; exact chunk_flatten w len _ hcl
      have hl : (X.denE ρ (chunkX w len cs)).length = len := by rw [chunkX_den, chunk_length]
      simp only [Rows.den, hf, hl] at c1 c2 hn
      simp only [apN, hget_denH hg]
      rw [if_pos ⟨trivial, trivial, g3⟩]
      simp only [apS]
      rw [if_pos ⟨hcl, rowsOne_den hone, c1, c2⟩, hn]
      rfl
    · cases hv
  · cases hv
def apSX (n : Nat) (mu : Bool) (z b : Nat) (h : XHp) (Φ : Facts) (fs : Rows) : X → T (X × XDl)
  | .sl m w off len own => match hgetX h m, fs with
    | some cs, .c fs => retO (apSl n z b m w off len own cs fs)
    | some cs, fs => apC n z b Φ cs fs m w off len own
    | _, _ => (.fail [])
  | .slv m w off len own => apV n z b h Φ fs m w off len own
  | s => match baseX z s with
    | some es => apBase n mu z b Φ es fs
    | none => (.fail [])
theorem apN_base {P : Program} {n : Nat} {h : Hp} {mu : Bool} {e : TypeId} {z : Nat} {s : AV} {fs : List (List AV)} (hs : ∀ m w off len own, s ≠ .sl m w off len own) : apN P n h mu e z s (some fs) = apO n mu z (bytesT P e) fs (baseRo z s) := by
  cases s <;> first | rfl | exact absurd rfl (hs _ _ _ _ _)
theorem apSX_den {P : Program} {ρ : Rho} {n z : Nat} {mu : Bool} {e : TypeId} {h : XHp} {Φ : Facts} (hk : Facts.ok ρ Φ) {fs : Rows} {s : X} {r : X × XDl} (hv : (apSX n mu z (bytesT P e) h Φ fs s).sel ρ = some r) :
    apN P n (denH ρ h) mu e z (s.den ρ) (some (fs.den ρ)) = some (r.1.den ρ, denD ρ r.2) := by
  unfold apSX at hv
  split at hv
  · split at hv
    · exact apSl_den (by assumption) (sel_retO hv)
    · exact apC_den hk (by assumption) hv
    · cases hv
  · exact apV_den hk hv
  · rename_i hs hs2
    rw [apN_base (fun m w off len own hh => by
      cases s with
      | sl _ _ _ _ _ => exact hs _ _ _ _ _ rfl
      | slv _ _ _ _ _ => exact hs2 _ _ _ _ _ rfl
      | gd c x => simp [baseX, T.sel] at hv
      | _ => simp only [X.den, reduceCtorEq] at hh)]
    split at hv
    · rename_i es hes
      rw [baseX_den hes]
      exact apBase_den hk hv
    · cases hv
def appX (n : Nat) (mu : Bool) (i ix : TI) (ti : Nat → Option TI) (h : XHp) (Φ : Facts) (s x : X) : T (X × XDl) :=
  match i.sl, ix.sl with
  | some (e, z), some (e', z') => match ti e with
    | some ie => if (Nat.beq e e' && (Nat.beq z z' && zokI ie z)) = true then
        (elemsT h Φ z x).bind Φ fun Φ fs => apSX n mu z ie.by_ h Φ fs s
      else (.fail [])
    | none => (.fail [])
  | _, _ => (.fail [])
theorem appX_den {P : Program} {ρ : Rho} {n : Nat} {mu : Bool} {ty xt : TypeId} {ti : Nat → Option TI} (hti : TIs.ok P ti) {h : XHp} {Φ : Facts} (hk : Facts.ok ρ Φ) {s x : X} {r : X × XDl}
    (hv : (appX n mu (tiOf P ty) (tiOf P xt) ti h Φ s x).sel ρ = some r) : appendN P n (denH ρ h) mu ty xt (s.den ρ) (x.den ρ) = some (r.1.den ρ, denD ρ r.2) := by
  unfold appX at hv
  split at hv
  · rename_i e z e' z' h1 h2
    have h1' : slT P ty = some (e, z) := h1
    have h2' : slT P xt = some (e', z') := h2
    split at hv
    · rename_i ie hie
      have hie := hti _ _ hie
      subst hie
      split at hv
      · rename_i hc
        simp only [Bool.and_eq_true] at hc
        have he := Nat.eq_of_beq_eq_true hc.1
        have hz := Nat.eq_of_beq_eq_true hc.2.1
        subst he hz
        simp only [appendN, h1', h2', zokI_eq hc.2.2]
        rw [if_pos ⟨trivial, trivial⟩]
        obtain ⟨Φ', fs, hk', hf, hv⟩ := T.sel_bind _ hk hv
        rw [elemsT_den hk hf]
        exact apSX_den hk' hv
      · cases hv
    · cases hv
  · cases hv
end Go.Proofs.Xw
