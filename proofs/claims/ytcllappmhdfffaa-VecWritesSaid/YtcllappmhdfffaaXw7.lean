/- Symbolic runs, part 7: append; one step. -/
import Derived.Test.YtcllappmhdfffaaXw6
namespace Go.Proofs.Xw
open Go Go.Proofs.Aw

/-! ### Append -/
inductive Rows where
  | c (es : List (List X))
  | r (n : IE) (l : RL)
def Rows.den (ρ : Rho) : Rows → List (List AV)
  | .c es => X.denE ρ es
  | .r n l => rowsD ρ n l
def chunkX (z : Nat) : Nat → List X → List (List X)
  | 0, _ => []
  | k + 1, cs => cs.take z :: chunkX z k (cs.drop z)
theorem chunkX_den (ρ : Rho) (z : Nat) : ∀ (k : Nat) (cs : List X), X.denE ρ (chunkX z k cs) = chunk z k (X.denL ρ cs)
  | 0, _ => rfl
  | k + 1, cs => by simp only [chunkX, X.denE, chunk, X.denL_take, chunkX_den ρ z k, X.denL_drop]
def elemsX (h : XHp) (z : Nat) : X → Option Rows
  | .ro z' es _ => if Nat.beq z' z = true then some (.c es) else none
  | .rl z' n l _ => if Nat.beq z' z = true then some (.r n l) else none
  | .sl m z' off len _ => match hgetX h m with
    | some cs => if (Nat.beq z' z && Nat.ble (off + len * z) cs.length) = true then some (.c (chunkX z len (cs.drop off))) else none
    | none => none
  | .k (.slice none 0 0) => some (.c [])
  | _ => none
theorem elemsX_den {ρ : Rho} {h : XHp} {z : Nat} {x : X} {r : Rows} (he : elemsX h z x = some r) : elemsA (denH ρ h) z (x.den ρ) = some (r.den ρ) := by
  unfold elemsX at he
  split at he
  · split at he
    · rename_i hz; cases he; have hz := Nat.eq_of_beq_eq_true hz; subst hz; simp only [X.den, elemsA, if_true, Rows.den]
    · cases he
  · split at he
    · rename_i hz; cases he; have hz := Nat.eq_of_beq_eq_true hz; subst hz; simp only [X.den, elemsA, if_true, Rows.den]
    · cases he
  · split at he
    · rename_i cs hg
      split at he
      · rename_i hz
        cases he
        simp only [Bool.and_eq_true, Nat.ble_eq] at hz
        have hz1 := Nat.eq_of_beq_eq_true hz.1
        subst hz1
        simp only [X.den, elemsA, hget_denH, hg, Option.map_some, Option.bind_some, X.denL_len, Rows.den, chunkX_den, X.denL_drop]
        rw [if_pos ⟨trivial, hz.2⟩]
      · cases he
    · cases he
  · cases he; simp only [X.den, elemsA, Rows.den, X.denE]
  · cases he
def baseX (z : Nat) : X → Option Rows
  | .ro z' es true => if Nat.beq z' z = true then some (.c es) else none
  | .rl z' n l true => if Nat.beq z' z = true then some (.r n l) else none
  | .k (.slice none 0 0) => some (.c [])
  | _ => none
theorem baseX_den {ρ : Rho} {z : Nat} {x : X} {r : Rows} (he : baseX z x = some r) : baseRo z (x.den ρ) = some (r.den ρ) := by
  unfold baseX at he
  split at he
  · split at he
    · rename_i hz; cases he; have hz := Nat.eq_of_beq_eq_true hz; subst hz; simp only [X.den, baseRo, if_true, Rows.den]
    · cases he
  · split at he
    · rename_i hz; cases he; have hz := Nat.eq_of_beq_eq_true hz; subst hz; simp only [X.den, baseRo, if_true, Rows.den]
    · cases he
  · cases he; simp only [X.den, baseRo, Rows.den, X.denE]
  · cases he
def toScs : List X → Option (List Sc)
  | [] => some []
  | .sc s :: r => (toScs r).map (s :: ·)
  | _ => none
theorem toScs_den {ρ : Rho} : ∀ {l : List X} {s : List Sc}, toScs l = some s → scL ρ s = X.denL ρ l
  | [], s, h => by simp only [toScs, Option.some.injEq] at h; subst h; rfl
  | x :: r, s, h => by
    unfold toScs at h
    split at h
    · contradiction
    · rename_i s' r' he
      cases he
      obtain ⟨t, ht, rfl⟩ := Option.map_eq_some_iff.1 h
      have := toScs_den (ρ := ρ) ht
      simp only [X.denL, X.den, ← this]
      rfl
    · cases h
def toRL : List (List X) → Option RL
  | [] => none
  | [e] => (toScs e).map .one
  | e :: es => match toScs e, toRL es with
    | some s, some l => some (.app (.lit 1) (.one s) l)
    | _, _ => none
theorem toRL_row {ρ : Rho} : ∀ {es : List (List X)} {l : RL}, toRL es = some l → ∀ j : Nat, j < es.length → (X.denE ρ es)[j]? = some (l.row ρ j)
  | [], _, h, _, _ => by simp [toRL] at h
  | [e], l, h, j, hj => by
    simp only [toRL] at h
    obtain ⟨s, hs, rfl⟩ := Option.map_eq_some_iff.1 h
    obtain rfl : j = 0 := by simpa using hj
    simp only [X.denE, List.getElem?_cons_zero, RL.row, toScs_den hs]
  | e :: e' :: es, l, h, j, hj => by
    simp only [toRL] at h
    split at h
    · rename_i s l' hs hl
      cases h
      simp only [RL.row]
      cases j with
      | zero =>
        rw [if_pos (show ((0 : Nat) : Int) < (IE.lit 1).den ρ from by simp [IE.den])]
        simp only [X.denE, List.getElem?_cons_zero, toScs_den hs]
      | succ j =>
        rw [if_neg (show ¬ ((j + 1 : Nat) : Int) < (IE.lit 1).den ρ from by simp only [IE.den]; omega), show ((j + 1 : Nat) : Int) - (IE.lit 1).den ρ = (j : Nat) from by simp only [IE.den]; omega]
        have := toRL_row (ρ := ρ) hl j (by simpa using hj)
        simpa only [X.denE, List.getElem?_cons_succ] using this
    · cases h
theorem toRL_den {ρ : Rho} {es : List (List X)} {l : RL} (h : toRL es = some l) : rowsD ρ (.lit es.length) l = X.denE ρ es := by
  apply List.ext_getElem?
  intro j
  by_cases hj : j < es.length
  · rw [toRL_row h j hj, rowsD_get (by simp only [IE.den]; omega)]
  · rw [List.getElem?_eq_none (by simp [rowsD, IE.den]; omega), List.getElem?_eq_none (by simp [X.denE_eq]; omega)]
theorem rowsD_app {ρ : Rho} {n m : IE} {a b : RL} (hn : 0 ≤ n.den ρ) (hm : 0 ≤ m.den ρ) : rowsD ρ (mkAdd n m) (.app n a b) = rowsD ρ n a ++ rowsD ρ m b := by
  apply List.ext_getElem?
  intro j
  obtain ⟨x, hx⟩ : ∃ x : Nat, n.den ρ = x := ⟨(n.den ρ).toNat, by omega⟩
  obtain ⟨y, hy⟩ : ∃ y : Nat, m.den ρ = y := ⟨(m.den ρ).toNat, by omega⟩
  have hl : (rowsD ρ n a).length = x := by simp [rowsD, hx]
  by_cases h1 : j < x
  · rw [List.getElem?_append_left (by omega), rowsD_get (by rw [mkAdd_den]; omega), rowsD_get (by omega)]
    simp only [RL.row, hx]
    rw [if_pos (by omega)]
  · rw [List.getElem?_append_right (by omega), hl]
    by_cases h2 : j < x + y
    · rw [rowsD_get (by rw [mkAdd_den]; omega), rowsD_get (by omega)]
      simp only [RL.row, hx]
      rw [if_neg (by omega), show (j : Int) - x = (j - x : Nat) from by omega]
    · rw [List.getElem?_eq_none (by simp [rowsD, mkAdd_den, hx, hy]; omega), List.getElem?_eq_none (by simp [rowsD, hy]; omega)]
def Rows.len : Rows → IE
  | .c es => .lit es.length
  | .r n _ => n
def catX : Rows → Rows → Option Rows
  | .c es, .c fs => some (.c (es ++ fs))
  | .r n l, .c [] => some (.r n l)
  | .c [], .r n l => some (.r n l)
  | .r n l, .c fs => (toRL fs).map fun m => .r (mkAdd n (.lit fs.length)) (.app n l m)
  | .c es, .r n l => (toRL es).map fun m => .r (mkAdd (.lit es.length) n) (.app (.lit es.length) m l)
  | .r n l, .r m k => some (.r (mkAdd n m) (.app n l k))
theorem Rows.len_den {ρ : Rho} {a : Rows} (h : 0 ≤ a.len.den ρ) : ((a.den ρ).length : Int) = a.len.den ρ := by
  cases a with
  | c es => simp [Rows.den, Rows.len, X.denE_eq, IE.den]
  | r n l => simp only [Rows.len] at h; simp only [Rows.den, Rows.len, rowsD, List.length_map, List.length_range]; omega
theorem catX_den {ρ : Rho} {a b c : Rows} (ha : 0 ≤ a.len.den ρ) (hb : 0 ≤ b.len.den ρ) (h : catX a b = some c) : c.den ρ = a.den ρ ++ b.den ρ := by
  unfold catX at h
  split at h
  · cases h; simp [Rows.den, X.denE_eq]
  · cases h; simp [Rows.den, X.denE]
  · cases h; simp [Rows.den, X.denE]
  · obtain ⟨m, hm, rfl⟩ := Option.map_eq_some_iff.1 h
    simp only [Rows.den, ← toRL_den hm]
    exact rowsD_app ha hb
  · obtain ⟨m, hm, rfl⟩ := Option.map_eq_some_iff.1 h
    simp only [Rows.den, ← toRL_den hm]
    exact rowsD_app ha hb
  · cases h
    exact rowsD_app ha hb
def capLim (b : Nat) : Nat := Nat.min (140737488355328 / b) 9223372036854775807
theorem capLim_ok {b n : Nat} (h : n ≤ capLim b) : n * b ≤ 140737488355328 ∧ n ≤ 9223372036854775807 := by
  have h1 : n ≤ 140737488355328 / b := Nat.le_trans h (Nat.min_le_left _ _)
  have h2 : n ≤ 9223372036854775807 := Nat.le_trans h (Nat.min_le_right _ _)
  exact ⟨Nat.mul_le_of_le_div b n _ h1, h2⟩
def Rows.ro (z : Nat) : Rows → X
  | .c es => .ro z es false
  | .r n l => .rl z n l false
theorem Rows.ro_den (ρ : Rho) (z : Nat) (a : Rows) : (a.ro z).den ρ = .ro z (a.den ρ) false := by cases a <;> rfl
def okLen {α : Type} (Φ : Facts) (a b : Rows) (by_ : Nat) (k : Facts → T α) : T α :=
  want Φ (mkNot (mkLt a.len (.lit 0))) fun Φ => want Φ (mkNot (mkLt b.len (.lit 0))) fun Φ => want Φ (mkNot (mkLt (.lit (capLim by_)) (mkAdd a.len b.len))) k
theorem sel_okLen {α : Type} {ρ : Rho} {Φ : Facts} {a b : Rows} {by_ : Nat} {k : Facts → T α} {x : α} (hk : Facts.ok ρ Φ) (h : (okLen Φ a b by_ k).sel ρ = some x) :
    ∃ Φ', Facts.ok ρ Φ' ∧ 0 ≤ a.len.den ρ ∧ 0 ≤ b.len.den ρ ∧ ((a.den ρ).length + (b.den ρ).length) * by_ ≤ 140737488355328 ∧ (a.den ρ).length + (b.den ρ).length ≤ 9223372036854775807 ∧ (k Φ').sel ρ = some x := by
  obtain ⟨Φ1, hk1, c1, h⟩ := sel_want hk h
  obtain ⟨Φ2, hk2, c2, h⟩ := sel_want hk1 h
  obtain ⟨Φ3, hk3, c3, h⟩ := sel_want hk2 h
  have c1 := not_lt_den c1
  have c2 := not_lt_den c2
  have c3 := not_lt_den c3
  rw [mkAdd_den] at c3
  simp only [IE.den] at c1 c2 c3
  have l1 := Rows.len_den (ρ := ρ) (a := a) (by omega)
  have l2 := Rows.len_den (ρ := ρ) (a := b) (by omega)
  have := capLim_ok (b := by_) (n := (a.den ρ).length + (b.den ρ).length) (by omega)
  exact ⟨Φ3, hk3, by omega, by omega, this.1, this.2, h⟩
def apSl (n z b : Nat) (m : Nm) (w off len : Nat) (own : Bool) (cs : List X) (fs : List (List X)) : Option (X × XDl) :=
  if (Nat.beq w z && (Nat.beq off 0 && (own && (Nat.beq cs.length (len * z) && ((flatX fs).all X.one && Nat.ble (len + fs.length) (capLim b)))))) = true then
    some (.sl (n, 0) z 0 (len + fs.length) true, [(m, none), ((n, 0), some (cs ++ flatX fs))]) else none
theorem apSl_den {P : Program} {ρ : Rho} {n z : Nat} {m : Nm} {w off len : Nat} {own mu : Bool} {e : TypeId} {h : XHp} {cs : List X} {fs : List (List X)} {r : X × XDl} (hg : hgetX h m = some cs) (hv : apSl n z (bytesT P e) m w off len own cs fs = some r) :
    apN P n (denH ρ h) mu e z (.sl m w off len own) (some (X.denE ρ fs)) = some (r.1.den ρ, denD ρ r.2) := by
  unfold apSl at hv
  split at hv
  · rename_i hcc
    simp only [Bool.and_eq_true, Nat.ble_eq] at hcc
    obtain ⟨g1, g2, g3, g4, g5, g6⟩ := hcc
    have g1 := Nat.eq_of_beq_eq_true g1
    have g2 := Nat.eq_of_beq_eq_true g2
    have g4 := Nat.eq_of_beq_eq_true g4
    subst g1 g2
    cases hv
    have hl2 : (X.denE ρ fs).length = fs.length := by simp [X.denE_eq]
    have hcap := capLim_ok g6
    simp only [apN, hget_denH, hg, Option.map_some, apS, X.denL_len, hl2]
    rw [if_pos ⟨trivial, trivial, g3⟩, if_pos ⟨g4, by rw [← flatX_den]; exact X.all_one ρ _ g5, hcap.1, hcap.2⟩]
    simp only [X.den, denD, List.map_cons, List.map_nil, Option.map_some, Option.map_none, X.denL_append, flatX_den]
  · cases hv
def apNew (n z b : Nat) (es fs : List (List X)) : Option (X × XDl) :=
  if (Nat.ble (es.length + fs.length) (capLim b) && Nat.blt 0 fs.length) = true then some (.sl (n, 0) z 0 (es.length + fs.length) true, [((n, 0), some (flatX es ++ flatX fs))]) else none
def apBase (n : Nat) (mu : Bool) (z b : Nat) (Φ : Facts) (es fs : Rows) : T (X × XDl) :=
  match mu with
  | false => okLen Φ es fs b fun _ => retO ((catX es fs).map fun r => (r.ro z, []))
  | true => match es, fs with
    | .c es, .c fs => retO (apNew n z b es fs)
    | _, _ => (.fail [])
theorem apBase_den {ρ : Rho} {n z b : Nat} {mu : Bool} {Φ : Facts} (hk : Facts.ok ρ Φ) {es fs : Rows} {r : X × XDl} (hv : (apBase n mu z b Φ es fs).sel ρ = some r) : apO n mu z b (fs.den ρ) (some (es.den ρ)) = some (r.1.den ρ, denD ρ r.2) := by
  unfold apBase at hv
  split at hv
  · obtain ⟨Φ', _, la, lb, c1, c2, hv⟩ := sel_okLen hk hv
    obtain ⟨c, hcat, rfl⟩ := Option.map_eq_some_iff.1 (sel_retO hv)
    simp only [apO]
    rw [if_pos ⟨c1, c2, fun hh => (nomatch hh)⟩, Rows.ro_den, catX_den la lb hcat]
    rfl
  · split at hv
    · rename_i es fs
      have hv := sel_retO hv
      unfold apNew at hv
      split at hv
      · rename_i hcc
        simp only [Bool.and_eq_true, Nat.ble_eq] at hcc
        cases hv
        have hl1 : (X.denE ρ es).length = es.length := by simp [X.denE_eq]
        have hl2 : (X.denE ρ fs).length = fs.length := by simp [X.denE_eq]
        have hcap := capLim_ok hcc.1
        have hpos : 0 < fs.length := by simpa [Nat.blt_eq] using hcc.2
        simp only [apO, Rows.den, hl1, hl2]
        rw [if_pos ⟨hcap.1, hcap.2, fun _ hh => by rw [← hl2, hh] at hpos; simp at hpos⟩]
        simp only [X.den, denD, List.map_cons, List.map_nil, Option.map_some, X.denL_append, flatX_den]
      · cases hv
    · cases hv
def apSX (n : Nat) (mu : Bool) (z b : Nat) (h : XHp) (Φ : Facts) (fs : Rows) : X → T (X × XDl)
  | .sl m w off len own => match hgetX h m, fs with
    | some cs, .c fs => retO (apSl n z b m w off len own cs fs)
    | _, _ => (.fail [])
  | s => match baseX z s with
    | some es => apBase n mu z b Φ es fs
    | none => (.fail [])
theorem apN_base {P : Program} {n : Nat} {h : Hp} {mu : Bool} {e : TypeId} {z : Nat} {s : AV} {fs : List (List AV)} (hs : ∀ m w off len own, s ≠ .sl m w off len own) : apN P n h mu e z s (some fs) = apO n mu z (bytesT P e) fs (baseRo z s) := by
  cases s <;> first | rfl | exact absurd rfl (hs _ _ _ _ _)
theorem apSX_den {P : Program} {ρ : Rho} {n z : Nat} {mu : Bool} {e : TypeId} {h : XHp} {Φ : Facts} (hk : Facts.ok ρ Φ) {fs : Rows} {s : X} {r : X × XDl} (hv : (apSX n mu z (bytesT P e) h Φ fs s).sel ρ = some r) :
    apN P n (denH ρ h) mu e z (s.den ρ) (some (fs.den ρ)) = some (r.1.den ρ, denD ρ r.2) := by
  unfold apSX at hv
  split at hv
  · split at hv
    · exact apSl_den (by assumption) (sel_retO hv)
    · cases hv
  · rename_i hs
    rw [apN_base (fun m w off len own hh => by
      cases s with
      | sl _ _ _ _ _ => exact hs _ _ _ _ _ rfl
      | gd c x => simp [baseX, T.sel] at hv
      | _ => simp only [X.den, reduceCtorEq] at hh)]
    split at hv
    · rename_i es hes
      rw [baseX_den hes]
      exact apBase_den hk hv
    · cases hv
def appX (n : Nat) (mu : Bool) (i ix : TI) (ti : Nat → Option TI) (h : XHp) (Φ : Facts) (s x : X) : T (X × XDl) :=
  match i.sl, ix.sl with
  | some (e, z), some (e', z') => match ti e with
    | some ie => if (Nat.beq e e' && (Nat.beq z z' && zokI ie z)) = true then
        match elemsX h z x with
        | some fs => apSX n mu z ie.by_ h Φ fs s
        | none => (.fail [])
      else (.fail [])
    | none => (.fail [])
  | _, _ => (.fail [])
theorem appX_den {P : Program} {ρ : Rho} {n : Nat} {mu : Bool} {ty xt : TypeId} {ti : Nat → Option TI} (hti : TIs.ok P ti) {h : XHp} {Φ : Facts} (hk : Facts.ok ρ Φ) {s x : X} {r : X × XDl}
    (hv : (appX n mu (tiOf P ty) (tiOf P xt) ti h Φ s x).sel ρ = some r) : appendN P n (denH ρ h) mu ty xt (s.den ρ) (x.den ρ) = some (r.1.den ρ, denD ρ r.2) := by
  unfold appX at hv
  split at hv
  · rename_i e z e' z' h1 h2
    have h1' : slT P ty = some (e, z) := h1
    have h2' : slT P xt = some (e', z') := h2
    split at hv
    · rename_i ie hie
      have hie := hti _ _ hie
      subst hie
      split at hv
      · rename_i hc
        simp only [Bool.and_eq_true] at hc
        have he := Nat.eq_of_beq_eq_true hc.1
        have hz := Nat.eq_of_beq_eq_true hc.2.1
        subst he hz
        simp only [appendN, h1', h2', zokI_eq hc.2.2]
        rw [if_pos ⟨trivial, trivial⟩]
        split at hv
        · rename_i fs hf
          rw [elemsX_den hf]
          exact apSX_den hk hv
        · cases hv
      · cases hv
    · cases hv
  · cases hv

/-! ### One step -/
def evX (g : Nat → X) : Operand → X
  | .tmp i => g i
  | .const v => ofV v
  | .global a => .k (.pointer (some ⟨a, 0, none⟩))
  | .func f => .fn (.func f) [] []
def evLX (g : Nat → X) : List Operand → List X
  | [] => []
  | x :: xs => evX g x :: evLX g xs
def evPX (g : Nat → X) : List (Nat × Operand) → List (Nat × X)
  | [] => []
  | (i, x) :: xs => (i, evX g x) :: evPX g xs
section
variable {ρ : Rho} {g : Nat → X} {t : Tp} (hg : ∀ i, (g i).den ρ = tget t i)
include hg
theorem evX_den (x : Operand) : (evX g x).den ρ = ev t x := by
  cases x with
  | tmp i => exact hg i
  | const v => exact ofV_den ρ v
  | global a => rfl
  | func f => simp only [evX, X.den, X.denL, ev]
theorem evLX_den : ∀ l : List Operand, X.denL ρ (evLX g l) = evL t l
  | [] => rfl
  | x :: xs => by simp only [evLX, X.denL, evL, evX_den hg x, evLX_den xs]
theorem evPX_den : ∀ l : List (Nat × Operand), denP ρ (evPX g l) = evP t l
  | [] => rfl
  | (i, x) :: xs => by
    have := evPX_den xs
    simp only [denP] at this
    simp only [evPX, denP, List.map_cons, evP, evX_den hg x, this]
end
inductive XR where
  | ok (r : X) (d : XDl)
  | call (f : FuncId) (args : List X)
/-- A value that is there under a condition, where that is decided. -/
def strip (Φ : Facts) : X → X
  | .gd c x => match red Φ c with
    | .lit true => x
    | .lit false => .k undef
    | _ => .gd c x
  | x => x
theorem strip_den {ρ : Rho} {Φ : Facts} (hk : Facts.ok ρ Φ) (x : X) : (strip Φ x).den ρ = x.den ρ := by
  unfold strip
  split
  · rename_i c x
    have hr := red_den hk c
    split
    · rename_i hd; rw [hd] at hr; simp only [X.den, ← hr, BE.den, if_true]
    · rename_i hd; rw [hd] at hr; simp only [X.den, ← hr, BE.den]; rfl
    · rfl
  · rfl
def pickX (Φ : Facts) : X → X → X → Option X
  | .sc (.b e), a, b => match red Φ e with
    | .lit true => some a
    | .lit false => some b
    | d => X.mix d (strip (assume d true Φ) a) (strip (assume d false Φ) b)
  | _, _, _ => none
theorem pickX_den {ρ : Rho} {Φ : Facts} (hk : Facts.ok ρ Φ) {c a b v : X} (h : pickX Φ c a b = some v) : pickN (c.den ρ) (a.den ρ) (b.den ρ) = some (v.den ρ) := by
  unfold pickX at h
  split at h
  · rename_i e
    have hr := red_den hk e
    split at h
    · rename_i hd; cases h; rw [hd] at hr; simp only [X.den, Sc.den, ← hr, BE.den, pickN]
    · rename_i hd; cases h; rw [hd] at hr; simp only [X.den, Sc.den, ← hr, BE.den, pickN]
    · rw [X.mix_den _ _ _ h]
      simp only [X.den, Sc.den]
      by_cases hd : BE.den ρ (red Φ e) = true
      · rw [if_pos hd, strip_den (assume_ok _ true Φ hd hk), ← hr, hd]; rfl
      · have hd' : BE.den ρ (red Φ e) = false := by simpa using hd
        rw [if_neg hd, strip_den (assume_ok _ false Φ hd' hk), ← hr, hd']; rfl
  · cases h
def nilX (h : XHp) : X → Option X
  | .ptr n as d => if okPtr h n = true then some (.ptr n as d) else none
  | .ip cs as d => some (.ip cs as d)
  | .fn (.func f) xs ys => some (.fn (.func f) xs ys)
  | _ => none
theorem nilX_den {ρ : Rho} {h : XHp} {x v : X} (hv : nilX h x = some v) : nilN (denH ρ h) (x.den ρ) = some (v.den ρ) := by
  unfold nilX at hv
  split at hv
  · split at hv
    · rename_i ho; cases hv; simp only [X.den, nilN, okPtr_den ho, if_true]
    · cases hv
  · cases hv; simp only [X.den, nilN]
  · cases hv; simp only [X.den, nilN]
  · cases hv
def one1 (o : Option X) : T XR := retO (o.map fun v => .ok v [])
def one2 (t : T X) : T XR := t.map fun v => .ok v []
def tiW (ti : Nat → Option TI) (t : Nat) (k : TI → T XR) : T XR := match ti t with
  | some i => k i
  | none => (.fail [])
def stepX (ti : Nat → Option TI) (n : Nat) (mu : Bool) (g : Nat → X) (h : XHp) (Φ : Facts) : Op → T XR
  | .move x => .ret (.ok (evX g x) [])
  | .assign x => .ret (.ok (evX g x) [])
  | .pick c a b => one1 (pickX Φ (evX g c) (evX g a) (evX g b))
  | .alloc e => tiW ti e fun i => retO (i.zero.map fun zs => .ok (.ptr (n, 0) [] 0) [((n, 0), some (zs.map ofV))])
  | .box _ x => if (evX g x).cells.all X.one = true then .ret (.ok (.ptr (n, 0) [] 0) [((n, 0), some (evX g x).cells)]) else (.fail [])
  | .load ty x => tiW ti ty fun i => one1 (loadX i h (evX g x))
  | .store ty x y => tiW ti ty fun i => retO ((storeX i h (evX g x) (evX g y).cells).map fun d => .ok (.k undef) d)
  | .nilCheck x => one1 (nilX h (evX g x))
  | .indexAddr ty x i => tiW ti ty fun t => one2 (idxAddrX t h Φ (evX g x) (evX g i))
  | .fieldAddr ty x f => tiW ti ty fun t => one1 (fieldAddrX t h f (evX g x))
  | .field ty x f => tiW ti ty fun t => one1 (fieldX t f (evX g x))
  | .index ty x i => tiW ti ty fun t => one2 (indexX t Φ (evX g x) (evX g i))
  | .slice ty x lo hi none => tiW ti ty fun t => match bndX (lo.map (evX g)) (.lit 0), bndX (hi.map (evX g)) (topE t (evX g x)) with
    | some l, some r => one2 (slX t h Φ (evX g x) l r hi.isNone)
    | _, _ => (.fail [])
  | .binOp op ty x y _ => tiW ti ty fun t => one2 (binX t Φ op (evX g x) (evX g y))
  | .unOp op _ x => one1 (unX op (evX g x))
  | .convert src dst x => tiW ti src fun s => tiW ti dst fun t => one1 (convX s t (evX g x))
  | .extract x i => match evX g x with
    | .tup vs => one1 vs[i]?
    | _ => (.fail [])
  | .makeFunc f xs ys => .ret (.ok (.fn f (evLX g xs.toList) (evLX g ys.toList)) [])
  | .build ty ps => tiW ti ty fun t => one1 (buildX t (evPX g ps.toList))
  | .buildSlice ty len ps => tiW ti ty fun t => retO ((buildSliceX n mu t ti len (evPX g ps.toList)).map fun p => .ok p.1 p.2)
  | .call ⟨.builtin b, args, tys⟩ => match b, tys.toList, evLX g args.toList with
    | .len, ty :: _, x :: _ => tiW ti ty fun t => one2 (lenX t h Φ x)
    | .max, _, x :: xs => one1 (maxX x xs)
    | .min, _, x :: xs => one1 (minX x xs)
    | .append, [ty, xt], [s, x] => tiW ti ty fun t => tiW ti xt fun t' => (appX n mu t t' ti h Φ s x).map fun p => .ok p.1 p.2
    | _, _, _ => (.fail [])
  | .call ⟨.value x, args, _⟩ => match evX g x with
    | .fn (.func f) xs ys => .ret (.call f (xs ++ (evLX g args.toList ++ ys)))
    | _ => (.fail [])
  | _ => (.fail [])

theorem Yields_of_stepN {P : Program} {n : Nat} {mu : Bool} {op : Op} {t : Tp} {h : Hp} {r : AV} {d : Dl} (he : stepN P n mu t h op = .ok r d) : Aw.Yields P n op t h r d := by
  obtain ⟨r', d', hy, h1, h2⟩ := stepK_sound (stepN_K (K := fun a b => a = r ∧ b = d) he ⟨rfl, rfl⟩)
  subst h1 h2; exact hy
theorem Yields_le {P : Program} {n : Nat} {op : Op} {t : Tp} {h : Hp} {r r' : AV} {d : Dl} (hy : Aw.Yields P n op t h r d) (hl : LeA r' r) : Aw.Yields P n op t h r' d := by
  intro C a o next Q ho hh ht hn hk
  refine hy C a o next Q ho hh ht hn fun u C' hp => hk u C' ?_
  exact ⟨hp.le, hp.kn, hp.heap, hl _ _ hp.val, hp.same, hp.mt, hp.os, hp.tape, hp.output, hp.orig, hp.names⟩
theorem Yields_step {P : Program} {n : Nat} {mu : Bool} {op : Op} {t : Tp} {h : Hp} {r r' : AV} {d : Dl} (he : stepN P n mu t h op = .ok r d) (hl : LeA r' r) : Aw.Yields P n op t h r' d := Yields_le (Yields_of_stepN he) hl

/-- What one step shows. -/
def XR.shows (ρ : Rho) (P : Program) (n : Nat) (mu : Bool) (op : Op) (t : Tp) (h : Hp) : XR → Prop
  | .ok r d => Aw.Yields P n op t h (r.den ρ) (denD ρ d)
  | .call f args => stepN P n mu t h op = .call f (X.denL ρ args)
theorem sel_tiW {P : Program} {ρ : Rho} {ti : Nat → Option TI} (hti : TIs.ok P ti) {t : Nat} {k : TI → T XR} {a : XR} (h : (tiW ti t k).sel ρ = some a) : (k (tiOf P t)).sel ρ = some a := by
  unfold tiW at h
  split at h
  · rename_i i hi; rw [hti _ _ hi] at h; exact h
  · cases h
theorem sel_one1 {ρ : Rho} {o : Option X} {a : XR} (h : (one1 o).sel ρ = some a) : ∃ v, o = some v ∧ a = .ok v [] := by
  obtain ⟨v, h1, h2⟩ := Option.map_eq_some_iff.1 (sel_retO h)
  exact ⟨v, h1, h2.symm⟩
theorem sel_one2 {ρ : Rho} {o : T X} {a : XR} (h : (one2 o).sel ρ = some a) : ∃ v, o.sel ρ = some v ∧ a = .ok v [] := T.sel_map o h

theorem stepX_shows {P : Program} {ρ : Rho} {ti : Nat → Option TI} (hti : TIs.ok P ti) {n : Nat} {mu : Bool} {g : Nat → X} {t : Tp} (hg : ∀ i, (g i).den ρ = tget t i) {h : XHp} {Φ : Facts} (hk : Facts.ok ρ Φ) {op : Op} {a : XR}
    (hs : (stepX ti n mu g h Φ op).sel ρ = some a) : a.shows ρ P n mu op t (denH ρ h) := by
  unfold stepX at hs
  split at hs
  · cases hs
    exact Yields_of_stepN (mu := mu) (by simp only [stepN, evX_den hg]; rfl)
  · cases hs
    exact Yields_of_stepN (mu := mu) (by simp only [stepN, evX_den hg]; rfl)
  · obtain ⟨v, hv, rfl⟩ := sel_one1 hs
    have := pickX_den hk hv
    simp only [evX_den hg] at this
    exact Yields_of_stepN (mu := mu) (by simp only [stepN, this, lift1]; rfl)
  · obtain ⟨zs, hz, rfl⟩ := Option.map_eq_some_iff.1 (sel_retO (sel_tiW hti hs))
    rename_i e
    have hz' : zeroV P e = some zs := hz
    refine Yields_of_stepN (mu := mu) ?_
    simp only [stepN, zeroC_eq, hz', Option.map_some, allocN, X.den, choose, denD, List.map_cons, List.map_nil, ofVs_den]
  · split at hs
    · rename_i x hc
      cases hs
      refine Yields_of_stepN (mu := mu) ?_
      simp only [stepN, ← evX_den hg, X.cells_den ρ _ hc, boxN, X.all_one ρ _ hc, if_true, X.den, choose, denD, List.map_cons, List.map_nil, Option.map_some]
    · cases hs
  · obtain ⟨v, hv, rfl⟩ := sel_one1 (sel_tiW hti hs)
    refine Yields_of_stepN (mu := mu) ?_
    simp only [stepN, ← evX_den hg, loadX_den hv, lift1]; rfl
  · obtain ⟨v, hv, rfl⟩ := Option.map_eq_some_iff.1 (sel_retO (sel_tiW hti hs))
    refine Yields_of_stepN (mu := mu) ?_
    obtain ⟨h1, h2⟩ := storeX_den (ρ := ρ) hv
    simp only [stepN, ← evX_den hg, X.cells_den ρ _ h1, h2, liftD]; rfl
  · obtain ⟨v, hv, rfl⟩ := sel_one1 hs
    refine Yields_of_stepN (mu := mu) ?_
    simp only [stepN, ← evX_den hg, nilX_den hv, lift1]; rfl
  · obtain ⟨v, hv, rfl⟩ := sel_one2 (sel_tiW hti hs)
    refine Yields_of_stepN (mu := mu) ?_
    simp only [stepN, ← evX_den hg, idxAddrX_den hk hv, lift1]; rfl
  · obtain ⟨v, hv, rfl⟩ := sel_one1 (sel_tiW hti hs)
    refine Yields_of_stepN (mu := mu) ?_
    simp only [stepN, ← evX_den hg, fieldAddrX_den hv, lift1]; rfl
  · obtain ⟨v, hv, rfl⟩ := sel_one1 (sel_tiW hti hs)
    refine Yields_of_stepN (mu := mu) ?_
    simp only [stepN, ← evX_den hg, fieldX_den hv, lift1]; rfl
  · obtain ⟨v, hv, rfl⟩ := sel_one2 (sel_tiW hti hs)
    refine Yields_of_stepN (mu := mu) ?_
    simp only [stepN, ← evX_den hg, indexX_den hk hv, lift1]; rfl
  · rename_i ty x lo hi
    have hs := sel_tiW hti hs
    split at hs
    · rename_i l r hl hr
      obtain ⟨v, hv, rfl⟩ := sel_one2 hs
      have hin : hi.isNone = (hi.map (evX g)).isNone := by cases hi <;> rfl
      rw [hin] at hv
      obtain ⟨w, hw, hle⟩ := slX_den hk hl hr hv
      refine Yields_step (mu := mu) (r := w) ?_ hle
      have e : ∀ o : Option Operand, (o.map (evX g)).map (X.den ρ) = evO t o := fun o => by cases o <;> simp only [Option.map_none, Option.map_some, evO, evX_den hg]
      rw [e, e, evX_den hg] at hw
      have e0 : evO t none = none := rfl
      simp only [stepN, e0, hw, lift1]; rfl
    · cases hs
  · obtain ⟨v, hv, rfl⟩ := sel_one2 (sel_tiW hti hs)
    refine Yields_of_stepN (mu := mu) ?_
    simp only [stepN, ← evX_den hg, binX_den hk hv, lift1]; rfl
  · obtain ⟨v, hv, rfl⟩ := sel_one1 hs
    refine Yields_of_stepN (mu := mu) ?_
    simp only [stepN, ← evX_den hg, unX_den hv, lift1]; rfl
  · obtain ⟨v, hv, rfl⟩ := sel_one1 (sel_tiW hti (sel_tiW hti hs))
    refine Yields_of_stepN (mu := mu) ?_
    simp only [stepN, ← evX_den hg, convX_den hv, lift1]; rfl
  · rename_i x i
    split at hs
    · rename_i vs hx
      obtain ⟨v, hv, rfl⟩ := sel_one1 hs
      refine Yields_of_stepN (mu := mu) ?_
      simp only [stepN, ← evX_den hg, hx, X.den, extractN, X.denL_get, hv, Option.map_some, lift1]; rfl
    · cases hs
  · cases hs
    refine Yields_of_stepN (mu := mu) ?_
    simp only [stepN, ← evLX_den hg, X.den]; rfl
  · obtain ⟨v, hv, rfl⟩ := sel_one1 (sel_tiW hti hs)
    refine Yields_of_stepN (mu := mu) ?_
    simp only [stepN, ← evPX_den hg, buildX_den hv, lift1]; rfl
  · obtain ⟨p, hv, rfl⟩ := Option.map_eq_some_iff.1 (sel_retO (sel_tiW hti hs))
    obtain ⟨v, d⟩ := p
    refine Yields_of_stepN (mu := mu) ?_
    simp only [stepN, ← evPX_den hg, buildSliceX_den hti hv, lift2]
  · rename_i b args tys
    have hL := evLX_den (ρ := ρ) hg args.toList
    split at hs
    · rename_i ty _ x _ h1 h2
      obtain ⟨v, hv, rfl⟩ := sel_one2 (sel_tiW hti hs)
      rw [h2] at hL
      refine Yields_of_stepN (mu := mu) ?_
      simp only [stepN, h1, ← hL, X.denL, builtinN, lenX_den hk hv, lift1]; rfl
    · rename_i x xs h2
      obtain ⟨v, hv, rfl⟩ := sel_one1 hs
      rw [h2] at hL
      refine Yields_of_stepN (mu := mu) ?_
      simp only [stepN, ← hL, X.denL, builtinN, maxX_den hv, lift1]; rfl
    · rename_i x xs h2
      obtain ⟨v, hv, rfl⟩ := sel_one1 hs
      rw [h2] at hL
      refine Yields_of_stepN (mu := mu) ?_
      simp only [stepN, ← hL, X.denL, builtinN, minX_den hv, lift1]; rfl
    · rename_i ty xt s x h1 h2
      obtain ⟨p, hv, rfl⟩ := T.sel_map _ (sel_tiW hti (sel_tiW hti hs))
      rw [h2] at hL
      refine Yields_of_stepN (mu := mu) ?_
      simp only [stepN, h1, ← hL, X.denL, builtinN, appX_den hti hk hv, lift2]
    · cases hs
  · rename_i x args tys
    split at hs
    · rename_i f xs ys hx
      cases hs
      simp only [XR.shows, stepN, ← evX_den hg, hx, X.den, callN, ← evLX_den hg, X.denL_append]
    · cases hs
  · cases hs
end Go.Proofs.Xw
