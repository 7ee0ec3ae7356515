/- Parts of the proof, one behind the other. -/
import Derived.Test.YtdlifdoglhhnfaaTM4
import Derived.Test.YtdlifdoglhhnfaaXwM3
/- Txn: lemmas that the laws share; what Part, Past, Covers, Right answer. -/
namespace Go.Proofs.Ytdlifdoglhhnfaa
open Go Go.Proofs.Aw Go.Proofs.Xw Go.Proofs.Sr
set_option maxRecDepth 100000
theorem ap_ci {β : Bind} {ρ : Rho} {l k : Nat} {m : IE} {r : RL} (h : lassoc l β.r = some (m, r)) (j : Nat) : (β.ap ρ).ci l k j = cellI (r.row ρ j)[k]? := by simp only [Bind.ap, h]
theorem row_i (ρ : Rho) (l j : Nat) : cellI ((RL.var l [.i .i64]).row ρ j)[0]? = ρ.ci l 0 j := by
  simp only [RL.row, cellsV, List.getElem?_cons_zero, cellI, Int.toNat_natCast]
theorem row_one (ρ : Rho) (x : IE) (j : Int) : cellI ((RL.one [.i .i64 x]).row ρ j)[0]? = x.den ρ := by
  simp only [RL.row, scL, List.map_cons, List.map_nil, List.getElem?_cons_zero, Sc.den, cellI]
theorem row_app (ρ : Rho) (l j : Nat) (x : IE) : cellI ((RL.app (.len l) (.var l [.i .i64]) (.one [.i .i64 x])).row ρ j)[0]? = if j < ρ.len l then ρ.ci l 0 j else x.den ρ := by
  simp only [RL.row]
  by_cases c : j < ρ.len l
  · rw [if_pos (show (j : Int) < (IE.len l).den ρ from by simp only [IE.den]; omega), if_pos c]; exact row_i ρ l j
  · rw [if_neg (show ¬ (j : Int) < (IE.len l).den ρ from by simp only [IE.den]; omega), if_neg c]; exact row_one ρ x 0
theorem inc {ρ : Rho} {k j : Nat} (h : ρ.i k = j) (hj : j < 4611686018427387904) : (IE.op .add .i64 (.var k) (.lit 1)).den ρ = ((j + 1 : Nat) : Int) := by
  show IOp.den .add .i64 (ρ.i k) 1 = _
  rw [h]; simp only [IOp.den]; rw [wrap_id _ (by omega) (by omega)]; omega
theorem ap_cb {β : Bind} {ρ : Rho} {l k : Nat} {m : IE} {r : RL} (h : lassoc l β.r = some (m, r)) (j : Nat) : (β.ap ρ).cb l k j = cellB (r.row ρ j)[k]? := by simp only [Bind.ap, h]
theorem cl_i {ρ : Rho} {l k : Nat} {e : IE} {j : Nat} (h : e.den ρ = j) : (IE.cl l k e).den ρ = ρ.ci l k j := by
  show ρ.ci l k (e.den ρ).toNat = _; rw [h, Int.toNat_natCast]
theorem cl_b {ρ : Rho} {l k : Nat} {e : IE} {j : Nat} (h : e.den ρ = j) : (BE.cl l k e).den ρ = ρ.cb l k j := by
  show ρ.cb l k (e.den ρ).toNat = _; rw [h, Int.toNat_natCast]
/-- With some letters put. -/
def putI (ρ : Rho) (v : List (Nat × Int)) : Rho := { ρ with i := fun k => match lassoc k v with | some x => x | none => ρ.i k }
def putB (ρ : Rho) (k : Nat) (b : Bool) : Rho := { ρ with b := fun j => if j = k then b else ρ.b j }
theorem putI_agree (ρ : Rho) {v : List (Nat × Int)} {n : Nat} (h : keysGe n v = true) : Agree n ρ (putI ρ v) :=
  ⟨fun k hk => by simp only [putI, lassoc_ge h hk], fun _ _ => rfl, fun _ _ => rfl, fun _ _ => rfl, fun _ _ => rfl, fun _ _ => rfl, fun _ _ => rfl⟩
theorem putB_agree (ρ : Rho) {k n : Nat} {b : Bool} (h : n ≤ k) : Agree n ρ (putB ρ k b) :=
  ⟨fun _ _ => rfl, fun j hj => by show _ = if j = k then _ else _; rw [if_neg (by omega)], fun _ _ => rfl, fun _ _ => rfl, fun _ _ => rfl, fun _ _ => rfl, fun _ _ => rfl⟩
/-- What is to be read again is told by keys' numbers. -/
def Again (ρ : Rho) (l n c : Nat) : Prop := ρ.len l = c ∧ ∀ j, j < c → 0 ≤ ρ.ci l 0 j ∧ ρ.ci l 0 j < n
theorem Again.agree {ρ ρ' : Rho} {k l n c : Nat} (h : Again ρ l n c) (ag : Agree k ρ ρ') (hl : l < k) : Again ρ' l n c :=
  ⟨by rw [← ag.len l hl]; exact h.1, by rw [← ag.ci l hl]; exact h.2⟩
theorem Again.app {ρ : Rho} {β : Bind} {l n c : Nat} {x : IE} (h : Again ρ l n c) (hr : lassoc l β.r = some (.op .padd .i64 (.len l) (.lit 1), .app (.len l) (.var l [.i .i64]) (.one [.i .i64 x]))) (h0 : 0 ≤ x.den ρ) (h1 : x.den ρ < n) : Again (β.ap ρ) l n (c + 1) := by
  refine ⟨?_, fun j hj => ?_⟩
  · rw [ap_len hr]
    show ((ρ.len l : Int) + 1).toNat = _
    rw [h.1]; omega
  · rw [ap_ci hr, row_app, h.1]
    split
    · exact h.2 j (by omega)
    · exact ⟨h0, h1⟩
theorem Again.one {ρ : Rho} {β : Bind} {l n : Nat} {x : IE} (hr : lassoc l β.r = some (.lit 1, .one [.i .i64 x])) (h0 : 0 ≤ x.den ρ) (h1 : x.den ρ < n) : Again (β.ap ρ) l n 1 := by
  refine ⟨ap_len hr, fun j hj => ?_⟩
  rw [ap_ci hr, row_one]
  exact ⟨h0, h1⟩
/-- The same loop, where its way out is known. -/
theorem one_way {ρ : Rho} {N : Nat} {c : Code} {L M : LoopX} (h : LoopOk Try.prog ρ N c L) (h0 : M.k0 = L.k0) (h1 : M.S = L.S) (h2 : M.init = L.init) (h3 : ∀ e s, L.out.sel ρ = some (e, s) → M.out.sel ρ = some (e, s)) : LoopOk Try.prog ρ N c M := by
  intro E hE hk
  rw [h1, h2]
  exact AW_mono (fun e σ hq => by
    obtain ⟨e', s, q1, q2, q3⟩ := hq
    exact ⟨e', s, h3 _ _ q1, q2, q3⟩) (h E hE (by rw [← h0]; exact hk))
/-- A vector that may be. -/
def rightV (ρ : Rho) : Prop := ∀ k, k < 9 → 0 ≤ ρ.i k ∧ ρ.i k ≤ 1099511627776
theorem rv_cy (ρ : Rho) : ∃ b : Bool, (b = true → rightV ρ) ∧ hasBody Try.prog 31 = true ∧ ∀ n h, CY Try.prog n 31 (X.denL ρ [.agg (vi 0 9)]) h (.sc (.bool b)) [] := by
  obtain ⟨e, he⟩ : ∃ e, r31 = .ret (.sc (.b e)) := ⟨_, rfl⟩
  have q := askF_ok (c := ⟨cfgL [] (fun _ => []), l_able, []⟩) (f := 31) (args := [.agg (vi 0 9)]) (Φ := []) (cN_ok ρ) l_able_ok (Facts.ok_nil ρ) (by rw [r31_run, he]; exact rfl)
  refine ⟨_, fun hb => ?_, q⟩
  have h2 : T.ret (X.sc (Sc.b e)) = r31 := he.symm
  unfold r31 at h2
  simp only [T.ret.injEq, X.sc.injEq, Sc.b.injEq] at h2
  rw [h2] at hb
  simp only [dnot_t, dor_f, dlt_f, IE.den] at hb
  intro k hk
  obtain ⟨⟨⟨a0, b0⟩, ⟨a1, b1⟩, a2, b2⟩, ⟨⟨a3, b3⟩, ⟨a4, b4⟩, a5, b5⟩, ⟨a6, b6⟩, ⟨a7, b7⟩, a8, b8⟩ := hb
  match k, hk with
  | 0, _ => exact ⟨a0, b0⟩
  | 1, _ => exact ⟨a1, b1⟩
  | 2, _ => exact ⟨a2, b2⟩
  | 3, _ => exact ⟨a3, b3⟩
  | 4, _ => exact ⟨a4, b4⟩
  | 5, _ => exact ⟨a5, b5⟩
  | 6, _ => exact ⟨a6, b6⟩
  | 7, _ => exact ⟨a7, b7⟩
  | 8, _ => exact ⟨a8, b8⟩
theorem tru_cy {ρ ρ' : Rho} {f : Nat} {hf : List Nat} {c : Cfg} {Φ : Facts} {args : List X} {t : T X} (cok : CfgOk Try.prog ρ' c) (hk : Facts.ok ρ' Φ) (hrun : askF ⟨c, l_able, hf⟩ f args Φ = t) {x : X} (hs : t.sel ρ' = some x) (hx : x.den ρ' = .sc (.bool true)) (ha : X.denL ρ args = X.denL ρ' args) : ∀ n h, CY Try.prog n f (X.denL ρ args) h (.sc (.bool true)) [] := by
  have q := askF_ok (c := ⟨c, l_able, hf⟩) (f := f) (args := args) (Φ := Φ) cok l_able_ok hk (r := x) (by rw [hrun]; exact hs)
  rw [hx, ← ha] at q
  exact q.2
theorem kys_den {ρ : Rho} {n : Nat} {g : Nat → ByteArray} (h : ρ.len 2 = n) (hg : stR ρ 2 = g) : X.denL ρ [kyR] = [roV n g] := by simp only [X.denL, ky_den, h, hg]
theorem sl_sizes {W : World} {v : Value} {j : Nat} (h : Fits W (.sl [.s]) v) (vs : List Value) (cells : List Value) (zs : List Nat) (hv : vs[j]? = some v) (hz : zs[j]? = some 1) : ∀ k, k < (mkR W cells vs zs).len j → (stR (mkR W cells vs zs) j k).size < 9223372036854775808 := by
  obtain ⟨_, A, len, cap, rfl, _, h⟩ := h
  intro k hk
  have hk : k < len := by
    have : (mkR W cells vs zs).len j = len := by simp only [mkR, hv, lenO]
    omega
  obtain ⟨a, rfl, _, h⟩ := h (by omega)
  obtain ⟨cs, ⟨v, r, rfl, ⟨s, rfl, hs⟩, _⟩, hc⟩ := h k hk
  have h0 := hc 0 (by decide)
  simp only [List.length_cons, List.length_nil, List.getElem?_cons_zero] at h0
  show (strO (rowCell W vs zs j 0 k)).size < _
  have : rowCell W vs zs j 0 k = some (.string s) := by
    unfold rowCell
    rw [hv, hz]
    exact h0
  rw [this]
  show s.size < _
  have : maxLen = 9223372036854775807 := rfl
  omega
theorem sl_len {W : World} {v : Value} {j : Nat} {ks : List Kd} (h : Fits W (.sl ks) v) (vs : List Value) (cells : List Value) (zs : List Nat) (hv : vs[j]? = some v) : ∃ A len cap, v = .slice A len cap ∧ (mkR W cells vs zs).len j = len := by
  obtain ⟨_, A, len, cap, rfl, _, _⟩ := h
  exact ⟨A, len, cap, rfl, by simp only [mkR, hv, lenO]⟩
/-- What the laws do not turn. -/
structure EnF (ρ : Rho) (n m : Nat) (g : Nat → ByteArray) : Prop where
  en : ρ.len 2 = n
  em : ρ.len 3 = m
  eg : stR ρ 2 = g
  n1 : 1 ≤ n
  n6 : n ≤ 6
  mb : m < 4611686018427387904
  r1 : 1 ≤ ρ.i 9
  r3 : ρ.i 9 ≤ 3
  z : ∀ j, j < n → (g j).size < 9223372036854775808
theorem EnF.agree {ρ ρ' : Rho} {n m k : Nat} {g : Nat → ByteArray} (h : EnF ρ n m g) (ag : Agree k ρ ρ') (hk : 10 ≤ k) : EnF ρ' n m g :=
  ⟨by rw [← ag.len 2 (by omega)]; exact h.en, by rw [← ag.len 3 (by omega)]; exact h.em, by rw [agree_st ag (by omega)]; exact h.eg, h.n1, h.n6, h.mb, by rw [← ag.i 9 (by omega)]; exact h.r1, by rw [← ag.i 9 (by omega)]; exact h.r3, h.z⟩
/-! ### Past -/
def paR (f : Nat → Int) : Rho := ⟨fun _ => 0, fun _ => false, fun _ => ⟨#[]⟩, fun _ => 0, fun _ c _ => f c, fun _ _ _ => false, fun _ _ _ => ⟨#[]⟩⟩
def exOf (t : T X) (d : Nat) : IE := match t with
  | .ret (.agg l) => match l[d]? with
    | some (.sc (.i _ x)) => x
    | _ => .lit 0
  | _ => .lit 0
/-- What a write stands on, and it itself: by its cells. -/
def pa (f : Nat → Int) (d : Nat) : Int := (exOf psR d).den (paR f)
def nineV (v : Nat → Int) : AV := .agg ((List.range 9).map fun k => .sc (.int .i64 (v k)))
theorem past_row (ρ : Rho) (l : Nat) (i : IE) : hasBody Try.prog 16 = true ∧ ∀ n h, CY Try.prog n 16 (X.denL ρ [.ro 20 [enC l i] true]) h (nineV (pa fun c => ρ.ci l c (i.den ρ).toNat)) [] := by
  let ρ' : Rho := ⟨fun _ => i.den ρ, fun _ => false, fun _ => ⟨#[]⟩, fun _ => 0, fun _ c k => ρ.ci l c k, fun _ c k => ρ.cb l c k, fun _ c k => ρ.cs l c k⟩
  have q := askF_ok (c := ⟨cfgL [] (fun _ => []), l_able, []⟩) (ρ := ρ') (f := 16) (args := [.ro 20 [enC 3 (.var 500)] true]) (Φ := []) (cN_ok ρ') l_able_ok (Facts.ok_nil ρ') (by rw [psR_run]; exact rfl)
  exact q
/-! ### Covers -/
theorem cov_row (ρ : Rho) (a b : Nat) (h : ∀ d, d < 9 → ρ.i (b + d) ≤ ρ.i (a + d)) : hasBody Try.prog 15 = true ∧ ∀ n hp, CY Try.prog n 15 (X.denL ρ [.agg (vi a 9), .agg (vi b 9)]) hp (.sc (.bool true)) [] := by
  let ρ' : Rho := ⟨fun k => if k < 580 then ρ.i (a + (k - 510)) else ρ.i (b + (k - 580)), fun _ => false, fun _ => ⟨#[]⟩, fun _ => 0, fun _ _ _ => 0, fun _ _ _ => false, fun _ _ _ => ⟨#[]⟩⟩
  obtain ⟨e, he⟩ : ∃ e, cvR = .ret (.sc (.b e)) := ⟨_, rfl⟩
  have q := askF_ok (c := ⟨cfgL [] (fun _ => []), l_able, []⟩) (ρ := ρ') (f := 15) (args := [.agg (vi 510 9), .agg (vi 580 9)]) (Φ := []) (cN_ok ρ') l_able_ok (Facts.ok_nil ρ') (by rw [cvR_run, he]; exact rfl)
  have ht : X.den ρ' (.sc (.b e)) = .sc (.bool true) := by
    have h2 : T.ret (X.sc (Sc.b e)) = cvR := he.symm
    unfold cvR at h2
    simp only [T.ret.injEq, X.sc.injEq, Sc.b.injEq] at h2
    have : e.den ρ' = true := by
      rw [h2]
      simp only [dnot_t, dor_f, dlt_f, IE.den]
      exact ⟨⟨h 0 (by decide), h 1 (by decide), h 2 (by decide)⟩, ⟨h 3 (by decide), h 4 (by decide), h 5 (by decide)⟩, h 6 (by decide), h 7 (by decide), h 8 (by decide)⟩
    simp only [X.den, Sc.den, this]
  rw [ht] at q
  exact q
theorem cov_any (ρ : Rho) (a b : Nat) : ∃ t : Bool, hasBody Try.prog 15 = true ∧ ∀ n hp, CY Try.prog n 15 (X.denL ρ [.agg (vi a 9), .agg (vi b 9)]) hp (.sc (.bool t)) [] := by
  let ρ' : Rho := ⟨fun k => if k < 580 then ρ.i (a + (k - 510)) else ρ.i (b + (k - 580)), fun _ => false, fun _ => ⟨#[]⟩, fun _ => 0, fun _ _ _ => 0, fun _ _ _ => false, fun _ _ _ => ⟨#[]⟩⟩
  obtain ⟨e, he⟩ : ∃ e, cvR = .ret (.sc (.b e)) := ⟨_, rfl⟩
  have q := askF_ok (c := ⟨cfgL [] (fun _ => []), l_able, []⟩) (ρ := ρ') (f := 15) (args := [.agg (vi 510 9), .agg (vi 580 9)]) (Φ := []) (cN_ok ρ') l_able_ok (Facts.ok_nil ρ') (by rw [cvR_run, he]; exact rfl)
  exact ⟨_, q⟩
/-! ### Part -/
/-- A column of a vector. -/
def pc (c : Nat → Int) (r : Int) (x : Nat) : Int := (exOf ptR x).den ⟨fun k => if k < 552 then c (k - 532) else r, fun _ => false, fun _ => ⟨#[]⟩, fun _ => 0, fun _ _ _ => 0, fun _ _ _ => false, fun _ _ _ => ⟨#[]⟩⟩
theorem part_row (ρ : Rho) (a : Nat) (r : IE) : hasBody Try.prog 19 = true ∧ ∀ n h, CY Try.prog n 19 (X.denL ρ [.agg (vi a 9), .sc (.i .i64 r)]) h (.agg [.sc (.int .i64 (pc (fun k => ρ.i (a + k)) (r.den ρ) 0)), .sc (.int .i64 (pc (fun k => ρ.i (a + k)) (r.den ρ) 1)), .sc (.int .i64 (pc (fun k => ρ.i (a + k)) (r.den ρ) 2))]) [] := by
  let ρ' : Rho := ⟨fun k => if k < 552 then ρ.i (a + (k - 532)) else r.den ρ, fun _ => false, fun _ => ⟨#[]⟩, fun _ => 0, fun _ _ _ => 0, fun _ _ _ => false, fun _ _ _ => ⟨#[]⟩⟩
  have q := askF_ok (c := ⟨cfgL [] (fun _ => []), l_able, []⟩) (ρ := ρ') (f := 19) (args := [.agg (vi 532 9), iV 552]) (Φ := []) (cN_ok ρ') l_able_ok (Facts.ok_nil ρ') (by rw [ptR_run]; exact rfl)
  exact q
/-- A column does not cover another one. -/
def ncol (f : Nat → Int) (p : Nat → Int) : Prop := f 22 < p 0 ∨ f 23 < p 1 ∨ f 24 < p 2
end Go.Proofs.Ytdlifdoglhhnfaa

/- Txn: the loop of New: what is run once. -/
namespace Go.Proofs.Ytdlifdoglhhnfaa
open Go Go.Proofs.Aw Go.Proofs.Xw
set_option maxRecDepth 100000
def nrF : Facts := (List.range 9).flatMap (fun k => [(.lt (.var k) (.lit 0), false), (.lt (.lit 1099511627776) (.var k), false)]) ++ [(.lt (.var 9) (.lit 1), false), (.lt (.lit 3) (.var 9), false), (.lt (.len 2) (.lit 1), false), (.lt (.lit 6) (.len 2), false)]
def nwF : Facts := [(.lt (.len 2) (.lit 1), false), (.lt (.lit 6) (.len 2), false)]
def ks32 : List (Nat × List X × X) := [(32, [kyR], .sc (.b (.lit true)))]

noncomputable def nw_c : Code := (loopsOf (Try.f9.body.getD .skip))[0]?.getD .skip
theorem nw_fits : fitsC Try.f9.ntmps nw_c = true := by kernel_rfl
abbrev zTM5_0 : Sc := .i .i64 (.lit 0)
abbrev zTM5_1 : X := .sc (.i .i64 (.len 2))
abbrev zTM5_2 : X := .rl 1 (.len 2) (.var 2 [.s]) false
abbrev zTM5_3 : X := .ptr (41, 0) [] 0
abbrev zTM5_4 : XTp := [(35, .top), (34, .top), (33, .top), (32, .top), (31, .top), (30, .top), (29, .top), (28, .top), (27, .top), (26, .top), (25, .top), (24, .top), (23, .top), (22, .top), (21, .top), (20, .top), (19, .top), (18, .top), (17, .top), (16, .top), (15, .top), (14, .top), (13, .top), (12, .top), (11, .top), (10, .top)]
abbrev zTM5_5 : X := .sc (.i .i64 (.var 0))
abbrev zTM5_6 : X := .sc (.i .i64 (.var 1))
abbrev zTM5_7 : X := .sc (.i .i64 (.var 2))
abbrev zTM5_8 : X := .sc (.i .i64 (.var 3))
abbrev zTM5_9 : X := .sc (.i .i64 (.var 4))
abbrev zTM5_10 : X := .sc (.i .i64 (.var 5))
abbrev zTM5_11 : X := .sc (.i .i64 (.var 6))
abbrev zTM5_12 : X := .sc (.i .i64 (.var 7))
abbrev zTM5_13 : X := .sc (.i .i64 (.var 8))
abbrev zTM5_14 : List X := [zTM5_5, zTM5_6, zTM5_7, zTM5_8, zTM5_9, zTM5_10, zTM5_11, zTM5_12, zTM5_13]
abbrev zTM5_15 : X := .sc (.i .i64 (.var 9))
abbrev zTM5_16 : XTp := [(7, (.sc zTM5_0)), (6, (.k (.pointer none))), (3, .top), (0, (.agg zTM5_14)), (1, zTM5_15), (2, zTM5_2)]
abbrev zTM5_17 : XTp := ([(38, (.sc zTM5_0)), (37, zTM5_1), (36, zTM5_2), (8, zTM5_3)] ++ zTM5_4 ++ zTM5_16)
abbrev zTM5_18 : List X := [(.rows 1 (.len 2) (.var 2 [.s]))]
abbrev zTM5_19 : List X := [(.rows 25 (.len 2) (.one [zTM5_0, (.b (.lit false)), zTM5_0, zTM5_0, zTM5_0, zTM5_0, zTM5_0, zTM5_0, (.s (.lit ⟨#[]⟩)), (.s (.lit ⟨#[]⟩)), (.b (.lit false)), zTM5_0, zTM5_0, zTM5_0, zTM5_0, zTM5_0, zTM5_0, zTM5_0, zTM5_0, zTM5_0, zTM5_0, zTM5_0, zTM5_0, zTM5_0, zTM5_0]))]
abbrev zTM5_20 : X := .slv (36, 0) 1 (.lit 0) (.len 2) true
abbrev zTM5_21 : X := .slv (39, 0) 25 (.lit 0) (.len 2) true
abbrev zTM5_22 : X := .sc (.i .i64 (.lit 1))
abbrev zTM5_23 : List X := [zTM5_5, zTM5_6, zTM5_7, zTM5_8, zTM5_9, zTM5_10, zTM5_11, zTM5_12, zTM5_13, zTM5_5, zTM5_6, zTM5_7, zTM5_8, zTM5_9, zTM5_10, zTM5_11, zTM5_12, zTM5_13, zTM5_15, zTM5_20, zTM5_21, (.k (.slice none 0 0)), zTM5_22, (.sc zTM5_0)]
abbrev zTM5_24 : XTp := ([(38, (.sc (.i .i64 (.var 460)))), (37, zTM5_1), (36, zTM5_2), (8, zTM5_3)] ++ zTM5_4 ++ zTM5_16)
abbrev zTM5_25 : XHp := [((36, 0), zTM5_18), ((39, 0), zTM5_19), ((41, 0), [zTM5_5, zTM5_6, zTM5_7, zTM5_8, zTM5_9, zTM5_10, zTM5_11, zTM5_12, zTM5_13, zTM5_5, zTM5_6, zTM5_7, zTM5_8, zTM5_9, zTM5_10, zTM5_11, zTM5_12, zTM5_13, zTM5_15, zTM5_20, zTM5_21, (.slv (100, 0) 1 (.lit 0) (.len 461) true), zTM5_22, (.sc zTM5_0)]), ((100, 0), [(.rows 1 (.len 461) (.var 461 [(.i .i64)]))])]
abbrev zTM5_26 : IE := .op .add .i64 (.var 460) (.lit 1)
abbrev zTM5_27 : IE := .op .padd .i64 (.len 461) (.lit 1)
abbrev zTM5_28 : RL := .app (.len 461) (.var 461 [(.i .i64)]) (.one [(.i .i64 (.var 460))])
def nw_E : XS := ⟨zTM5_17, [((13, 0), zTM5_14), ((36, 0), zTM5_18), ((39, 0), zTM5_19), ((41, 0), zTM5_23)], 46⟩
def nw_ks : List Nat := [38, 37, 36, 8, 35, 34, 33, 32, 31, 30, 29, 28, 27, 26, 25, 24, 23, 22, 21, 20, 19, 18, 17, 16, 15, 14, 13, 12, 11, 10, 7, 6, 3, 0, 1, 2]
theorem nw_Eb : nw_E.bel 460 = true := by kernel_rfl
def nw_S0 : XS := ⟨zTM5_17, [((36, 0), zTM5_18), ((39, 0), zTM5_19), ((41, 0), zTM5_23)], 46⟩
def nw_S1 : XS := ⟨zTM5_24, zTM5_25, 101⟩
theorem nw_S0b : nw_S0.bel 490 = true := by kernel_rfl
theorem nw_S1b : nw_S1.bel 490 = true := by kernel_rfl
def nw_I0 : Bind := ⟨[], [], [], []⟩
theorem nw_I0ok : okS 13 460 nw_I0 [] nw_S0 nw_E = true := by kernel_rfl
theorem nw_I0g : nw_I0.ge 460 = true := by kernel_rfl
def nw_A_r : T (XE × XS) := (.ret (.normal, ⟨([(38, zTM5_22), (37, zTM5_1), (36, zTM5_2), (8, zTM5_3)] ++ zTM5_4 ++ zTM5_16), [((36, 0), zTM5_18), ((39, 0), zTM5_19), ((41, 0), [zTM5_5, zTM5_6, zTM5_7, zTM5_8, zTM5_9, zTM5_10, zTM5_11, zTM5_12, zTM5_13, zTM5_5, zTM5_6, zTM5_7, zTM5_8, zTM5_9, zTM5_10, zTM5_11, zTM5_12, zTM5_13, zTM5_15, zTM5_20, zTM5_21, (.sl (56, 0) 1 0 1 true), zTM5_22, (.sc zTM5_0)]), ((56, 0), [(.sc zTM5_0)])], 62⟩))
theorem nw_A_run : (codeX (cfgL [] (fun _ => [])).ti (callS ⟨(cfgL [] (fun _ => [])), l_able, [9, 20, 33, 37, 58]⟩ 12) (((cfgL [] (fun _ => [])).ft 9).elim [] (·.ms)) 13 ([]) 1000 nw_c (nwF) nw_S0).map (sqz nw_ks) = nw_A_r := by kernel_rfl
def nw_A_s : XS := ⟨([(38, zTM5_22), (37, zTM5_1), (36, zTM5_2), (8, zTM5_3)] ++ zTM5_4 ++ zTM5_16), [((36, 0), zTM5_18), ((39, 0), zTM5_19), ((41, 0), [zTM5_5, zTM5_6, zTM5_7, zTM5_8, zTM5_9, zTM5_10, zTM5_11, zTM5_12, zTM5_13, zTM5_5, zTM5_6, zTM5_7, zTM5_8, zTM5_9, zTM5_10, zTM5_11, zTM5_12, zTM5_13, zTM5_15, zTM5_20, zTM5_21, (.sl (56, 0) 1 0 1 true), zTM5_22, (.sc zTM5_0)]), ((56, 0), [(.sc zTM5_0)])], 62⟩
def nw_A_b : Bind := ⟨[(460, (.lit 1))], [], [], [(461, (.lit 1), (.one [(.i .i64 (.lit 0))]))]⟩
theorem nw_A_ok : okS 13 460 nw_A_b [((100, 0), (56, 0))] nw_S1 nw_A_s = true := by kernel_rfl
theorem nw_A_g : nw_A_b.ge 460 = true := by kernel_rfl
theorem nw_A_step {ρ ρ1 : Rho} (hd : nw_S0.den ρ = nw_S0.den ρ1) (cok : CfgOk Try.prog ρ1 (cfgL [] (fun _ => []))) (hl : LpsOk Try.prog ρ1 Try.f9.ntmps ([]) nw_c) (hk : Facts.ok ρ1 (nwF)) : StepF Try.prog Try.f9.ntmps nw_c 13 nw_S0 nw_S1 ρ (nw_A_b.ap ρ1) :=
  fam_goU nw_fits hd cok hl hk nw_A_run rfl nw_A_ok
theorem nw_A_460 : lassoc 460 nw_A_b.i = some (.lit 1) := by kernel_rfl
theorem nw_A_r461 : lassoc 461 nw_A_b.r = some ((.lit 1), (.one [(.i .i64 (.lit 0))])) := by kernel_rfl
def nw_B_r : T (XE × XS) := (.ret (.normal, ⟨([(38, (.sc (.i .i64 zTM5_26))), (37, zTM5_1), (36, zTM5_2), (8, zTM5_3)] ++ zTM5_4 ++ zTM5_16), [((36, 0), zTM5_18), ((39, 0), zTM5_19), ((41, 0), [zTM5_5, zTM5_6, zTM5_7, zTM5_8, zTM5_9, zTM5_10, zTM5_11, zTM5_12, zTM5_13, zTM5_5, zTM5_6, zTM5_7, zTM5_8, zTM5_9, zTM5_10, zTM5_11, zTM5_12, zTM5_13, zTM5_15, zTM5_20, zTM5_21, (.slv (111, 0) 1 (.lit 0) zTM5_27 true), zTM5_22, (.sc zTM5_0)]), ((111, 0), [(.rows 1 zTM5_27 zTM5_28)])], 117⟩))
theorem nw_B_run : (codeX (cfgL [] (fun _ => [])).ti (callS ⟨(cfgL [] (fun _ => [])), l_able, [9, 20, 33, 37, 58]⟩ 12) (((cfgL [] (fun _ => [])).ft 9).elim [] (·.ms)) 13 ([]) 1000 nw_c ((.lt (.var 460) (.len 2), true) :: (.lt (.var 460) (.lit 0), false) :: (.lt (.lit 6) (.len 461), false) :: nwF) nw_S1).map (sqz nw_ks) = nw_B_r := by kernel_rfl
def nw_B_s : XS := ⟨([(38, (.sc (.i .i64 zTM5_26))), (37, zTM5_1), (36, zTM5_2), (8, zTM5_3)] ++ zTM5_4 ++ zTM5_16), [((36, 0), zTM5_18), ((39, 0), zTM5_19), ((41, 0), [zTM5_5, zTM5_6, zTM5_7, zTM5_8, zTM5_9, zTM5_10, zTM5_11, zTM5_12, zTM5_13, zTM5_5, zTM5_6, zTM5_7, zTM5_8, zTM5_9, zTM5_10, zTM5_11, zTM5_12, zTM5_13, zTM5_15, zTM5_20, zTM5_21, (.slv (111, 0) 1 (.lit 0) zTM5_27 true), zTM5_22, (.sc zTM5_0)]), ((111, 0), [(.rows 1 zTM5_27 zTM5_28)])], 117⟩
def nw_B_b : Bind := ⟨[(460, zTM5_26)], [], [], [(461, zTM5_27, zTM5_28)]⟩
theorem nw_B_ok : okS 13 460 nw_B_b [((100, 0), (111, 0))] nw_S1 nw_B_s = true := by kernel_rfl
theorem nw_B_g : nw_B_b.ge 460 = true := by kernel_rfl
theorem nw_B_step {ρ ρ1 : Rho} (hd : nw_S1.den ρ = nw_S1.den ρ1) (cok : CfgOk Try.prog ρ1 (cfgL [] (fun _ => []))) (hl : LpsOk Try.prog ρ1 Try.f9.ntmps ([]) nw_c) (hk : Facts.ok ρ1 ((.lt (.var 460) (.len 2), true) :: (.lt (.var 460) (.lit 0), false) :: (.lt (.lit 6) (.len 461), false) :: nwF)) : StepF Try.prog Try.f9.ntmps nw_c 13 nw_S1 nw_S1 ρ (nw_B_b.ap ρ1) :=
  fam_goU nw_fits hd cok hl hk nw_B_run rfl nw_B_ok
theorem nw_B_460 : lassoc 460 nw_B_b.i = some (.op .add .i64 (.var 460) (.lit 1)) := by kernel_rfl
theorem nw_B_r461 : lassoc 461 nw_B_b.r = some ((.op .padd .i64 (.len 461) (.lit 1)), (.app (.len 461) (.var 461 [(.i .i64)]) (.one [(.i .i64 (.var 460))]))) := by kernel_rfl
def nw_X_r : T (XE × XS) := (.ret ((.exit 0), ⟨zTM5_24, zTM5_25, 102⟩))
theorem nw_X_run : (codeX (cfgL [] (fun _ => [])).ti (callS ⟨(cfgL [] (fun _ => [])), l_able, [9, 20, 33, 37, 58]⟩ 12) (((cfgL [] (fun _ => [])).ft 9).elim [] (·.ms)) 13 ([]) 1000 nw_c ((.lt (.var 460) (.len 2), false) :: nwF) nw_S1).map (sqz nw_ks) = nw_X_r := by kernel_rfl
def nw_X_s : XS := ⟨zTM5_24, zTM5_25, 102⟩
def nw_out : T (XE × XS) := (.ret ((.exit 0), nw_X_s))
noncomputable def nw : LoopX := ⟨((codeKey nw_c).getD 0), 13, 460, nw_E, noB, [], nw_out⟩
theorem nw_ob : nw.out.belX 490 = true := by kernel_rfl
theorem nw_X_end {ρ1 : Rho} (cok : CfgOk Try.prog ρ1 (cfgL [] (fun _ => []))) (hl : LpsOk Try.prog ρ1 Try.f9.ntmps ([]) nw_c) (hk : Facts.ok ρ1 ((.lt (.var 460) (.len 2), false) :: nwF)) (ho : nw_out.sel ρ1 = some ((.exit 0), nw_X_s)) : EndL Try.prog Try.f9.ntmps nw_c 13 nw_S1 nw_out ρ1 :=
  fam_endU nw_fits cok hl hk nw_X_run rfl (fun h => nomatch h) ho (by kernel_rfl)
end Go.Proofs.Ytdlifdoglhhnfaa
