/- Parts of the proof, one behind the other. -/
import Derived.Test.YtdlifdoglhhnfaaTM6
import Derived.Test.YtdlifdoglhhnfaaXwM3
/- Txn: TxnWorld: what Read answers: its loop's runs. -/
namespace Go.Proofs.Ytdlifdoglhhnfaa
open Go Go.Proofs.Aw Go.Proofs.Xw Go.Proofs.Sr
set_option maxRecDepth 100000
def zI (n : Nat) : List X := List.replicate n (.sc (.i .i64 (.lit 0)))
def reQ (q : Bool) : List X := [.sc (.s (.var 600))] ++ (if q = true then vi 670 9 else zI 9) ++ [.sc (.b (.lit q))] ++ (if q = true then vi 670 9 else zI 9) ++ zI 3
def reX (q : Bool) (n : Nat) (i : IE) (seen : X) (h : XHp) : XS := ⟨[(52, .sc (.i .i64 i)), (51, .sc (.i .i64 (.len 601))), (50, rlW 601), (9, seen)] ++ tpW [39, 48, 47, 46, 45, 44, 43, 42, 41, 40, 20, 37, 36, 35, 34, 33, 32, 31, 30, 29, 28, 27, 26, 25, 24, 23, 22, 21] ++ [(8, .ptr (10, 0) [] 0), (7, .ptr (9, 0) [] 0)] ++ tpW [19, 18, 17, 16, 15, 14, 13] ++ [(6, .ptr (1, 0) [] 0), (4, .ptr (0, 0) [] 0), (0, xi 600), (1, .top), (2, .top)],
  [((0, 0), reQ q), ((1, 0), [.sc (.i .i64 (.lit 0)), .sc (.b (.lit false))] ++ zeX ++ zI 3), ((9, 0), vi 660 3), ((10, 0), if q = true then vi 664 3 else zI 3)] ++ h, n⟩
def re_E (q : Bool) : XS := reX q (if q = true then 45 else 40) (.lit 0) nlW []
def re_S (q : Bool) : Nat → XS
  | 0 => reX q 110 (.var 690) nlW []
  | _ => reX q 110 (.var 690) (.slv (100, 0) 20 (.lit 0) (.len 692) true) [((100, 0), [.rows 20 (.len 692) (.var 692 kep)])]
noncomputable def re_c : Code := (loopsOf (Try.f28.body.getD .skip))[0]?.getD .skip
noncomputable def reL (q : Bool) (s : Nat) : LoopX := ⟨(codeKey re_c).getD 0, 0, 690, re_E q, noB, [], .ret (.exit 1, re_S q s)⟩
noncomputable def reB (q : Bool) : LoopX := ⟨(codeKey re_c).getD 0, 0, 690, re_E q, noB, [], .br (.var 691) (.ret (.exit 1, re_S q 1)) (.ret (.exit 1, re_S q 0))⟩
def re_I : Bind := ⟨[(690, .lit 0)], [], [], []⟩
def upR : Nat × IE := (690, .op .add .i64 (.var 690) (.lit 1))
def rwR : List Sc := (List.range 20).map fun k => if isS k = true then .s (.cl 601 k (.var 690)) else if Nat.beq k 8 = true then .b (.cl 601 k (.var 690)) else .i .i64 (.cl 601 k (.var 690))
/-- A write is seen; or not. -/
def re_Y (s : Nat) : Bind := ⟨[upR], [], [], [if Nat.beq s 0 = true then (692, .lit 1, .one rwR) else (692, .op .padd .i64 (.len 692) (.lit 1), .app (.len 692) (.var 692 kep) (.one rwR))]⟩
def re_N (s : Nat) : Bind := ⟨[upR], [], [], if Nat.beq s 0 = true then [] else [(692, .len 692, .var 692 kep)]⟩
def inR : BE := .lt (.var 690) (.len 601)
def re_F0 (s : Nat) : Facts := [(inR, true), (.eq (.cl 601 1 (.var 690)) (.var 600), true), (.lt (.var 600) (.lit 0), false), (.lt (.lit 2) (.var 600), false), (.lt (.var 690) (.lit 0), false), (.lt (.lit 60) (.len 601), false)] ++ (if Nat.beq s 0 = true then [] else [(.lt (.lit 60) (.len 692), false)])
def kV (q y : Bool) : List (Nat × List X × X) := if q = true then [(49, [.agg (vi 664 3), .agg ((List.range 3).map fun k => .sc (.i .i64 (.cl 601 k (.var 690))))], .sc (.b (.lit y)))] else []
def re_nm (q : Bool) : List (Nm × Nm) := [((100, 0), (if q = true then 134 else 130, 0))]
theorem re_ent : ([true, false].all fun q => okS 0 690 re_I [] (re_S q 0) (re_E q) && (re_E q).bel 690) = true := by kernel_rfl
theorem re_end : ([true, false].all fun q => (List.range 2).all fun s => endB 0 (.exit 1) (re_S q s) (runW [] (fun _ => []) 28 0 [] re_c ((re_S q 0).t.map (·.1)) [(inR, false)] (re_S q s))) = true := by kernel_rfl
theorem re_fit : fitsC Try.f28.ntmps re_c = true := by kernel_rfl
theorem re_y : ([true, false].all fun q => (List.range 2).all fun s => goB 0 690 (re_Y s) (re_nm q) (re_S q 1) (runW (kV q true) (fun _ => []) 28 0 [] re_c ((re_S q 0).t.map (·.1)) (re_F0 s) (re_S q s))) = true := by kernel_rfl
theorem re_n : ((List.range 2).all fun s => goB 0 690 (re_N s) [] (re_S true s) (runW (kV true false) (fun _ => []) 28 0 [] re_c ((re_S true 0).t.map (·.1)) (re_F0 s) (re_S true s))) = true := by kernel_rfl
theorem re_o (q : Bool) (s : Nat) : othersB [reL q s] [0] 0 (loopsOf (Try.f28.body.getD .skip)) = true := by kernel_rfl
def enL (l : Nat) : List X := (List.range 20).map fun k => if isS k = true then .sc (.s (.var (l + k))) else if Nat.beq k 8 = true then .sc (.b (.var (l + k))) else .sc (.i .i64 (.var (l + k)))
def gpX (g : Bool) : List X := if g = true then enL 720 else zeX
def k2 (q : Bool) : List (Nat × List X × X) := [(48, [xi 600, rlW 601], .agg (vi 660 3)), (19, [.agg (if q = true then vi 670 9 else zI 9), xi 600], .agg (if q = true then vi 664 3 else zI 3))]
def kR (q : Bool) (g : Bool) : List (Nat × List X × X) := (30, [.sc (.s (.var 600)), rlW 692], .tup [.agg (gpX g), .sc (.b (.lit g))]) :: k2 q
def re_FC (q : Bool) : Facts := (List.range 3).flatMap fun k => if q = true then [(.lt (.var (660 + k)) (.var (664 + k)), false), (.lt (.var (664 + k)) (.lit 0), false)] else [(.lt (.var (660 + k)) (.lit 0), false)]
def anX (g : Bool) : X := .agg ([.sc (.i .i64 (.lit 0)), .sc (.b (.lit g))] ++ gpX g ++ vi 660 3)
theorem re_1 : ([true, false].map fun q => [true, false].map fun g => askF ⟨cfgL (kR q g) (lpO 28 (reL q 1)), [], []⟩ 28 [xi 600, .agg (reQ q), rlW 601] (re_FC q)) = [true, false].map fun _ => [true, false].map fun g => .ret (anX g) := by kernel_rfl
theorem re_0 : ([true, false].map fun q => askF ⟨cfgL (k2 q) (lpO 28 (reL q 0)), [], []⟩ 28 [xi 600, .agg (reQ q), rlW 601] (re_FC q)) = [true, false].map fun _ => .ret (anX false) := by kernel_rfl
def re_FB (k : Nat) : Facts := (.lt (.var (660 + k)) (.var (664 + k)), true) :: (List.range k).map fun j => (.lt (.var (660 + j)) (.var (664 + j)), false)
theorem re_b : ((List.range 3).map fun k => askF ⟨cfgL (k2 true) (fun _ => []), [], []⟩ 28 [xi 600, .agg (reQ true), rlW 601] (re_FB k)) = (List.range 3).map fun _ => .ret (.agg ([.sc (.i .i64 (.lit 91)), .sc (.b (.lit false))] ++ zeX ++ zI 3)) := by kernel_rfl
end Go.Proofs.Ytdlifdoglhhnfaa

/- Txn: TxnWorld: what Read answers. -/
namespace Go.Proofs.Ytdlifdoglhhnfaa
open Go Go.Proofs.Aw Go.Proofs.Xw Go.Proofs.Sr
set_option maxRecDepth 100000
theorem within_w (c : Nat → Int) {d r : Nat} (d3 : d < 3) (r3 : r < 3) (s : Int) : ∃ t : Bool, (t = true ↔ s ≤ c d) ∧ hasBody Try.prog 49 = true ∧ ∀ n h, CY Try.prog n 49 [.agg [.sc (.int .i64 (c 0)), .sc (.int .i64 (c 1)), .sc (.int .i64 (c 2))], .agg [.sc (.int .i64 d), .sc (.int .i64 r), .sc (.int .i64 s)]] h (.sc (.bool t)) [] := by
  let ρ' : Rho := ⟨fun k => if k < 3 then c k else if k = 3 then d else if k = 4 then r else s, fun _ => false, fun _ => ⟨#[]⟩, fun _ => 0, fun _ _ _ => 0, fun _ _ _ => false, fun _ _ _ => ⟨#[]⟩⟩
  obtain ⟨e, he⟩ : ∃ e, wiW = .ret (.sc (.b e)) := ⟨_, rfl⟩
  have q := askF_ok (c := ⟨cfgL [] (fun _ => []), l_able, []⟩) (ρ := ρ') (f := 49) (args := [.agg (vi 0 3), .agg (vi 3 3)]) (Φ := []) (cN_ok ρ') l_able_ok (Facts.ok_nil ρ') (by rw [wiW_run, he]; exact rfl)
  refine ⟨_, ?_, q⟩
  have h2 : T.ret (X.sc (Sc.b e)) = wiW := he.symm
  unfold wiW at h2
  simp only [T.ret.injEq, X.sc.injEq, Sc.b.injEq] at h2
  rw [h2]
  have i3 : ρ'.i 3 = d := rfl
  have i4 : ρ'.i 4 = r := rfl
  have i5 : ρ'.i 5 = s := rfl
  have iV : ∀ k, k < 3 → ρ'.i k = c k := fun k hk => if_pos hk
  rw [dand_t, dand_t, dand_t, dand_t, dnot_t, dnot_t, dnot_t, dlt_f, dlt_t, dlt_f, dlt_t, dlt_f]
  simp only [IE.den, i3, i4, i5]
  have hd : d = 0 ∨ d = 1 ∨ d = 2 := by omega
  constructor
  · rintro ⟨_, g6⟩
    rcases hd with rfl | rfl | rfl <;> simp [BE.den, IE.den, i3, iV] at g6 <;> simpa using g6
  · intro g6
    refine ⟨⟨⟨⟨by omega, by omega⟩, by omega⟩, by omega⟩, ?_⟩
    rcases hd with rfl | rfl | rfl <;> simp [BE.den, IE.den, i3, iV] <;> simpa using g6
theorem pc_eq (c : Nat → Int) {r : Nat} (r3 : r < 3) {x : Nat} (x3 : x < 3) : pc c r x = c (3 * x + r) := by
  have hr : r = 0 ∨ r = 1 ∨ r = 2 := by omega
  have hx : x = 0 ∨ x = 1 ∨ x = 2 := by omega
  rcases hr with rfl | rfl | rfl <;> rcases hx with rfl | rfl | rfl <;> rfl
/-- A vector has a write. -/
def had (V : Nat → Int) (e : List AV) : Bool := decide (eS e ≤ V (3 * eD e + eR e))
/-- What is seen of a row. -/
def sn (q : Bool) (V : Nat → Int) (n : Nat) (W : Nat → List AV) : List (List AV) := ((List.range n).map W).filter fun e => !q || had V e
theorem sn_snoc (q : Bool) (V : Nat → Int) (i : Nat) (W : Nat → List AV) : sn q V (i + 1) W = if (!q || had V (W i)) = true then sn q V i W ++ [W i] else sn q V i W := by
  unfold sn
  rw [List.range_succ, List.map_append, List.filter_append]
  split
  · rename_i h
    rw [show [i].map W = [W i] from rfl, List.filter_cons_of_pos (by exact h)]; rfl
  · rename_i h
    rw [show [i].map W = [W i] from rfl, List.filter_cons_of_neg (by exact h)]; simp
/-- The letters of Read: column, part of the cut, cut, row. -/
structure ReA (q : Bool) (ρ : Rho) (x : ByteArray) (r n : Nat) (W : Nat → List AV) (V c : Nat → Int) : Prop where
  ra : ρ.i 600 = r
  xa : ρ.s 600 = x
  na : ρ.len 601 = n
  wa : ∀ j, j < n → rw_ ρ 601 j = W j
  va : ∀ p, p < 9 → ρ.i (670 + p) = V p
  ca : ∀ k, k < 3 → ρ.i (660 + k) = c k
  pa : ∀ k, k < 3 → ρ.i (664 + k) = V (3 * k + r)
theorem ReA.agree {q : Bool} {ρ ρ' : Rho} {x : ByteArray} {r n k : Nat} {W : Nat → List AV} {V c : Nat → Int} (h : ReA q ρ x r n W V c) (ag : Agree k ρ ρ') (hk : 679 ≤ k) : ReA q ρ' x r n W V c :=
  ⟨by rw [← ag.i 600 (by omega)]; exact h.ra, by rw [← ag.s 600 (by omega)]; exact h.xa, by rw [← ag.len 601 (by omega)]; exact h.na, fun j hj => by rw [rw_agree ag (by omega)]; exact h.wa j hj, fun p hp => by rw [← ag.i _ (by omega)]; exact h.va p hp, fun p hp => by rw [← ag.i _ (by omega)]; exact h.ca p hp, fun p hp => by rw [← ag.i _ (by omega)]; exact h.pa p hp⟩
/-- The rows of a letter are a list. -/
def RowsL (ρ : Rho) (l : Nat) (L : List (List AV)) : Prop := ρ.len l = L.length ∧ ∀ m e, L[m]? = some e → rw_ ρ l m = e
def reSeen (ρ : Rho) (s : Nat) (L : List (List AV)) : Prop := if s = 0 then L = [] else L ≠ [] ∧ RowsL ρ 692 L
theorem rwR_row {ρ : Rho} {i : Nat} (h : ρ.i 690 = i) : kcells (scL ρ rwR) 0 kep = rw_ ρ 601 i := by
  obtain rfl : i = (ρ.i 690).toNat := by rw [h]; rfl
  kernel_rfl
theorem re_put {ρ : Rho} {s i : Nat} {L : List (List AV)} (hs : s < 2) (h : reSeen ρ s L) (hi : ρ.i 690 = i) : reSeen ((re_Y s).ap ρ) 1 (L ++ [rw_ ρ 601 i]) := by
  unfold reSeen at *
  rw [if_neg (by decide)]
  refine ⟨by simp, ?_⟩
  by_cases q : s = 0
  · subst q
    rw [if_pos rfl] at h
    subst h
    have hr : lassoc 692 (re_Y 0).r = some (.lit 1, .one rwR) := rfl
    refine ⟨ap_len hr, fun m e hm => ?_⟩
    cases m with
    | zero =>
      have : rw_ ρ 601 i = e := by simpa using hm
      rw [ap_row hr, ← this]
      exact rwR_row hi
    | succ m => simp at hm
  · have : s = 1 := by omega
    subst this
    rw [if_neg (by decide)] at h
    obtain ⟨_, hl, hm⟩ := h
    have hr : lassoc 692 (re_Y 1).r = some (.op .padd .i64 (.len 692) (.lit 1), .app (.len 692) (.var 692 kep) (.one rwR)) := rfl
    refine ⟨?_, fun m e he => ?_⟩
    · rw [ap_len hr, List.length_append]
      show ((ρ.len 692 : Int) + 1).toNat = _
      rw [hl]; simp only [List.length_cons, List.length_nil]; omega
    · rw [ap_row hr, app_row ρ hl]
      by_cases c : m < L.length
      · rw [if_pos c, kc_rw]
        rw [List.getElem?_append_left c] at he
        exact hm m e he
      · rw [if_neg c, rwR_row hi]
        rw [List.getElem?_append_right (by omega)] at he
        cases z : m - L.length with
        | zero => rw [z] at he; simpa using he
        | succ z' => rw [z] at he; simp at he
theorem re_stay {ρ : Rho} {s : Nat} {L : List (List AV)} (hs : s < 2) (h : reSeen ρ s L) : reSeen ((re_N s).ap ρ) s L := by
  unfold reSeen at *
  by_cases q : s = 0
  · rw [if_pos q] at *; exact h
  · rw [if_neg q] at *
    have : s = 1 := by omega
    subst this
    have hr : lassoc 692 (re_N 1).r = some (.len 692, .var 692 kep) := rfl
    obtain ⟨h0, hl, hm⟩ := h
    refine ⟨h0, by rw [ap_len hr]; show ((ρ.len 692 : Int)).toNat = _; rw [hl]; omega, fun m e he => ?_⟩
    rw [ap_row hr, var_row, kc_rw]; exact hm m e he
theorem re_ok {q : Bool} {ρ : Rho} {x : ByteArray} {r n : Nat} {W : Nat → List AV} {V c : Nat → Int} (h : ReA q ρ x r n W V c) (r3 : r < 3) (n60 : n ≤ 60) (h0 : ∀ j, j < n → 0 ≤ cellI (W j)[0]? ∧ cellI (W j)[0]? < 3) (h1 : ∀ j, j < n → cellI (W j)[1]? = r) :
    ∃ s ρf, Agree 690 ρ ρf ∧ (s < 2 ∧ reSeen ρf s (sn q V n W)) ∧ LoopOk Try.prog ρf Try.f28.ntmps re_c (reL q s) := by
  suffices hh : ∃ (s : Nat) (ρf : Rho), Agree (reB q).n ρ ρf ∧ (s < 2 ∧ reSeen ρf s (sn q V n W) ∧ (ρf.b 691 = true ↔ s = 1)) ∧ LoopOk Try.prog ρf Try.f28.ntmps re_c (reB q) by
    obtain ⟨s, ρf, h1, ⟨h2, h3, h4⟩, h5⟩ := hh
    refine ⟨s, ρf, h1, ⟨h2, h3⟩, one_way h5 rfl rfl rfl fun e t ht => ?_⟩
    have e0 : (reB q).out.sel ρf = some (.exit 1, re_S q s) := by
      unfold reB
      by_cases g : s = 1
      · rw [T.sel, if_pos (show (BE.var 691).den ρf = true from h4.2 g), g]; rfl
      · have : s = 0 := by omega
        rw [T.sel, if_neg (show ¬ (BE.var 691).den ρf = true from fun k => g (h4.1 k)), this]; rfl
    rw [e0] at ht
    exact ht
  have a0 : Agree 690 ρ (re_I.ap ρ) := Bind.agree (by kernel_rfl) ρ
  have mem : ∀ b : Bool, b ∈ [true, false] := fun b => by cases b <;> simp
  have ent := List.all_eq_true.1 re_ent q (mem q)
  simp only [Bool.and_eq_true] at ent
  have len : ∀ i, (sn q V i W).length ≤ i := fun i => by
    have := List.length_filter_le (fun e => !q || had V e) ((List.range i).map W)
    rw [List.length_map, List.length_range] at this
    exact this
  refine loopOk_famE (L := reB q) (N := Try.f28.ntmps) (body := re_c) (P := Try.prog) rfl ent.2 (re_S q) (fun s ρ' => Agree 690 ρ ρ' ∧ s < 2 ∧ ∃ i : Nat, ρ'.i 690 = i ∧ i ≤ n ∧ reSeen ρ' s (sn q V i W)) (fun s ρ' => s < 2 ∧ reSeen ρ' s (sn q V n W) ∧ (ρ'.b 691 = true ↔ s = 1)) (fun _ ρ' => (n - ρ'.i 690).toNat) ?_
    ⟨0, re_I.ap ρ, a0, ⟨a0, by decide, 0, rfl, Nat.zero_le _, rfl⟩, fun E _ hE => okS_imp hE ent.1 ρ⟩
  rintro s ρ' ⟨ag, hs, i, hi, hin, hg⟩
  have h' := h.agree ag (by decide)
  by_cases cc : i < n
  · have hwi : rw_ ρ' 601 i = W i := h'.wa i cc
    have ci : ∀ k, k < 20 → k < 6 ∨ 9 ≤ k → (IE.cl 601 k (.var 690)).den ρ' = cellI (W i)[k]? := fun k h1 h2 => by
      rw [← hwi, rw_ci _ _ _ k h1 h2]; exact cl_i hi
    have fs : Facts.ok ρ' (re_F0 s) := by
      refine all_ok (Facts.ok_cons (show decide (ρ'.i 690 < (ρ'.len 601 : Int)) = true by rw [hi, h'.na]; exact decide_eq_true (by omega)) (Facts.ok_cons (by rw [deq_t, ci 1 (by decide) (by decide), h1 i cc]; exact h'.ra.symm) (Facts.ok_cons (by rw [dlt_f]; simp only [IE.den, h'.ra]; omega) (Facts.ok_cons (by rw [dlt_f]; simp only [IE.den, h'.ra]; omega) (Facts.ok_cons (by rw [dlt_f]; simp only [IE.den, hi]; omega) (Facts.ok_cons (by rw [dlt_f]; simp only [IE.den, h'.na]; omega) (Facts.ok_nil _))))))) ?_
      split
      · exact Facts.ok_nil _
      · rename_i g
        have : s ≠ 0 := fun e => g (by rw [e]; rfl)
        unfold reSeen at hg
        rw [if_neg this] at hg
        have := len i
        exact Facts.ok_cons (by rw [dlt_f]; simp only [IE.den, hg.2.1]; omega) (Facts.ok_nil _)
    have d3 : eD (W i) < 3 := by have := h0 i cc; unfold eD; omega
    have eR_ : eR (W i) = r := by unfold eR; rw [h1 i cc]; rfl
    obtain ⟨y, hy, hcy⟩ := within_w (fun k => V (3 * k + r)) d3 r3 (eS (W i))
    have hy' : y = had V (W i) := by
      unfold had
      rw [eR_]
      cases y with
      | true => exact (decide_eq_true (hy.1 rfl)).symm
      | false => exact (decide_eq_false fun k => by have := hy.2 k; cases this).symm
    have cok : ∀ z : Bool, (q = true → z = y) → CfgOk Try.prog ρ' (cfgL (kV q z) (fun _ => [])) := fun z hz => cK_ok (by
      unfold kV
      split
      · rename_i hq
        refine List.forall_mem_cons.2 ⟨?_, List.forall_mem_nil _⟩
        rw [hz hq]
        have e : X.denL ρ' [.agg (vi 664 3), .agg ((List.range 3).map fun k => .sc (.i .i64 (.cl 601 k (.var 690))))] = [.agg [.sc (.int .i64 (V (3 * 0 + r))), .sc (.int .i64 (V (3 * 1 + r))), .sc (.int .i64 (V (3 * 2 + r)))], .agg [.sc (.int .i64 (eD (W i))), .sc (.int .i64 r), .sc (.int .i64 (eS (W i)))]] := by
          have c0 := ci 0 (by decide) (by decide)
          have c1 := ci 1 (by decide) (by decide)
          have c2 := ci 2 (by decide) (by decide)
          have e0 : cellI (W i)[0]? = (eD (W i) : Int) := by unfold eD; have := h0 i cc; omega
          rw [e0] at c0
          rw [h1 i cc] at c1
          have c2 : (IE.cl 601 2 (.var 690)).den ρ' = eS (W i) := c2
          have e2 : X.denL ρ' [.agg (vi 664 3), .agg ((List.range 3).map fun k => .sc (.i .i64 (.cl 601 k (.var 690))))] = [.agg [.sc (.int .i64 (ρ'.i (664 + 0))), .sc (.int .i64 (ρ'.i (664 + 1))), .sc (.int .i64 (ρ'.i (664 + 2)))], .agg [.sc (.int .i64 ((IE.cl 601 0 (.var 690)).den ρ')), .sc (.int .i64 ((IE.cl 601 1 (.var 690)).den ρ')), .sc (.int .i64 ((IE.cl 601 2 (.var 690)).den ρ'))]] := by kernel_rfl
          rw [e2, h'.pa 0 (by decide), h'.pa 1 (by decide), h'.pa 2 (by decide), c0, c1, c2]
        show hasBody Try.prog 49 = true ∧ ∀ n h, CY Try.prog n 49 (X.denL ρ' [.agg (vi 664 3), .agg ((List.range 3).map fun k => .sc (.i .i64 (.cl 601 k (.var 690))))]) h (.sc (.bool y)) []
        rw [e]
        exact hcy
      · exact List.forall_mem_nil _)
    have up : ∀ β : Bind, lassoc 690 β.i = some (.op .add .i64 (.var 690) (.lit 1)) → (β.ap ρ').i 690 = ((i + 1 : Nat) : Int) := fun β h => (ap_i h).trans (inc hi (by omega))
    have me : ∀ β : Bind, lassoc 690 β.i = some (.op .add .i64 (.var 690) (.lit 1)) → (n - (β.ap ρ').i 690).toNat < (n - ρ'.i 690).toNat := fun β h => by rw [up β h, hi]; omega
    have gey : (re_Y s).ge 690 = true := by
      have : s = 0 ∨ s = 1 := by omega
      rcases this with rfl | rfl <;> rfl
    have gen : (re_N s).ge 690 = true := by
      have : s = 0 ∨ s = 1 := by omega
      rcases this with rfl | rfl <;> rfl
    by_cases g : (!q || had V (W i)) = true
    · have a1 : Agree 690 ρ' ((re_Y s).ap ρ') := Bind.agree gey _
      have go := List.all_eq_true.1 (List.all_eq_true.1 re_y q (mem q)) s (List.mem_range.2 hs)
      refine .inr ⟨1, (re_Y s).ap ρ', goW go re_fit rfl (cok true fun hq => by rw [hq] at g; rw [hy']; simpa using g.symm) (LpsOk.nil _ _ _ _) fs, ⟨ag.trans a1, by decide, i + 1, up _ rfl, cc, ?_⟩, me _ rfl, a1⟩
      rw [sn_snoc, if_pos g, ← hwi]
      exact re_put hs hg hi
    · have a1 : Agree 690 ρ' ((re_N s).ap ρ') := Bind.agree gen _
      have hq : q = true := by cases q with
        | true => rfl
        | false => exact absurd rfl g
      subst hq
      have go := List.all_eq_true.1 re_n s (List.mem_range.2 hs)
      refine .inr ⟨s, (re_N s).ap ρ', goW go re_fit rfl (cok false fun _ => by
        rw [hy']
        cases z : had V (W i) with
        | false => rfl
        | true => exact absurd (by rw [z]; rfl) g) (LpsOk.nil _ _ _ _) fs, ⟨ag.trans a1, hs, i + 1, up _ rfl, cc, ?_⟩, me _ rfl, a1⟩
      rw [sn_snoc, if_neg g]
      exact re_stay hs hg
  · obtain rfl : i = n := by omega
    have a1 : Agree 691 ρ' (putB ρ' 691 (Nat.beq s 1)) := putB_agree ρ' (Nat.le_refl _)
    have fin := List.all_eq_true.1 (List.all_eq_true.1 re_end q (mem q)) s (List.mem_range.2 hs)
    have b1 : (putB ρ' 691 (Nat.beq s 1)).b 691 = Nat.beq s 1 := rfl
    have b2 : (putB ρ' 691 (Nat.beq s 1)).b 691 = true ↔ s = 1 := by rw [b1, Nat.beq_eq]
    refine .inl ⟨putB ρ' 691 (Nat.beq s 1), a1.le (show 690 ≤ 691 by decide), ⟨hs, ?_, b2⟩, ?_, ?_⟩
    · unfold reSeen at *
      exact hg
    · have : s = 0 ∨ s = 1 := by omega
      rcases this with rfl | rfl
      · exact XS.bel_den a1 _ (by cases q <;> kernel_rfl)
      · cases q <;> rfl
    · refine endW fin re_fit (cN_ok _) (LpsOk.nil _ _ _ _) (Facts.ok_cons (show decide (ρ'.i 690 < (ρ'.len 601 : Int)) = false by rw [hi, h'.na]; exact decide_eq_false (by omega)) (Facts.ok_nil _)) ?_
      unfold reB
      by_cases g : s = 1
      · rw [T.sel, if_pos (show (BE.var 691).den _ = true from b2.2 g), g]; rfl
      · have : s = 0 := by omega
        rw [T.sel, if_neg (show ¬ (BE.var 691).den _ = true from fun k => g (b2.1 k)), this]; rfl
end Go.Proofs.Ytdlifdoglhhnfaa

/- Txn: TxnWorld: what Read answers, behind or not. -/
namespace Go.Proofs.Ytdlifdoglhhnfaa
open Go Go.Proofs.Aw Go.Proofs.Xw Go.Proofs.Sr
set_option maxRecDepth 100000
def c9V (q : Bool) (V : Nat → Int) : List AV := (List.range 9).map fun p => .sc (.int .i64 (if q = true then V p else 0))
def z3V : List AV := List.replicate 3 (.sc (.int .i64 0))
def qyV (q : Bool) (x : ByteArray) (V : Nat → Int) : AV := .agg ([.sc (.string x)] ++ c9V q V ++ [.sc (.bool q)] ++ c9V q V ++ z3V)
def anV (o : Option (List AV)) (c : Nat → Int) : AV := .agg ([.sc (.int .i64 0), .sc (.bool o.isSome)] ++ o.getD zE ++ [.sc (.int .i64 (c 0)), .sc (.int .i64 (c 1)), .sc (.int .i64 (c 2))])
def bhV : AV := .agg ([.sc (.int .i64 91), .sc (.bool false)] ++ zE ++ z3V)
theorem RowsL.list {ρ : Rho} {l : Nat} {L : List (List AV)} (h : RowsL ρ l L) : (List.range L.length).map (rw_ ρ l) = L := by
  apply List.ext_getElem?
  intro m
  rw [List.getElem?_map]
  by_cases c : m < L.length
  · rw [List.getElem?_range c]
    obtain ⟨e, he⟩ : ∃ e, L[m]? = some e := ⟨_, List.getElem?_eq_getElem c⟩
    rw [he, ← h.2 m e he]; rfl
  · rw [List.getElem?_eq_none (by rw [List.length_range]; omega), List.getElem?_eq_none (by omega)]; rfl
theorem gr_mem {x : ByteArray} {l : List (List AV)} {b : List AV} (h : grW x l = some b) : b ∈ l ∧ eK b = x := by
  have g := Wd.gr_of (m := fun e => eK e = x) gt_as gt_tr l
  unfold grW at h
  rw [h] at g
  obtain ⟨hb, l1, l2, e, _⟩ := g
  exact ⟨by rw [e]; simp, hb⟩
/-- With a write's cells put. -/
def putE (ρ : Rho) (k : Nat) (e : List AV) : Rho := { ρ with i := fun j => if k ≤ j ∧ j < k + 20 then cellI e[j - k]? else ρ.i j, b := fun j => if j = k + 8 then cellB e[8]? else ρ.b j, s := fun j => if j = k + 6 then cellS e[6]? else if j = k + 7 then cellS e[7]? else ρ.s j }
theorem putE_agree (ρ : Rho) (k : Nat) (e : List AV) : Agree k ρ (putE ρ k e) :=
  ⟨fun j hj => by show _ = if _ then _ else _; rw [if_neg (by omega)], fun j hj => by show _ = if _ then _ else _; rw [if_neg (by omega)], fun j hj => by show _ = if _ then _ else if _ then _ else _; rw [if_neg (by omega), if_neg (by omega)], fun _ _ => rfl, fun _ _ => rfl, fun _ _ => rfl, fun _ _ => rfl⟩
theorem putE_720 (ρ : Rho) {e : List AV} (h : Kw e) : X.den (putE ρ 720 e) (.agg (enL 720)) = .agg e := by
  have : X.den (putE ρ 720 e) (.agg (enL 720)) = .agg (kcells e 0 kep) := by kernel_rfl
  rw [this, h]
theorem read_cy {q : Bool} {x : ByteArray} {r n : Nat} {W : Nat → List AV} {V : Nat → Int} (r3 : r < 3) (n60 : n ≤ 60) (hk : ∀ j, j < n → Kw (W j)) (h0 : ∀ j, j < n → 0 ≤ cellI (W j)[0]? ∧ cellI (W j)[0]? < 3) (h1 : ∀ j, j < n → cellI (W j)[1]? = r) (hv : ∀ p, p < 9 → 0 ≤ V p) :
    ∃ c : Nat → Int, Col W n c ∧ hasBody Try.prog 28 = true ∧ (q = true → (∃ k, k < 3 ∧ c k < V (3 * k + r)) → ∀ m h, CY Try.prog m 28 [.sc (.int .i64 r), qyV q x V, roR n W] h bhV []) ∧
      ((q = true → ∀ k, k < 3 → V (3 * k + r) ≤ c k) → ∀ m h, CY Try.prog m 28 [.sc (.int .i64 r), qyV q x V, roR n W] h (anV (grW x (sn q V n W)) c) []) := by
  obtain ⟨c, hc, hcol⟩ := col_cy r3 n60 hk h0 h1
  let ρ0 : Rho := rhW n W (fun k => if k < 660 then r else if k < 664 then c (k - 660) else if k < 670 then V (3 * (k - 664) + r) else V (k - 670)) x
  have A0 : ReA q ρ0 x r n W V c := by
    refine ⟨rfl, rfl, rfl, fun j hj => rhW_row 601 (hk j hj), fun p hp => ?_, fun k hk => ?_, fun k hk => ?_⟩
    · show (if 670 + p < 660 then _ else _) = _
      rw [if_neg (by omega), if_neg (by omega), if_neg (by omega)]
      congr 1; omega
    · show (if 660 + k < 660 then _ else _) = _
      rw [if_neg (by omega), if_pos (by omega)]
      congr 1; omega
    · show (if 664 + k < 660 then _ else _) = _
      rw [if_neg (by omega), if_neg (by omega), if_pos (by omega)]
      congr 2; omega
  have args : ∀ {ρ : Rho}, ReA q ρ x r n W V c → X.denL ρ [xi 600, .agg (reQ q), rlW 601] = [.sc (.int .i64 r), qyV q x V, roR n W] := fun {ρ} A => by
    have e1 : X.den ρ (xi 600) = .sc (.int .i64 r) := by
      show AV.sc (.int .i64 (ρ.i 600)) = _
      rw [A.ra]
    have e2 : X.den ρ (.agg (reQ q)) = qyV q x V := by
      have : qyV q x V = qyV q (ρ.s 600) fun p => ρ.i (670 + p) := by
        unfold qyV
        have : c9V q V = c9V q fun p => ρ.i (670 + p) := by
          unfold c9V
          exact List.map_congr_left fun p hp => by show AV.sc (.int .i64 (if q = true then V p else 0)) = AV.sc (.int .i64 (if q = true then ρ.i (670 + p) else 0)); rw [A.va p (List.mem_range.1 hp)]
        rw [A.xa, this]
      rw [this]
      cases q <;> (show _ = _; kernel_rfl)
    simp only [X.denL]
    rw [e1, e2, rlW_den A.na A.wa]
  have k2ok : ∀ {ρ : Rho}, ReA q ρ x r n W V c → ∀ p ∈ k2 q, hasBody Try.prog p.1 = true ∧ ∀ n h, CY Try.prog n p.1 (X.denL ρ p.2.1) h (p.2.2.den ρ) [] := fun {ρ} A => by
    refine List.forall_mem_cons.2 ⟨?_, List.forall_mem_cons.2 ⟨?_, List.forall_mem_nil _⟩⟩
    · have e1 : X.denL ρ [xi 600, rlW 601] = [.sc (.int .i64 r), roR n W] := by
        simp only [X.denL]
        rw [rlW_den A.na A.wa]
        show [AV.sc (.int .i64 (ρ.i 600)), _] = _
        rw [A.ra]
      have e2 : X.den ρ (.agg (vi 660 3)) = .agg [.sc (.int .i64 (c 0)), .sc (.int .i64 (c 1)), .sc (.int .i64 (c 2))] := by
        rw [← A.ca 0 (by decide), ← A.ca 1 (by decide), ← A.ca 2 (by decide)]; rfl
      show hasBody Try.prog 48 = true ∧ ∀ n h, CY Try.prog n 48 (X.denL ρ [xi 600, rlW 601]) h (X.den ρ (.agg (vi 660 3))) []
      rw [e1, e2]
      exact hcol
    · cases q with
      | true =>
        have e := part_row ρ 670 (.var 600)
        rw [show (IE.var 600).den ρ = (r : Int) from A.ra, pc_eq _ r3 (by decide), pc_eq _ r3 (by decide), pc_eq _ r3 (by decide), A.va _ (by omega), A.va _ (by omega), A.va _ (by omega), ← A.pa 0 (by decide), ← A.pa 1 (by decide), ← A.pa 2 (by decide)] at e
        exact e
      | false =>
        let ρz : Rho := { ρ with i := fun k => if k = 600 then r else 0 }
        have e := part_row ρz 0 (.var 600)
        rw [show (IE.var 600).den ρz = (r : Int) from rfl, pc_eq _ r3 (by decide), pc_eq _ r3 (by decide), pc_eq _ r3 (by decide)] at e
        have z : ∀ k, k < 9 → ρz.i (0 + k) = 0 := fun k hk => if_neg (by omega)
        rw [z _ (by omega), z _ (by omega), z _ (by omega)] at e
        have e1 : X.denL ρz [.agg (vi 0 9), .sc (.i .i64 (.var 600))] = X.denL ρ [.agg (zI 9), xi 600] := by
          show [_, AV.sc (.int .i64 (r : Int))] = [_, AV.sc (.int .i64 (ρ.i 600))]
          rw [A.ra]; rfl
        rw [e1] at e
        exact e
  refine ⟨c, hc, ?_⟩
  obtain ⟨s, ρ1, ag, ⟨hs, seen⟩, hl⟩ := re_ok A0 r3 n60 h0 h1
  have A1 := A0.agree ag (by decide)
  have fc : (q = true → ∀ k, k < 3 → V (3 * k + r) ≤ c k) → ∀ {ρ : Rho}, ReA q ρ x r n W V c → Facts.ok ρ (re_FC q) := fun hcv ρ A => by
    intro p hp
    obtain ⟨k, hk, hp⟩ := List.mem_flatMap.1 hp
    have hk := List.mem_range.1 hk
    cases q with
    | true =>
      rcases List.mem_cons.1 hp with rfl | hp
      · show (BE.lt (.var (660 + k)) (.var (664 + k))).den ρ = false
        rw [dlt_f]; simp only [IE.den]
        rw [A.ca k hk, A.pa k hk]
        have := hcv rfl k hk
        omega
      · rcases List.mem_cons.1 hp with rfl | hp
        · show (BE.lt (.var (664 + k)) (.lit 0)).den ρ = false
          rw [dlt_f]; simp only [IE.den]
          rw [A.pa k hk]
          have := hv (3 * k + r) (by omega)
          omega
        · cases hp
    | false =>
      rcases List.mem_cons.1 hp with rfl | hp
      · show (BE.lt (.var (660 + k)) (.lit 0)).den ρ = false
        rw [dlt_f]; simp only [IE.den]
        rw [A.ca k hk]
        have := hc.nn k hk
        omega
      · cases hp
  have mem : ∀ b : Bool, b ∈ [true, false] := fun b => by cases b <;> simp
  refine ⟨?_, fun hq hbh => ?_, fun hcv => ?_⟩
  · kernel_rfl
  · subst hq
    have go : ∀ k, k < 3 → c k < V (3 * k + r) → (∀ j, j < k → V (3 * j + r) ≤ c j) → ∀ m h, CY Try.prog m 28 [.sc (.int .i64 r), qyV true x V, roR n W] h bhV [] := fun k hk h1 h2 => by
      have F : Facts.ok ρ1 (re_FB k) := by
        refine Facts.ok_cons ?_ fun p hp => ?_
        · rw [dlt_t]; simp only [IE.den]
          rw [A1.ca k hk, A1.pa k hk]; exact h1
        · obtain ⟨j, hj, rfl⟩ := List.mem_map.1 hp
          have hj := List.mem_range.1 hj
          show (BE.lt (.var (660 + j)) (.var (664 + j))).den ρ1 = false
          rw [dlt_f]; simp only [IE.den]
          rw [A1.ca j (by omega), A1.pa j (by omega)]
          have := h2 j hj
          omega
      have Q := askF_ok (c := ⟨cfgL (k2 true) (fun _ => []), [], []⟩) (ρ := ρ1) (f := 28) (args := [xi 600, .agg (reQ true), rlW 601]) (Φ := re_FB k) (cfgL_ok (k2ok A1) (fun _ _ _ => LpsOk.nil _ _ _ _)) (List.forall_mem_nil _) F (r := .agg ([.sc (.i .i64 (.lit 91)), .sc (.b (.lit false))] ++ zeX ++ zI 3)) (by rw [forM re_b hk]; rfl)
      rw [args A1] at Q
      exact Q.2
    obtain ⟨k, hk, h⟩ := hbh
    by_cases c0 : c 0 < V (3 * 0 + r)
    · exact go 0 (by decide) c0 fun j hj => absurd hj (by omega)
    · by_cases c1 : c 1 < V (3 * 1 + r)
      · exact go 1 (by decide) c1 fun j hj => by obtain rfl : j = 0 := by omega
                                                 omega
      · have c2 : c 2 < V (3 * 2 + r) := by
          have : k = 0 ∨ k = 1 ∨ k = 2 := by omega
          rcases this with rfl | rfl | rfl
          · exact absurd h c0
          · exact absurd h c1
          · exact h
        exact go 2 (by decide) c2 fun j hj => by
          have : j = 0 ∨ j = 1 := by omega
          rcases this with rfl | rfl <;> omega
  · have lb : ∀ s, s < 2 → (reL q s).S.bel 720 = true ∧ (reL q s).out.belX 720 = true := fun s hs => by
      have : s = 0 ∨ s = 1 := by omega
      rcases this with rfl | rfl <;> cases q <;> exact ⟨by kernel_rfl, by kernel_rfl⟩
    by_cases s0 : s = 0
    · subst s0
      have e0 : sn q V n W = [] := seen
      have run := List.map_inj_left.1 re_0 q (mem q)
      have Q := askF_ok (c := ⟨cfgL (k2 q) (lpO 28 (reL q 0)), [], []⟩) (ρ := ρ1) (f := 28) (args := [xi 600, .agg (reQ q), rlW 601]) (Φ := re_FC q) (cfgL_ok (k2ok A1) (lpO_ok Try.func28 (re_o q 0) rfl (by kernel_rfl) hl)) (List.forall_mem_nil _) (fc hcv A1) (r := anX false) (by rw [run]; rfl)
      rw [args A1] at Q
      have e : X.den ρ1 (anX false) = anV (grW x (sn q V n W)) c := by
        rw [e0]
        unfold anV
        rw [← A1.ca 0 (by decide), ← A1.ca 1 (by decide), ← A1.ca 2 (by decide)]
        kernel_rfl
      rw [e] at Q
      exact Q.2
    · have s1 : s = 1 := by omega
      subst s1
      unfold reSeen at seen
      rw [if_neg s0] at seen
      obtain ⟨_, rl⟩ := seen
      have len : (sn q V n W).length ≤ n := by
        have := List.length_filter_le (fun e => !q || had V e) ((List.range n).map W)
        rw [List.length_map, List.length_range] at this
        exact this
      have G := gr_cy x (n := (sn q V n W).length) (W := rw_ ρ1 692) (by omega) fun j _ => kc_rw ρ1 692 j
      rw [rl.list] at G
      have ga : ∀ {ρ : Rho}, Agree 720 ρ1 ρ → X.denL ρ [.sc (.s (.var 600)), rlW 692] = [.sc (.string x), roR (sn q V n W).length (rw_ ρ1 692)] := fun {ρ} a => by
        simp only [X.denL]
        rw [rlW_den (n := (sn q V n W).length) (W := rw_ ρ1 692) (by rw [← a.len 692 (by decide)]; exact rl.1) fun j _ => by rw [rw_agree a (by decide)]]
        show [AV.sc (.string (ρ.s 600)), _] = _
        rw [← a.s 600 (by decide), A1.xa]
      cases ho : grW x (sn q V n W) with
      | none =>
        rw [ho] at G
        have run := List.map_inj_left.1 (List.map_inj_left.1 re_1 q (mem q)) false (mem false)
        have Q := askF_ok (c := ⟨cfgL (kR q false) (lpO 28 (reL q 1)), [], []⟩) (ρ := ρ1) (f := 28) (args := [xi 600, .agg (reQ q), rlW 601]) (Φ := re_FC q) (cfgL_ok (List.forall_mem_cons.2 ⟨by
          show hasBody Try.prog 30 = true ∧ ∀ n h, CY Try.prog n 30 (X.denL ρ1 [.sc (.s (.var 600)), rlW 692]) h (X.den ρ1 (.tup [.agg (gpX false), .sc (.b (.lit false))])) []
          rw [ga (Agree.refl _ _)]
          exact G, k2ok A1⟩) (lpO_ok Try.func28 (re_o q 1) rfl (by kernel_rfl) hl)) (List.forall_mem_nil _) (fc hcv A1) (r := anX false) (by rw [run]; rfl)
        rw [args A1] at Q
        have e : X.den ρ1 (anX false) = anV none c := by
          unfold anV
          rw [← A1.ca 0 (by decide), ← A1.ca 1 (by decide), ← A1.ca 2 (by decide)]
          kernel_rfl
        rw [e] at Q
        exact Q.2
      | some b =>
        rw [ho] at G
        have kb : Kw b := by
          have := (gr_mem ho).1
          have := (List.mem_filter.1 this).1
          obtain ⟨j, hj, rfl⟩ := List.mem_map.1 this
          exact hk j (List.mem_range.1 hj)
        have a2 : Agree 720 ρ1 (putE ρ1 720 b) := putE_agree ρ1 720 b
        have A2 := A1.agree a2 (by decide)
        have pe := putE_720 ρ1 kb
        generalize putE ρ1 720 b = ρ2 at a2 A2 pe
        have run := List.map_inj_left.1 (List.map_inj_left.1 re_1 q (mem q)) true (mem true)
        have Q := askF_ok (c := ⟨cfgL (kR q true) (lpO 28 (reL q 1)), [], []⟩) (ρ := ρ2) (f := 28) (args := [xi 600, .agg (reQ q), rlW 601]) (Φ := re_FC q) (cfgL_ok (List.forall_mem_cons.2 ⟨by
          show hasBody Try.prog 30 = true ∧ ∀ n h, CY Try.prog n 30 (X.denL ρ2 [.sc (.s (.var 600)), rlW 692]) h (AV.tup [X.den ρ2 (.agg (enL 720)), .sc (.bool true)]) []
          rw [ga a2, pe]
          exact G, k2ok A2⟩) (lpO_ok Try.func28 (re_o q 1) rfl (by kernel_rfl) (LoopOk.agree (lb 1 hs).1 rfl (lb 1 hs).2 a2 hl))) (List.forall_mem_nil _) (fc hcv A2) (r := anX true) (by rw [run]; rfl)
        rw [args A2] at Q
        have e : X.den ρ2 (anX true) = anV (some b) c := by
          unfold anV
          rw [← A2.ca 0 (by decide), ← A2.ca 1 (by decide), ← A2.ca 2 (by decide)]
          have pe : AV.agg (X.denL ρ2 (enL 720)) = .agg b := pe
          have pe : X.denL ρ2 (enL 720) = b := AV.agg.inj pe
          rw [show (some b).getD zE = b from rfl, ← pe]
          show _ = _
          kernel_rfl
        rw [e] at Q
        exact Q.2
end Go.Proofs.Ytdlifdoglhhnfaa

/- Txn: TxnWorld: the law's code ahead of and behind the loop over the writes; the logs, written no more. -/
namespace Go.Proofs.Ytdlifdoglhhnfaa
open Go Go.Proofs.Aw Go.Proofs.Xw Go.Proofs.Sr
set_option maxRecDepth 100000
def sqL : Code → Code
  | .seq a _ => a
  | c => c
def sqR : Code → Code
  | .seq _ b => b
  | c => c
def sqN : Nat → Code → Code
  | 0, c => c
  | n + 1, c => sqN n (sqR c)
noncomputable def b6 : Code := Try.f6.body.getD .skip
/-- What stands behind the loop over the writes. -/
noncomputable def r6 : Code := sqN 6 b6
/-- The state behind the loop: logs are rows that are read only. -/
def wF : XS := ⟨(wr_X 0).t, [((23, 0), [rlW 410, rlW 411, rlW 412, rlW 413])], 114⟩
end Go.Proofs.Ytdlifdoglhhnfaa

/- Txn: TxnWorld: the transaction's beginning: its loop. -/
namespace Go.Proofs.Ytdlifdoglhhnfaa
open Go Go.Proofs.Aw Go.Proofs.Xw Go.Proofs.Sr
set_option maxRecDepth 100000
def hfW : List Nat := [9, 20, 33, 37, 58, 10010, 10011, 10013, 10014, 10023]
/-- The same with functions that are run from the caller's objects. -/
noncomputable def runH (ks : List (Nat × List X × X)) (lps : Nat → List LoopX) (f k0 : Nat) (ls : List LoopX) (c : Code) (keys : List Nat) (Φ : Facts) (S : XS) : T (XE × XS) :=
  (codeX (cfgL ks lps).ti (callS ⟨cfgL ks lps, l_able, hfW⟩ 12) (((cfgL ks lps).ft f).elim [] (·.ms)) k0 ls 1000 c Φ S).map (sqz keys)
theorem goH {N f k0 n : Nat} {c : Code} {S U : XS} {keys : List Nat} {ls : List LoopX} {ρ ρ1 : Rho} {ks : List (Nat × List X × X)} {lps : Nat → List LoopX} {Φ : Facts} {β : Bind} {nm : List (Nm × Nm)} (h : goB k0 n β nm U (runH ks lps f k0 ls c keys Φ S) = true) (hfit : fitsC N c = true) (hd : S.den ρ = S.den ρ1) (cok : CfgOk Try.prog ρ1 (cfgL ks lps)) (hl : LpsOk Try.prog ρ1 N ls c) (hk : Facts.ok ρ1 Φ) : StepF Try.prog N c k0 S U ρ (β.ap ρ1) := by
  obtain ⟨s, e, ho⟩ := goB_ret h
  exact fam_goU hfit hd cok hl hk e rfl ho
theorem endH {N f k0 : Nat} {c : Code} {S : XS} {keys : List Nat} {ls : List LoopX} {ρ : Rho} {ks : List (Nat × List X × X)} {lps : Nat → List LoopX} {Φ : Facts} {out : T (XE × XS)} {e : XE} {s' : XS} (h : endB k0 e s' (runH ks lps f k0 ls c keys Φ S) = true) (hfit : fitsC N c = true) (cok : CfgOk Try.prog ρ (cfgL ks lps)) (hl : LpsOk Try.prog ρ N ls c) (hk : Facts.ok ρ Φ) (ho : out.sel ρ = some (e, s')) : EndL Try.prog N c k0 S out ρ := by
  obtain ⟨s, e1, e2, e3⟩ := endB_ret h
  exact endF_of mixed cok.ti (callS_ok (c := ⟨cfgL ks lps, l_able, hfW⟩) cok l_able_ok 12) hl hfit hk rfl e2 (by show (runH ks lps f k0 ls c keys Φ S).sel ρ = _; rw [e1]; rfl) ⟨s', ho, fun E hb => okS_imp hb e3 ρ⟩
/-- The kinds of an answer's cells. -/
def kaW : List Kd := [.i .i64, .b] ++ kep ++ List.replicate 3 (.i .i64)
def zaS : List Sc := [.i .i64 (.lit 0), .b (.lit false)] ++ List.replicate 6 (.i .i64 (.lit 0)) ++ [.s (.lit ⟨#[]⟩), .s (.lit ⟨#[]⟩), .b (.lit false)] ++ List.replicate 14 (.i .i64 (.lit 0))
def kyW : X := .rl 1 (.len 2) (.var 2 [.s]) false
def nwK : Nat := 120
/-- A transaction's object. -/
def txO (cut : List X) (ky an td : X) (rd : IE) : List X := zI 9 ++ cut ++ [xi 401, ky, an, td, .sc (.i .i64 rd), .sc (.i .i64 (.lit 0))]
def nwX (n : Nat) (i : IE) (td : X) (h : XHp) : XS := ⟨[(38, .sc (.i .i64 i)), (37, .sc (.i .i64 (.len 2))), (36, kyW), (8, .ptr (nwK + 28, 0) [] 0)] ++ tpW [35, 34, 33, 32, 31, 30, 29, 28, 27, 26, 25, 24, 23, 22, 21, 20, 19, 18, 17, 16, 15, 14, 13, 12, 11, 10] ++ [(7, .sc (.i .i64 (.lit 0))), (6, .k (.pointer none)), (3, .top), (0, .top), (1, .top), (2, kyW)],
  [((nwK, 0), zI 9), ((nwK + 23, 0), [.rows 1 (.len 2) (.var 2 [.s])]), ((nwK + 26, 0), [.rows 25 (.len 2) (.one zaS)]), ((nwK + 28, 0), txO (zI 9) (.slv (nwK + 23, 0) 1 (.lit 0) (.len 2) true) (.slv (nwK + 26, 0) 25 (.lit 0) (.len 2) true) td (.lit 1))] ++ h, n⟩
def nw_E : XS := nwX (nwK + 33) (.lit 0) nlW []
def nw_S : Nat → XS
  | 0 => nwX 200 (.var 460) nlW []
  | _ => nwX 200 (.var 460) (.slv (190, 0) 1 (.lit 0) (.len 461) true) [((190, 0), [.rows 1 (.len 461) (.var 461 [.i .i64])])]
noncomputable def nw_c : Code := (loopsOf (Try.f9.body.getD .skip))[0]?.getD .skip
noncomputable def nw : LoopX := ⟨(codeKey nw_c).getD 0, nwK, 460, nw_E, noB, [], .ret (.exit 0, nw_S 1)⟩
def nwF : Facts := [(.lt (.len 2) (.lit 1), false), (.lt (.lit 6) (.len 2), false)]
def nw_I : Bind := ⟨[(460, .lit 0)], [], [], []⟩
def nw_B (s : Nat) : Bind := ⟨[(460, .op .add .i64 (.var 460) (.lit 1))], [], [], [if Nat.beq s 0 = true then (461, .lit 1, .one [.i .i64 (.var 460)]) else (461, .op .padd .i64 (.len 461) (.lit 1), .app (.len 461) (.var 461 [.i .i64]) (.one [.i .i64 (.var 460)]))]⟩
def nw_F (s : Nat) : Facts := [(.lt (.var 460) (.len 2), true), (.lt (.var 460) (.lit 0), false)] ++ (if Nat.beq s 0 = true then [] else [(.lt (.lit 6) (.len 461), false)]) ++ nwF
theorem nw_go : ((List.range 2).all fun s => goB nwK 460 (nw_B s) [((190, 0), (210, 0))] (nw_S 1) (runH [] (fun _ => []) 9 nwK [] nw_c ((nw_S 0).t.map (·.1)) (nw_F s) (nw_S s))) = true := by kernel_rfl
theorem nw_end : endB nwK (.exit 0) (nw_S 1) (runH [] (fun _ => []) 9 nwK [] nw_c ((nw_S 0).t.map (·.1)) ((.lt (.var 460) (.len 2), false) :: nwF) (nw_S 1)) = true := by kernel_rfl
theorem nw_ent : okS nwK 460 nw_I [] (nw_S 0) nw_E = true := by kernel_rfl
theorem nw_Eb : nw_E.bel 460 = true := by kernel_rfl
theorem nw_fit : fitsC Try.f9.ntmps nw_c = true := by kernel_rfl
end Go.Proofs.Ytdlifdoglhhnfaa

/- Txn: TxnWorld: the transaction's rounds: states. -/
namespace Go.Proofs.Ytdlifdoglhhnfaa
open Go Go.Proofs.Aw Go.Proofs.Xw Go.Proofs.Sr
set_option maxRecDepth 100000
/-- The state at the head of the main loop. -/
def mnX (n : Nat) (i : IE) (cut : List X) (an : RL) (td : X) (tdr : X) (rd : IE) : XS := ⟨(13, .sc (.i .i64 i)) :: (tpW [98, 97] ++ [(12, .top), (11, .ptr (119, 0) [] 0)] ++ tpW [96, 95, 88, 94, 93, 92, 91, 90, 89, 10] ++ [(9, .ptr (23, 0) [] 0)] ++ tpW [49, 48, 47, 46, 45, 44, 43, 42, 41, 40, 39, 38, 37, 36, 35] ++ [(0, xi 401)] ++ tpW [34, 33, 32, 31, 30, 29, 28] ++ [(8, .top), (1, .top), (2, kyW), (3, .rl 1 (.len 3) (.var 3 [.i .i64]) false)]),
  [((23, 0), [rlW 410, rlW 411, rlW 412, rlW 413]), ((119, 0), txO cut (.slv (119, 1) 1 (.lit 0) (.len 2) true) (.slv (119, 2) 25 (.lit 0) (.len 2) true) td rd), ((119, 1), [.rows 1 (.len 2) (.var 2 [.s])]), ((119, 2), [.rows 25 (.len 2) an]), ((119, 3), [tdr])], n⟩
def mn_S : XS := mnX 130 (.var 500) (vi 510 9) (.var 504 kaW) (.slv (119, 3) 1 (.var 502) (.var 503) true) (.rows 1 (.len 505) (.var 505 [.i .i64])) (.var 519)
def mn_E : XS := mnX 128 (.lit 0) (zI 9) (.one zaS) (.slv (119, 3) 1 (.lit 0) (.len 461) true) (.rows 1 (.len 461) (.var 461 [.i .i64])) (.lit 1)
noncomputable def mn_c : Code := (loopsOf r6)[0]?.getD .skip
def tdE : IE := .cl 505 0 (.var 502)
def kyE : X := .sc (.s (.cl 2 0 tdE))
def mnF : Facts := [(.lt (.len 2) (.lit 1), false), (.lt (.lit 6) (.len 2), false), (.lt (.var 500) (.lit 0), false), (.lt (.lit 12) (.var 500), false), (.lt (.var 500) (.op .mul .i64 (.lit 2) (.len 2)), true), (.lt (.var 502) (.lit 0), false), (.lt (.lit 6) (.var 502), false), (.lt (.lit 0) (.var 503), true), (.lt (.lit 6) (.var 503), false), (.eq (.len 505) (.op .padd .i64 (.var 502) (.var 503)), true), (.lt (.len 505) (.op .padd .i64 (.var 502) (.var 503)), false), (.lt (.var 502) (.len 505), true), (.lt tdE (.lit 0), false), (.lt tdE (.len 2), true)]
def rdF (rd r : Nat) : Facts := [(.eq (.var 519) (.lit rd), true), (.eq (.var 520) (.lit r), true), (.lt (.lit 60) (.len (411 + r)), false)]
def kOf : Nat × List X × X := (17, [kyE, xi 401], xi 520)
/-- How far a prefix goes. -/
def rmE (r : Nat) : IE := .op .rem .i64 (.op .add .i64 (.op .add .i64 (.op .rem .i64 (.cl 3 0 (.var 500)) (.op .add .i64 (.len (411 + r)) (.lit 1))) (.len (411 + r))) (.lit 1)) (.op .add .i64 (.len (411 + r)) (.lit 1))
def nE (r : Nat) : IE := .ite (.and (.lt (.var 500) (.len 3)) (.lt (.lit 0) (.len (411 + r)))) (rmE r) (.len (411 + r))
def nF (r : Nat) : Facts := [(.lt (rmE r) (.lit 0), false), (.lt (.lit 60) (rmE r), false), (.lt (.len (411 + r)) (nE r), false)]
/-- What is asked. -/
def qX (q : Bool) : X := .agg ([kyE] ++ (if q = true then vi 510 9 else zI 9) ++ [.sc (.b (.lit q))] ++ (if q = true then vi 510 9 else zI 9) ++ zI 3)
def ansX : X := .agg ([.sc (.i .i64 (.lit 0)), .sc (.b (.var 740))] ++ enL 720 ++ vi 742 3)
def kRd (q : Bool) (r : Nat) (l : IE) (a : X) : Nat × List X × X := (28, [xi 520, qX q, .rl 20 l (.var (411 + r) kep) false], a)
def scL2 (l : Nat) : List Sc := (List.range 20).map fun k => if isS k = true then .s (.var (l + k)) else if Nat.beq k 8 = true then .b (.var (l + k)) else .i .i64 (.var (l + k))
def anS : List Sc := [.i .i64 (.lit 0), .b (.var 740)] ++ scL2 720 ++ (List.range 3).map fun k => .i .i64 (.var (742 + k))
/-- One read is done. -/
def mn_B : Bind := ⟨[(500, .op .add .i64 (.var 500) (.lit 1)), (502, .op .padd .i64 (.var 502) (.lit 1)), (503, .op .psub .i64 (.var 503) (.lit 1)), (519, .var 519)] ++ pvV 510 510 9, [], [], [(504, .len 2, .upd tdE anS (.var 504 kaW)), (505, .len 505, .var 505 [.i .i64])]⟩
def bhX : X := .agg ([.sc (.i .i64 (.lit 91)), .sc (.b (.lit false))] ++ zeX ++ zI 3)
def kPs : Nat × List X × X := (16, [.ro 20 [enL 720] true], .agg (vi 750 9))
def kCv : Nat × List X × X := (15, [.agg (vi 510 9), .agg (vi 750 9)], .sc (.b (.lit true)))
def mn_ks : List Nat := mn_S.t.map (·.1)
theorem mn_1 : ((List.range 3).all fun r => goB 0 500 mn_B [] mn_S (runH [kOf, kRd false r (nE r) ansX] (fun _ => []) 6 0 [] mn_c mn_ks (rdF 1 r ++ (nF r ++ ((.lt (.lit 1) (.var 503), true) :: mnF))) mn_S)) = true := by kernel_rfl
theorem mn_2 : ((List.range 3).all fun r => goB 0 500 mn_B [] mn_S (runH [kOf, kRd true r (nE r) ansX, kPs, kCv] (fun _ => []) 6 0 [] mn_c mn_ks (rdF 2 r ++ (nF r ++ mnF)) mn_S)) = true := by kernel_rfl
theorem mn_3 : ((List.range 3).all fun r => goB 0 500 mn_B [] mn_S (runH [kOf, kRd true r (nE r) bhX, kRd true r (.len (411 + r)) ansX, kPs, kCv] (fun _ => []) 6 0 [] mn_c mn_ks (rdF 2 r ++ (nF r ++ mnF)) mn_S)) = true := by kernel_rfl
theorem mn_d : endB 0 (.exit 2) mn_S (runH [] (fun _ => []) 6 0 [] mn_c mn_ks [(.lt (.var 500) (.op .mul .i64 (.lit 2) (.len 2)), true), (.lt (.lit 0) (.var 503), false), (.lt (.var 503) (.lit 0), false), (.lt (.var 502) (.lit 0), false), (.lt (.len 505) (.op .padd .i64 (.var 502) (.var 503)), false)] mn_S) = true := by kernel_rfl
theorem mn_x : endB 0 (.exit 2) mn_S (runH [] (fun _ => []) 6 0 [] mn_c mn_ks [(.lt (.var 500) (.op .mul .i64 (.lit 2) (.len 2)), false)] mn_S) = true := by kernel_rfl
end Go.Proofs.Ytdlifdoglhhnfaa

/- Txn: TxnWorld: the turn's loops: runs. -/
namespace Go.Proofs.Ytdlifdoglhhnfaa
open Go Go.Proofs.Aw Go.Proofs.Xw Go.Proofs.Sr
set_option maxRecDepth 100000
def tnK : Nat := 273
def kyO : Nm × List X := ((119, 1), [.rows 1 (.len 2) (.var 2 [.s])])
def tdO (l : Nat) : List X := [.rows 1 (.len l) (.var l [.i .i64])]
def txT (cut : List X) (td : X) (rd : IE) : Nm × List X := ((119, 0), txO cut (.slv (119, 1) 1 (.lit 0) (.len 2) true) (.slv (119, 2) 25 (.lit 0) (.len 2) true) td rd)
def tdU : X := .slv (119, 3) 1 (.op .padd .i64 (.var 502) (.lit 1)) (.op .psub .i64 (.var 503) (.lit 1)) true
def t1X (n : Nat) (i : IE) (cut : List X) (an : RL) : XS := ⟨[(11, .sc (.i .i64 i)), (10, .sc (.i .i64 (.len 2))), (9, .slv (119, 2) 25 (.lit 0) (.len 2) true), (8, .top), (7, .top), (6, .top), (0, .ptr (119, 0) [] 0)], [txT cut tdU (.var 519), kyO, ((119, 2), [.rows 25 (.len 2) an]), ((119, 3), tdO 505)], n⟩
def t1_E : XS := t1X 279 (.lit 0) (vi 510 9) (.upd tdE anS (.var 504 kaW))
def t1_S : XS := t1X 279 (.var 771) (vi 772 9) (.var 770 kaW)
def t1_X : XS := t1X 300 (.var 771) (vi 772 9) (.var 770 kaW)
noncomputable def t1_c : Code := (loopsOf (Try.f34.body.getD .skip))[0]?.getD .skip
noncomputable def t1 : LoopX := ⟨(codeKey t1_c).getD 0, tnK, 770, t1_E, noB, [], .ret (.exit 0, t1_X)⟩
def t1_I : Bind := ⟨(771, .lit 0) :: pvV 772 510 9, [], [], [(770, .len 2, .upd tdE anS (.var 504 kaW))]⟩
/-- The entry of an answer. -/
def enA (l : Nat) (i : IE) : List X := (List.range 20).map fun k => if isS k = true then .sc (.s (.cl l (2 + k) i)) else if Nat.beq k 8 = true then .sc (.b (.cl l (2 + k) i)) else .sc (.i .i64 (.cl l (2 + k) i))
def t1_B (h : Bool) : Bind := ⟨(771, .op .add .i64 (.var 771) (.lit 1)) :: (if h = true then mxV 772 782 9 else pvV 772 772 9), [], [], [(770, .len 2, .var 770 kaW)]⟩
def t1_k (h : Bool) : List (Nat × List X × X) := if h = true then [(16, [.ro 20 [enA 770 (.var 771)] true], .agg (vi 782 9))] else []
def t1_F (h : Bool) : Facts := [(.lt (.var 771) (.len 2), true), (.cl 770 1 (.var 771), h), (.lt (.var 771) (.lit 0), false), (.lt (.len 2) (.lit 1), false), (.lt (.lit 6) (.len 2), false)]
theorem t1_go : ([true, false].all fun h => goB tnK 770 (t1_B h) [] t1_S (runH (t1_k h) (fun _ => []) 34 tnK [] t1_c (t1_S.t.map (·.1)) (t1_F h) t1_S)) = true := by kernel_rfl
theorem t1_end : endB tnK (.exit 0) t1_X (runH [] (fun _ => []) 34 tnK [] t1_c (t1_S.t.map (·.1)) [(.lt (.var 771) (.len 2), false)] t1_S) = true := by kernel_rfl
theorem t1_ent : okS tnK 770 t1_I [] t1_S t1_E = true := by kernel_rfl
theorem t1_Eb : t1_E.bel 770 = true := by kernel_rfl
theorem t1_fit : fitsC Try.f34.ntmps t1_c = true := by kernel_rfl
/-! ### What is to be read again -/
def t2X (n : Nat) (i : IE) (td : X) (rd : IE) (h : XHp) : XS := ⟨[(36, .sc (.i .i64 i)), (35, .sc (.i .i64 (.len 2))), (34, .slv (119, 2) 25 (.lit 0) (.len 2) true)] ++ tpW [33, 32, 31, 11, 10, 9, 8, 7, 6] ++ [(0, .ptr (119, 0) [] 0)], [txT (vi 772 9) td rd, kyO, ((119, 2), [.rows 25 (.len 2) (.var 770 kaW)])] ++ h, n⟩
def t2_E : XS := t2X 306 (.lit 0) tdU (.var 519) [((119, 3), tdO 505)]
def t2_S : Nat → XS
  | 0 => t2X 320 (.var 800) tdU (.var 519) [((119, 3), tdO 505)]
  | _ => t2X 320 (.var 800) (.slv (310, 0) 1 (.lit 0) (.len 801) true) (.lit 2) [((310, 0), tdO 801)]
noncomputable def t2_c : Code := (loopsOf (Try.f34.body.getD .skip))[1]?.getD .skip
noncomputable def t2L (s : Nat) : LoopX := ⟨(codeKey t2_c).getD 0, tnK, 800, t2_E, noB, [], .ret (.exit 2, t2_S s)⟩
noncomputable def t2B : LoopX := ⟨(codeKey t2_c).getD 0, tnK, 800, t2_E, noB, [], .br (.var 806) (.ret (.exit 2, t2_S 1)) (.ret (.exit 2, t2_S 0))⟩
def t2_I : Bind := ⟨[(800, .lit 0)], [], [], []⟩
def t2_k : List (Nat × List X × X) := [(17, [.sc (.s (.cl 2 0 (.var 800))), xi 401], xi 802), (19, [.agg (vi 772 9), xi 802], .agg (vi 803 3))]
/-- The answer's column does not cover the cut's. -/
def ncE : BE := .or (.lt (.cl 770 22 (.var 800)) (.var 803)) (.or (.lt (.cl 770 23 (.var 800)) (.var 804)) (.lt (.cl 770 24 (.var 800)) (.var 805)))
def t2_F (y : Bool) (s : Nat) : Facts := [(.lt (.var 800) (.len 2), true), (ncE, y), (.lt (.var 800) (.lit 0), false), (.lt (.len 2) (.lit 1), false), (.lt (.lit 6) (.len 2), false), (.eq (.var 503) (.lit 1), true), (.lt (.var 502) (.lit 0), false), (.lt (.lit 6) (.var 502), false), (.eq (.len 505) (.op .padd .i64 (.op .padd .i64 (.var 502) (.lit 1)) (.op .psub .i64 (.var 503) (.lit 1))), true)] ++ (if Nat.beq s 0 = true then [] else [(.lt (.lit 6) (.len 801), false)])
def t2_Y (s : Nat) : Bind := ⟨[(800, .op .add .i64 (.var 800) (.lit 1))], [], [], [if Nat.beq s 0 = true then (801, .lit 1, .one [.i .i64 (.var 800)]) else (801, .op .padd .i64 (.len 801) (.lit 1), .app (.len 801) (.var 801 [.i .i64]) (.one [.i .i64 (.var 800)]))]⟩
def t2_N (s : Nat) : Bind := ⟨[(800, .op .add .i64 (.var 800) (.lit 1))], [], [], if Nat.beq s 0 = true then [] else [(801, .len 801, .var 801 [.i .i64])]⟩
theorem t2_end : ((List.range 2).all fun s => endB tnK (.exit 2) (t2_S s) (runH [] (fun _ => []) 34 tnK [] t2_c ((t2_S 0).t.map (·.1)) [(.lt (.var 800) (.len 2), false)] (t2_S s))) = true := by kernel_rfl
theorem t2_ent : okS tnK 800 t2_I [] (t2_S 0) t2_E = true := by kernel_rfl
theorem t2_Eb : t2_E.bel 800 = true := by kernel_rfl
theorem t2_fit : fitsC Try.f34.ntmps t2_c = true := by kernel_rfl
theorem t2_n : ((List.range 2).all fun s => goB tnK 800 (t2_N s) [] (t2_S s) (runH t2_k (fun _ => []) 34 tnK [] t2_c ((t2_S 0).t.map (·.1)) (t2_F false s) (t2_S s))) = true := by kernel_rfl
theorem t2_y : ((List.range 2).all fun s => goB tnK 800 (t2_Y s) [((310, 0), (355, 0))] (t2_S 1) (runH t2_k (fun _ => []) 34 tnK [] t2_c ((t2_S 0).t.map (·.1)) (t2_F true s) (t2_S s))) = true := by kernel_rfl
/-- The turn's loops. -/
noncomputable def lpT (s f : Nat) : List LoopX := if Nat.beq f 34 = true then [t1, t2L s] else []
/-- The first round's last read, and the turn. -/
def mn_T (s : Nat) : Bind := ⟨[(500, .op .add .i64 (.var 500) (.lit 1)), (502, if Nat.beq s 0 = true then .op .padd .i64 (.var 502) (.lit 1) else .lit 0), (503, if Nat.beq s 0 = true then .op .psub .i64 (.var 503) (.lit 1) else .len 801), (519, if Nat.beq s 0 = true then .var 519 else .lit 2)] ++ pvV 510 772 9, [], [], [(504, .len 2, .var 770 kaW), if Nat.beq s 0 = true then (505, .len 505, .var 505 [.i .i64]) else (505, .len 801, .var 801 [.i .i64])]⟩
def mn_G (r : Nat) : Facts := rdF 1 r ++ (nF r ++ ((.eq (.var 503) (.lit 1), true) :: mnF))
theorem mn_4 : ((List.range 2).all fun s => (List.range 3).all fun r => goB 0 500 (mn_T s) (if Nat.beq s 0 = true then [] else [((119, 3), (200, 0))]) mn_S (runH [kOf, kRd false r (nE r) ansX] (lpT s) 6 0 [] mn_c mn_ks (mn_G r) mn_S)) = true := by kernel_rfl
end Go.Proofs.Ytdlifdoglhhnfaa

/- Txn: TxnWorld: the results, and what the law asks of them: runs. -/
namespace Go.Proofs.Ytdlifdoglhhnfaa
open Go Go.Proofs.Aw Go.Proofs.Xw Go.Proofs.Sr
set_option maxRecDepth 100000
def rsK : Nat := 142
def krW : List Kd := [.s, .b] ++ kep
def rsX (n : Nat) (i : IE) (out : X) (h : XHp) : XS := ⟨[(21, .sc (.i .i64 i)), (20, .sc (.i .i64 (.len 2))), (19, .slv (119, 2) 25 (.lit 0) (.len 2) true)] ++ tpW [18, 17, 16] ++ [(3, out)] ++ tpW [15, 14, 13, 12, 11, 10, 9, 8, 7, 6] ++ [(2, nlW), (0, .ptr (119, 0) [] 0)], (mn_S.h.filter fun p => Nat.beq p.1.1 119) ++ h, n⟩
def rs_E : XS := rsX 160 (.lit 0) nlW []
def rs_S : Nat → XS
  | 0 => rsX 200 (.var 830) nlW []
  | _ => rsX 200 (.var 830) (.slv (190, 0) 22 (.lit 0) (.len 831) true) [((190, 0), [.rows 22 (.len 831) (.var 831 krW)])]
noncomputable def rs_c : Code := (loopsOf (Try.f22.body.getD .skip))[0]?.getD .skip
noncomputable def rs : LoopX := ⟨(codeKey rs_c).getD 0, rsK, 830, rs_E, noB, [], .ret (.exit 0, rs_S 1)⟩
def rs_I : Bind := ⟨[(830, .lit 0)], [], [], []⟩
def rsR : List Sc := [.s (.cl 2 0 (.var 830)), .b (.cl 504 1 (.var 830))] ++ (List.range 20).map fun k => if isS k = true then .s (.cl 504 (2 + k) (.var 830)) else if Nat.beq k 8 = true then .b (.cl 504 (2 + k) (.var 830)) else .i .i64 (.cl 504 (2 + k) (.var 830))
def rs_B (s : Nat) : Bind := ⟨[(830, .op .add .i64 (.var 830) (.lit 1))], [], [], [if Nat.beq s 0 = true then (831, .lit 1, .one rsR) else (831, .op .padd .i64 (.len 831) (.lit 1), .app (.len 831) (.var 831 krW) (.one rsR))]⟩
def rs_F (s : Nat) : Facts := [(.lt (.var 830) (.len 2), true), (.lt (.var 830) (.lit 0), false), (.lt (.len 2) (.lit 1), false), (.lt (.lit 6) (.len 2), false)] ++ (if Nat.beq s 0 = true then [] else [(.lt (.lit 6) (.len 831), false)])
theorem rs_go : ((List.range 2).all fun s => goB rsK 830 (rs_B s) [((190, 0), (221, 0))] (rs_S 1) (runH [] (fun _ => []) 22 rsK [] rs_c ((rs_S 0).t.map (·.1)) (rs_F s) (rs_S s))) = true := by kernel_rfl
theorem rs_end : endB rsK (.exit 0) (rs_S 1) (runH [] (fun _ => []) 22 rsK [] rs_c ((rs_S 0).t.map (·.1)) [(.lt (.var 830) (.len 2), false)] (rs_S 1)) = true := by kernel_rfl
theorem rs_ent : okS rsK 830 rs_I [] (rs_S 0) rs_E = true := by kernel_rfl
theorem rs_Eb : rs_E.bel 830 = true := by kernel_rfl
theorem rs_fit : fitsC Try.f22.ntmps rs_c = true := by kernel_rfl
/-- What stands behind the main loop. -/
noncomputable def r8 : Code := sqN 3 r6
def r8F : Facts := [(.lt (.lit 0) (.var 503), false), (.lt (.var 503) (.lit 0), false), (.lt (.var 502) (.lit 0), false), (.lt (.len 505) (.op .padd .i64 (.var 502) (.var 503)), false), (.lt (.len 2) (.lit 1), false), (.lt (.lit 6) (.len 2), false)]
/-! ### The cut is closed -/
def fhX : XHp := [((23, 0), [rlW 410, rlW 411, rlW 412, rlW 413]), ((141, 0), [.rows 22 (.len 831) (.var 831 krW)]), ((142, 0), vi 510 9)]
def flW : XTp := [(21, .slv (141, 0) 22 (.lit 0) (.len 831) true), (20, .ptr (142, 0) [] 0)] ++ tpW [183, 182, 181, 180, 179, 178, 177, 176, 175, 174, 173, 172, 13, 98, 97, 12, 11, 96, 95, 88, 94, 93, 92, 91, 90, 89, 10] ++ [(9, .ptr (23, 0) [] 0)] ++ tpW [49, 48, 47, 46, 45, 44, 43, 42, 41, 40, 39, 38, 37, 36, 35, 0, 34, 33, 32, 31, 30, 29, 28, 8, 1] ++ [(2, kyW), (3, .top)]
def ckX (n : Nat) (i : IE) : XS := ⟨(22, .sc (.i .i64 i)) :: flW, fhX, n⟩
def ck_E : XS := ckX 146 (.lit 0)
def ck_S : XS := ckX 146 (.var 840)
noncomputable def ck_c : Code := (loopsOf r6)[1]?.getD .skip
noncomputable def ck : LoopX := ⟨(codeKey ck_c).getD 0, 0, 840, ck_E, noB, [], .ret (.exit 4, ck_S)⟩
def ck_I : Bind := ⟨[(840, .lit 0)], [], [], []⟩
def ck_B : Bind := ⟨[(840, .op .add .i64 (.var 840) (.lit 1))], [], [], []⟩
def kHs (l : Nat) (y : Bool) : Nat × List X × X := (29, [.agg (vi 510 9), .agg ((List.range 3).map fun k => .sc (.i .i64 (.cl 410 k (.var l))))], .sc (.b (.lit y)))
def kCd : Nat × List X × X := (15, [.agg (vi 510 9), .agg ((List.range 9).map fun k => .sc (.i .i64 (.cl 410 (9 + k) (.var 840))))], .sc (.b (.lit true)))
def ck_F : Facts := [(.lt (.var 840) (.len 410), true), (.lt (.var 840) (.lit 0), false), (.lt (.lit 60) (.len 410), false)]
theorem ck_y : goB 0 840 ck_B [] ck_S (runH [kHs 840 true, kCd] (fun _ => []) 6 0 [] ck_c (ck_S.t.map (·.1)) ck_F ck_S) = true := by kernel_rfl
theorem ck_n : goB 0 840 ck_B [] ck_S (runH [kHs 840 false] (fun _ => []) 6 0 [] ck_c (ck_S.t.map (·.1)) ck_F ck_S) = true := by kernel_rfl
theorem ck_end : endB 0 (.exit 4) ck_S (runH [] (fun _ => []) 6 0 [] ck_c (ck_S.t.map (·.1)) [(.lt (.var 840) (.len 410), false)] ck_S) = true := by kernel_rfl
theorem ck_ent : okS 0 840 ck_I [] ck_S ck_E = true := by kernel_rfl
theorem ck_Eb : ck_E.bel 840 = true := by kernel_rfl
theorem ck_fit : fitsC Try.f6.ntmps ck_c = true := by kernel_rfl
/-! ### Each key's greatest -/
def foX (n : Nat) (i : IE) : XS := ⟨(23, .sc (.i .i64 i)) :: (22, .top) :: flW, fhX, n⟩
def fo_E : XS := foX 147 (.lit 0)
def fo_S : XS := foX 147 (.var 850)
noncomputable def fo_c : Code := (loopsOf r6)[2]?.getD .skip
noncomputable def fi_c : Code := (loopsOf r6)[3]?.getD .skip
end Go.Proofs.Ytdlifdoglhhnfaa
