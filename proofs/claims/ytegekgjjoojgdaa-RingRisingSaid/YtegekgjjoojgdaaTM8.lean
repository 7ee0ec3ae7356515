/- Parts of the proof, one behind the other. -/
import Derived.Test.YtegekgjjoojgdaaTM7
import Derived.Test.YtegekgjjoojgdaaTM1
import Derived.Test.YtegekgjjoojgdaaXwM3
/- Ring: RingAround's own run, for every row of keys. -/
namespace Go.Proofs.Ytegekgjjoojgdaa
open Go Go.Proofs.Aw Go.Proofs.Xw Go.Proofs.Sr
set_option maxRecDepth 100000
theorem callA (HF : List Nat) (ρ : Rho) : CallOk Try.prog ρ (callS ⟨cfgL [] (fun _ => []), l_able, HF⟩ 12) := callS_ok (c := ⟨cfgL [] (fun _ => []), l_able, HF⟩) (cfgL_ok (List.forall_mem_nil _) (fun _ _ _ => LpsOk.nil _ _ _ _)) l_able_ok 12
theorem x7_rows (ρ : Rho) : rowsD ρ (.len 0) x7X = (List.range (ρ.len 0)).map fun j => [AV.sc (.string (stR ρ 0 j))] := by
  unfold rowsD
  simp only [IE.den, Int.toNat_natCast]
  refine List.map_congr_left fun j hj => ?_
  have hj := List.mem_range.1 hj
  unfold x7X
  rw [RL.row, if_pos (show (j : Int) < IE.den ρ (.len 0) by show (j : Int) < (ρ.len 0 : Int); omega)]
  simp only [RL.row, cellsV, Int.toNat_natCast]
  rfl
theorem x7_ro (ρ : Rho) : X.den ρ (.rl 1 (.len 0) x7X false) = roV (ρ.len 0) (stR ρ 0) := by
  show AV.ro 1 (rowsD ρ (.len 0) x7X) false = _
  rw [x7_rows]; rfl
theorem x7_den (ρ : Rho) : denO ρ inC = strsV (ρ.len 0) (stR ρ 0) := by
  show (rowsD ρ (.len 0) x7X).flatten = _
  rw [x7_rows]; rfl
theorem HS.hkx {ρ : Rho} {n : Nat} {g h : Nat → ByteArray} (k : HS 14 [slV n, cmpV] n g h) (hl : ρ.len 0 = n) (e0 : stR ρ 0 = g) (e1 : stR ρ 201 = h) : HKOk Try.prog ρ (kSf inC) :=
  ⟨k.1, fun i m hp hg => by
    show CY Try.prog i 14 _ hp _ [(m, some (denO ρ (rwS 201)))]
    rw [rw_den, e1, hl]
    have e : X.denL ρ (kSf inC).args = [slV n, cmpV] := by
      show X.denL ρ [slD, cmpX] = _
      simp only [X.denL, slD_den, cmp_den, hl]
    rw [e]
    refine k.2 i m hp ?_
    have hg : hget hp m = some (denO ρ inC) := hg
    rw [hg, x7_den, hl, e0]⟩
theorem sp_tree : ∃ s1 s2, sp_t = .br (.lt (.var 430) (.len 0)) (.ret (.normal, s1)) (.ret (.exit 0, s2)) := ⟨_, _, rfl⟩
theorem fAl_ok {ρ : Rho} (h : 0 < ρ.len 0 ∧ ρ.len 0 ≤ 600) : Facts.ok ρ fAl :=
  Facts.ok_cons (by rw [dlt_t]; simp only [IE.den]; omega) (Facts.ok_cons (by rw [dlt_f]; simp only [IE.den]; omega) (Facts.ok_nil _))
theorem ra_at {n : Nat} {g h h' : Nat → ByteArray} (h0 : 0 < n) (hn : n ≤ 600) (hs : HS 14 [slV n, cmpV] n g h) (hr : hasBody Try.prog 9 = true ∧ ∀ k hp, CY Try.prog k 9 [roV n g] hp (roV n h') []) (e : ∀ k, k < n → h k = h' k)
    (hm : hasBody Try.prog 6 = true ∧ ∀ k hp, CY Try.prog k 6 [roV n g] hp (.sc (.bool false)) []) : ∀ k hp, CY Try.prog k 3 [roV n g] hp (.sc (.bool true)) [] := by
  generalize hρ : putR (putR (rho0 [] n g) 201 h) 202 h' = ρ
  have l0 : ρ.len 0 = n := by rw [← hρ]; rfl
  have r0 : stR ρ 0 = g := by rw [← hρ, putR_ne _ _ _ (by decide), putR_ne _ _ _ (by decide)]; rfl
  have r1 : stR ρ 201 = h := by rw [← hρ, putR_ne _ _ _ (by decide), putR_st]
  have r2 : stR ρ 202 = h' := by rw [← hρ, putR_st]
  have b0 : ρ.b 90 = false := by rw [← hρ]; rfl
  obtain ⟨s1, s2, ht⟩ := sp_tree
  have L : LoopOk Try.prog (sp_b.it (sp_i.ap ρ) (ρ.len 0)) Try.f3.ntmps sp_c sp := loopOk_cnt (ρ := ρ) mixed tis_ok sp_run sp_fits sp_back rfl 432 sp_bel sp_ib sp_bg sp_same (I := 430) (l := 0) ht (fun h => nomatch h) rfl rfl rfl (Φ0 := fAl) rfl (by kernel_rfl) (fAl_ok (by omega)) sp_ig (by omega) (callA [7, 13]) (fun _ => LpsOk.nil _ _ _ _)
  have cnt := it_count (e := .lit 0) (I := 430) (β := sp_b) rfl (ρ := sp_i.ap ρ) (by rfl) (ρ.len 0) (by omega)
  have ag : Agree 430 ρ (sp_b.it (sp_i.ap ρ) (ρ.len 0)) := (Bind.agree sp_ig ρ).trans (Bind.it_agree sp_bg _ _)
  generalize sp_b.it (sp_i.ap ρ) (ρ.len 0) = ρ1 at L cnt ag
  have l1 : ρ1.len 0 = n := by rw [← ag.len 0 (by decide)]; exact l0
  have q0 : stR ρ1 0 = g := by rw [agree_st ag (by decide)]; exact r0
  have q1 : stR ρ1 201 = h := by rw [agree_st ag (by decide)]; exact r1
  have q2 : stR ρ1 202 = h' := by rw [agree_st ag (by decide)]; exact r2
  have b1 : ρ1.b 90 = false := by rw [← ag.b 90 (by decide)]; exact b0
  have k0 : ∀ l, X.den ρ1 (kyR l) = roV n (stR ρ1 l) := fun l => by rw [ky_den, l1]
  have ks : ∀ p ∈ ksA, hasBody Try.prog p.1 = true ∧ ∀ n h, CY Try.prog n p.1 (X.denL ρ1 p.2.1) h (p.2.2.den ρ1) [] :=
    List.forall_mem_cons.2 ⟨⟨hm.1, fun k hp => by
      have := hm.2 k hp
      simp only [X.denL, k0, q0, X.den, Sc.den, BE.den, b1]; exact this⟩, List.forall_mem_cons.2 ⟨⟨hr.1, fun k hp => by
      have := hr.2 k hp
      simp only [X.denL, k0, q0, q2]; exact this⟩, List.forall_mem_cons.2 ⟨⟨(wd_cy (n := n) (by omega) e).1, fun k hp => by
      have := (wd_cy (n := n) (by omega) e).2 k hp
      simp only [X.denL, k0, q1, q2]; exact this⟩, List.forall_mem_cons.2 ⟨⟨(wd_cy (n := n) (by omega) e).1, fun k hp => by
      have := (wd_cy (n := n) (g := g) (h := g) (by omega) fun _ _ => rfl).2 k hp
      simp only [X.denL, x7_ro, l1, k0, q0]; exact this⟩, List.forall_mem_nil _⟩⟩⟩⟩
  have q := askF_ok (c := ⟨cfgH ksA lpSp [kSf inC], l_able, [7, 13]⟩) (f := 3) (args := [kyR 0]) (Φ := fA0) (cfgH_ok ks (lpSp_ok L) (List.forall_mem_cons.2 ⟨hs.hkx l1 q0 q1, List.forall_mem_nil _⟩)) l_able_ok
    (Facts.ok_cons b1 (fAl_ok (by omega))) (r := .sc (.b (.lit true))) (by
    rw [lwA_run]
    exact sel_need (by rw [dnot_t, dlt_f]; simp only [IE.den]; omega) rfl)
  simp only [X.denL, k0, q0] at q
  exact q.2
/-- The law. -/
theorem ra_cy (n : Nat) (g : Nat → ByteArray) (hz : Szs g n) : ∀ k hp, CY Try.prog k 3 [roV n g] hp (.sc (.bool true)) [] := by
  obtain ⟨b, hb, hm⟩ := mu_cy n g
  cases b with
  | true =>
    generalize hρ : ({ rho0 [] n g with b := fun _ => true } : Rho) = ρ
    have e : X.denL ρ [kyR 0] = [roV n g] := by simp only [X.denL, ky_den]; rw [← hρ]; rfl
    have q := askF_ok (ρ := ρ) (c := ⟨cfgL [(6, [kyR 0], .sc (.b (.var 90)))] (fun _ => []), l_able, [7, 13]⟩) (f := 3) (args := [kyR 0]) (Φ := [(.var 90, true)]) (cfgL_ok (List.forall_mem_cons.2 ⟨⟨hm.1, fun k hp => by
      have := hm.2 k hp
      rw [e]
      have eb : X.den ρ (.sc (.b (.var 90))) = .sc (.bool true) := by rw [← hρ]; rfl
      rw [eb]; exact this⟩, List.forall_mem_nil _⟩) (fun _ _ _ => LpsOk.nil _ _ _ _)) l_able_ok (Facts.ok_cons (by rw [← hρ]; rfl) (Facts.ok_nil _)) (r := .sc (.b (.lit true))) (by rw [lwM_run]; rfl)
    rw [e] at q
    exact q.2
  | false =>
    have hn := hb rfl
    by_cases c : 0 < n
    · obtain ⟨h, w, t, hs⟩ := sort_hs ltR_ord ltR_ck (n := n) (g := g) (by omega) hz
      obtain ⟨h', w', t', hr⟩ := aref_cy (n := n) (g := g) (by omega) hz
      refine ra_at c hn hs hr (Srt.uniq ltR_ord t t' fun x => ?_) hm
      rw [w.cnt (Nat.le_refl _), w'.cnt (Nat.le_refl _)]
    · have n0 : n = 0 := by omega
      subst n0
      have q := askF_ok (ρ := rho0 [] 0 g) (c := ⟨cfgL [] (fun _ => []), l_able, [7, 13]⟩) (f := 3) (args := [kyZ]) (Φ := []) (cfgL_ok (List.forall_mem_nil _) (fun _ _ _ => LpsOk.nil _ _ _ _)) l_able_ok (Facts.ok_nil _) (r := .sc (.b (.lit true))) (by rw [lwZ_run]; rfl)
      exact q.2
/-! ### The law's arguments -/
def raSh : List Sh := [.sl [.s]]
theorem sl_sizes {W : World} {v : Value} (h : Fits W (.sl [.s]) v) (vs : List Value) (cells : List Value) (zs : List Nat) (hv : vs[0]? = some v) (hz : zs[0]? = some 1) : Szs (stR (mkR W cells vs zs) 0) ((mkR W cells vs zs).len 0) := by
  obtain ⟨_, A, len, cap, rfl, _, h⟩ := h
  intro k hk
  have hk : k < len := by
    have : (mkR W cells vs zs).len 0 = len := by simp only [mkR, hv, lenO]
    omega
  obtain ⟨a, rfl, _, h⟩ := h (by omega)
  obtain ⟨cs, ⟨v, r, rfl, ⟨s, rfl, hs⟩, _⟩, hc⟩ := h k hk
  have h0 := hc 0 (by decide)
  simp only [List.length_cons, List.length_nil, List.getElem?_cons_zero] at h0
  show (strO (rowCell W vs zs 0 0 k)).size < _
  have : rowCell W vs zs 0 0 k = some (.string s) := by
    unfold rowCell
    rw [hv, hz]
    exact h0
  rw [this]
  show s.size < _
  have : maxLen = 9223372036854775807 := rfl
  omega
theorem ra_law (W : World) (vs : List Value) (hl : raSh.length = vs.length) (hf : ∀ (i : Nat) (sh : Sh) (v : Value), raSh[i]? = some sh → vs[i]? = some v → Fits W sh v) : CY Try.prog 0 3 (X.denL (mkR W (plain raSh vs) vs (raSh.map shZ)) (pats 0 0 raSh)) [] (.sc (.bool true)) [] := by
  match vs, hl with
  | [v], _ =>
    have hz := sl_sizes (hf 0 (.sl [.s]) v rfl rfl) [v] (plain raSh [v]) (raSh.map shZ) rfl rfl
    show CY Try.prog 0 3 (X.denL _ [kyR 0]) [] _ []
    simp only [X.denL, ky_den]
    exact ra_cy _ _ hz 0 []
end Go.Proofs.Ytegekgjjoojgdaa

/- What functions answer, run over letters, where something is known; each shown by running it. -/
namespace Go.Proofs.Ytegekgjjoojgdaa
open Go Go.Proofs.Aw Go.Proofs.Xw
def ksF : List (Nat × List X × X) := [(17, [sX 0], cpX 300 301)]
def fF : Facts := bnd 300 ++ bnd 301 ++ [(.and (.eq (.var 300) (.lit 0)) (.eq (.var 301) (.lit 0)), false)]
def lX (n : Int) : X := .sc (.i .i64 (.lit n))
/-- a*y - b*x, as Side has it. -/
def sA (a b : Int) : IE := .op .sub .i64 (.op .mul .i64 (.lit a) (.var 301)) (.op .mul .i64 (.lit b) (.var 300))
/-- x*a - y*b. -/
def sB (a b : Int) : IE := .op .sub .i64 (.op .mul .i64 (.var 300) (.lit a)) (.op .mul .i64 (.var 301) (.lit b))
def wA (a b : Int) : IE := .op .psub .i64 (.op .pmul .i64 (.lit a) (.var 300)) (.op .pmul .i64 (.lit b) (.var 301))
def zr (e : IE) : Facts := [(.eq e (.lit 0), true), (.lt (.lit 0) e, false)]
def ps (e : IE) : Facts := [(.eq e (.lit 0), false), (.lt (.lit 0) e, true)]
def ng (e : IE) : Facts := [(.eq e (.lit 0), false), (.lt (.lit 0) e, false)]
def fA3 : Facts := fF ++ (ps (sA 1 0) ++ ps (sB 2 (-1)))
def fB3 : Facts := fF ++ (zr (sA 1 0) ++ (ps (.var 300) ++ ps (sB 2 (-1))))
def fC3 : Facts := fF ++ (ps (sA 1 0) ++ (zr (sB 2 (-1)) ++ (zr (sA (-1) 2) ++ (ps (wA (-1) (-2)) ++ ps (sB (-2) (-1))))))
def fD3 : Facts := fF ++ (ps (sA 1 0) ++ (ng (sB 2 (-1)) ++ (ps (sA (-1) 2) ++ ps (sB (-2) (-1)))))
def fE3 : Facts := fF ++ (zr (sA 1 0) ++ (ng (.var 300) ++ (ps (sA (-1) 2) ++ ps (sB (-2) (-1)))))
def fF3 : Facts := fF ++ (ng (sA 1 0) ++ (ps (sA (-1) 2) ++ ps (sB (-2) (-1))))
def fG3 : Facts := fF ++ (ng (sA 1 0) ++ (ps (sA (-1) 2) ++ (zr (sB (-2) (-1)) ++ (zr (sA (-1) (-2)) ++ (ps (wA (-1) 2) ++ ps (sB 0 1))))))
def fH3 : Facts := fF ++ (ng (sA 1 0) ++ (ps (sA (-1) 2) ++ (ng (sB (-2) (-1)) ++ (ps (sA (-1) (-2)) ++ ps (sB 0 1)))))
def fI3 : Facts := fF ++ (ng (sA 1 0) ++ (zr (sA (-1) 2) ++ (ng (wA (-1) (-2)) ++ (ng (sB (-2) (-1)) ++ (ps (sA (-1) (-2)) ++ ps (sB 0 1))))))
def fJ3 : Facts := fF ++ (ng (sA 1 0) ++ (ng (sA (-1) 2) ++ (ng (sB (-2) (-1)) ++ (ps (sA (-1) (-2)) ++ ps (sB 0 1)))))
def fA2 : Facts := fF ++ ps (sA 1 0)
def fB2 : Facts := fF ++ (zr (sA 1 0) ++ ps (.var 300))
def fC2 : Facts := fF ++ (zr (sA 1 0) ++ (ng (.var 300) ++ (zr (sB 0 (-1)) ++ (zr (sA (-1) 0) ++ (ps (.op .pmul .i64 (.lit (-1)) (.var 300)) ++ zr (sB 0 1))))))
def fD2 : Facts := fF ++ (ng (sA 1 0) ++ (ng (sB 0 (-1)) ++ (ps (sA (-1) 0) ++ ps (sB 0 1))))

def of1 : T X := (.ret (.sc (.i .i64 (.lit (0 : Int)))))
set_option maxRecDepth 100000 in
theorem of1_run : askF ⟨cfgL ksF (fun _ => []), l_able, [12]⟩ 10 ([sX 0, lX 1]) fF = of1 := by kernel_rfl
def ofA3 : T X := (.ret (.sc (.i .i64 (.lit (0 : Int)))))
set_option maxRecDepth 100000 in
theorem ofA3_run : askF ⟨cfgL ksF (fun _ => []), l_able, [12]⟩ 10 ([sX 0, lX 3]) fA3 = ofA3 := by kernel_rfl
def ofB3 : T X := (.ret (.sc (.i .i64 (.lit (0 : Int)))))
set_option maxRecDepth 100000 in
theorem ofB3_run : askF ⟨cfgL ksF (fun _ => []), l_able, [12]⟩ 10 ([sX 0, lX 3]) fB3 = ofB3 := by kernel_rfl
def ofC3 : T X := (.ret (.sc (.i .i64 (.lit (1 : Int)))))
set_option maxRecDepth 100000 in
theorem ofC3_run : askF ⟨cfgL ksF (fun _ => []), l_able, [12]⟩ 10 ([sX 0, lX 3]) fC3 = ofC3 := by kernel_rfl
def ofD3 : T X := (.ret (.sc (.i .i64 (.lit (1 : Int)))))
set_option maxRecDepth 100000 in
theorem ofD3_run : askF ⟨cfgL ksF (fun _ => []), l_able, [12]⟩ 10 ([sX 0, lX 3]) fD3 = ofD3 := by kernel_rfl
def ofE3 : T X := (.ret (.sc (.i .i64 (.lit (1 : Int)))))
set_option maxRecDepth 100000 in
theorem ofE3_run : askF ⟨cfgL ksF (fun _ => []), l_able, [12]⟩ 10 ([sX 0, lX 3]) fE3 = ofE3 := by kernel_rfl
def ofF3 : T X := (.ret (.sc (.i .i64 (.lit (1 : Int)))))
set_option maxRecDepth 100000 in
theorem ofF3_run : askF ⟨cfgL ksF (fun _ => []), l_able, [12]⟩ 10 ([sX 0, lX 3]) fF3 = ofF3 := by kernel_rfl
def ofG3 : T X := (.ret (.sc (.i .i64 (.lit (2 : Int)))))
set_option maxRecDepth 100000 in
theorem ofG3_run : askF ⟨cfgL ksF (fun _ => []), l_able, [12]⟩ 10 ([sX 0, lX 3]) fG3 = ofG3 := by kernel_rfl
def ofH3 : T X := (.ret (.sc (.i .i64 (.lit (2 : Int)))))
set_option maxRecDepth 100000 in
theorem ofH3_run : askF ⟨cfgL ksF (fun _ => []), l_able, [12]⟩ 10 ([sX 0, lX 3]) fH3 = ofH3 := by kernel_rfl
def ofI3 : T X := (.ret (.sc (.i .i64 (.lit (2 : Int)))))
set_option maxRecDepth 100000 in
theorem ofI3_run : askF ⟨cfgL ksF (fun _ => []), l_able, [12]⟩ 10 ([sX 0, lX 3]) fI3 = ofI3 := by kernel_rfl
def ofJ3 : T X := (.ret (.sc (.i .i64 (.lit (2 : Int)))))
set_option maxRecDepth 100000 in
theorem ofJ3_run : askF ⟨cfgL ksF (fun _ => []), l_able, [12]⟩ 10 ([sX 0, lX 3]) fJ3 = ofJ3 := by kernel_rfl
def ofA2 : T X := (.ret (.sc (.i .i64 (.lit (0 : Int)))))
set_option maxRecDepth 100000 in
theorem ofA2_run : askF ⟨cfgL ksF (fun _ => []), l_able, [12]⟩ 10 ([sX 0, lX 2]) fA2 = ofA2 := by kernel_rfl
def ofB2 : T X := (.ret (.sc (.i .i64 (.lit (0 : Int)))))
set_option maxRecDepth 100000 in
theorem ofB2_run : askF ⟨cfgL ksF (fun _ => []), l_able, [12]⟩ 10 ([sX 0, lX 2]) fB2 = ofB2 := by kernel_rfl
def ofC2 : T X := (.ret (.sc (.i .i64 (.lit (1 : Int)))))
set_option maxRecDepth 100000 in
theorem ofC2_run : askF ⟨cfgL ksF (fun _ => []), l_able, [12]⟩ 10 ([sX 0, lX 2]) fC2 = ofC2 := by kernel_rfl
def ofD2 : T X := (.ret (.sc (.i .i64 (.lit (1 : Int)))))
set_option maxRecDepth 100000 in
theorem ofD2_run : askF ⟨cfgL ksF (fun _ => []), l_able, [12]⟩ 10 ([sX 0, lX 2]) fD2 = ofD2 := by kernel_rfl
end Go.Proofs.Ytegekgjjoojgdaa

/- Ring: the range of a key: it rises along Around's order. -/
namespace Go.Proofs.Ytegekgjjoojgdaa
open Go Go.Proofs.Aw Go.Proofs.Xw Go.Proofs.Sr
set_option maxRecDepth 100000
/-- The range of a point, of one, two or three. -/
def sec (m : Int) (p : Pt) : Int := if m = 1 then 0 else if m = 2 then (if cmpP p (-1, 0) < 0 then 0 else 1) else if cmpP p (-1, 2) < 0 then 0 else if cmpP p (-1, -2) < 0 then 1 else 2
theorem sec_b (m : Int) (p : Pt) (h : 1 ≤ m ∧ m ≤ 3) : 0 ≤ sec m p ∧ sec m p < m := by
  unfold sec
  split
  · omega
  · split
    · split <;> omega
    · split
      · omega
      · split <;> omega
theorem cut_tr {p q c : Pt} (np : p ≠ (0, 0)) (nq : q ≠ (0, 0)) (nc : c ≠ (0, 0)) (h : ¬ cmpP q p < 0) (h2 : cmpP q c < 0) : cmpP p c < 0 := by
  have h1 : cmpP p q ≤ 0 := by
    have := mt cmp_gt.1 h
    omega
  exact (cmp_tr np nq nc h1 (by omega)).2.1 (.inr h2)
theorem sec_mono (m : Int) {p q : Pt} (np : p ≠ (0, 0)) (nq : q ≠ (0, 0)) (h : ¬ cmpP q p < 0) : sec m p ≤ sec m q := by
  have c1 := cut_tr np nq (c := (-1, 0)) (by decide) h
  have c2 := cut_tr np nq (c := (-1, 2)) (by decide) h
  have c3 := cut_tr np nq (c := (-1, -2)) (by decide) h
  unfold sec
  split
  · omega
  · split
    · by_cases k : cmpP q (-1, 0) < 0
      · rw [if_pos k, if_pos (c1 k)]; omega
      · rw [if_neg k]; split <;> omega
    · by_cases k : cmpP q (-1, 2) < 0
      · rw [if_pos k, if_pos (c2 k)]; omega
      · rw [if_neg k]
        by_cases k' : cmpP q (-1, -2) < 0
        · rw [if_pos k', if_pos (c3 k')]; split <;> omega
        · rw [if_neg k']; split
          · omega
          · split <;> omega
theorem sec_lt (m : Int) {a b : ByteArray} (h : ¬ ltR b a) : sec m (pt a) ≤ sec m (pt b) :=
  sec_mono m (pt_nz a) (pt_nz b) fun k => h (.inl k)
theorem hf_t {p : Pt} : half p = true ↔ 0 < p.2 ∨ (p.2 = 0 ∧ 0 < p.1) := half_t
theorem hf_f {p : Pt} : half p = false ↔ ¬ (0 < p.2 ∨ (p.2 = 0 ∧ 0 < p.1)) := by rw [← hf_t]; cases half p <;> simp
theorem cut_10 {p : Pt} : cmpP p (-1, 0) < 0 ↔ 0 < p.2 ∨ (p.2 = 0 ∧ 0 < p.1) := by
  rw [Sr.cmp_lt, hf_t, show half (-1, 0) = false from rfl, hf_f]
  simp only [cross, and_true]
  omega
theorem cut_12 {p : Pt} : cmpP p (-1, 2) < 0 ↔ (0 < p.2 ∨ (p.2 = 0 ∧ 0 < p.1)) ∧ 0 < 2 * p.1 + p.2 := by
  rw [Sr.cmp_lt, show half (-1, 2) = true from rfl, hf_t]
  simp only [cross]
  constructor
  · rintro (h | h)
    · cases h.2
    · exact ⟨h.1, by omega⟩
  · exact fun h => .inr ⟨h.1, by omega⟩
theorem cut_m2 {p : Pt} : cmpP p (-1, -2) < 0 ↔ (0 < p.2 ∨ (p.2 = 0 ∧ 0 < p.1)) ∨ 0 < p.2 - 2 * p.1 := by
  rw [Sr.cmp_lt, show half (-1, -2) = false from rfl, hf_t, hf_f]
  simp only [cross, and_true]
  omega
theorem s3_0 {p : Pt} (h : (0 < p.2 ∨ (p.2 = 0 ∧ 0 < p.1)) ∧ 0 < 2 * p.1 + p.2) : sec 3 p = 0 := by
  unfold sec
  rw [if_neg (by decide), if_neg (by decide), if_pos (cut_12.2 h)]
theorem s3_1 {p : Pt} (h : ¬ ((0 < p.2 ∨ (p.2 = 0 ∧ 0 < p.1)) ∧ 0 < 2 * p.1 + p.2)) (k : (0 < p.2 ∨ (p.2 = 0 ∧ 0 < p.1)) ∨ 0 < p.2 - 2 * p.1) : sec 3 p = 1 := by
  unfold sec
  rw [if_neg (by decide), if_neg (by decide), if_neg (mt cut_12.1 h), if_pos (cut_m2.2 k)]
theorem s3_2 {p : Pt} (h : ¬ ((0 < p.2 ∨ (p.2 = 0 ∧ 0 < p.1)) ∧ 0 < 2 * p.1 + p.2)) (k : ¬ ((0 < p.2 ∨ (p.2 = 0 ∧ 0 < p.1)) ∨ 0 < p.2 - 2 * p.1)) : sec 3 p = 2 := by
  unfold sec
  rw [if_neg (by decide), if_neg (by decide), if_neg (mt cut_12.1 h), if_neg (mt cut_m2.1 k)]
theorem s2_0 {p : Pt} (h : 0 < p.2 ∨ (p.2 = 0 ∧ 0 < p.1)) : sec 2 p = 0 := by
  unfold sec
  rw [if_neg (by decide), if_pos rfl, if_pos (cut_10.2 h)]
theorem s2_1 {p : Pt} (h : ¬ (0 < p.2 ∨ (p.2 = 0 ∧ 0 < p.1))) : sec 2 p = 1 := by
  unfold sec
  rw [if_neg (by decide), if_pos rfl, if_neg (mt cut_10.1 h)]
/-! ### Of -/
theorem sA_den {ρ : Rho} {a b : Int} (ha : Bd a) (hb : Bd b) (h0 : Bd (ρ.i 300)) (h1 : Bd (ρ.i 301)) : (sA a b).den ρ = a * ρ.i 301 - b * ρ.i 300 := by
  have p := mul_bd ha h1
  have q := mul_bd hb h0
  show IOp.den .sub .i64 (IOp.den .mul .i64 a (ρ.i 301)) (IOp.den .mul .i64 b (ρ.i 300)) = _
  simp only [IOp.den]
  rw [wrap_id (a * ρ.i 301) (by omega) (by omega), wrap_id (b * ρ.i 300) (by omega) (by omega), wrap_id _ (by omega) (by omega)]
theorem sB_den {ρ : Rho} {a b : Int} (ha : Bd a) (hb : Bd b) (h0 : Bd (ρ.i 300)) (h1 : Bd (ρ.i 301)) : (sB a b).den ρ = ρ.i 300 * a - ρ.i 301 * b := by
  have p := mul_bd h0 ha
  have q := mul_bd h1 hb
  show IOp.den .sub .i64 (IOp.den .mul .i64 (ρ.i 300) a) (IOp.den .mul .i64 (ρ.i 301) b) = _
  simp only [IOp.den]
  rw [wrap_id (ρ.i 300 * a) (by omega) (by omega), wrap_id (ρ.i 301 * b) (by omega) (by omega), wrap_id _ (by omega) (by omega)]
theorem wA_den {ρ : Rho} {a b : Int} : (wA a b).den ρ = a * ρ.i 300 - b * ρ.i 301 := rfl
theorem zr_ok {ρ : Rho} {e : IE} {z : Int} (h : e.den ρ = z) (k : z = 0) : Facts.ok ρ (zr e) :=
  Facts.ok_cons (by rw [deq_t, h]; exact k) (Facts.ok_cons (by rw [dlt_f, h]; show z ≤ 0; omega) (Facts.ok_nil _))
theorem ps_ok {ρ : Rho} {e : IE} {z : Int} (h : e.den ρ = z) (k : 0 < z) : Facts.ok ρ (ps e) :=
  Facts.ok_cons (by rw [deq_f, h]; show ¬ z = 0; omega) (Facts.ok_cons (by rw [dlt_t, h]; exact k) (Facts.ok_nil _))
theorem ng_ok {ρ : Rho} {e : IE} {z : Int} (h : e.den ρ = z) (k : z < 0) : Facts.ok ρ (ng e) :=
  Facts.ok_cons (by rw [deq_f, h]; show ¬ z = 0; omega) (Facts.ok_cons (by rw [dlt_f, h]; show z ≤ 0; omega) (Facts.ok_nil _))
/-- What is known of a key's point, and how Of's runs are used. -/
def OfG (x : ByteArray) (m : Int) : Prop := hasBody Try.prog 10 = true ∧ ∀ n h, CY Try.prog n 10 [.sc (.string x), .sc (.int .i64 m)] h (.sc (.int .i64 (sec m (pt x)))) []
theorem of_base (x : ByteArray) (hx : x.size < 9223372036854775808) : ∃ ρ : Rho, ρ.i 300 = (pt x).1 ∧ ρ.i 301 = (pt x).2 ∧ Bd (ρ.i 300) ∧ Bd (ρ.i 301) ∧ pt x ≠ (0, 0) ∧ Facts.ok ρ fF ∧
    ∀ {m k : Int} {Φ : Facts} {t : T X}, askF ⟨cfgL ksF (fun _ => []), l_able, [12]⟩ 10 [sX 0, lX m] Φ = t → t = .ret (.sc (.i .i64 (.lit k))) → Facts.ok ρ Φ → sec m (pt x) = k → OfG x m := by
  obtain ⟨x1, x2, x3, x4, _⟩ := pt_ok hx
  let ρ : Rho := ⟨fun k => if k = 300 then (pt x).1 else if k = 301 then (pt x).2 else 0, fun _ => false, fun _ => x, fun _ => 0, fun _ _ _ => 0, fun _ _ _ => false, fun _ _ _ => ⟨#[]⟩⟩
  have b0 : Bd (ρ.i 300) := ⟨x1.1, by show (pt x).1 ≤ _; omega⟩
  have b1 : Bd (ρ.i 301) := ⟨x2.1, by show (pt x).2 ≤ _; omega⟩
  have bk : ∀ k, Bd (ρ.i k) → Facts.ok ρ (bnd k) := fun k h => Facts.ok_cons (by rw [dlt_f]; exact h.1) (Facts.ok_cons (by rw [dlt_f]; exact h.2) (Facts.ok_nil _))
  have nz : ¬ (ρ.i 300 = 0 ∧ ρ.i 301 = 0) := fun h => x3 (Prod.ext h.1 h.2)
  have fk : Facts.ok ρ fF := all_ok (all_ok (bk 300 b0) (bk 301 b1)) (Facts.ok_cons (by rw [dand_f, deq_f, deq_f]; simp only [IE.den]; omega) (Facts.ok_nil _))
  have k1 : hasBody Try.prog 17 = true ∧ ∀ n h, CY Try.prog n 17 (X.denL ρ [sX 0]) h (X.den ρ (cpX 300 301)) [] := x4
  have cok : CfgOk Try.prog ρ (cfgL ksF (fun _ => [])) := cfgL_ok (List.forall_mem_cons.2 ⟨k1, List.forall_mem_nil _⟩) (fun _ _ _ => LpsOk.nil _ _ _ _)
  refine ⟨ρ, rfl, rfl, b0, b1, x3, fk, ?_⟩
  intro m k Φ t h1 h2 h3 h4
  unfold OfG
  rw [h4]
  exact askF_ok (c := ⟨cfgL ksF (fun _ => []), l_able, [12]⟩) cok l_able_ok h3 (r := .sc (.i .i64 (.lit k))) (by rw [h1, h2]; rfl)
theorem bd1 : Bd 1 ∧ Bd 0 ∧ Bd 2 ∧ Bd (-1) ∧ Bd (-2) := by unfold Bd; decide
theorem of_1 (x : ByteArray) (hx : x.size < 9223372036854775808) : OfG x 1 := by
  obtain ⟨ρ, _, _, _, _, _, fk, run⟩ := of_base x hx
  exact run of1_run rfl fk rfl
theorem of_2 (x : ByteArray) (hx : x.size < 9223372036854775808) : OfG x 2 := by
  obtain ⟨ρ, e0, e1, b0, b1, nz, fk, run⟩ := of_base x hx
  obtain ⟨d1, d0, _, n1, _⟩ := bd1
  have A := fun a b (ha : Bd a) (hb : Bd b) => sA_den (ρ := ρ) ha hb b0 b1
  have B := fun a b (ha : Bd a) (hb : Bd b) => sB_den (ρ := ρ) ha hb b0 b1
  generalize hp : pt x = p at e0 e1 nz run
  obtain ⟨u, v⟩ := p
  simp only at e0 e1
  have nz : ¬ (u = 0 ∧ v = 0) := fun h => nz (Prod.ext h.1 h.2)
  rw [e0, e1] at A B
  clear b0 b1
  have dx : ∀ _ : Unit, (IE.var 300).den ρ = u := fun _ => e0
  have wc : ∀ _ : Unit, (IE.op .pmul .i64 (.lit (-1)) (.var 300)).den ρ = -1 * u := fun _ => by rw [← e0]; rfl
  clear e0 e1
  rcases Int.lt_trichotomy 0 v with c | c | c
  · exact run ofA2_run rfl (all_ok fk (ps_ok (A 1 0 d1 d0) (by omega))) (s2_0 (.inl c))
  · by_cases d : 0 < u
    · exact run ofB2_run rfl (all_ok fk (all_ok (zr_ok (A 1 0 d1 d0) (by omega)) (ps_ok (dx ()) d))) (s2_0 (.inr ⟨c.symm, d⟩))
    · exact run ofC2_run rfl (all_ok fk (all_ok (zr_ok (A 1 0 d1 d0) (by omega)) (all_ok (ng_ok (dx ()) (by omega)) (all_ok (zr_ok (B 0 (-1) d0 n1) (by omega)) (all_ok (zr_ok (A (-1) 0 n1 d0) (by omega)) (all_ok (ps_ok (wc ()) (by omega)) (zr_ok (B 0 1 d0 d1) (by omega)))))))) (s2_1 (by simp only; omega))
  · exact run ofD2_run rfl (all_ok fk (all_ok (ng_ok (A 1 0 d1 d0) (by omega)) (all_ok (ng_ok (B 0 (-1) d0 n1) (by omega)) (all_ok (ps_ok (A (-1) 0 n1 d0) (by omega)) (ps_ok (B 0 1 d0 d1) (by omega)))))) (s2_1 (by simp only; omega))
theorem of_3 (x : ByteArray) (hx : x.size < 9223372036854775808) : OfG x 3 := by
  obtain ⟨ρ, e0, e1, b0, b1, nz, fk, run⟩ := of_base x hx
  obtain ⟨d1, d0, d2, n1, n2⟩ := bd1
  have A := fun a b (ha : Bd a) (hb : Bd b) => sA_den (ρ := ρ) ha hb b0 b1
  have B := fun a b (ha : Bd a) (hb : Bd b) => sB_den (ρ := ρ) ha hb b0 b1
  have W := fun a b => wA_den (ρ := ρ) (a := a) (b := b)
  generalize hp : pt x = p at e0 e1 nz run
  obtain ⟨u, v⟩ := p
  simp only at e0 e1
  have nz : ¬ (u = 0 ∧ v = 0) := fun h => nz (Prod.ext h.1 h.2)
  rw [e0, e1] at A B W
  clear b0 b1
  have dx : ∀ _ : Unit, (IE.var 300).den ρ = u := fun _ => e0
  clear e0 e1
  rcases Int.lt_trichotomy 0 v with c | c | c
  · rcases Int.lt_trichotomy 0 (2 * u + v) with d | d | d
    · exact run ofA3_run rfl (all_ok fk (all_ok (ps_ok (A 1 0 d1 d0) (by omega)) (ps_ok (B 2 (-1) d2 n1) (by omega)))) (s3_0 (by simp only; omega))
    · exact run ofC3_run rfl (all_ok fk (all_ok (ps_ok (A 1 0 d1 d0) (by omega)) (all_ok (zr_ok (B 2 (-1) d2 n1) (by omega)) (all_ok (zr_ok (A (-1) 2 n1 d2) (by omega)) (all_ok (ps_ok (W (-1) (-2)) (by omega)) (ps_ok (B (-2) (-1) n2 n1) (by omega))))))) (s3_1 (by simp only; omega) (by simp only; omega))
    · exact run ofD3_run rfl (all_ok fk (all_ok (ps_ok (A 1 0 d1 d0) (by omega)) (all_ok (ng_ok (B 2 (-1) d2 n1) (by omega)) (all_ok (ps_ok (A (-1) 2 n1 d2) (by omega)) (ps_ok (B (-2) (-1) n2 n1) (by omega)))))) (s3_1 (by simp only; omega) (by simp only; omega))
  · by_cases d : 0 < u
    · exact run ofB3_run rfl (all_ok fk (all_ok (zr_ok (A 1 0 d1 d0) (by omega)) (all_ok (ps_ok (dx ()) d) (ps_ok (B 2 (-1) d2 n1) (by omega))))) (s3_0 (by simp only; omega))
    · exact run ofE3_run rfl (all_ok fk (all_ok (zr_ok (A 1 0 d1 d0) (by omega)) (all_ok (ng_ok (dx ()) (by omega)) (all_ok (ps_ok (A (-1) 2 n1 d2) (by omega)) (ps_ok (B (-2) (-1) n2 n1) (by omega)))))) (s3_1 (by simp only; omega) (by simp only; omega))
  · rcases Int.lt_trichotomy 0 (v - 2 * u) with d | d | d
    · exact run ofF3_run rfl (all_ok fk (all_ok (ng_ok (A 1 0 d1 d0) (by omega)) (all_ok (ps_ok (A (-1) 2 n1 d2) (by omega)) (ps_ok (B (-2) (-1) n2 n1) (by omega))))) (s3_1 (by simp only; omega) (by simp only; omega))
    · exact run ofG3_run rfl (all_ok fk (all_ok (ng_ok (A 1 0 d1 d0) (by omega)) (all_ok (ps_ok (A (-1) 2 n1 d2) (by omega)) (all_ok (zr_ok (B (-2) (-1) n2 n1) (by omega)) (all_ok (zr_ok (A (-1) (-2) n1 n2) (by omega)) (all_ok (ps_ok (W (-1) 2) (by omega)) (ps_ok (B 0 1 d0 d1) (by omega)))))))) (s3_2 (by simp only; omega) (by simp only; omega))
    · rcases Int.lt_trichotomy 0 (2 * u + v) with e | e | e
      · exact run ofJ3_run rfl (all_ok fk (all_ok (ng_ok (A 1 0 d1 d0) (by omega)) (all_ok (ng_ok (A (-1) 2 n1 d2) (by omega)) (all_ok (ng_ok (B (-2) (-1) n2 n1) (by omega)) (all_ok (ps_ok (A (-1) (-2) n1 n2) (by omega)) (ps_ok (B 0 1 d0 d1) (by omega))))))) (s3_2 (by simp only; omega) (by simp only; omega))
      · exact run ofI3_run rfl (all_ok fk (all_ok (ng_ok (A 1 0 d1 d0) (by omega)) (all_ok (zr_ok (A (-1) 2 n1 d2) (by omega)) (all_ok (ng_ok (W (-1) (-2)) (by omega)) (all_ok (ng_ok (B (-2) (-1) n2 n1) (by omega)) (all_ok (ps_ok (A (-1) (-2) n1 n2) (by omega)) (ps_ok (B 0 1 d0 d1) (by omega)))))))) (s3_2 (by simp only; omega) (by simp only; omega))
      · exact run ofH3_run rfl (all_ok fk (all_ok (ng_ok (A 1 0 d1 d0) (by omega)) (all_ok (ps_ok (A (-1) 2 n1 d2) (by omega)) (all_ok (ng_ok (B (-2) (-1) n2 n1) (by omega)) (all_ok (ps_ok (A (-1) (-2) n1 n2) (by omega)) (ps_ok (B 0 1 d0 d1) (by omega))))))) (s3_2 (by simp only; omega) (by simp only; omega))
theorem of_cy (x : ByteArray) (hx : x.size < 9223372036854775808) (m : Int) (hm : 1 ≤ m ∧ m ≤ 3) : OfG x m := by
  have hm3 : m = 1 ∨ m = 2 ∨ m = 3 := by omega
  rcases hm3 with rfl | rfl | rfl
  · exact of_1 x hx
  · exact of_2 x hx
  · exact of_3 x hx
end Go.Proofs.Ytegekgjjoojgdaa

/- Loops whose rounds have letters of their own: what is run once. -/
namespace Go.Proofs.Ytegekgjjoojgdaa
open Go Go.Proofs.Aw Go.Proofs.Xw
set_option maxRecDepth 100000
def kS2 : HK := ⟨14, [slD, cmpX], rwS 0, rwS 201, .tup []⟩
def ksC : List (Nat × List X × X) := [(6, [kyR 0], .sc (.b (.var 90)))]
def nE : IE := .op .add .i64 (.lit 1) (.op .rem .i64 (.op .add .i64 (.op .rem .i64 (.var 0) (.lit 3)) (.lit 3)) (.lit 3))
def atS (e : IE) : X := .sc (.s (.cl 201 0 e))
def secX (e : IE) : IE := .cl 203 0 e
def pvE : IE := .op .sub .i64 (.var 500) (.lit 1)
def ksO1 : List (Nat × List X × X) := [(10, [atS (.var 500), .sc (.i .i64 nE)], .sc (.i .i64 (secX (.var 500))))]
def ksO2 : List (Nat × List X × X) := [(10, [atS (.var 500), .sc (.i .i64 nE)], .sc (.i .i64 (secX (.var 500)))), (10, [atS pvE, .sc (.i .i64 nE)], .sc (.i .i64 (secX pvE)))]
def rpF : Facts := [(.lt (.var 500) (.len 0), true), (.lt (.var 500) (.lit 0), false), (.lt (secX (.var 500)) (.lit 0), false), (.lt (secX (.var 500)) nE, true)]
def rpA : Facts := rpF ++ [(.lt (.lit 0) (.var 500), true), (.lt pvE (.lit 0), false), (.lt pvE (.len 0), true), (.lt (secX (.var 500)) (secX pvE), false)]
def rpB : Facts := rpF ++ [(.lt (.lit 0) (.var 500), false)]

/-! rp: letters {6: 500} rows None; entered under [] -/
noncomputable def rp_c : Code := (loopsOf (Try.f4.body.getD .skip))[0]?.getD .skip
def rp_E : XS := ⟨[(6, (.sc (.i .i64 (.lit (0 : Int))))), (29, .top), (28, .top), (27, .top), (26, .top), (25, .top), (5, (.slv (14, 0) 1 (.lit (0 : Int)) (.len 0) true)), (24, .top), (23, .top), (22, .top), (21, .top), (1, (.sc (.i .i64 (.op .add .i64 (.lit (1 : Int)) (.op .rem .i64 (.op .add .i64 (.op .rem .i64 (.var 0) (.lit (3 : Int))) (.lit (3 : Int))) (.lit (3 : Int))))))), (20, .top), (19, .top), (18, .top), (17, .top), (16, .top), (15, .top), (14, .top), (13, .top), (12, .top), (4, .top), (0, (.rl 1 (.len 0) (.var 0 [.s]) false))], [((13, 0), [(.rows 1 (.len 0) (.var 0 [.s]))]), ((14, 0), [(.rows 1 (.len 0) (.var 201 [.s]))])], 22⟩
def rp_S : XS := ⟨[(6, (.sc (.i .i64 (.var 500)))), (29, .top), (28, .top), (27, .top), (26, .top), (25, .top), (5, (.slv (14, 0) 1 (.lit (0 : Int)) (.len 0) true)), (24, .top), (23, .top), (22, .top), (21, .top), (1, (.sc (.i .i64 (.op .add .i64 (.lit (1 : Int)) (.op .rem .i64 (.op .add .i64 (.op .rem .i64 (.var 0) (.lit (3 : Int))) (.lit (3 : Int))) (.lit (3 : Int))))))), (20, .top), (19, .top), (18, .top), (17, .top), (16, .top), (15, .top), (14, .top), (13, .top), (12, .top), (4, .top), (0, (.rl 1 (.len 0) (.var 0 [.s]) false))], [((13, 0), [(.rows 1 (.len 0) (.var 0 [.s]))]), ((14, 0), [(.rows 1 (.len 0) (.var 201 [.s]))])], 22⟩
def rp_I : Bind := ⟨[(500, (.lit (0 : Int)))], [], [], []⟩
def rp_ks : List Nat := [6, 29, 28, 27, 26, 25, 5, 24, 23, 22, 21, 1, 20, 19, 18, 17, 16, 15, 14, 13, 12, 4, 0]
theorem rp_Iok : okS 0 500 rp_I (nmS rp_S rp_E) rp_S rp_E = true := by kernel_rfl
theorem rp_Ig : rp_I.ge 500 = true := by kernel_rfl
theorem rp_Eb : rp_E.bel 500 = true := by kernel_rfl
theorem rp_fits : fitsC Try.f4.ntmps rp_c = true := by kernel_rfl
theorem rp_I500 : lassoc 500 rp_I.i = some (.lit (0 : Int)) := by kernel_rfl
def rp_A_r : T (XE × XS) := (.ret (.normal, ⟨[(6, (.sc (.i .i64 (.op .add .i64 (.var 500) (.lit (1 : Int)))))), (29, .top), (28, .top), (27, .top), (26, .top), (25, .top), (5, (.slv (14, 0) 1 (.lit (0 : Int)) (.len 0) true)), (24, .top), (23, .top), (22, .top), (21, .top), (1, (.sc (.i .i64 (.op .add .i64 (.lit (1 : Int)) (.op .rem .i64 (.op .add .i64 (.op .rem .i64 (.var 0) (.lit (3 : Int))) (.lit (3 : Int))) (.lit (3 : Int))))))), (20, .top), (19, .top), (18, .top), (17, .top), (16, .top), (15, .top), (14, .top), (13, .top), (12, .top), (4, .top), (0, (.rl 1 (.len 0) (.var 0 [.s]) false))], [((13, 0), [(.rows 1 (.len 0) (.var 0 [.s]))]), ((14, 0), [(.rows 1 (.len 0) (.var 201 [.s]))])], 58⟩))
theorem rp_A_run : (codeX (cfgL ksO2 (fun _ => [])).ti (callS ⟨(cfgL ksO2 (fun _ => [])), l_able, [7, 13]⟩ 12) (((cfgL ksO2 (fun _ => [])).ft 4).elim [] (·.ms)) 0 ((cfgL ksO2 (fun _ => [])).lp 4) 1000 rp_c (rpA) rp_S).map (sqz rp_ks) = rp_A_r := by kernel_rfl
def rp_A_s : XS := ⟨[(6, (.sc (.i .i64 (.op .add .i64 (.var 500) (.lit (1 : Int)))))), (29, .top), (28, .top), (27, .top), (26, .top), (25, .top), (5, (.slv (14, 0) 1 (.lit (0 : Int)) (.len 0) true)), (24, .top), (23, .top), (22, .top), (21, .top), (1, (.sc (.i .i64 (.op .add .i64 (.lit (1 : Int)) (.op .rem .i64 (.op .add .i64 (.op .rem .i64 (.var 0) (.lit (3 : Int))) (.lit (3 : Int))) (.lit (3 : Int))))))), (20, .top), (19, .top), (18, .top), (17, .top), (16, .top), (15, .top), (14, .top), (13, .top), (12, .top), (4, .top), (0, (.rl 1 (.len 0) (.var 0 [.s]) false))], [((13, 0), [(.rows 1 (.len 0) (.var 0 [.s]))]), ((14, 0), [(.rows 1 (.len 0) (.var 201 [.s]))])], 58⟩
def rp_A_b : Bind := ⟨[(500, (.op .add .i64 (.var 500) (.lit (1 : Int))))], [], [], []⟩
theorem rp_A_ok : okS 0 500 rp_A_b (nmS rp_S rp_A_s) rp_S rp_A_s = true := by kernel_rfl
theorem rp_A_g : rp_A_b.ge 500 = true := by kernel_rfl
theorem rp_A_500 : lassoc 500 rp_A_b.i = some (.op .add .i64 (.var 500) (.lit (1 : Int))) := by kernel_rfl
def rp_B_r : T (XE × XS) := (.ret (.normal, ⟨[(6, (.sc (.i .i64 (.op .add .i64 (.var 500) (.lit (1 : Int)))))), (29, .top), (28, .top), (27, .top), (26, .top), (25, .top), (5, (.slv (14, 0) 1 (.lit (0 : Int)) (.len 0) true)), (24, .top), (23, .top), (22, .top), (21, .top), (1, (.sc (.i .i64 (.op .add .i64 (.lit (1 : Int)) (.op .rem .i64 (.op .add .i64 (.op .rem .i64 (.var 0) (.lit (3 : Int))) (.lit (3 : Int))) (.lit (3 : Int))))))), (20, .top), (19, .top), (18, .top), (17, .top), (16, .top), (15, .top), (14, .top), (13, .top), (12, .top), (4, .top), (0, (.rl 1 (.len 0) (.var 0 [.s]) false))], [((13, 0), [(.rows 1 (.len 0) (.var 0 [.s]))]), ((14, 0), [(.rows 1 (.len 0) (.var 201 [.s]))])], 49⟩))
theorem rp_B_run : (codeX (cfgL ksO1 (fun _ => [])).ti (callS ⟨(cfgL ksO1 (fun _ => [])), l_able, [7, 13]⟩ 12) (((cfgL ksO1 (fun _ => [])).ft 4).elim [] (·.ms)) 0 ((cfgL ksO1 (fun _ => [])).lp 4) 1000 rp_c (rpB) rp_S).map (sqz rp_ks) = rp_B_r := by kernel_rfl
def rp_B_s : XS := ⟨[(6, (.sc (.i .i64 (.op .add .i64 (.var 500) (.lit (1 : Int)))))), (29, .top), (28, .top), (27, .top), (26, .top), (25, .top), (5, (.slv (14, 0) 1 (.lit (0 : Int)) (.len 0) true)), (24, .top), (23, .top), (22, .top), (21, .top), (1, (.sc (.i .i64 (.op .add .i64 (.lit (1 : Int)) (.op .rem .i64 (.op .add .i64 (.op .rem .i64 (.var 0) (.lit (3 : Int))) (.lit (3 : Int))) (.lit (3 : Int))))))), (20, .top), (19, .top), (18, .top), (17, .top), (16, .top), (15, .top), (14, .top), (13, .top), (12, .top), (4, .top), (0, (.rl 1 (.len 0) (.var 0 [.s]) false))], [((13, 0), [(.rows 1 (.len 0) (.var 0 [.s]))]), ((14, 0), [(.rows 1 (.len 0) (.var 201 [.s]))])], 49⟩
def rp_B_b : Bind := ⟨[(500, (.op .add .i64 (.var 500) (.lit (1 : Int))))], [], [], []⟩
theorem rp_B_ok : okS 0 500 rp_B_b (nmS rp_S rp_B_s) rp_S rp_B_s = true := by kernel_rfl
theorem rp_B_g : rp_B_b.ge 500 = true := by kernel_rfl
theorem rp_B_500 : lassoc 500 rp_B_b.i = some (.op .add .i64 (.var 500) (.lit (1 : Int))) := by kernel_rfl
def rp_X_r : T (XE × XS) := (.ret ((.exit 0), ⟨[(6, (.sc (.i .i64 (.var 500)))), (29, .top), (28, .top), (27, .top), (26, .top), (25, .top), (5, (.slv (14, 0) 1 (.lit (0 : Int)) (.len 0) true)), (24, .top), (23, .top), (22, .top), (21, .top), (1, (.sc (.i .i64 (.op .add .i64 (.lit (1 : Int)) (.op .rem .i64 (.op .add .i64 (.op .rem .i64 (.var 0) (.lit (3 : Int))) (.lit (3 : Int))) (.lit (3 : Int))))))), (20, .top), (19, .top), (18, .top), (17, .top), (16, .top), (15, .top), (14, .top), (13, .top), (12, .top), (4, .top), (0, (.rl 1 (.len 0) (.var 0 [.s]) false))], [((13, 0), [(.rows 1 (.len 0) (.var 0 [.s]))]), ((14, 0), [(.rows 1 (.len 0) (.var 201 [.s]))])], 26⟩))
theorem rp_X_run : (codeX (cfgL [] (fun _ => [])).ti (callS ⟨(cfgL [] (fun _ => [])), l_able, [7, 13]⟩ 12) (((cfgL [] (fun _ => [])).ft 4).elim [] (·.ms)) 0 ((cfgL [] (fun _ => [])).lp 4) 1000 rp_c ([(.lt (.var 500) (.len 0), false)]) rp_S).map (sqz rp_ks) = rp_X_r := by kernel_rfl
def rp_X_s : XS := ⟨[(6, (.sc (.i .i64 (.var 500)))), (29, .top), (28, .top), (27, .top), (26, .top), (25, .top), (5, (.slv (14, 0) 1 (.lit (0 : Int)) (.len 0) true)), (24, .top), (23, .top), (22, .top), (21, .top), (1, (.sc (.i .i64 (.op .add .i64 (.lit (1 : Int)) (.op .rem .i64 (.op .add .i64 (.op .rem .i64 (.var 0) (.lit (3 : Int))) (.lit (3 : Int))) (.lit (3 : Int))))))), (20, .top), (19, .top), (18, .top), (17, .top), (16, .top), (15, .top), (14, .top), (13, .top), (12, .top), (4, .top), (0, (.rl 1 (.len 0) (.var 0 [.s]) false))], [((13, 0), [(.rows 1 (.len 0) (.var 0 [.s]))]), ((14, 0), [(.rows 1 (.len 0) (.var 201 [.s]))])], 26⟩
noncomputable def rp : LoopX := ⟨((codeKey rp_c).getD 0), 0, 500, rp_E, noB, [], .ret ((.exit 0), rp_X_s)⟩
theorem rp_ob : rp.out.belX 504 = true := by kernel_rfl
end Go.Proofs.Ytegekgjjoojgdaa

/- Loops whose rounds have letters of their own: what is run once. -/
namespace Go.Proofs.Ytegekgjjoojgdaa
open Go Go.Proofs.Aw Go.Proofs.Xw
set_option maxRecDepth 100000
noncomputable def lpRp (f : Nat) : List LoopX := if Nat.beq f 4 = true then [rp] else []
theorem lpRp_4o : othersB [rp] [0] 0 (loopsOf (Try.f4.body.getD .skip)) = true := by kernel_rfl
theorem lpRp_4 {ρ : Rho} (h_rp : LoopOk Try.prog ρ Try.f4.ntmps rp_c rp) : LpsOk Try.prog ρ Try.f4.ntmps [rp] (Try.f4.body.getD .skip) :=
  lps_idx [0] lpRp_4o (List.forall_mem_cons.2 ⟨look_list (c := rp_c) (Ls := [rp]) (by kernel_rfl) (List.forall_mem_cons.2 ⟨h_rp, List.forall_mem_nil _⟩), List.forall_mem_nil _⟩)
theorem lpRp_ok {ρ : Rho} (h_rp : LoopOk Try.prog ρ Try.f4.ntmps rp_c rp) : ∀ f i, btLook f ftsT = some i → LpsOk Try.prog ρ i.ntmps (lpRp f) i.body := by
  intro f i h
  have hi := fts_ok (f, i) (bt_of_mem _ _ (btLook_mem h))
  unfold lpRp
  split
  · rename_i hf
    have hf := Nat.eq_of_beq_eq_true hf
    subst hf
    exact lps_row hi Try.func4 (lpRp_4 h_rp)
  · exact LpsOk.nil _ _ _ _
def roF : Facts := [(.lt (.var 510) (.len 0), true), (.lt (.var 510) (.lit 0), false)]
def rcF : Facts := (.lt (.var 520) (.len 0), true) :: (.lt (.var 520) (.lit 0), false) :: roF
def eK : BE := .seq (.cl 0 0 (.var 520)) (.cl 0 0 (.var 510))
def eS : BE := .seq (.cl 201 0 (.var 520)) (.cl 0 0 (.var 510))

/-! rc: letters {11: 520, 9: 521, 10: 522} rows None; entered under [] -/
noncomputable def rc_c : Code := (loopsOf (Try.f4.body.getD .skip))[2]?.getD .skip
def rc_E : XS := ⟨[(11, (.sc (.i .i64 (.lit (0 : Int))))), (10, (.sc (.i .i64 (.lit (0 : Int))))), (9, (.sc (.i .i64 (.lit (0 : Int))))), (67, .top), (66, .top), (65, .top), (64, .top), (8, (.sc (.i .i64 (.var 510)))), (6, .top), (5, (.slv (14, 0) 1 (.lit (0 : Int)) (.len 0) true)), (1, (.sc (.i .i64 (.op .add .i64 (.lit (1 : Int)) (.op .rem .i64 (.op .add .i64 (.op .rem .i64 (.var 0) (.lit (3 : Int))) (.lit (3 : Int))) (.lit (3 : Int))))))), (0, (.rl 1 (.len 0) (.var 0 [.s]) false))], [((13, 0), [(.rows 1 (.len 0) (.var 0 [.s]))]), ((14, 0), [(.rows 1 (.len 0) (.var 201 [.s]))])], 34⟩
def rc_S : XS := ⟨[(11, (.sc (.i .i64 (.var 520)))), (10, (.sc (.i .i64 (.var 522)))), (9, (.sc (.i .i64 (.var 521)))), (67, .top), (66, .top), (65, .top), (64, .top), (8, (.sc (.i .i64 (.var 510)))), (6, .top), (5, (.slv (14, 0) 1 (.lit (0 : Int)) (.len 0) true)), (1, (.sc (.i .i64 (.op .add .i64 (.lit (1 : Int)) (.op .rem .i64 (.op .add .i64 (.op .rem .i64 (.var 0) (.lit (3 : Int))) (.lit (3 : Int))) (.lit (3 : Int))))))), (0, (.rl 1 (.len 0) (.var 0 [.s]) false))], [((13, 0), [(.rows 1 (.len 0) (.var 0 [.s]))]), ((14, 0), [(.rows 1 (.len 0) (.var 201 [.s]))])], 34⟩
def rc_I : Bind := ⟨[(520, (.lit (0 : Int))), (521, (.lit (0 : Int))), (522, (.lit (0 : Int)))], [], [], []⟩
def rc_ks : List Nat := [11, 10, 9, 67, 66, 65, 64, 8, 6, 5, 1, 0]
theorem rc_Iok : okS 0 520 rc_I (nmS rc_S rc_E) rc_S rc_E = true := by kernel_rfl
theorem rc_Ig : rc_I.ge 520 = true := by kernel_rfl
theorem rc_Eb : rc_E.bel 520 = true := by kernel_rfl
theorem rc_fits : fitsC Try.f4.ntmps rc_c = true := by kernel_rfl
theorem rc_I520 : lassoc 520 rc_I.i = some (.lit (0 : Int)) := by kernel_rfl
theorem rc_I521 : lassoc 521 rc_I.i = some (.lit (0 : Int)) := by kernel_rfl
theorem rc_I522 : lassoc 522 rc_I.i = some (.lit (0 : Int)) := by kernel_rfl
def rc_TT_r : T (XE × XS) := (.ret (.normal, ⟨[(11, (.sc (.i .i64 (.op .add .i64 (.var 520) (.lit (1 : Int)))))), (10, (.sc (.i .i64 (.op .add .i64 (.var 522) (.lit (1 : Int)))))), (9, (.sc (.i .i64 (.op .add .i64 (.var 521) (.lit (1 : Int)))))), (67, .top), (66, .top), (65, .top), (64, .top), (8, (.sc (.i .i64 (.var 510)))), (6, .top), (5, (.slv (14, 0) 1 (.lit (0 : Int)) (.len 0) true)), (1, (.sc (.i .i64 (.op .add .i64 (.lit (1 : Int)) (.op .rem .i64 (.op .add .i64 (.op .rem .i64 (.var 0) (.lit (3 : Int))) (.lit (3 : Int))) (.lit (3 : Int))))))), (0, (.rl 1 (.len 0) (.var 0 [.s]) false))], [((13, 0), [(.rows 1 (.len 0) (.var 0 [.s]))]), ((14, 0), [(.rows 1 (.len 0) (.var 201 [.s]))])], 65⟩))
theorem rc_TT_run : (codeX (cfgL [] (fun _ => [])).ti (callS ⟨(cfgL [] (fun _ => [])), l_able, []⟩ 12) (((cfgL [] (fun _ => [])).ft 4).elim [] (·.ms)) 0 ((cfgL [] (fun _ => [])).lp 4) 1000 rc_c ((eK, true) :: (eS, true) :: rcF) rc_S).map (sqz rc_ks) = rc_TT_r := by kernel_rfl
def rc_TT_s : XS := ⟨[(11, (.sc (.i .i64 (.op .add .i64 (.var 520) (.lit (1 : Int)))))), (10, (.sc (.i .i64 (.op .add .i64 (.var 522) (.lit (1 : Int)))))), (9, (.sc (.i .i64 (.op .add .i64 (.var 521) (.lit (1 : Int)))))), (67, .top), (66, .top), (65, .top), (64, .top), (8, (.sc (.i .i64 (.var 510)))), (6, .top), (5, (.slv (14, 0) 1 (.lit (0 : Int)) (.len 0) true)), (1, (.sc (.i .i64 (.op .add .i64 (.lit (1 : Int)) (.op .rem .i64 (.op .add .i64 (.op .rem .i64 (.var 0) (.lit (3 : Int))) (.lit (3 : Int))) (.lit (3 : Int))))))), (0, (.rl 1 (.len 0) (.var 0 [.s]) false))], [((13, 0), [(.rows 1 (.len 0) (.var 0 [.s]))]), ((14, 0), [(.rows 1 (.len 0) (.var 201 [.s]))])], 65⟩
def rc_TT_b : Bind := ⟨[(520, (.op .add .i64 (.var 520) (.lit (1 : Int)))), (521, (.op .add .i64 (.var 521) (.lit (1 : Int)))), (522, (.op .add .i64 (.var 522) (.lit (1 : Int))))], [], [], []⟩
theorem rc_TT_ok : okS 0 520 rc_TT_b (nmS rc_S rc_TT_s) rc_S rc_TT_s = true := by kernel_rfl
theorem rc_TT_g : rc_TT_b.ge 520 = true := by kernel_rfl
theorem rc_TT_520 : lassoc 520 rc_TT_b.i = some (.op .add .i64 (.var 520) (.lit (1 : Int))) := by kernel_rfl
theorem rc_TT_521 : lassoc 521 rc_TT_b.i = some (.op .add .i64 (.var 521) (.lit (1 : Int))) := by kernel_rfl
theorem rc_TT_522 : lassoc 522 rc_TT_b.i = some (.op .add .i64 (.var 522) (.lit (1 : Int))) := by kernel_rfl
def rc_TF_r : T (XE × XS) := (.ret (.normal, ⟨[(11, (.sc (.i .i64 (.op .add .i64 (.var 520) (.lit (1 : Int)))))), (10, (.sc (.i .i64 (.var 522)))), (9, (.sc (.i .i64 (.op .add .i64 (.var 521) (.lit (1 : Int)))))), (67, .top), (66, .top), (65, .top), (64, .top), (8, (.sc (.i .i64 (.var 510)))), (6, .top), (5, (.slv (14, 0) 1 (.lit (0 : Int)) (.len 0) true)), (1, (.sc (.i .i64 (.op .add .i64 (.lit (1 : Int)) (.op .rem .i64 (.op .add .i64 (.op .rem .i64 (.var 0) (.lit (3 : Int))) (.lit (3 : Int))) (.lit (3 : Int))))))), (0, (.rl 1 (.len 0) (.var 0 [.s]) false))], [((13, 0), [(.rows 1 (.len 0) (.var 0 [.s]))]), ((14, 0), [(.rows 1 (.len 0) (.var 201 [.s]))])], 62⟩))
theorem rc_TF_run : (codeX (cfgL [] (fun _ => [])).ti (callS ⟨(cfgL [] (fun _ => [])), l_able, []⟩ 12) (((cfgL [] (fun _ => [])).ft 4).elim [] (·.ms)) 0 ((cfgL [] (fun _ => [])).lp 4) 1000 rc_c ((eK, true) :: (eS, false) :: rcF) rc_S).map (sqz rc_ks) = rc_TF_r := by kernel_rfl
def rc_TF_s : XS := ⟨[(11, (.sc (.i .i64 (.op .add .i64 (.var 520) (.lit (1 : Int)))))), (10, (.sc (.i .i64 (.var 522)))), (9, (.sc (.i .i64 (.op .add .i64 (.var 521) (.lit (1 : Int)))))), (67, .top), (66, .top), (65, .top), (64, .top), (8, (.sc (.i .i64 (.var 510)))), (6, .top), (5, (.slv (14, 0) 1 (.lit (0 : Int)) (.len 0) true)), (1, (.sc (.i .i64 (.op .add .i64 (.lit (1 : Int)) (.op .rem .i64 (.op .add .i64 (.op .rem .i64 (.var 0) (.lit (3 : Int))) (.lit (3 : Int))) (.lit (3 : Int))))))), (0, (.rl 1 (.len 0) (.var 0 [.s]) false))], [((13, 0), [(.rows 1 (.len 0) (.var 0 [.s]))]), ((14, 0), [(.rows 1 (.len 0) (.var 201 [.s]))])], 62⟩
def rc_TF_b : Bind := ⟨[(520, (.op .add .i64 (.var 520) (.lit (1 : Int)))), (521, (.op .add .i64 (.var 521) (.lit (1 : Int)))), (522, (.var 522))], [], [], []⟩
theorem rc_TF_ok : okS 0 520 rc_TF_b (nmS rc_S rc_TF_s) rc_S rc_TF_s = true := by kernel_rfl
theorem rc_TF_g : rc_TF_b.ge 520 = true := by kernel_rfl
theorem rc_TF_520 : lassoc 520 rc_TF_b.i = some (.op .add .i64 (.var 520) (.lit (1 : Int))) := by kernel_rfl
theorem rc_TF_521 : lassoc 521 rc_TF_b.i = some (.op .add .i64 (.var 521) (.lit (1 : Int))) := by kernel_rfl
theorem rc_TF_522 : lassoc 522 rc_TF_b.i = some (.var 522) := by kernel_rfl
def rc_FT_r : T (XE × XS) := (.ret (.normal, ⟨[(11, (.sc (.i .i64 (.op .add .i64 (.var 520) (.lit (1 : Int)))))), (10, (.sc (.i .i64 (.op .add .i64 (.var 522) (.lit (1 : Int)))))), (9, (.sc (.i .i64 (.var 521)))), (67, .top), (66, .top), (65, .top), (64, .top), (8, (.sc (.i .i64 (.var 510)))), (6, .top), (5, (.slv (14, 0) 1 (.lit (0 : Int)) (.len 0) true)), (1, (.sc (.i .i64 (.op .add .i64 (.lit (1 : Int)) (.op .rem .i64 (.op .add .i64 (.op .rem .i64 (.var 0) (.lit (3 : Int))) (.lit (3 : Int))) (.lit (3 : Int))))))), (0, (.rl 1 (.len 0) (.var 0 [.s]) false))], [((13, 0), [(.rows 1 (.len 0) (.var 0 [.s]))]), ((14, 0), [(.rows 1 (.len 0) (.var 201 [.s]))])], 62⟩))
theorem rc_FT_run : (codeX (cfgL [] (fun _ => [])).ti (callS ⟨(cfgL [] (fun _ => [])), l_able, []⟩ 12) (((cfgL [] (fun _ => [])).ft 4).elim [] (·.ms)) 0 ((cfgL [] (fun _ => [])).lp 4) 1000 rc_c ((eK, false) :: (eS, true) :: rcF) rc_S).map (sqz rc_ks) = rc_FT_r := by kernel_rfl
def rc_FT_s : XS := ⟨[(11, (.sc (.i .i64 (.op .add .i64 (.var 520) (.lit (1 : Int)))))), (10, (.sc (.i .i64 (.op .add .i64 (.var 522) (.lit (1 : Int)))))), (9, (.sc (.i .i64 (.var 521)))), (67, .top), (66, .top), (65, .top), (64, .top), (8, (.sc (.i .i64 (.var 510)))), (6, .top), (5, (.slv (14, 0) 1 (.lit (0 : Int)) (.len 0) true)), (1, (.sc (.i .i64 (.op .add .i64 (.lit (1 : Int)) (.op .rem .i64 (.op .add .i64 (.op .rem .i64 (.var 0) (.lit (3 : Int))) (.lit (3 : Int))) (.lit (3 : Int))))))), (0, (.rl 1 (.len 0) (.var 0 [.s]) false))], [((13, 0), [(.rows 1 (.len 0) (.var 0 [.s]))]), ((14, 0), [(.rows 1 (.len 0) (.var 201 [.s]))])], 62⟩
def rc_FT_b : Bind := ⟨[(520, (.op .add .i64 (.var 520) (.lit (1 : Int)))), (521, (.var 521)), (522, (.op .add .i64 (.var 522) (.lit (1 : Int))))], [], [], []⟩
theorem rc_FT_ok : okS 0 520 rc_FT_b (nmS rc_S rc_FT_s) rc_S rc_FT_s = true := by kernel_rfl
theorem rc_FT_g : rc_FT_b.ge 520 = true := by kernel_rfl
theorem rc_FT_520 : lassoc 520 rc_FT_b.i = some (.op .add .i64 (.var 520) (.lit (1 : Int))) := by kernel_rfl
theorem rc_FT_521 : lassoc 521 rc_FT_b.i = some (.var 521) := by kernel_rfl
theorem rc_FT_522 : lassoc 522 rc_FT_b.i = some (.op .add .i64 (.var 522) (.lit (1 : Int))) := by kernel_rfl
def rc_FF_r : T (XE × XS) := (.ret (.normal, ⟨[(11, (.sc (.i .i64 (.op .add .i64 (.var 520) (.lit (1 : Int)))))), (10, (.sc (.i .i64 (.var 522)))), (9, (.sc (.i .i64 (.var 521)))), (67, .top), (66, .top), (65, .top), (64, .top), (8, (.sc (.i .i64 (.var 510)))), (6, .top), (5, (.slv (14, 0) 1 (.lit (0 : Int)) (.len 0) true)), (1, (.sc (.i .i64 (.op .add .i64 (.lit (1 : Int)) (.op .rem .i64 (.op .add .i64 (.op .rem .i64 (.var 0) (.lit (3 : Int))) (.lit (3 : Int))) (.lit (3 : Int))))))), (0, (.rl 1 (.len 0) (.var 0 [.s]) false))], [((13, 0), [(.rows 1 (.len 0) (.var 0 [.s]))]), ((14, 0), [(.rows 1 (.len 0) (.var 201 [.s]))])], 59⟩))
theorem rc_FF_run : (codeX (cfgL [] (fun _ => [])).ti (callS ⟨(cfgL [] (fun _ => [])), l_able, []⟩ 12) (((cfgL [] (fun _ => [])).ft 4).elim [] (·.ms)) 0 ((cfgL [] (fun _ => [])).lp 4) 1000 rc_c ((eK, false) :: (eS, false) :: rcF) rc_S).map (sqz rc_ks) = rc_FF_r := by kernel_rfl
def rc_FF_s : XS := ⟨[(11, (.sc (.i .i64 (.op .add .i64 (.var 520) (.lit (1 : Int)))))), (10, (.sc (.i .i64 (.var 522)))), (9, (.sc (.i .i64 (.var 521)))), (67, .top), (66, .top), (65, .top), (64, .top), (8, (.sc (.i .i64 (.var 510)))), (6, .top), (5, (.slv (14, 0) 1 (.lit (0 : Int)) (.len 0) true)), (1, (.sc (.i .i64 (.op .add .i64 (.lit (1 : Int)) (.op .rem .i64 (.op .add .i64 (.op .rem .i64 (.var 0) (.lit (3 : Int))) (.lit (3 : Int))) (.lit (3 : Int))))))), (0, (.rl 1 (.len 0) (.var 0 [.s]) false))], [((13, 0), [(.rows 1 (.len 0) (.var 0 [.s]))]), ((14, 0), [(.rows 1 (.len 0) (.var 201 [.s]))])], 59⟩
def rc_FF_b : Bind := ⟨[(520, (.op .add .i64 (.var 520) (.lit (1 : Int)))), (521, (.var 521)), (522, (.var 522))], [], [], []⟩
theorem rc_FF_ok : okS 0 520 rc_FF_b (nmS rc_S rc_FF_s) rc_S rc_FF_s = true := by kernel_rfl
theorem rc_FF_g : rc_FF_b.ge 520 = true := by kernel_rfl
theorem rc_FF_520 : lassoc 520 rc_FF_b.i = some (.op .add .i64 (.var 520) (.lit (1 : Int))) := by kernel_rfl
theorem rc_FF_521 : lassoc 521 rc_FF_b.i = some (.var 521) := by kernel_rfl
theorem rc_FF_522 : lassoc 522 rc_FF_b.i = some (.var 522) := by kernel_rfl
def rc_X_r : T (XE × XS) := (.ret ((.exit 4), ⟨[(11, (.sc (.i .i64 (.var 520)))), (10, (.sc (.i .i64 (.var 522)))), (9, (.sc (.i .i64 (.var 521)))), (67, .top), (66, .top), (65, .top), (64, .top), (8, (.sc (.i .i64 (.var 510)))), (6, .top), (5, (.slv (14, 0) 1 (.lit (0 : Int)) (.len 0) true)), (1, (.sc (.i .i64 (.op .add .i64 (.lit (1 : Int)) (.op .rem .i64 (.op .add .i64 (.op .rem .i64 (.var 0) (.lit (3 : Int))) (.lit (3 : Int))) (.lit (3 : Int))))))), (0, (.rl 1 (.len 0) (.var 0 [.s]) false))], [((13, 0), [(.rows 1 (.len 0) (.var 0 [.s]))]), ((14, 0), [(.rows 1 (.len 0) (.var 201 [.s]))])], 38⟩))
theorem rc_X_run : (codeX (cfgL [] (fun _ => [])).ti (callS ⟨(cfgL [] (fun _ => [])), l_able, []⟩ 12) (((cfgL [] (fun _ => [])).ft 4).elim [] (·.ms)) 0 ((cfgL [] (fun _ => [])).lp 4) 1000 rc_c ((.lt (.var 520) (.len 0), false) :: roF) rc_S).map (sqz rc_ks) = rc_X_r := by kernel_rfl
def rc_X_s : XS := ⟨[(11, (.sc (.i .i64 (.var 520)))), (10, (.sc (.i .i64 (.var 522)))), (9, (.sc (.i .i64 (.var 521)))), (67, .top), (66, .top), (65, .top), (64, .top), (8, (.sc (.i .i64 (.var 510)))), (6, .top), (5, (.slv (14, 0) 1 (.lit (0 : Int)) (.len 0) true)), (1, (.sc (.i .i64 (.op .add .i64 (.lit (1 : Int)) (.op .rem .i64 (.op .add .i64 (.op .rem .i64 (.var 0) (.lit (3 : Int))) (.lit (3 : Int))) (.lit (3 : Int))))))), (0, (.rl 1 (.len 0) (.var 0 [.s]) false))], [((13, 0), [(.rows 1 (.len 0) (.var 0 [.s]))]), ((14, 0), [(.rows 1 (.len 0) (.var 201 [.s]))])], 38⟩
noncomputable def rc : LoopX := ⟨((codeKey rc_c).getD 0), 0, 520, rc_E, noB, [], .ret ((.exit 4), rc_X_s)⟩
theorem rc_ob : rc.out.belX 530 = true := by kernel_rfl
end Go.Proofs.Ytegekgjjoojgdaa

/- Loops whose rounds have letters of their own: what is run once. -/
namespace Go.Proofs.Ytegekgjjoojgdaa
open Go Go.Proofs.Aw Go.Proofs.Xw
set_option maxRecDepth 100000
noncomputable def lpRc (f : Nat) : List LoopX := if Nat.beq f 4 = true then [rc] else []
theorem lpRc_4o : othersB [rc] [2] 0 (loopsOf (Try.f4.body.getD .skip)) = true := by kernel_rfl
theorem lpRc_4 {ρ : Rho} (h_rc : LoopOk Try.prog ρ Try.f4.ntmps rc_c rc) : LpsOk Try.prog ρ Try.f4.ntmps [rc] (Try.f4.body.getD .skip) :=
  lps_idx [2] lpRc_4o (List.forall_mem_cons.2 ⟨look_list (c := rc_c) (Ls := [rc]) (by kernel_rfl) (List.forall_mem_cons.2 ⟨h_rc, List.forall_mem_nil _⟩), List.forall_mem_nil _⟩)
theorem lpRc_ok {ρ : Rho} (h_rc : LoopOk Try.prog ρ Try.f4.ntmps rc_c rc) : ∀ f i, btLook f ftsT = some i → LpsOk Try.prog ρ i.ntmps (lpRc f) i.body := by
  intro f i h
  have hi := fts_ok (f, i) (bt_of_mem _ _ (btLook_mem h))
  unfold lpRc
  split
  · rename_i hf
    have hf := Nat.eq_of_beq_eq_true hf
    subst hf
    exact lps_row hi Try.func4 (lpRc_4 h_rc)
  · exact LpsOk.nil _ _ _ _

/-! rq: letters {8: 510} rows None; entered under [] -/
noncomputable def rq_c : Code := (loopsOf (Try.f4.body.getD .skip))[1]?.getD .skip
def rq_E : XS := ⟨[(8, (.sc (.i .i64 (.lit (0 : Int))))), (6, .top), (29, .top), (28, .top), (27, .top), (26, .top), (25, .top), (5, (.slv (14, 0) 1 (.lit (0 : Int)) (.len 0) true)), (24, .top), (23, .top), (22, .top), (21, .top), (1, (.sc (.i .i64 (.op .add .i64 (.lit (1 : Int)) (.op .rem .i64 (.op .add .i64 (.op .rem .i64 (.var 0) (.lit (3 : Int))) (.lit (3 : Int))) (.lit (3 : Int))))))), (20, .top), (19, .top), (18, .top), (17, .top), (16, .top), (15, .top), (14, .top), (13, .top), (12, .top), (4, .top), (0, (.rl 1 (.len 0) (.var 0 [.s]) false))], [((13, 0), [(.rows 1 (.len 0) (.var 0 [.s]))]), ((14, 0), [(.rows 1 (.len 0) (.var 201 [.s]))])], 27⟩
def rq_S : XS := ⟨[(8, (.sc (.i .i64 (.var 510)))), (6, .top), (5, (.slv (14, 0) 1 (.lit (0 : Int)) (.len 0) true)), (1, (.sc (.i .i64 (.op .add .i64 (.lit (1 : Int)) (.op .rem .i64 (.op .add .i64 (.op .rem .i64 (.var 0) (.lit (3 : Int))) (.lit (3 : Int))) (.lit (3 : Int))))))), (0, (.rl 1 (.len 0) (.var 0 [.s]) false))], [((13, 0), [(.rows 1 (.len 0) (.var 0 [.s]))]), ((14, 0), [(.rows 1 (.len 0) (.var 201 [.s]))])], 27⟩
def rq_I : Bind := ⟨[(510, (.lit (0 : Int)))], [], [], []⟩
def rq_ks : List Nat := [8, 6, 29, 28, 27, 26, 25, 5, 24, 23, 22, 21, 1, 20, 19, 18, 17, 16, 15, 14, 13, 12, 4, 0]
theorem rq_Iok : okS 0 510 rq_I (nmS rq_S rq_E) rq_S rq_E = true := by kernel_rfl
theorem rq_Ig : rq_I.ge 510 = true := by kernel_rfl
theorem rq_Eb : rq_E.bel 510 = true := by kernel_rfl
theorem rq_fits : fitsC Try.f4.ntmps rq_c = true := by kernel_rfl
theorem rq_I510 : lassoc 510 rq_I.i = some (.lit (0 : Int)) := by kernel_rfl
def rq_G_r : T (XE × XS) := (.ret (.normal, ⟨[(8, (.sc (.i .i64 (.op .add .i64 (.var 510) (.lit (1 : Int)))))), (6, .top), (29, .top), (28, .top), (27, .top), (26, .top), (25, .top), (5, (.slv (14, 0) 1 (.lit (0 : Int)) (.len 0) true)), (24, .top), (23, .top), (22, .top), (21, .top), (1, (.sc (.i .i64 (.op .add .i64 (.lit (1 : Int)) (.op .rem .i64 (.op .add .i64 (.op .rem .i64 (.var 0) (.lit (3 : Int))) (.lit (3 : Int))) (.lit (3 : Int))))))), (20, .top), (19, .top), (18, .top), (17, .top), (16, .top), (15, .top), (14, .top), (13, .top), (12, .top), (4, .top), (0, (.rl 1 (.len 0) (.var 0 [.s]) false))], [((13, 0), [(.rows 1 (.len 0) (.var 0 [.s]))]), ((14, 0), [(.rows 1 (.len 0) (.var 201 [.s]))])], 44⟩))
theorem rq_G_run : (codeX (cfgL [] lpRc).ti (callS ⟨(cfgL [] lpRc), l_able, [7, 13]⟩ 12) (((cfgL [] lpRc).ft 4).elim [] (·.ms)) 0 ((cfgL [] lpRc).lp 4) 1000 rq_c ((.eq (.var 521) (.var 522), true) :: roF) rq_S).map (sqz rq_ks) = rq_G_r := by kernel_rfl
def rq_G_s : XS := ⟨[(8, (.sc (.i .i64 (.op .add .i64 (.var 510) (.lit (1 : Int)))))), (6, .top), (29, .top), (28, .top), (27, .top), (26, .top), (25, .top), (5, (.slv (14, 0) 1 (.lit (0 : Int)) (.len 0) true)), (24, .top), (23, .top), (22, .top), (21, .top), (1, (.sc (.i .i64 (.op .add .i64 (.lit (1 : Int)) (.op .rem .i64 (.op .add .i64 (.op .rem .i64 (.var 0) (.lit (3 : Int))) (.lit (3 : Int))) (.lit (3 : Int))))))), (20, .top), (19, .top), (18, .top), (17, .top), (16, .top), (15, .top), (14, .top), (13, .top), (12, .top), (4, .top), (0, (.rl 1 (.len 0) (.var 0 [.s]) false))], [((13, 0), [(.rows 1 (.len 0) (.var 0 [.s]))]), ((14, 0), [(.rows 1 (.len 0) (.var 201 [.s]))])], 44⟩
def rq_G_b : Bind := ⟨[(510, (.op .add .i64 (.var 510) (.lit (1 : Int))))], [], [], []⟩
theorem rq_G_ok : okS 0 510 rq_G_b (nmS rq_S rq_G_s) rq_S rq_G_s = true := by kernel_rfl
theorem rq_G_g : rq_G_b.ge 510 = true := by kernel_rfl
theorem rq_G_510 : lassoc 510 rq_G_b.i = some (.op .add .i64 (.var 510) (.lit (1 : Int))) := by kernel_rfl
def rq_X_r : T (XE × XS) := (.ret ((.exit 2), ⟨[(8, (.sc (.i .i64 (.var 510)))), (6, .top), (29, .top), (28, .top), (27, .top), (26, .top), (25, .top), (5, (.slv (14, 0) 1 (.lit (0 : Int)) (.len 0) true)), (24, .top), (23, .top), (22, .top), (21, .top), (1, (.sc (.i .i64 (.op .add .i64 (.lit (1 : Int)) (.op .rem .i64 (.op .add .i64 (.op .rem .i64 (.var 0) (.lit (3 : Int))) (.lit (3 : Int))) (.lit (3 : Int))))))), (20, .top), (19, .top), (18, .top), (17, .top), (16, .top), (15, .top), (14, .top), (13, .top), (12, .top), (4, .top), (0, (.rl 1 (.len 0) (.var 0 [.s]) false))], [((13, 0), [(.rows 1 (.len 0) (.var 0 [.s]))]), ((14, 0), [(.rows 1 (.len 0) (.var 201 [.s]))])], 31⟩))
theorem rq_X_run : (codeX (cfgL [] (fun _ => [])).ti (callS ⟨(cfgL [] (fun _ => [])), l_able, [7, 13]⟩ 12) (((cfgL [] (fun _ => [])).ft 4).elim [] (·.ms)) 0 ((cfgL [] (fun _ => [])).lp 4) 1000 rq_c ([(.lt (.var 510) (.len 0), false)]) rq_S).map (sqz rq_ks) = rq_X_r := by kernel_rfl
def rq_X_s : XS := ⟨[(8, (.sc (.i .i64 (.var 510)))), (6, .top), (29, .top), (28, .top), (27, .top), (26, .top), (25, .top), (5, (.slv (14, 0) 1 (.lit (0 : Int)) (.len 0) true)), (24, .top), (23, .top), (22, .top), (21, .top), (1, (.sc (.i .i64 (.op .add .i64 (.lit (1 : Int)) (.op .rem .i64 (.op .add .i64 (.op .rem .i64 (.var 0) (.lit (3 : Int))) (.lit (3 : Int))) (.lit (3 : Int))))))), (20, .top), (19, .top), (18, .top), (17, .top), (16, .top), (15, .top), (14, .top), (13, .top), (12, .top), (4, .top), (0, (.rl 1 (.len 0) (.var 0 [.s]) false))], [((13, 0), [(.rows 1 (.len 0) (.var 0 [.s]))]), ((14, 0), [(.rows 1 (.len 0) (.var 201 [.s]))])], 31⟩
noncomputable def rq : LoopX := ⟨((codeKey rq_c).getD 0), 0, 510, rq_E, noB, [], .ret ((.exit 2), rq_X_s)⟩
theorem rq_ob : rq.out.belX 514 = true := by kernel_rfl
end Go.Proofs.Ytegekgjjoojgdaa

/- What functions answer, run over letters, where something is known; each shown by running it. -/
namespace Go.Proofs.Ytegekgjjoojgdaa
open Go Go.Proofs.Aw Go.Proofs.Xw
noncomputable def lpRl (f : Nat) : List LoopX := if Nat.beq f 4 = true then [rp, rq] else []
theorem lpRl_4o : othersB [rp, rq] [0, 1] 0 (loopsOf (Try.f4.body.getD .skip)) = true := by kernel_rfl
theorem lpRl_4 {ρ : Rho} (h_rp : LoopOk Try.prog ρ Try.f4.ntmps rp_c rp) (h_rq : LoopOk Try.prog ρ Try.f4.ntmps rq_c rq) : LpsOk Try.prog ρ Try.f4.ntmps [rp, rq] (Try.f4.body.getD .skip) :=
  lps_idx [0, 1] lpRl_4o (List.forall_mem_cons.2 ⟨look_list (c := rp_c) (Ls := [rp]) (by kernel_rfl) (List.forall_mem_cons.2 ⟨h_rp, List.forall_mem_nil _⟩), List.forall_mem_cons.2 ⟨look_list (c := rq_c) (Ls := [rq]) (by kernel_rfl) (List.forall_mem_cons.2 ⟨h_rq, List.forall_mem_nil _⟩), List.forall_mem_nil _⟩⟩)
theorem lpRl_ok {ρ : Rho} (h_rp : LoopOk Try.prog ρ Try.f4.ntmps rp_c rp) (h_rq : LoopOk Try.prog ρ Try.f4.ntmps rq_c rq) : ∀ f i, btLook f ftsT = some i → LpsOk Try.prog ρ i.ntmps (lpRl f) i.body := by
  intro f i h
  have hi := fts_ok (f, i) (bt_of_mem _ _ (btLook_mem h))
  unfold lpRl
  split
  · rename_i hf
    have hf := Nat.eq_of_beq_eq_true hf
    subst hf
    exact lps_row hi Try.func4 (lpRl_4 h_rp h_rq)
  · exact LpsOk.nil _ _ _ _

def rgM : T X := (.ret (.sc (.b (.lit true))))
set_option maxRecDepth 100000 in
theorem rgM_run : askF ⟨cfgL [(6, [kyR 0], .sc (.b (.var 90)))] (fun _ => []), l_able, [7, 13]⟩ 4 ([kyR 0, iV 0]) [(.var 90, true)] = rgM := by kernel_rfl
def rgA : T X := (.ret (.sc (.b (.lit true))))
set_option maxRecDepth 100000 in
theorem rgA_run : askF ⟨cfgH ksC lpRl [kS2], l_able, [7, 13]⟩ 4 ([kyR 0, iV 0]) fA0 = rgA := by kernel_rfl
def rgZ : T X := (.ret (.sc (.b (.lit true))))
set_option maxRecDepth 100000 in
theorem rgZ_run : askF ⟨cfgL [] (fun _ => []), l_able, [7, 13]⟩ 4 ([kyZ, iV 0]) [] = rgZ := by kernel_rfl
end Go.Proofs.Ytegekgjjoojgdaa
