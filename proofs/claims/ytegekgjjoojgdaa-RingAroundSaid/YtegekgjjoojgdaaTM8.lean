/- Parts of the proof, one behind the other. -/
import Derived.Test.YtegekgjjoojgdaaTM7
/- Ring: RingAround's own run, for every row of keys. -/
namespace Go.Proofs.Ytegekgjjoojgdaa
open Go Go.Proofs.Aw Go.Proofs.Xw Go.Proofs.Sr
set_option maxRecDepth 100000
theorem callA (HF : List Nat) (ρ : Rho) : CallOk Try.prog ρ (callS ⟨cfgL [] (fun _ => []), l_able, HF⟩ 12) := callS_ok (c := ⟨cfgL [] (fun _ => []), l_able, HF⟩) (cfgL_ok (List.forall_mem_nil _) (fun _ _ _ => LpsOk.nil _ _ _ _)) l_able_ok 12
theorem x7_rows (ρ : Rho) : rowsD ρ (.len 0) x7X = (List.range (ρ.len 0)).map fun j => [AV.sc (.string (stR ρ 0 j))] := by
  unfold rowsD
  simp only [IE.den, Int.toNat_natCast]
  refine List.map_congr_left fun j hj => ?_
  have hj := List.mem_range.1 hj
  unfold x7X
  rw [RL.row, if_pos (show (j : Int) < IE.den ρ (.len 0) by show (j : Int) < (ρ.len 0 : Int); omega)]
  simp only [RL.row, cellsV, Int.toNat_natCast]
  rfl
theorem x7_ro (ρ : Rho) : X.den ρ (.rl 1 (.len 0) x7X false) = roV (ρ.len 0) (stR ρ 0) := by
  show AV.ro 1 (rowsD ρ (.len 0) x7X) false = _
  rw [x7_rows]; rfl
theorem x7_den (ρ : Rho) : denO ρ inC = strsV (ρ.len 0) (stR ρ 0) := by
  show (rowsD ρ (.len 0) x7X).flatten = _
  rw [x7_rows]; rfl
theorem HS.hkx {ρ : Rho} {n : Nat} {g h : Nat → ByteArray} (k : HS 14 [slV n, cmpV] n g h) (hl : ρ.len 0 = n) (e0 : stR ρ 0 = g) (e1 : stR ρ 201 = h) : HKOk Try.prog ρ (kSf inC) :=
  ⟨k.1, fun i m hp hg => by
    show CY Try.prog i 14 _ hp _ [(m, some (denO ρ (rwS 201)))]
    rw [rw_den, e1, hl]
    have e : X.denL ρ (kSf inC).args = [slV n, cmpV] := by
      show X.denL ρ [slD, cmpX] = _
      simp only [X.denL, slD_den, cmp_den, hl]
    rw [e]
    refine k.2 i m hp ?_
    have hg : hget hp m = some (denO ρ inC) := hg
    rw [hg, x7_den, hl, e0]⟩
theorem sp_tree : ∃ s1 s2, sp_t = .br (.lt (.var 430) (.len 0)) (.ret (.normal, s1)) (.ret (.exit 0, s2)) := ⟨_, _, rfl⟩
theorem fAl_ok {ρ : Rho} (h : 0 < ρ.len 0 ∧ ρ.len 0 ≤ 600) : Facts.ok ρ fAl :=
  Facts.ok_cons (by rw [dlt_t]; simp only [IE.den]; omega) (Facts.ok_cons (by rw [dlt_f]; simp only [IE.den]; omega) (Facts.ok_nil _))
theorem ra_at {n : Nat} {g h h' : Nat → ByteArray} (h0 : 0 < n) (hn : n ≤ 600) (hs : HS 14 [slV n, cmpV] n g h) (hr : hasBody Try.prog 9 = true ∧ ∀ k hp, CY Try.prog k 9 [roV n g] hp (roV n h') []) (e : ∀ k, k < n → h k = h' k)
    (hm : hasBody Try.prog 6 = true ∧ ∀ k hp, CY Try.prog k 6 [roV n g] hp (.sc (.bool false)) []) : ∀ k hp, CY Try.prog k 3 [roV n g] hp (.sc (.bool true)) [] := by
  generalize hρ : putR (putR (rho0 [] n g) 201 h) 202 h' = ρ
  have l0 : ρ.len 0 = n := by rw [← hρ]; rfl
  have r0 : stR ρ 0 = g := by rw [← hρ, putR_ne _ _ _ (by decide), putR_ne _ _ _ (by decide)]; rfl
  have r1 : stR ρ 201 = h := by rw [← hρ, putR_ne _ _ _ (by decide), putR_st]
  have r2 : stR ρ 202 = h' := by rw [← hρ, putR_st]
  have b0 : ρ.b 90 = false := by rw [← hρ]; rfl
  obtain ⟨s1, s2, ht⟩ := sp_tree
  have L : LoopOk Try.prog (sp_b.it (sp_i.ap ρ) (ρ.len 0)) Try.f3.ntmps sp_c sp := loopOk_cnt (ρ := ρ) mixed tis_ok sp_run sp_fits sp_back rfl 432 sp_bel sp_ib sp_bg sp_same (I := 430) (l := 0) ht (fun h => nomatch h) rfl rfl rfl (Φ0 := fAl) rfl (by kernel_rfl) (fAl_ok (by omega)) sp_ig (by omega) (callA [7, 13]) (fun _ => LpsOk.nil _ _ _ _)
  have cnt := it_count (e := .lit 0) (I := 430) (β := sp_b) rfl (ρ := sp_i.ap ρ) (by rfl) (ρ.len 0) (by omega)
  have ag : Agree 430 ρ (sp_b.it (sp_i.ap ρ) (ρ.len 0)) := (Bind.agree sp_ig ρ).trans (Bind.it_agree sp_bg _ _)
  generalize sp_b.it (sp_i.ap ρ) (ρ.len 0) = ρ1 at L cnt ag
  have l1 : ρ1.len 0 = n := by rw [← ag.len 0 (by decide)]; exact l0
  have q0 : stR ρ1 0 = g := by rw [agree_st ag (by decide)]; exact r0
  have q1 : stR ρ1 201 = h := by rw [agree_st ag (by decide)]; exact r1
  have q2 : stR ρ1 202 = h' := by rw [agree_st ag (by decide)]; exact r2
  have b1 : ρ1.b 90 = false := by rw [← ag.b 90 (by decide)]; exact b0
  have k0 : ∀ l, X.den ρ1 (kyR l) = roV n (stR ρ1 l) := fun l => by rw [ky_den, l1]
  have ks : ∀ p ∈ ksA, hasBody Try.prog p.1 = true ∧ ∀ n h, CY Try.prog n p.1 (X.denL ρ1 p.2.1) h (p.2.2.den ρ1) [] :=
    List.forall_mem_cons.2 ⟨⟨hm.1, fun k hp => by
      have := hm.2 k hp
      simp only [X.denL, k0, q0, X.den, Sc.den, BE.den, b1]; exact this⟩, List.forall_mem_cons.2 ⟨⟨hr.1, fun k hp => by
      have := hr.2 k hp
      simp only [X.denL, k0, q0, q2]; exact this⟩, List.forall_mem_cons.2 ⟨⟨(wd_cy (n := n) (by omega) e).1, fun k hp => by
      have := (wd_cy (n := n) (by omega) e).2 k hp
      simp only [X.denL, k0, q1, q2]; exact this⟩, List.forall_mem_cons.2 ⟨⟨(wd_cy (n := n) (by omega) e).1, fun k hp => by
      have := (wd_cy (n := n) (g := g) (h := g) (by omega) fun _ _ => rfl).2 k hp
      simp only [X.denL, x7_ro, l1, k0, q0]; exact this⟩, List.forall_mem_nil _⟩⟩⟩⟩
  have q := askF_ok (c := ⟨cfgH ksA lpSp [kSf inC], l_able, [7, 13]⟩) (f := 3) (args := [kyR 0]) (Φ := fA0) (cfgH_ok ks (lpSp_ok L) (List.forall_mem_cons.2 ⟨hs.hkx l1 q0 q1, List.forall_mem_nil _⟩)) l_able_ok
    (Facts.ok_cons b1 (fAl_ok (by omega))) (r := .sc (.b (.lit true))) (by
    rw [lwA_run]
    exact sel_need (by rw [dnot_t, dlt_f]; simp only [IE.den]; omega) rfl)
  simp only [X.denL, k0, q0] at q
  exact q.2
/-- The law. -/
theorem ra_cy (n : Nat) (g : Nat → ByteArray) (hz : Szs g n) : ∀ k hp, CY Try.prog k 3 [roV n g] hp (.sc (.bool true)) [] := by
  obtain ⟨b, hb, hm⟩ := mu_cy n g
  cases b with
  | true =>
    generalize hρ : ({ rho0 [] n g with b := fun _ => true } : Rho) = ρ
    have e : X.denL ρ [kyR 0] = [roV n g] := by simp only [X.denL, ky_den]; rw [← hρ]; rfl
    have q := askF_ok (ρ := ρ) (c := ⟨cfgL [(6, [kyR 0], .sc (.b (.var 90)))] (fun _ => []), l_able, [7, 13]⟩) (f := 3) (args := [kyR 0]) (Φ := [(.var 90, true)]) (cfgL_ok (List.forall_mem_cons.2 ⟨⟨hm.1, fun k hp => by
      have := hm.2 k hp
      rw [e]
      have eb : X.den ρ (.sc (.b (.var 90))) = .sc (.bool true) := by rw [← hρ]; rfl
      rw [eb]; exact this⟩, List.forall_mem_nil _⟩) (fun _ _ _ => LpsOk.nil _ _ _ _)) l_able_ok (Facts.ok_cons (by rw [← hρ]; rfl) (Facts.ok_nil _)) (r := .sc (.b (.lit true))) (by rw [lwM_run]; rfl)
    rw [e] at q
    exact q.2
  | false =>
    have hn := hb rfl
    by_cases c : 0 < n
    · obtain ⟨h, w, t, hs⟩ := sort_hs ltR_ord ltR_ck (n := n) (g := g) (by omega) hz
      obtain ⟨h', w', t', hr⟩ := aref_cy (n := n) (g := g) (by omega) hz
      refine ra_at c hn hs hr (Srt.uniq ltR_ord t t' fun x => ?_) hm
      rw [w.cnt (Nat.le_refl _), w'.cnt (Nat.le_refl _)]
    · have n0 : n = 0 := by omega
      subst n0
      have q := askF_ok (ρ := rho0 [] 0 g) (c := ⟨cfgL [] (fun _ => []), l_able, [7, 13]⟩) (f := 3) (args := [kyZ]) (Φ := []) (cfgL_ok (List.forall_mem_nil _) (fun _ _ _ => LpsOk.nil _ _ _ _)) l_able_ok (Facts.ok_nil _) (r := .sc (.b (.lit true))) (by rw [lwZ_run]; rfl)
      exact q.2
/-! ### The law's arguments -/
def raSh : List Sh := [.sl [.s]]
theorem sl_sizes {W : World} {v : Value} (h : Fits W (.sl [.s]) v) (vs : List Value) (cells : List Value) (zs : List Nat) (hv : vs[0]? = some v) (hz : zs[0]? = some 1) : Szs (stR (mkR W cells vs zs) 0) ((mkR W cells vs zs).len 0) := by
  obtain ⟨_, A, len, cap, rfl, _, h⟩ := h
  intro k hk
  have hk : k < len := by
    have : (mkR W cells vs zs).len 0 = len := by simp only [mkR, hv, lenO]
    omega
  obtain ⟨a, rfl, _, h⟩ := h (by omega)
  obtain ⟨cs, ⟨v, r, rfl, ⟨s, rfl, hs⟩, _⟩, hc⟩ := h k hk
  have h0 := hc 0 (by decide)
  simp only [List.length_cons, List.length_nil, List.getElem?_cons_zero] at h0
  show (strO (rowCell W vs zs 0 0 k)).size < _
  have : rowCell W vs zs 0 0 k = some (.string s) := by
    unfold rowCell
    rw [hv, hz]
    exact h0
  rw [this]
  show s.size < _
  have : maxLen = 9223372036854775807 := rfl
  omega
theorem ra_law (W : World) (vs : List Value) (hl : raSh.length = vs.length) (hf : ∀ (i : Nat) (sh : Sh) (v : Value), raSh[i]? = some sh → vs[i]? = some v → Fits W sh v) : CY Try.prog 0 3 (X.denL (mkR W (plain raSh vs) vs (raSh.map shZ)) (pats 0 0 raSh)) [] (.sc (.bool true)) [] := by
  match vs, hl with
  | [v], _ =>
    have hz := sl_sizes (hf 0 (.sl [.s]) v rfl rfl) [v] (plain raSh [v]) (raSh.map shZ) rfl rfl
    show CY Try.prog 0 3 (X.denL _ [kyR 0]) [] _ []
    simp only [X.denL, ky_den]
    exact ra_cy _ _ hz 0 []
end Go.Proofs.Ytegekgjjoojgdaa
