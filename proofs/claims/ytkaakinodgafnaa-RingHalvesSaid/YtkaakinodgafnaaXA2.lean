/- RingPoints, RingHalves: whatever the key and the number, the calls return true. -/
import Derived.Test.YtkaakinodgafnaaXL2
import Derived.Test.YtkaakinodgafnaaXwM2
namespace Go.Proofs.Ytkaakinodgafnaa
open Go Go.Proofs.Aw Go.Proofs.Xw
set_option maxRecDepth 100000
def bt : T X → BE
  | .ret x => x.be
  | _ => .lit false
def xx : IE := .var 300
def yy : IE := .var 301
def l2 : IE := .op .padd .i64 (.op .pmul .i64 (.lit 2) (.var 300)) (.var 301)
def l3 : IE := .op .psub .i64 (.op .pmul .i64 (.lit 2) (.var 300)) (.var 301)
def m2 : IE := .op .psub .i64 (.op .pmul .i64 (.lit 2) (.var 301)) (.var 300)
def m3 : IE := .op .psub .i64 (.op .pmul .i64 (.lit (-2)) (.var 301)) (.var 300)
def fpos (e : IE) : BE × Bool := (.lt (.lit 0) e, true)
def fneg0 (e : IE) : BE × Bool := (.lt e (.lit 0), true)
def fzer (e : IE) : BE × Bool := (.eq e (.lit 0), true)
section
variable {ρ : Rho} {Φ : Facts} {Q : Prop}
theorem fpos_of (e : IE) (hk : Facts.ok ρ Φ) (h : 0 < e.den ρ) (k : Facts.ok ρ (fpos e :: Φ) → Q) : Q := k (Facts.ok_cons (decide_eq_true h) hk)
theorem fneg_of (e : IE) (hk : Facts.ok ρ Φ) (h : e.den ρ < 0) (k : Facts.ok ρ (fneg0 e :: Φ) → Q) : Q := k (Facts.ok_cons (decide_eq_true h) hk)
theorem pos_is (e : IE) (hk : Facts.ok ρ Φ) (h : Φ.any (fun p => p.1.beq (.lt (.lit 0) e) && p.2) = true) : 0 < e.den ρ := by
  obtain ⟨p, h1, h2⟩ := List.any_eq_true.1 h
  simp only [Bool.and_eq_true] at h2
  have := hk p h1
  rw [BE.beq_eq _ _ h2.1, h2.2] at this
  exact of_decide_eq_true this
theorem neg_is (e : IE) (hk : Facts.ok ρ Φ) (h : Φ.any (fun p => p.1.beq (.lt e (.lit 0)) && p.2) = true) : e.den ρ < 0 := by
  obtain ⟨p, h1, h2⟩ := List.any_eq_true.1 h
  simp only [Bool.and_eq_true] at h2
  have := hk p h1
  rw [BE.beq_eq _ _ h2.1, h2.2] at this
  exact of_decide_eq_true this
theorem zer_is (e : IE) (hk : Facts.ok ρ Φ) (h : Φ.any (fun p => p.1.beq (.eq e (.lit 0)) && p.2) = true) : e.den ρ = 0 := by
  obtain ⟨p, h1, h2⟩ := List.any_eq_true.1 h
  simp only [Bool.and_eq_true] at h2
  have := hk p h1
  rw [BE.beq_eq _ _ h2.1, h2.2] at this
  simpa only [BE.den, IE.den, beq_iff_eq] using this
end
theorem d2 (ρ : Rho) : l2.den ρ = 2 * ρ.i 300 + ρ.i 301 := rfl
theorem d3 (ρ : Rho) : l3.den ρ = 2 * ρ.i 300 - ρ.i 301 := rfl
theorem e2 (ρ : Rho) : m2.den ρ = 2 * ρ.i 301 - ρ.i 300 := rfl
theorem e3 (ρ : Rho) : m3.den ρ = (-2) * ρ.i 301 - ρ.i 300 := rfl
theorem dx (ρ : Rho) : xx.den ρ = ρ.i 300 := rfl
theorem dy (ρ : Rho) : yy.den ρ = ρ.i 301 := rfl
theorem z00 {ρ : Rho} {Φ : Facts} (hk : Facts.ok ρ (fzer xx :: fzer yy :: Φ)) (h : Φ.any (fun p => p.1.beq (.and (.eq (.var 300) (.lit 0)) (.eq (.var 301) (.lit 0))) && !p.2) = true) : False := by
  have hx := hk _ List.mem_cons_self
  have hy := hk _ (List.mem_cons_of_mem _ List.mem_cons_self)
  have hz := hk
  obtain ⟨p, h1, h2⟩ := List.any_eq_true.1 h
  simp only [Bool.and_eq_true, Bool.not_eq_true'] at h2
  have := hk p (List.mem_cons_of_mem _ (List.mem_cons_of_mem _ h1))
  rw [BE.beq_eq _ _ h2.1, h2.2] at this
  simp only [fzer, xx, yy, BE.den, IE.den] at hx hy this
  rw [hx, hy] at this
  exact absurd this (by decide)
theorem p2_true {ρ : Rho} (h : Facts.ok ρ fP) : (bt p2).den ρ = true :=
  tri yy h (fun h => by_redB h (by kernel_rfl)) (fun h => by_redB h (by kernel_rfl)) (fun h => tri xx h (fun h => by_redB h (by kernel_rfl)) (fun h => by_redB h (by kernel_rfl)) (fun h => (z00 h (by kernel_rfl)).elim))
theorem h_true {ρ : Rho} (hk : Facts.ok ρ fP) : (bt h).den ρ = true :=
  tri yy hk (fun k => tri l2 k (fun k => by_redB k (by kernel_rfl)) (fun k => by_redB k (by kernel_rfl)) (fun k => by_redB k (by kernel_rfl)))
    (fun k => tri l3 k (fun k => by_redB k (by kernel_rfl)) (fun k => by_redB k (by kernel_rfl)) (fun k => by_redB k (by kernel_rfl)))
    (fun k => tri xx k (fun k => by_redB k (by kernel_rfl)) (fun k => by_redB k (by kernel_rfl)) (fun k => (z00 k (by kernel_rfl)).elim))
theorem p3_true {ρ : Rho} (hk : Facts.ok ρ fP) : (bt p3).den ρ = true := by
  refine tri yy hk (fun k => tri l2 k (fun k => by_redB k (by kernel_rfl)) (fun k => ?_) (fun k => ?_))
    (fun k => tri l3 k (fun k => by_redB k (by kernel_rfl)) (fun k => ?_) (fun k => ?_))
    (fun k => tri xx k (fun k => by_redB k (by kernel_rfl)) (fun k => by_redB k (by kernel_rfl)) (fun k => (z00 k (by kernel_rfl)).elim))
  · have a := pos_is yy k (by kernel_rfl)
    have b := neg_is l2 k (by kernel_rfl)
    rw [d2] at b
    rw [dy] at a
    exact fneg_of l3 k (by rw [d3]; omega) fun k => by_redB k (by kernel_rfl)
  · have a := pos_is yy k (by kernel_rfl)
    have b := zer_is l2 k (by kernel_rfl)
    rw [d2] at b
    rw [dy] at a
    exact fneg_of l3 k (by rw [d3]; omega) fun k => fpos_of m2 k (by rw [e2]; omega) fun k => by_redB k (by kernel_rfl)
  · have a := neg_is yy k (by kernel_rfl)
    have b := neg_is l3 k (by kernel_rfl)
    rw [d3] at b
    rw [dy] at a
    exact fneg_of l2 k (by rw [d2]; omega) fun k => by_redB k (by kernel_rfl)
  · have a := neg_is yy k (by kernel_rfl)
    have b := zer_is l3 k (by kernel_rfl)
    rw [d3] at b
    rw [dy] at a
    exact fneg_of l2 k (by rw [d2]; omega) fun k => fpos_of m3 k (by rw [e3]; omega) fun k => by_redB k (by kernel_rfl)
def bXY (x y : Int) : Bind := ⟨[(300, IE.lit x), (301, IE.lit y)], [], [], []⟩
/-- Where the key is not too long, its point has letters of its own. -/
theorem withP (ρ : Rho) (hl : (BE.lt (.lit 200000) (.slen (.var 0))).den ρ = false) : ∃ ρ' : Rho, Agree 300 ρ ρ' ∧ Facts.ok ρ' fP ∧ ∀ p ∈ ksP, hasBody Try.prog p.1 = true ∧ ∀ n h, CY Try.prog n p.1 (X.denL ρ' p.2.1) h (p.2.2.den ρ') [] := by
  have hs : (ρ.s 0).size < 4611686018427387904 := by
    have := of_decide_eq_false hl
    simp only [IE.den, TE.den] at this
    omega
  obtain ⟨x, y, hx, hy, hz, h1, h2⟩ := pnt_cy ρ hs
  have ag : Agree 300 ρ ((bXY x y).ap ρ) := Bind.agree (n := 300) (β := bXY x y) rfl ρ
  generalize hg : (bXY x y).ap ρ = ρ' at ag
  have e0 : ρ'.i 300 = x := by rw [← hg]; rfl
  have e1 : ρ'.i 301 = y := by rw [← hg]; rfl
  rw [X.belL_den ag [keyX] (by kernel_rfl)] at h1 h2
  refine ⟨ρ', ag, ?_, List.forall_mem_cons.2 ⟨⟨h1.1, fun n hp => ?_⟩, List.forall_mem_cons.2 ⟨⟨h2.1, fun n hp => ?_⟩, List.forall_mem_nil _⟩⟩⟩
  · have b : ∀ {p q : Int}, ¬ p < q → decide (p < q) = false := fun h => decide_eq_false h
    refine Facts.ok_cons (b (by simp only [IE.den, e0]; omega)) (Facts.ok_cons (b (by simp only [IE.den, e0]; omega)) (Facts.ok_cons (b (by simp only [IE.den, e1]; omega)) (Facts.ok_cons (b (by simp only [IE.den, e1]; omega)) (Facts.ok_cons ?_ (Facts.ok_nil _)))))
    simp only [BE.den, IE.den, e0, e1]
    rw [Bool.eq_false_iff]
    intro hc
    simp only [Bool.and_eq_true, beq_iff_eq] at hc
    exact hz hc
  · have g := h1.2 n hp
    simp only [X.den, Sc.den, IE.den, BE.den, e0, e1]
    exact g
  · have g := h2.2 n hp
    simp only [X.den, X.denL, Sc.den, IE.den, e0, e1]
    exact g
def ksPc (ρ : Rho) : Prop := ∀ p ∈ ksP, hasBody Try.prog p.1 = true ∧ ∀ n h, CY Try.prog n p.1 (X.denL ρ p.2.1) h (p.2.2.den ρ) []
/-- A run that answers a truth serves what looks like its arguments, where the truth holds. -/
theorem servesB {P : Program} {ρ : Rho} {c : Cfg2} {f : Nat} {args pat : List X} {Φ Ψ : Facts} {t : T X} (hk : Facts.ok ρ Φ) (hc : CfgOk P ρ c.c) (hs : ∀ s ∈ c.sm, SmOk P s) (hr : askF c f pat Ψ = t) (ht : t = .ret (.sc (.b (bt t)))) (hb : (bt t).den ρ = true) (hl : X.likeL Φ args pat = true) (hf : Ψ.all (sees Φ) = true) (n : Nat) (h : Hp) :
    CY P n f (X.denL ρ args) h (.sc (.bool true)) [] := by
  rw [X.likeL_ok hk _ _ hl]
  have g := (askF_ok hc hs (seesAll hk hf) (r := .sc (.b (bt t))) (by rw [hr, ht]; rfl)).2 n h
  have e : X.den ρ (.sc (.b (bt t))) = .sc (.bool true) := congrArg (fun b => AV.sc (.bool b)) hb
  rw [e] at g
  exact g
theorem halves_cy (ρ : Rho) : CY Try.prog 0 4 (X.denL ρ [keyX]) [] (.sc (.bool true)) [] := by
  cases hl : (BE.lt (.lit 200000) (.slen (.var 0))).den ρ with
  | true => exact serves (Facts.ok_cons hl (Facts.ok_nil ρ)) (cfg_ok (List.forall_mem_nil _)) l_able_ok hB_run (by kernel_rfl) (by kernel_rfl) 0 []
  | false =>
    obtain ⟨ρ', ag, hk, hc⟩ := withP ρ hl
    have hl' : (BE.lt (.lit 200000) (.slen (.var 0))).den ρ' = false := by rw [← BE.bel_den ag _ (by kernel_rfl)]; exact hl
    rw [X.belL_den ag [keyX] (by kernel_rfl)]
    exact servesB (Facts.ok_cons hl' hk) (cfgL_ok hc (fun _ _ _ => LpsOk.nil _ _ _ _)) l_able_ok h_run rfl (h_true hk) (by kernel_rfl) (by kernel_rfl) 0 []
theorem points_cy (ρ : Rho) : CY Try.prog 0 3 (X.denL ρ [keyX, iV 1]) [] (.sc (.bool true)) [] := by
  cases hl : (BE.lt (.lit 200000) (.slen (.var 0))).den ρ with
  | true => exact serves (Facts.ok_cons hl (Facts.ok_nil ρ)) (cfg_ok (List.forall_mem_nil _)) l_able_ok pB_run (by kernel_rfl) (by kernel_rfl) 0 []
  | false =>
    obtain ⟨ρ', ag, hk, hc⟩ := withP ρ hl
    have hl' : (BE.lt (.lit 200000) (.slen (.var 0))).den ρ' = false := by rw [← BE.bel_den ag _ (by kernel_rfl)]; exact hl
    rw [X.belL_den ag [keyX, iV 1] (by kernel_rfl)]
    have c := cfgL_ok hc (fun _ _ _ => LpsOk.nil _ _ _ _)
    have h0 := Facts.ok_cons hl' hk
    refine spl (.lt (.var 1) (.lit 1)) h0 (fun h => serves h c l_able_ok p0_run (by kernel_rfl) (by kernel_rfl) 0 []) fun h => ?_
    refine spl (.lt (.lit 3) (.var 1)) h (fun h => serves h c l_able_ok p4_run (by kernel_rfl) (by kernel_rfl) 0 []) fun h => ?_
    refine spl (.lt (.var 1) (.lit 2)) h (fun h => serves h c l_able_ok p1_run (by kernel_rfl) (by kernel_rfl) 0 []) fun h => ?_
    refine spl (.lt (.var 1) (.lit 3)) h (fun h => servesB h c l_able_ok p2_run rfl (p2_true hk) (by kernel_rfl) (by kernel_rfl) 0 []) fun h => ?_
    exact servesB h c l_able_ok p3_run rfl (p3_true hk) (by kernel_rfl) (by kernel_rfl) 0 []
def pointsSh : List Sh := [.flat [.s] false, .flat [.i .i64] false]
theorem points_pats : pats 0 0 pointsSh = [keyX, iV 1] := by kernel_rfl
def halvesSh : List Sh := [.flat [.s] false]
theorem halves_pats : pats 0 0 halvesSh = [keyX] := by kernel_rfl
end Go.Proofs.Ytkaakinodgafnaa
