/- Roster: through any turns a chain stays right: whatever the turns, the call returns true. -/
import Derived.Test.YtjgimdheiflinaaXSL
namespace Go.Proofs.Ytjgimdheiflinaa
open Go Go.Proofs.Aw Go.Proofs.Xw
set_option maxRecDepth 100000
def stE : XS := ⟨stT, [((8, 0), cellV)], 22⟩
noncomputable def stL (n : Nat) : LoopX := ⟨((codeKey stC).getD 0), 0, 30, stS, initS n, [], .ret (.exit 0, stE)⟩
def stF1 : Facts := [(.lt (.var 43) (.lit 0), false), (.lt (.var 43) (.len 1), false)]
def stF2 : Facts := [(.lt (.var 43) (.lit 0), false), (.lt (.var 43) (.len 1), true), (.lt (.var 43) (.lit 5000), false)]
noncomputable def stRun (Φ : Facts) : T (XE × XS) := (codeX (cfg []).ti (callS ⟨cfg [], l_R, [49,45,48,19,25]⟩ 12) (((cfg []).ft 5).elim [] (·.ms)) 0 [] 1000 stC Φ stS).map (sqz (stS.t.map (·.1)))
theorem st_end1 : stRun stF1 = .ret (.exit 0, ⟨stT, [((8, 0), cellV)], 20⟩) := by kernel_rfl
theorem st_end2 : stRun stF2 = .ret (.exit 0, ⟨stT, [((8, 0), cellV)], 22⟩) := by kernel_rfl
theorem endS1 {ρ : Rho} (hk : Facts.ok ρ stF1) : EndL Try.prog Try.f5.ntmps stC 0 stS (.ret (.exit 0, stE)) ρ := by
  have g := endL_of (N := Try.f5.ntmps) mixed tis_ok (callS_ok (ρ := ρ) (c := ⟨cfg [], l_R, [49,45,48,19,25]⟩) (cfg_ok (List.forall_mem_nil _)) l_R_ok 12) (LpsOk.nil _ _ _ _) st_fits hk (by simp) st_end1
  intro E hE hb
  refine AW_mono (fun e σ hq => ?_) (g E hE hb)
  obtain ⟨e', s, h1, h2, h3, h4⟩ := hq
  simp only [T.sel, Option.some.injEq, Prod.mk.injEq] at h2
  obtain ⟨rfl, rfl⟩ := h2
  exact ⟨_, _, h1, rfl, h3, impLe h4 ⟨fun i => LeA.refl _, fun m cs hcs => ⟨cs, hcs, LeC.refl cs⟩, (by decide : 20 ≤ 22)⟩⟩
theorem endS2 {ρ : Rho} (hk : Facts.ok ρ stF2) : EndL Try.prog Try.f5.ntmps stC 0 stS (.ret (.exit 0, stE)) ρ :=
  endL_of (N := Try.f5.ntmps) mixed tis_ok (callS_ok (ρ := ρ) (c := ⟨cfg [], l_R, [49,45,48,19,25]⟩) (cfg_ok (List.forall_mem_nil _)) l_R_ok 12) (LpsOk.nil _ _ _ _) st_fits hk (by simp) st_end2
def rgS (ρ : Rho) : Prop := ∃ Ψ ∈ allS, Facts.ok ρ Ψ
theorem rgS_cases {ρ : Rho} {Q : Prop} (h : rgS ρ) (k1t : Facts.ok ρ (psiS 1 true) → Q) (k1f : Facts.ok ρ (psiS 1 false) → Q) (k2t : Facts.ok ρ (psiS 2 true) → Q) (k2f : Facts.ok ρ (psiS 2 false) → Q) (k3t : Facts.ok ρ (psiS 3 true) → Q) (k3f : Facts.ok ρ (psiS 3 false) → Q) (k4f : Facts.ok ρ (psiS 4 false) → Q) : Q := by
  obtain ⟨Ψ, hm, hk⟩ := h
  simp only [allS, List.mem_cons, List.not_mem_nil, or_false] at hm
  rcases hm with rfl | rfl | rfl | rfl | rfl | rfl | rfl
  · exact k1t hk
  · exact k1f hk
  · exact k2t hk
  · exact k2f hk
  · exact k3t hk
  · exact k3f hk
  · exact k4f hk
theorem rgS_cnt {ρ : Rho} (h : rgS ρ) : Facts.ok ρ [(.lt (.var 43) (.lit 0), false), (.lt (.lit 5000) (.var 43), false)] :=
  rgS_cases h (fun h => seesAll h (by kernel_rfl)) (fun h => seesAll h (by kernel_rfl)) (fun h => seesAll h (by kernel_rfl)) (fun h => seesAll h (by kernel_rfl)) (fun h => seesAll h (by kernel_rfl)) (fun h => seesAll h (by kernel_rfl)) (fun h => seesAll h (by kernel_rfl))
theorem goS {ρ : Rho} (h : rgS ρ) (h1 : (BE.lt (.var 43) (.len 1)).den ρ = true) (h2 : (BE.lt (.var 43) (.lit 5000)).den ρ = true) : GoL Try.prog Try.f5.ntmps stC 0 30 (initS 1) stS 43 allS ρ := by
  have h0 := (rgS_cnt h) _ List.mem_cons_self
  have add : ∀ {Φ : Facts}, Facts.ok ρ Φ → Facts.ok ρ (inS ++ Φ) := fun hk => Facts.ok_cons h0 (Facts.ok_cons h1 (Facts.ok_cons h2 hk))
  exact rgS_cases h (fun h => round_1t (add h)) (fun h => round_1f (add h)) (fun h => round_2t (add h)) (fun h => round_2f (add h)) (fun h => round_3t (add h)) (fun h => round_3f (add h)) (fun h => round_4f (add h))
theorem Off.keys {ι ι' : Bind} (h : ι.same ι' = true) {ρ ρ' : Rho} (k : Off ι ρ ρ') : Off ι' ρ ρ' := by
  simp only [Bind.same, Bool.and_eq_true] at h
  obtain ⟨s1, s2, s3, s4⟩ := h
  exact ⟨fun j hj => k.i j ((lassoc_same s1).2 hj), fun j hj => k.b j ((lassoc_same s2).2 hj), fun j hj => k.s j ((lassoc_same s3).2 hj), fun j hj => k.r j ((lassoc_same s4).2 hj)⟩
theorem loopS (n : Nat) (hi : (initS n).bel 30 = true) (hg : (initS n).ge 30 = true) (hs : (initS 1).same (initS n) = true) {Ψ : Facts} (hm : Ψ ∈ allS) (h0 : Ψ.all (seesP (initS n) []) = true) (ρ : Rho) : ∃ ρf, Agree 30 ρ ρf ∧ rgS ρf ∧ LoopOk Try.prog ρf Try.f5.ntmps stC (stL n) := by
  refine loopOk_path (L := stL n) hi hg rgS (fun ρ => (5000 - ρ.i 43).toNat) (fun ρ hr => ?_) ⟨Ψ, hm, seesP_ok (Facts.ok_nil ρ) h0⟩
  have hc := rgS_cnt hr
  have c0 := of_decide_eq_false (hc _ List.mem_cons_self)
  cases h1 : (BE.lt (.var 43) (.len 1)).den ρ with
  | false => exact .inl (endS1 (Facts.ok_cons (hc _ List.mem_cons_self) (Facts.ok_cons h1 (Facts.ok_nil ρ))))
  | true =>
    cases h2 : (BE.lt (.var 43) (.lit 5000)).den ρ with
    | false => exact .inl (endS2 (Facts.ok_cons (hc _ List.mem_cons_self) (Facts.ok_cons h1 (Facts.ok_cons h2 (Facts.ok_nil ρ)))))
    | true =>
      obtain ⟨ρ', g1, g2, g3, g4, g5⟩ := goS hr h1 h2
      have c1 : ρ.i 43 < 5000 := of_decide_eq_true h2
      have c0 : ¬ ρ.i 43 < 0 := c0
      rw [wrap_id _ (by omega) (by omega)] at g3
      exact .inr ⟨ρ', g1, g2, by show (5000 - ρ'.i 43).toNat < (5000 - ρ.i 43).toNat; omega, Off.keys hs g4, g5⟩
def ksF : List (Nat × List X × X) := [(17, [.agg cellV], .sc (.b (.lit true)))]
theorem ksF_ok {ρ : Rho} (h : rgS ρ) : ∀ p ∈ ksF, hasBody Try.prog p.1 = true ∧ ∀ k h, CY Try.prog k p.1 (X.denL ρ p.2.1) h (p.2.2.den ρ) [] := by
  refine List.forall_mem_cons.2 ⟨?_, List.forall_mem_nil _⟩
  have one : ∀ {Φ : Facts} {n : Nat} {j : Bool}, Facts.ok ρ Φ → X.likeL Φ [.agg cellV] [.agg (cellS' n j)] = true → seesR Φ [.agg (cellS' n j)] = true → hasBody Try.prog 17 = true ∧ ∀ k h, CY Try.prog k 17 (X.denL ρ [.agg cellV]) h ((X.sc (.b (.lit true))).den ρ) [] := fun hk hl hr => by
    rw [X.likeL_ok hk _ _ hl]
    exact rightS hk hr
  exact rgS_cases h (fun h => one (n := 1) (j := true) h (by kernel_rfl) (by kernel_rfl)) (fun h => one (n := 1) (j := false) h (by kernel_rfl) (by kernel_rfl)) (fun h => one (n := 2) (j := true) h (by kernel_rfl) (by kernel_rfl)) (fun h => one (n := 2) (j := false) h (by kernel_rfl) (by kernel_rfl)) (fun h => one (n := 3) (j := true) h (by kernel_rfl) (by kernel_rfl)) (fun h => one (n := 3) (j := false) h (by kernel_rfl) (by kernel_rfl)) (fun h => one (n := 4) (j := false) h (by kernel_rfl) (by kernel_rfl))
noncomputable def lpS (n f : Nat) : List LoopX := if Nat.beq f 5 = true then [stL n] else []
theorem lpS_o (n : Nat) : othersB [stL n] [0] 0 (loopsOf (Try.f5.body.getD .skip)) = true := by kernel_rfl
theorem lpS_ok {ρ : Rho} {n : Nat} (h : LoopOk Try.prog ρ Try.f5.ntmps stC (stL n)) : ∀ f i, btLook f ftsT = some i → LpsOk Try.prog ρ i.ntmps (lpS n f) i.body := by
  intro f i hi
  have hi := fts_ok (f, i) (bt_of_mem _ _ (btLook_mem hi))
  unfold lpS
  split
  · rename_i hf
    have hf := Nat.eq_of_beq_eq_true hf
    subst hf
    exact lps_row hi Try.func5 (lps_idx [0] (lpS_o n) (List.forall_mem_cons.2 ⟨look_one (c := stC) (by kernel_rfl) h, List.forall_mem_nil _⟩))
  · exact LpsOk.nil _ _ _ _
theorem stays1_run : askF ⟨cfgL ksF (lpS 1), l_R, [49,45,48,19,25]⟩ 5 [iC 1, turnsX] [] = .ret (.sc (.b (.lit true))) := by kernel_rfl
theorem stays_1 {ρ : Rho} (h : (BE.eq (.var 0) (.lit 1)).den ρ = true) : CY Try.prog 0 5 (X.denL ρ [iV 0, turnsX]) [] (.sc (.bool true)) [] := by
  obtain ⟨ρf, g1, g2, g3⟩ := loopS 1 (by kernel_rfl) (by kernel_rfl) (by kernel_rfl) (Ψ := psiS 1 false) (by simp [allS]) (by kernel_rfl) ρ
  rw [X.belL_den g1 [iV 0, turnsX] (by kernel_rfl)]
  exact serves (Facts.bel_ok g1 (by kernel_rfl) (Facts.ok_cons h (Facts.ok_nil ρ))) (cfgL_ok (ksF_ok g2) (lpS_ok g3)) l_R_ok stays1_run (by kernel_rfl) (by kernel_rfl) 0 []
theorem stays2_run : askF ⟨cfgL ksF (lpS 2), l_R, [49,45,48,19,25]⟩ 5 [iC 2, turnsX] [] = .ret (.sc (.b (.lit true))) := by kernel_rfl
theorem stays_2 {ρ : Rho} (h : (BE.eq (.var 0) (.lit 2)).den ρ = true) : CY Try.prog 0 5 (X.denL ρ [iV 0, turnsX]) [] (.sc (.bool true)) [] := by
  obtain ⟨ρf, g1, g2, g3⟩ := loopS 2 (by kernel_rfl) (by kernel_rfl) (by kernel_rfl) (Ψ := psiS 2 false) (by simp [allS]) (by kernel_rfl) ρ
  rw [X.belL_den g1 [iV 0, turnsX] (by kernel_rfl)]
  exact serves (Facts.bel_ok g1 (by kernel_rfl) (Facts.ok_cons h (Facts.ok_nil ρ))) (cfgL_ok (ksF_ok g2) (lpS_ok g3)) l_R_ok stays2_run (by kernel_rfl) (by kernel_rfl) 0 []
theorem stays3_run : askF ⟨cfgL ksF (lpS 3), l_R, [49,45,48,19,25]⟩ 5 [iC 3, turnsX] [] = .ret (.sc (.b (.lit true))) := by kernel_rfl
theorem stays_3 {ρ : Rho} (h : (BE.eq (.var 0) (.lit 3)).den ρ = true) : CY Try.prog 0 5 (X.denL ρ [iV 0, turnsX]) [] (.sc (.bool true)) [] := by
  obtain ⟨ρf, g1, g2, g3⟩ := loopS 3 (by kernel_rfl) (by kernel_rfl) (by kernel_rfl) (Ψ := psiS 3 false) (by simp [allS]) (by kernel_rfl) ρ
  rw [X.belL_den g1 [iV 0, turnsX] (by kernel_rfl)]
  exact serves (Facts.bel_ok g1 (by kernel_rfl) (Facts.ok_cons h (Facts.ok_nil ρ))) (cfgL_ok (ksF_ok g2) (lpS_ok g3)) l_R_ok stays3_run (by kernel_rfl) (by kernel_rfl) 0 []
theorem stays4_run : askF ⟨cfgL ksF (lpS 4), l_R, [49,45,48,19,25]⟩ 5 [iC 4, turnsX] [] = .ret (.sc (.b (.lit true))) := by kernel_rfl
theorem stays_4 {ρ : Rho} (h : (BE.eq (.var 0) (.lit 4)).den ρ = true) : CY Try.prog 0 5 (X.denL ρ [iV 0, turnsX]) [] (.sc (.bool true)) [] := by
  obtain ⟨ρf, g1, g2, g3⟩ := loopS 4 (by kernel_rfl) (by kernel_rfl) (by kernel_rfl) (Ψ := psiS 4 false) (by simp [allS]) (by kernel_rfl) ρ
  rw [X.belL_den g1 [iV 0, turnsX] (by kernel_rfl)]
  exact serves (Facts.bel_ok g1 (by kernel_rfl) (Facts.ok_cons h (Facts.ok_nil ρ))) (cfgL_ok (ksF_ok g2) (lpS_ok g3)) l_R_ok stays4_run (by kernel_rfl) (by kernel_rfl) 0 []
def f0S : Facts := [(.lt (.var 0) (.lit 1), true)]
def f5S : Facts := [(.lt (.lit 4) (.var 0), true)]
theorem stays0_run : askF ⟨cfg [], l_R, [49,45,48,19,25]⟩ 5 [iV 0, turnsX] f0S = .ret (.sc (.b (.lit true))) := by kernel_rfl
theorem stays5_run : askF ⟨cfg [], l_R, [49,45,48,19,25]⟩ 5 [iV 0, turnsX] f5S = .ret (.sc (.b (.lt (.lit 4) (.var 0)))) := by kernel_rfl
theorem stays_5 {ρ : Rho} (h : (BE.lt (.lit 4) (.var 0)).den ρ = true) : CY Try.prog 0 5 (X.denL ρ [iV 0, turnsX]) [] (.sc (.bool true)) [] := by
  have g := (askF_ok (c := ⟨cfg [], l_R, [49,45,48,19,25]⟩) (cfg_ok (List.forall_mem_nil _)) l_R_ok (Facts.ok_cons h (Facts.ok_nil ρ)) (r := .sc (.b (.lt (.lit 4) (.var 0)))) (by rw [show askF ⟨cfg [], l_R, [49,45,48,19,25]⟩ 5 [iV 0, turnsX] [(.lt (.lit 4) (.var 0), true)] = _ from stays5_run]; rfl)).2 0 []
  have e : X.den ρ (.sc (.b (.lt (.lit 4) (.var 0)))) = .sc (.bool true) := congrArg (fun b => AV.sc (.bool b)) h
  rw [e] at g
  exact g
theorem stays_cy (ρ : Rho) : CY Try.prog 0 5 (X.denL ρ [iV 0, turnsX]) [] (.sc (.bool true)) [] :=
  spl (.lt (.var 0) (.lit 1)) (Facts.ok_nil ρ) (fun h => serves h (cfg_ok (List.forall_mem_nil _)) l_R_ok stays0_run (by kernel_rfl) (by kernel_rfl) 0 []) fun h =>
  spl (.lt (.lit 4) (.var 0)) h (fun h => stays_5 (sees_ok h (p := (.lt (.lit 4) (.var 0), true)) (by kernel_rfl))) fun h =>
  spl (.lt (.var 0) (.lit 2)) h (fun h => stays_1 (sees_ok h (p := (.eq (.var 0) (.lit 1), true)) (by kernel_rfl))) fun h =>
  spl (.lt (.var 0) (.lit 3)) h (fun h => stays_2 (sees_ok h (p := (.eq (.var 0) (.lit 2), true)) (by kernel_rfl))) fun h =>
  spl (.lt (.var 0) (.lit 4)) h (fun h => stays_3 (sees_ok h (p := (.eq (.var 0) (.lit 3), true)) (by kernel_rfl))) fun h =>
  stays_4 (sees_ok h (p := (.eq (.var 0) (.lit 4), true)) (by kernel_rfl))
def staysSh : List Sh := [.flat [.i .i64] false, .sl [.i .i64, .i .i64]]
theorem stays_pats : pats 0 0 staysSh = [iV 0, turnsX] := by kernel_rfl
end Go.Proofs.Ytjgimdheiflinaa
