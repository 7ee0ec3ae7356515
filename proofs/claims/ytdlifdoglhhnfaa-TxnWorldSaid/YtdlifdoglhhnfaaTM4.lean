/- Parts of the proof, one behind the other. -/
import Derived.Test.YtdlifdoglhhnfaaTM3
import Derived.Test.YtdlifdoglhhnfaaTM1
import Derived.Test.YtdlifdoglhhnfaaXwM3
import Init
/- Txn: a contract of right. -/
namespace Go.Proofs.Ytdlifdoglhhnfaa
open Go Go.Proofs.Aw Go.Proofs.Xw Go.Proofs.Sr
set_option maxRecDepth 100000
theorem ky_den (ρ : Rho) : X.den ρ kyR = roV (ρ.len 2) (stR ρ 2) := by
  show AV.ro 1 (rowsD ρ (.len 2) (.var 2 [.s])) false = _
  unfold roV rowsD
  simp only [IE.den, Int.toNat_natCast]
  congr 1
/-- A round of right: the keys ahead are fit, and all different. -/
def fitK (g : Nat → ByteArray) (i : Nat) : Prop := (1 ≤ (g i).size ∧ (g i).size ≤ 16) ∧ ∀ j, j < i → g j ≠ g i
def RgR (n : Nat) (g : Nat → ByteArray) (ρ : Rho) : Prop := ρ.len 2 = n ∧ stR ρ 2 = g ∧ ∃ i : Nat, ρ.i 440 = i ∧ i ≤ n ∧ ∀ j, j < i → fitK g j
theorem sl_den {ρ : Rho} {e : IE} {n : Nat} (h : e.den ρ = n) : (TE.cl 2 0 e).den ρ = stR ρ 2 n := by
  show ρ.cs 2 0 (e.den ρ).toNat = _
  rw [h, Int.toNat_natCast]; rfl
theorem rg_ok (ρ : Rho) (n : Nat) (g : Nat → ByteArray) (hn : n < 4611686018427387904) (hl : ρ.len 2 = n) (hg : stR ρ 2 = g) : ∃ ρf, Agree 440 ρ ρf ∧ (ρf.b 442 = true ↔ ¬ ∀ j, j < n → fitK g j) ∧ LoopOk Try.prog ρf Try.f32.ntmps rg_c rg := by
  suffices hh : ∃ (_ : Nat) (ρf : Rho), Agree rg.n ρ ρf ∧ (ρf.b 442 = true ↔ ¬ ∀ j, j < n → fitK g j) ∧ LoopOk Try.prog ρf Try.f32.ntmps rg_c rg by
    obtain ⟨_, ρf, h1, h2, h3⟩ := hh
    exact ⟨ρf, h1, h2, h3⟩
  have a0 := Bind.agree rg_I0g ρ
  refine loopOk_famE (L := rg) (N := Try.f32.ntmps) (body := rg_c) (P := Try.prog) rfl rg_Eb (fun _ => rg_S0) (fun _ => RgR n g) (fun _ ρ' => ρ'.b 442 = true ↔ ¬ ∀ j, j < n → fitK g j) (fun _ ρ' => (n - ρ'.i 440).toNat) ?_
    ⟨0, rg_I0.ap ρ, a0, ⟨by rw [← a0.len 2 (by decide)]; exact hl, by rw [agree_st a0 (by decide)]; exact hg, 0, ap_i rg_I0_440, Nat.zero_le _, fun j hj => absurd hj (by omega)⟩, fun E _ hE => okS_imp hE rg_I0ok ρ⟩
  rintro _ ρ' ⟨h1, h2, i, hi, hin, hf⟩
  have mk : ∀ (b c : Bool), ∃ ρ1 : Rho, Agree 440 ρ' ρ1 ∧ ρ1.i = ρ'.i ∧ ρ1.b 441 = b ∧ ρ1.b 442 = c ∧ rg_S0.den ρ' = rg_S0.den ρ1 := fun b c => by
    let ρ1 : Rho := { ρ' with b := fun k => if k = 441 then b else if k = 442 then c else ρ'.b k }
    have ag : Agree 441 ρ' ρ1 := ⟨fun _ _ => rfl, fun k hk => by show _ = if k = 441 then _ else _; rw [if_neg (by omega), if_neg (by omega)], fun _ _ => rfl, fun _ _ => rfl, fun _ _ => rfl, fun _ _ => rfl, fun _ _ => rfl⟩
    exact ⟨ρ1, ag.le (by decide), rfl, rfl, rfl, XS.bel_den ag rg_S0 (by kernel_rfl)⟩
  have lt : ∀ {ρ1 : Rho}, Agree 440 ρ' ρ1 → ρ1.i = ρ'.i → (inI.den ρ1 = decide (i < n)) := fun {ρ1} ag e => by
    show decide (ρ1.i 440 < (ρ1.len 2 : Int)) = _
    rw [e, hi, ← ag.len 2 (by decide), h1]
    exact decide_eq_decide.2 (by omega)
  have sz : ∀ {ρ1 : Rho}, Agree 440 ρ' ρ1 → ρ1.i = ρ'.i → szI.den ρ1 = (g i).size := fun {ρ1} ag e => by
    show (((TE.cl 2 0 (.var 440)).den ρ1).size : Int) = _
    rw [sl_den (n := i) (by show ρ1.i 440 = _; rw [e, hi]), agree_st ag (by decide), h2]
  have f0 : ∀ {ρ1 : Rho}, ρ1.i = ρ'.i → Facts.ok ρ1 rgI := fun {ρ1} e => Facts.ok_cons (by rw [dlt_f]; show 0 ≤ ρ1.i 440; rw [e, hi]; omega) (Facts.ok_nil _)
  by_cases c : i < n
  · by_cases z1 : (g i).size < 1
    · obtain ⟨ρ1, ag, e, e1, e2, e3⟩ := mk false true
      refine .inl ⟨ρ1, ag, ⟨fun _ h => absurd (h i c).1.1 (by omega), fun _ => e2⟩, e3, ?_⟩
      exact rg_A_end (cN_ok _) (LpsOk.nil _ _ _ _) (Facts.ok_cons (by rw [lt ag e]; exact decide_eq_true c) (Facts.ok_cons (by rw [dlt_t, sz ag e]; simp only [IE.den]; omega) (f0 e))) (by unfold rg_out; rw [T.sel, if_pos (show (BE.var 442).den ρ1 = true from e2)]; rfl)
    · by_cases z2 : 16 < (g i).size
      · obtain ⟨ρ1, ag, e, e1, e2, e3⟩ := mk false true
        refine .inl ⟨ρ1, ag, ⟨fun _ h => absurd (h i c).1.2 (by omega), fun _ => e2⟩, e3, ?_⟩
        exact rg_B_end (cN_ok _) (LpsOk.nil _ _ _ _) (Facts.ok_cons (by rw [lt ag e]; exact decide_eq_true c) (Facts.ok_cons (by rw [dlt_f, sz ag e]; simp only [IE.den]; omega) (Facts.ok_cons (by rw [dlt_t, sz ag e]; simp only [IE.den]; omega) (f0 e)))) (by unfold rg_out; rw [T.sel, if_pos (show (BE.var 442).den ρ1 = true from e2)]; rfl)
      · obtain ⟨b, hb, hcy⟩ := ct_cy i g (g i) (by omega)
        obtain ⟨ρ1, ag, e, e1, e2, e3⟩ := mk b b
        have cok : CfgOk Try.prog ρ1 (cfgL ksR (fun _ => [])) := cK_ok (List.forall_mem_cons.2 ⟨⟨hcy.1, fun m hp => by
          show CY Try.prog m 53 (X.denL ρ1 [.rl 1 (.var 440) (.var 2 [.s]) false, kyI]) hp (X.den ρ1 (.sc (.b (.var 441)))) []
          have q1 : X.den ρ1 (.rl 1 (.var 440) (.var 2 [.s]) false) = roV i g := by
            show AV.ro 1 (rowsD ρ1 (.var 440) (.var 2 [.s])) false = _
            unfold roV rowsD
            simp only [IE.den, e, hi, Int.toNat_natCast]
            rw [← h2, ← agree_st ag (by decide)]
            congr 1
          have q2 : X.den ρ1 kyI = .sc (.string (g i)) := by
            simp only [kyI, X.den, Sc.den]
            rw [sl_den (n := i) (by show ρ1.i 440 = _; rw [e, hi]), agree_st ag (by decide), h2]
          simp only [X.denL]
          rw [q1, q2, show X.den ρ1 (.sc (.b (.var 441))) = .sc (.bool b) from by simp only [X.den, Sc.den, BE.den, e1]]
          exact hcy.2 m hp⟩, List.forall_mem_nil _⟩)
        have fs : Facts.ok ρ1 ((.lt szI (.lit 1), false) :: (.lt (.lit 16) szI, false) :: (.var 441, b) :: rgI) :=
          Facts.ok_cons (by rw [dlt_f, sz ag e]; simp only [IE.den]; omega) (Facts.ok_cons (by rw [dlt_f, sz ag e]; simp only [IE.den]; omega) (Facts.ok_cons e1 (f0 e)))
        cases b with
        | true =>
          obtain ⟨j, hj, hji⟩ := hb.1 rfl
          refine .inl ⟨ρ1, ag, ⟨fun _ h => (h i c).2 j hj hji, fun _ => e2⟩, e3, ?_⟩
          exact rg_D_end cok (LpsOk.nil _ _ _ _) (Facts.ok_cons (by rw [lt ag e]; exact decide_eq_true c) fs) (by unfold rg_out; rw [T.sel, if_pos (show (BE.var 442).den ρ1 = true from e2)]; rfl)
        | false =>
          refine .inr ⟨0, rg_G_b.ap ρ1, rg_G_step e3 cok (LpsOk.nil _ _ _ _) (Facts.ok_cons (by rw [lt ag e]; exact decide_eq_true c) fs), ?_⟩
          have ag2 : Agree 440 ρ' (rg_G_b.ap ρ1) := ag.trans (Bind.agree rg_G_g _)
          have e4 : (rg_G_b.ap ρ1).i 440 = ((i + 1 : Nat) : Int) := (ap_i rg_G_440).trans (by
            show IOp.den .add .i64 (ρ1.i 440) 1 = _
            rw [e, hi]; simp only [IOp.den]; rw [wrap_id _ (by omega) (by omega)]; omega)
          refine ⟨⟨by rw [← ag2.len 2 (by decide)]; exact h1, by rw [agree_st ag2 (by decide)]; exact h2, i + 1, e4, c, fun j hj => ?_⟩, ?_, ag2⟩
          · by_cases q : j = i
            · subst q
              exact ⟨⟨by omega, by omega⟩, fun k hk hkj => absurd (hb.2 ⟨k, hk, hkj⟩) (by simp)⟩
            · exact hf j (by omega)
          · show (_ : Int).toNat < (_ : Int).toNat
            rw [e4, hi]; omega
  · obtain ⟨ρ1, ag, e, e1, e2, e3⟩ := mk false false
    refine .inl ⟨ρ1, ag, ⟨fun h => (by rw [e2] at h; cases h), fun h => absurd (fun j hj => hf j (by omega)) h⟩, e3, ?_⟩
    exact rg_X_end (cN_ok _) (LpsOk.nil _ _ _ _) (Facts.ok_cons (by rw [lt ag e]; exact decide_eq_false c) (f0 e)) (by unfold rg_out; rw [T.sel, if_neg (by rw [show (BE.var 442).den ρ1 = ρ1.b 442 from rfl, e2]; decide)]; rfl)
theorem right_cy (ρ : Rho) (n : Nat) (g : Nat → ByteArray) (hn : n < 4611686018427387904) (hl : ρ.len 2 = n) (hg : stR ρ 2 = g) : ∃ b : Bool, (b = true ↔ (∀ j, j < n → fitK g j) ∧ 1 ≤ n ∧ n ≤ 6) ∧ hasBody Try.prog 32 = true ∧ ∀ k hp, CY Try.prog k 32 [roV n g] hp (.sc (.bool b)) [] := by
  obtain ⟨ρ1, ag, hb, L⟩ := rg_ok ρ n g hn hl hg
  have l1 : ρ1.len 2 = n := by rw [← ag.len 2 (by decide)]; exact hl
  have q := askF_ok (c := ⟨cfgL [] lpRg, l_able, []⟩) (f := 32) (args := [kyR]) (Φ := []) (cfgL_ok (List.forall_mem_nil _) (lpRg_ok L)) l_able_ok (Facts.ok_nil ρ1) (by rw [rgR_run]; exact rfl)
  rw [← X.belL_den ag [kyR] (by kernel_rfl)] at q
  rw [show X.denL ρ [kyR] = [roV n g] from by simp only [X.denL, ky_den, hl, hg]] at q
  refine ⟨_, ?_, q⟩
  show (BE.and (.not (.var 442)) (.and (.not (.lt (.len 2) (.lit 1))) (.not (.lt (.lit 6) (.len 2))))).den ρ1 = true ↔ _
  rw [dand_t, dand_t, dnot_t, dnot_t, dnot_t, dlt_f, dlt_f]
  simp only [IE.den, l1]
  have hb' : (BE.var 442).den ρ1 = false ↔ ∀ j, j < n → fitK g j := by
    show ρ1.b 442 = false ↔ _
    constructor
    · intro h
      exact Classical.byContradiction fun k => by rw [hb.2 k] at h; cases h
    · intro h
      exact Bool.eq_false_iff.2 fun k => hb.1 k h
  rw [hb']
  constructor
  · rintro ⟨a, b, c⟩; exact ⟨a, by omega, by omega⟩
  · rintro ⟨a, b, c⟩; exact ⟨a, by omega, by omega⟩
end Go.Proofs.Ytdlifdoglhhnfaa

/- What functions answer, run over letters, where something is known; each shown by running it. -/
namespace Go.Proofs.Ytdlifdoglhhnfaa
open Go Go.Proofs.Aw Go.Proofs.Xw
def enC (l : Nat) (i : IE) : List X := (List.range 6).map (fun k => .sc (.i .i64 (.cl l (2 + k) i))) ++ [.sc (.s (.cl l 8 i)), .sc (.s (.cl l 9 i)), .sc (.b (.cl l 10 i))] ++ (List.range 11).map (fun k => .sc (.i .i64 (.cl l (11 + k) i)))

abbrev zTM4_0 : BE := .and (.not (.lt (.var 552) (.lit 0))) (.lt (.var 552) (.lit 3))
abbrev zTM4_1 : BE := .eq (.var 552) (.lit 0)
abbrev zTM4_2 : BE := .eq (.var 552) (.lit 1)
abbrev zTM4_3 : IE := .cl 3 2 (.var 500)
abbrev zTM4_4 : IE := .cl 3 3 (.var 500)
abbrev zTM4_5 : BE := .and (.and (.and (.not (.lt zTM4_3 (.lit 0))) (.lt zTM4_3 (.lit 3))) (.not (.lt zTM4_4 (.lit 0)))) (.lt zTM4_4 (.lit 3))
abbrev zTM4_6 : BE := .eq zTM4_3 (.lit 0)
abbrev zTM4_7 : BE := .eq zTM4_4 (.lit 0)
abbrev zTM4_8 : BE := .and zTM4_6 zTM4_7
abbrev zTM4_9 : IE := .op .max .i64 (.lit 0) (.cl 3 11 (.var 500))
abbrev zTM4_10 : BE := .eq zTM4_4 (.lit 1)
abbrev zTM4_11 : BE := .and zTM4_6 zTM4_10
abbrev zTM4_12 : IE := .op .max .i64 (.lit 0) (.cl 3 12 (.var 500))
abbrev zTM4_13 : IE := .op .max .i64 (.lit 0) (.cl 3 13 (.var 500))
abbrev zTM4_14 : BE := .eq zTM4_3 (.lit 1)
abbrev zTM4_15 : BE := .and zTM4_14 zTM4_7
abbrev zTM4_16 : IE := .op .max .i64 (.lit 0) (.cl 3 14 (.var 500))
abbrev zTM4_17 : BE := .and zTM4_14 zTM4_10
abbrev zTM4_18 : IE := .op .max .i64 (.lit 0) (.cl 3 15 (.var 500))
abbrev zTM4_19 : IE := .op .max .i64 (.lit 0) (.cl 3 16 (.var 500))
abbrev zTM4_20 : IE := .op .max .i64 (.lit 0) (.cl 3 17 (.var 500))
abbrev zTM4_21 : IE := .op .max .i64 (.lit 0) (.cl 3 18 (.var 500))
abbrev zTM4_22 : IE := .op .max .i64 (.lit 0) (.cl 3 19 (.var 500))
abbrev zTM4_23 : IE := .op .max .i64 (.ite zTM4_8 zTM4_9 (.ite zTM4_11 zTM4_12 (.ite zTM4_6 zTM4_13 (.ite zTM4_15 zTM4_16 (.ite zTM4_17 zTM4_18 (.ite zTM4_14 zTM4_19 (.ite zTM4_7 zTM4_20 (.ite zTM4_10 zTM4_21 zTM4_22)))))))) (.cl 3 4 (.var 500))
abbrev zTM4_24 : IE := .lit 1099511627776
def ptR : T X := (.ret (.agg [(.sc (.i .i64 (.ite zTM4_0 (.ite zTM4_1 (.var 532) (.ite zTM4_2 (.var 533) (.var 534))) (.lit 0)))), (.sc (.i .i64 (.ite zTM4_0 (.ite zTM4_1 (.var 535) (.ite zTM4_2 (.var 536) (.var 537))) (.lit 0)))), (.sc (.i .i64 (.ite zTM4_0 (.ite zTM4_1 (.var 538) (.ite zTM4_2 (.var 539) (.var 540))) (.lit 0))))]))
theorem ptR_run : askF ⟨cfgL [] (fun _ => []), l_able, []⟩ 19 ([.agg (vi 532 9), iV 552]) [] = ptR := by kernel_rfl
def psR : T X := (.ret (.agg [(.sc (.i .i64 (.ite zTM4_5 (.ite zTM4_8 zTM4_23 zTM4_9) zTM4_9))), (.sc (.i .i64 (.ite zTM4_5 (.ite zTM4_8 zTM4_12 (.ite zTM4_11 zTM4_23 zTM4_12)) zTM4_12))), (.sc (.i .i64 (.ite zTM4_5 (.ite zTM4_8 zTM4_13 (.ite zTM4_11 zTM4_13 (.ite zTM4_6 zTM4_23 zTM4_13))) zTM4_13))), (.sc (.i .i64 (.ite zTM4_5 (.ite zTM4_8 zTM4_16 (.ite zTM4_11 zTM4_16 (.ite zTM4_6 zTM4_16 (.ite zTM4_15 zTM4_23 zTM4_16)))) zTM4_16))), (.sc (.i .i64 (.ite zTM4_5 (.ite zTM4_8 zTM4_18 (.ite zTM4_11 zTM4_18 (.ite zTM4_6 zTM4_18 (.ite zTM4_15 zTM4_18 (.ite zTM4_17 zTM4_23 zTM4_18))))) zTM4_18))), (.sc (.i .i64 (.ite zTM4_5 (.ite zTM4_8 zTM4_19 (.ite zTM4_11 zTM4_19 (.ite zTM4_6 zTM4_19 (.ite zTM4_15 zTM4_19 (.ite zTM4_17 zTM4_19 (.ite zTM4_14 zTM4_23 zTM4_19)))))) zTM4_19))), (.sc (.i .i64 (.ite zTM4_5 (.ite zTM4_8 zTM4_20 (.ite zTM4_11 zTM4_20 (.ite zTM4_6 zTM4_20 (.ite zTM4_15 zTM4_20 (.ite zTM4_17 zTM4_20 (.ite zTM4_14 zTM4_20 (.ite zTM4_7 zTM4_23 zTM4_20))))))) zTM4_20))), (.sc (.i .i64 (.ite zTM4_5 (.ite zTM4_8 zTM4_21 (.ite zTM4_11 zTM4_21 (.ite zTM4_6 zTM4_21 (.ite zTM4_15 zTM4_21 (.ite zTM4_17 zTM4_21 (.ite zTM4_14 zTM4_21 (.ite zTM4_7 zTM4_21 (.ite zTM4_10 zTM4_23 zTM4_21)))))))) zTM4_21))), (.sc (.i .i64 (.ite zTM4_5 (.ite zTM4_8 zTM4_22 (.ite zTM4_11 zTM4_22 (.ite zTM4_6 zTM4_22 (.ite zTM4_15 zTM4_22 (.ite zTM4_17 zTM4_22 (.ite zTM4_14 zTM4_22 (.ite zTM4_7 zTM4_22 (.ite zTM4_10 zTM4_22 zTM4_23)))))))) zTM4_22)))]))
theorem psR_run : askF ⟨cfgL [] (fun _ => []), l_able, []⟩ 16 ([.ro 20 [enC 3 (.var 500)] true]) [] = psR := by kernel_rfl
def cvR : T X := (.ret (.sc (.b (.not (.or (.or (.lt (.var 510) (.var 580)) (.or (.lt (.var 511) (.var 581)) (.lt (.var 512) (.var 582)))) (.or (.or (.lt (.var 513) (.var 583)) (.or (.lt (.var 514) (.var 584)) (.lt (.var 515) (.var 585)))) (.or (.lt (.var 516) (.var 586)) (.or (.lt (.var 517) (.var 587)) (.lt (.var 518) (.var 588))))))))))
theorem cvR_run : askF ⟨cfgL [] (fun _ => []), l_able, []⟩ 15 ([.agg (vi 510 9), .agg (vi 580 9)]) [] = cvR := by kernel_rfl
def r31 : T X := (.ret (.sc (.b (.not (.or (.or (.or (.lt (.var 0) (.lit 0)) (.lt zTM4_24 (.var 0))) (.or (.or (.lt (.var 1) (.lit 0)) (.lt zTM4_24 (.var 1))) (.or (.lt (.var 2) (.lit 0)) (.lt zTM4_24 (.var 2))))) (.or (.or (.or (.lt (.var 3) (.lit 0)) (.lt zTM4_24 (.var 3))) (.or (.or (.lt (.var 4) (.lit 0)) (.lt zTM4_24 (.var 4))) (.or (.lt (.var 5) (.lit 0)) (.lt zTM4_24 (.var 5))))) (.or (.or (.lt (.var 6) (.lit 0)) (.lt zTM4_24 (.var 6))) (.or (.or (.lt (.var 7) (.lit 0)) (.lt zTM4_24 (.var 7))) (.or (.lt (.var 8) (.lit 0)) (.lt zTM4_24 (.var 8)))))))))))
theorem r31_run : askF ⟨cfgL [] (fun _ => []), l_able, []⟩ 31 ([.agg (vi 0 9)]) [] = r31 := by kernel_rfl
end Go.Proofs.Ytdlifdoglhhnfaa

/- Txn: lemmas that the laws share; what Part, Past, Covers, Right answer. -/
namespace Go.Proofs.Ytdlifdoglhhnfaa
open Go Go.Proofs.Aw Go.Proofs.Xw Go.Proofs.Sr
set_option maxRecDepth 100000
theorem ap_ci {β : Bind} {ρ : Rho} {l k : Nat} {m : IE} {r : RL} (h : lassoc l β.r = some (m, r)) (j : Nat) : (β.ap ρ).ci l k j = cellI (r.row ρ j)[k]? := by simp only [Bind.ap, h]
theorem row_i (ρ : Rho) (l j : Nat) : cellI ((RL.var l [.i .i64]).row ρ j)[0]? = ρ.ci l 0 j := by
  simp only [RL.row, cellsV, List.getElem?_cons_zero, cellI, Int.toNat_natCast]
theorem row_one (ρ : Rho) (x : IE) (j : Int) : cellI ((RL.one [.i .i64 x]).row ρ j)[0]? = x.den ρ := by
  simp only [RL.row, scL, List.map_cons, List.map_nil, List.getElem?_cons_zero, Sc.den, cellI]
theorem row_app (ρ : Rho) (l j : Nat) (x : IE) : cellI ((RL.app (.len l) (.var l [.i .i64]) (.one [.i .i64 x])).row ρ j)[0]? = if j < ρ.len l then ρ.ci l 0 j else x.den ρ := by
  simp only [RL.row]
  by_cases c : j < ρ.len l
  · rw [if_pos (show (j : Int) < (IE.len l).den ρ from by simp only [IE.den]; omega), if_pos c]; exact row_i ρ l j
  · rw [if_neg (show ¬ (j : Int) < (IE.len l).den ρ from by simp only [IE.den]; omega), if_neg c]; exact row_one ρ x 0
theorem inc {ρ : Rho} {k j : Nat} (h : ρ.i k = j) (hj : j < 4611686018427387904) : (IE.op .add .i64 (.var k) (.lit 1)).den ρ = ((j + 1 : Nat) : Int) := by
  show IOp.den .add .i64 (ρ.i k) 1 = _
  rw [h]; simp only [IOp.den]; rw [wrap_id _ (by omega) (by omega)]; omega
theorem ap_cb {β : Bind} {ρ : Rho} {l k : Nat} {m : IE} {r : RL} (h : lassoc l β.r = some (m, r)) (j : Nat) : (β.ap ρ).cb l k j = cellB (r.row ρ j)[k]? := by simp only [Bind.ap, h]
theorem cl_i {ρ : Rho} {l k : Nat} {e : IE} {j : Nat} (h : e.den ρ = j) : (IE.cl l k e).den ρ = ρ.ci l k j := by
  show ρ.ci l k (e.den ρ).toNat = _; rw [h, Int.toNat_natCast]
theorem cl_b {ρ : Rho} {l k : Nat} {e : IE} {j : Nat} (h : e.den ρ = j) : (BE.cl l k e).den ρ = ρ.cb l k j := by
  show ρ.cb l k (e.den ρ).toNat = _; rw [h, Int.toNat_natCast]
/-- With some letters put. -/
def putI (ρ : Rho) (v : List (Nat × Int)) : Rho := { ρ with i := fun k => match lassoc k v with | some x => x | none => ρ.i k }
def putB (ρ : Rho) (k : Nat) (b : Bool) : Rho := { ρ with b := fun j => if j = k then b else ρ.b j }
theorem putI_agree (ρ : Rho) {v : List (Nat × Int)} {n : Nat} (h : keysGe n v = true) : Agree n ρ (putI ρ v) :=
  ⟨fun k hk => by simp only [putI, lassoc_ge h hk], fun _ _ => rfl, fun _ _ => rfl, fun _ _ => rfl, fun _ _ => rfl, fun _ _ => rfl, fun _ _ => rfl⟩
theorem putB_agree (ρ : Rho) {k n : Nat} {b : Bool} (h : n ≤ k) : Agree n ρ (putB ρ k b) :=
  ⟨fun _ _ => rfl, fun j hj => by show _ = if j = k then _ else _; rw [if_neg (by omega)], fun _ _ => rfl, fun _ _ => rfl, fun _ _ => rfl, fun _ _ => rfl, fun _ _ => rfl⟩
/-- What is to be read again is told by keys' numbers. -/
def Again (ρ : Rho) (l n c : Nat) : Prop := ρ.len l = c ∧ ∀ j, j < c → 0 ≤ ρ.ci l 0 j ∧ ρ.ci l 0 j < n
theorem Again.agree {ρ ρ' : Rho} {k l n c : Nat} (h : Again ρ l n c) (ag : Agree k ρ ρ') (hl : l < k) : Again ρ' l n c :=
  ⟨by rw [← ag.len l hl]; exact h.1, by rw [← ag.ci l hl]; exact h.2⟩
theorem Again.app {ρ : Rho} {β : Bind} {l n c : Nat} {x : IE} (h : Again ρ l n c) (hr : lassoc l β.r = some (.op .padd .i64 (.len l) (.lit 1), .app (.len l) (.var l [.i .i64]) (.one [.i .i64 x]))) (h0 : 0 ≤ x.den ρ) (h1 : x.den ρ < n) : Again (β.ap ρ) l n (c + 1) := by
  refine ⟨?_, fun j hj => ?_⟩
  · rw [ap_len hr]
    show ((ρ.len l : Int) + 1).toNat = _
    rw [h.1]; omega
  · rw [ap_ci hr, row_app, h.1]
    split
    · exact h.2 j (by omega)
    · exact ⟨h0, h1⟩
theorem Again.one {ρ : Rho} {β : Bind} {l n : Nat} {x : IE} (hr : lassoc l β.r = some (.lit 1, .one [.i .i64 x])) (h0 : 0 ≤ x.den ρ) (h1 : x.den ρ < n) : Again (β.ap ρ) l n 1 := by
  refine ⟨ap_len hr, fun j hj => ?_⟩
  rw [ap_ci hr, row_one]
  exact ⟨h0, h1⟩
/-- The same loop, where its way out is known. -/
theorem one_way {ρ : Rho} {N : Nat} {c : Code} {L M : LoopX} (h : LoopOk Try.prog ρ N c L) (h0 : M.k0 = L.k0) (h1 : M.S = L.S) (h2 : M.init = L.init) (h3 : ∀ e s, L.out.sel ρ = some (e, s) → M.out.sel ρ = some (e, s)) : LoopOk Try.prog ρ N c M := by
  intro E hE hk
  rw [h1, h2]
  exact AW_mono (fun e σ hq => by
    obtain ⟨e', s, q1, q2, q3⟩ := hq
    exact ⟨e', s, h3 _ _ q1, q2, q3⟩) (h E hE (by rw [← h0]; exact hk))
/-- A vector that may be. -/
def rightV (ρ : Rho) : Prop := ∀ k, k < 9 → 0 ≤ ρ.i k ∧ ρ.i k ≤ 1099511627776
theorem rv_cy (ρ : Rho) : ∃ b : Bool, (b = true → rightV ρ) ∧ hasBody Try.prog 31 = true ∧ ∀ n h, CY Try.prog n 31 (X.denL ρ [.agg (vi 0 9)]) h (.sc (.bool b)) [] := by
  obtain ⟨e, he⟩ : ∃ e, r31 = .ret (.sc (.b e)) := ⟨_, rfl⟩
  have q := askF_ok (c := ⟨cfgL [] (fun _ => []), l_able, []⟩) (f := 31) (args := [.agg (vi 0 9)]) (Φ := []) (cN_ok ρ) l_able_ok (Facts.ok_nil ρ) (by rw [r31_run, he]; exact rfl)
  refine ⟨_, fun hb => ?_, q⟩
  have h2 : T.ret (X.sc (Sc.b e)) = r31 := he.symm
  unfold r31 at h2
  simp only [T.ret.injEq, X.sc.injEq, Sc.b.injEq] at h2
  rw [h2] at hb
  simp only [dnot_t, dor_f, dlt_f, IE.den] at hb
  intro k hk
  obtain ⟨⟨⟨a0, b0⟩, ⟨a1, b1⟩, a2, b2⟩, ⟨⟨a3, b3⟩, ⟨a4, b4⟩, a5, b5⟩, ⟨a6, b6⟩, ⟨a7, b7⟩, a8, b8⟩ := hb
  match k, hk with
  | 0, _ => exact ⟨a0, b0⟩
  | 1, _ => exact ⟨a1, b1⟩
  | 2, _ => exact ⟨a2, b2⟩
  | 3, _ => exact ⟨a3, b3⟩
  | 4, _ => exact ⟨a4, b4⟩
  | 5, _ => exact ⟨a5, b5⟩
  | 6, _ => exact ⟨a6, b6⟩
  | 7, _ => exact ⟨a7, b7⟩
  | 8, _ => exact ⟨a8, b8⟩
theorem tru_cy {ρ ρ' : Rho} {f : Nat} {hf : List Nat} {c : Cfg} {Φ : Facts} {args : List X} {t : T X} (cok : CfgOk Try.prog ρ' c) (hk : Facts.ok ρ' Φ) (hrun : askF ⟨c, l_able, hf⟩ f args Φ = t) {x : X} (hs : t.sel ρ' = some x) (hx : x.den ρ' = .sc (.bool true)) (ha : X.denL ρ args = X.denL ρ' args) : ∀ n h, CY Try.prog n f (X.denL ρ args) h (.sc (.bool true)) [] := by
  have q := askF_ok (c := ⟨c, l_able, hf⟩) (f := f) (args := args) (Φ := Φ) cok l_able_ok hk (r := x) (by rw [hrun]; exact hs)
  rw [hx, ← ha] at q
  exact q.2
theorem kys_den {ρ : Rho} {n : Nat} {g : Nat → ByteArray} (h : ρ.len 2 = n) (hg : stR ρ 2 = g) : X.denL ρ [kyR] = [roV n g] := by simp only [X.denL, ky_den, h, hg]
theorem sl_sizes {W : World} {v : Value} {j : Nat} (h : Fits W (.sl [.s]) v) (vs : List Value) (cells : List Value) (zs : List Nat) (hv : vs[j]? = some v) (hz : zs[j]? = some 1) : ∀ k, k < (mkR W cells vs zs).len j → (stR (mkR W cells vs zs) j k).size < 9223372036854775808 := by
  obtain ⟨_, A, len, cap, rfl, _, h⟩ := h
  intro k hk
  have hk : k < len := by
    have : (mkR W cells vs zs).len j = len := by simp only [mkR, hv, lenO]
    omega
  obtain ⟨a, rfl, _, h⟩ := h (by omega)
  obtain ⟨cs, ⟨v, r, rfl, ⟨s, rfl, hs⟩, _⟩, hc⟩ := h k hk
  have h0 := hc 0 (by decide)
  simp only [List.length_cons, List.length_nil, List.getElem?_cons_zero] at h0
  show (strO (rowCell W vs zs j 0 k)).size < _
  have : rowCell W vs zs j 0 k = some (.string s) := by
    unfold rowCell
    rw [hv, hz]
    exact h0
  rw [this]
  show s.size < _
  have : maxLen = 9223372036854775807 := rfl
  omega
theorem sl_len {W : World} {v : Value} {j : Nat} {ks : List Kd} (h : Fits W (.sl ks) v) (vs : List Value) (cells : List Value) (zs : List Nat) (hv : vs[j]? = some v) : ∃ A len cap, v = .slice A len cap ∧ (mkR W cells vs zs).len j = len := by
  obtain ⟨_, A, len, cap, rfl, _, _⟩ := h
  exact ⟨A, len, cap, rfl, by simp only [mkR, hv, lenO]⟩
/-- What the laws do not turn. -/
structure EnF (ρ : Rho) (n m : Nat) (g : Nat → ByteArray) : Prop where
  en : ρ.len 2 = n
  em : ρ.len 3 = m
  eg : stR ρ 2 = g
  n1 : 1 ≤ n
  n6 : n ≤ 6
  mb : m < 4611686018427387904
  r1 : 1 ≤ ρ.i 9
  r3 : ρ.i 9 ≤ 3
  z : ∀ j, j < n → (g j).size < 9223372036854775808
theorem EnF.agree {ρ ρ' : Rho} {n m k : Nat} {g : Nat → ByteArray} (h : EnF ρ n m g) (ag : Agree k ρ ρ') (hk : 10 ≤ k) : EnF ρ' n m g :=
  ⟨by rw [← ag.len 2 (by omega)]; exact h.en, by rw [← ag.len 3 (by omega)]; exact h.em, by rw [agree_st ag (by omega)]; exact h.eg, h.n1, h.n6, h.mb, by rw [← ag.i 9 (by omega)]; exact h.r1, by rw [← ag.i 9 (by omega)]; exact h.r3, h.z⟩
/-! ### Past -/
def paR (f : Nat → Int) : Rho := ⟨fun _ => 0, fun _ => false, fun _ => ⟨#[]⟩, fun _ => 0, fun _ c _ => f c, fun _ _ _ => false, fun _ _ _ => ⟨#[]⟩⟩
def exOf (t : T X) (d : Nat) : IE := match t with
  | .ret (.agg l) => match l[d]? with
    | some (.sc (.i _ x)) => x
    | _ => .lit 0
  | _ => .lit 0
/-- What a write stands on, and it itself: by its cells. -/
def pa (f : Nat → Int) (d : Nat) : Int := (exOf psR d).den (paR f)
def nineV (v : Nat → Int) : AV := .agg ((List.range 9).map fun k => .sc (.int .i64 (v k)))
theorem past_row (ρ : Rho) (l : Nat) (i : IE) : hasBody Try.prog 16 = true ∧ ∀ n h, CY Try.prog n 16 (X.denL ρ [.ro 20 [enC l i] true]) h (nineV (pa fun c => ρ.ci l c (i.den ρ).toNat)) [] := by
  let ρ' : Rho := ⟨fun _ => i.den ρ, fun _ => false, fun _ => ⟨#[]⟩, fun _ => 0, fun _ c k => ρ.ci l c k, fun _ c k => ρ.cb l c k, fun _ c k => ρ.cs l c k⟩
  have q := askF_ok (c := ⟨cfgL [] (fun _ => []), l_able, []⟩) (ρ := ρ') (f := 16) (args := [.ro 20 [enC 3 (.var 500)] true]) (Φ := []) (cN_ok ρ') l_able_ok (Facts.ok_nil ρ') (by rw [psR_run]; exact rfl)
  exact q
/-! ### Covers -/
theorem cov_row (ρ : Rho) (a b : Nat) (h : ∀ d, d < 9 → ρ.i (b + d) ≤ ρ.i (a + d)) : hasBody Try.prog 15 = true ∧ ∀ n hp, CY Try.prog n 15 (X.denL ρ [.agg (vi a 9), .agg (vi b 9)]) hp (.sc (.bool true)) [] := by
  let ρ' : Rho := ⟨fun k => if k < 580 then ρ.i (a + (k - 510)) else ρ.i (b + (k - 580)), fun _ => false, fun _ => ⟨#[]⟩, fun _ => 0, fun _ _ _ => 0, fun _ _ _ => false, fun _ _ _ => ⟨#[]⟩⟩
  obtain ⟨e, he⟩ : ∃ e, cvR = .ret (.sc (.b e)) := ⟨_, rfl⟩
  have q := askF_ok (c := ⟨cfgL [] (fun _ => []), l_able, []⟩) (ρ := ρ') (f := 15) (args := [.agg (vi 510 9), .agg (vi 580 9)]) (Φ := []) (cN_ok ρ') l_able_ok (Facts.ok_nil ρ') (by rw [cvR_run, he]; exact rfl)
  have ht : X.den ρ' (.sc (.b e)) = .sc (.bool true) := by
    have h2 : T.ret (X.sc (Sc.b e)) = cvR := he.symm
    unfold cvR at h2
    simp only [T.ret.injEq, X.sc.injEq, Sc.b.injEq] at h2
    have : e.den ρ' = true := by
      rw [h2]
      simp only [dnot_t, dor_f, dlt_f, IE.den]
      exact ⟨⟨h 0 (by decide), h 1 (by decide), h 2 (by decide)⟩, ⟨h 3 (by decide), h 4 (by decide), h 5 (by decide)⟩, h 6 (by decide), h 7 (by decide), h 8 (by decide)⟩
    simp only [X.den, Sc.den, this]
  rw [ht] at q
  exact q
theorem cov_any (ρ : Rho) (a b : Nat) : ∃ t : Bool, hasBody Try.prog 15 = true ∧ ∀ n hp, CY Try.prog n 15 (X.denL ρ [.agg (vi a 9), .agg (vi b 9)]) hp (.sc (.bool t)) [] := by
  let ρ' : Rho := ⟨fun k => if k < 580 then ρ.i (a + (k - 510)) else ρ.i (b + (k - 580)), fun _ => false, fun _ => ⟨#[]⟩, fun _ => 0, fun _ _ _ => 0, fun _ _ _ => false, fun _ _ _ => ⟨#[]⟩⟩
  obtain ⟨e, he⟩ : ∃ e, cvR = .ret (.sc (.b e)) := ⟨_, rfl⟩
  have q := askF_ok (c := ⟨cfgL [] (fun _ => []), l_able, []⟩) (ρ := ρ') (f := 15) (args := [.agg (vi 510 9), .agg (vi 580 9)]) (Φ := []) (cN_ok ρ') l_able_ok (Facts.ok_nil ρ') (by rw [cvR_run, he]; exact rfl)
  exact ⟨_, q⟩
/-! ### Part -/
/-- A column of a vector. -/
def pc (c : Nat → Int) (r : Int) (x : Nat) : Int := (exOf ptR x).den ⟨fun k => if k < 552 then c (k - 532) else r, fun _ => false, fun _ => ⟨#[]⟩, fun _ => 0, fun _ _ _ => 0, fun _ _ _ => false, fun _ _ _ => ⟨#[]⟩⟩
theorem part_row (ρ : Rho) (a : Nat) (r : IE) : hasBody Try.prog 19 = true ∧ ∀ n h, CY Try.prog n 19 (X.denL ρ [.agg (vi a 9), .sc (.i .i64 r)]) h (.agg [.sc (.int .i64 (pc (fun k => ρ.i (a + k)) (r.den ρ) 0)), .sc (.int .i64 (pc (fun k => ρ.i (a + k)) (r.den ρ) 1)), .sc (.int .i64 (pc (fun k => ρ.i (a + k)) (r.den ρ) 2))]) [] := by
  let ρ' : Rho := ⟨fun k => if k < 552 then ρ.i (a + (k - 532)) else r.den ρ, fun _ => false, fun _ => ⟨#[]⟩, fun _ => 0, fun _ _ _ => 0, fun _ _ _ => false, fun _ _ _ => ⟨#[]⟩⟩
  have q := askF_ok (c := ⟨cfgL [] (fun _ => []), l_able, []⟩) (ρ := ρ') (f := 19) (args := [.agg (vi 532 9), iV 552]) (Φ := []) (cN_ok ρ') l_able_ok (Facts.ok_nil ρ') (by rw [ptR_run]; exact rfl)
  exact q
/-- A column does not cover another one. -/
def ncol (f : Nat → Int) (p : Nat → Int) : Prop := f 22 < p 0 ∨ f 23 < p 1 ∨ f 24 < p 2
end Go.Proofs.Ytdlifdoglhhnfaa

/- Plain: worlds of writes, what stands on what; the greatest write of a key. -/
namespace Go.Proofs.Ytdlifdoglhhnfaa.Wd
/-! ### What stands on what -/
section
variable (D R : Nat → Nat) (S : Nat → Int) (dep : Nat → Nat → Nat → Int)
/-- All that write i stands on, and it itself, lies in V. -/
def Ge (V : Nat → Nat → Int) (i : Nat) : Prop := (∀ x y, x < 3 → y < 3 → dep i x y ≤ V x y) ∧ S i ≤ V (D i) (R i)
def Hs (V : Nat → Nat → Int) (i : Nat) : Prop := S i ≤ V (D i) (R i)
/-- With each write all lies there that it stands on. -/
def Cl (N : Nat) (V : Nat → Nat → Int) : Prop := ∀ i, i < N → Hs D R S V i → Ge D R S dep V i
/-- No number goes further than the writes. -/
def Bd (N : Nat) (V : Nat → Nat → Int) : Prop := ∀ x y, x < 3 → y < 3 → V x y ≤ 0 ∨ ∃ i, i < N ∧ D i = x ∧ R i = y ∧ V x y ≤ S i
def pst (k x y : Nat) : Int := max (dep k x y) (if D k = x ∧ R k = y then S k else 0)
def Jn (V : Nat → Nat → Int) (k : Nat) (V' : Nat → Nat → Int) : Prop := ∀ x y, x < 3 → y < 3 → V' x y = max (V x y) (pst D R S dep k x y)
structure World (N : Nat) : Prop where
  d : ∀ i, i < N → D i < 3
  r : ∀ i, i < N → R i < 3
  s : ∀ i, i < N → 1 ≤ S i
  nn : ∀ i, i < N → ∀ x y, x < 3 → y < 3 → 0 ≤ dep i x y
  lg : ∀ i j, i < j → j < N → R i = R j → Ge D R S dep (dep j) i
  sq : ∀ j, j < N → S j = dep j (D j) (R j) + 1
  cl : ∀ j, j < N → Cl D R S dep N (dep j)
  bd : ∀ j, j < N → Bd D R S N (dep j)
variable {D R S dep}
theorem World.zero : World D R S dep 0 :=
  ⟨fun _ h => absurd h (by omega), fun _ h => absurd h (by omega), fun _ h => absurd h (by omega), fun _ h => absurd h (by omega), fun _ _ _ h => absurd h (by omega), fun _ h => absurd h (by omega), fun _ h => absurd h (by omega), fun _ h => absurd h (by omega)⟩
theorem World.mono {N i j : Nat} (W : World D R S dep N) (h : i < j) (hj : j < N) (hd : D i = D j) (hr : R i = R j) : S i < S j := by
  have h1 := (W.lg i j h hj hr).2
  have h2 := W.sq j hj
  rw [hd, hr] at h1
  omega
theorem Jn.le {V V' : Nat → Nat → Int} {k : Nat} (h : Jn D R S dep V k V') {x y : Nat} (hx : x < 3) (hy : y < 3) : V x y ≤ V' x y := by
  rw [h x y hx hy]; omega
theorem Jn.dep_le {V V' : Nat → Nat → Int} {k : Nat} (h : Jn D R S dep V k V') {x y : Nat} (hx : x < 3) (hy : y < 3) : dep k x y ≤ V' x y := by
  rw [h x y hx hy]; unfold pst; omega
theorem Jn.self {V V' : Nat → Nat → Int} {k : Nat} (h : Jn D R S dep V k V') (hx : D k < 3) (hy : R k < 3) : S k ≤ V' (D k) (R k) := by
  rw [h _ _ hx hy]; unfold pst; rw [if_pos ⟨rfl, rfl⟩]; omega
theorem Ge.mono {V V' : Nat → Nat → Int} {i : Nat} (hd : D i < 3) (hr : R i < 3) (h : Ge D R S dep V i) (hle : ∀ x y, x < 3 → y < 3 → V x y ≤ V' x y) : Ge D R S dep V' i :=
  ⟨fun x y hx hy => Int.le_trans (h.1 x y hx hy) (hle x y hx hy), Int.le_trans h.2 (hle _ _ hd hr)⟩
theorem Cl.join {N k : Nat} {V V' : Nat → Nat → Int} (W : World D R S dep N) (h : Cl D R S dep N V) (hk : k < N) (hj : Jn D R S dep V k V') : Cl D R S dep N V' := fun i hi hh => by
  have di := W.d i hi; have ri := W.r i hi
  have hh : S i ≤ V' (D i) (R i) := hh
  rw [hj _ _ di ri] at hh
  by_cases c : S i ≤ V (D i) (R i)
  · exact (h i hi c).mono di ri fun x y hx hy => hj.le hx hy
  · have hp : S i ≤ pst D R S dep k (D i) (R i) := by omega
    unfold pst at hp
    by_cases c2 : S i ≤ dep k (D i) (R i)
    · exact (W.cl k hk i hi c2).mono di ri fun x y hx hy => hj.dep_le hx hy
    · by_cases e : D k = D i ∧ R k = R i
      · rw [if_pos e] at hp
        have hs : S i ≤ S k := by omega
        rcases Nat.lt_trichotomy i k with l | l | l
        · exact (W.lg i k l hk e.2.symm).mono di ri fun x y hx hy => hj.dep_le hx hy
        · subst l
          exact ⟨fun x y hx hy => hj.dep_le hx hy, hj.self di ri⟩
        · have := W.mono l hi e.1 e.2
          omega
      · rw [if_neg e] at hp
        have := W.s i hi
        have := W.nn k hk _ _ di ri
        omega
theorem max_or (a b : Int) : max a b = a ∨ max a b = b := by
  rcases Int.le_total a b with h | h
  · exact .inr (Int.max_eq_right h)
  · exact .inl (Int.max_eq_left h)
theorem Bd.join {N k : Nat} {V V' : Nat → Nat → Int} (W : World D R S dep N) (h : Bd D R S N V) (hk : k < N) (hj : Jn D R S dep V k V') : Bd D R S N V' := fun x y hx hy => by
  have e := hj x y hx hy
  rcases max_or (V x y) (pst D R S dep k x y) with c | c
  · rw [c] at e; rw [e]; exact h x y hx hy
  · rw [c] at e
    rcases max_or (dep k x y) (if D k = x ∧ R k = y then S k else 0) with c | c
    · rw [e]; unfold pst; rw [c]; exact W.bd k hk x y hx hy
    · rw [e]; unfold pst; rw [c]
      by_cases c2 : D k = x ∧ R k = y
      · rw [if_pos c2]; exact .inr ⟨k, hk, c2.1, c2.2, Int.le_refl _⟩
      · rw [if_neg c2]; exact .inl (Int.le_refl _)
theorem Cl.zero {N : Nat} {V : Nat → Nat → Int} (W : World D R S dep N) (h : ∀ x y, x < 3 → y < 3 → V x y = 0) : Cl D R S dep N V := fun i hi hh => by
  have hh : S i ≤ V (D i) (R i) := hh
  rw [h _ _ (W.d i hi) (W.r i hi)] at hh
  have := W.s i hi
  omega
theorem Bd.zero {N : Nat} {V : Nat → Nat → Int} (h : ∀ x y, x < 3 → y < 3 → V x y = 0) : Bd D R S N V := fun x y hx hy => .inl (by rw [h x y hx hy]; omega)
theorem World.add {N : Nat} (W : World D R S dep N) (hd : D N < 3) (hr : R N < 3) (hn : ∀ x y, x < 3 → y < 3 → 0 ≤ dep N x y) (hc : Cl D R S dep N (dep N)) (hb : Bd D R S N (dep N)) (hl : ∀ i, i < N → R i = R N → Ge D R S dep (dep N) i) (hs : S N = dep N (D N) (R N) + 1) : World D R S dep (N + 1) := by
  have bd' : ∀ V, Bd D R S N V → Bd D R S (N + 1) V := fun V h x y hx hy => by
    rcases h x y hx hy with h | ⟨i, i1, i2⟩
    · exact .inl h
    · exact .inr ⟨i, by omega, i2⟩
  have key : ∀ V, Bd D R S N V → ¬ Hs D R S V N := fun V h hh => by
    have hh : S N ≤ V (D N) (R N) := hh
    have h0 := hn _ _ hd hr
    rcases h _ _ hd hr with h | ⟨i, i1, i2, i3, i4⟩
    · omega
    · have := (hl i i1 i3).2
      rw [i2, i3] at this
      omega
  have all : ∀ {P : Nat → Prop}, (∀ i, i < N → P i) → P N → ∀ i, i < N + 1 → P i := fun {P} h1 h2 i hi => by
    by_cases c : i < N
    · exact h1 i c
    · have : i = N := by omega
      rw [this]; exact h2
  refine ⟨all W.d hd, all W.r hr, all W.s (by have := hn _ _ hd hr; omega), all W.nn hn, fun i j h hj e => ?_, all W.sq hs, ?_, all (fun j hj => bd' _ (W.bd j hj)) (bd' _ hb)⟩
  · by_cases c : j < N
    · exact W.lg i j h c e
    · have : j = N := by omega
      subst this
      exact hl i h e
  · have cl' : ∀ V, Bd D R S N V → Cl D R S dep N V → Cl D R S dep (N + 1) V := fun V h1 h2 i hi hh => by
      by_cases c : i < N
      · exact h2 i c hh
      · have : i = N := by omega
        subst this
        exact absurd hh (key V h1)
    exact all (fun j hj => cl' _ (W.bd j hj) (W.cl j hj)) (cl' _ hb hc)
end
/-! ### The greatest of some -/
section
variable {α : Type} (m : α → Prop) (gt : α → α → Prop)
noncomputable def stepG (acc : Option α) (e : α) : Option α := @ite _ (m e) (Classical.propDecidable _) (match acc with
  | none => some e
  | some b => @ite _ (gt e b) (Classical.propDecidable _) (some e) (some b)) acc
noncomputable def gr (l : List α) : Option α := l.foldl (stepG m gt) none
variable {m gt}
theorem stepG_no {acc : Option α} {e : α} (h : ¬ m e) : stepG m gt acc e = acc := by unfold stepG; exact if_neg h
theorem stepG_none {e : α} (h : m e) : stepG m gt none e = some e := by unfold stepG; exact if_pos h
theorem stepG_gt {b e : α} (h : m e) (g : gt e b) : stepG m gt (some b) e = some e := by unfold stepG; rw [if_pos h]; exact if_pos g
theorem stepG_le {b e : α} (h : m e) (g : ¬ gt e b) : stepG m gt (some b) e = some b := by unfold stepG; rw [if_pos h]; exact if_neg g
theorem gr_snoc (l : List α) (e : α) : gr m gt (l ++ [e]) = stepG m gt (gr m gt l) e := by unfold gr; rw [List.foldl_append]; rfl
/-- b is the first one among the greatest of l. -/
def First (m : α → Prop) (gt : α → α → Prop) (l : List α) (b : α) : Prop := m b ∧ ∃ l1 l2, l = l1 ++ b :: l2 ∧ (∀ e ∈ l1, m e → gt b e) ∧ ∀ e ∈ l2, m e → ¬ gt e b
theorem gr_of (asy : ∀ a b, gt a b → ¬ gt b a) (tr : ∀ a b c, gt a b → ¬ gt c b → gt a c) : ∀ l : List α, match gr m gt l with
    | none => ∀ e ∈ l, ¬ m e
    | some b => First m gt l b := fun l => by
  have main : ∀ (r l : List α), l = r.reverse → (match gr m gt l with
    | none => ∀ e ∈ l, ¬ m e
    | some b => First m gt l b) := fun r => by
    induction r with
    | nil => intro l hl; subst hl; exact fun e he => by cases he
    | cons e r ih =>
      intro l hl
      rw [List.reverse_cons] at hl
      have h := ih _ rfl
      rw [hl, gr_snoc]
      by_cases hm : m e
      · cases hg : gr m gt r.reverse with
        | none =>
          rw [hg] at h
          rw [stepG_none hm]
          exact ⟨hm, r.reverse, [], by simp, fun x hx hmx => absurd hmx (h x hx), fun x hx => by cases hx⟩
        | some b =>
          rw [hg] at h
          obtain ⟨hb, l1, l2, e1, e2, e3⟩ := h
          by_cases hgt : gt e b
          · rw [stepG_gt hm hgt]
            refine ⟨hm, r.reverse, [], by simp, fun x hx hmx => ?_, fun x hx => by cases hx⟩
            rw [e1] at hx
            rcases List.mem_append.1 hx with hx | hx
            · exact tr e b x hgt (asy b x (e2 x hx hmx))
            · rcases List.mem_cons.1 hx with rfl | hx
              · exact hgt
              · exact tr e b x hgt (e3 x hx hmx)
          · rw [stepG_le hm hgt]
            refine ⟨hb, l1, l2 ++ [e], by rw [e1]; simp, e2, fun x hx hmx => ?_⟩
            rcases List.mem_append.1 hx with hx | hx
            · exact e3 x hx hmx
            · rcases List.mem_cons.1 hx with rfl | hx
              · exact hgt
              · cases hx
      · rw [stepG_no hm]
        cases hg : gr m gt r.reverse with
        | none =>
          rw [hg] at h
          intro x hx
          rcases List.mem_append.1 hx with hx | hx
          · exact h x hx
          · rcases List.mem_cons.1 hx with rfl | hx
            · exact hm
            · cases hx
        | some b =>
          rw [hg] at h
          obtain ⟨hb, l1, l2, e1, e2, e3⟩ := h
          refine ⟨hb, l1, l2 ++ [e], by rw [e1]; simp, e2, fun x hx hmx => ?_⟩
          rcases List.mem_append.1 hx with hx | hx
          · exact e3 x hx hmx
          · rcases List.mem_cons.1 hx with rfl | hx
            · exact absurd hmx hm
            · cases hx
  exact main l.reverse l (by simp)
/-- The first one among the greatest is found. -/
theorem First.gr {l : List α} {b : α} (h : First m gt l b) : gr m gt l = some b := by
  obtain ⟨hb, l1, l2, rfl, h1, h2⟩ := h
  have s1 : ∀ (l : List α) (acc : Option α), (∀ e ∈ l, m e → gt b e) → (∀ a, acc = some a → gt b a) → ∀ a, l.foldl (stepG m gt) acc = some a → gt b a := fun l => by
    induction l with
    | nil => exact fun acc _ h2 a ha => h2 a ha
    | cons e l ih =>
      intro acc h1 h2 a ha
      refine ih _ (fun x hx => h1 x (List.mem_cons_of_mem _ hx)) (fun c hc => ?_) a ha
      by_cases hm : m e
      · cases acc with
        | none =>
          rw [stepG_none hm] at hc
          cases hc
          exact h1 e List.mem_cons_self hm
        | some d =>
          by_cases g : gt e d
          · rw [stepG_gt hm g] at hc
            cases hc
            exact h1 e List.mem_cons_self hm
          · rw [stepG_le hm g] at hc
            exact h2 c hc
      · rw [stepG_no hm] at hc
        exact h2 c hc
  have s2 : ∀ (l : List α), (∀ e ∈ l, m e → ¬ gt e b) → l.foldl (stepG m gt) (some b) = some b := fun l => by
    induction l with
    | nil => exact fun _ => rfl
    | cons e l ih =>
      intro h
      rw [List.foldl_cons]
      have : stepG m gt (some b) e = some b := by
        by_cases hm : m e
        · exact stepG_le hm (h e List.mem_cons_self hm)
        · exact stepG_no hm
      rw [this]
      exact ih fun x hx => h x (List.mem_cons_of_mem _ hx)
  unfold Wd.gr
  rw [List.foldl_append, List.foldl_cons]
  have s3 := s1 l1 none h1 (fun a ha => by cases ha)
  have s4 : stepG m gt (l1.foldl (stepG m gt) none) b = some b := by
    cases hg : l1.foldl (stepG m gt) none with
    | none => exact stepG_none hb
    | some a => exact stepG_gt hb (s3 a hg)
  rw [s4]
  exact s2 l2 h2
theorem gr_none {l : List α} (h : ∀ e ∈ l, ¬ m e) : gr m gt l = none := by
  unfold gr
  have : ∀ (l : List α), (∀ e ∈ l, ¬ m e) → l.foldl (stepG m gt) none = none := fun l => by
    induction l with
    | nil => exact fun _ => rfl
    | cons e l ih =>
      intro h
      rw [List.foldl_cons, stepG_no (h e List.mem_cons_self)]
      exact ih fun x hx => h x (List.mem_cons_of_mem _ hx)
  exact this l h
/-- Of some of them, the greatest among these: the same. -/
theorem gr_filter (asy : ∀ a b, gt a b → ¬ gt b a) (tr : ∀ a b c, gt a b → ¬ gt c b → gt a c) {l : List α} {p : α → Bool} (h : ∀ b, gr m gt l = some b → p b = true) : gr m gt (l.filter p) = gr m gt l := by
  have hg := gr_of (m := m) asy tr l
  cases e : gr m gt l with
  | none =>
    rw [e] at hg
    exact gr_none fun x hx => hg x (List.mem_filter.1 hx).1
  | some b =>
    rw [e] at hg
    obtain ⟨hb, l1, l2, rfl, h1, h2⟩ := hg
    have hp := h b e
    refine First.gr ⟨hb, l1.filter p, l2.filter p, ?_, fun x hx => h1 x (List.mem_filter.1 hx).1, fun x hx => h2 x (List.mem_filter.1 hx).1⟩
    rw [List.filter_append, List.filter_cons, if_pos hp]
/-- Those of another key do not count. -/
theorem gr_key {l : List α} {p : α → Bool} (h : ∀ e ∈ l, m e → p e = true) : gr m gt (l.filter p) = gr m gt l := by
  unfold gr
  have : ∀ (l : List α) (acc : Option α), (∀ e ∈ l, m e → p e = true) → (l.filter p).foldl (stepG m gt) acc = l.foldl (stepG m gt) acc := fun l => by
    induction l with
    | nil => exact fun _ _ => rfl
    | cons e l ih =>
      intro acc h
      have ht := fun acc => ih acc fun x hx => h x (List.mem_cons_of_mem _ hx)
      by_cases hp : p e = true
      · rw [List.filter_cons, if_pos hp, List.foldl_cons, List.foldl_cons, ht]
      · rw [List.filter_cons, if_neg hp, List.foldl_cons, stepG_no fun k => hp (h e List.mem_cons_self k), ht]
  exact this l none h
end
end Go.Proofs.Ytdlifdoglhhnfaa.Wd
