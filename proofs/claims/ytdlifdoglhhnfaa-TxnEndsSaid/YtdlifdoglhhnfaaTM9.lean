/- Parts of the proof, one behind the other. -/
import Derived.Test.YtdlifdoglhhnfaaTM1
import Derived.Test.YtdlifdoglhhnfaaTM8
import Derived.Test.YtdlifdoglhhnfaaXwM3
/- What functions answer, run over letters, where something is known; each shown by running it. -/
namespace Go.Proofs.Ytdlifdoglhhnfaa
open Go Go.Proofs.Aw Go.Proofs.Xw
/-- The loop over the answers, where it ends alive; where a key was gone. -/
noncomputable def mnA_c : Code := mn_c
noncomputable def mnB_c : Code := mn_c
noncomputable def mnA : LoopX := ⟨((codeKey mn_c).getD 0), 0, 500, mn_E, noB, [], .ret (.exit 0, mn_X0_s)⟩
noncomputable def mnB : LoopX := ⟨((codeKey mn_c).getD 0), 0, 500, mn_E, noB, [], .ret (.exit 0, mn_X1_s)⟩
noncomputable def lpLA (f : Nat) : List LoopX := if Nat.beq f 9 = true then [nw] else if Nat.beq f 5 = true then [mnA] else []
theorem lpLA_9o : othersB [nw] [0] 0 (loopsOf (Try.f9.body.getD .skip)) = true := by kernel_rfl
theorem lpLA_9 {ρ : Rho} (h_nw : LoopOk Try.prog ρ Try.f9.ntmps nw_c nw) : LpsOk Try.prog ρ Try.f9.ntmps [nw] (Try.f9.body.getD .skip) :=
  lps_idx [0] lpLA_9o (List.forall_mem_cons.2 ⟨look_list (c := nw_c) (Ls := [nw]) (by kernel_rfl) (List.forall_mem_cons.2 ⟨h_nw, List.forall_mem_nil _⟩), List.forall_mem_nil _⟩)
theorem lpLA_5o : othersB [mnA] [0] 0 (loopsOf (Try.f5.body.getD .skip)) = true := by kernel_rfl
theorem lpLA_5 {ρ : Rho} (h_mnA : LoopOk Try.prog ρ Try.f5.ntmps mnA_c mnA) : LpsOk Try.prog ρ Try.f5.ntmps [mnA] (Try.f5.body.getD .skip) :=
  lps_idx [0] lpLA_5o (List.forall_mem_cons.2 ⟨look_list (c := mnA_c) (Ls := [mnA]) (by kernel_rfl) (List.forall_mem_cons.2 ⟨h_mnA, List.forall_mem_nil _⟩), List.forall_mem_nil _⟩)
theorem lpLA_ok {ρ : Rho} (h_nw : LoopOk Try.prog ρ Try.f9.ntmps nw_c nw) (h_mnA : LoopOk Try.prog ρ Try.f5.ntmps mnA_c mnA) : ∀ f i, btLook f ftsT = some i → LpsOk Try.prog ρ i.ntmps (lpLA f) i.body := by
  intro f i h
  have hi := fts_ok (f, i) (bt_of_mem _ _ (btLook_mem h))
  unfold lpLA
  split
  · rename_i hf
    have hf := Nat.eq_of_beq_eq_true hf
    subst hf
    exact lps_row hi Try.func9 (lpLA_9 h_nw)
  · split
    · rename_i hf
      have hf := Nat.eq_of_beq_eq_true hf
      subst hf
      exact lps_row hi Try.func5 (lpLA_5 h_mnA)
    · exact LpsOk.nil _ _ _ _
noncomputable def lpLB (f : Nat) : List LoopX := if Nat.beq f 9 = true then [nw] else if Nat.beq f 5 = true then [mnB] else []
theorem lpLB_9o : othersB [nw] [0] 0 (loopsOf (Try.f9.body.getD .skip)) = true := by kernel_rfl
theorem lpLB_9 {ρ : Rho} (h_nw : LoopOk Try.prog ρ Try.f9.ntmps nw_c nw) : LpsOk Try.prog ρ Try.f9.ntmps [nw] (Try.f9.body.getD .skip) :=
  lps_idx [0] lpLB_9o (List.forall_mem_cons.2 ⟨look_list (c := nw_c) (Ls := [nw]) (by kernel_rfl) (List.forall_mem_cons.2 ⟨h_nw, List.forall_mem_nil _⟩), List.forall_mem_nil _⟩)
theorem lpLB_5o : othersB [mnB] [0] 0 (loopsOf (Try.f5.body.getD .skip)) = true := by kernel_rfl
theorem lpLB_5 {ρ : Rho} (h_mnB : LoopOk Try.prog ρ Try.f5.ntmps mnB_c mnB) : LpsOk Try.prog ρ Try.f5.ntmps [mnB] (Try.f5.body.getD .skip) :=
  lps_idx [0] lpLB_5o (List.forall_mem_cons.2 ⟨look_list (c := mnB_c) (Ls := [mnB]) (by kernel_rfl) (List.forall_mem_cons.2 ⟨h_mnB, List.forall_mem_nil _⟩), List.forall_mem_nil _⟩)
theorem lpLB_ok {ρ : Rho} (h_nw : LoopOk Try.prog ρ Try.f9.ntmps nw_c nw) (h_mnB : LoopOk Try.prog ρ Try.f5.ntmps mnB_c mnB) : ∀ f i, btLook f ftsT = some i → LpsOk Try.prog ρ i.ntmps (lpLB f) i.body := by
  intro f i h
  have hi := fts_ok (f, i) (bt_of_mem _ _ (btLook_mem h))
  unfold lpLB
  split
  · rename_i hf
    have hf := Nat.eq_of_beq_eq_true hf
    subst hf
    exact lps_row hi Try.func9 (lpLB_9 h_nw)
  · split
    · rename_i hf
      have hf := Nat.eq_of_beq_eq_true hf
      subst hf
      exact lps_row hi Try.func5 (lpLB_5 h_mnB)
    · exact LpsOk.nil _ _ _ _
def enA : List X := [.agg (vi 0 9), iV 9, kyR, anR]
def ksM1 : List (Nat × List X × X) := [(8, [kyR, anR], .sc (.b (.lit true)))]
def ksR0 : List (Nat × List X × X) := [(8, [kyR, anR], .sc (.b (.lit false))), (32, [kyR], .sc (.b (.lit false)))]
def ksR1 : List (Nat × List X × X) := [(8, [kyR, anR], .sc (.b (.lit false))), (31, [.agg (vi 0 9)], .sc (.b (.lit false)))]
def ksR2 : List (Nat × List X × X) := [(8, [kyR, anR], .sc (.b (.lit false))), (31, [.agg (vi 0 9)], .sc (.b (.lit true)))]
def endF : Facts := [(.lt (.lit 6) (.len 2), false), (.lt (.len 2) (.lit 1), false), (.lt (.op .mul .i64 (.lit 2) (.len 2)) (.var 501), false), (.lt (.var 502) (.lit 0), false), (.lt (.lit 6) (.var 502), false), (.lt (.var 503) (.lit 0), false), (.lt (.lit 6) (.var 503), false), (.eq (.len 505) (.op .padd .i64 (.var 502) (.var 503)), true)]

def enM : T X := (.ret (.sc (.b (.lit true))))
theorem enM_run : askF ⟨cfgL ksM1 (fun _ => []), l_able, [9, 20, 33, 37, 58, 10010, 10011, 10013, 10014, 10023]⟩ 5 (enA) [] = enM := by kernel_rfl
def enR : T X := (.need (.not (.lt (.lit 8796093022208) (.len 2))) (.ret (.sc (.b (.lit true)))))
theorem enR_run : askF ⟨cfgL ksR0 (fun _ => []), l_able, [9, 20, 33, 37, 58, 10010, 10011, 10013, 10014, 10023]⟩ 5 (enA) [] = enR := by kernel_rfl
def enA1 : T X := (.need (.not (.lt (.len 505) (.op .padd .i64 (.var 502) (.var 503)))) (.ret (.sc (.b (.lit true)))))
theorem enA1_run : askF ⟨cfgL ksN lpLA, l_able, [9, 20, 33, 37, 58, 10010, 10011, 10013, 10014, 10023]⟩ 5 (enA) ((.lt (.lit 0) (.var 503), true) :: nrF ++ endF) = enA1 := by kernel_rfl
def enA21 : T X := (.need (.not (.lt (.len 505) (.op .padd .i64 (.var 502) (.var 503)))) (.ret (.sc (.b (.not (.lt (.var 501) (.len 2)))))))
theorem enA21_run : askF ⟨cfgL ksN lpLA, l_able, [9, 20, 33, 37, 58, 10010, 10011, 10013, 10014, 10023]⟩ 5 (enA) ((.eq (.len 2) (.lit 1), true) :: (.lt (.lit 0) (.var 503), false) :: (.lt (.var 501) (.len 2), false) :: nrF ++ endF) = enA21 := by kernel_rfl
def enA22 : T X := (.need (.not (.lt (.len 505) (.op .padd .i64 (.var 502) (.var 503)))) (.ret (.sc (.b (.not (.lt (.var 501) (.len 2)))))))
theorem enA22_run : askF ⟨cfgL ksN lpLA, l_able, [9, 20, 33, 37, 58, 10010, 10011, 10013, 10014, 10023]⟩ 5 (enA) ((.eq (.len 2) (.lit 2), true) :: (.lt (.lit 0) (.var 503), false) :: (.lt (.var 501) (.len 2), false) :: nrF ++ endF) = enA22 := by kernel_rfl
def enA23 : T X := (.need (.not (.lt (.len 505) (.op .padd .i64 (.var 502) (.var 503)))) (.ret (.sc (.b (.not (.lt (.var 501) (.len 2)))))))
theorem enA23_run : askF ⟨cfgL ksN lpLA, l_able, [9, 20, 33, 37, 58, 10010, 10011, 10013, 10014, 10023]⟩ 5 (enA) ((.eq (.len 2) (.lit 3), true) :: (.lt (.lit 0) (.var 503), false) :: (.lt (.var 501) (.len 2), false) :: nrF ++ endF) = enA23 := by kernel_rfl
def enA24 : T X := (.need (.not (.lt (.len 505) (.op .padd .i64 (.var 502) (.var 503)))) (.ret (.sc (.b (.not (.lt (.var 501) (.len 2)))))))
theorem enA24_run : askF ⟨cfgL ksN lpLA, l_able, [9, 20, 33, 37, 58, 10010, 10011, 10013, 10014, 10023]⟩ 5 (enA) ((.eq (.len 2) (.lit 4), true) :: (.lt (.lit 0) (.var 503), false) :: (.lt (.var 501) (.len 2), false) :: nrF ++ endF) = enA24 := by kernel_rfl
def enA25 : T X := (.need (.not (.lt (.len 505) (.op .padd .i64 (.var 502) (.var 503)))) (.ret (.sc (.b (.not (.lt (.var 501) (.len 2)))))))
theorem enA25_run : askF ⟨cfgL ksN lpLA, l_able, [9, 20, 33, 37, 58, 10010, 10011, 10013, 10014, 10023]⟩ 5 (enA) ((.eq (.len 2) (.lit 5), true) :: (.lt (.lit 0) (.var 503), false) :: (.lt (.var 501) (.len 2), false) :: nrF ++ endF) = enA25 := by kernel_rfl
def enA26 : T X := (.need (.not (.lt (.len 505) (.op .padd .i64 (.var 502) (.var 503)))) (.ret (.sc (.b (.not (.lt (.var 501) (.len 2)))))))
theorem enA26_run : askF ⟨cfgL ksN lpLA, l_able, [9, 20, 33, 37, 58, 10010, 10011, 10013, 10014, 10023]⟩ 5 (enA) ((.eq (.len 2) (.lit 6), true) :: (.lt (.lit 0) (.var 503), false) :: (.lt (.var 501) (.len 2), false) :: nrF ++ endF) = enA26 := by kernel_rfl
def enB : T X := (.ret (.sc (.b (.lit true))))
theorem enB_run : askF ⟨cfgL ksN lpLB, l_able, [9, 20, 33, 37, 58, 10010, 10011, 10013, 10014, 10023]⟩ 5 (enA) ((.lt (.op .mul .i64 (.lit 2) (.len 2)) (.var 501), false) :: (.eq (.var 520) (.lit 60), true) :: nrF) = enB := by kernel_rfl
def enN1 : T X := (.need (.not (.lt (.lit 8796093022208) (.len 2))) (.ret (.sc (.b (.lit true)))))
theorem enN1_run : askF ⟨cfgL ksR1 (fun _ => []), l_able, [9, 20, 33, 37, 58, 10010, 10011, 10013, 10014, 10023]⟩ 5 (enA) [] = enN1 := by kernel_rfl
def enN2 : T X := (.need (.not (.lt (.lit 8796093022208) (.len 2))) (.ret (.sc (.b (.lit true)))))
theorem enN2_run : askF ⟨cfgL ksR2 (fun _ => []), l_able, [9, 20, 33, 37, 58, 10010, 10011, 10013, 10014, 10023]⟩ 5 (enA) [(.lt (.var 9) (.lit 1), true)] = enN2 := by kernel_rfl
def enN3 : T X := (.need (.not (.lt (.lit 8796093022208) (.len 2))) (.ret (.sc (.b (.lit true)))))
theorem enN3_run : askF ⟨cfgL ksR2 (fun _ => []), l_able, [9, 20, 33, 37, 58, 10010, 10011, 10013, 10014, 10023]⟩ 5 (enA) [(.lt (.lit 3) (.var 9), true)] = enN3 := by kernel_rfl
end Go.Proofs.Ytdlifdoglhhnfaa

/- What functions answer, run over letters, where something is known; each shown by running it. -/
namespace Go.Proofs.Ytdlifdoglhhnfaa
open Go Go.Proofs.Aw Go.Proofs.Xw

abbrev zTM9_0 : BE := .and (.not (.lt (.var 552) (.lit 0))) (.lt (.var 552) (.lit 3))
abbrev zTM9_1 : BE := .eq (.var 552) (.lit 0)
abbrev zTM9_2 : BE := .eq (.var 552) (.lit 1)
abbrev zTM9_3 : IE := .cl 3 2 (.var 500)
abbrev zTM9_4 : IE := .cl 3 3 (.var 500)
abbrev zTM9_5 : BE := .and (.and (.and (.not (.lt zTM9_3 (.lit 0))) (.lt zTM9_3 (.lit 3))) (.not (.lt zTM9_4 (.lit 0)))) (.lt zTM9_4 (.lit 3))
abbrev zTM9_6 : BE := .eq zTM9_3 (.lit 0)
abbrev zTM9_7 : BE := .eq zTM9_4 (.lit 0)
abbrev zTM9_8 : BE := .and zTM9_6 zTM9_7
abbrev zTM9_9 : IE := .op .max .i64 (.lit 0) (.cl 3 11 (.var 500))
abbrev zTM9_10 : BE := .eq zTM9_4 (.lit 1)
abbrev zTM9_11 : BE := .and zTM9_6 zTM9_10
abbrev zTM9_12 : IE := .op .max .i64 (.lit 0) (.cl 3 12 (.var 500))
abbrev zTM9_13 : IE := .op .max .i64 (.lit 0) (.cl 3 13 (.var 500))
abbrev zTM9_14 : BE := .eq zTM9_3 (.lit 1)
abbrev zTM9_15 : BE := .and zTM9_14 zTM9_7
abbrev zTM9_16 : IE := .op .max .i64 (.lit 0) (.cl 3 14 (.var 500))
abbrev zTM9_17 : BE := .and zTM9_14 zTM9_10
abbrev zTM9_18 : IE := .op .max .i64 (.lit 0) (.cl 3 15 (.var 500))
abbrev zTM9_19 : IE := .op .max .i64 (.lit 0) (.cl 3 16 (.var 500))
abbrev zTM9_20 : IE := .op .max .i64 (.lit 0) (.cl 3 17 (.var 500))
abbrev zTM9_21 : IE := .op .max .i64 (.lit 0) (.cl 3 18 (.var 500))
abbrev zTM9_22 : IE := .op .max .i64 (.lit 0) (.cl 3 19 (.var 500))
abbrev zTM9_23 : IE := .op .max .i64 (.ite zTM9_8 zTM9_9 (.ite zTM9_11 zTM9_12 (.ite zTM9_6 zTM9_13 (.ite zTM9_15 zTM9_16 (.ite zTM9_17 zTM9_18 (.ite zTM9_14 zTM9_19 (.ite zTM9_7 zTM9_20 (.ite zTM9_10 zTM9_21 zTM9_22)))))))) (.cl 3 4 (.var 500))
def ptR : T X := (.ret (.agg [(.sc (.i .i64 (.ite zTM9_0 (.ite zTM9_1 (.var 532) (.ite zTM9_2 (.var 533) (.var 534))) (.lit 0)))), (.sc (.i .i64 (.ite zTM9_0 (.ite zTM9_1 (.var 535) (.ite zTM9_2 (.var 536) (.var 537))) (.lit 0)))), (.sc (.i .i64 (.ite zTM9_0 (.ite zTM9_1 (.var 538) (.ite zTM9_2 (.var 539) (.var 540))) (.lit 0))))]))
theorem ptR_run : askF ⟨cfgL [] (fun _ => []), l_able, []⟩ 19 ([.agg (vi 532 9), iV 552]) [] = ptR := by kernel_rfl
def psR : T X := (.ret (.agg [(.sc (.i .i64 (.ite zTM9_5 (.ite zTM9_8 zTM9_23 zTM9_9) zTM9_9))), (.sc (.i .i64 (.ite zTM9_5 (.ite zTM9_8 zTM9_12 (.ite zTM9_11 zTM9_23 zTM9_12)) zTM9_12))), (.sc (.i .i64 (.ite zTM9_5 (.ite zTM9_8 zTM9_13 (.ite zTM9_11 zTM9_13 (.ite zTM9_6 zTM9_23 zTM9_13))) zTM9_13))), (.sc (.i .i64 (.ite zTM9_5 (.ite zTM9_8 zTM9_16 (.ite zTM9_11 zTM9_16 (.ite zTM9_6 zTM9_16 (.ite zTM9_15 zTM9_23 zTM9_16)))) zTM9_16))), (.sc (.i .i64 (.ite zTM9_5 (.ite zTM9_8 zTM9_18 (.ite zTM9_11 zTM9_18 (.ite zTM9_6 zTM9_18 (.ite zTM9_15 zTM9_18 (.ite zTM9_17 zTM9_23 zTM9_18))))) zTM9_18))), (.sc (.i .i64 (.ite zTM9_5 (.ite zTM9_8 zTM9_19 (.ite zTM9_11 zTM9_19 (.ite zTM9_6 zTM9_19 (.ite zTM9_15 zTM9_19 (.ite zTM9_17 zTM9_19 (.ite zTM9_14 zTM9_23 zTM9_19)))))) zTM9_19))), (.sc (.i .i64 (.ite zTM9_5 (.ite zTM9_8 zTM9_20 (.ite zTM9_11 zTM9_20 (.ite zTM9_6 zTM9_20 (.ite zTM9_15 zTM9_20 (.ite zTM9_17 zTM9_20 (.ite zTM9_14 zTM9_20 (.ite zTM9_7 zTM9_23 zTM9_20))))))) zTM9_20))), (.sc (.i .i64 (.ite zTM9_5 (.ite zTM9_8 zTM9_21 (.ite zTM9_11 zTM9_21 (.ite zTM9_6 zTM9_21 (.ite zTM9_15 zTM9_21 (.ite zTM9_17 zTM9_21 (.ite zTM9_14 zTM9_21 (.ite zTM9_7 zTM9_21 (.ite zTM9_10 zTM9_23 zTM9_21)))))))) zTM9_21))), (.sc (.i .i64 (.ite zTM9_5 (.ite zTM9_8 zTM9_22 (.ite zTM9_11 zTM9_22 (.ite zTM9_6 zTM9_22 (.ite zTM9_15 zTM9_22 (.ite zTM9_17 zTM9_22 (.ite zTM9_14 zTM9_22 (.ite zTM9_7 zTM9_22 (.ite zTM9_10 zTM9_22 zTM9_23)))))))) zTM9_22)))]))
theorem psR_run : askF ⟨cfgL [] (fun _ => []), l_able, []⟩ 16 ([.ro 20 [enC 3 (.var 500)] true]) [] = psR := by kernel_rfl
def cvR : T X := (.ret (.sc (.b (.not (.or (.or (.lt (.var 510) (.var 580)) (.or (.lt (.var 511) (.var 581)) (.lt (.var 512) (.var 582)))) (.or (.or (.lt (.var 513) (.var 583)) (.or (.lt (.var 514) (.var 584)) (.lt (.var 515) (.var 585)))) (.or (.lt (.var 516) (.var 586)) (.or (.lt (.var 517) (.var 587)) (.lt (.var 518) (.var 588))))))))))
theorem cvR_run : askF ⟨cfgL [] (fun _ => []), l_able, []⟩ 15 ([.agg (vi 510 9), .agg (vi 580 9)]) [] = cvR := by kernel_rfl
end Go.Proofs.Ytdlifdoglhhnfaa

/- Txn: what TxnEnds' inner loops keep. -/
namespace Go.Proofs.Ytdlifdoglhhnfaa
open Go Go.Proofs.Aw Go.Proofs.Xw Go.Proofs.Sr
set_option maxRecDepth 100000
theorem ap_ci {β : Bind} {ρ : Rho} {l k : Nat} {m : IE} {r : RL} (h : lassoc l β.r = some (m, r)) (j : Nat) : (β.ap ρ).ci l k j = cellI (r.row ρ j)[k]? := by simp only [Bind.ap, h]
theorem row_i (ρ : Rho) (l j : Nat) : cellI ((RL.var l [.i .i64]).row ρ j)[0]? = ρ.ci l 0 j := by
  simp only [RL.row, cellsV, List.getElem?_cons_zero, cellI, Int.toNat_natCast]
theorem row_one (ρ : Rho) (x : IE) (j : Int) : cellI ((RL.one [.i .i64 x]).row ρ j)[0]? = x.den ρ := by
  simp only [RL.row, scL, List.map_cons, List.map_nil, List.getElem?_cons_zero, Sc.den, cellI]
theorem row_app (ρ : Rho) (l j : Nat) (x : IE) : cellI ((RL.app (.len l) (.var l [.i .i64]) (.one [.i .i64 x])).row ρ j)[0]? = if j < ρ.len l then ρ.ci l 0 j else x.den ρ := by
  simp only [RL.row]
  by_cases c : j < ρ.len l
  · rw [if_pos (show (j : Int) < (IE.len l).den ρ from by simp only [IE.den]; omega), if_pos c]; exact row_i ρ l j
  · rw [if_neg (show ¬ (j : Int) < (IE.len l).den ρ from by simp only [IE.den]; omega), if_neg c]; exact row_one ρ x 0
theorem inc {ρ : Rho} {k j : Nat} (h : ρ.i k = j) (hj : j < 4611686018427387904) : (IE.op .add .i64 (.var k) (.lit 1)).den ρ = ((j + 1 : Nat) : Int) := by
  show IOp.den .add .i64 (ρ.i k) 1 = _
  rw [h]; simp only [IOp.den]; rw [wrap_id _ (by omega) (by omega)]; omega
/-! ### New's loop -/
def nwS : Nat → XS
  | 0 => nw_S0
  | _ => nw_S1
def nwR (n : Nat) (s : Nat) (ρ : Rho) : Prop := ρ.len 2 = n ∧ match s with
  | 0 => True
  | _ => ∃ k : Nat, 1 ≤ k ∧ k ≤ n ∧ ρ.i 460 = k ∧ ρ.len 461 = k ∧ ∀ j, j < k → ρ.ci 461 0 j = j
theorem nwF_ok {ρ : Rho} {n : Nat} (h : ρ.len 2 = n) (h1 : 1 ≤ n) (h6 : n ≤ 6) : Facts.ok ρ nwF :=
  Facts.ok_cons (by rw [dlt_f]; simp only [IE.den]; omega) (Facts.ok_cons (by rw [dlt_f]; simp only [IE.den]; omega) (Facts.ok_nil _))
theorem nw_ok (ρ : Rho) (n : Nat) (h : ρ.len 2 = n) (h1 : 1 ≤ n) (h6 : n ≤ 6) : ∃ ρf, Agree 460 ρ ρf ∧ (ρf.len 461 = n ∧ ∀ j, j < n → ρf.ci 461 0 j = j) ∧ LoopOk Try.prog ρf Try.f9.ntmps nw_c nw := by
  suffices hh : ∃ (_ : Nat) (ρf : Rho), Agree nw.n ρ ρf ∧ (ρf.len 461 = n ∧ ∀ j, j < n → ρf.ci 461 0 j = j) ∧ LoopOk Try.prog ρf Try.f9.ntmps nw_c nw by
    obtain ⟨_, ρf, h1, h2, h3⟩ := hh
    exact ⟨ρf, h1, h2, h3⟩
  have a0 := Bind.agree nw_I0g ρ
  refine loopOk_famE (L := nw) (N := Try.f9.ntmps) (body := nw_c) (P := Try.prog) rfl nw_Eb nwS (nwR n) (fun _ ρ' => ρ'.len 461 = n ∧ ∀ j, j < n → ρ'.ci 461 0 j = j) (fun s ρ' => match s with
    | 0 => n + 1
    | _ => (n - ρ'.i 460).toNat) ?_
    ⟨0, nw_I0.ap ρ, a0, ⟨by rw [← a0.len 2 (by decide)]; exact h, trivial⟩, fun E _ hE => okS_imp hE nw_I0ok ρ⟩
  intro s ρ' hR
  match s, hR with
  | 0, ⟨hl, _⟩ =>
    have ag : Agree 460 ρ' (nw_A_b.ap ρ') := Bind.agree nw_A_g _
    refine .inr ⟨1, nw_A_b.ap ρ', nw_A_step rfl (cN_ok _) (LpsOk.nil _ _ _ _) (nwF_ok hl h1 h6), ?_, ?_, ag⟩
    · refine ⟨by rw [← ag.len 2 (by decide)]; exact hl, 1, Nat.le_refl _, h1, ap_i nw_A_460, ap_len nw_A_r461, fun j hj => ?_⟩
      obtain rfl : j = 0 := by omega
      rw [ap_ci nw_A_r461]
      exact row_one _ _ _
    · show (_ : Int).toNat < n + 1
      have : (nw_A_b.ap ρ').i 460 = 1 := ap_i nw_A_460
      rw [this]; omega
  | s + 1, ⟨hl, k, k1, k2, hi, hk, hc⟩ =>
    by_cases c : k < n
    · have ag : Agree 460 ρ' (nw_B_b.ap ρ') := Bind.agree nw_B_g _
      have e : (nw_B_b.ap ρ').i 460 = ((k + 1 : Nat) : Int) := (ap_i nw_B_460).trans (inc hi (by omega))
      refine .inr ⟨1, nw_B_b.ap ρ', nw_B_step rfl (cN_ok _) (LpsOk.nil _ _ _ _) (Facts.ok_cons (by rw [dlt_t]; simp only [IE.den]; omega) (Facts.ok_cons (by rw [dlt_f]; simp only [IE.den]; omega) (Facts.ok_cons (by rw [dlt_f]; simp only [IE.den]; omega) (nwF_ok hl h1 h6)))), ?_, ?_, ag⟩
      · refine ⟨by rw [← ag.len 2 (by decide)]; exact hl, k + 1, by omega, c, e, ?_, fun j hj => ?_⟩
        · rw [ap_len nw_B_r461]
          show ((ρ'.len 461 : Int) + 1).toNat = _
          rw [hk]; omega
        · rw [ap_ci nw_B_r461, row_app, hk]
          by_cases q : j < k
          · rw [if_pos q]; exact hc j q
          · rw [if_neg q]; show ρ'.i 460 = _; rw [hi]; omega
      · show (_ : Int).toNat < (_ : Int).toNat
        rw [e, hi]; omega
    · obtain rfl : k = n := by omega
      refine .inl ⟨ρ', Agree.refl _ _, ⟨hk, hc⟩, rfl, ?_⟩
      exact nw_X_end (cN_ok _) (LpsOk.nil _ _ _ _) (Facts.ok_cons (by rw [dlt_f]; simp only [IE.den]; omega) (nwF_ok hl h1 h6)) rfl
/-! ### Turn's first loop -/
/-- What the run of TxnEnds does not turn. -/
structure EnF (ρ : Rho) (n m : Nat) (g : Nat → ByteArray) : Prop where
  en : ρ.len 2 = n
  em : ρ.len 3 = m
  eg : stR ρ 2 = g
  n1 : 1 ≤ n
  n6 : n ≤ 6
  mb : m < 4611686018427387904
  r1 : 1 ≤ ρ.i 9
  r3 : ρ.i 9 ≤ 3
  z : ∀ j, j < n → (g j).size < 9223372036854775808
theorem EnF.agree {ρ ρ' : Rho} {n m k : Nat} {g : Nat → ByteArray} (h : EnF ρ n m g) (ag : Agree k ρ ρ') (hk : 10 ≤ k) : EnF ρ' n m g :=
  ⟨by rw [← ag.len 2 (by omega)]; exact h.en, by rw [← ag.len 3 (by omega)]; exact h.em, by rw [agree_st ag (by omega)]; exact h.eg, h.n1, h.n6, h.mb, by rw [← ag.i 9 (by omega)]; exact h.r1, by rw [← ag.i 9 (by omega)]; exact h.r3, h.z⟩
/-- The last key of the first round is asked for. -/
structure LastA (ρ : Rho) (n m : Nat) (g : Nat → ByteArray) (off : Nat) : Prop where
  f : EnF ρ n m g
  o : ρ.i 502 = off
  l : ρ.i 503 = 1
  r : ρ.i 519 = 1
  t : ρ.len 505 = off + 1
  on : off + 1 = n
  c0 : 0 ≤ ρ.ci 505 0 off
  c1 : ρ.ci 505 0 off < n
theorem LastA.agree {ρ ρ' : Rho} {n m k off : Nat} {g : Nat → ByteArray} (h : LastA ρ n m g off) (ag : Agree k ρ ρ') (hk : 530 ≤ k) : LastA ρ' n m g off :=
  ⟨h.f.agree ag (by omega), by rw [← ag.i 502 (by omega)]; exact h.o, by rw [← ag.i 503 (by omega)]; exact h.l, by rw [← ag.i 519 (by omega)]; exact h.r, by rw [← ag.len 505 (by omega)]; exact h.t, h.on, by rw [← ag.ci 505 (by omega)]; exact h.c0, by rw [← ag.ci 505 (by omega)]; exact h.c1⟩
theorem cl_i {ρ : Rho} {l k : Nat} {e : IE} {j : Nat} (h : e.den ρ = j) : (IE.cl l k e).den ρ = ρ.ci l k j := by
  show ρ.ci l k (e.den ρ).toNat = _; rw [h, Int.toNat_natCast]
theorem cl_b {ρ : Rho} {l k : Nat} {e : IE} {j : Nat} (h : e.den ρ = j) : (BE.cl l k e).den ρ = ρ.cb l k j := by
  show ρ.cb l k (e.den ρ).toNat = _; rw [h, Int.toNat_natCast]
theorem tnP_ok {ρ : Rho} {n m off : Nat} {g : Nat → ByteArray} (h : LastA ρ n m g off) : Facts.ok ρ tnP := by
  have h1 := h.f.en; have h2 := h.f.n1; have h3 := h.f.n6; have h4 := h.o; have h5 := h.l; have h6 := h.r; have h7 := h.t; have h8 := h.on; have h9 := h.c0; have ha := h.c1
  have hc : (IE.cl 505 0 (.var 502)).den ρ = ρ.ci 505 0 off := cl_i h4
  refine Facts.ok_cons (by rw [dlt_f]; simp only [IE.den]; omega) (Facts.ok_cons (by rw [dlt_f]; simp only [IE.den]; omega) (Facts.ok_cons (by rw [dlt_f, hc]; exact h9) (Facts.ok_cons (by rw [dlt_t, hc]; simp only [IE.den]; omega) (Facts.ok_cons (by rw [deq_t]; exact h6) (Facts.ok_cons (by rw [deq_t]; exact h5) (Facts.ok_cons (by rw [dlt_f]; simp only [IE.den]; omega) (Facts.ok_cons (by rw [dlt_f]; simp only [IE.den]; omega) (Facts.ok_cons ?_ (Facts.ok_nil _)))))))))
  rw [deq_t]
  show (ρ.len 505 : Int) = ρ.i 502 + ρ.i 503
  omega
theorem t1_m (k : Nat) (hk : k < 9) : ∃ c p, lassoc (532 + k) t1_b.i = some (.ite c (.op .max .i64 (.op .max .i64 (.lit 0) (.var (532 + k))) p) (.var (532 + k))) := by
  match k, hk with
  | 0, _ => exact ⟨_, _, rfl⟩
  | 1, _ => exact ⟨_, _, rfl⟩
  | 2, _ => exact ⟨_, _, rfl⟩
  | 3, _ => exact ⟨_, _, rfl⟩
  | 4, _ => exact ⟨_, _, rfl⟩
  | 5, _ => exact ⟨_, _, rfl⟩
  | 6, _ => exact ⟨_, _, rfl⟩
  | 7, _ => exact ⟨_, _, rfl⟩
  | 8, _ => exact ⟨_, _, rfl⟩
theorem t1_i0 (k : Nat) (hk : k < 9) : lassoc (532 + k) t1_i.i = some (.var (510 + k)) := by
  match k, hk with
  | 0, _ => rfl
  | 1, _ => rfl
  | 2, _ => rfl
  | 3, _ => rfl
  | 4, _ => rfl
  | 5, _ => rfl
  | 6, _ => rfl
  | 7, _ => rfl
  | 8, _ => rfl
theorem t1_up (ρ : Rho) (k : Nat) (hk : k < 9) : ∀ j : Nat, ρ.i (510 + k) ≤ (t1_b.it (t1_i.ap ρ) j).i (532 + k)
  | 0 => by
    show _ ≤ (t1_i.ap ρ).i (532 + k)
    rw [ap_i (t1_i0 k hk)]; exact Int.le_refl _
  | j + 1 => by
    refine Int.le_trans (t1_up ρ k hk j) ?_
    obtain ⟨c, p, e⟩ := t1_m k hk
    show _ ≤ (t1_b.ap (t1_b.it (t1_i.ap ρ) j)).i (532 + k)
    rw [ap_i e]
    generalize t1_b.it (t1_i.ap ρ) j = ρ1
    show ρ1.i (532 + k) ≤ if c.den ρ1 = true then max (max 0 (ρ1.i (532 + k))) (p.den ρ1) else ρ1.i (532 + k)
    split <;> omega
theorem t1_ok (ρ : Rho) {n m off : Nat} {g : Nat → ByteArray} (h : LastA ρ n m g off) : ∃ ρf, Agree 530 ρ ρf ∧ (ρf.i 531 = n ∧ ∀ k, k < 9 → ρf.i (510 + k) ≤ ρf.i (532 + k)) ∧ LoopOk Try.prog ρf Try.f34.ntmps t1_c t1 := by
  have ag := (Bind.agree t1_ig ρ).trans (Bind.it_agree t1_bg (t1_i.ap ρ) n)
  refine ⟨t1_b.it (t1_i.ap ρ) n, ag, ⟨it_count (e := .lit 0) rfl (by rfl) _ (by have := h.f.n6; omega), fun k hk => by rw [← ag.i (510 + k) (by omega)]; exact t1_up ρ k hk n⟩, ?_⟩
  exact loopOk_cntE mixed tis_ok t1_run t1_fits t1_back rfl 541 t1_bel t1_ib t1_bg t1_same (I := 531) (e := .len 2) rfl (by intro h; cases h) rfl rfl (by kernel_rfl) (Φ0 := tnP) rfl (by kernel_rfl) (tnP_ok h) t1_ig (fun _ => callS_ok (c := ⟨cfgL [] (fun _ => []), l_able, _⟩) (cfgL_ok (List.forall_mem_nil _) (fun _ _ _ => LpsOk.nil _ _ _ _)) l_able_ok 12) (fun _ => LpsOk.nil _ _ _ _) _ (by have := h.f.n6; omega) (by simp only [IE.den, h.f.en])
end Go.Proofs.Ytdlifdoglhhnfaa

/- Txn: what is to be read again, behind the first round. -/
namespace Go.Proofs.Ytdlifdoglhhnfaa
open Go Go.Proofs.Aw Go.Proofs.Xw Go.Proofs.Sr
set_option maxRecDepth 100000
theorem pt_run : ∃ a b c : IE, ptR = .ret (.agg [.sc (.i .i64 a), .sc (.i .i64 b), .sc (.i .i64 c)]) := ⟨_, _, _, rfl⟩
/-- A column of the cut. -/
theorem part_cy (ρ : Rho) : ∃ a b c : Int, hasBody Try.prog 19 = true ∧ ∀ n h, CY Try.prog n 19 (X.denL ρ [.agg (vi 532 9), .sc (.i .i64 (.var 552))]) h (.agg [.sc (.int .i64 a), .sc (.int .i64 b), .sc (.int .i64 c)]) [] := by
  obtain ⟨a, b, c, e⟩ := pt_run
  have q := askF_ok (c := ⟨cfgL [] (fun _ => []), l_able, []⟩) (f := 19) (args := [.agg (vi 532 9), iV 552]) (Φ := []) (cN_ok ρ) l_able_ok (Facts.ok_nil ρ) (by rw [ptR_run, e]; exact rfl)
  exact ⟨_, _, _, q⟩
/-- With some letters put. -/
def putI (ρ : Rho) (v : List (Nat × Int)) : Rho := { ρ with i := fun k => match lassoc k v with | some x => x | none => ρ.i k }
def putB (ρ : Rho) (k : Nat) (b : Bool) : Rho := { ρ with b := fun j => if j = k then b else ρ.b j }
theorem putI_agree (ρ : Rho) {v : List (Nat × Int)} {n : Nat} (h : keysGe n v = true) : Agree n ρ (putI ρ v) :=
  ⟨fun k hk => by simp only [putI, lassoc_ge h hk], fun _ _ => rfl, fun _ _ => rfl, fun _ _ => rfl, fun _ _ => rfl, fun _ _ => rfl, fun _ _ => rfl⟩
theorem putB_agree (ρ : Rho) {k n : Nat} {b : Bool} (h : n ≤ k) : Agree n ρ (putB ρ k b) :=
  ⟨fun _ _ => rfl, fun j hj => by show _ = if j = k then _ else _; rw [if_neg (by omega)], fun _ _ => rfl, fun _ _ => rfl, fun _ _ => rfl, fun _ _ => rfl, fun _ _ => rfl⟩
def t2S : Nat → XS
  | 0 => t2_S0
  | _ => t2_S1
/-- What is to be read again is told by keys' numbers. -/
def Again (ρ : Rho) (l n c : Nat) : Prop := ρ.len l = c ∧ ∀ j, j < c → 0 ≤ ρ.ci l 0 j ∧ ρ.ci l 0 j < n
theorem Again.agree {ρ ρ' : Rho} {k l n c : Nat} (h : Again ρ l n c) (ag : Agree k ρ ρ') (hl : l < k) : Again ρ' l n c :=
  ⟨by rw [← ag.len l hl]; exact h.1, by rw [← ag.ci l hl]; exact h.2⟩
theorem Again.app {ρ : Rho} {β : Bind} {l n c : Nat} {x : IE} (h : Again ρ l n c) (hr : lassoc l β.r = some (.op .padd .i64 (.len l) (.lit 1), .app (.len l) (.var l [.i .i64]) (.one [.i .i64 x]))) (h0 : 0 ≤ x.den ρ) (h1 : x.den ρ < n) : Again (β.ap ρ) l n (c + 1) := by
  refine ⟨?_, fun j hj => ?_⟩
  · rw [ap_len hr]
    show ((ρ.len l : Int) + 1).toNat = _
    rw [h.1]; omega
  · rw [ap_ci hr, row_app, h.1]
    split
    · exact h.2 j (by omega)
    · exact ⟨h0, h1⟩
theorem Again.one {ρ : Rho} {β : Bind} {l n : Nat} {x : IE} (hr : lassoc l β.r = some (.lit 1, .one [.i .i64 x])) (h0 : 0 ≤ x.den ρ) (h1 : x.den ρ < n) : Again (β.ap ρ) l n 1 := by
  refine ⟨ap_len hr, fun j hj => ?_⟩
  rw [ap_ci hr, row_one]
  exact ⟨h0, h1⟩
def t2R (n m off : Nat) (g : Nat → ByteArray) (s : Nat) (ρ : Rho) : Prop := LastA ρ n m g off ∧ ∃ j : Nat, ρ.i 550 = j ∧ j ≤ n ∧ match s with
  | 0 => True
  | _ => ∃ c : Nat, 1 ≤ c ∧ c ≤ j ∧ Again ρ 551 n c
theorem t2_ok (ρ : Rho) {n m off : Nat} {g : Nat → ByteArray} (h : LastA ρ n m g off) : ∃ ρf, Agree 550 ρ ρf ∧ (ρf.b 556 = true ∨ (ρf.b 556 = false ∧ ∃ c : Nat, 1 ≤ c ∧ c ≤ n ∧ Again ρf 551 n c)) ∧ LoopOk Try.prog ρf Try.f34.ntmps t2_c t2 := by
  suffices hh : ∃ (_ : Nat) (ρf : Rho), Agree t2.n ρ ρf ∧ (ρf.b 556 = true ∨ (ρf.b 556 = false ∧ ∃ c : Nat, 1 ≤ c ∧ c ≤ n ∧ Again ρf 551 n c)) ∧ LoopOk Try.prog ρf Try.f34.ntmps t2_c t2 by
    obtain ⟨_, ρf, h1, h2, h3⟩ := hh
    exact ⟨ρf, h1, h2, h3⟩
  have a0 := Bind.agree t2_I0g ρ
  have hn := h.f.n6
  refine loopOk_famE (L := t2) (N := Try.f34.ntmps) (body := t2_c) (P := Try.prog) rfl t2_Eb t2S (t2R n m off g) (fun _ ρ' => ρ'.b 556 = true ∨ (ρ'.b 556 = false ∧ ∃ c : Nat, 1 ≤ c ∧ c ≤ n ∧ Again ρ' 551 n c)) (fun _ ρ' => (n - ρ'.i 550).toNat) ?_
    ⟨0, t2_I0.ap ρ, a0, ⟨h.agree a0 (by decide), 0, ap_i t2_I0_550, Nat.zero_le _, trivial⟩, fun E _ hE => okS_imp hE t2_I0ok ρ⟩
  rintro s ρ' ⟨hA, j, hj, hjn, hs⟩
  have hen := hA.f.en
  by_cases c : j < n
  · -- one more key
    obtain ⟨a, b, d, hp⟩ := part_cy { ρ' with i := fun k => if k = 552 then sec (ρ'.i 9) (pt (g j)) else ρ'.i k }
    generalize hq : sec (ρ'.i 9) (pt (g j)) = q at hp
    have hof := of_cy (g j) (hA.f.z j c) (ρ'.i 9) ⟨hA.f.r1, hA.f.r3⟩
    unfold OfG at hof
    rw [hq] at hof
    generalize e1 : putI ρ' [(552, q), (553, a), (554, b), (555, d)] = ρ1
    have ag : Agree 552 ρ' ρ1 := by rw [← e1]; exact putI_agree ρ' rfl
    have i552 : ρ1.i 552 = q := by rw [← e1]; rfl
    have i553 : ρ1.i 553 = a := by rw [← e1]; rfl
    have i554 : ρ1.i 554 = b := by rw [← e1]; rfl
    have i555 : ρ1.i 555 = d := by rw [← e1]; rfl
    have i550 : ρ1.i 550 = j := by rw [← ag.i 550 (by decide)]; exact hj
    have hA1 : LastA ρ1 n m g off := hA.agree ag (by decide)
    have cok : CfgOk Try.prog ρ1 (cfgL ksOf (fun _ => [])) := cK_ok (List.forall_mem_cons.2 ⟨⟨hof.1, fun k hp => by
        show CY Try.prog k 17 (X.denL ρ1 [.sc (.s (.cl 2 0 (.var 550))), .sc (.i .i64 (.var 9))]) hp (X.den ρ1 (.sc (.i .i64 (.var 552)))) []
        have e : (TE.cl 2 0 (.var 550)).den ρ1 = g j := by rw [sl_den (ρ := ρ1) (e := .var 550) (n := j) i550, hA1.f.eg]
        simp only [X.denL, X.den, Sc.den, e, IE.den, i552, ← ag.i 9 (by decide)]
        exact hof.2 k hp⟩, List.forall_mem_cons.2 ⟨⟨hp.1, fun k hp' => by
        show CY Try.prog k 19 (X.denL ρ1 [.agg (vi 532 9), .sc (.i .i64 (.var 552))]) hp' (X.den ρ1 (.agg (vi 553 3))) []
        have := hp.2 k hp'
        have e2 : X.denL { ρ' with i := fun k => if k = 552 then q else ρ'.i k } [.agg (vi 532 9), .sc (.i .i64 (.var 552))] = X.denL ρ1 [.agg (vi 532 9), .sc (.i .i64 (.var 552))] := by rw [← e1]; rfl
        have e3 : X.den ρ1 (.agg (vi 553 3)) = .agg [.sc (.int .i64 a), .sc (.int .i64 b), .sc (.int .i64 d)] := by rw [← e1]; rfl
        rw [e2] at this
        rw [e3]
        exact this⟩, List.forall_mem_nil _⟩⟩)
    have hlt : (BE.lt (.var 550) (.len 2)).den ρ1 = true := by rw [dlt_t]; simp only [IE.den, i550, hA1.f.en]; omega
    have fk : Facts.ok ρ1 t2F := Facts.ok_cons (by rw [dlt_f]; simp only [IE.den, i550]; omega) (Facts.ok_cons (by rw [dlt_f]; simp only [IE.den, hA1.f.en]; omega) (Facts.ok_nil _))
    have up : ∀ {β : Bind}, lassoc 550 β.i = some (.op .add .i64 (.var 550) (.lit 1)) → (β.ap ρ1).i 550 = ((j + 1 : Nat) : Int) := fun hb => (ap_i hb).trans (inc i550 (by omega))
    have down : ∀ {x : Rho}, x.i 550 = ((j + 1 : Nat) : Int) → (n - x.i 550).toNat < (n - ρ'.i 550).toNat := fun e => by rw [e, hj]; omega
    have ag5 : Agree 550 ρ' ρ1 := ag.le (by decide)
    match s, hs with
    | 0, _ =>
      have hd : t2_S0.den ρ' = t2_S0.den ρ1 := XS.bel_den ag t2_S0 (by kernel_rfl)
      cases hc : ncE.den ρ1 with
      | false =>
        have ag2 := ag5.trans (Bind.agree t2_Y0_g ρ1)
        exact .inr ⟨0, t2_Y0_b.ap ρ1, t2_Y0_step hd cok (LpsOk.nil _ _ _ _) (Facts.ok_cons hlt (Facts.ok_cons hc fk)), ⟨hA.agree ag2 (by decide), j + 1, up t2_Y0_550, c, trivial⟩, down (up t2_Y0_550), ag2⟩
      | true =>
        have ag2 := ag5.trans (Bind.agree t2_N0_g ρ1)
        refine .inr ⟨1, t2_N0_b.ap ρ1, t2_N0_step hd cok (LpsOk.nil _ _ _ _) (Facts.ok_cons hlt (Facts.ok_cons hc (Facts.ok_cons (by rw [deq_t]; exact hA1.l) (all_ok (tnP_ok hA1) fk)))) ?_, ⟨hA.agree ag2 (by decide), j + 1, up t2_N0_550, c, 1, Nat.le_refl _, by omega, Again.one t2_N0_r551 ?_ ?_⟩, down (up t2_N0_550), ag2⟩
        · rw [deq_t]
          show (ρ1.len 505 : Int) = (ρ1.i 502 + 1) + (ρ1.i 503 - 1)
          have := hA1.o; have := hA1.l; have := hA1.t
          omega
        · show 0 ≤ ρ1.i 550; rw [i550]; omega
        · show ρ1.i 550 < _; rw [i550]; omega
    | s + 1, ⟨k, k1, k2, hk⟩ =>
      have hd : t2_S1.den ρ' = t2_S1.den ρ1 := XS.bel_den ag t2_S1 (by kernel_rfl)
      have hk1 : Again ρ1 551 n k := hk.agree ag (by decide)
      cases hc : ncE.den ρ1 with
      | false =>
        have ag2 := ag5.trans (Bind.agree t2_Y1_g ρ1)
        refine .inr ⟨1, t2_Y1_b.ap ρ1, t2_Y1_step hd cok (LpsOk.nil _ _ _ _) (Facts.ok_cons hlt (Facts.ok_cons hc fk)), ⟨hA.agree ag2 (by decide), j + 1, up t2_Y1_550, c, k, k1, by omega, ?_⟩, down (up t2_Y1_550), ag2⟩
        refine ⟨?_, fun x hx => ?_⟩
        · rw [ap_len t2_Y1_r551]; show (ρ1.len 551 : Int).toNat = _; rw [hk1.1]; rfl
        · rw [ap_ci t2_Y1_r551, row_i]; exact hk1.2 x hx
      | true =>
        have ag2 := ag5.trans (Bind.agree t2_N1_g ρ1)
        refine .inr ⟨1, t2_N1_b.ap ρ1, t2_N1_step hd cok (LpsOk.nil _ _ _ _) (Facts.ok_cons hlt (Facts.ok_cons hc (Facts.ok_cons (by rw [dlt_f]; simp only [IE.den, hk1.1]; omega) fk))), ⟨hA.agree ag2 (by decide), j + 1, up t2_N1_550, c, k + 1, by omega, by omega, hk1.app t2_N1_r551 ?_ ?_⟩, down (up t2_N1_550), ag2⟩
        · show 0 ≤ ρ1.i 550; rw [i550]; omega
        · show ρ1.i 550 < _; rw [i550]; omega
  · obtain rfl : j = n := by omega
    match s, hs with
    | 0, _ =>
      have ag : Agree 556 ρ' (putB ρ' 556 true) := putB_agree ρ' (Nat.le_refl _)
      refine .inl ⟨putB ρ' 556 true, ag.le (by decide), .inl rfl, XS.bel_den ag t2_S0 (by kernel_rfl), ?_⟩
      exact t2_X0_end (cN_ok _) (LpsOk.nil _ _ _ _) (Facts.ok_cons (by show (BE.lt (.var 550) (.len 2)).den _ = false; rw [dlt_f]; show (ρ'.len 2 : Int) ≤ ρ'.i 550; omega) (Facts.ok_nil _)) rfl
    | s + 1, ⟨k, k1, k2, hk⟩ =>
      have ag : Agree 556 ρ' (putB ρ' 556 false) := putB_agree ρ' (Nat.le_refl _)
      refine .inl ⟨putB ρ' 556 false, ag.le (by decide), .inr ⟨rfl, k, k1, k2, hk⟩, XS.bel_den ag t2_S1 (by kernel_rfl), ?_⟩
      exact t2_X1_end (cN_ok _) (LpsOk.nil _ _ _ _) (Facts.ok_cons (by show (BE.lt (.var 550) (.len 2)).den _ = false; rw [dlt_f]; show (ρ'.len 2 : Int) ≤ ρ'.i 550; omega) (Facts.ok_nil _)) rfl
/-- The same loop, where its way out is known. -/
theorem one_way {ρ : Rho} {N : Nat} {c : Code} {L M : LoopX} (h : LoopOk Try.prog ρ N c L) (h0 : M.k0 = L.k0) (h1 : M.S = L.S) (h2 : M.init = L.init) (h3 : ∀ e s, L.out.sel ρ = some (e, s) → M.out.sel ρ = some (e, s)) : LoopOk Try.prog ρ N c M := by
  intro E hE hk
  rw [h1, h2]
  exact AW_mono (fun e σ hq => by
    obtain ⟨e', s, q1, q2, q3⟩ := hq
    exact ⟨e', s, h3 _ _ q1, q2, q3⟩) (h E hE (by rw [← h0]; exact hk))
theorem t2P_of {ρ : Rho} (h : LoopOk Try.prog ρ Try.f34.ntmps t2_c t2) (hb : ρ.b 556 = true) : LoopOk Try.prog ρ Try.f34.ntmps t2P_c t2P :=
  one_way h rfl rfl rfl fun e s hs => by
    have : t2_out.sel ρ = some (e, s) := hs
    unfold t2_out at this
    rw [T.sel, if_pos (show (BE.var 556).den ρ = true from hb)] at this
    exact this
theorem t2Q_of {ρ : Rho} (h : LoopOk Try.prog ρ Try.f34.ntmps t2_c t2) (hb : ρ.b 556 = false) : LoopOk Try.prog ρ Try.f34.ntmps t2Q_c t2Q :=
  one_way h rfl rfl rfl fun e s hs => by
    have : t2_out.sel ρ = some (e, s) := hs
    unfold t2_out at this
    rw [T.sel, if_neg (show ¬ (BE.var 556).den ρ = true from by rw [show (BE.var 556).den ρ = ρ.b 556 from rfl, hb]; decide)] at this
    exact this
end Go.Proofs.Ytdlifdoglhhnfaa
