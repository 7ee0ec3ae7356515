/- Parts of the proof, one behind the other. -/
import Derived.Test.YtdlifdoglhhnfaaTM9
import Derived.Test.YtdlifdoglhhnfaaXwM3
import Derived.Test.YtdlifdoglhhnfaaTM1
/- Txn: TxnSettles' last loop, key by key: what is run once. -/
namespace Go.Proofs.Ytdlifdoglhhnfaa
open Go Go.Proofs.Aw Go.Proofs.Xw
set_option maxRecDepth 100000
/-- The loop over the answers, where it ends alive; where a key was gone. -/
noncomputable def mnA_c : Code := mn_c
noncomputable def mnB_c : Code := mn_c
noncomputable def mnA : LoopX := ⟨((codeKey mn_c).getD 0), 0, 500, mn_E, noB, [], .ret (.exit 0, mn_X0_s)⟩
noncomputable def mnB : LoopX := ⟨((codeKey mn_c).getD 0), 0, 500, mn_E, noB, [], .ret (.exit 0, mn_Y0_s)⟩
noncomputable def lpLA (f : Nat) : List LoopX := if Nat.beq f 9 = true then [nw] else if Nat.beq f 3 = true then [mnA] else []
theorem lpLA_9o : othersB [nw] [0] 0 (loopsOf (Try.f9.body.getD .skip)) = true := by kernel_rfl
theorem lpLA_9 {ρ : Rho} (h_nw : LoopOk Try.prog ρ Try.f9.ntmps nw_c nw) : LpsOk Try.prog ρ Try.f9.ntmps [nw] (Try.f9.body.getD .skip) :=
  lps_idx [0] lpLA_9o (List.forall_mem_cons.2 ⟨look_list (c := nw_c) (Ls := [nw]) (by kernel_rfl) (List.forall_mem_cons.2 ⟨h_nw, List.forall_mem_nil _⟩), List.forall_mem_nil _⟩)
theorem lpLA_3o : othersB [mnA] [0] 0 (loopsOf (Try.f3.body.getD .skip)) = true := by kernel_rfl
theorem lpLA_3 {ρ : Rho} (h_mnA : LoopOk Try.prog ρ Try.f3.ntmps mnA_c mnA) : LpsOk Try.prog ρ Try.f3.ntmps [mnA] (Try.f3.body.getD .skip) :=
  lps_idx [0] lpLA_3o (List.forall_mem_cons.2 ⟨look_list (c := mnA_c) (Ls := [mnA]) (by kernel_rfl) (List.forall_mem_cons.2 ⟨h_mnA, List.forall_mem_nil _⟩), List.forall_mem_nil _⟩)
theorem lpLA_ok {ρ : Rho} (h_nw : LoopOk Try.prog ρ Try.f9.ntmps nw_c nw) (h_mnA : LoopOk Try.prog ρ Try.f3.ntmps mnA_c mnA) : ∀ f i, btLook f ftsT = some i → LpsOk Try.prog ρ i.ntmps (lpLA f) i.body := by
  intro f i h
  have hi := fts_ok (f, i) (bt_of_mem _ _ (btLook_mem h))
  unfold lpLA
  split
  · rename_i hf
    have hf := Nat.eq_of_beq_eq_true hf
    subst hf
    exact lps_row hi Try.func9 (lpLA_9 h_nw)
  · split
    · rename_i hf
      have hf := Nat.eq_of_beq_eq_true hf
      subst hf
      exact lps_row hi Try.func3 (lpLA_3 h_mnA)
    · exact LpsOk.nil _ _ _ _
noncomputable def lpLB (f : Nat) : List LoopX := if Nat.beq f 9 = true then [nw] else if Nat.beq f 3 = true then [mnB] else []
theorem lpLB_9o : othersB [nw] [0] 0 (loopsOf (Try.f9.body.getD .skip)) = true := by kernel_rfl
theorem lpLB_9 {ρ : Rho} (h_nw : LoopOk Try.prog ρ Try.f9.ntmps nw_c nw) : LpsOk Try.prog ρ Try.f9.ntmps [nw] (Try.f9.body.getD .skip) :=
  lps_idx [0] lpLB_9o (List.forall_mem_cons.2 ⟨look_list (c := nw_c) (Ls := [nw]) (by kernel_rfl) (List.forall_mem_cons.2 ⟨h_nw, List.forall_mem_nil _⟩), List.forall_mem_nil _⟩)
theorem lpLB_3o : othersB [mnB] [0] 0 (loopsOf (Try.f3.body.getD .skip)) = true := by kernel_rfl
theorem lpLB_3 {ρ : Rho} (h_mnB : LoopOk Try.prog ρ Try.f3.ntmps mnB_c mnB) : LpsOk Try.prog ρ Try.f3.ntmps [mnB] (Try.f3.body.getD .skip) :=
  lps_idx [0] lpLB_3o (List.forall_mem_cons.2 ⟨look_list (c := mnB_c) (Ls := [mnB]) (by kernel_rfl) (List.forall_mem_cons.2 ⟨h_mnB, List.forall_mem_nil _⟩), List.forall_mem_nil _⟩)
theorem lpLB_ok {ρ : Rho} (h_nw : LoopOk Try.prog ρ Try.f9.ntmps nw_c nw) (h_mnB : LoopOk Try.prog ρ Try.f3.ntmps mnB_c mnB) : ∀ f i, btLook f ftsT = some i → LpsOk Try.prog ρ i.ntmps (lpLB f) i.body := by
  intro f i h
  have hi := fts_ok (f, i) (bt_of_mem _ _ (btLook_mem h))
  unfold lpLB
  split
  · rename_i hf
    have hf := Nat.eq_of_beq_eq_true hf
    subst hf
    exact lps_row hi Try.func9 (lpLB_9 h_nw)
  · split
    · rename_i hf
      have hf := Nat.eq_of_beq_eq_true hf
      subst hf
      exact lps_row hi Try.func3 (lpLB_3 h_mnB)
    · exact LpsOk.nil _ _ _ _
def enA : List X := [.agg (vi 0 9), iV 9, kyR, anR]
def dnF : Facts := (.lt (.lit 0) (.var 503), false) :: (.lt (.var 503) (.lit 0), false) :: nrF ++ [(.lt (.var 502) (.lit 0), false), (.lt (.lit 6) (.var 502), false), (.eq (.len 505) (.op .padd .i64 (.var 502) (.var 503)), true)]
def ksF0 : List (Nat × List X × X) := [(17, [.sc (.s (.cl 2 0 (.var 600))), .sc (.i .i64 (.var 9))], .sc (.i .i64 (.var 620))), (19, [.agg (vi 510 9), .sc (.i .i64 (.var 620))], .agg (vi 621 3))]
def ksF1 : List (Nat × List X × X) := (16, [.ro 20 [enC 506 (.var 600)] true], .agg (vi 610 9)) :: (15, [.agg (vi 510 9), .agg (vi 610 9)], .sc (.b (.lit true))) :: ksF0
def inF : BE := .lt (.var 600) (.len 2)
def ncF : BE := .or (.lt (.cl 506 22 (.var 600)) (.var 621)) (.or (.lt (.cl 506 23 (.var 600)) (.var 622)) (.lt (.cl 506 24 (.var 600)) (.var 623)))
def twK : BE := .cl 507 0 (.var 600)
def hsK : BE := .cl 506 1 (.var 600)
def fnF : Facts := [(.lt (.var 600) (.lit 0), false), (.lt (.lit 6) (.len 2), false)]

noncomputable def fin_c : Code := (loopsOf (Try.f3.body.getD .skip))[2]?.getD .skip
theorem fin_fits : fitsC Try.f3.ntmps fin_c = true := by kernel_rfl
abbrev zTM10_0 : XTp := [(125, .top), (124, .top), (123, .top), (122, .top), (121, .top), (120, .top), (119, .top), (118, .top), (14, .top), (13, .top)]
abbrev zTM10_1 : XTp := [(12, (.slv (26, 0) 1 (.lit 0) (.len 2) true)), (41, .top), (40, .top), (39, .top), (11, (.slv (22, 0) 25 (.lit 0) (.len 2) true))]
abbrev zTM10_2 : XTp := [(38, .top), (37, .top), (36, .top), (35, .top), (34, .top), (10, .top)]
abbrev zTM10_3 : XTp := [(9, (.ptr (12, 0) [] 0))]
abbrev zTM10_4 : XTp := [(33, .top), (32, .top), (25, .top), (31, .top), (30, .top), (29, .top), (28, .top), (27, .top), (26, .top), (24, .top), (23, .top), (22, .top), (21, .top), (20, .top), (8, .top)]
abbrev zTM10_5 : List X := [(.sc (.i .i64 (.var 0))), (.sc (.i .i64 (.var 1))), (.sc (.i .i64 (.var 2))), (.sc (.i .i64 (.var 3))), (.sc (.i .i64 (.var 4))), (.sc (.i .i64 (.var 5))), (.sc (.i .i64 (.var 6))), (.sc (.i .i64 (.var 7))), (.sc (.i .i64 (.var 8)))]
abbrev zTM10_6 : List Kd := [(.i .i64), .b, (.i .i64), (.i .i64), (.i .i64), (.i .i64), (.i .i64), (.i .i64), .s, .s, .b, (.i .i64), (.i .i64), (.i .i64), (.i .i64), (.i .i64), (.i .i64), (.i .i64), (.i .i64), (.i .i64), (.i .i64), (.i .i64), (.i .i64), (.i .i64), (.i .i64)]
abbrev zTM10_7 : XTp := [(4, (.ptr (0, 0) [] 0)), (0, (.agg zTM10_5)), (1, (.sc (.i .i64 (.var 9)))), (2, (.rl 1 (.len 2) (.var 2 [.s]) false)), (3, (.rl 25 (.len 3) (.var 3 zTM10_6) false))]
abbrev zTM10_8 : XHp := [((0, 0), zTM10_5), ((12, 0), [(.sc (.i .i64 (.var 0))), (.sc (.i .i64 (.var 1))), (.sc (.i .i64 (.var 2))), (.sc (.i .i64 (.var 3))), (.sc (.i .i64 (.var 4))), (.sc (.i .i64 (.var 5))), (.sc (.i .i64 (.var 6))), (.sc (.i .i64 (.var 7))), (.sc (.i .i64 (.var 8))), (.sc (.i .i64 (.var 510))), (.sc (.i .i64 (.var 511))), (.sc (.i .i64 (.var 512))), (.sc (.i .i64 (.var 513))), (.sc (.i .i64 (.var 514))), (.sc (.i .i64 (.var 515))), (.sc (.i .i64 (.var 516))), (.sc (.i .i64 (.var 517))), (.sc (.i .i64 (.var 518))), (.sc (.i .i64 (.var 9))), (.slv (12, 1) 1 (.lit 0) (.len 2) true), (.slv (12, 2) 25 (.lit 0) (.len 2) true), (.slv (12, 3) 1 (.var 502) (.var 503) true), (.sc (.i .i64 (.var 519))), (.sc (.i .i64 (.lit 0)))]), ((12, 1), [(.rows 1 (.len 2) (.var 2 [.s]))]), ((12, 2), [(.rows 25 (.len 2) (.var 504 zTM10_6))]), ((12, 3), [(.rows 1 (.len 505) (.var 505 [(.i .i64)]))]), ((22, 0), [(.rows 25 (.len 2) (.var 506 zTM10_6))]), ((26, 0), [(.rows 1 (.len 2) (.var 507 [.b]))])]
abbrev zTM10_9 : XTp := ([(18, (.sc (.i .i64 (.var 600))))] ++ zTM10_0 ++ zTM10_1 ++ zTM10_2 ++ zTM10_3 ++ zTM10_4 ++ zTM10_7)
def fin_E : XS := ⟨([(18, (.sc (.i .i64 (.lit 0))))] ++ zTM10_0 ++ zTM10_1 ++ zTM10_2 ++ zTM10_3 ++ zTM10_4 ++ zTM10_7), zTM10_8, 45⟩
def fin_ks : List Nat := [18, 125, 124, 123, 122, 121, 120, 119, 118, 14, 13, 12, 41, 40, 39, 11, 38, 37, 36, 35, 34, 10, 9, 33, 32, 25, 31, 30, 29, 28, 27, 26, 24, 23, 22, 21, 20, 8, 4, 0, 1, 2, 3]
theorem fin_Eb : fin_E.bel 600 = true := by kernel_rfl
def fin_S0 : XS := ⟨zTM10_9, zTM10_8, 45⟩
theorem fin_S0b : fin_S0.bel 630 = true := by kernel_rfl
def fin_I0 : Bind := ⟨[(600, (.lit 0))], [], [], []⟩
theorem fin_I0ok : okS 0 600 fin_I0 [] fin_S0 fin_E = true := by kernel_rfl
theorem fin_I0g : fin_I0.ge 600 = true := by kernel_rfl
theorem fin_I0_600 : lassoc 600 fin_I0.i = some (.lit 0) := by kernel_rfl
def fin_HN_r : T (XE × XS) := (.need (.and (.not (.lt (.var 502) (.lit 0))) (.and (.not (.lt (.var 503) (.lit 0))) (.not (.lt (.len 505) (.op .padd .i64 (.var 502) (.var 503)))))) (.ret (.normal, ⟨([(18, (.sc (.i .i64 (.op .add .i64 (.var 600) (.lit 1)))))] ++ zTM10_0 ++ zTM10_1 ++ zTM10_2 ++ zTM10_3 ++ zTM10_4 ++ zTM10_7), zTM10_8, 92⟩)))
theorem fin_HN_run : (codeX (cfgL ksF1 (fun _ => [])).ti (callS ⟨(cfgL ksF1 (fun _ => [])), l_able, [9, 20, 33, 37, 58, 10010, 10011, 10013, 10014, 10023]⟩ 12) (((cfgL ksF1 (fun _ => [])).ft 3).elim [] (·.ms)) 0 ([]) 1000 fin_c ((inF, true) :: (hsK, true) :: (ncF, true) :: (twK, true) :: fnF) fin_S0).map (sqz fin_ks) = fin_HN_r := by kernel_rfl
def fin_HN_s : XS := ⟨([(18, (.sc (.i .i64 (.op .add .i64 (.var 600) (.lit 1)))))] ++ zTM10_0 ++ zTM10_1 ++ zTM10_2 ++ zTM10_3 ++ zTM10_4 ++ zTM10_7), zTM10_8, 92⟩
def fin_HN_b : Bind := ⟨[(600, (.op .add .i64 (.var 600) (.lit 1)))], [], [], []⟩
theorem fin_HN_ok : okS 0 600 fin_HN_b [] fin_S0 fin_HN_s = true := by kernel_rfl
theorem fin_HN_g : fin_HN_b.ge 600 = true := by kernel_rfl
theorem fin_HN_step {ρ ρ1 : Rho} (hd : fin_S0.den ρ = fin_S0.den ρ1) (cok : CfgOk Try.prog ρ1 (cfgL ksF1 (fun _ => []))) (hl : LpsOk Try.prog ρ1 Try.f3.ntmps ([]) fin_c) (hk : Facts.ok ρ1 ((inF, true) :: (hsK, true) :: (ncF, true) :: (twK, true) :: fnF)) (h0 : ((.and (.not (.lt (.var 502) (.lit 0))) (.and (.not (.lt (.var 503) (.lit 0))) (.not (.lt (.len 505) (.op .padd .i64 (.var 502) (.var 503)))))) : BE).den ρ1 = true) : StepF Try.prog Try.f3.ntmps fin_c 0 fin_S0 fin_S0 ρ (fin_HN_b.ap ρ1) :=
  fam_goU fin_fits hd cok hl hk fin_HN_run (sel_need h0 rfl) fin_HN_ok
theorem fin_HN_600 : lassoc 600 fin_HN_b.i = some (.op .add .i64 (.var 600) (.lit 1)) := by kernel_rfl
def fin_HC_r : T (XE × XS) := (.need (.and (.not (.lt (.var 502) (.lit 0))) (.and (.not (.lt (.var 503) (.lit 0))) (.not (.lt (.len 505) (.op .padd .i64 (.var 502) (.var 503)))))) (.ret (.normal, ⟨([(18, (.sc (.i .i64 (.op .add .i64 (.var 600) (.lit 1)))))] ++ zTM10_0 ++ zTM10_1 ++ zTM10_2 ++ zTM10_3 ++ zTM10_4 ++ zTM10_7), zTM10_8, 92⟩)))
theorem fin_HC_run : (codeX (cfgL ksF1 (fun _ => [])).ti (callS ⟨(cfgL ksF1 (fun _ => [])), l_able, [9, 20, 33, 37, 58, 10010, 10011, 10013, 10014, 10023]⟩ 12) (((cfgL ksF1 (fun _ => [])).ft 3).elim [] (·.ms)) 0 ([]) 1000 fin_c ((inF, true) :: (hsK, true) :: (ncF, false) :: (twK, false) :: fnF) fin_S0).map (sqz fin_ks) = fin_HC_r := by kernel_rfl
def fin_HC_s : XS := ⟨([(18, (.sc (.i .i64 (.op .add .i64 (.var 600) (.lit 1)))))] ++ zTM10_0 ++ zTM10_1 ++ zTM10_2 ++ zTM10_3 ++ zTM10_4 ++ zTM10_7), zTM10_8, 92⟩
def fin_HC_b : Bind := ⟨[(600, (.op .add .i64 (.var 600) (.lit 1)))], [], [], []⟩
theorem fin_HC_ok : okS 0 600 fin_HC_b [] fin_S0 fin_HC_s = true := by kernel_rfl
theorem fin_HC_g : fin_HC_b.ge 600 = true := by kernel_rfl
theorem fin_HC_step {ρ ρ1 : Rho} (hd : fin_S0.den ρ = fin_S0.den ρ1) (cok : CfgOk Try.prog ρ1 (cfgL ksF1 (fun _ => []))) (hl : LpsOk Try.prog ρ1 Try.f3.ntmps ([]) fin_c) (hk : Facts.ok ρ1 ((inF, true) :: (hsK, true) :: (ncF, false) :: (twK, false) :: fnF)) (h0 : ((.and (.not (.lt (.var 502) (.lit 0))) (.and (.not (.lt (.var 503) (.lit 0))) (.not (.lt (.len 505) (.op .padd .i64 (.var 502) (.var 503)))))) : BE).den ρ1 = true) : StepF Try.prog Try.f3.ntmps fin_c 0 fin_S0 fin_S0 ρ (fin_HC_b.ap ρ1) :=
  fam_goU fin_fits hd cok hl hk fin_HC_run (sel_need h0 rfl) fin_HC_ok
theorem fin_HC_600 : lassoc 600 fin_HC_b.i = some (.op .add .i64 (.var 600) (.lit 1)) := by kernel_rfl
def fin_EN_r : T (XE × XS) := (.need (.and (.not (.lt (.var 502) (.lit 0))) (.and (.not (.lt (.var 503) (.lit 0))) (.not (.lt (.len 505) (.op .padd .i64 (.var 502) (.var 503)))))) (.ret (.normal, ⟨([(18, (.sc (.i .i64 (.op .add .i64 (.var 600) (.lit 1)))))] ++ zTM10_0 ++ zTM10_1 ++ zTM10_2 ++ zTM10_3 ++ zTM10_4 ++ zTM10_7), zTM10_8, 92⟩)))
theorem fin_EN_run : (codeX (cfgL ksF0 (fun _ => [])).ti (callS ⟨(cfgL ksF0 (fun _ => [])), l_able, [9, 20, 33, 37, 58, 10010, 10011, 10013, 10014, 10023]⟩ 12) (((cfgL ksF0 (fun _ => [])).ft 3).elim [] (·.ms)) 0 ([]) 1000 fin_c ((inF, true) :: (hsK, false) :: (ncF, true) :: (twK, true) :: fnF) fin_S0).map (sqz fin_ks) = fin_EN_r := by kernel_rfl
def fin_EN_s : XS := ⟨([(18, (.sc (.i .i64 (.op .add .i64 (.var 600) (.lit 1)))))] ++ zTM10_0 ++ zTM10_1 ++ zTM10_2 ++ zTM10_3 ++ zTM10_4 ++ zTM10_7), zTM10_8, 92⟩
def fin_EN_b : Bind := ⟨[(600, (.op .add .i64 (.var 600) (.lit 1)))], [], [], []⟩
theorem fin_EN_ok : okS 0 600 fin_EN_b [] fin_S0 fin_EN_s = true := by kernel_rfl
theorem fin_EN_g : fin_EN_b.ge 600 = true := by kernel_rfl
theorem fin_EN_step {ρ ρ1 : Rho} (hd : fin_S0.den ρ = fin_S0.den ρ1) (cok : CfgOk Try.prog ρ1 (cfgL ksF0 (fun _ => []))) (hl : LpsOk Try.prog ρ1 Try.f3.ntmps ([]) fin_c) (hk : Facts.ok ρ1 ((inF, true) :: (hsK, false) :: (ncF, true) :: (twK, true) :: fnF)) (h0 : ((.and (.not (.lt (.var 502) (.lit 0))) (.and (.not (.lt (.var 503) (.lit 0))) (.not (.lt (.len 505) (.op .padd .i64 (.var 502) (.var 503)))))) : BE).den ρ1 = true) : StepF Try.prog Try.f3.ntmps fin_c 0 fin_S0 fin_S0 ρ (fin_EN_b.ap ρ1) :=
  fam_goU fin_fits hd cok hl hk fin_EN_run (sel_need h0 rfl) fin_EN_ok
theorem fin_EN_600 : lassoc 600 fin_EN_b.i = some (.op .add .i64 (.var 600) (.lit 1)) := by kernel_rfl
def fin_EC_r : T (XE × XS) := (.need (.and (.not (.lt (.var 502) (.lit 0))) (.and (.not (.lt (.var 503) (.lit 0))) (.not (.lt (.len 505) (.op .padd .i64 (.var 502) (.var 503)))))) (.ret (.normal, ⟨([(18, (.sc (.i .i64 (.op .add .i64 (.var 600) (.lit 1)))))] ++ zTM10_0 ++ zTM10_1 ++ zTM10_2 ++ zTM10_3 ++ zTM10_4 ++ zTM10_7), zTM10_8, 92⟩)))
theorem fin_EC_run : (codeX (cfgL ksF0 (fun _ => [])).ti (callS ⟨(cfgL ksF0 (fun _ => [])), l_able, [9, 20, 33, 37, 58, 10010, 10011, 10013, 10014, 10023]⟩ 12) (((cfgL ksF0 (fun _ => [])).ft 3).elim [] (·.ms)) 0 ([]) 1000 fin_c ((inF, true) :: (hsK, false) :: (ncF, false) :: (twK, false) :: fnF) fin_S0).map (sqz fin_ks) = fin_EC_r := by kernel_rfl
def fin_EC_s : XS := ⟨([(18, (.sc (.i .i64 (.op .add .i64 (.var 600) (.lit 1)))))] ++ zTM10_0 ++ zTM10_1 ++ zTM10_2 ++ zTM10_3 ++ zTM10_4 ++ zTM10_7), zTM10_8, 92⟩
def fin_EC_b : Bind := ⟨[(600, (.op .add .i64 (.var 600) (.lit 1)))], [], [], []⟩
theorem fin_EC_ok : okS 0 600 fin_EC_b [] fin_S0 fin_EC_s = true := by kernel_rfl
theorem fin_EC_g : fin_EC_b.ge 600 = true := by kernel_rfl
theorem fin_EC_step {ρ ρ1 : Rho} (hd : fin_S0.den ρ = fin_S0.den ρ1) (cok : CfgOk Try.prog ρ1 (cfgL ksF0 (fun _ => []))) (hl : LpsOk Try.prog ρ1 Try.f3.ntmps ([]) fin_c) (hk : Facts.ok ρ1 ((inF, true) :: (hsK, false) :: (ncF, false) :: (twK, false) :: fnF)) (h0 : ((.and (.not (.lt (.var 502) (.lit 0))) (.and (.not (.lt (.var 503) (.lit 0))) (.not (.lt (.len 505) (.op .padd .i64 (.var 502) (.var 503)))))) : BE).den ρ1 = true) : StepF Try.prog Try.f3.ntmps fin_c 0 fin_S0 fin_S0 ρ (fin_EC_b.ap ρ1) :=
  fam_goU fin_fits hd cok hl hk fin_EC_run (sel_need h0 rfl) fin_EC_ok
theorem fin_EC_600 : lassoc 600 fin_EC_b.i = some (.op .add .i64 (.var 600) (.lit 1)) := by kernel_rfl
def fin_X_r : T (XE × XS) := (.ret ((.exit 4), ⟨zTM10_9, zTM10_8, 49⟩))
theorem fin_X_run : (codeX (cfgL [] (fun _ => [])).ti (callS ⟨(cfgL [] (fun _ => [])), l_able, [9, 20, 33, 37, 58, 10010, 10011, 10013, 10014, 10023]⟩ 12) (((cfgL [] (fun _ => [])).ft 3).elim [] (·.ms)) 0 ([]) 1000 fin_c ((inF, false) :: fnF) fin_S0).map (sqz fin_ks) = fin_X_r := by kernel_rfl
def fin_X_s : XS := ⟨zTM10_9, zTM10_8, 49⟩
def fin_out : T (XE × XS) := (.ret ((.exit 4), fin_X_s))
noncomputable def fin : LoopX := ⟨((codeKey fin_c).getD 0), 0, 600, fin_E, noB, [], fin_out⟩
theorem fin_ob : fin.out.belX 630 = true := by kernel_rfl
theorem fin_X_end {ρ1 : Rho} (cok : CfgOk Try.prog ρ1 (cfgL [] (fun _ => []))) (hl : LpsOk Try.prog ρ1 Try.f3.ntmps ([]) fin_c) (hk : Facts.ok ρ1 ((inF, false) :: fnF)) (ho : fin_out.sel ρ1 = some ((.exit 4), fin_X_s)) : EndL Try.prog Try.f3.ntmps fin_c 0 fin_S0 fin_out ρ1 :=
  fam_endU fin_fits cok hl hk fin_X_run rfl (fun h => nomatch h) ho (by kernel_rfl)
end Go.Proofs.Ytdlifdoglhhnfaa

/- What functions answer, run over letters, where something is known; each shown by running it. -/
namespace Go.Proofs.Ytdlifdoglhhnfaa
open Go Go.Proofs.Aw Go.Proofs.Xw
noncomputable def lpLF (f : Nat) : List LoopX := if Nat.beq f 9 = true then [nw] else if Nat.beq f 3 = true then [mnA, fin] else []
theorem lpLF_9o : othersB [nw] [0] 0 (loopsOf (Try.f9.body.getD .skip)) = true := by kernel_rfl
theorem lpLF_9 {ρ : Rho} (h_nw : LoopOk Try.prog ρ Try.f9.ntmps nw_c nw) : LpsOk Try.prog ρ Try.f9.ntmps [nw] (Try.f9.body.getD .skip) :=
  lps_idx [0] lpLF_9o (List.forall_mem_cons.2 ⟨look_list (c := nw_c) (Ls := [nw]) (by kernel_rfl) (List.forall_mem_cons.2 ⟨h_nw, List.forall_mem_nil _⟩), List.forall_mem_nil _⟩)
theorem lpLF_3o : othersB [mnA, fin] [0, 2] 0 (loopsOf (Try.f3.body.getD .skip)) = true := by kernel_rfl
theorem lpLF_3 {ρ : Rho} (h_mnA : LoopOk Try.prog ρ Try.f3.ntmps mnA_c mnA) (h_fin : LoopOk Try.prog ρ Try.f3.ntmps fin_c fin) : LpsOk Try.prog ρ Try.f3.ntmps [mnA, fin] (Try.f3.body.getD .skip) :=
  lps_idx [0, 2] lpLF_3o (List.forall_mem_cons.2 ⟨look_list (c := mnA_c) (Ls := [mnA]) (by kernel_rfl) (List.forall_mem_cons.2 ⟨h_mnA, List.forall_mem_nil _⟩), List.forall_mem_cons.2 ⟨look_list (c := fin_c) (Ls := [fin]) (by kernel_rfl) (List.forall_mem_cons.2 ⟨h_fin, List.forall_mem_nil _⟩), List.forall_mem_nil _⟩⟩)
theorem lpLF_ok {ρ : Rho} (h_nw : LoopOk Try.prog ρ Try.f9.ntmps nw_c nw) (h_mnA : LoopOk Try.prog ρ Try.f3.ntmps mnA_c mnA) (h_fin : LoopOk Try.prog ρ Try.f3.ntmps fin_c fin) : ∀ f i, btLook f ftsT = some i → LpsOk Try.prog ρ i.ntmps (lpLF f) i.body := by
  intro f i h
  have hi := fts_ok (f, i) (bt_of_mem _ _ (btLook_mem h))
  unfold lpLF
  split
  · rename_i hf
    have hf := Nat.eq_of_beq_eq_true hf
    subst hf
    exact lps_row hi Try.func9 (lpLF_9 h_nw)
  · split
    · rename_i hf
      have hf := Nat.eq_of_beq_eq_true hf
      subst hf
      exact lps_row hi Try.func3 (lpLF_3 h_mnA h_fin)
    · exact LpsOk.nil _ _ _ _
def ksM1 : List (Nat × List X × X) := [(8, [kyR, anR], .sc (.b (.lit true)))]
def ksR0 : List (Nat × List X × X) := [(8, [kyR, anR], .sc (.b (.lit false))), (32, [kyR], .sc (.b (.lit false)))]
def ksR1 : List (Nat × List X × X) := [(8, [kyR, anR], .sc (.b (.lit false))), (31, [.agg (vi 0 9)], .sc (.b (.lit false)))]
def ksR2 : List (Nat × List X × X) := [(8, [kyR, anR], .sc (.b (.lit false))), (31, [.agg (vi 0 9)], .sc (.b (.lit true)))]
def ksN2 : List (Nat × List X × X) := (15, [.agg (vi 510 9), .agg (vi 0 9)], .sc (.b (.lit true))) :: ksN
def endF : Facts := [(.lt (.lit 6) (.len 2), false), (.lt (.len 2) (.lit 1), false), (.lt (.var 502) (.lit 0), false), (.lt (.lit 6) (.var 502), false), (.lt (.var 503) (.lit 0), false), (.lt (.lit 6) (.var 503), false), (.eq (.len 505) (.op .padd .i64 (.var 502) (.var 503)), true)]

def enM : T X := (.ret (.sc (.b (.lit true))))
theorem enM_run : askF ⟨cfgL ksM1 (fun _ => []), l_able, [9, 20, 33, 37, 58, 10010, 10011, 10013, 10014, 10023]⟩ 3 (enA) [] = enM := by kernel_rfl
def enR : T X := (.need (.not (.lt (.lit 8796093022208) (.len 2))) (.ret (.sc (.b (.lit true)))))
theorem enR_run : askF ⟨cfgL ksR0 (fun _ => []), l_able, [9, 20, 33, 37, 58, 10010, 10011, 10013, 10014, 10023]⟩ 3 (enA) [] = enR := by kernel_rfl
def enA1 : T X := (.need (.not (.lt (.len 505) (.op .padd .i64 (.var 502) (.var 503)))) (.ret (.sc (.b (.lit true)))))
theorem enA1_run : askF ⟨cfgL ksN lpLA, l_able, [9, 20, 33, 37, 58, 10010, 10011, 10013, 10014, 10023]⟩ 3 (enA) ((.lt (.lit 0) (.var 503), true) :: nrF ++ endF) = enA1 := by kernel_rfl
def enA2 : T X := (.need (.not (.lt (.len 505) (.op .padd .i64 (.var 502) (.var 503)))) (.ret (.sc (.b (.lit true)))))
theorem enA2_run : askF ⟨cfgL ksN2 lpLF, l_able, [9, 20, 33, 37, 58, 10010, 10011, 10013, 10014, 10023]⟩ 3 (enA) ((.lt (.lit 0) (.var 503), false) :: nrF ++ endF) = enA2 := by kernel_rfl
def enB : T X := (.ret (.sc (.b (.lit true))))
theorem enB_run : askF ⟨cfgL ksN lpLB, l_able, [9, 20, 33, 37, 58, 10010, 10011, 10013, 10014, 10023]⟩ 3 (enA) ((.eq (.var 520) (.lit 60), true) :: nrF) = enB := by kernel_rfl
def enN1 : T X := (.need (.not (.lt (.lit 8796093022208) (.len 2))) (.ret (.sc (.b (.lit true)))))
theorem enN1_run : askF ⟨cfgL ksR1 (fun _ => []), l_able, [9, 20, 33, 37, 58, 10010, 10011, 10013, 10014, 10023]⟩ 3 (enA) [] = enN1 := by kernel_rfl
def enN2 : T X := (.need (.not (.lt (.lit 8796093022208) (.len 2))) (.ret (.sc (.b (.lit true)))))
theorem enN2_run : askF ⟨cfgL ksR2 (fun _ => []), l_able, [9, 20, 33, 37, 58, 10010, 10011, 10013, 10014, 10023]⟩ 3 (enA) [(.lt (.var 9) (.lit 1), true)] = enN2 := by kernel_rfl
def enN3 : T X := (.need (.not (.lt (.lit 8796093022208) (.len 2))) (.ret (.sc (.b (.lit true)))))
theorem enN3_run : askF ⟨cfgL ksR2 (fun _ => []), l_able, [9, 20, 33, 37, 58, 10010, 10011, 10013, 10014, 10023]⟩ 3 (enA) [(.lt (.lit 3) (.var 9), true)] = enN3 := by kernel_rfl
end Go.Proofs.Ytdlifdoglhhnfaa
