/- Parts of the proof, one behind the other. -/
import Derived.Test.YtdlifdoglhhnfaaTM6
import Derived.Test.YtdlifdoglhhnfaaXwM3
/- Txn: turn's second loop: what is run once. -/
namespace Go.Proofs.Ytdlifdoglhhnfaa
open Go Go.Proofs.Aw Go.Proofs.Xw
set_option maxRecDepth 100000
noncomputable def lpT1 (f : Nat) : List LoopX := if Nat.beq f 34 = true then [t1] else []
theorem lpT1_34o : othersB [t1] [0] 0 (loopsOf (Try.f34.body.getD .skip)) = true := by kernel_rfl
theorem lpT1_34 {ρ : Rho} (h_t1 : LoopOk Try.prog ρ Try.f34.ntmps t1_c t1) : LpsOk Try.prog ρ Try.f34.ntmps [t1] (Try.f34.body.getD .skip) :=
  lps_idx [0] lpT1_34o (List.forall_mem_cons.2 ⟨look_list (c := t1_c) (Ls := [t1]) (by kernel_rfl) (List.forall_mem_cons.2 ⟨h_t1, List.forall_mem_nil _⟩), List.forall_mem_nil _⟩)
theorem lpT1_ok {ρ : Rho} (h_t1 : LoopOk Try.prog ρ Try.f34.ntmps t1_c t1) : ∀ f i, btLook f ftsT = some i → LpsOk Try.prog ρ i.ntmps (lpT1 f) i.body := by
  intro f i h
  have hi := fts_ok (f, i) (bt_of_mem _ _ (btLook_mem h))
  unfold lpT1
  split
  · rename_i hf
    have hf := Nat.eq_of_beq_eq_true hf
    subst hf
    exact lps_row hi Try.func34 (lpT1_34 h_t1)
  · exact LpsOk.nil _ _ _ _
def ksOf : List (Nat × List X × X) := [(17, [.sc (.s (.cl 2 0 (.var 550))), .sc (.i .i64 (.var 9))], .sc (.i .i64 (.var 552))), (19, [.agg (vi 532 9), .sc (.i .i64 (.var 552))], .agg (vi 553 3))]
def t2F : Facts := [(.lt (.var 550) (.lit 0), false), (.lt (.lit 6) (.len 2), false)]
def lt2 : BE := .lt (.var 550) (.len 2)
def ncE : BE := .or (.lt (.cl 530 22 (.var 550)) (.var 553)) (.or (.lt (.cl 530 23 (.var 550)) (.var 554)) (.lt (.cl 530 24 (.var 550)) (.var 555)))

noncomputable def t2_c : Code := (loopsOf (Try.f34.body.getD .skip))[1]?.getD .skip
theorem t2_fits : fitsC Try.f34.ntmps t2_c = true := by kernel_rfl
abbrev zTM7_0 : X := .sc (.i .i64 (.lit 0))
abbrev zTM7_1 : X := .sc (.i .i64 (.len 2))
abbrev zTM7_2 : X := .slv (12, 2) 25 (.lit 0) (.len 2) true
abbrev zTM7_3 : X := .ptr (12, 0) [] 20
abbrev zTM7_4 : X := .ptr (12, 0) [] 0
abbrev zTM7_5 : X := .sc (.i .i64 (.var 531))
abbrev zTM7_6 : X := .sc (.i .i64 (.var 0))
abbrev zTM7_7 : X := .sc (.i .i64 (.var 1))
abbrev zTM7_8 : X := .sc (.i .i64 (.var 2))
abbrev zTM7_9 : X := .sc (.i .i64 (.var 3))
abbrev zTM7_10 : X := .sc (.i .i64 (.var 4))
abbrev zTM7_11 : X := .sc (.i .i64 (.var 5))
abbrev zTM7_12 : X := .sc (.i .i64 (.var 6))
abbrev zTM7_13 : X := .sc (.i .i64 (.var 7))
abbrev zTM7_14 : X := .sc (.i .i64 (.var 8))
abbrev zTM7_15 : X := .sc (.i .i64 (.var 532))
abbrev zTM7_16 : X := .sc (.i .i64 (.var 533))
abbrev zTM7_17 : X := .sc (.i .i64 (.var 534))
abbrev zTM7_18 : X := .sc (.i .i64 (.var 535))
abbrev zTM7_19 : X := .sc (.i .i64 (.var 536))
abbrev zTM7_20 : X := .sc (.i .i64 (.var 537))
abbrev zTM7_21 : X := .sc (.i .i64 (.var 538))
abbrev zTM7_22 : X := .sc (.i .i64 (.var 539))
abbrev zTM7_23 : X := .sc (.i .i64 (.var 540))
abbrev zTM7_24 : X := .sc (.i .i64 (.var 9))
abbrev zTM7_25 : X := .slv (12, 1) 1 (.lit 0) (.len 2) true
abbrev zTM7_26 : IE := .op .padd .i64 (.var 502) (.lit 1)
abbrev zTM7_27 : IE := .op .psub .i64 (.var 503) (.lit 1)
abbrev zTM7_28 : List X := [zTM7_6, zTM7_7, zTM7_8, zTM7_9, zTM7_10, zTM7_11, zTM7_12, zTM7_13, zTM7_14, zTM7_15, zTM7_16, zTM7_17, zTM7_18, zTM7_19, zTM7_20, zTM7_21, zTM7_22, zTM7_23, zTM7_24, zTM7_25, zTM7_2, (.slv (12, 3) 1 zTM7_26 zTM7_27 true), (.sc (.i .i64 (.var 519))), zTM7_0]
abbrev zTM7_29 : List X := [(.rows 1 (.len 2) (.var 2 [.s]))]
abbrev zTM7_30 : List X := [(.rows 25 (.len 2) (.var 530 [(.i .i64), .b, (.i .i64), (.i .i64), (.i .i64), (.i .i64), (.i .i64), (.i .i64), .s, .s, .b, (.i .i64), (.i .i64), (.i .i64), (.i .i64), (.i .i64), (.i .i64), (.i .i64), (.i .i64), (.i .i64), (.i .i64), (.i .i64), (.i .i64), (.i .i64), (.i .i64)]))]
abbrev zTM7_31 : List X := [(.rows 1 (.len 505) (.var 505 [(.i .i64)]))]
abbrev zTM7_32 : XHp := [((12, 0), zTM7_28), ((12, 1), zTM7_29), ((12, 2), zTM7_30), ((12, 3), zTM7_31)]
abbrev zTM7_33 : XTp := [(36, (.sc (.i .i64 (.var 550)))), (35, zTM7_1), (34, zTM7_2), (33, zTM7_3), (32, zTM7_4), (31, zTM7_4), (11, zTM7_5), (10, zTM7_1), (9, zTM7_2), (8, zTM7_3), (7, zTM7_4), (6, zTM7_4), (0, zTM7_4)]
abbrev zTM7_34 : X := .sc (.i .i64 (.lit 2))
abbrev zTM7_35 : List X := [zTM7_6, zTM7_7, zTM7_8, zTM7_9, zTM7_10, zTM7_11, zTM7_12, zTM7_13, zTM7_14, zTM7_15, zTM7_16, zTM7_17, zTM7_18, zTM7_19, zTM7_20, zTM7_21, zTM7_22, zTM7_23, zTM7_24, zTM7_25, zTM7_2, (.slv (126, 0) 1 (.lit 0) (.len 551) true), zTM7_34, zTM7_0]
abbrev zTM7_36 : List X := [(.rows 1 (.len 551) (.var 551 [(.i .i64)]))]
abbrev zTM7_37 : XHp := [((12, 0), zTM7_35), ((12, 1), zTM7_29), ((12, 2), zTM7_30), ((126, 0), zTM7_36)]
abbrev zTM7_38 : IE := .op .add .i64 (.var 550) (.lit 1)
abbrev zTM7_39 : XTp := [(36, (.sc (.i .i64 zTM7_38))), (35, zTM7_1), (34, zTM7_2), (33, zTM7_3), (32, zTM7_4), (31, zTM7_4), (11, zTM7_5), (10, zTM7_1), (9, zTM7_2), (8, zTM7_3), (7, zTM7_4), (6, zTM7_4), (0, zTM7_4)]
abbrev zTM7_40 : List X := [(.sc (.i .i64 (.cl 530 0 (.var 550)))), (.sc (.b (.cl 530 1 (.var 550)))), (.sc (.i .i64 (.cl 530 2 (.var 550)))), (.sc (.i .i64 (.cl 530 3 (.var 550)))), (.sc (.i .i64 (.cl 530 4 (.var 550)))), (.sc (.i .i64 (.cl 530 5 (.var 550)))), (.sc (.i .i64 (.cl 530 6 (.var 550)))), (.sc (.i .i64 (.cl 530 7 (.var 550)))), (.sc (.s (.cl 530 8 (.var 550)))), (.sc (.s (.cl 530 9 (.var 550)))), (.sc (.b (.cl 530 10 (.var 550)))), (.sc (.i .i64 (.cl 530 11 (.var 550)))), (.sc (.i .i64 (.cl 530 12 (.var 550)))), (.sc (.i .i64 (.cl 530 13 (.var 550)))), (.sc (.i .i64 (.cl 530 14 (.var 550)))), (.sc (.i .i64 (.cl 530 15 (.var 550)))), (.sc (.i .i64 (.cl 530 16 (.var 550)))), (.sc (.i .i64 (.cl 530 17 (.var 550)))), (.sc (.i .i64 (.cl 530 18 (.var 550)))), (.sc (.i .i64 (.cl 530 19 (.var 550)))), (.sc (.i .i64 (.cl 530 20 (.var 550)))), (.sc (.i .i64 (.cl 530 21 (.var 550)))), (.sc (.i .i64 (.cl 530 22 (.var 550)))), (.sc (.i .i64 (.cl 530 23 (.var 550)))), (.sc (.i .i64 (.cl 530 24 (.var 550))))]
abbrev zTM7_41 : IE := .op .padd .i64 (.len 551) (.lit 1)
abbrev zTM7_42 : RL := .app (.len 551) (.var 551 [(.i .i64)]) (.one [(.i .i64 (.var 550))])
def t2_E : XS := ⟨[(36, zTM7_0), (35, zTM7_1), (34, zTM7_2), (33, zTM7_3), (32, zTM7_4), (31, zTM7_4), (11, zTM7_5), (10, zTM7_1), (9, zTM7_2), (8, zTM7_3), (7, zTM7_4), (6, zTM7_4), (0, zTM7_4)], zTM7_32, 138⟩
def t2_ks : List Nat := [36, 35, 34, 33, 32, 31, 11, 10, 9, 8, 7, 6, 0]
theorem t2_Eb : t2_E.bel 550 = true := by kernel_rfl
def t2_S0 : XS := ⟨zTM7_33, zTM7_32, 138⟩
def t2_S1 : XS := ⟨zTM7_33, zTM7_37, 138⟩
theorem t2_S0b : t2_S0.bel 580 = true := by kernel_rfl
theorem t2_S1b : t2_S1.bel 580 = true := by kernel_rfl
def t2_I0 : Bind := ⟨[(550, (.lit 0))], [], [], []⟩
theorem t2_I0ok : okS 125 550 t2_I0 [] t2_S0 t2_E = true := by kernel_rfl
theorem t2_I0g : t2_I0.ge 550 = true := by kernel_rfl
theorem t2_I0_550 : lassoc 550 t2_I0.i = some (.lit 0) := by kernel_rfl
def t2_Y0_r : T (XE × XS) := (.ret (.normal, ⟨zTM7_39, [((12, 0), zTM7_28), ((12, 1), zTM7_29), ((12, 2), zTM7_30), ((12, 3), zTM7_31), ((142, 0), zTM7_40)], 168⟩))
theorem t2_Y0_run : (codeX (cfgL ksOf (fun _ => [])).ti (callS ⟨(cfgL ksOf (fun _ => [])), l_able, [9, 20, 33, 37, 58]⟩ 12) (((cfgL ksOf (fun _ => [])).ft 34).elim [] (·.ms)) 125 ([]) 1000 t2_c ((lt2, true) :: (ncE, false) :: t2F) t2_S0).map (sqz t2_ks) = t2_Y0_r := by kernel_rfl
def t2_Y0_s : XS := ⟨zTM7_39, [((12, 0), zTM7_28), ((12, 1), zTM7_29), ((12, 2), zTM7_30), ((12, 3), zTM7_31), ((142, 0), zTM7_40)], 168⟩
def t2_Y0_b : Bind := ⟨[(550, (.op .add .i64 (.var 550) (.lit 1)))], [], [], []⟩
theorem t2_Y0_ok : okS 125 550 t2_Y0_b [] t2_S0 t2_Y0_s = true := by kernel_rfl
theorem t2_Y0_g : t2_Y0_b.ge 550 = true := by kernel_rfl
theorem t2_Y0_step {ρ ρ1 : Rho} (hd : t2_S0.den ρ = t2_S0.den ρ1) (cok : CfgOk Try.prog ρ1 (cfgL ksOf (fun _ => []))) (hl : LpsOk Try.prog ρ1 Try.f34.ntmps ([]) t2_c) (hk : Facts.ok ρ1 ((lt2, true) :: (ncE, false) :: t2F)) : StepF Try.prog Try.f34.ntmps t2_c 125 t2_S0 t2_S0 ρ (t2_Y0_b.ap ρ1) :=
  fam_goU t2_fits hd cok hl hk t2_Y0_run rfl t2_Y0_ok
theorem t2_Y0_550 : lassoc 550 t2_Y0_b.i = some (.op .add .i64 (.var 550) (.lit 1)) := by kernel_rfl
def t2_N0_r : T (XE × XS) := (.need (.eq (.len 505) (.op .padd .i64 zTM7_26 zTM7_27)) (.ret (.normal, ⟨zTM7_39, [((12, 0), [zTM7_6, zTM7_7, zTM7_8, zTM7_9, zTM7_10, zTM7_11, zTM7_12, zTM7_13, zTM7_14, zTM7_15, zTM7_16, zTM7_17, zTM7_18, zTM7_19, zTM7_20, zTM7_21, zTM7_22, zTM7_23, zTM7_24, zTM7_25, zTM7_2, (.slv (173, 0) 1 (.lit 0) (.lit 1) true), zTM7_34, zTM7_0]), ((12, 1), zTM7_29), ((12, 2), zTM7_30), ((142, 0), zTM7_40), ((173, 0), [(.rows 1 (.lit 1) (.one [(.i .i64 (.var 550))]))])], 183⟩)))
theorem t2_N0_run : (codeX (cfgL ksOf (fun _ => [])).ti (callS ⟨(cfgL ksOf (fun _ => [])), l_able, [9, 20, 33, 37, 58]⟩ 12) (((cfgL ksOf (fun _ => [])).ft 34).elim [] (·.ms)) 125 ([]) 1000 t2_c ((lt2, true) :: (ncE, true) :: (.eq (.var 503) (.lit 1), true) :: tnP ++ t2F) t2_S0).map (sqz t2_ks) = t2_N0_r := by kernel_rfl
def t2_N0_s : XS := ⟨zTM7_39, [((12, 0), [zTM7_6, zTM7_7, zTM7_8, zTM7_9, zTM7_10, zTM7_11, zTM7_12, zTM7_13, zTM7_14, zTM7_15, zTM7_16, zTM7_17, zTM7_18, zTM7_19, zTM7_20, zTM7_21, zTM7_22, zTM7_23, zTM7_24, zTM7_25, zTM7_2, (.slv (173, 0) 1 (.lit 0) (.lit 1) true), zTM7_34, zTM7_0]), ((12, 1), zTM7_29), ((12, 2), zTM7_30), ((142, 0), zTM7_40), ((173, 0), [(.rows 1 (.lit 1) (.one [(.i .i64 (.var 550))]))])], 183⟩
def t2_N0_b : Bind := ⟨[(550, (.op .add .i64 (.var 550) (.lit 1)))], [], [], [(551, (.lit 1), (.one [(.i .i64 (.var 550))]))]⟩
theorem t2_N0_ok : okS 125 550 t2_N0_b [((126, 0), (173, 0))] t2_S1 t2_N0_s = true := by kernel_rfl
theorem t2_N0_g : t2_N0_b.ge 550 = true := by kernel_rfl
theorem t2_N0_step {ρ ρ1 : Rho} (hd : t2_S0.den ρ = t2_S0.den ρ1) (cok : CfgOk Try.prog ρ1 (cfgL ksOf (fun _ => []))) (hl : LpsOk Try.prog ρ1 Try.f34.ntmps ([]) t2_c) (hk : Facts.ok ρ1 ((lt2, true) :: (ncE, true) :: (.eq (.var 503) (.lit 1), true) :: tnP ++ t2F)) (h0 : ((.eq (.len 505) (.op .padd .i64 (.op .padd .i64 (.var 502) (.lit 1)) (.op .psub .i64 (.var 503) (.lit 1)))) : BE).den ρ1 = true) : StepF Try.prog Try.f34.ntmps t2_c 125 t2_S0 t2_S1 ρ (t2_N0_b.ap ρ1) :=
  fam_goU t2_fits hd cok hl hk t2_N0_run (sel_need h0 rfl) t2_N0_ok
theorem t2_N0_550 : lassoc 550 t2_N0_b.i = some (.op .add .i64 (.var 550) (.lit 1)) := by kernel_rfl
theorem t2_N0_r551 : lassoc 551 t2_N0_b.r = some ((.lit 1), (.one [(.i .i64 (.var 550))])) := by kernel_rfl
def t2_Y1_r : T (XE × XS) := (.ret (.normal, ⟨zTM7_39, [((12, 0), zTM7_35), ((12, 1), zTM7_29), ((12, 2), zTM7_30), ((126, 0), zTM7_36), ((142, 0), zTM7_40)], 168⟩))
theorem t2_Y1_run : (codeX (cfgL ksOf (fun _ => [])).ti (callS ⟨(cfgL ksOf (fun _ => [])), l_able, [9, 20, 33, 37, 58]⟩ 12) (((cfgL ksOf (fun _ => [])).ft 34).elim [] (·.ms)) 125 ([]) 1000 t2_c ((lt2, true) :: (ncE, false) :: t2F) t2_S1).map (sqz t2_ks) = t2_Y1_r := by kernel_rfl
def t2_Y1_s : XS := ⟨zTM7_39, [((12, 0), zTM7_35), ((12, 1), zTM7_29), ((12, 2), zTM7_30), ((126, 0), zTM7_36), ((142, 0), zTM7_40)], 168⟩
def t2_Y1_b : Bind := ⟨[(550, (.op .add .i64 (.var 550) (.lit 1)))], [], [], [(551, (.len 551), (.var 551 [(.i .i64)]))]⟩
theorem t2_Y1_ok : okS 125 550 t2_Y1_b [] t2_S1 t2_Y1_s = true := by kernel_rfl
theorem t2_Y1_g : t2_Y1_b.ge 550 = true := by kernel_rfl
theorem t2_Y1_step {ρ ρ1 : Rho} (hd : t2_S1.den ρ = t2_S1.den ρ1) (cok : CfgOk Try.prog ρ1 (cfgL ksOf (fun _ => []))) (hl : LpsOk Try.prog ρ1 Try.f34.ntmps ([]) t2_c) (hk : Facts.ok ρ1 ((lt2, true) :: (ncE, false) :: t2F)) : StepF Try.prog Try.f34.ntmps t2_c 125 t2_S1 t2_S1 ρ (t2_Y1_b.ap ρ1) :=
  fam_goU t2_fits hd cok hl hk t2_Y1_run rfl t2_Y1_ok
theorem t2_Y1_550 : lassoc 550 t2_Y1_b.i = some (.op .add .i64 (.var 550) (.lit 1)) := by kernel_rfl
theorem t2_Y1_r551 : lassoc 551 t2_Y1_b.r = some ((.len 551), (.var 551 [(.i .i64)])) := by kernel_rfl
def t2_N1_r : T (XE × XS) := (.ret (.normal, ⟨zTM7_39, [((12, 0), [zTM7_6, zTM7_7, zTM7_8, zTM7_9, zTM7_10, zTM7_11, zTM7_12, zTM7_13, zTM7_14, zTM7_15, zTM7_16, zTM7_17, zTM7_18, zTM7_19, zTM7_20, zTM7_21, zTM7_22, zTM7_23, zTM7_24, zTM7_25, zTM7_2, (.slv (173, 0) 1 (.lit 0) zTM7_41 true), zTM7_34, zTM7_0]), ((12, 1), zTM7_29), ((12, 2), zTM7_30), ((142, 0), zTM7_40), ((173, 0), [(.rows 1 zTM7_41 zTM7_42)])], 183⟩))
theorem t2_N1_run : (codeX (cfgL ksOf (fun _ => [])).ti (callS ⟨(cfgL ksOf (fun _ => [])), l_able, [9, 20, 33, 37, 58]⟩ 12) (((cfgL ksOf (fun _ => [])).ft 34).elim [] (·.ms)) 125 ([]) 1000 t2_c ((lt2, true) :: (ncE, true) :: (.lt (.lit 6) (.len 551), false) :: t2F) t2_S1).map (sqz t2_ks) = t2_N1_r := by kernel_rfl
def t2_N1_s : XS := ⟨zTM7_39, [((12, 0), [zTM7_6, zTM7_7, zTM7_8, zTM7_9, zTM7_10, zTM7_11, zTM7_12, zTM7_13, zTM7_14, zTM7_15, zTM7_16, zTM7_17, zTM7_18, zTM7_19, zTM7_20, zTM7_21, zTM7_22, zTM7_23, zTM7_24, zTM7_25, zTM7_2, (.slv (173, 0) 1 (.lit 0) zTM7_41 true), zTM7_34, zTM7_0]), ((12, 1), zTM7_29), ((12, 2), zTM7_30), ((142, 0), zTM7_40), ((173, 0), [(.rows 1 zTM7_41 zTM7_42)])], 183⟩
def t2_N1_b : Bind := ⟨[(550, zTM7_38)], [], [], [(551, zTM7_41, zTM7_42)]⟩
theorem t2_N1_ok : okS 125 550 t2_N1_b [((126, 0), (173, 0))] t2_S1 t2_N1_s = true := by kernel_rfl
theorem t2_N1_g : t2_N1_b.ge 550 = true := by kernel_rfl
theorem t2_N1_step {ρ ρ1 : Rho} (hd : t2_S1.den ρ = t2_S1.den ρ1) (cok : CfgOk Try.prog ρ1 (cfgL ksOf (fun _ => []))) (hl : LpsOk Try.prog ρ1 Try.f34.ntmps ([]) t2_c) (hk : Facts.ok ρ1 ((lt2, true) :: (ncE, true) :: (.lt (.lit 6) (.len 551), false) :: t2F)) : StepF Try.prog Try.f34.ntmps t2_c 125 t2_S1 t2_S1 ρ (t2_N1_b.ap ρ1) :=
  fam_goU t2_fits hd cok hl hk t2_N1_run rfl t2_N1_ok
theorem t2_N1_550 : lassoc 550 t2_N1_b.i = some (.op .add .i64 (.var 550) (.lit 1)) := by kernel_rfl
theorem t2_N1_r551 : lassoc 551 t2_N1_b.r = some ((.op .padd .i64 (.len 551) (.lit 1)), (.app (.len 551) (.var 551 [(.i .i64)]) (.one [(.i .i64 (.var 550))]))) := by kernel_rfl
def t2_X0_r : T (XE × XS) := (.ret ((.exit 2), ⟨zTM7_33, zTM7_32, 139⟩))
theorem t2_X0_run : (codeX (cfgL [] (fun _ => [])).ti (callS ⟨(cfgL [] (fun _ => [])), l_able, [9, 20, 33, 37, 58]⟩ 12) (((cfgL [] (fun _ => [])).ft 34).elim [] (·.ms)) 125 ([]) 1000 t2_c ([(lt2, false)]) t2_S0).map (sqz t2_ks) = t2_X0_r := by kernel_rfl
def t2_X0_s : XS := ⟨zTM7_33, zTM7_32, 139⟩
def t2_X1_r : T (XE × XS) := (.ret ((.exit 2), ⟨zTM7_33, zTM7_37, 139⟩))
theorem t2_X1_run : (codeX (cfgL [] (fun _ => [])).ti (callS ⟨(cfgL [] (fun _ => [])), l_able, [9, 20, 33, 37, 58]⟩ 12) (((cfgL [] (fun _ => [])).ft 34).elim [] (·.ms)) 125 ([]) 1000 t2_c ([(lt2, false)]) t2_S1).map (sqz t2_ks) = t2_X1_r := by kernel_rfl
def t2_X1_s : XS := ⟨zTM7_33, zTM7_37, 139⟩
def t2_out : T (XE × XS) := (.br (.var 556) (.ret ((.exit 2), t2_X0_s)) (.ret ((.exit 2), t2_X1_s)))
noncomputable def t2 : LoopX := ⟨((codeKey t2_c).getD 0), 125, 550, t2_E, noB, [], t2_out⟩
theorem t2_ob : t2.out.belX 580 = true := by kernel_rfl
theorem t2_X0_end {ρ1 : Rho} (cok : CfgOk Try.prog ρ1 (cfgL [] (fun _ => []))) (hl : LpsOk Try.prog ρ1 Try.f34.ntmps ([]) t2_c) (hk : Facts.ok ρ1 ([(lt2, false)])) (ho : t2_out.sel ρ1 = some ((.exit 2), t2_X0_s)) : EndL Try.prog Try.f34.ntmps t2_c 125 t2_S0 t2_out ρ1 :=
  fam_endU t2_fits cok hl hk t2_X0_run rfl (fun h => nomatch h) ho (by kernel_rfl)
theorem t2_X1_end {ρ1 : Rho} (cok : CfgOk Try.prog ρ1 (cfgL [] (fun _ => []))) (hl : LpsOk Try.prog ρ1 Try.f34.ntmps ([]) t2_c) (hk : Facts.ok ρ1 ([(lt2, false)])) (ho : t2_out.sel ρ1 = some ((.exit 2), t2_X1_s)) : EndL Try.prog Try.f34.ntmps t2_c 125 t2_S1 t2_out ρ1 :=
  fam_endU t2_fits cok hl hk t2_X1_run rfl (fun h => nomatch h) ho (by kernel_rfl)
end Go.Proofs.Ytdlifdoglhhnfaa
