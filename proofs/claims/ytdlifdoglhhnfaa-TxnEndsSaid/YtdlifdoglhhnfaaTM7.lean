/- Parts of the proof, one behind the other. -/
import Derived.Test.YtdlifdoglhhnfaaTM6
import Derived.Test.YtdlifdoglhhnfaaXwM3
/- Txn: the loop of New: what is run once. -/
namespace Go.Proofs.Ytdlifdoglhhnfaa
open Go Go.Proofs.Aw Go.Proofs.Xw
set_option maxRecDepth 100000
def nrF : Facts := (List.range 9).flatMap (fun k => [(.lt (.var k) (.lit 0), false), (.lt (.lit 1099511627776) (.var k), false)]) ++ [(.lt (.var 9) (.lit 1), false), (.lt (.lit 3) (.var 9), false), (.lt (.len 2) (.lit 1), false), (.lt (.lit 6) (.len 2), false)]
def nwF : Facts := [(.lt (.len 2) (.lit 1), false), (.lt (.lit 6) (.len 2), false)]
def ks32 : List (Nat × List X × X) := [(32, [kyR], .sc (.b (.lit true)))]

noncomputable def nw_c : Code := (loopsOf (Try.f9.body.getD .skip))[0]?.getD .skip
theorem nw_fits : fitsC Try.f9.ntmps nw_c = true := by kernel_rfl
abbrev zTM7_0 : Sc := .i .i64 (.lit 0)
abbrev zTM7_1 : X := .sc (.i .i64 (.len 2))
abbrev zTM7_2 : X := .rl 1 (.len 2) (.var 2 [.s]) false
abbrev zTM7_3 : X := .ptr (41, 0) [] 0
abbrev zTM7_4 : XTp := [(35, .top), (34, .top), (33, .top), (32, .top), (31, .top), (30, .top), (29, .top), (28, .top), (27, .top), (26, .top), (25, .top), (24, .top), (23, .top), (22, .top), (21, .top), (20, .top), (19, .top), (18, .top), (17, .top), (16, .top), (15, .top), (14, .top), (13, .top), (12, .top), (11, .top), (10, .top)]
abbrev zTM7_5 : X := .sc (.i .i64 (.var 0))
abbrev zTM7_6 : X := .sc (.i .i64 (.var 1))
abbrev zTM7_7 : X := .sc (.i .i64 (.var 2))
abbrev zTM7_8 : X := .sc (.i .i64 (.var 3))
abbrev zTM7_9 : X := .sc (.i .i64 (.var 4))
abbrev zTM7_10 : X := .sc (.i .i64 (.var 5))
abbrev zTM7_11 : X := .sc (.i .i64 (.var 6))
abbrev zTM7_12 : X := .sc (.i .i64 (.var 7))
abbrev zTM7_13 : X := .sc (.i .i64 (.var 8))
abbrev zTM7_14 : List X := [zTM7_5, zTM7_6, zTM7_7, zTM7_8, zTM7_9, zTM7_10, zTM7_11, zTM7_12, zTM7_13]
abbrev zTM7_15 : X := .sc (.i .i64 (.var 9))
abbrev zTM7_16 : XTp := [(7, (.sc zTM7_0)), (6, (.k (.pointer none))), (3, .top), (0, (.agg zTM7_14)), (1, zTM7_15), (2, zTM7_2)]
abbrev zTM7_17 : XTp := ([(38, (.sc zTM7_0)), (37, zTM7_1), (36, zTM7_2), (8, zTM7_3)] ++ zTM7_4 ++ zTM7_16)
abbrev zTM7_18 : List X := [(.rows 1 (.len 2) (.var 2 [.s]))]
abbrev zTM7_19 : List X := [(.rows 25 (.len 2) (.one [zTM7_0, (.b (.lit false)), zTM7_0, zTM7_0, zTM7_0, zTM7_0, zTM7_0, zTM7_0, (.s (.lit ⟨#[]⟩)), (.s (.lit ⟨#[]⟩)), (.b (.lit false)), zTM7_0, zTM7_0, zTM7_0, zTM7_0, zTM7_0, zTM7_0, zTM7_0, zTM7_0, zTM7_0, zTM7_0, zTM7_0, zTM7_0, zTM7_0, zTM7_0]))]
abbrev zTM7_20 : X := .slv (36, 0) 1 (.lit 0) (.len 2) true
abbrev zTM7_21 : X := .slv (39, 0) 25 (.lit 0) (.len 2) true
abbrev zTM7_22 : X := .sc (.i .i64 (.lit 1))
abbrev zTM7_23 : List X := [zTM7_5, zTM7_6, zTM7_7, zTM7_8, zTM7_9, zTM7_10, zTM7_11, zTM7_12, zTM7_13, zTM7_5, zTM7_6, zTM7_7, zTM7_8, zTM7_9, zTM7_10, zTM7_11, zTM7_12, zTM7_13, zTM7_15, zTM7_20, zTM7_21, (.k (.slice none 0 0)), zTM7_22, (.sc zTM7_0)]
abbrev zTM7_24 : XTp := ([(38, (.sc (.i .i64 (.var 460)))), (37, zTM7_1), (36, zTM7_2), (8, zTM7_3)] ++ zTM7_4 ++ zTM7_16)
abbrev zTM7_25 : XHp := [((36, 0), zTM7_18), ((39, 0), zTM7_19), ((41, 0), [zTM7_5, zTM7_6, zTM7_7, zTM7_8, zTM7_9, zTM7_10, zTM7_11, zTM7_12, zTM7_13, zTM7_5, zTM7_6, zTM7_7, zTM7_8, zTM7_9, zTM7_10, zTM7_11, zTM7_12, zTM7_13, zTM7_15, zTM7_20, zTM7_21, (.slv (100, 0) 1 (.lit 0) (.len 461) true), zTM7_22, (.sc zTM7_0)]), ((100, 0), [(.rows 1 (.len 461) (.var 461 [(.i .i64)]))])]
abbrev zTM7_26 : IE := .op .add .i64 (.var 460) (.lit 1)
abbrev zTM7_27 : IE := .op .padd .i64 (.len 461) (.lit 1)
abbrev zTM7_28 : RL := .app (.len 461) (.var 461 [(.i .i64)]) (.one [(.i .i64 (.var 460))])
def nw_E : XS := ⟨zTM7_17, [((13, 0), zTM7_14), ((36, 0), zTM7_18), ((39, 0), zTM7_19), ((41, 0), zTM7_23)], 46⟩
def nw_ks : List Nat := [38, 37, 36, 8, 35, 34, 33, 32, 31, 30, 29, 28, 27, 26, 25, 24, 23, 22, 21, 20, 19, 18, 17, 16, 15, 14, 13, 12, 11, 10, 7, 6, 3, 0, 1, 2]
theorem nw_Eb : nw_E.bel 460 = true := by kernel_rfl
def nw_S0 : XS := ⟨zTM7_17, [((36, 0), zTM7_18), ((39, 0), zTM7_19), ((41, 0), zTM7_23)], 46⟩
def nw_S1 : XS := ⟨zTM7_24, zTM7_25, 101⟩
theorem nw_S0b : nw_S0.bel 490 = true := by kernel_rfl
theorem nw_S1b : nw_S1.bel 490 = true := by kernel_rfl
def nw_I0 : Bind := ⟨[], [], [], []⟩
theorem nw_I0ok : okS 13 460 nw_I0 [] nw_S0 nw_E = true := by kernel_rfl
theorem nw_I0g : nw_I0.ge 460 = true := by kernel_rfl
def nw_A_r : T (XE × XS) := (.ret (.normal, ⟨([(38, zTM7_22), (37, zTM7_1), (36, zTM7_2), (8, zTM7_3)] ++ zTM7_4 ++ zTM7_16), [((36, 0), zTM7_18), ((39, 0), zTM7_19), ((41, 0), [zTM7_5, zTM7_6, zTM7_7, zTM7_8, zTM7_9, zTM7_10, zTM7_11, zTM7_12, zTM7_13, zTM7_5, zTM7_6, zTM7_7, zTM7_8, zTM7_9, zTM7_10, zTM7_11, zTM7_12, zTM7_13, zTM7_15, zTM7_20, zTM7_21, (.sl (56, 0) 1 0 1 true), zTM7_22, (.sc zTM7_0)]), ((56, 0), [(.sc zTM7_0)])], 62⟩))
theorem nw_A_run : (codeX (cfgL [] (fun _ => [])).ti (callS ⟨(cfgL [] (fun _ => [])), l_able, [9, 20, 33, 37, 58]⟩ 12) (((cfgL [] (fun _ => [])).ft 9).elim [] (·.ms)) 13 ([]) 1000 nw_c (nwF) nw_S0).map (sqz nw_ks) = nw_A_r := by kernel_rfl
def nw_A_s : XS := ⟨([(38, zTM7_22), (37, zTM7_1), (36, zTM7_2), (8, zTM7_3)] ++ zTM7_4 ++ zTM7_16), [((36, 0), zTM7_18), ((39, 0), zTM7_19), ((41, 0), [zTM7_5, zTM7_6, zTM7_7, zTM7_8, zTM7_9, zTM7_10, zTM7_11, zTM7_12, zTM7_13, zTM7_5, zTM7_6, zTM7_7, zTM7_8, zTM7_9, zTM7_10, zTM7_11, zTM7_12, zTM7_13, zTM7_15, zTM7_20, zTM7_21, (.sl (56, 0) 1 0 1 true), zTM7_22, (.sc zTM7_0)]), ((56, 0), [(.sc zTM7_0)])], 62⟩
def nw_A_b : Bind := ⟨[(460, (.lit 1))], [], [], [(461, (.lit 1), (.one [(.i .i64 (.lit 0))]))]⟩
theorem nw_A_ok : okS 13 460 nw_A_b [((100, 0), (56, 0))] nw_S1 nw_A_s = true := by kernel_rfl
theorem nw_A_g : nw_A_b.ge 460 = true := by kernel_rfl
theorem nw_A_step {ρ ρ1 : Rho} (hd : nw_S0.den ρ = nw_S0.den ρ1) (cok : CfgOk Try.prog ρ1 (cfgL [] (fun _ => []))) (hl : LpsOk Try.prog ρ1 Try.f9.ntmps ([]) nw_c) (hk : Facts.ok ρ1 (nwF)) : StepF Try.prog Try.f9.ntmps nw_c 13 nw_S0 nw_S1 ρ (nw_A_b.ap ρ1) :=
  fam_goU nw_fits hd cok hl hk nw_A_run rfl nw_A_ok
theorem nw_A_460 : lassoc 460 nw_A_b.i = some (.lit 1) := by kernel_rfl
theorem nw_A_r461 : lassoc 461 nw_A_b.r = some ((.lit 1), (.one [(.i .i64 (.lit 0))])) := by kernel_rfl
def nw_B_r : T (XE × XS) := (.ret (.normal, ⟨([(38, (.sc (.i .i64 zTM7_26))), (37, zTM7_1), (36, zTM7_2), (8, zTM7_3)] ++ zTM7_4 ++ zTM7_16), [((36, 0), zTM7_18), ((39, 0), zTM7_19), ((41, 0), [zTM7_5, zTM7_6, zTM7_7, zTM7_8, zTM7_9, zTM7_10, zTM7_11, zTM7_12, zTM7_13, zTM7_5, zTM7_6, zTM7_7, zTM7_8, zTM7_9, zTM7_10, zTM7_11, zTM7_12, zTM7_13, zTM7_15, zTM7_20, zTM7_21, (.slv (111, 0) 1 (.lit 0) zTM7_27 true), zTM7_22, (.sc zTM7_0)]), ((111, 0), [(.rows 1 zTM7_27 zTM7_28)])], 117⟩))
theorem nw_B_run : (codeX (cfgL [] (fun _ => [])).ti (callS ⟨(cfgL [] (fun _ => [])), l_able, [9, 20, 33, 37, 58]⟩ 12) (((cfgL [] (fun _ => [])).ft 9).elim [] (·.ms)) 13 ([]) 1000 nw_c ((.lt (.var 460) (.len 2), true) :: (.lt (.var 460) (.lit 0), false) :: (.lt (.lit 6) (.len 461), false) :: nwF) nw_S1).map (sqz nw_ks) = nw_B_r := by kernel_rfl
def nw_B_s : XS := ⟨([(38, (.sc (.i .i64 zTM7_26))), (37, zTM7_1), (36, zTM7_2), (8, zTM7_3)] ++ zTM7_4 ++ zTM7_16), [((36, 0), zTM7_18), ((39, 0), zTM7_19), ((41, 0), [zTM7_5, zTM7_6, zTM7_7, zTM7_8, zTM7_9, zTM7_10, zTM7_11, zTM7_12, zTM7_13, zTM7_5, zTM7_6, zTM7_7, zTM7_8, zTM7_9, zTM7_10, zTM7_11, zTM7_12, zTM7_13, zTM7_15, zTM7_20, zTM7_21, (.slv (111, 0) 1 (.lit 0) zTM7_27 true), zTM7_22, (.sc zTM7_0)]), ((111, 0), [(.rows 1 zTM7_27 zTM7_28)])], 117⟩
def nw_B_b : Bind := ⟨[(460, zTM7_26)], [], [], [(461, zTM7_27, zTM7_28)]⟩
theorem nw_B_ok : okS 13 460 nw_B_b [((100, 0), (111, 0))] nw_S1 nw_B_s = true := by kernel_rfl
theorem nw_B_g : nw_B_b.ge 460 = true := by kernel_rfl
theorem nw_B_step {ρ ρ1 : Rho} (hd : nw_S1.den ρ = nw_S1.den ρ1) (cok : CfgOk Try.prog ρ1 (cfgL [] (fun _ => []))) (hl : LpsOk Try.prog ρ1 Try.f9.ntmps ([]) nw_c) (hk : Facts.ok ρ1 ((.lt (.var 460) (.len 2), true) :: (.lt (.var 460) (.lit 0), false) :: (.lt (.lit 6) (.len 461), false) :: nwF)) : StepF Try.prog Try.f9.ntmps nw_c 13 nw_S1 nw_S1 ρ (nw_B_b.ap ρ1) :=
  fam_goU nw_fits hd cok hl hk nw_B_run rfl nw_B_ok
theorem nw_B_460 : lassoc 460 nw_B_b.i = some (.op .add .i64 (.var 460) (.lit 1)) := by kernel_rfl
theorem nw_B_r461 : lassoc 461 nw_B_b.r = some ((.op .padd .i64 (.len 461) (.lit 1)), (.app (.len 461) (.var 461 [(.i .i64)]) (.one [(.i .i64 (.var 460))]))) := by kernel_rfl
def nw_X_r : T (XE × XS) := (.ret ((.exit 0), ⟨zTM7_24, zTM7_25, 102⟩))
theorem nw_X_run : (codeX (cfgL [] (fun _ => [])).ti (callS ⟨(cfgL [] (fun _ => [])), l_able, [9, 20, 33, 37, 58]⟩ 12) (((cfgL [] (fun _ => [])).ft 9).elim [] (·.ms)) 13 ([]) 1000 nw_c ((.lt (.var 460) (.len 2), false) :: nwF) nw_S1).map (sqz nw_ks) = nw_X_r := by kernel_rfl
def nw_X_s : XS := ⟨zTM7_24, zTM7_25, 102⟩
def nw_out : T (XE × XS) := (.ret ((.exit 0), nw_X_s))
noncomputable def nw : LoopX := ⟨((codeKey nw_c).getD 0), 13, 460, nw_E, noB, [], nw_out⟩
theorem nw_ob : nw.out.belX 490 = true := by kernel_rfl
theorem nw_X_end {ρ1 : Rho} (cok : CfgOk Try.prog ρ1 (cfgL [] (fun _ => []))) (hl : LpsOk Try.prog ρ1 Try.f9.ntmps ([]) nw_c) (hk : Facts.ok ρ1 ((.lt (.var 460) (.len 2), false) :: nwF)) (ho : nw_out.sel ρ1 = some ((.exit 0), nw_X_s)) : EndL Try.prog Try.f9.ntmps nw_c 13 nw_S1 nw_out ρ1 :=
  fam_endU nw_fits cok hl hk nw_X_run rfl (fun h => nomatch h) ho (by kernel_rfl)
end Go.Proofs.Ytdlifdoglhhnfaa
