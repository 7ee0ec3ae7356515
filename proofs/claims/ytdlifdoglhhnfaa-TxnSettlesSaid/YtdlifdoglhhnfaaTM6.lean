/- Parts of the proof, one behind the other. -/
import Derived.Test.YtdlifdoglhhnfaaTM1
import Derived.Test.YtdlifdoglhhnfaaTM5
import Derived.Test.YtdlifdoglhhnfaaXwM2
/- What is shown of loops, each by one run of its body over letters. -/
namespace Go.Proofs.Ytdlifdoglhhnfaa
open Go Go.Proofs.Aw Go.Proofs.Xw
set_option maxRecDepth 100000
def tnP : Facts := [(.lt (.len 2) (.lit 1), false), (.lt (.lit 6) (.len 2), false), (.lt (.cl 505 0 (.var 502)) (.lit 0), false), (.lt (.cl 505 0 (.var 502)) (.len 2), true), (.eq (.var 519) (.lit 1), true), (.eq (.var 503) (.lit 1), true), (.lt (.var 502) (.lit 0), false), (.lt (.lit 6) (.var 502), false), (.eq (.len 505) (.op .padd .i64 (.var 502) (.var 503)), true)]
def hpT : XHp := [((12, 0), [.sc (.i .i64 (.var 0)), .sc (.i .i64 (.var 1)), .sc (.i .i64 (.var 2)), .sc (.i .i64 (.var 3)), .sc (.i .i64 (.var 4)), .sc (.i .i64 (.var 5)), .sc (.i .i64 (.var 6)), .sc (.i .i64 (.var 7)), .sc (.i .i64 (.var 8)), .sc (.i .i64 (.var 510)), .sc (.i .i64 (.var 511)), .sc (.i .i64 (.var 512)), .sc (.i .i64 (.var 513)), .sc (.i .i64 (.var 514)), .sc (.i .i64 (.var 515)), .sc (.i .i64 (.var 516)), .sc (.i .i64 (.var 517)), .sc (.i .i64 (.var 518)), .sc (.i .i64 (.var 9)), .slv (12, 1) 1 (.lit 0) (.len 2) true, .slv (12, 2) 25 (.lit 0) (.len 2) true, .slv (12, 3) 1 (.op .padd .i64 (.var 502) (.lit 1)) (.op .psub .i64 (.var 503) (.lit 1)) true, .sc (.i .i64 (.var 519)), .sc (.i .i64 (.lit 0))]), ((12, 1), [.rows 1 (.len 2) (.var 2 [.s])]), ((12, 2), [.rows 25 (.len 2) (.upd (.cl 505 0 (.var 502)) [(.i .i64 (.cl 3 0 (.var 500))), (.b (.cl 3 1 (.var 500))), (.i .i64 (.cl 3 2 (.var 500))), (.i .i64 (.cl 3 3 (.var 500))), (.i .i64 (.cl 3 4 (.var 500))), (.i .i64 (.cl 3 5 (.var 500))), (.i .i64 (.cl 3 6 (.var 500))), (.i .i64 (.cl 3 7 (.var 500))), (.s (.cl 3 8 (.var 500))), (.s (.cl 3 9 (.var 500))), (.b (.cl 3 10 (.var 500))), (.i .i64 (.cl 3 11 (.var 500))), (.i .i64 (.cl 3 12 (.var 500))), (.i .i64 (.cl 3 13 (.var 500))), (.i .i64 (.cl 3 14 (.var 500))), (.i .i64 (.cl 3 15 (.var 500))), (.i .i64 (.cl 3 16 (.var 500))), (.i .i64 (.cl 3 17 (.var 500))), (.i .i64 (.cl 3 18 (.var 500))), (.i .i64 (.cl 3 19 (.var 500))), (.i .i64 (.cl 3 20 (.var 500))), (.i .i64 (.cl 3 21 (.var 500))), (.i .i64 (.cl 3 22 (.var 500))), (.i .i64 (.cl 3 23 (.var 500))), (.i .i64 (.cl 3 24 (.var 500)))] (.var 504 [(.i .i64), .b, (.i .i64), (.i .i64), (.i .i64), (.i .i64), (.i .i64), (.i .i64), .s, .s, .b, (.i .i64), (.i .i64), (.i .i64), (.i .i64), (.i .i64), (.i .i64), (.i .i64), (.i .i64), (.i .i64), (.i .i64), (.i .i64), (.i .i64), (.i .i64), (.i .i64)]))]), ((12, 3), [.rows 1 (.len 505) (.var 505 [.i .i64])])]

/-! t1: letters [531, 532, 533, 534, 535, 536, 537, 538, 539, 540] [] [] [530] -/
noncomputable def t1_c : Code := (loopsOf (Try.f34.body.getD .skip))[0]?.getD .skip
abbrev zTM6_0 : X := .slv (12, 2) 25 (.lit 0) (.len 2) true
abbrev zTM6_1 : X := .ptr (12, 0) [] 0
abbrev zTM6_2 : XTp := [(11, (.sc (.i .i64 (.var 531)))), (10, (.sc (.i .i64 (.len 2)))), (9, zTM6_0), (8, (.ptr (12, 0) [] 20)), (7, zTM6_1), (6, zTM6_1), (0, zTM6_1)]
abbrev zTM6_3 : X := .slv (12, 1) 1 (.lit 0) (.len 2) true
abbrev zTM6_4 : X := .slv (12, 3) 1 (.op .padd .i64 (.var 502) (.lit 1)) (.op .psub .i64 (.var 503) (.lit 1)) true
abbrev zTM6_5 : List Kd := [(.i .i64), .b, (.i .i64), (.i .i64), (.i .i64), (.i .i64), (.i .i64), (.i .i64), .s, .s, .b, (.i .i64), (.i .i64), (.i .i64), (.i .i64), (.i .i64), (.i .i64), (.i .i64), (.i .i64), (.i .i64), (.i .i64), (.i .i64), (.i .i64), (.i .i64), (.i .i64)]
abbrev zTM6_6 : List X := [(.rows 25 (.len 2) (.var 530 zTM6_5))]
abbrev zTM6_7 : List X := [(.rows 1 (.len 505) (.var 505 [(.i .i64)]))]
abbrev zTM6_8 : XHp := [((12, 0), [(.sc (.i .i64 (.var 0))), (.sc (.i .i64 (.var 1))), (.sc (.i .i64 (.var 2))), (.sc (.i .i64 (.var 3))), (.sc (.i .i64 (.var 4))), (.sc (.i .i64 (.var 5))), (.sc (.i .i64 (.var 6))), (.sc (.i .i64 (.var 7))), (.sc (.i .i64 (.var 8))), (.sc (.i .i64 (.var 532))), (.sc (.i .i64 (.var 533))), (.sc (.i .i64 (.var 534))), (.sc (.i .i64 (.var 535))), (.sc (.i .i64 (.var 536))), (.sc (.i .i64 (.var 537))), (.sc (.i .i64 (.var 538))), (.sc (.i .i64 (.var 539))), (.sc (.i .i64 (.var 540))), (.sc (.i .i64 (.var 9))), zTM6_3, zTM6_0, zTM6_4, (.sc (.i .i64 (.var 519))), (.sc (.i .i64 (.lit 0)))]), ((12, 1), [(.rows 1 (.len 2) (.var 2 [.s]))]), ((12, 2), zTM6_6), ((12, 3), zTM6_7)]
abbrev zTM6_9 : IE := .op .add .i64 (.var 531) (.lit 1)
abbrev zTM6_10 : BE := .cl 530 1 (.var 531)
abbrev zTM6_11 : IE := .cl 530 2 (.var 531)
abbrev zTM6_12 : IE := .cl 530 3 (.var 531)
abbrev zTM6_13 : BE := .and (.and (.and (.not (.lt zTM6_11 (.lit 0))) (.lt zTM6_11 (.lit 3))) (.not (.lt zTM6_12 (.lit 0)))) (.lt zTM6_12 (.lit 3))
abbrev zTM6_14 : BE := .eq zTM6_11 (.lit 0)
abbrev zTM6_15 : BE := .eq zTM6_12 (.lit 0)
abbrev zTM6_16 : BE := .and zTM6_14 zTM6_15
abbrev zTM6_17 : IE := .op .max .i64 (.lit 0) (.cl 530 11 (.var 531))
abbrev zTM6_18 : BE := .eq zTM6_12 (.lit 1)
abbrev zTM6_19 : BE := .and zTM6_14 zTM6_18
abbrev zTM6_20 : IE := .op .max .i64 (.lit 0) (.cl 530 12 (.var 531))
abbrev zTM6_21 : IE := .op .max .i64 (.lit 0) (.cl 530 13 (.var 531))
abbrev zTM6_22 : BE := .eq zTM6_11 (.lit 1)
abbrev zTM6_23 : BE := .and zTM6_22 zTM6_15
abbrev zTM6_24 : IE := .op .max .i64 (.lit 0) (.cl 530 14 (.var 531))
abbrev zTM6_25 : BE := .and zTM6_22 zTM6_18
abbrev zTM6_26 : IE := .op .max .i64 (.lit 0) (.cl 530 15 (.var 531))
abbrev zTM6_27 : IE := .op .max .i64 (.lit 0) (.cl 530 16 (.var 531))
abbrev zTM6_28 : IE := .op .max .i64 (.lit 0) (.cl 530 17 (.var 531))
abbrev zTM6_29 : IE := .op .max .i64 (.lit 0) (.cl 530 18 (.var 531))
abbrev zTM6_30 : IE := .op .max .i64 (.lit 0) (.cl 530 19 (.var 531))
abbrev zTM6_31 : IE := .op .max .i64 (.ite zTM6_16 zTM6_17 (.ite zTM6_19 zTM6_20 (.ite zTM6_14 zTM6_21 (.ite zTM6_23 zTM6_24 (.ite zTM6_25 zTM6_26 (.ite zTM6_22 zTM6_27 (.ite zTM6_15 zTM6_28 (.ite zTM6_18 zTM6_29 zTM6_30)))))))) (.cl 530 4 (.var 531))
abbrev zTM6_32 : IE := .ite zTM6_10 (.op .max .i64 (.op .max .i64 (.lit 0) (.var 532)) (.ite zTM6_13 (.ite zTM6_16 zTM6_31 zTM6_17) zTM6_17)) (.var 532)
abbrev zTM6_33 : IE := .ite zTM6_10 (.op .max .i64 (.op .max .i64 (.lit 0) (.var 533)) (.ite zTM6_13 (.ite zTM6_16 zTM6_20 (.ite zTM6_19 zTM6_31 zTM6_20)) zTM6_20)) (.var 533)
abbrev zTM6_34 : IE := .ite zTM6_10 (.op .max .i64 (.op .max .i64 (.lit 0) (.var 534)) (.ite zTM6_13 (.ite zTM6_16 zTM6_21 (.ite zTM6_19 zTM6_21 (.ite zTM6_14 zTM6_31 zTM6_21))) zTM6_21)) (.var 534)
abbrev zTM6_35 : IE := .ite zTM6_10 (.op .max .i64 (.op .max .i64 (.lit 0) (.var 535)) (.ite zTM6_13 (.ite zTM6_16 zTM6_24 (.ite zTM6_19 zTM6_24 (.ite zTM6_14 zTM6_24 (.ite zTM6_23 zTM6_31 zTM6_24)))) zTM6_24)) (.var 535)
abbrev zTM6_36 : IE := .ite zTM6_10 (.op .max .i64 (.op .max .i64 (.lit 0) (.var 536)) (.ite zTM6_13 (.ite zTM6_16 zTM6_26 (.ite zTM6_19 zTM6_26 (.ite zTM6_14 zTM6_26 (.ite zTM6_23 zTM6_26 (.ite zTM6_25 zTM6_31 zTM6_26))))) zTM6_26)) (.var 536)
abbrev zTM6_37 : IE := .ite zTM6_10 (.op .max .i64 (.op .max .i64 (.lit 0) (.var 537)) (.ite zTM6_13 (.ite zTM6_16 zTM6_27 (.ite zTM6_19 zTM6_27 (.ite zTM6_14 zTM6_27 (.ite zTM6_23 zTM6_27 (.ite zTM6_25 zTM6_27 (.ite zTM6_22 zTM6_31 zTM6_27)))))) zTM6_27)) (.var 537)
abbrev zTM6_38 : IE := .ite zTM6_10 (.op .max .i64 (.op .max .i64 (.lit 0) (.var 538)) (.ite zTM6_13 (.ite zTM6_16 zTM6_28 (.ite zTM6_19 zTM6_28 (.ite zTM6_14 zTM6_28 (.ite zTM6_23 zTM6_28 (.ite zTM6_25 zTM6_28 (.ite zTM6_22 zTM6_28 (.ite zTM6_15 zTM6_31 zTM6_28))))))) zTM6_28)) (.var 538)
abbrev zTM6_39 : IE := .ite zTM6_10 (.op .max .i64 (.op .max .i64 (.lit 0) (.var 539)) (.ite zTM6_13 (.ite zTM6_16 zTM6_29 (.ite zTM6_19 zTM6_29 (.ite zTM6_14 zTM6_29 (.ite zTM6_23 zTM6_29 (.ite zTM6_25 zTM6_29 (.ite zTM6_22 zTM6_29 (.ite zTM6_15 zTM6_29 (.ite zTM6_18 zTM6_31 zTM6_29)))))))) zTM6_29)) (.var 539)
abbrev zTM6_40 : IE := .ite zTM6_10 (.op .max .i64 (.op .max .i64 (.lit 0) (.var 540)) (.ite zTM6_13 (.ite zTM6_16 zTM6_30 (.ite zTM6_19 zTM6_30 (.ite zTM6_14 zTM6_30 (.ite zTM6_23 zTM6_30 (.ite zTM6_25 zTM6_30 (.ite zTM6_22 zTM6_30 (.ite zTM6_15 zTM6_30 (.ite zTM6_18 zTM6_30 zTM6_31)))))))) zTM6_30)) (.var 540)
def t1_S : XS := ⟨zTM6_2, zTM6_8, 131⟩
def t1_Φ : Facts := ((.lt (.var 531) (.lit 0), false) :: tnP)
def t1_b : Bind := ⟨[(531, zTM6_9), (532, zTM6_32), (533, zTM6_33), (534, zTM6_34), (535, zTM6_35), (536, zTM6_36), (537, zTM6_37), (538, zTM6_38), (539, zTM6_39), (540, zTM6_40)], [], [], [(530, (.len 2), (.var 530 zTM6_5))]⟩
def t1_i : Bind := ⟨[(531, (.lit 0)), (532, (.var 510)), (533, (.var 511)), (534, (.var 512)), (535, (.var 513)), (536, (.var 514)), (537, (.var 515)), (538, (.var 516)), (539, (.var 517)), (540, (.var 518))], [], [], [(530, (.len 2), (.upd (.cl 505 0 (.var 502)) [(.i .i64 (.cl 3 0 (.var 500))), (.b (.cl 3 1 (.var 500))), (.i .i64 (.cl 3 2 (.var 500))), (.i .i64 (.cl 3 3 (.var 500))), (.i .i64 (.cl 3 4 (.var 500))), (.i .i64 (.cl 3 5 (.var 500))), (.i .i64 (.cl 3 6 (.var 500))), (.i .i64 (.cl 3 7 (.var 500))), (.s (.cl 3 8 (.var 500))), (.s (.cl 3 9 (.var 500))), (.b (.cl 3 10 (.var 500))), (.i .i64 (.cl 3 11 (.var 500))), (.i .i64 (.cl 3 12 (.var 500))), (.i .i64 (.cl 3 13 (.var 500))), (.i .i64 (.cl 3 14 (.var 500))), (.i .i64 (.cl 3 15 (.var 500))), (.i .i64 (.cl 3 16 (.var 500))), (.i .i64 (.cl 3 17 (.var 500))), (.i .i64 (.cl 3 18 (.var 500))), (.i .i64 (.cl 3 19 (.var 500))), (.i .i64 (.cl 3 20 (.var 500))), (.i .i64 (.cl 3 21 (.var 500))), (.i .i64 (.cl 3 22 (.var 500))), (.i .i64 (.cl 3 23 (.var 500))), (.i .i64 (.cl 3 24 (.var 500)))] (.var 504 zTM6_5)))]⟩
def t1_t : T (XE × XS) := (.br (.lt (.var 531) (.len 2)) (.ret (.normal, ⟨[(11, (.sc (.i .i64 zTM6_9))), (10, (.sc (.i .i64 (.len 2)))), (9, zTM6_0), (8, (.ptr (12, 0) [] 20)), (7, zTM6_1), (6, zTM6_1), (0, zTM6_1)], [((12, 0), [(.sc (.i .i64 (.var 0))), (.sc (.i .i64 (.var 1))), (.sc (.i .i64 (.var 2))), (.sc (.i .i64 (.var 3))), (.sc (.i .i64 (.var 4))), (.sc (.i .i64 (.var 5))), (.sc (.i .i64 (.var 6))), (.sc (.i .i64 (.var 7))), (.sc (.i .i64 (.var 8))), (.sc (.i .i64 zTM6_32)), (.sc (.i .i64 zTM6_33)), (.sc (.i .i64 zTM6_34)), (.sc (.i .i64 zTM6_35)), (.sc (.i .i64 zTM6_36)), (.sc (.i .i64 zTM6_37)), (.sc (.i .i64 zTM6_38)), (.sc (.i .i64 zTM6_39)), (.sc (.i .i64 zTM6_40)), (.sc (.i .i64 (.var 9))), zTM6_3, zTM6_0, zTM6_4, (.sc (.i .i64 (.var 519))), (.sc (.i .i64 (.lit 0)))]), ((12, 1), [(.rows 1 (.len 2) (.var 2 [.s]))]), ((12, 2), zTM6_6), ((12, 3), zTM6_7), ((134, 0), [(.sc (.i .i64 (.cl 530 0 (.var 531)))), (.sc (.b zTM6_10)), (.sc (.i .i64 zTM6_11)), (.sc (.i .i64 zTM6_12)), (.sc (.i .i64 (.cl 530 4 (.var 531)))), (.sc (.i .i64 (.cl 530 5 (.var 531)))), (.sc (.i .i64 (.cl 530 6 (.var 531)))), (.sc (.i .i64 (.cl 530 7 (.var 531)))), (.sc (.s (.cl 530 8 (.var 531)))), (.sc (.s (.cl 530 9 (.var 531)))), (.sc (.b (.cl 530 10 (.var 531)))), (.sc (.i .i64 (.cl 530 11 (.var 531)))), (.sc (.i .i64 (.cl 530 12 (.var 531)))), (.sc (.i .i64 (.cl 530 13 (.var 531)))), (.sc (.i .i64 (.cl 530 14 (.var 531)))), (.sc (.i .i64 (.cl 530 15 (.var 531)))), (.sc (.i .i64 (.cl 530 16 (.var 531)))), (.sc (.i .i64 (.cl 530 17 (.var 531)))), (.sc (.i .i64 (.cl 530 18 (.var 531)))), (.sc (.i .i64 (.cl 530 19 (.var 531)))), (.sc (.i .i64 (.cl 530 20 (.var 531)))), (.sc (.i .i64 (.cl 530 21 (.var 531)))), (.sc (.i .i64 (.cl 530 22 (.var 531)))), (.sc (.i .i64 (.cl 530 23 (.var 531)))), (.sc (.i .i64 (.cl 530 24 (.var 531))))])], 154⟩)) (.ret ((.exit 0), ⟨zTM6_2, zTM6_8, 132⟩)))
noncomputable def t1 : LoopX := ⟨((codeKey t1_c).getD 0), 125, 530, t1_S, t1_i, [], t1_t.outs⟩
theorem t1_run : (codeX (cfgL ([]) (fun _ => [])).ti (callS ⟨(cfgL ([]) (fun _ => [])), l_able, [9, 20, 33, 37, 58, 10010, 10011, 10013, 10014, 10023]⟩ 12) (((cfgL ([]) (fun _ => [])).ft 34).elim [] (·.ms)) t1.k0 ((fun _ => []) 34) 1000 t1_c t1_Φ t1.S).map (sqz (t1_S.t.map (·.1))) = t1_t := by kernel_rfl
theorem t1_back : t1_t.nrm (okS t1.k0 t1.n t1_b [] t1.S) = true := by kernel_rfl
theorem t1_bel : t1_t.outs.belX 541 = true := by kernel_rfl
theorem t1_ib : t1_i.bel 530 = true := by kernel_rfl
theorem t1_ig : t1_i.ge 530 = true := by kernel_rfl
theorem t1_bg : t1_b.ge 530 = true := by kernel_rfl
theorem t1_same : t1_i.same t1_b = true := by kernel_rfl
theorem t1_Sb : t1_S.bel 541 = true := by kernel_rfl
theorem t1_fits : fitsC Try.f34.ntmps t1_c = true := by kernel_rfl
end Go.Proofs.Ytdlifdoglhhnfaa
