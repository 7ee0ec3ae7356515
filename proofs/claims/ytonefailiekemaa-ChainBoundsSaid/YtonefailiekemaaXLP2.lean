/- What is shown of loops, each by one run of its body over letters. -/
import Derived.Test.YtonefailiekemaaXT
import Derived.Test.YtonefailiekemaaXLP1
import Derived.Test.YtonefailiekemaaXwM2
namespace Go.Proofs.Ytonefailiekemaa
open Go Go.Proofs.Aw Go.Proofs.Xw
set_option maxRecDepth 100000
noncomputable def lpP (f : Nat) : List LoopX := if Nat.beq f 50 = true then [pA] else []
/-! pB: letters [120, 121, 122, 123, 124, 125, 126, 127, 128, 129] [] [] [] -/
noncomputable def pB_c : Code := (loopsOf (Try.f50.body.getD .skip))[1]?.getD .skip
abbrev zXLP2_0 : X := .sc (.i .i64 (.len 0))
abbrev zXLP2_1 : X := .rl 20 (.len 0) (.var 0 [(.i .i64), (.i .i64), (.i .i64), (.i .i64), (.i .i64), (.i .i64), .s, .s, .b, (.i .i64), (.i .i64), (.i .i64), (.i .i64), (.i .i64), (.i .i64), (.i .i64), (.i .i64), (.i .i64), (.i .i64), (.i .i64)]) false
abbrev zXLP2_2 : XTp := [(22, (.sc (.i .i64 (.var 120)))), (21, zXLP2_0), (20, zXLP2_1), (10, (.sc (.i .i64 (.var 100)))), (9, zXLP2_0), (8, zXLP2_1), (3, (.ptr (1, 0) [] 0)), (2, (.ptr (0, 0) [] 0)), (0, zXLP2_1)]
abbrev zXLP2_3 : X := .sc (.i .i64 (.lit 0))
abbrev zXLP2_4 : List X := [zXLP2_3, zXLP2_3, zXLP2_3, zXLP2_3, zXLP2_3, zXLP2_3, zXLP2_3, zXLP2_3, zXLP2_3]
abbrev zXLP2_5 : XHp := [((0, 0), zXLP2_4), ((1, 0), [(.sc (.i .i64 (.var 121))), (.sc (.i .i64 (.var 122))), (.sc (.i .i64 (.var 123))), (.sc (.i .i64 (.var 124))), (.sc (.i .i64 (.var 125))), (.sc (.i .i64 (.var 126))), (.sc (.i .i64 (.var 127))), (.sc (.i .i64 (.var 128))), (.sc (.i .i64 (.var 129)))])]
abbrev zXLP2_6 : IE := .op .add .i64 (.var 120) (.lit 1)
abbrev zXLP2_7 : IE := .cl 0 0 (.var 120)
abbrev zXLP2_8 : IE := .cl 0 1 (.var 120)
abbrev zXLP2_9 : BE := .and (.and (.and (.not (.lt zXLP2_7 (.lit 0))) (.lt zXLP2_7 (.lit 3))) (.not (.lt zXLP2_8 (.lit 0)))) (.lt zXLP2_8 (.lit 3))
abbrev zXLP2_10 : BE := .eq zXLP2_7 (.lit 0)
abbrev zXLP2_11 : BE := .eq zXLP2_8 (.lit 0)
abbrev zXLP2_12 : BE := .and zXLP2_10 zXLP2_11
abbrev zXLP2_13 : BE := .eq zXLP2_8 (.lit 1)
abbrev zXLP2_14 : BE := .and zXLP2_10 zXLP2_13
abbrev zXLP2_15 : BE := .eq zXLP2_7 (.lit 1)
abbrev zXLP2_16 : BE := .and zXLP2_15 zXLP2_11
abbrev zXLP2_17 : BE := .and zXLP2_15 zXLP2_13
abbrev zXLP2_18 : IE := .op .max .i64 (.ite zXLP2_12 (.var 121) (.ite zXLP2_14 (.var 122) (.ite zXLP2_10 (.var 123) (.ite zXLP2_16 (.var 124) (.ite zXLP2_17 (.var 125) (.ite zXLP2_15 (.var 126) (.ite zXLP2_11 (.var 127) (.ite zXLP2_13 (.var 128) (.var 129))))))))) (.cl 0 2 (.var 120))
abbrev zXLP2_19 : IE := .ite zXLP2_9 (.ite zXLP2_12 zXLP2_18 (.var 121)) (.var 121)
abbrev zXLP2_20 : IE := .ite zXLP2_9 (.ite zXLP2_12 (.var 122) (.ite zXLP2_14 zXLP2_18 (.var 122))) (.var 122)
abbrev zXLP2_21 : IE := .ite zXLP2_9 (.ite zXLP2_12 (.var 123) (.ite zXLP2_14 (.var 123) (.ite zXLP2_10 zXLP2_18 (.var 123)))) (.var 123)
abbrev zXLP2_22 : IE := .ite zXLP2_9 (.ite zXLP2_12 (.var 124) (.ite zXLP2_14 (.var 124) (.ite zXLP2_10 (.var 124) (.ite zXLP2_16 zXLP2_18 (.var 124))))) (.var 124)
abbrev zXLP2_23 : IE := .ite zXLP2_9 (.ite zXLP2_12 (.var 125) (.ite zXLP2_14 (.var 125) (.ite zXLP2_10 (.var 125) (.ite zXLP2_16 (.var 125) (.ite zXLP2_17 zXLP2_18 (.var 125)))))) (.var 125)
abbrev zXLP2_24 : IE := .ite zXLP2_9 (.ite zXLP2_12 (.var 126) (.ite zXLP2_14 (.var 126) (.ite zXLP2_10 (.var 126) (.ite zXLP2_16 (.var 126) (.ite zXLP2_17 (.var 126) (.ite zXLP2_15 zXLP2_18 (.var 126))))))) (.var 126)
abbrev zXLP2_25 : IE := .ite zXLP2_9 (.ite zXLP2_12 (.var 127) (.ite zXLP2_14 (.var 127) (.ite zXLP2_10 (.var 127) (.ite zXLP2_16 (.var 127) (.ite zXLP2_17 (.var 127) (.ite zXLP2_15 (.var 127) (.ite zXLP2_11 zXLP2_18 (.var 127)))))))) (.var 127)
abbrev zXLP2_26 : IE := .ite zXLP2_9 (.ite zXLP2_12 (.var 128) (.ite zXLP2_14 (.var 128) (.ite zXLP2_10 (.var 128) (.ite zXLP2_16 (.var 128) (.ite zXLP2_17 (.var 128) (.ite zXLP2_15 (.var 128) (.ite zXLP2_11 (.var 128) (.ite zXLP2_13 zXLP2_18 (.var 128))))))))) (.var 128)
abbrev zXLP2_27 : IE := .ite zXLP2_9 (.ite zXLP2_12 (.var 129) (.ite zXLP2_14 (.var 129) (.ite zXLP2_10 (.var 129) (.ite zXLP2_16 (.var 129) (.ite zXLP2_17 (.var 129) (.ite zXLP2_15 (.var 129) (.ite zXLP2_11 (.var 129) (.ite zXLP2_13 (.var 129) zXLP2_18)))))))) (.var 129)
def pB_S : XS := ⟨zXLP2_2, zXLP2_5, 9⟩
def pB_Φ : Facts := [(.lt (.var 120) (.lit 0), false)]
def pB_b : Bind := ⟨[(120, zXLP2_6), (121, zXLP2_19), (122, zXLP2_20), (123, zXLP2_21), (124, zXLP2_22), (125, zXLP2_23), (126, zXLP2_24), (127, zXLP2_25), (128, zXLP2_26), (129, zXLP2_27)], [], [], []⟩
def pB_i : Bind := ⟨[(120, (.lit 0)), (121, (.var 101)), (122, (.var 102)), (123, (.var 103)), (124, (.var 104)), (125, (.var 105)), (126, (.var 106)), (127, (.var 107)), (128, (.var 108)), (129, (.var 109))], [], [], []⟩
def pB_t : T (XE × XS) := (.br (.lt (.var 120) (.len 0)) (.ret (.normal, ⟨[(22, (.sc (.i .i64 zXLP2_6))), (21, zXLP2_0), (20, zXLP2_1), (10, (.sc (.i .i64 (.var 100)))), (9, zXLP2_0), (8, zXLP2_1), (3, (.ptr (1, 0) [] 0)), (2, (.ptr (0, 0) [] 0)), (0, zXLP2_1)], [((0, 0), zXLP2_4), ((1, 0), [(.sc (.i .i64 zXLP2_19)), (.sc (.i .i64 zXLP2_20)), (.sc (.i .i64 zXLP2_21)), (.sc (.i .i64 zXLP2_22)), (.sc (.i .i64 zXLP2_23)), (.sc (.i .i64 zXLP2_24)), (.sc (.i .i64 zXLP2_25)), (.sc (.i .i64 zXLP2_26)), (.sc (.i .i64 zXLP2_27))]), ((12, 0), [(.sc (.i .i64 zXLP2_7)), (.sc (.i .i64 zXLP2_8)), (.sc (.i .i64 (.cl 0 2 (.var 120)))), (.sc (.i .i64 (.cl 0 3 (.var 120)))), (.sc (.i .i64 (.cl 0 4 (.var 120)))), (.sc (.i .i64 (.cl 0 5 (.var 120)))), (.sc (.s (.cl 0 6 (.var 120)))), (.sc (.s (.cl 0 7 (.var 120)))), (.sc (.b (.cl 0 8 (.var 120)))), (.sc (.i .i64 (.cl 0 9 (.var 120)))), (.sc (.i .i64 (.cl 0 10 (.var 120)))), (.sc (.i .i64 (.cl 0 11 (.var 120)))), (.sc (.i .i64 (.cl 0 12 (.var 120)))), (.sc (.i .i64 (.cl 0 13 (.var 120)))), (.sc (.i .i64 (.cl 0 14 (.var 120)))), (.sc (.i .i64 (.cl 0 15 (.var 120)))), (.sc (.i .i64 (.cl 0 16 (.var 120)))), (.sc (.i .i64 (.cl 0 17 (.var 120)))), (.sc (.i .i64 (.cl 0 18 (.var 120)))), (.sc (.i .i64 (.cl 0 19 (.var 120))))])], 22⟩)) (.ret ((.exit 2), ⟨zXLP2_2, zXLP2_5, 10⟩)))
noncomputable def pB : LoopX := ⟨((codeKey pB_c).getD 0), 0, 120, pB_S, pB_i, [], pB_t.outs⟩
theorem pB_run : (codeX (cfgL ([]) (fun _ => [])).ti (callS ⟨(cfgL ([]) (fun _ => [])), l_able, [105,82,106,84,51,11,31,10014,10024,10025,10026,10028,10032,10033,10035,10038,10039,10040,10041,10045,10047,10048,10065,10066,10067,10071,10064,10068,10069,10070,10072,10073,10092,10085]⟩ 12) (((cfgL ([]) lpP).ft 50).elim [] (·.ms)) pB.k0 ((fun _ => []) 50) 1000 pB_c pB_Φ pB.S).map (sqz (pB_S.t.map (·.1))) = pB_t := by kernel_rfl
theorem pB_back : pB_t.nrm (okS pB.k0 pB.n pB_b [] pB.S) = true := by kernel_rfl
theorem pB_bel : pB_t.outs.belX 130 = true := by kernel_rfl
theorem pB_ib : pB_i.bel 120 = true := by kernel_rfl
theorem pB_ig : pB_i.ge 120 = true := by kernel_rfl
theorem pB_bg : pB_b.ge 120 = true := by kernel_rfl
theorem pB_same : pB_i.same pB_b = true := by kernel_rfl
theorem pB_Sb : pB_S.bel 130 = true := by kernel_rfl
theorem pB_fits : fitsC Try.f50.ntmps pB_c = true := by kernel_rfl
end Go.Proofs.Ytonefailiekemaa
