/- What is shown of loops, each by one run of its body over letters. -/
import Derived.Test.YtonefailiekemaaXT
import Derived.Test.YtonefailiekemaaFL4
import Derived.Test.YtonefailiekemaaXwM2
namespace Go.Proofs.Ytonefailiekemaa
open Go Go.Proofs.Aw Go.Proofs.Xw
set_option maxRecDepth 100000

/-! dS: letters [400] [] [] [401] -/
noncomputable def dS_c : Code := (loopsOf (Try.f59.body.getD .skip))[1]?.getD .skip
abbrev zFL5_0 : X := .sc (.i .i64 (.cl 0 1 (.var 200)))
abbrev zFL5_1 : X := .sc (.b (.lit true))
abbrev zFL5_2 : X := .agg [(.sc (.i .i64 (.var 361))), (.sc (.i .i64 (.var 362))), (.sc (.i .i64 (.var 363)))]
abbrev zFL5_3 : X := .sc (.i .i64 (.var 205))
abbrev zFL5_4 : X := .ptr (14, 0) [] 0
abbrev zFL5_5 : List X := [(.sc (.i .i64 (.cl 0 21 (.var 200)))), (.sc (.i .i64 (.cl 0 22 (.var 200)))), (.sc (.i .i64 (.cl 0 23 (.var 200)))), (.sc (.i .i64 (.cl 0 24 (.var 200)))), (.sc (.i .i64 (.cl 0 25 (.var 200)))), (.sc (.i .i64 (.cl 0 26 (.var 200)))), (.sc (.i .i64 (.cl 0 27 (.var 200)))), (.sc (.i .i64 (.cl 0 28 (.var 200)))), (.sc (.i .i64 (.cl 0 29 (.var 200))))]
abbrev zFL5_6 : List X := [(.sc (.i .i64 (.var 321))), (.sc (.i .i64 (.var 322))), (.sc (.i .i64 (.var 323)))]
abbrev zFL5_7 : X := .sc (.b (.not (.eq (.var 301) (.var 206))))
abbrev zFL5_8 : X := .sc (.b (.eq (.var 301) (.var 206)))
abbrev zFL5_9 : X := .sc (.i .i64 (.lit 0))
abbrev zFL5_10 : X := .sc (.s (.cl 0 18 (.var 200)))
abbrev zFL5_11 : X := .sc (.s (.cl 0 19 (.var 200)))
abbrev zFL5_12 : X := .sc (.b (.cl 0 20 (.var 200)))
abbrev zFL5_13 : X := .sc (.i .i64 (.cl 0 2 (.var 200)))
abbrev zFL5_14 : X := .sc (.i .i64 (.cl 0 3 (.var 200)))
abbrev zFL5_15 : XTp := [(21, (.sc (.i .i64 (.var 400)))), (20, (.slv (127, 0) 1 (.lit 0) (.len 401) true)), (75, .top), (74, (.ro 1 [[zFL5_0]] true)), (73, zFL5_0), (72, (.k (.slice none 0 0))), (71, (.sc (.b (.lit false)))), (70, zFL5_1), (69, zFL5_2), (68, zFL5_3), (67, (.ptr (14, 0) [] 1)), (66, zFL5_4), (65, zFL5_4), (64, (.agg zFL5_5)), (63, (.agg zFL5_6)), (19, (.ptr (112, 0) [] 0)), (62, (.agg zFL5_6)), (61, zFL5_4), (18, (.sc (.i .i64 (.var 380)))), (27, zFL5_7), (26, zFL5_8), (25, zFL5_4), (17, zFL5_9), (16, zFL5_9), (12, (.ptr (96, 0) [] 0)), (0, zFL5_4), (1, zFL5_10), (2, zFL5_11), (3, zFL5_12), (4, (.agg zFL5_5)), (5, zFL5_0), (6, zFL5_13), (7, zFL5_14)]
abbrev zFL5_16 : List X := [(.sc (.i .i64 (.var 204))), zFL5_3, (.sc (.i .i64 (.var 206))), (.sc (.i .i64 (.var 210))), (.sc (.i .i64 (.var 211))), (.sc (.i .i64 (.var 212))), (.sc (.i .i64 (.var 213))), (.sc (.i .i64 (.var 214))), (.sc (.i .i64 (.var 215))), (.sc (.i .i64 (.var 216))), (.sc (.i .i64 (.var 217))), (.sc (.i .i64 (.var 218))), (.sc (.i .i64 (.var 219))), (.sc (.b (.var 220))), (.sc (.i .i64 (.var 221))), (.sc (.i .i64 (.var 222))), (.sc (.i .i64 (.var 223))), (.sc (.i .i64 (.var 224))), (.slv (13, 0) 20 (.lit 0) (.len 201) true), (.sc (.i .i64 (.var 225))), (.sc (.i .i64 (.var 229))), (.sc (.i .i64 (.var 227))), zFL5_9, zFL5_1]
abbrev zFL5_17 : List X := [(.rows 20 (.len 201) (.var 201 [(.i .i64), (.i .i64), (.i .i64), (.i .i64), (.i .i64), (.i .i64), .s, .s, .b, (.i .i64), (.i .i64), (.i .i64), (.i .i64), (.i .i64), (.i .i64), (.i .i64), (.i .i64), (.i .i64), (.i .i64), (.i .i64)]))]
abbrev zFL5_18 : XHp := [((14, 0), zFL5_16), ((13, 0), zFL5_17), ((96, 0), zFL5_5), ((112, 0), zFL5_6), ((127, 0), [(.rows 1 (.len 401) (.var 401 [(.i .i64)]))])]
abbrev zFL5_19 : IE := .op .add .i64 (.var 400) (.lit 1)
abbrev zFL5_20 : IE := .op .padd .i64 (.len 401) (.lit 1)
abbrev zFL5_21 : RL := .app (.len 401) (.var 401 [(.i .i64)]) (.one [(.i .i64 (.cl 201 3 (.var 400)))])
def dS_S : XS := ⟨zFL5_15, zFL5_18, 130⟩
def dS_Φ : Facts := [(.lt (.var 400) (.lit 0), false)]
def dS_b : Bind := ⟨[(400, zFL5_19)], [], [], [(401, zFL5_20, zFL5_21)]⟩
def dS_i : Bind := ⟨[(400, (.lit 0))], [], [], [(401, (.lit 1), (.one [(.i .i64 (.cl 0 1 (.var 200)))]))]⟩
def dS_t : T (XE × XS) := (.br (.lt (.var 400) (.len 201)) (.need (.not (.lt (.lit 17592186044416) zFL5_20)) (.ret (.normal, ⟨[(21, (.sc (.i .i64 zFL5_19))), (20, (.slv (148, 0) 1 (.lit 0) zFL5_20 true)), (75, .top), (74, (.ro 1 [[zFL5_0]] true)), (73, zFL5_0), (72, (.k (.slice none 0 0))), (71, (.sc (.b (.lit false)))), (70, zFL5_1), (69, zFL5_2), (68, zFL5_3), (67, (.ptr (14, 0) [] 1)), (66, zFL5_4), (65, zFL5_4), (64, (.agg zFL5_5)), (63, (.agg zFL5_6)), (19, (.ptr (112, 0) [] 0)), (62, (.agg zFL5_6)), (61, zFL5_4), (18, (.sc (.i .i64 (.var 380)))), (27, zFL5_7), (26, zFL5_8), (25, zFL5_4), (17, zFL5_9), (16, zFL5_9), (12, (.ptr (96, 0) [] 0)), (0, zFL5_4), (1, zFL5_10), (2, zFL5_11), (3, zFL5_12), (4, (.agg zFL5_5)), (5, zFL5_0), (6, zFL5_13), (7, zFL5_14)], [((14, 0), zFL5_16), ((13, 0), zFL5_17), ((96, 0), zFL5_5), ((112, 0), zFL5_6), ((148, 0), [(.rows 1 zFL5_20 zFL5_21)])], 153⟩))) (.ret ((.exit 2), ⟨zFL5_15, zFL5_18, 137⟩)))
noncomputable def dS : LoopX := ⟨((codeKey dS_c).getD 0), 96, 400, dS_S, dS_i, [], dS_t.outs⟩
theorem dS_run : (codeX (cfgL ([]) (fun _ => [])).ti (callS ⟨(cfgL ([]) (fun _ => [])), l_able, [105,82,106,84,51,11,31,10014,10024,10025,10026,10028,10032,10033,10035,10038,10039,10040,10041,10045,10047,10048,10065,10066,10067,10071,10064,10068,10069,10070,10072,10073,10092,10085]⟩ 12) (((cfgL (ksP depX true colX ++ ksC ++ ksRos) lpx).ft 59).elim [] (·.ms)) dS.k0 ((fun _ => []) 59) 1000 dS_c dS_Φ dS.S).map (sqz (dS_S.t.map (·.1))) = dS_t := by kernel_rfl
theorem dS_back : dS_t.nrm (okS dS.k0 dS.n dS_b [((127, 0), (148, 0))] dS.S) = true := by kernel_rfl
theorem dS_bel : dS_t.outs.belX 402 = true := by kernel_rfl
theorem dS_ib : dS_i.bel 400 = true := by kernel_rfl
theorem dS_ig : dS_i.ge 400 = true := by kernel_rfl
theorem dS_bg : dS_b.ge 400 = true := by kernel_rfl
theorem dS_same : dS_i.same dS_b = true := by kernel_rfl
theorem dS_Sb : dS_S.bel 402 = true := by kernel_rfl
theorem dS_fits : fitsC Try.f59.ntmps dS_c = true := by kernel_rfl
end Go.Proofs.Ytonefailiekemaa
