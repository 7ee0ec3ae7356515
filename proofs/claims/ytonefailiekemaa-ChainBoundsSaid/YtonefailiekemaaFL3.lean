/- What is shown of loops, each by one run of its body over letters. -/
import Derived.Test.YtonefailiekemaaXT
import Derived.Test.YtonefailiekemaaFL2
import Derived.Test.YtonefailiekemaaXwM2
namespace Go.Proofs.Ytonefailiekemaa
open Go Go.Proofs.Aw Go.Proofs.Xw
set_option maxRecDepth 100000
abbrev hf3_ : List Nat := [105,82,106,84,51,11,31,10014,10024,10025,10026,10028,10032,10033,10035,10038,10039,10040,10041,10045,10047,10048,10065,10066,10067,10071,10064,10068,10069,10070,10072,10073,10092,10085]
def ksM : List (Nat × List X × X) := [(10, [puR], .sc (.b (.var 90)))]
def limC : Facts := [(.var 90, false), (.lt (.lit 400) (.len 0), false)]
def cI (k : Nat) : X := .sc (.i .i64 (.cl 0 k (.var 200)))
def logX : X := .rl 20 (.len 201) (.var 201 ke) false
def cntX : X := .rl 1 (.len 341) (.var 341 [.i .i64]) false
def cntD : X := .rl 1 (.len 401) (.var 401 [.i .i64]) false
def fn1 : X := .fn (.func 86) [] [.ip [cI 2] [] 0, .ip [cI 3] [] 0]
def nilX : X := .k (.slice none 0 0)
def slvC : X := .slv (11, 0) 20 (.lit 0) (.len 201) true
def slvD : X := .slv (13, 0) 20 (.lit 0) (.len 201) true
def cfgC : List X := (List.range 10).map (fun k => iV (210 + k)) ++ [.sc (.b (.var 220)), iV 221, iV 222]
def cfX : X := .agg cfgC
def cfgA : X := .agg ((List.range 10).map (fun k => cI (5 + k)) ++ [.sc (.b (.cl 0 15 (.var 200))), cI 16, cI 17])
def objZ : List X := [iV 204, iV 205, iV 206] ++ List.replicate 10 (iC 0) ++ [.sc (.b (.lit false)), iC 0, iC 0, iC 0, iC 0, nilX, iC 0, iC 0, iC 0, iC 0, .sc (.b (.lit false))]
def objC (l : X) (st : Nat) : List X := [iV 204, iV 205, iV 206] ++ cfgC ++ [iV 223, iV 224, l, iV 225, iV st, iV 227, iC 0, .sc (.b (.lit true))]
def hpZ : XHp := [((12, 0), objZ), ((14, 0), objZ)]
def hpN : XHp := [((12, 0), objC nilX 226), ((14, 0), objC nilX 229)]
def hpL : XHp := [((12, 0), objC slvC 226), ((14, 0), objC slvD 229), ((11, 0), [.rows 20 (.len 201) (.var 201 ke)]), ((13, 0), [.rows 20 (.len 201) (.var 201 ke)])]
def bX (k : Nat) : X := .sc (.b (.var k))
def ksRos : List (Nat × List X × X) := [(81, [cfX], iV 301), (102, [cfX], iV 301), (80, [cfX], iV 302), (103, [cfX], iV 302), (56, [cfX, iV 206], iV 303), (99, [cfX, iV 206], iV 303), (55, [cfX, iV 206], iV 304), (100, [cfX, iV 206], iV 304), (57, [cfX, iV 206], bX 305), (101, [cfX, iV 206], bX 305)]
def ksH (m : X) : List (Nat × List X × X) := [(57, [cfX, m], bX 308), (101, [cfX, m], bX 308)]
def ksE (v : Bool) : List (Nat × List X × X) := [(42, [cfgA], .sc (.b (.lit v))), (89, [cfgA], .sc (.b (.lit v))), (43, [cfgA, iV 206], iV 306), (90, [cfgA, iV 206], iV 306), (80, [cfgA], iV 307), (103, [cfgA], iV 307)]
def ksC : List (Nat × List X × X) := [(22, [iV 205, logX], .agg [iV 321, iV 322, iV 323]), (108, [iV 205, logX], .agg [iV 321, iV 322, iV 323]), (50, [logX], .agg [iV 311, iV 312, iV 313, iV 314, iV 315, iV 316, iV 317, iV 318, iV 319]), (97, [logX], .agg [iV 311, iV 312, iV 313, iV 314, iV 315, iV 316, iV 317, iV 318, iV 319]), (85, [logX, fn1], iV 331)]
def ksY : List (Nat × List X × X) := [(46, [iV 204, iV 205, cntX], .tup [.agg [iV 351, iV 204, iV 205], .sc (.b (.lit true))]), (95, [iV 204, iV 205, cntD], .tup [.agg [iV 351, iV 204, iV 205], .sc (.b (.lit true))])]
def ksZ : List (Nat × List X × X) := [(46, [iV 204, iV 205, cntX], .tup [.agg [iC 0, iC 0, iC 0], .sc (.b (.lit false))]), (95, [iV 204, iV 205, cntD], .tup [.agg [iC 0, iC 0, iC 0], .sc (.b (.lit false))])]
abbrev zFL3_0 : X := .slv (11, 0) 20 (.lit 0) (.len 201) true
abbrev zFL3_1 : X := .ptr (12, 0) [] 0
abbrev zFL3_2 : X := .sc (.i .i64 (.cl 0 1 (.var 200)))
abbrev zFL3_3 : IE := .op .add .i64 (.lit 1) (.var 331)
abbrev zFL3_4 : X := .sc (.b (.lt (.lit 0) zFL3_3))
abbrev zFL3_5 : X := .sc (.i .i64 zFL3_3)
abbrev zFL3_6 : X := .sc (.i .i64 (.cl 0 3 (.var 200)))
abbrev zFL3_7 : X := .sc (.i .i64 (.cl 0 2 (.var 200)))
abbrev zFL3_8 : X := .sc (.b (.not (.eq (.var 301) (.var 206))))
abbrev zFL3_9 : X := .sc (.b (.eq (.var 301) (.var 206)))
abbrev zFL3_10 : X := .sc (.i .i64 (.lit 0))
abbrev zFL3_11 : X := .sc (.s (.cl 0 18 (.var 200)))
abbrev zFL3_12 : X := .sc (.s (.cl 0 19 (.var 200)))
abbrev zFL3_13 : X := .sc (.b (.cl 0 20 (.var 200)))
abbrev zFL3_14 : List X := [(.sc (.i .i64 (.cl 0 21 (.var 200)))), (.sc (.i .i64 (.cl 0 22 (.var 200)))), (.sc (.i .i64 (.cl 0 23 (.var 200)))), (.sc (.i .i64 (.cl 0 24 (.var 200)))), (.sc (.i .i64 (.cl 0 25 (.var 200)))), (.sc (.i .i64 (.cl 0 26 (.var 200)))), (.sc (.i .i64 (.cl 0 27 (.var 200)))), (.sc (.i .i64 (.cl 0 28 (.var 200)))), (.sc (.i .i64 (.cl 0 29 (.var 200))))]
abbrev zFL3_15 : XTp := [(43, (.sc (.i .i64 (.var 340)))), (42, (.sc (.i .i64 (.len 201)))), (41, zFL3_0), (40, (.ptr (12, 0) [] 18)), (39, zFL3_1), (38, zFL3_1), (19, (.slv (89, 0) 1 (.lit 0) (.len 341) true)), (37, .top), (36, zFL3_2), (34, zFL3_4), (33, zFL3_5), (18, zFL3_5), (32, zFL3_5), (31, zFL3_6), (30, zFL3_7), (29, zFL3_1), (28, zFL3_8), (27, zFL3_9), (26, zFL3_1), (17, zFL3_10), (16, zFL3_10), (12, (.ptr (75, 0) [] 0)), (0, zFL3_1), (1, zFL3_11), (2, zFL3_12), (3, zFL3_13), (4, (.agg zFL3_14)), (5, zFL3_2), (6, zFL3_7), (7, zFL3_6)]
abbrev zFL3_16 : List X := [(.sc (.i .i64 (.var 204))), (.sc (.i .i64 (.var 205))), (.sc (.i .i64 (.var 206))), (.sc (.i .i64 (.var 210))), (.sc (.i .i64 (.var 211))), (.sc (.i .i64 (.var 212))), (.sc (.i .i64 (.var 213))), (.sc (.i .i64 (.var 214))), (.sc (.i .i64 (.var 215))), (.sc (.i .i64 (.var 216))), (.sc (.i .i64 (.var 217))), (.sc (.i .i64 (.var 218))), (.sc (.i .i64 (.var 219))), (.sc (.b (.var 220))), (.sc (.i .i64 (.var 221))), (.sc (.i .i64 (.var 222))), (.sc (.i .i64 (.var 223))), (.sc (.i .i64 (.var 224))), zFL3_0, (.sc (.i .i64 (.var 225))), (.sc (.i .i64 (.var 226))), (.sc (.i .i64 (.var 227))), zFL3_10, (.sc (.b (.lit true)))]
abbrev zFL3_17 : List X := [(.rows 20 (.len 201) (.var 201 [(.i .i64), (.i .i64), (.i .i64), (.i .i64), (.i .i64), (.i .i64), .s, .s, .b, (.i .i64), (.i .i64), (.i .i64), (.i .i64), (.i .i64), (.i .i64), (.i .i64), (.i .i64), (.i .i64), (.i .i64), (.i .i64)]))]
abbrev zFL3_18 : XHp := [((12, 0), zFL3_16), ((11, 0), zFL3_17), ((75, 0), zFL3_14), ((89, 0), [(.rows 1 (.len 341) (.var 341 [(.i .i64)]))])]
abbrev zFL3_19 : IE := .op .add .i64 (.var 340) (.lit 1)
abbrev zFL3_20 : IE := .op .padd .i64 (.len 341) (.lit 1)
abbrev zFL3_21 : Sc := .i .i64 (.cl 201 3 (.var 340))
abbrev zFL3_22 : RL := .app (.len 341) (.var 341 [(.i .i64)]) (.one [zFL3_21])
abbrev zFL3_23 : X := .ptr (14, 0) [] 0
abbrev zFL3_24 : X := .ptr (96, 0) [] 0
abbrev zFL3_25 : XTp := [(18, (.sc (.i .i64 (.var 380)))), (27, zFL3_8), (26, zFL3_9), (25, zFL3_23), (17, zFL3_10), (16, zFL3_10), (12, zFL3_24), (0, zFL3_23), (1, zFL3_11), (2, zFL3_12), (3, zFL3_13), (4, (.agg zFL3_14)), (5, zFL3_2), (6, zFL3_7), (7, zFL3_6)]
abbrev zFL3_26 : XHp := [((14, 0), [(.sc (.i .i64 (.var 204))), (.sc (.i .i64 (.var 205))), (.sc (.i .i64 (.var 206))), (.sc (.i .i64 (.var 210))), (.sc (.i .i64 (.var 211))), (.sc (.i .i64 (.var 212))), (.sc (.i .i64 (.var 213))), (.sc (.i .i64 (.var 214))), (.sc (.i .i64 (.var 215))), (.sc (.i .i64 (.var 216))), (.sc (.i .i64 (.var 217))), (.sc (.i .i64 (.var 218))), (.sc (.i .i64 (.var 219))), (.sc (.b (.var 220))), (.sc (.i .i64 (.var 221))), (.sc (.i .i64 (.var 222))), (.sc (.i .i64 (.var 223))), (.sc (.i .i64 (.var 224))), (.slv (13, 0) 20 (.lit 0) (.len 201) true), (.sc (.i .i64 (.var 225))), (.sc (.i .i64 (.var 229))), (.sc (.i .i64 (.var 227))), zFL3_10, (.sc (.b (.lit true)))]), ((13, 0), zFL3_17), ((96, 0), zFL3_14)]
abbrev zFL3_27 : X := .sc (.i .i64 (.op .add .i64 (.var 380) (.lit 1)))
def eI : X := (.agg [(.sc (.i .i64 (.cl 0 30 (.var 200)))), (.sc (.i .i64 (.cl 0 31 (.var 200)))), (.sc (.i .i64 (.cl 0 32 (.var 200)))), (.sc (.i .i64 (.cl 0 33 (.var 200)))), (.sc (.i .i64 (.cl 0 34 (.var 200)))), (.sc (.i .i64 (.cl 0 35 (.var 200)))), (.sc (.s (.cl 0 36 (.var 200)))), (.sc (.s (.cl 0 37 (.var 200)))), (.sc (.b (.cl 0 38 (.var 200)))), (.sc (.i .i64 (.cl 0 39 (.var 200)))), (.sc (.i .i64 (.cl 0 40 (.var 200)))), (.sc (.i .i64 (.cl 0 41 (.var 200)))), (.sc (.i .i64 (.cl 0 42 (.var 200)))), (.sc (.i .i64 (.cl 0 43 (.var 200)))), (.sc (.i .i64 (.cl 0 44 (.var 200)))), (.sc (.i .i64 (.cl 0 45 (.var 200)))), (.sc (.i .i64 (.cl 0 46 (.var 200)))), (.sc (.i .i64 (.cl 0 47 (.var 200)))), (.sc (.i .i64 (.cl 0 48 (.var 200)))), (.sc (.i .i64 (.cl 0 49 (.var 200))))])
def eT (v : Bool) (e : X) : List (Nat × List X × X) := [(18, [e], .sc (.b (.lit v))), (98, [e], .sc (.b (.lit v)))]
def kF : Facts := [(.lt (.var 200) (.lit 0), false), (.lt (.var 200) (.len 0), true)]
def kd (k : Int) : Facts := [(.eq (.cl 0 0 (.var 200)) (.lit k), true)]
def kdX : Facts := [1, 2, 3, 4, 5, 6, 7, 8].map fun k => (.eq (.cl 0 0 (.var 200)) (.lit k), false)
def dcF : Facts := [(.lt (.var 204) (.lit 0), false), (.lt (.var 204) (.lit 3), true), (.lt (.var 205) (.lit 0), false), (.lt (.var 205) (.lit 3), true)]
def eF : Facts := [(.lt (.cl 0 30 (.var 200)) (.lit 0), false), (.lt (.cl 0 30 (.var 200)) (.lit 3), true)]
def epF : Facts := [(.lt (.var 210) (.lit 1), false), (.eq (.var 210) (.lit 0), false), (.lt (.lit 0) (.var 210), true)]
def lF : Facts := [(.lt (.lit 0) (.len 201), true), (.lt (.lit 256) (.len 201), false)]
def putC : List X := [.ptr (12, 0) [] 0, .sc (.s (.cl 0 18 (.var 200))), .sc (.s (.cl 0 19 (.var 200))), .sc (.b (.cl 0 20 (.var 200))), .agg [cI 21, cI 22, cI 23, cI 24, cI 25, cI 26, cI 27, cI 28, cI 29], cI 1, cI 2, cI 3]
def putD : List X := [.ptr (14, 0) [] 0, .sc (.s (.cl 0 18 (.var 200))), .sc (.s (.cl 0 19 (.var 200))), .sc (.b (.cl 0 20 (.var 200))), .agg [cI 21, cI 22, cI 23, cI 24, cI 25, cI 26, cI 27, cI 28, cI 29], cI 1, cI 2, cI 3]
def depX : X := .agg [cI 21, cI 22, cI 23, cI 24, cI 25, cI 26, cI 27, cI 28, cI 29]
def depI : X := .agg [cI 39, cI 40, cI 41, cI 42, cI 43, cI 44, cI 45, cI 46, cI 47]
def ptX : X := .agg [iV 361, iV 362, iV 363]
def colX : X := .agg [iV 321, iV 322, iV 323]
def ksP (e : X) (v : Bool) (c : X) : List (Nat × List X × X) := [(20, [e, iV 205], ptX), (94, [e, iV 205], ptX), (19, [c, ptX], .sc (.b (.lit v))), (93, [c, ptX], .sc (.b (.lit v)))]
def hpC : XHp := [((12, 0), objC slvC 226), ((11, 0), [.rows 20 (.len 201) (.var 201 ke)])]
def hpD : XHp := [((14, 0), objC slvD 229), ((13, 0), [.rows 20 (.len 201) (.var 201 ke)])]
def hdF : Facts := [(.lt (.var 206) (.lit 0), false), (.eq (.var 301) (.var 206), true)]
def nhF : Facts := [(.eq (.var 301) (.var 206), false)]
def nfF : Facts := [(.eq (.var 331) (.lit (-1)), true)]
def fdF : Facts := [(.lt (.var 331) (.lit 0), false), (.lt (.var 331) (.len 201), true), (.lt (.lit 255) (.var 331), false)]
def objG (cf : List X) (sn bs l du st ac : X) : List X := [iV 204, iV 205, iV 206] ++ cf ++ [sn, bs, l, du, st, ac, iC 0, .sc (.b (.lit true))]
def cfgB : List X := (List.range 10).map (fun k => cI (5 + k)) ++ [.sc (.b (.cl 0 15 (.var 200))), cI 16, cI 17]
def col0 : X := .agg [iC 0, iC 0, iC 0]
def oneX : X := .ro 1 [[cI 1]] false
def ksYN : List (Nat × List X × X) := [(46, [iV 204, iV 205, oneX], .tup [.agg [iV 351, iV 204, iV 205], .sc (.b (.lit true))]), (95, [iV 204, iV 205, oneX], .tup [.agg [iV 351, iV 204, iV 205], .sc (.b (.lit true))])]
def ksZN : List (Nat × List X × X) := [(46, [iV 204, iV 205, oneX], .tup [.agg [iC 0, iC 0, iC 0], .sc (.b (.lit false))]), (95, [iV 204, iV 205, oneX], .tup [.agg [iC 0, iC 0, iC 0], .sc (.b (.lit false))])]
def rX (n : IE) (r : RL) : List X := [.rows 20 n r]
def rV : RL := .var 201 ke

/-! cX: letters [340] [] [] [341] -/
noncomputable def cX_c : Code := (loopsOf (Try.f15.body.getD .skip))[0]?.getD .skip
def cX_S : XS := ⟨zFL3_15, zFL3_18, 97⟩
def cX_Φ : Facts := [(.lt (.var 340) (.lit 0), false)]
def cX_b : Bind := ⟨[(340, zFL3_19)], [], [], [(341, zFL3_20, zFL3_22)]⟩
def cX_i : Bind := ⟨[(340, (.lit 0))], [], [], [(341, (.lit 1), (.one [(.i .i64 (.cl 0 1 (.var 200)))]))]⟩
def cX_t : T (XE × XS) := (.br (.lt (.var 340) (.len 201)) (.need (.not (.lt (.lit 17592186044416) zFL3_20)) (.ret (.normal, ⟨[(43, (.sc (.i .i64 zFL3_19))), (42, (.sc (.i .i64 (.len 201)))), (41, zFL3_0), (40, (.ptr (12, 0) [] 18)), (39, zFL3_1), (38, zFL3_1), (19, (.slv (107, 0) 1 (.lit 0) zFL3_20 true)), (37, .top), (36, zFL3_2), (34, zFL3_4), (33, zFL3_5), (18, zFL3_5), (32, zFL3_5), (31, zFL3_6), (30, zFL3_7), (29, zFL3_1), (28, zFL3_8), (27, zFL3_9), (26, zFL3_1), (17, zFL3_10), (16, zFL3_10), (12, (.ptr (75, 0) [] 0)), (0, zFL3_1), (1, zFL3_11), (2, zFL3_12), (3, zFL3_13), (4, (.agg zFL3_14)), (5, zFL3_2), (6, zFL3_7), (7, zFL3_6)], [((12, 0), zFL3_16), ((11, 0), zFL3_17), ((75, 0), zFL3_14), ((100, 0), [(.sc (.i .i64 (.cl 201 0 (.var 340)))), (.sc (.i .i64 (.cl 201 1 (.var 340)))), (.sc (.i .i64 (.cl 201 2 (.var 340)))), (.sc zFL3_21), (.sc (.i .i64 (.cl 201 4 (.var 340)))), (.sc (.i .i64 (.cl 201 5 (.var 340)))), (.sc (.s (.cl 201 6 (.var 340)))), (.sc (.s (.cl 201 7 (.var 340)))), (.sc (.b (.cl 201 8 (.var 340)))), (.sc (.i .i64 (.cl 201 9 (.var 340)))), (.sc (.i .i64 (.cl 201 10 (.var 340)))), (.sc (.i .i64 (.cl 201 11 (.var 340)))), (.sc (.i .i64 (.cl 201 12 (.var 340)))), (.sc (.i .i64 (.cl 201 13 (.var 340)))), (.sc (.i .i64 (.cl 201 14 (.var 340)))), (.sc (.i .i64 (.cl 201 15 (.var 340)))), (.sc (.i .i64 (.cl 201 16 (.var 340)))), (.sc (.i .i64 (.cl 201 17 (.var 340)))), (.sc (.i .i64 (.cl 201 18 (.var 340)))), (.sc (.i .i64 (.cl 201 19 (.var 340))))]), ((107, 0), [(.rows 1 zFL3_20 zFL3_22)])], 111⟩))) (.ret ((.exit 0), ⟨zFL3_15, zFL3_18, 98⟩)))
noncomputable def cX : LoopX := ⟨((codeKey cX_c).getD 0), 75, 340, cX_S, cX_i, [], cX_t.outs⟩
theorem cX_run : (codeX (cfgL ([]) (fun _ => [])).ti (callS ⟨(cfgL ([]) (fun _ => [])), l_able, hf3_⟩ 12) (((cfgL (ksC ++ ksRos) (fun _ => [])).ft 15).elim [] (·.ms)) cX.k0 ((fun _ => []) 15) 1000 cX_c cX_Φ cX.S).map (sqz (cX_S.t.map (·.1))) = cX_t := by kernel_rfl
theorem cX_back : cX_t.nrm (okS cX.k0 cX.n cX_b [((89, 0), (107, 0))] cX.S) = true := by kernel_rfl
theorem cX_bel : cX_t.outs.belX 342 = true := by kernel_rfl
theorem cX_ib : cX_i.bel 340 = true := by kernel_rfl
theorem cX_ig : cX_i.ge 340 = true := by kernel_rfl
theorem cX_bg : cX_b.ge 340 = true := by kernel_rfl
theorem cX_same : cX_i.same cX_b = true := by kernel_rfl
theorem cX_Sb : cX_S.bel 342 = true := by kernel_rfl
theorem cX_fits : fitsC Try.f15.ntmps cX_c = true := by kernel_rfl
/-! dF: letters [380] [] [] [] -/
noncomputable def dF_c : Code := (loopsOf (Try.f59.body.getD .skip))[0]?.getD .skip
def dF_S : XS := ⟨zFL3_25, zFL3_26, 103⟩
def dF_Φ : Facts := [(.lt (.var 380) (.lit 0), false)]
def dF_b : Bind := ⟨[(380, (.op .add .i64 (.var 380) (.lit 1)))], [], [], []⟩
def dF_i : Bind := ⟨[(380, (.lit 0))], [], [], []⟩
def dF_t : T (XE × XS) := (.br (.lt (.var 380) (.len 201)) (.br (.and (.eq (.cl 201 18 (.var 380)) (.cl 0 2 (.var 200))) (.eq (.cl 201 19 (.var 380)) (.cl 0 3 (.var 200)))) (.ret (.ret, ⟨[(18, (.sc (.i .i64 (.var 380)))), (27, zFL3_8), (26, zFL3_9), (25, zFL3_23), (17, zFL3_10), (16, zFL3_27), (12, zFL3_24), (0, zFL3_23), (1, zFL3_11), (2, zFL3_12), (3, zFL3_13), (4, (.agg zFL3_14)), (5, zFL3_2), (6, zFL3_7), (7, zFL3_6)], zFL3_26, 136⟩)) (.ret (.normal, ⟨[(18, zFL3_27), (27, zFL3_8), (26, zFL3_9), (25, zFL3_23), (17, zFL3_10), (16, zFL3_10), (12, zFL3_24), (0, zFL3_23), (1, zFL3_11), (2, zFL3_12), (3, zFL3_13), (4, (.agg zFL3_14)), (5, zFL3_2), (6, zFL3_7), (7, zFL3_6)], zFL3_26, 135⟩))) (.ret ((.exit 0), ⟨zFL3_25, zFL3_26, 110⟩)))
noncomputable def dF : LoopX := ⟨((codeKey dF_c).getD 0), 96, 380, dF_S, dF_i, [], dF_t.outs⟩
theorem dF_run : (codeX (cfgL ([]) (fun _ => [])).ti (callS ⟨(cfgL ([]) (fun _ => [])), l_able, hf3_⟩ 12) (((cfgL (ksC ++ ksRos) (fun _ => [])).ft 59).elim [] (·.ms)) dF.k0 ((fun _ => []) 59) 1000 dF_c dF_Φ dF.S).map (sqz (dF_S.t.map (·.1))) = dF_t := by kernel_rfl
theorem dF_back : dF_t.nrm (okS dF.k0 dF.n dF_b [] dF.S) = true := by kernel_rfl
theorem dF_bel : dF_t.outs.belX 381 = true := by kernel_rfl
theorem dF_ib : dF_i.bel 380 = true := by kernel_rfl
theorem dF_ig : dF_i.ge 380 = true := by kernel_rfl
theorem dF_bg : dF_b.ge 380 = true := by kernel_rfl
theorem dF_same : dF_i.same dF_b = true := by kernel_rfl
theorem dF_Sb : dF_S.bel 381 = true := by kernel_rfl
theorem dF_fits : fitsC Try.f59.ntmps dF_c = true := by kernel_rfl
end Go.Proofs.Ytonefailiekemaa
