/- What is shown of loops, each by one run of its body over letters. -/
import Derived.Test.YtonefailiekemaaXT
import Derived.Test.YtonefailiekemaaXS1
import Derived.Test.YtonefailiekemaaXwM2
namespace Go.Proofs.Ytonefailiekemaa
open Go Go.Proofs.Aw Go.Proofs.Xw
set_option maxRecDepth 100000
abbrev hf5_ : List Nat := [105,82,106,84,51,11,31,10014,10024,10025,10026,10028,10032,10033,10035,10038,10039,10040,10041,10045,10047,10048,10065,10066,10067,10071,10064,10068,10069,10070,10072,10073,10092,10085]
def ke : List Kd := List.replicate 6 (.i .i64) ++ [.s, .s, .b] ++ List.replicate 11 (.i .i64)
def iV (k : Nat) : X := .sc (.i .i64 (.var k))
def iC (n : Int) : X := .sc (.i .i64 (.lit n))
def esR : X := .rl 20 (.len 0) (.var 0 ke) false
def isR : X := .rl 1 (.len 0) (.var 0 [.i .i64]) false
def ka : List Kd := List.replicate 15 (.i .i64) ++ [.b, .i .i64, .i .i64, .s, .s, .b] ++ List.replicate 9 (.i .i64) ++ ke
def puR : X := .rl 50 (.len 0) (.var 0 ka) false
/-! kC: letters [100, 101, 102, 103] [] [] [] -/
noncomputable def kC_c : Code := (loopsOf (Try.f22.body.getD .skip))[0]?.getD .skip
abbrev zXLP1_0 : X := .sc (.i .i64 (.var 100))
abbrev zXLP1_1 : X := .sc (.i .i64 (.len 0))
abbrev zXLP1_2 : X := .rl 20 (.len 0) (.var 0 [(.i .i64), (.i .i64), (.i .i64), (.i .i64), (.i .i64), (.i .i64), .s, .s, .b, (.i .i64), (.i .i64), (.i .i64), (.i .i64), (.i .i64), (.i .i64), (.i .i64), (.i .i64), (.i .i64), (.i .i64), (.i .i64)]) false
abbrev zXLP1_3 : X := .ptr (1, 0) [] 0
abbrev zXLP1_4 : X := .ptr (0, 0) [] 0
abbrev zXLP1_5 : X := .sc (.i .i64 (.lit 0))
abbrev zXLP1_6 : XTp := [(10, zXLP1_0), (9, zXLP1_1), (8, zXLP1_2), (5, zXLP1_3), (4, zXLP1_4), (0, zXLP1_5), (1, zXLP1_2)]
abbrev zXLP1_7 : List X := [zXLP1_5, zXLP1_5, zXLP1_5]
abbrev zXLP1_8 : X := .sc (.i .i64 (.var 101))
abbrev zXLP1_9 : XHp := [((0, 0), zXLP1_7), ((1, 0), [zXLP1_8, (.sc (.i .i64 (.var 102))), (.sc (.i .i64 (.var 103)))])]
abbrev zXLP1_10 : IE := .op .add .i64 (.var 100) (.lit 1)
abbrev zXLP1_11 : IE := .cl 0 0 (.var 100)
abbrev zXLP1_12 : BE := .and (.eq (.cl 0 1 (.var 100)) (.lit 0)) (.and (.not (.lt zXLP1_11 (.lit 0))) (.lt zXLP1_11 (.lit 3)))
abbrev zXLP1_13 : BE := .eq zXLP1_11 (.lit 0)
abbrev zXLP1_14 : BE := .eq zXLP1_11 (.lit 1)
abbrev zXLP1_15 : IE := .op .max .i64 (.ite zXLP1_13 (.var 101) (.ite zXLP1_14 (.var 102) (.var 103))) (.cl 0 2 (.var 100))
abbrev zXLP1_16 : IE := .ite zXLP1_12 (.ite zXLP1_13 zXLP1_15 (.var 101)) (.var 101)
abbrev zXLP1_17 : IE := .ite zXLP1_12 (.ite zXLP1_13 (.var 102) (.ite zXLP1_14 zXLP1_15 (.var 102))) (.var 102)
abbrev zXLP1_18 : IE := .ite zXLP1_12 (.ite zXLP1_13 (.var 103) (.ite zXLP1_14 (.var 103) zXLP1_15)) (.var 103)
abbrev zXLP1_19 : BE := .lt (.var 100) (.len 0)
abbrev zXLP1_20 : X := .sc (.i .i64 zXLP1_10)
abbrev zXLP1_21 : List X := [(.sc (.i .i64 zXLP1_11)), (.sc (.i .i64 (.cl 0 1 (.var 100)))), (.sc (.i .i64 (.cl 0 2 (.var 100)))), (.sc (.i .i64 (.cl 0 3 (.var 100)))), (.sc (.i .i64 (.cl 0 4 (.var 100)))), (.sc (.i .i64 (.cl 0 5 (.var 100)))), (.sc (.s (.cl 0 6 (.var 100)))), (.sc (.s (.cl 0 7 (.var 100)))), (.sc (.b (.cl 0 8 (.var 100)))), (.sc (.i .i64 (.cl 0 9 (.var 100)))), (.sc (.i .i64 (.cl 0 10 (.var 100)))), (.sc (.i .i64 (.cl 0 11 (.var 100)))), (.sc (.i .i64 (.cl 0 12 (.var 100)))), (.sc (.i .i64 (.cl 0 13 (.var 100)))), (.sc (.i .i64 (.cl 0 14 (.var 100)))), (.sc (.i .i64 (.cl 0 15 (.var 100)))), (.sc (.i .i64 (.cl 0 16 (.var 100)))), (.sc (.i .i64 (.cl 0 17 (.var 100)))), (.sc (.i .i64 (.cl 0 18 (.var 100)))), (.sc (.i .i64 (.cl 0 19 (.var 100))))]
abbrev zXLP1_22 : XTp := [(10, zXLP1_0), (9, zXLP1_1), (8, zXLP1_2), (3, zXLP1_3), (2, zXLP1_4), (0, zXLP1_2)]
abbrev zXLP1_23 : List X := [zXLP1_5, zXLP1_5, zXLP1_5, zXLP1_5, zXLP1_5, zXLP1_5, zXLP1_5, zXLP1_5, zXLP1_5]
abbrev zXLP1_24 : XHp := [((0, 0), zXLP1_23), ((1, 0), [zXLP1_8, (.sc (.i .i64 (.var 102))), (.sc (.i .i64 (.var 103))), (.sc (.i .i64 (.var 104))), (.sc (.i .i64 (.var 105))), (.sc (.i .i64 (.var 106))), (.sc (.i .i64 (.var 107))), (.sc (.i .i64 (.var 108))), (.sc (.i .i64 (.var 109)))])]
abbrev zXLP1_25 : IE := .op .max .i64 (.op .max .i64 (.lit 0) (.var 101)) (.cl 0 9 (.var 100))
abbrev zXLP1_26 : IE := .op .max .i64 (.op .max .i64 (.lit 0) (.var 102)) (.cl 0 10 (.var 100))
abbrev zXLP1_27 : IE := .op .max .i64 (.op .max .i64 (.lit 0) (.var 103)) (.cl 0 11 (.var 100))
abbrev zXLP1_28 : IE := .op .max .i64 (.op .max .i64 (.lit 0) (.var 104)) (.cl 0 12 (.var 100))
abbrev zXLP1_29 : IE := .op .max .i64 (.op .max .i64 (.lit 0) (.var 105)) (.cl 0 13 (.var 100))
abbrev zXLP1_30 : IE := .op .max .i64 (.op .max .i64 (.lit 0) (.var 106)) (.cl 0 14 (.var 100))
abbrev zXLP1_31 : IE := .op .max .i64 (.op .max .i64 (.lit 0) (.var 107)) (.cl 0 15 (.var 100))
abbrev zXLP1_32 : IE := .op .max .i64 (.op .max .i64 (.lit 0) (.var 108)) (.cl 0 16 (.var 100))
abbrev zXLP1_33 : IE := .op .max .i64 (.op .max .i64 (.lit 0) (.var 109)) (.cl 0 17 (.var 100))
abbrev zXLP1_34 : X := .rl 1 (.len 0) (.var 0 [(.i .i64)]) false
abbrev zXLP1_35 : X := .sc (.b (.lit false))
abbrev zXLP1_36 : XTp := [(14, zXLP1_0), (13, zXLP1_1), (12, zXLP1_34), (8, zXLP1_8), (7, zXLP1_35), (6, zXLP1_4), (0, zXLP1_5), (1, zXLP1_5), (2, zXLP1_34)]
abbrev zXLP1_37 : XHp := [((0, 0), zXLP1_7)]
abbrev zXLP1_38 : X := .rl 50 (.len 0) (.var 0 [(.i .i64), (.i .i64), (.i .i64), (.i .i64), (.i .i64), (.i .i64), (.i .i64), (.i .i64), (.i .i64), (.i .i64), (.i .i64), (.i .i64), (.i .i64), (.i .i64), (.i .i64), .b, (.i .i64), (.i .i64), .s, .s, .b, (.i .i64), (.i .i64), (.i .i64), (.i .i64), (.i .i64), (.i .i64), (.i .i64), (.i .i64), (.i .i64), (.i .i64), (.i .i64), (.i .i64), (.i .i64), (.i .i64), (.i .i64), .s, .s, .b, (.i .i64), (.i .i64), (.i .i64), (.i .i64), (.i .i64), (.i .i64), (.i .i64), (.i .i64), (.i .i64), (.i .i64), (.i .i64)]) false
abbrev zXLP1_39 : XTp := [(4, zXLP1_0), (3, zXLP1_8), (6, zXLP1_1), (5, zXLP1_38), (2, zXLP1_35), (0, zXLP1_38)]
abbrev zXLP1_40 : IE := .op .add .i64 (.var 101) (.op .quo .i64 (.op .add .i64 (.op .add .i64 (.op .add .i64 (.slen (.cl 0 18 (.var 100))) (.slen (.cl 0 19 (.var 100)))) (.slen (.cl 0 36 (.var 100)))) (.slen (.cl 0 37 (.var 100)))) (.lit 40))
def kC_S : XS := ⟨zXLP1_6, zXLP1_9, 5⟩
def kC_Φ : Facts := [(.lt (.var 100) (.lit 0), false)]
def kC_b : Bind := ⟨[(100, zXLP1_10), (101, zXLP1_16), (102, zXLP1_17), (103, zXLP1_18)], [], [], []⟩
def kC_i : Bind := ⟨[(100, (.lit 0)), (101, (.lit 0)), (102, (.lit 0)), (103, (.lit 0))], [], [], []⟩
def kC_t : T (XE × XS) := (.br zXLP1_19 (.ret (.normal, ⟨[(10, zXLP1_20), (9, zXLP1_1), (8, zXLP1_2), (5, zXLP1_3), (4, zXLP1_4), (0, zXLP1_5), (1, zXLP1_2)], [((0, 0), zXLP1_7), ((1, 0), [(.sc (.i .i64 zXLP1_16)), (.sc (.i .i64 zXLP1_17)), (.sc (.i .i64 zXLP1_18))]), ((8, 0), zXLP1_21)], 38⟩)) (.ret ((.exit 0), ⟨zXLP1_6, zXLP1_9, 6⟩)))
noncomputable def kC : LoopX := ⟨((codeKey kC_c).getD 0), 0, 100, kC_S, kC_i, [], kC_t.outs⟩
theorem kC_run : (codeX (cfgL ([]) (fun _ => [])).ti (callS ⟨(cfgL ([]) (fun _ => [])), l_able, hf5_⟩ 12) (((cfgL ([]) (fun _ => [])).ft 22).elim [] (·.ms)) kC.k0 ((fun _ => []) 22) 1000 kC_c kC_Φ kC.S).map (sqz (kC_S.t.map (·.1))) = kC_t := by kernel_rfl
theorem kC_back : kC_t.nrm (okS kC.k0 kC.n kC_b [] kC.S) = true := by kernel_rfl
theorem kC_bel : kC_t.outs.belX 104 = true := by kernel_rfl
theorem kC_ib : kC_i.bel 100 = true := by kernel_rfl
theorem kC_ig : kC_i.ge 100 = true := by kernel_rfl
theorem kC_bg : kC_b.ge 100 = true := by kernel_rfl
theorem kC_same : kC_i.same kC_b = true := by kernel_rfl
theorem kC_Sb : kC_S.bel 104 = true := by kernel_rfl
theorem kC_fits : fitsC Try.f22.ntmps kC_c = true := by kernel_rfl
/-! pA: letters [100, 101, 102, 103, 104, 105, 106, 107, 108, 109] [] [] [] -/
noncomputable def pA_c : Code := (loopsOf (Try.f50.body.getD .skip))[0]?.getD .skip
def pA_S : XS := ⟨zXLP1_22, zXLP1_24, 5⟩
def pA_Φ : Facts := [(.lt (.var 100) (.lit 0), false)]
def pA_b : Bind := ⟨[(100, zXLP1_10), (101, zXLP1_25), (102, zXLP1_26), (103, zXLP1_27), (104, zXLP1_28), (105, zXLP1_29), (106, zXLP1_30), (107, zXLP1_31), (108, zXLP1_32), (109, zXLP1_33)], [], [], []⟩
def pA_i : Bind := ⟨[(100, (.lit 0)), (101, (.lit 0)), (102, (.lit 0)), (103, (.lit 0)), (104, (.lit 0)), (105, (.lit 0)), (106, (.lit 0)), (107, (.lit 0)), (108, (.lit 0)), (109, (.lit 0))], [], [], []⟩
def pA_t : T (XE × XS) := (.br zXLP1_19 (.ret (.normal, ⟨[(10, zXLP1_20), (9, zXLP1_1), (8, zXLP1_2), (3, zXLP1_3), (2, zXLP1_4), (0, zXLP1_2)], [((0, 0), zXLP1_23), ((1, 0), [(.sc (.i .i64 zXLP1_25)), (.sc (.i .i64 zXLP1_26)), (.sc (.i .i64 zXLP1_27)), (.sc (.i .i64 zXLP1_28)), (.sc (.i .i64 zXLP1_29)), (.sc (.i .i64 zXLP1_30)), (.sc (.i .i64 zXLP1_31)), (.sc (.i .i64 zXLP1_32)), (.sc (.i .i64 zXLP1_33))]), ((8, 0), zXLP1_21)], 18⟩)) (.ret ((.exit 0), ⟨zXLP1_22, zXLP1_24, 6⟩)))
noncomputable def pA : LoopX := ⟨((codeKey pA_c).getD 0), 0, 100, pA_S, pA_i, [], pA_t.outs⟩
theorem pA_run : (codeX (cfgL ([]) (fun _ => [])).ti (callS ⟨(cfgL ([]) (fun _ => [])), l_able, hf5_⟩ 12) (((cfgL ([]) (fun _ => [])).ft 50).elim [] (·.ms)) pA.k0 ((fun _ => []) 50) 1000 pA_c pA_Φ pA.S).map (sqz (pA_S.t.map (·.1))) = pA_t := by kernel_rfl
theorem pA_back : pA_t.nrm (okS pA.k0 pA.n pA_b [] pA.S) = true := by kernel_rfl
theorem pA_bel : pA_t.outs.belX 110 = true := by kernel_rfl
theorem pA_ib : pA_i.bel 100 = true := by kernel_rfl
theorem pA_ig : pA_i.ge 100 = true := by kernel_rfl
theorem pA_bg : pA_b.ge 100 = true := by kernel_rfl
theorem pA_same : pA_i.same pA_b = true := by kernel_rfl
theorem pA_Sb : pA_S.bel 110 = true := by kernel_rfl
theorem pA_fits : fitsC Try.f50.ntmps pA_c = true := by kernel_rfl
/-! nX: letters [100, 101] [] [] [] -/
noncomputable def nX_c : Code := (loopsOf (Try.f46.body.getD .skip))[0]?.getD .skip
def nX_S : XS := ⟨zXLP1_36, zXLP1_37, 6⟩
def nX_Φ : Facts := [(.lt (.var 100) (.lit 0), false)]
def nX_b : Bind := ⟨[(100, (.op .add .i64 (.var 100) (.lit 1))), (101, (.op .max .i64 (.var 101) (.cl 0 0 (.var 100))))], [], [], []⟩
def nX_i : Bind := ⟨[(100, (.lit 0)), (101, (.lit 0))], [], [], []⟩
def nX_t : T (XE × XS) := (.br zXLP1_19 (.ret (.normal, ⟨[(14, zXLP1_20), (13, zXLP1_1), (12, zXLP1_34), (8, (.sc (.i .i64 (.op .max .i64 (.var 101) zXLP1_11)))), (7, zXLP1_35), (6, zXLP1_4), (0, zXLP1_5), (1, zXLP1_5), (2, zXLP1_34)], zXLP1_37, 16⟩)) (.ret ((.exit 0), ⟨zXLP1_36, zXLP1_37, 7⟩)))
noncomputable def nX : LoopX := ⟨((codeKey nX_c).getD 0), 0, 100, nX_S, nX_i, [], nX_t.outs⟩
theorem nX_run : (codeX (cfgL ([]) (fun _ => [])).ti (callS ⟨(cfgL ([]) (fun _ => [])), l_able, hf5_⟩ 12) (((cfgL ([]) (fun _ => [])).ft 46).elim [] (·.ms)) nX.k0 ((fun _ => []) 46) 1000 nX_c nX_Φ nX.S).map (sqz (nX_S.t.map (·.1))) = nX_t := by kernel_rfl
theorem nX_back : nX_t.nrm (okS nX.k0 nX.n nX_b [] nX.S) = true := by kernel_rfl
theorem nX_bel : nX_t.outs.belX 102 = true := by kernel_rfl
theorem nX_ib : nX_i.bel 100 = true := by kernel_rfl
theorem nX_ig : nX_i.ge 100 = true := by kernel_rfl
theorem nX_bg : nX_b.ge 100 = true := by kernel_rfl
theorem nX_same : nX_i.same nX_b = true := by kernel_rfl
theorem nX_Sb : nX_S.bel 102 = true := by kernel_rfl
theorem nX_fits : fitsC Try.f46.ntmps nX_c = true := by kernel_rfl
/-! mX: letters [100, 101] [] [] [] -/
noncomputable def mX_c : Code := (loopsOf (Try.f10.body.getD .skip))[0]?.getD .skip
def mX_S : XS := ⟨zXLP1_39, [], 5⟩
def mX_Φ : Facts := [(.lt (.var 100) (.lit 0), false)]
def mX_b : Bind := ⟨[(100, zXLP1_10), (101, zXLP1_40)], [], [], []⟩
def mX_i : Bind := ⟨[(100, (.lit 0)), (101, (.len 0))], [], [], []⟩
def mX_t : T (XE × XS) := (.br (.and zXLP1_19 (.not (.lt (.lit 400) (.var 101)))) (.ret (.normal, ⟨[(4, zXLP1_20), (3, (.sc (.i .i64 zXLP1_40))), (6, zXLP1_1), (5, zXLP1_38), (2, zXLP1_35), (0, zXLP1_38)], [], 49⟩)) (.ret ((.exit 0), ⟨zXLP1_39, [], 13⟩)))
noncomputable def mX : LoopX := ⟨((codeKey mX_c).getD 0), 0, 100, mX_S, mX_i, [], mX_t.outs⟩
theorem mX_run : (codeX (cfgL ([]) (fun _ => [])).ti (callS ⟨(cfgL ([]) (fun _ => [])), l_able, hf5_⟩ 12) (((cfgL ([]) (fun _ => [])).ft 10).elim [] (·.ms)) mX.k0 ((fun _ => []) 10) 1000 mX_c mX_Φ mX.S).map (sqz (mX_S.t.map (·.1))) = mX_t := by kernel_rfl
theorem mX_back : mX_t.nrm (okS mX.k0 mX.n mX_b [] mX.S) = true := by kernel_rfl
theorem mX_bel : mX_t.outs.belX 102 = true := by kernel_rfl
theorem mX_ib : mX_i.bel 100 = true := by kernel_rfl
theorem mX_ig : mX_i.ge 100 = true := by kernel_rfl
theorem mX_bg : mX_b.ge 100 = true := by kernel_rfl
theorem mX_same : mX_i.same mX_b = true := by kernel_rfl
theorem mX_Sb : mX_S.bel 102 = true := by kernel_rfl
theorem mX_fits : fitsC Try.f10.ntmps mX_c = true := by kernel_rfl
end Go.Proofs.Ytonefailiekemaa
