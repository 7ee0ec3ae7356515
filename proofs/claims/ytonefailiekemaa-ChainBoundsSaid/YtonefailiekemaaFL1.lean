/- What is shown of loops, each by one run of its body over letters. -/
import Derived.Test.YtonefailiekemaaXT
import Derived.Test.YtonefailiekemaaXN2
import Derived.Test.YtonefailiekemaaXwM2
namespace Go.Proofs.Ytonefailiekemaa
open Go Go.Proofs.Aw Go.Proofs.Xw
set_option maxRecDepth 100000
abbrev hf1_ : List Nat := [105,82,106,84,51,11,31,10014,10024,10025,10026,10028,10032,10033,10035,10038,10039,10040,10041,10045,10047,10048,10065,10066,10067,10071,10064,10068,10069,10070,10072,10073,10092,10085]

/-! kE: letters [100, 101, 102, 103] [] [] [] -/
noncomputable def kE_c : Code := (loopsOf (Try.f108.body.getD .skip))[0]?.getD .skip
abbrev zFL1_0 : X := .sc (.i .i64 (.var 100))
abbrev zFL1_1 : X := .ptr (1, 0) [] 0
abbrev zFL1_2 : X := .ptr (0, 0) [] 0
abbrev zFL1_3 : X := .sc (.i .i64 (.var 1))
abbrev zFL1_4 : X := .rl 20 (.len 0) (.var 0 [(.i .i64), (.i .i64), (.i .i64), (.i .i64), (.i .i64), (.i .i64), .s, .s, .b, (.i .i64), (.i .i64), (.i .i64), (.i .i64), (.i .i64), (.i .i64), (.i .i64), (.i .i64), (.i .i64), (.i .i64), (.i .i64)]) false
abbrev zFL1_5 : XTp := [(6, zFL1_0), (5, zFL1_1), (4, zFL1_2), (0, zFL1_3), (1, zFL1_4)]
abbrev zFL1_6 : X := .sc (.i .i64 (.lit 0))
abbrev zFL1_7 : List X := [zFL1_6, zFL1_6, zFL1_6]
abbrev zFL1_8 : X := .sc (.i .i64 (.var 101))
abbrev zFL1_9 : XHp := [((0, 0), zFL1_7), ((1, 0), [zFL1_8, (.sc (.i .i64 (.var 102))), (.sc (.i .i64 (.var 103)))])]
abbrev zFL1_10 : IE := .op .add .i64 (.var 100) (.lit 1)
abbrev zFL1_11 : IE := .cl 0 1 (.var 100)
abbrev zFL1_12 : IE := .cl 0 0 (.var 100)
abbrev zFL1_13 : BE := .and (.and (.and (.not (.lt zFL1_12 (.lit 0))) (.lt zFL1_12 (.lit 3))) (.not (.lt zFL1_11 (.lit 0)))) (.lt zFL1_11 (.lit 3))
abbrev zFL1_14 : BE := .and (.eq zFL1_11 (.var 1)) zFL1_13
abbrev zFL1_15 : BE := .eq zFL1_12 (.lit 0)
abbrev zFL1_16 : BE := .eq zFL1_12 (.lit 1)
abbrev zFL1_17 : IE := .cl 0 2 (.var 100)
abbrev zFL1_18 : IE := .op .max .i64 (.ite zFL1_15 (.var 101) (.ite zFL1_16 (.var 102) (.var 103))) zFL1_17
abbrev zFL1_19 : IE := .ite zFL1_14 (.ite zFL1_15 zFL1_18 (.var 101)) (.var 101)
abbrev zFL1_20 : IE := .ite zFL1_14 (.ite zFL1_15 (.var 102) (.ite zFL1_16 zFL1_18 (.var 102))) (.var 102)
abbrev zFL1_21 : IE := .ite zFL1_14 (.ite zFL1_15 (.var 103) (.ite zFL1_16 (.var 103) zFL1_18)) (.var 103)
abbrev zFL1_22 : BE := .lt (.var 100) (.len 0)
abbrev zFL1_23 : X := .sc (.i .i64 zFL1_10)
abbrev zFL1_24 : XTp := [(4, zFL1_0), (3, zFL1_1), (2, zFL1_2), (0, zFL1_4)]
abbrev zFL1_25 : List X := [zFL1_6, zFL1_6, zFL1_6, zFL1_6, zFL1_6, zFL1_6, zFL1_6, zFL1_6, zFL1_6]
abbrev zFL1_26 : XHp := [((0, 0), zFL1_25), ((1, 0), [zFL1_8, (.sc (.i .i64 (.var 102))), (.sc (.i .i64 (.var 103))), (.sc (.i .i64 (.var 104))), (.sc (.i .i64 (.var 105))), (.sc (.i .i64 (.var 106))), (.sc (.i .i64 (.var 107))), (.sc (.i .i64 (.var 108))), (.sc (.i .i64 (.var 109)))])]
abbrev zFL1_27 : BE := .eq zFL1_11 (.lit 0)
abbrev zFL1_28 : BE := .and zFL1_15 zFL1_27
abbrev zFL1_29 : IE := .op .max .i64 (.op .max .i64 (.lit 0) (.var 101)) (.cl 0 9 (.var 100))
abbrev zFL1_30 : BE := .eq zFL1_11 (.lit 1)
abbrev zFL1_31 : BE := .and zFL1_15 zFL1_30
abbrev zFL1_32 : IE := .op .max .i64 (.op .max .i64 (.lit 0) (.var 102)) (.cl 0 10 (.var 100))
abbrev zFL1_33 : IE := .op .max .i64 (.op .max .i64 (.lit 0) (.var 103)) (.cl 0 11 (.var 100))
abbrev zFL1_34 : BE := .and zFL1_16 zFL1_27
abbrev zFL1_35 : IE := .op .max .i64 (.op .max .i64 (.lit 0) (.var 104)) (.cl 0 12 (.var 100))
abbrev zFL1_36 : BE := .and zFL1_16 zFL1_30
abbrev zFL1_37 : IE := .op .max .i64 (.op .max .i64 (.lit 0) (.var 105)) (.cl 0 13 (.var 100))
abbrev zFL1_38 : IE := .op .max .i64 (.op .max .i64 (.lit 0) (.var 106)) (.cl 0 14 (.var 100))
abbrev zFL1_39 : IE := .op .max .i64 (.op .max .i64 (.lit 0) (.var 107)) (.cl 0 15 (.var 100))
abbrev zFL1_40 : IE := .op .max .i64 (.op .max .i64 (.lit 0) (.var 108)) (.cl 0 16 (.var 100))
abbrev zFL1_41 : IE := .op .max .i64 (.op .max .i64 (.lit 0) (.var 109)) (.cl 0 17 (.var 100))
abbrev zFL1_42 : IE := .op .max .i64 (.ite zFL1_28 zFL1_29 (.ite zFL1_31 zFL1_32 (.ite zFL1_15 zFL1_33 (.ite zFL1_34 zFL1_35 (.ite zFL1_36 zFL1_37 (.ite zFL1_16 zFL1_38 (.ite zFL1_27 zFL1_39 (.ite zFL1_30 zFL1_40 zFL1_41)))))))) zFL1_17
abbrev zFL1_43 : IE := .ite zFL1_13 (.ite zFL1_28 zFL1_42 zFL1_29) zFL1_29
abbrev zFL1_44 : IE := .ite zFL1_13 (.ite zFL1_28 zFL1_32 (.ite zFL1_31 zFL1_42 zFL1_32)) zFL1_32
abbrev zFL1_45 : IE := .ite zFL1_13 (.ite zFL1_28 zFL1_33 (.ite zFL1_31 zFL1_33 (.ite zFL1_15 zFL1_42 zFL1_33))) zFL1_33
abbrev zFL1_46 : IE := .ite zFL1_13 (.ite zFL1_28 zFL1_35 (.ite zFL1_31 zFL1_35 (.ite zFL1_15 zFL1_35 (.ite zFL1_34 zFL1_42 zFL1_35)))) zFL1_35
abbrev zFL1_47 : IE := .ite zFL1_13 (.ite zFL1_28 zFL1_37 (.ite zFL1_31 zFL1_37 (.ite zFL1_15 zFL1_37 (.ite zFL1_34 zFL1_37 (.ite zFL1_36 zFL1_42 zFL1_37))))) zFL1_37
abbrev zFL1_48 : IE := .ite zFL1_13 (.ite zFL1_28 zFL1_38 (.ite zFL1_31 zFL1_38 (.ite zFL1_15 zFL1_38 (.ite zFL1_34 zFL1_38 (.ite zFL1_36 zFL1_38 (.ite zFL1_16 zFL1_42 zFL1_38)))))) zFL1_38
abbrev zFL1_49 : IE := .ite zFL1_13 (.ite zFL1_28 zFL1_39 (.ite zFL1_31 zFL1_39 (.ite zFL1_15 zFL1_39 (.ite zFL1_34 zFL1_39 (.ite zFL1_36 zFL1_39 (.ite zFL1_16 zFL1_39 (.ite zFL1_27 zFL1_42 zFL1_39))))))) zFL1_39
abbrev zFL1_50 : IE := .ite zFL1_13 (.ite zFL1_28 zFL1_40 (.ite zFL1_31 zFL1_40 (.ite zFL1_15 zFL1_40 (.ite zFL1_34 zFL1_40 (.ite zFL1_36 zFL1_40 (.ite zFL1_16 zFL1_40 (.ite zFL1_27 zFL1_40 (.ite zFL1_30 zFL1_42 zFL1_40)))))))) zFL1_40
abbrev zFL1_51 : IE := .ite zFL1_13 (.ite zFL1_28 zFL1_41 (.ite zFL1_31 zFL1_41 (.ite zFL1_15 zFL1_41 (.ite zFL1_34 zFL1_41 (.ite zFL1_36 zFL1_41 (.ite zFL1_16 zFL1_41 (.ite zFL1_27 zFL1_41 (.ite zFL1_30 zFL1_41 zFL1_42)))))))) zFL1_41
abbrev zFL1_52 : X := .rl 1 (.len 0) (.var 0 [(.i .i64)]) false
abbrev zFL1_53 : XTp := [(9, zFL1_0), (8, zFL1_8), (7, (.sc (.b (.lit false)))), (6, zFL1_2), (0, (.sc (.i .i64 (.var 0)))), (1, zFL1_3), (2, zFL1_52)]
def kE_S : XS := ⟨zFL1_5, zFL1_9, 3⟩
def kE_Φ : Facts := [(.lt (.var 100) (.lit 0), false)]
def kE_b : Bind := ⟨[(100, zFL1_10), (101, zFL1_19), (102, zFL1_20), (103, zFL1_21)], [], [], []⟩
def kE_i : Bind := ⟨[(100, (.lit 0)), (101, (.lit 0)), (102, (.lit 0)), (103, (.lit 0))], [], [], []⟩
def kE_t : T (XE × XS) := (.br zFL1_22 (.ret (.normal, ⟨[(6, zFL1_23), (5, zFL1_1), (4, zFL1_2), (0, zFL1_3), (1, zFL1_4)], [((0, 0), zFL1_7), ((1, 0), [(.sc (.i .i64 zFL1_19)), (.sc (.i .i64 zFL1_20)), (.sc (.i .i64 zFL1_21))]), ((12, 0), [(.sc (.i .i64 zFL1_12)), (.sc (.i .i64 zFL1_11)), (.sc (.i .i64 zFL1_17))])], 36⟩)) (.ret ((.exit 0), ⟨zFL1_5, zFL1_9, 7⟩)))
noncomputable def kE : LoopX := ⟨((codeKey kE_c).getD 0), 0, 100, kE_S, kE_i, [], kE_t.outs⟩
theorem kE_run : (codeX (cfgL ([]) (fun _ => [])).ti (callS ⟨(cfgL ([]) (fun _ => [])), l_able, hf1_⟩ 12) (((cfgL ([]) (fun _ => [])).ft 108).elim [] (·.ms)) kE.k0 ((fun _ => []) 108) 1000 kE_c kE_Φ kE.S).map (sqz (kE_S.t.map (·.1))) = kE_t := by kernel_rfl
theorem kE_back : kE_t.nrm (okS kE.k0 kE.n kE_b [] kE.S) = true := by kernel_rfl
theorem kE_bel : kE_t.outs.belX 104 = true := by kernel_rfl
theorem kE_ib : kE_i.bel 100 = true := by kernel_rfl
theorem kE_ig : kE_i.ge 100 = true := by kernel_rfl
theorem kE_bg : kE_b.ge 100 = true := by kernel_rfl
theorem kE_same : kE_i.same kE_b = true := by kernel_rfl
theorem kE_Sb : kE_S.bel 104 = true := by kernel_rfl
theorem kE_fits : fitsC Try.f108.ntmps kE_c = true := by kernel_rfl
/-! pC: letters [100, 101, 102, 103, 104, 105, 106, 107, 108, 109] [] [] [] -/
noncomputable def pC_c : Code := (loopsOf (Try.f97.body.getD .skip))[0]?.getD .skip
def pC_S : XS := ⟨zFL1_24, zFL1_26, 3⟩
def pC_Φ : Facts := [(.lt (.var 100) (.lit 0), false)]
def pC_b : Bind := ⟨[(100, zFL1_10), (101, zFL1_43), (102, zFL1_44), (103, zFL1_45), (104, zFL1_46), (105, zFL1_47), (106, zFL1_48), (107, zFL1_49), (108, zFL1_50), (109, zFL1_51)], [], [], []⟩
def pC_i : Bind := ⟨[(100, (.lit 0)), (101, (.lit 0)), (102, (.lit 0)), (103, (.lit 0)), (104, (.lit 0)), (105, (.lit 0)), (106, (.lit 0)), (107, (.lit 0)), (108, (.lit 0)), (109, (.lit 0))], [], [], []⟩
def pC_t : T (XE × XS) := (.br zFL1_22 (.ret (.normal, ⟨[(4, zFL1_23), (3, zFL1_1), (2, zFL1_2), (0, zFL1_4)], [((0, 0), zFL1_25), ((1, 0), [(.sc (.i .i64 zFL1_43)), (.sc (.i .i64 zFL1_44)), (.sc (.i .i64 zFL1_45)), (.sc (.i .i64 zFL1_46)), (.sc (.i .i64 zFL1_47)), (.sc (.i .i64 zFL1_48)), (.sc (.i .i64 zFL1_49)), (.sc (.i .i64 zFL1_50)), (.sc (.i .i64 zFL1_51))])], 24⟩)) (.ret ((.exit 0), ⟨zFL1_24, zFL1_26, 7⟩)))
noncomputable def pC : LoopX := ⟨((codeKey pC_c).getD 0), 0, 100, pC_S, pC_i, [], pC_t.outs⟩
theorem pC_run : (codeX (cfgL ([]) (fun _ => [])).ti (callS ⟨(cfgL ([]) (fun _ => [])), l_able, hf1_⟩ 12) (((cfgL ([]) (fun _ => [])).ft 97).elim [] (·.ms)) pC.k0 ((fun _ => []) 97) 1000 pC_c pC_Φ pC.S).map (sqz (pC_S.t.map (·.1))) = pC_t := by kernel_rfl
theorem pC_back : pC_t.nrm (okS pC.k0 pC.n pC_b [] pC.S) = true := by kernel_rfl
theorem pC_bel : pC_t.outs.belX 110 = true := by kernel_rfl
theorem pC_ib : pC_i.bel 100 = true := by kernel_rfl
theorem pC_ig : pC_i.ge 100 = true := by kernel_rfl
theorem pC_bg : pC_b.ge 100 = true := by kernel_rfl
theorem pC_same : pC_i.same pC_b = true := by kernel_rfl
theorem pC_Sb : pC_S.bel 110 = true := by kernel_rfl
theorem pC_fits : fitsC Try.f97.ntmps pC_c = true := by kernel_rfl
/-! nZ: letters [100, 101] [] [] [] -/
noncomputable def nZ_c : Code := (loopsOf (Try.f95.body.getD .skip))[0]?.getD .skip
def nZ_S : XS := ⟨zFL1_53, [((0, 0), zFL1_7)], 4⟩
def nZ_Φ : Facts := [(.lt (.var 100) (.lit 0), false)]
def nZ_b : Bind := ⟨[(100, (.op .add .i64 (.var 100) (.lit 1))), (101, (.op .max .i64 (.var 101) (.cl 0 0 (.var 100))))], [], [], []⟩
def nZ_i : Bind := ⟨[(100, (.lit 0)), (101, (.lit 0))], [], [], []⟩
def nZ_t : T (XE × XS) := (.br zFL1_22 (.ret (.normal, ⟨[(9, zFL1_23), (8, (.sc (.i .i64 (.op .max .i64 (.var 101) zFL1_12)))), (7, (.sc (.b (.lit false)))), (6, zFL1_2), (0, (.sc (.i .i64 (.var 0)))), (1, zFL1_3), (2, zFL1_52)], [((0, 0), zFL1_7)], 18⟩)) (.ret ((.exit 0), ⟨zFL1_53, [((0, 0), zFL1_7)], 8⟩)))
noncomputable def nZ : LoopX := ⟨((codeKey nZ_c).getD 0), 0, 100, nZ_S, nZ_i, [], nZ_t.outs⟩
theorem nZ_run : (codeX (cfgL ([]) (fun _ => [])).ti (callS ⟨(cfgL ([]) (fun _ => [])), l_able, hf1_⟩ 12) (((cfgL ([]) (fun _ => [])).ft 95).elim [] (·.ms)) nZ.k0 ((fun _ => []) 95) 1000 nZ_c nZ_Φ nZ.S).map (sqz (nZ_S.t.map (·.1))) = nZ_t := by kernel_rfl
theorem nZ_back : nZ_t.nrm (okS nZ.k0 nZ.n nZ_b [] nZ.S) = true := by kernel_rfl
theorem nZ_bel : nZ_t.outs.belX 102 = true := by kernel_rfl
theorem nZ_ib : nZ_i.bel 100 = true := by kernel_rfl
theorem nZ_ig : nZ_i.ge 100 = true := by kernel_rfl
theorem nZ_bg : nZ_b.ge 100 = true := by kernel_rfl
theorem nZ_same : nZ_i.same nZ_b = true := by kernel_rfl
theorem nZ_Sb : nZ_S.bel 102 = true := by kernel_rfl
theorem nZ_fits : fitsC Try.f95.ntmps nZ_c = true := by kernel_rfl
end Go.Proofs.Ytonefailiekemaa
