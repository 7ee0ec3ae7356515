/- What is shown of loops, each by one run of its body over letters. -/
import Derived.Test.YtonefailiekemaaXT
import Derived.Test.YtonefailiekemaaXLP3
import Derived.Test.YtonefailiekemaaXwM2
namespace Go.Proofs.Ytonefailiekemaa
open Go Go.Proofs.Aw Go.Proofs.Xw
set_option maxRecDepth 100000
abbrev hf6_ : List Nat := [105,82,106,84,51,11,31,10014,10024,10025,10026,10028,10032,10033,10035,10038,10039,10040,10041,10045,10047,10048,10065,10066,10067,10071,10064,10068,10069,10070,10072,10073,10092,10085]

/-! kD: letters [100, 101, 102, 103] [] [] [] -/
noncomputable def kD_c : Code := (loopsOf (Try.f22.body.getD .skip))[0]?.getD .skip
abbrev zXN1_0 : X := .sc (.i .i64 (.len 0))
abbrev zXN1_1 : X := .rl 20 (.len 0) (.var 0 [(.i .i64), (.i .i64), (.i .i64), (.i .i64), (.i .i64), (.i .i64), .s, .s, .b, (.i .i64), (.i .i64), (.i .i64), (.i .i64), (.i .i64), (.i .i64), (.i .i64), (.i .i64), (.i .i64), (.i .i64), (.i .i64)]) false
abbrev zXN1_2 : X := .ptr (0, 0) [] 0
abbrev zXN1_3 : X := .sc (.i .i64 (.var 1))
abbrev zXN1_4 : XTp := [(10, (.sc (.i .i64 (.var 100)))), (9, zXN1_0), (8, zXN1_1), (5, (.ptr (1, 0) [] 0)), (4, zXN1_2), (0, zXN1_3), (1, zXN1_1)]
abbrev zXN1_5 : X := .sc (.i .i64 (.lit 0))
abbrev zXN1_6 : List X := [zXN1_5, zXN1_5, zXN1_5]
abbrev zXN1_7 : XHp := [((0, 0), zXN1_6), ((1, 0), [(.sc (.i .i64 (.var 101))), (.sc (.i .i64 (.var 102))), (.sc (.i .i64 (.var 103)))])]
abbrev zXN1_8 : IE := .op .add .i64 (.var 100) (.lit 1)
abbrev zXN1_9 : IE := .cl 0 0 (.var 100)
abbrev zXN1_10 : BE := .and (.eq (.cl 0 1 (.var 100)) (.var 1)) (.and (.and (.and (.not (.lt zXN1_9 (.lit 0))) (.lt zXN1_9 (.lit 3))) (.not (.lt (.var 1) (.lit 0)))) (.lt (.var 1) (.lit 3)))
abbrev zXN1_11 : BE := .eq zXN1_9 (.lit 0)
abbrev zXN1_12 : BE := .eq zXN1_9 (.lit 1)
abbrev zXN1_13 : IE := .op .max .i64 (.ite zXN1_11 (.var 101) (.ite zXN1_12 (.var 102) (.var 103))) (.cl 0 2 (.var 100))
abbrev zXN1_14 : IE := .ite zXN1_10 (.ite zXN1_11 zXN1_13 (.var 101)) (.var 101)
abbrev zXN1_15 : IE := .ite zXN1_10 (.ite zXN1_11 (.var 102) (.ite zXN1_12 zXN1_13 (.var 102))) (.var 102)
abbrev zXN1_16 : IE := .ite zXN1_10 (.ite zXN1_11 (.var 103) (.ite zXN1_12 (.var 103) zXN1_13)) (.var 103)
abbrev zXN1_17 : X := .rl 1 (.len 0) (.var 0 [(.i .i64)]) false
abbrev zXN1_18 : XTp := [(14, (.sc (.i .i64 (.var 100)))), (13, zXN1_0), (12, zXN1_17), (8, (.sc (.i .i64 (.var 101)))), (7, (.sc (.b (.lit false)))), (6, zXN1_2), (0, (.sc (.i .i64 (.var 0)))), (1, zXN1_3), (2, zXN1_17)]
def kD_S : XS := ⟨zXN1_4, zXN1_7, 5⟩
def kD_Φ : Facts := [(.lt (.var 100) (.lit 0), false)]
def kD_b : Bind := ⟨[(100, zXN1_8), (101, zXN1_14), (102, zXN1_15), (103, zXN1_16)], [], [], []⟩
def kD_i : Bind := ⟨[(100, (.lit 0)), (101, (.lit 0)), (102, (.lit 0)), (103, (.lit 0))], [], [], []⟩
def kD_t : T (XE × XS) := (.br (.lt (.var 100) (.len 0)) (.ret (.normal, ⟨[(10, (.sc (.i .i64 zXN1_8))), (9, zXN1_0), (8, zXN1_1), (5, (.ptr (1, 0) [] 0)), (4, zXN1_2), (0, zXN1_3), (1, zXN1_1)], [((0, 0), zXN1_6), ((1, 0), [(.sc (.i .i64 zXN1_14)), (.sc (.i .i64 zXN1_15)), (.sc (.i .i64 zXN1_16))]), ((8, 0), [(.sc (.i .i64 zXN1_9)), (.sc (.i .i64 (.cl 0 1 (.var 100)))), (.sc (.i .i64 (.cl 0 2 (.var 100)))), (.sc (.i .i64 (.cl 0 3 (.var 100)))), (.sc (.i .i64 (.cl 0 4 (.var 100)))), (.sc (.i .i64 (.cl 0 5 (.var 100)))), (.sc (.s (.cl 0 6 (.var 100)))), (.sc (.s (.cl 0 7 (.var 100)))), (.sc (.b (.cl 0 8 (.var 100)))), (.sc (.i .i64 (.cl 0 9 (.var 100)))), (.sc (.i .i64 (.cl 0 10 (.var 100)))), (.sc (.i .i64 (.cl 0 11 (.var 100)))), (.sc (.i .i64 (.cl 0 12 (.var 100)))), (.sc (.i .i64 (.cl 0 13 (.var 100)))), (.sc (.i .i64 (.cl 0 14 (.var 100)))), (.sc (.i .i64 (.cl 0 15 (.var 100)))), (.sc (.i .i64 (.cl 0 16 (.var 100)))), (.sc (.i .i64 (.cl 0 17 (.var 100)))), (.sc (.i .i64 (.cl 0 18 (.var 100)))), (.sc (.i .i64 (.cl 0 19 (.var 100))))])], 38⟩)) (.ret ((.exit 0), ⟨zXN1_4, zXN1_7, 6⟩)))
noncomputable def kD : LoopX := ⟨((codeKey kD_c).getD 0), 0, 100, kD_S, kD_i, [], kD_t.outs⟩
theorem kD_run : (codeX (cfgL ([]) (fun _ => [])).ti (callS ⟨(cfgL ([]) (fun _ => [])), l_able, hf6_⟩ 12) (((cfgL ([]) (fun _ => [])).ft 22).elim [] (·.ms)) kD.k0 ((fun _ => []) 22) 1000 kD_c kD_Φ kD.S).map (sqz (kD_S.t.map (·.1))) = kD_t := by kernel_rfl
theorem kD_back : kD_t.nrm (okS kD.k0 kD.n kD_b [] kD.S) = true := by kernel_rfl
theorem kD_bel : kD_t.outs.belX 104 = true := by kernel_rfl
theorem kD_ib : kD_i.bel 100 = true := by kernel_rfl
theorem kD_ig : kD_i.ge 100 = true := by kernel_rfl
theorem kD_bg : kD_b.ge 100 = true := by kernel_rfl
theorem kD_same : kD_i.same kD_b = true := by kernel_rfl
theorem kD_Sb : kD_S.bel 104 = true := by kernel_rfl
theorem kD_fits : fitsC Try.f22.ntmps kD_c = true := by kernel_rfl
/-! nY: letters [100, 101] [] [] [] -/
noncomputable def nY_c : Code := (loopsOf (Try.f46.body.getD .skip))[0]?.getD .skip
def nY_S : XS := ⟨zXN1_18, [((0, 0), zXN1_6)], 6⟩
def nY_Φ : Facts := [(.lt (.var 100) (.lit 0), false)]
def nY_b : Bind := ⟨[(100, (.op .add .i64 (.var 100) (.lit 1))), (101, (.op .max .i64 (.var 101) (.cl 0 0 (.var 100))))], [], [], []⟩
def nY_i : Bind := ⟨[(100, (.lit 0)), (101, (.lit 0))], [], [], []⟩
def nY_t : T (XE × XS) := (.br (.lt (.var 100) (.len 0)) (.ret (.normal, ⟨[(14, (.sc (.i .i64 zXN1_8))), (13, zXN1_0), (12, zXN1_17), (8, (.sc (.i .i64 (.op .max .i64 (.var 101) zXN1_9)))), (7, (.sc (.b (.lit false)))), (6, zXN1_2), (0, (.sc (.i .i64 (.var 0)))), (1, zXN1_3), (2, zXN1_17)], [((0, 0), zXN1_6)], 16⟩)) (.ret ((.exit 0), ⟨zXN1_18, [((0, 0), zXN1_6)], 7⟩)))
noncomputable def nY : LoopX := ⟨((codeKey nY_c).getD 0), 0, 100, nY_S, nY_i, [], nY_t.outs⟩
theorem nY_run : (codeX (cfgL ([]) (fun _ => [])).ti (callS ⟨(cfgL ([]) (fun _ => [])), l_able, hf6_⟩ 12) (((cfgL ([]) (fun _ => [])).ft 46).elim [] (·.ms)) nY.k0 ((fun _ => []) 46) 1000 nY_c nY_Φ nY.S).map (sqz (nY_S.t.map (·.1))) = nY_t := by kernel_rfl
theorem nY_back : nY_t.nrm (okS nY.k0 nY.n nY_b [] nY.S) = true := by kernel_rfl
theorem nY_bel : nY_t.outs.belX 102 = true := by kernel_rfl
theorem nY_ib : nY_i.bel 100 = true := by kernel_rfl
theorem nY_ig : nY_i.ge 100 = true := by kernel_rfl
theorem nY_bg : nY_b.ge 100 = true := by kernel_rfl
theorem nY_same : nY_i.same nY_b = true := by kernel_rfl
theorem nY_Sb : nY_S.bel 102 = true := by kernel_rfl
theorem nY_fits : fitsC Try.f46.ntmps nY_c = true := by kernel_rfl
end Go.Proofs.Ytonefailiekemaa
