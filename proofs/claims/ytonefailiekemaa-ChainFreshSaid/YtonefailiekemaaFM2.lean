/- What is shown of loops, each by one run of its body over letters. -/
import Derived.Test.YtonefailiekemaaXT
import Derived.Test.YtonefailiekemaaFKl
import Derived.Test.YtonefailiekemaaXwM2
namespace Go.Proofs.Ytonefailiekemaa
open Go Go.Proofs.Aw Go.Proofs.Xw
set_option maxRecDepth 100000
noncomputable def lpMLx (f : Nat) : List LoopX := if Nat.beq f 7 = true then [cML] else []
def limL : Facts := [(.var 90, false), (.lt (.lit 400) (.len 0), false)] ++ epF ++ lF ++ [(.eq (.var 229) (.var 226), true)]

/-! cA: letters [430] [] [] [431] -/
noncomputable def cA_c : Code := (loopsOf (Try.f7.body.getD .skip))[1]?.getD .skip
abbrev zFM2_0 : X := .slv (63, 0) 20 (.lit 0) (.len 201) true
abbrev zFM2_1 : X := .slv (61, 0) 20 (.lit 0) (.len 201) true
abbrev zFM2_2 : X := .ptr (12, 0) [] 0
abbrev zFM2_3 : XTp := [(18, .top), (17, .top), (16, .top), (15, .top), (14, .top), (13, .top), (12, .top), (11, .top), (4, .top)]
abbrev zFM2_4 : XTp := [(0, (.sc (.i .i64 (.var 0)))), (1, (.rl 50 (.len 0) (.var 0 [(.i .i64), (.i .i64), (.i .i64), (.i .i64), (.i .i64), (.i .i64), (.i .i64), (.i .i64), (.i .i64), (.i .i64), (.i .i64), (.i .i64), (.i .i64), (.i .i64), (.i .i64), .b, (.i .i64), (.i .i64), .s, .s, .b, (.i .i64), (.i .i64), (.i .i64), (.i .i64), (.i .i64), (.i .i64), (.i .i64), (.i .i64), (.i .i64), (.i .i64), (.i .i64), (.i .i64), (.i .i64), (.i .i64), (.i .i64), .s, .s, .b, (.i .i64), (.i .i64), (.i .i64), (.i .i64), (.i .i64), (.i .i64), (.i .i64), (.i .i64), (.i .i64), (.i .i64), (.i .i64)]) false))]
abbrev zFM2_5 : XTp := ([(10, (.sc (.i .i64 (.var 430)))), (9, zFM2_0), (8, zFM2_1), (35, zFM2_0), (34, zFM2_2), (33, zFM2_1), (32, zFM2_2), (7, .top), (6, (.ptr (14, 0) [] 0)), (5, zFM2_2)] ++ zFM2_3 ++ zFM2_4)
abbrev zFM2_6 : Sc := .i .i64 (.lit 0)
abbrev zFM2_7 : List X := [(.sc (.i .i64 (.var 204))), (.sc (.i .i64 (.var 205))), (.sc (.i .i64 (.var 206))), (.sc (.i .i64 (.var 210))), (.sc (.i .i64 (.var 211))), (.sc (.i .i64 (.var 212))), (.sc (.i .i64 (.var 213))), (.sc (.i .i64 (.var 214))), (.sc (.i .i64 (.var 215))), (.sc (.i .i64 (.var 216))), (.sc (.i .i64 (.var 217))), (.sc (.i .i64 (.var 218))), (.sc (.i .i64 (.var 219))), (.sc (.b (.var 220))), (.sc (.i .i64 (.var 221))), (.sc (.i .i64 (.var 222))), (.sc (.i .i64 (.var 223))), (.sc (.i .i64 (.var 224))), (.slv (11, 0) 20 (.lit 0) (.len 201) true), (.sc (.i .i64 (.var 225))), (.sc (.i .i64 (.var 226))), (.sc (.i .i64 (.var 227))), (.sc zFM2_6), (.sc (.b (.lit true)))]
abbrev zFM2_8 : List X := [(.sc (.i .i64 (.var 204))), (.sc (.i .i64 (.var 205))), (.sc (.i .i64 (.var 206))), (.sc (.i .i64 (.var 210))), (.sc (.i .i64 (.var 211))), (.sc (.i .i64 (.var 212))), (.sc (.i .i64 (.var 213))), (.sc (.i .i64 (.var 214))), (.sc (.i .i64 (.var 215))), (.sc (.i .i64 (.var 216))), (.sc (.i .i64 (.var 217))), (.sc (.i .i64 (.var 218))), (.sc (.i .i64 (.var 219))), (.sc (.b (.var 220))), (.sc (.i .i64 (.var 221))), (.sc (.i .i64 (.var 222))), (.sc (.i .i64 (.var 223))), (.sc (.i .i64 (.var 224))), (.slv (13, 0) 20 (.lit 0) (.len 201) true), (.sc (.i .i64 (.var 225))), (.sc (.i .i64 (.var 229))), (.sc (.i .i64 (.var 227))), (.sc zFM2_6), (.sc (.b (.lit true)))]
abbrev zFM2_9 : List Kd := [(.i .i64), (.i .i64), (.i .i64), (.i .i64), (.i .i64), (.i .i64), .s, .s, .b, (.i .i64), (.i .i64), (.i .i64), (.i .i64), (.i .i64), (.i .i64), (.i .i64), (.i .i64), (.i .i64), (.i .i64), (.i .i64)]
abbrev zFM2_10 : List X := [(.rows 20 (.len 201) (.var 201 zFM2_9))]
abbrev zFM2_11 : XHp := [((12, 0), zFM2_7), ((14, 0), zFM2_8), ((11, 0), zFM2_10), ((13, 0), zFM2_10), ((61, 0), [(.rows 20 (.len 201) (.var 431 zFM2_9))]), ((63, 0), zFM2_10)]
abbrev zFM2_12 : IE := .op .add .i64 (.var 430) (.lit 1)
abbrev zFM2_13 : RL := .upd (.var 430) [zFM2_6, zFM2_6, zFM2_6, zFM2_6, zFM2_6, zFM2_6, (.s (.lit ⟨#[]⟩)), (.s (.lit ⟨#[]⟩)), (.b (.lit false)), zFM2_6, zFM2_6, zFM2_6, zFM2_6, zFM2_6, zFM2_6, zFM2_6, zFM2_6, zFM2_6, zFM2_6, (.i .i64 (.lit (-77)))] (.var 431 zFM2_9)
def cA_S : XS := ⟨zFM2_5, zFM2_11, 67⟩
def cA_Φ : Facts := ((.lt (.var 430) (.lit 0), false) :: lF)
def cA_b : Bind := ⟨[(430, zFM2_12)], [], [], [(431, (.len 201), zFM2_13)]⟩
def cA_i : Bind := ⟨[(430, (.lit 0))], [], [], [(431, (.len 201), (.var 201 zFM2_9))]⟩
def cA_t : T (XE × XS) := (.br (.lt (.var 430) (.len 201)) (.ret (.normal, ⟨([(10, (.sc (.i .i64 zFM2_12))), (9, zFM2_0), (8, zFM2_1), (35, zFM2_0), (34, zFM2_2), (33, zFM2_1), (32, zFM2_2), (7, .top), (6, (.ptr (14, 0) [] 0)), (5, zFM2_2)] ++ zFM2_3 ++ zFM2_4), [((12, 0), zFM2_7), ((14, 0), zFM2_8), ((11, 0), zFM2_10), ((13, 0), zFM2_10), ((61, 0), [(.rows 20 (.len 201) zFM2_13)]), ((63, 0), zFM2_10)], 79⟩)) (.ret ((.exit 2), ⟨zFM2_5, zFM2_11, 71⟩)))
noncomputable def cA : LoopX := ⟨((codeKey cA_c).getD 0), 0, 430, cA_S, cA_i, [], cA_t.outs⟩
theorem cA_run : (codeX (cfgL ([]) (fun _ => [])).ti (callS ⟨(cfgL ([]) (fun _ => [])), l_able, HFL⟩ 12) (((cfgL (ksM ++ ksRos) lpMLx).ft 7).elim [] (·.ms)) cA.k0 ((fun _ => []) 7) 1000 cA_c cA_Φ cA.S).map (sqz (cA_S.t.map (·.1))) = cA_t := by kernel_rfl
theorem cA_back : cA_t.nrm (okS cA.k0 cA.n cA_b [] cA.S) = true := by kernel_rfl
theorem cA_bel : cA_t.outs.belX 432 = true := by kernel_rfl
theorem cA_ib : cA_i.bel 430 = true := by kernel_rfl
theorem cA_ig : cA_i.ge 430 = true := by kernel_rfl
theorem cA_bg : cA_b.ge 430 = true := by kernel_rfl
theorem cA_same : cA_i.same cA_b = true := by kernel_rfl
theorem cA_Sb : cA_S.bel 432 = true := by kernel_rfl
theorem cA_fits : fitsC Try.f7.ntmps cA_c = true := by kernel_rfl
end Go.Proofs.Ytonefailiekemaa
