/- What is shown of loops, each by one run of its body over letters. -/
import Derived.Test.YtonefailiekemaaXT
import Derived.Test.YtonefailiekemaaFM1
import Derived.Test.YtonefailiekemaaXwM2
namespace Go.Proofs.Ytonefailiekemaa
open Go Go.Proofs.Aw Go.Proofs.Xw
set_option maxRecDepth 100000
def lkF : Facts := epF ++ lF ++ [(.eq (.var 229) (.var 226), true), (.lt (.var 301) (.lit 0), false), (.lt (.var 302) (.lit 0), false)]

/-! cK: letters [440] [] [] [] -/
noncomputable def cK_c : Code := (loopsOf (Try.f35.body.getD .skip))[0]?.getD .skip
abbrev zFM3_0 : XTp := [(140, .top), (139, .top), (138, .top), (137, .top), (136, .top), (135, .top), (134, .top), (133, .top), (132, .top), (131, .top), (130, .top), (129, .top), (128, .top), (127, .top), (126, .top), (125, .top), (124, .top), (123, .top), (122, .top), (121, .top), (120, .top), (119, .top), (118, .top), (117, .top), (116, .top), (115, .top), (114, .top), (113, .top), (112, .top), (111, .top), (110, .top), (109, .top), (108, .top), (107, .top), (106, .top), (105, .top), (104, .top), (103, .top), (102, .top), (101, .top), (100, .top), (99, .top), (98, .top), (97, .top), (96, .top), (95, .top), (94, .top), (93, .top), (92, .top), (91, .top), (90, .top), (89, .top), (88, .top), (87, .top), (86, .top), (85, .top), (84, .top), (83, .top), (82, .top), (81, .top), (80, .top), (79, .top), (78, .top), (77, .top), (76, .top), (75, .top), (74, .top), (73, .top), (72, .top), (71, .top), (70, .top), (69, .top), (68, .top), (67, .top), (66, .top), (65, .top), (64, .top), (63, .top), (62, .top), (61, .top), (60, .top), (59, .top), (58, .top), (57, .top), (56, .top), (55, .top), (54, .top), (53, .top), (52, .top), (51, .top), (50, .top), (49, .top), (48, .top), (47, .top), (46, .top), (45, .top), (44, .top), (43, .top), (42, .top), (41, .top), (40, .top), (39, .top), (38, .top), (37, .top), (36, .top), (35, .top), (34, .top), (33, .top), (32, .top), (31, .top), (30, .top), (29, .top), (28, .top), (27, .top), (26, .top), (25, .top), (24, .top), (8, .top), (7, .top), (23, .top), (22, .top), (19, .top), (21, .top), (20, .top), (6, .top), (5, .top), (18, .top), (17, .top), (14, .top), (16, .top), (15, .top), (4, .top)]
abbrev zFM3_1 : X := .rl 20 (.len 201) (.var 201 [(.i .i64), (.i .i64), (.i .i64), (.i .i64), (.i .i64), (.i .i64), .s, .s, .b, (.i .i64), (.i .i64), (.i .i64), (.i .i64), (.i .i64), (.i .i64), (.i .i64), (.i .i64), (.i .i64), (.i .i64), (.i .i64)]) false
abbrev zFM3_2 : XTp := [(0, (.ip [(.sc (.i .i64 (.var 204))), (.sc (.i .i64 (.var 205))), (.sc (.i .i64 (.var 206))), (.sc (.i .i64 (.var 210))), (.sc (.i .i64 (.var 211))), (.sc (.i .i64 (.var 212))), (.sc (.i .i64 (.var 213))), (.sc (.i .i64 (.var 214))), (.sc (.i .i64 (.var 215))), (.sc (.i .i64 (.var 216))), (.sc (.i .i64 (.var 217))), (.sc (.i .i64 (.var 218))), (.sc (.i .i64 (.var 219))), (.sc (.b (.var 220))), (.sc (.i .i64 (.var 221))), (.sc (.i .i64 (.var 222))), (.sc (.i .i64 (.var 223))), (.sc (.i .i64 (.var 224))), zFM3_1, (.sc (.i .i64 (.var 225))), (.sc (.i .i64 (.var 226))), (.sc (.i .i64 (.var 227))), (.sc (.i .i64 (.lit 0))), (.sc (.b (.lit true)))] [] 0)), (1, (.ip [(.sc (.i .i64 (.var 204))), (.sc (.i .i64 (.var 205))), (.sc (.i .i64 (.var 206))), (.sc (.i .i64 (.var 210))), (.sc (.i .i64 (.var 211))), (.sc (.i .i64 (.var 212))), (.sc (.i .i64 (.var 213))), (.sc (.i .i64 (.var 214))), (.sc (.i .i64 (.var 215))), (.sc (.i .i64 (.var 216))), (.sc (.i .i64 (.var 217))), (.sc (.i .i64 (.var 218))), (.sc (.i .i64 (.var 219))), (.sc (.b (.var 220))), (.sc (.i .i64 (.var 221))), (.sc (.i .i64 (.var 222))), (.sc (.i .i64 (.var 223))), (.sc (.i .i64 (.var 224))), zFM3_1, (.sc (.i .i64 (.var 225))), (.sc (.i .i64 (.var 229))), (.sc (.i .i64 (.var 227))), (.sc (.i .i64 (.lit 0))), (.sc (.b (.lit true)))] [] 0))]
abbrev zFM3_3 : XTp := ([(9, (.sc (.i .i64 (.var 440))))] ++ zFM3_0 ++ zFM3_2)
abbrev zFM3_4 : BE := .or (.lt (.var 440) (.lit 1)) (.lt (.len 201) (.var 440))
abbrev zFM3_5 : IE := .op .sub .i64 (.var 440) (.lit 1)
abbrev zFM3_6 : BE := .or zFM3_4 (.and (.not (.lt zFM3_5 (.lit 0))) (.lt zFM3_5 (.len 201)))
abbrev zFM3_7 : List X := [(.sc (.i .i64 (.ite zFM3_4 (.lit 0) (.cl 201 0 zFM3_5)))), (.sc (.i .i64 (.ite zFM3_4 (.lit 0) (.cl 201 1 zFM3_5)))), (.sc (.i .i64 (.ite zFM3_4 (.lit 0) (.cl 201 2 zFM3_5)))), (.sc (.i .i64 (.ite zFM3_4 (.lit 0) (.cl 201 3 zFM3_5)))), (.sc (.i .i64 (.ite zFM3_4 (.lit 0) (.cl 201 4 zFM3_5)))), (.sc (.i .i64 (.ite zFM3_4 (.lit 0) (.cl 201 5 zFM3_5)))), (.sc (.s (.ite zFM3_4 (.lit ⟨#[]⟩) (.cl 201 6 zFM3_5)))), (.sc (.s (.ite zFM3_4 (.lit ⟨#[]⟩) (.cl 201 7 zFM3_5)))), (.sc (.b (.and (.not zFM3_4) (.cl 201 8 zFM3_5)))), (.sc (.i .i64 (.ite zFM3_4 (.lit 0) (.cl 201 9 zFM3_5)))), (.sc (.i .i64 (.ite zFM3_4 (.lit 0) (.cl 201 10 zFM3_5)))), (.sc (.i .i64 (.ite zFM3_4 (.lit 0) (.cl 201 11 zFM3_5)))), (.sc (.i .i64 (.ite zFM3_4 (.lit 0) (.cl 201 12 zFM3_5)))), (.sc (.i .i64 (.ite zFM3_4 (.lit 0) (.cl 201 13 zFM3_5)))), (.sc (.i .i64 (.ite zFM3_4 (.lit 0) (.cl 201 14 zFM3_5)))), (.sc (.i .i64 (.ite zFM3_4 (.lit 0) (.cl 201 15 zFM3_5)))), (.sc (.i .i64 (.ite zFM3_4 (.lit 0) (.cl 201 16 zFM3_5)))), (.sc (.i .i64 (.ite zFM3_4 (.lit 0) (.cl 201 17 zFM3_5)))), (.sc (.i .i64 (.ite zFM3_4 (.lit 0) (.cl 201 18 zFM3_5)))), (.sc (.i .i64 (.ite zFM3_4 (.lit 0) (.cl 201 19 zFM3_5))))]
def cK_S : XS := ⟨zFM3_3, [], 133⟩
def cK_Φ : Facts := ((.lt (.var 440) (.lit (-1)), false) :: lF)
def cK_b : Bind := ⟨[(440, (.op .add .i64 (.var 440) (.lit 1)))], [], [], []⟩
def cK_i : Bind := ⟨[(440, (.lit (-1)))], [], [], []⟩
def cK_t : T (XE × XS) := (.br (.not (.lt (.op .add .i64 (.len 201) (.lit 1)) (.var 440))) (.need (.and zFM3_6 zFM3_6) (.ret (.normal, ⟨([(9, (.sc (.i .i64 (.op .add .i64 (.var 440) (.lit 1)))))] ++ zFM3_0 ++ zFM3_2), [((147, 0), zFM3_7), ((156, 0), zFM3_7)], 170⟩))) (.ret ((.exit 0), ⟨zFM3_3, [], 141⟩)))
noncomputable def cK : LoopX := ⟨((codeKey cK_c).getD 0), 0, 440, cK_S, cK_i, [], cK_t.outs⟩
theorem cK_run : (codeX (cfgL ([]) (fun _ => [])).ti (callS ⟨(cfgL ([]) (fun _ => [])), l_able, HFL⟩ 12) (((cfgL (ksRos) (fun _ => [])).ft 35).elim [] (·.ms)) cK.k0 ((fun _ => []) 35) 1000 cK_c cK_Φ cK.S).map (sqz (cK_S.t.map (·.1))) = cK_t := by kernel_rfl
theorem cK_back : cK_t.nrm (okS cK.k0 cK.n cK_b [] cK.S) = true := by kernel_rfl
theorem cK_bel : cK_t.outs.belX 441 = true := by kernel_rfl
theorem cK_ib : cK_i.bel 440 = true := by kernel_rfl
theorem cK_ig : cK_i.ge 440 = true := by kernel_rfl
theorem cK_bg : cK_b.ge 440 = true := by kernel_rfl
theorem cK_same : cK_i.same cK_b = true := by kernel_rfl
theorem cK_Sb : cK_S.bel 441 = true := by kernel_rfl
theorem cK_fits : fitsC Try.f35.ntmps cK_c = true := by kernel_rfl
end Go.Proofs.Ytonefailiekemaa
