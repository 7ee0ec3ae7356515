/- The document's search for an operation: where it finds one, and where it does not. -/
import Derived.Test.YtonefailiekemaaFL3
namespace Go.Proofs.Ytonefailiekemaa
open Go Go.Proofs.Aw Go.Proofs.Xw
abbrev zFL4_0 : X := .sc (.b (.not (.eq (.var 301) (.var 206))))
abbrev zFL4_1 : X := .sc (.b (.eq (.var 301) (.var 206)))
abbrev zFL4_2 : X := .ptr (14, 0) [] 0
abbrev zFL4_3 : X := .sc (.i .i64 (.lit 0))
abbrev zFL4_4 : X := .sc (.s (.cl 0 18 (.var 200)))
abbrev zFL4_5 : X := .sc (.s (.cl 0 19 (.var 200)))
abbrev zFL4_6 : X := .sc (.b (.cl 0 20 (.var 200)))
abbrev zFL4_7 : List X := [(.sc (.i .i64 (.cl 0 21 (.var 200)))), (.sc (.i .i64 (.cl 0 22 (.var 200)))), (.sc (.i .i64 (.cl 0 23 (.var 200)))), (.sc (.i .i64 (.cl 0 24 (.var 200)))), (.sc (.i .i64 (.cl 0 25 (.var 200)))), (.sc (.i .i64 (.cl 0 26 (.var 200)))), (.sc (.i .i64 (.cl 0 27 (.var 200)))), (.sc (.i .i64 (.cl 0 28 (.var 200)))), (.sc (.i .i64 (.cl 0 29 (.var 200))))]
abbrev zFL4_8 : X := .sc (.i .i64 (.cl 0 1 (.var 200)))
abbrev zFL4_9 : X := .sc (.i .i64 (.cl 0 2 (.var 200)))
abbrev zFL4_10 : X := .sc (.i .i64 (.cl 0 3 (.var 200)))
abbrev zFL4_11 : XHp := [((14, 0), [(.sc (.i .i64 (.var 204))), (.sc (.i .i64 (.var 205))), (.sc (.i .i64 (.var 206))), (.sc (.i .i64 (.var 210))), (.sc (.i .i64 (.var 211))), (.sc (.i .i64 (.var 212))), (.sc (.i .i64 (.var 213))), (.sc (.i .i64 (.var 214))), (.sc (.i .i64 (.var 215))), (.sc (.i .i64 (.var 216))), (.sc (.i .i64 (.var 217))), (.sc (.i .i64 (.var 218))), (.sc (.i .i64 (.var 219))), (.sc (.b (.var 220))), (.sc (.i .i64 (.var 221))), (.sc (.i .i64 (.var 222))), (.sc (.i .i64 (.var 223))), (.sc (.i .i64 (.var 224))), (.slv (13, 0) 20 (.lit 0) (.len 201) true), (.sc (.i .i64 (.var 225))), (.sc (.i .i64 (.var 229))), (.sc (.i .i64 (.var 227))), zFL4_3, (.sc (.b (.lit true)))]), ((13, 0), [(.rows 20 (.len 201) (.var 201 [(.i .i64), (.i .i64), (.i .i64), (.i .i64), (.i .i64), (.i .i64), .s, .s, .b, (.i .i64), (.i .i64), (.i .i64), (.i .i64), (.i .i64), (.i .i64), (.i .i64), (.i .i64), (.i .i64), (.i .i64), (.i .i64)]))]), ((96, 0), zFL4_7)]
set_option maxRecDepth 100000
def dFrs : XS := ⟨[(18, (.sc (.i .i64 (.var 380)))), (27, zFL4_0), (26, zFL4_1), (25, zFL4_2), (17, zFL4_3), (16, (.sc (.i .i64 (.op .add .i64 (.var 380) (.lit 1))))), (12, (.ptr (96, 0) [] 0)), (0, zFL4_2), (1, zFL4_4), (2, zFL4_5), (3, zFL4_6), (4, (.agg zFL4_7)), (5, zFL4_8), (6, zFL4_9), (7, zFL4_10)], zFL4_11, 136⟩
def dFxs : XS := ⟨[(18, (.sc (.i .i64 (.var 380)))), (27, zFL4_0), (26, zFL4_1), (25, zFL4_2), (17, zFL4_3), (16, zFL4_3), (12, (.ptr (96, 0) [] 0)), (0, zFL4_2), (1, zFL4_4), (2, zFL4_5), (3, zFL4_6), (4, (.agg zFL4_7)), (5, zFL4_8), (6, zFL4_9), (7, zFL4_10)], zFL4_11, 110⟩
noncomputable def dFr_c : Code := dF_c
noncomputable def dFx_c : Code := dF_c
noncomputable def dFr : LoopX := ⟨((codeKey dF_c).getD 0), 96, 380, dF_S, dF_i, [], .ret (.ret, dFrs)⟩
noncomputable def dFx : LoopX := ⟨((codeKey dF_c).getD 0), 96, 380, dF_S, dF_i, [], .ret (.exit 0, dFxs)⟩
noncomputable def lpx (f : Nat) : List LoopX := if Nat.beq f 59 = true then [dFx] else []
end Go.Proofs.Ytonefailiekemaa
