/- What is shown of loops, each by one run of its body over letters. -/
import Derived.Test.YtonefailiekemaaXT
import Derived.Test.YtonefailiekemaaXLP2
import Derived.Test.YtonefailiekemaaXwM2
namespace Go.Proofs.Ytonefailiekemaa
open Go Go.Proofs.Aw Go.Proofs.Xw
set_option maxRecDepth 100000
noncomputable def lpP2 (f : Nat) : List LoopX := if Nat.beq f 50 = true then [pA, pB] else []
def fnX : X := .fn (.func 86) [] [.ip [iV 0] [] 0, .ip [iV 1] [] 0]
/-! fX: letters [100] [] [] [] -/
noncomputable def fX_c : Code := (loopsOf (Try.f85.body.getD .skip))[0]?.getD .skip
abbrev zXLP3_0 : X := .sc (.i .i64 (.var 100))
abbrev zXLP3_1 : X := .sc (.i .i64 (.len 0))
abbrev zXLP3_2 : X := .rl 20 (.len 0) (.var 0 [(.i .i64), (.i .i64), (.i .i64), (.i .i64), (.i .i64), (.i .i64), .s, .s, .b, (.i .i64), (.i .i64), (.i .i64), (.i .i64), (.i .i64), (.i .i64), (.i .i64), (.i .i64), (.i .i64), (.i .i64), (.i .i64)]) false
abbrev zXLP3_3 : X := .fn (.func 86) [] [(.ip [(.sc (.i .i64 (.var 0)))] [] 0), (.ip [(.sc (.i .i64 (.var 1)))] [] 0)]
abbrev zXLP3_4 : XTp := [(8, zXLP3_0), (7, zXLP3_1), (6, zXLP3_2), (4, (.sc (.i .i64 (.lit 0)))), (0, zXLP3_2), (1, zXLP3_3)]
def fX_S : XS := ⟨zXLP3_4, [], 4⟩
def fX_Φ : Facts := [(.lt (.var 100) (.lit 0), false)]
def fX_b : Bind := ⟨[(100, (.op .add .i64 (.var 100) (.lit 1)))], [], [], []⟩
def fX_i : Bind := ⟨[(100, (.lit 0))], [], [], []⟩
def fX_t : T (XE × XS) := (.br (.lt (.var 100) (.len 0)) (.br (.and (.eq (.cl 0 18 (.var 100)) (.var 0)) (.eq (.cl 0 19 (.var 100)) (.var 1))) (.ret (.ret, ⟨[(8, zXLP3_0), (7, zXLP3_1), (6, zXLP3_2), (4, zXLP3_0), (0, zXLP3_2), (1, zXLP3_3)], [], 15⟩)) (.ret (.normal, ⟨[(8, (.sc (.i .i64 (.op .add .i64 (.var 100) (.lit 1))))), (7, zXLP3_1), (6, zXLP3_2), (4, (.sc (.i .i64 (.lit 0)))), (0, zXLP3_2), (1, zXLP3_3)], [], 15⟩))) (.ret ((.exit 0), ⟨zXLP3_4, [], 5⟩)))
noncomputable def fX : LoopX := ⟨((codeKey fX_c).getD 0), 0, 100, fX_S, fX_i, [], fX_t.outs⟩
theorem fX_run : (codeX (cfgL ([]) (fun _ => [])).ti (callS ⟨(cfgL ([]) (fun _ => [])), l_able, [10085]⟩ 12) (((cfgL ([]) (fun _ => [])).ft 85).elim [] (·.ms)) fX.k0 ((fun _ => []) 85) 1000 fX_c fX_Φ fX.S).map (sqz (fX_S.t.map (·.1))) = fX_t := by kernel_rfl
theorem fX_back : fX_t.nrm (okS fX.k0 fX.n fX_b [] fX.S) = true := by kernel_rfl
theorem fX_bel : fX_t.outs.belX 101 = true := by kernel_rfl
theorem fX_ib : fX_i.bel 100 = true := by kernel_rfl
theorem fX_ig : fX_i.ge 100 = true := by kernel_rfl
theorem fX_bg : fX_b.ge 100 = true := by kernel_rfl
theorem fX_same : fX_i.same fX_b = true := by kernel_rfl
theorem fX_Sb : fX_S.bel 101 = true := by kernel_rfl
theorem fX_fits : fitsC Try.f85.ntmps fX_c = true := by kernel_rfl
end Go.Proofs.Ytonefailiekemaa
