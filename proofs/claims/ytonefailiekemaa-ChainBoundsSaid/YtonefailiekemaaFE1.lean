/- What is shown of loops, each by one run of its body over letters. -/
import Derived.Test.YtonefailiekemaaXT
import Derived.Test.YtonefailiekemaaXA1
import Derived.Test.YtonefailiekemaaXwM2
namespace Go.Proofs.Ytonefailiekemaa
open Go Go.Proofs.Aw Go.Proofs.Xw
set_option maxRecDepth 100000
def enA : List X := [.rl 20 (.len 0) (.var 0 ke) false, .rl 20 (.var 0) (.var 1 ke) false]
def enF : Facts := [(.eq (.var 0) (.len 0), true)]
/-! eX: letters [100] [] [] [] -/
noncomputable def eX_c : Code := (loopsOf (Try.f30.body.getD .skip))[0]?.getD .skip
abbrev zFE1_0 : X := .sc (.b (.not (.eq (.len 0) (.var 0))))
abbrev zFE1_1 : List Kd := [(.i .i64), (.i .i64), (.i .i64), (.i .i64), (.i .i64), (.i .i64), .s, .s, .b, (.i .i64), (.i .i64), (.i .i64), (.i .i64), (.i .i64), (.i .i64), (.i .i64), (.i .i64), (.i .i64), (.i .i64), (.i .i64)]
abbrev zFE1_2 : X := .rl 20 (.var 0) (.var 1 zFE1_1) false
abbrev zFE1_3 : X := .rl 20 (.len 0) (.var 0 zFE1_1) false
abbrev zFE1_4 : XTp := [(5, (.sc (.i .i64 (.var 100)))), (10, zFE1_0), (9, (.sc (.i .i64 (.var 0)))), (8, zFE1_2), (7, (.sc (.i .i64 (.len 0)))), (6, zFE1_3), (4, (.sc (.b (.lit false)))), (0, zFE1_3), (1, zFE1_2)]
def eX_S : XS := ⟨zFE1_4, [], 7⟩
def eX_Φ : Facts := ((.lt (.var 100) (.lit 0), false) :: enF)
def eX_b : Bind := ⟨[(100, (.op .add .i64 (.var 100) (.lit 1)))], [], [], []⟩
def eX_i : Bind := ⟨[(100, (.lit 0))], [], [], []⟩
def eX_t : T (XE × XS) := (.br (.lt (.var 100) (.len 0)) (.need (.lt (.var 100) (.var 0)) (.br (.not (.and (.eq (.cl 0 0 (.var 100)) (.cl 1 0 (.var 100))) (.and (.eq (.cl 0 1 (.var 100)) (.cl 1 1 (.var 100))) (.and (.eq (.cl 0 2 (.var 100)) (.cl 1 2 (.var 100))) (.and (.eq (.cl 0 3 (.var 100)) (.cl 1 3 (.var 100))) (.and (.eq (.cl 0 4 (.var 100)) (.cl 1 4 (.var 100))) (.and (.eq (.cl 0 5 (.var 100)) (.cl 1 5 (.var 100))) (.and (.seq (.cl 0 6 (.var 100)) (.cl 1 6 (.var 100))) (.and (.seq (.cl 0 7 (.var 100)) (.cl 1 7 (.var 100))) (.and (.ite (.cl 0 8 (.var 100)) (.cl 1 8 (.var 100)) (.not (.cl 1 8 (.var 100)))) (.and (.eq (.cl 0 9 (.var 100)) (.cl 1 9 (.var 100))) (.and (.eq (.cl 0 10 (.var 100)) (.cl 1 10 (.var 100))) (.and (.eq (.cl 0 11 (.var 100)) (.cl 1 11 (.var 100))) (.and (.eq (.cl 0 12 (.var 100)) (.cl 1 12 (.var 100))) (.and (.eq (.cl 0 13 (.var 100)) (.cl 1 13 (.var 100))) (.and (.eq (.cl 0 14 (.var 100)) (.cl 1 14 (.var 100))) (.and (.eq (.cl 0 15 (.var 100)) (.cl 1 15 (.var 100))) (.and (.eq (.cl 0 16 (.var 100)) (.cl 1 16 (.var 100))) (.and (.eq (.cl 0 17 (.var 100)) (.cl 1 17 (.var 100))) (.and (.eq (.cl 0 18 (.var 100)) (.cl 1 18 (.var 100))) (.eq (.cl 0 19 (.var 100)) (.cl 1 19 (.var 100))))))))))))))))))))))) (.ret (.ret, ⟨zFE1_4, [], 21⟩)) (.ret (.normal, ⟨[(5, (.sc (.i .i64 (.op .add .i64 (.var 100) (.lit 1))))), (10, zFE1_0), (9, (.sc (.i .i64 (.var 0)))), (8, zFE1_2), (7, (.sc (.i .i64 (.len 0)))), (6, zFE1_3), (4, (.sc (.b (.lit false)))), (0, zFE1_3), (1, zFE1_2)], [], 23⟩)))) (.ret ((.exit 0), ⟨zFE1_4, [], 11⟩)))
noncomputable def eX : LoopX := ⟨((codeKey eX_c).getD 0), 0, 100, eX_S, eX_i, [], eX_t.outs⟩
theorem eX_run : (codeX (cfgL ([]) (fun _ => [])).ti (callS ⟨(cfgL ([]) (fun _ => [])), l_able, HFL⟩ 12) (((cfgL ([]) (fun _ => [])).ft 30).elim [] (·.ms)) eX.k0 ((fun _ => []) 30) 1000 eX_c eX_Φ eX.S).map (sqz (eX_S.t.map (·.1))) = eX_t := by kernel_rfl
theorem eX_back : eX_t.nrm (okS eX.k0 eX.n eX_b [] eX.S) = true := by kernel_rfl
theorem eX_bel : eX_t.outs.belX 101 = true := by kernel_rfl
theorem eX_ib : eX_i.bel 100 = true := by kernel_rfl
theorem eX_ig : eX_i.ge 100 = true := by kernel_rfl
theorem eX_bg : eX_b.ge 100 = true := by kernel_rfl
theorem eX_same : eX_i.same eX_b = true := by kernel_rfl
theorem eX_Sb : eX_S.bel 101 = true := by kernel_rfl
theorem eX_fits : fitsC Try.f30.ntmps eX_c = true := by kernel_rfl
end Go.Proofs.Ytonefailiekemaa
