/- What functions answer, run over letters, where something is known; each shown by running it. -/
import Derived.Test.YtonefailiekemaaXT
import Derived.Test.YtonefailiekemaaFL2
import Derived.Test.YtonefailiekemaaXwM3
namespace Go.Proofs.Ytonefailiekemaa
open Go Go.Proofs.Aw Go.Proofs.Xw
set_option maxRecDepth 100000
abbrev hf4_ : List Nat := [105,82,106,84,51,11,31,10014,10024,10025,10026,10028,10032,10033,10035,10038,10039,10040,10041,10045,10047,10048,10065,10066,10067,10071,10064,10068,10069,10070,10072,10073,10092,10085]
def vX : X := .agg ((List.range 9).map iV)
def aX : X := .agg [iV 0, iV 1, iV 2]
def bX3 : X := .agg [iV 3, iV 4, iV 5]
abbrev zFL6_0 : BE := .and (.not (.lt (.var 9) (.lit 0))) (.lt (.var 9) (.lit 3))
abbrev zFL6_1 : BE := .eq (.var 9) (.lit 0)
abbrev zFL6_2 : BE := .eq (.var 9) (.lit 1)
def ptP : T X := (.ret (.agg [(.sc (.i .i64 (.ite zFL6_0 (.ite zFL6_1 (.var 0) (.ite zFL6_2 (.var 1) (.var 2))) (.lit 0)))), (.sc (.i .i64 (.ite zFL6_0 (.ite zFL6_1 (.var 3) (.ite zFL6_2 (.var 4) (.var 5))) (.lit 0)))), (.sc (.i .i64 (.ite zFL6_0 (.ite zFL6_1 (.var 6) (.ite zFL6_2 (.var 7) (.var 8))) (.lit 0))))]))
theorem ptP_run : askF ⟨cfg [], l_able, hf4_⟩ 20 ([vX, iV 9]) [] = ptP := by kernel_rfl
def ptD : T X := (.ret (.agg [(.sc (.i .i64 (.ite zFL6_0 (.ite zFL6_1 (.var 0) (.ite zFL6_2 (.var 1) (.var 2))) (.lit 0)))), (.sc (.i .i64 (.ite zFL6_0 (.ite zFL6_1 (.var 3) (.ite zFL6_2 (.var 4) (.var 5))) (.lit 0)))), (.sc (.i .i64 (.ite zFL6_0 (.ite zFL6_1 (.var 6) (.ite zFL6_2 (.var 7) (.var 8))) (.lit 0))))]))
theorem ptD_run : askF ⟨cfg [], l_able, hf4_⟩ 94 ([vX, iV 9]) [] = ptD := by kernel_rfl
def cvP : T X := (.ret (.sc (.b (.not (.or (.lt (.var 0) (.var 3)) (.or (.lt (.var 1) (.var 4)) (.lt (.var 2) (.var 5))))))))
theorem cvP_run : askF ⟨cfg [], l_able, hf4_⟩ 19 ([aX, bX3]) [] = cvP := by kernel_rfl
def cvD : T X := (.ret (.sc (.b (.and (.and (.not (.lt (.var 0) (.var 3))) (.not (.lt (.var 1) (.var 4)))) (.not (.lt (.var 2) (.var 5)))))))
theorem cvD_run : askF ⟨cfg [], l_able, hf4_⟩ 93 ([aX, bX3]) [] = cvD := by kernel_rfl
end Go.Proofs.Ytonefailiekemaa
