/- What functions answer, run over letters, where something is known; each shown by running it. -/
import Derived.Test.YtcllappmhdfffaaXT
import Derived.Test.YtcllappmhdfffaaXLP1
import Derived.Test.YtcllappmhdfffaaXw23
namespace Go.Proofs.Ytcllappmhdfffaa
open Go Go.Proofs.Aw Go.Proofs.Xw
def big0 : Facts := [(.lt (.lit 20000) (.len 0), true)]
def big1 : Facts := [(.lt (.lit 20000) (.len 0), false), (.lt (.lit 20000) (.len 1), true)]
def mergesB0 : T X := (.ret (.sc (.b (.lit true))))
set_option maxRecDepth 100000 in
theorem mergesB0_run : askF ⟨cfg [], l_able14, []⟩ 5 ([.rl 9 (.len 0) (.var 0 kv) false, .rl 3 (.len 1) (.var 1 kdd) false]) big0 = mergesB0 := by kernel_rfl
def mergesB1 : T X := (.ret (.sc (.b (.lit true))))
set_option maxRecDepth 100000 in
theorem mergesB1_run : askF ⟨cfg [], l_able14, []⟩ 5 ([.rl 9 (.len 0) (.var 0 kv) false, .rl 3 (.len 1) (.var 1 kdd) false]) big1 = mergesB1 := by kernel_rfl
end Go.Proofs.Ytcllappmhdfffaa
