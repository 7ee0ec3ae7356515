/- What functions answer, run over letters, where something is known; each shown by running it. -/
import Derived.Test.YtonefailiekemaaXT
import Derived.Test.YtonefailiekemaaFS1
import Derived.Test.YtonefailiekemaaXwM3
namespace Go.Proofs.Ytonefailiekemaa
open Go Go.Proofs.Aw Go.Proofs.Xw
set_option maxRecDepth 100000
abbrev RH : List Nat := [105, 82, 106, 84, 51]
def nds (n : Nat) (j : Bool) : List Nat := (List.range n).map (fun k => 2 + 2 * k) ++ (if j = true then [11] else [])
def pairs : List Nat → List (Nat × Nat)
  | [] => []
  | a :: l => l.map (fun b => (a, b)) ++ pairs l
def ksQ (v : Bool) (n : Nat) (j : Bool) : List (Nat × List X × X) := [(42, [cfgN n j 0], .sc (.b (.lit v))), (89, [cfgN n j 0], .sc (.b (.lit v)))]
def ksV : List (Nat × List X × X) := [(42, [cfgV 0], .sc (.b (.lit false))), (89, [cfgV 0], .sc (.b (.lit false)))]
def fR (n : Nat) (j : Bool) : Facts := [(.lt (.var 0) (.lit 1), false), (.lt (.lit 1099511627776) (.var 0), false)] ++ (nds n j).flatMap (fun k => [(.lt (.var k) (.lit 0), false), (.lt (.lit 3) (.var k), false), (.lt (.var (k + 1)) (.lit 1), false), (.lt (.var 0) (.var (k + 1)), false)]) ++ (pairs (nds n j)).flatMap (fun p => [(.eq (.var p.1) (.var p.2), false)])
/-- A node that is no member's. -/
def fNo (n : Nat) (j : Bool) (m : Nat) : Facts := fR n j ++ (nds n j).map (fun k => (.eq (.var m) (.var k), false))
def f0 : Facts := [(.lt (.var 1) (.lit 1), true)]
def f5 : Facts := [(.lt (.lit 4) (.var 1), true)]
noncomputable abbrev cQ (v : Bool) (n : Nat) (j : Bool) : Cfg := cfgL (ksQ v n j) (fun _ => [])
noncomputable abbrev cV : Cfg := cfgL ksV (fun _ => [])
noncomputable abbrev gQ (v : Bool) (n : Nat) (j : Bool) (f : Nat) (p : List X) (Φ : Facts) : T X := askF ⟨cQ v n j, [], RH⟩ f p Φ
abbrev rQv (n : Nat) : T X := .ret (.sc (.i .i64 (.var n)))
abbrev rQl (n : Int) : T X := .ret (.sc (.i .i64 (.lit n)))
abbrev rQb (b : Bool) : T X := .ret (.sc (.b (.lit b)))
theorem q81_1t_run : gQ true 1 true 81 ([cfgN 1 true 0]) (fR 1 true) = rQv 2 := by kernel_rfl
theorem z81_1t_run : gQ false 1 true 81 ([cfgN 1 true 0]) [] = rQl (-1) := by kernel_rfl
theorem q102_1t_run : gQ true 1 true 102 ([cfgN 1 true 0]) (fR 1 true) = rQv 2 := by kernel_rfl
theorem z102_1t_run : gQ false 1 true 102 ([cfgN 1 true 0]) [] = rQl (-1) := by kernel_rfl
theorem q80_1t_run : gQ true 1 true 80 ([cfgN 1 true 0]) (fR 1 true) = rQv 2 := by kernel_rfl
theorem z80_1t_run : gQ false 1 true 80 ([cfgN 1 true 0]) [] = rQl (-1) := by kernel_rfl
theorem q103_1t_run : gQ true 1 true 103 ([cfgN 1 true 0]) (fR 1 true) = rQv 2 := by kernel_rfl
theorem z103_1t_run : gQ false 1 true 103 ([cfgN 1 true 0]) [] = rQl (-1) := by kernel_rfl
theorem q56_1t2_run : gQ true 1 true 56 ([cfgN 1 true 0, iV 2]) (fR 1 true) = rQl (-1) := by kernel_rfl
theorem q56_1t11_run : gQ true 1 true 56 ([cfgN 1 true 0, iV 11]) (fR 1 true) = rQv 2 := by kernel_rfl
theorem q56_1tx_run : gQ true 1 true 56 ([cfgN 1 true 0, iV 13]) (fNo 1 true 13) = rQl (-1) := by kernel_rfl
theorem z56_1t_run : gQ false 1 true 56 ([cfgN 1 true 0, iV 13]) [] = rQl (-1) := by kernel_rfl
theorem q99_1t2_run : gQ true 1 true 99 ([cfgN 1 true 0, iV 2]) (fR 1 true) = rQl (-1) := by kernel_rfl
theorem q99_1t11_run : gQ true 1 true 99 ([cfgN 1 true 0, iV 11]) (fR 1 true) = rQv 2 := by kernel_rfl
theorem q99_1tx_run : gQ true 1 true 99 ([cfgN 1 true 0, iV 13]) (fNo 1 true 13) = rQl (-1) := by kernel_rfl
theorem z99_1t_run : gQ false 1 true 99 ([cfgN 1 true 0, iV 13]) [] = rQl (-1) := by kernel_rfl
theorem q55_1t2_run : gQ true 1 true 55 ([cfgN 1 true 0, iV 2]) (fR 1 true) = rQv 11 := by kernel_rfl
theorem q55_1t11_run : gQ true 1 true 55 ([cfgN 1 true 0, iV 11]) (fR 1 true) = rQl (-1) := by kernel_rfl
theorem q55_1tx_run : gQ true 1 true 55 ([cfgN 1 true 0, iV 13]) (fNo 1 true 13) = rQl (-1) := by kernel_rfl
theorem z55_1t_run : gQ false 1 true 55 ([cfgN 1 true 0, iV 13]) [] = rQl (-1) := by kernel_rfl
theorem q100_1t2_run : gQ true 1 true 100 ([cfgN 1 true 0, iV 2]) (fR 1 true) = rQv 11 := by kernel_rfl
theorem q100_1t11_run : gQ true 1 true 100 ([cfgN 1 true 0, iV 11]) (fR 1 true) = rQl (-1) := by kernel_rfl
theorem q100_1tx_run : gQ true 1 true 100 ([cfgN 1 true 0, iV 13]) (fNo 1 true 13) = rQl (-1) := by kernel_rfl
theorem z100_1t_run : gQ false 1 true 100 ([cfgN 1 true 0, iV 13]) [] = rQl (-1) := by kernel_rfl
theorem q43_1t2_run : gQ true 1 true 43 ([cfgN 1 true 0, iV 2]) (fR 1 true) = rQv 3 := by kernel_rfl
theorem q43_1t11_run : gQ true 1 true 43 ([cfgN 1 true 0, iV 11]) (fR 1 true) = rQv 12 := by kernel_rfl
theorem q43_1tx_run : gQ true 1 true 43 ([cfgN 1 true 0, iV 13]) (fNo 1 true 13) = rQl (0) := by kernel_rfl
theorem z43_1t_run : gQ false 1 true 43 ([cfgN 1 true 0, iV 13]) [] = rQl (0) := by kernel_rfl
theorem q90_1t2_run : gQ true 1 true 90 ([cfgN 1 true 0, iV 2]) (fR 1 true) = rQv 3 := by kernel_rfl
theorem q90_1t11_run : gQ true 1 true 90 ([cfgN 1 true 0, iV 11]) (fR 1 true) = rQv 12 := by kernel_rfl
theorem q90_1tx_run : gQ true 1 true 90 ([cfgN 1 true 0, iV 13]) (fNo 1 true 13) = rQl (0) := by kernel_rfl
theorem z90_1t_run : gQ false 1 true 90 ([cfgN 1 true 0, iV 13]) [] = rQl (0) := by kernel_rfl
theorem q57_1t2_run : gQ true 1 true 57 ([cfgN 1 true 0, iV 2]) (fR 1 true) = rQb true := by kernel_rfl
theorem q57_1t11_run : gQ true 1 true 57 ([cfgN 1 true 0, iV 11]) (fR 1 true) = rQb false := by kernel_rfl
theorem q57_1tx_run : gQ true 1 true 57 ([cfgN 1 true 0, iV 13]) (fNo 1 true 13) = rQb false := by kernel_rfl
theorem z57_1t_run : gQ false 1 true 57 ([cfgN 1 true 0, iV 13]) [] = rQb false := by kernel_rfl
theorem q101_1t2_run : gQ true 1 true 101 ([cfgN 1 true 0, iV 2]) (fR 1 true) = rQb true := by kernel_rfl
theorem q101_1t11_run : gQ true 1 true 101 ([cfgN 1 true 0, iV 11]) (fR 1 true) = rQb false := by kernel_rfl
theorem q101_1tx_run : gQ true 1 true 101 ([cfgN 1 true 0, iV 13]) (fNo 1 true 13) = rQb false := by kernel_rfl
theorem z101_1t_run : gQ false 1 true 101 ([cfgN 1 true 0, iV 13]) [] = rQb false := by kernel_rfl
theorem q81_1f_run : gQ true 1 false 81 ([cfgN 1 false 0]) (fR 1 false) = rQv 2 := by kernel_rfl
theorem z81_1f_run : gQ false 1 false 81 ([cfgN 1 false 0]) [] = rQl (-1) := by kernel_rfl
theorem q102_1f_run : gQ true 1 false 102 ([cfgN 1 false 0]) (fR 1 false) = rQv 2 := by kernel_rfl
theorem z102_1f_run : gQ false 1 false 102 ([cfgN 1 false 0]) [] = rQl (-1) := by kernel_rfl
theorem q80_1f_run : gQ true 1 false 80 ([cfgN 1 false 0]) (fR 1 false) = rQv 2 := by kernel_rfl
theorem z80_1f_run : gQ false 1 false 80 ([cfgN 1 false 0]) [] = rQl (-1) := by kernel_rfl
theorem q103_1f_run : gQ true 1 false 103 ([cfgN 1 false 0]) (fR 1 false) = rQv 2 := by kernel_rfl
theorem z103_1f_run : gQ false 1 false 103 ([cfgN 1 false 0]) [] = rQl (-1) := by kernel_rfl
theorem q56_1f2_run : gQ true 1 false 56 ([cfgN 1 false 0, iV 2]) (fR 1 false) = rQl (-1) := by kernel_rfl
theorem q56_1fx_run : gQ true 1 false 56 ([cfgN 1 false 0, iV 13]) (fNo 1 false 13) = rQl (-1) := by kernel_rfl
theorem z56_1f_run : gQ false 1 false 56 ([cfgN 1 false 0, iV 13]) [] = rQl (-1) := by kernel_rfl
theorem q99_1f2_run : gQ true 1 false 99 ([cfgN 1 false 0, iV 2]) (fR 1 false) = rQl (-1) := by kernel_rfl
theorem q99_1fx_run : gQ true 1 false 99 ([cfgN 1 false 0, iV 13]) (fNo 1 false 13) = rQl (-1) := by kernel_rfl
theorem z99_1f_run : gQ false 1 false 99 ([cfgN 1 false 0, iV 13]) [] = rQl (-1) := by kernel_rfl
theorem q55_1f2_run : gQ true 1 false 55 ([cfgN 1 false 0, iV 2]) (fR 1 false) = rQl (-1) := by kernel_rfl
theorem q55_1fx_run : gQ true 1 false 55 ([cfgN 1 false 0, iV 13]) (fNo 1 false 13) = rQl (-1) := by kernel_rfl
theorem z55_1f_run : gQ false 1 false 55 ([cfgN 1 false 0, iV 13]) [] = rQl (-1) := by kernel_rfl
theorem q100_1f2_run : gQ true 1 false 100 ([cfgN 1 false 0, iV 2]) (fR 1 false) = rQl (-1) := by kernel_rfl
theorem q100_1fx_run : gQ true 1 false 100 ([cfgN 1 false 0, iV 13]) (fNo 1 false 13) = rQl (-1) := by kernel_rfl
theorem z100_1f_run : gQ false 1 false 100 ([cfgN 1 false 0, iV 13]) [] = rQl (-1) := by kernel_rfl
theorem q43_1f2_run : gQ true 1 false 43 ([cfgN 1 false 0, iV 2]) (fR 1 false) = rQv 3 := by kernel_rfl
theorem q43_1fx_run : gQ true 1 false 43 ([cfgN 1 false 0, iV 13]) (fNo 1 false 13) = rQl (0) := by kernel_rfl
theorem z43_1f_run : gQ false 1 false 43 ([cfgN 1 false 0, iV 13]) [] = rQl (0) := by kernel_rfl
theorem q90_1f2_run : gQ true 1 false 90 ([cfgN 1 false 0, iV 2]) (fR 1 false) = rQv 3 := by kernel_rfl
theorem q90_1fx_run : gQ true 1 false 90 ([cfgN 1 false 0, iV 13]) (fNo 1 false 13) = rQl (0) := by kernel_rfl
theorem z90_1f_run : gQ false 1 false 90 ([cfgN 1 false 0, iV 13]) [] = rQl (0) := by kernel_rfl
theorem q57_1f2_run : gQ true 1 false 57 ([cfgN 1 false 0, iV 2]) (fR 1 false) = rQb true := by kernel_rfl
theorem q57_1fx_run : gQ true 1 false 57 ([cfgN 1 false 0, iV 13]) (fNo 1 false 13) = rQb false := by kernel_rfl
theorem z57_1f_run : gQ false 1 false 57 ([cfgN 1 false 0, iV 13]) [] = rQb false := by kernel_rfl
theorem q101_1f2_run : gQ true 1 false 101 ([cfgN 1 false 0, iV 2]) (fR 1 false) = rQb true := by kernel_rfl
theorem q101_1fx_run : gQ true 1 false 101 ([cfgN 1 false 0, iV 13]) (fNo 1 false 13) = rQb false := by kernel_rfl
theorem z101_1f_run : gQ false 1 false 101 ([cfgN 1 false 0, iV 13]) [] = rQb false := by kernel_rfl
theorem q81_2t_run : gQ true 2 true 81 ([cfgN 2 true 0]) (fR 2 true) = rQv 2 := by kernel_rfl
theorem z81_2t_run : gQ false 2 true 81 ([cfgN 2 true 0]) [] = rQl (-1) := by kernel_rfl
theorem q102_2t_run : gQ true 2 true 102 ([cfgN 2 true 0]) (fR 2 true) = rQv 2 := by kernel_rfl
theorem z102_2t_run : gQ false 2 true 102 ([cfgN 2 true 0]) [] = rQl (-1) := by kernel_rfl
theorem q80_2t_run : gQ true 2 true 80 ([cfgN 2 true 0]) (fR 2 true) = rQv 4 := by kernel_rfl
theorem z80_2t_run : gQ false 2 true 80 ([cfgN 2 true 0]) [] = rQl (-1) := by kernel_rfl
theorem q103_2t_run : gQ true 2 true 103 ([cfgN 2 true 0]) (fR 2 true) = rQv 4 := by kernel_rfl
theorem z103_2t_run : gQ false 2 true 103 ([cfgN 2 true 0]) [] = rQl (-1) := by kernel_rfl
theorem q56_2t2_run : gQ true 2 true 56 ([cfgN 2 true 0, iV 2]) (fR 2 true) = rQl (-1) := by kernel_rfl
theorem q56_2t4_run : gQ true 2 true 56 ([cfgN 2 true 0, iV 4]) (fR 2 true) = rQv 2 := by kernel_rfl
theorem q56_2t11_run : gQ true 2 true 56 ([cfgN 2 true 0, iV 11]) (fR 2 true) = rQv 4 := by kernel_rfl
theorem q56_2tx_run : gQ true 2 true 56 ([cfgN 2 true 0, iV 13]) (fNo 2 true 13) = rQl (-1) := by kernel_rfl
theorem z56_2t_run : gQ false 2 true 56 ([cfgN 2 true 0, iV 13]) [] = rQl (-1) := by kernel_rfl
theorem q99_2t2_run : gQ true 2 true 99 ([cfgN 2 true 0, iV 2]) (fR 2 true) = rQl (-1) := by kernel_rfl
theorem q99_2t4_run : gQ true 2 true 99 ([cfgN 2 true 0, iV 4]) (fR 2 true) = rQv 2 := by kernel_rfl
theorem q99_2t11_run : gQ true 2 true 99 ([cfgN 2 true 0, iV 11]) (fR 2 true) = rQv 4 := by kernel_rfl
theorem q99_2tx_run : gQ true 2 true 99 ([cfgN 2 true 0, iV 13]) (fNo 2 true 13) = rQl (-1) := by kernel_rfl
theorem z99_2t_run : gQ false 2 true 99 ([cfgN 2 true 0, iV 13]) [] = rQl (-1) := by kernel_rfl
theorem q55_2t2_run : gQ true 2 true 55 ([cfgN 2 true 0, iV 2]) (fR 2 true) = rQv 4 := by kernel_rfl
theorem q55_2t4_run : gQ true 2 true 55 ([cfgN 2 true 0, iV 4]) (fR 2 true) = rQv 11 := by kernel_rfl
theorem q55_2t11_run : gQ true 2 true 55 ([cfgN 2 true 0, iV 11]) (fR 2 true) = rQl (-1) := by kernel_rfl
theorem q55_2tx_run : gQ true 2 true 55 ([cfgN 2 true 0, iV 13]) (fNo 2 true 13) = rQl (-1) := by kernel_rfl
theorem z55_2t_run : gQ false 2 true 55 ([cfgN 2 true 0, iV 13]) [] = rQl (-1) := by kernel_rfl
theorem q100_2t2_run : gQ true 2 true 100 ([cfgN 2 true 0, iV 2]) (fR 2 true) = rQv 4 := by kernel_rfl
theorem q100_2t4_run : gQ true 2 true 100 ([cfgN 2 true 0, iV 4]) (fR 2 true) = rQv 11 := by kernel_rfl
theorem q100_2t11_run : gQ true 2 true 100 ([cfgN 2 true 0, iV 11]) (fR 2 true) = rQl (-1) := by kernel_rfl
theorem q100_2tx_run : gQ true 2 true 100 ([cfgN 2 true 0, iV 13]) (fNo 2 true 13) = rQl (-1) := by kernel_rfl
theorem z100_2t_run : gQ false 2 true 100 ([cfgN 2 true 0, iV 13]) [] = rQl (-1) := by kernel_rfl
theorem q43_2t2_run : gQ true 2 true 43 ([cfgN 2 true 0, iV 2]) (fR 2 true) = rQv 3 := by kernel_rfl
theorem q43_2t4_run : gQ true 2 true 43 ([cfgN 2 true 0, iV 4]) (fR 2 true) = rQv 5 := by kernel_rfl
theorem q43_2t11_run : gQ true 2 true 43 ([cfgN 2 true 0, iV 11]) (fR 2 true) = rQv 12 := by kernel_rfl
theorem q43_2tx_run : gQ true 2 true 43 ([cfgN 2 true 0, iV 13]) (fNo 2 true 13) = rQl (0) := by kernel_rfl
theorem z43_2t_run : gQ false 2 true 43 ([cfgN 2 true 0, iV 13]) [] = rQl (0) := by kernel_rfl
theorem q90_2t2_run : gQ true 2 true 90 ([cfgN 2 true 0, iV 2]) (fR 2 true) = rQv 3 := by kernel_rfl
theorem q90_2t4_run : gQ true 2 true 90 ([cfgN 2 true 0, iV 4]) (fR 2 true) = rQv 5 := by kernel_rfl
theorem q90_2t11_run : gQ true 2 true 90 ([cfgN 2 true 0, iV 11]) (fR 2 true) = rQv 12 := by kernel_rfl
theorem q90_2tx_run : gQ true 2 true 90 ([cfgN 2 true 0, iV 13]) (fNo 2 true 13) = rQl (0) := by kernel_rfl
theorem z90_2t_run : gQ false 2 true 90 ([cfgN 2 true 0, iV 13]) [] = rQl (0) := by kernel_rfl
theorem q57_2t2_run : gQ true 2 true 57 ([cfgN 2 true 0, iV 2]) (fR 2 true) = rQb true := by kernel_rfl
theorem q57_2t4_run : gQ true 2 true 57 ([cfgN 2 true 0, iV 4]) (fR 2 true) = rQb true := by kernel_rfl
theorem q57_2t11_run : gQ true 2 true 57 ([cfgN 2 true 0, iV 11]) (fR 2 true) = rQb false := by kernel_rfl
theorem q57_2tx_run : gQ true 2 true 57 ([cfgN 2 true 0, iV 13]) (fNo 2 true 13) = rQb false := by kernel_rfl
theorem z57_2t_run : gQ false 2 true 57 ([cfgN 2 true 0, iV 13]) [] = rQb false := by kernel_rfl
theorem q101_2t2_run : gQ true 2 true 101 ([cfgN 2 true 0, iV 2]) (fR 2 true) = rQb true := by kernel_rfl
theorem q101_2t4_run : gQ true 2 true 101 ([cfgN 2 true 0, iV 4]) (fR 2 true) = rQb true := by kernel_rfl
theorem q101_2t11_run : gQ true 2 true 101 ([cfgN 2 true 0, iV 11]) (fR 2 true) = rQb false := by kernel_rfl
theorem q101_2tx_run : gQ true 2 true 101 ([cfgN 2 true 0, iV 13]) (fNo 2 true 13) = rQb false := by kernel_rfl
theorem z101_2t_run : gQ false 2 true 101 ([cfgN 2 true 0, iV 13]) [] = rQb false := by kernel_rfl
theorem q81_2f_run : gQ true 2 false 81 ([cfgN 2 false 0]) (fR 2 false) = rQv 2 := by kernel_rfl
theorem z81_2f_run : gQ false 2 false 81 ([cfgN 2 false 0]) [] = rQl (-1) := by kernel_rfl
theorem q102_2f_run : gQ true 2 false 102 ([cfgN 2 false 0]) (fR 2 false) = rQv 2 := by kernel_rfl
theorem z102_2f_run : gQ false 2 false 102 ([cfgN 2 false 0]) [] = rQl (-1) := by kernel_rfl
theorem q80_2f_run : gQ true 2 false 80 ([cfgN 2 false 0]) (fR 2 false) = rQv 4 := by kernel_rfl
theorem z80_2f_run : gQ false 2 false 80 ([cfgN 2 false 0]) [] = rQl (-1) := by kernel_rfl
theorem q103_2f_run : gQ true 2 false 103 ([cfgN 2 false 0]) (fR 2 false) = rQv 4 := by kernel_rfl
theorem z103_2f_run : gQ false 2 false 103 ([cfgN 2 false 0]) [] = rQl (-1) := by kernel_rfl
theorem q56_2f2_run : gQ true 2 false 56 ([cfgN 2 false 0, iV 2]) (fR 2 false) = rQl (-1) := by kernel_rfl
theorem q56_2f4_run : gQ true 2 false 56 ([cfgN 2 false 0, iV 4]) (fR 2 false) = rQv 2 := by kernel_rfl
theorem q56_2fx_run : gQ true 2 false 56 ([cfgN 2 false 0, iV 13]) (fNo 2 false 13) = rQl (-1) := by kernel_rfl
theorem z56_2f_run : gQ false 2 false 56 ([cfgN 2 false 0, iV 13]) [] = rQl (-1) := by kernel_rfl
theorem q99_2f2_run : gQ true 2 false 99 ([cfgN 2 false 0, iV 2]) (fR 2 false) = rQl (-1) := by kernel_rfl
theorem q99_2f4_run : gQ true 2 false 99 ([cfgN 2 false 0, iV 4]) (fR 2 false) = rQv 2 := by kernel_rfl
theorem q99_2fx_run : gQ true 2 false 99 ([cfgN 2 false 0, iV 13]) (fNo 2 false 13) = rQl (-1) := by kernel_rfl
theorem z99_2f_run : gQ false 2 false 99 ([cfgN 2 false 0, iV 13]) [] = rQl (-1) := by kernel_rfl
theorem q55_2f2_run : gQ true 2 false 55 ([cfgN 2 false 0, iV 2]) (fR 2 false) = rQv 4 := by kernel_rfl
theorem q55_2f4_run : gQ true 2 false 55 ([cfgN 2 false 0, iV 4]) (fR 2 false) = rQl (-1) := by kernel_rfl
theorem q55_2fx_run : gQ true 2 false 55 ([cfgN 2 false 0, iV 13]) (fNo 2 false 13) = rQl (-1) := by kernel_rfl
theorem z55_2f_run : gQ false 2 false 55 ([cfgN 2 false 0, iV 13]) [] = rQl (-1) := by kernel_rfl
theorem q100_2f2_run : gQ true 2 false 100 ([cfgN 2 false 0, iV 2]) (fR 2 false) = rQv 4 := by kernel_rfl
theorem q100_2f4_run : gQ true 2 false 100 ([cfgN 2 false 0, iV 4]) (fR 2 false) = rQl (-1) := by kernel_rfl
theorem q100_2fx_run : gQ true 2 false 100 ([cfgN 2 false 0, iV 13]) (fNo 2 false 13) = rQl (-1) := by kernel_rfl
theorem z100_2f_run : gQ false 2 false 100 ([cfgN 2 false 0, iV 13]) [] = rQl (-1) := by kernel_rfl
theorem q43_2f2_run : gQ true 2 false 43 ([cfgN 2 false 0, iV 2]) (fR 2 false) = rQv 3 := by kernel_rfl
theorem q43_2f4_run : gQ true 2 false 43 ([cfgN 2 false 0, iV 4]) (fR 2 false) = rQv 5 := by kernel_rfl
theorem q43_2fx_run : gQ true 2 false 43 ([cfgN 2 false 0, iV 13]) (fNo 2 false 13) = rQl (0) := by kernel_rfl
theorem z43_2f_run : gQ false 2 false 43 ([cfgN 2 false 0, iV 13]) [] = rQl (0) := by kernel_rfl
theorem q90_2f2_run : gQ true 2 false 90 ([cfgN 2 false 0, iV 2]) (fR 2 false) = rQv 3 := by kernel_rfl
theorem q90_2f4_run : gQ true 2 false 90 ([cfgN 2 false 0, iV 4]) (fR 2 false) = rQv 5 := by kernel_rfl
theorem q90_2fx_run : gQ true 2 false 90 ([cfgN 2 false 0, iV 13]) (fNo 2 false 13) = rQl (0) := by kernel_rfl
theorem z90_2f_run : gQ false 2 false 90 ([cfgN 2 false 0, iV 13]) [] = rQl (0) := by kernel_rfl
theorem q57_2f2_run : gQ true 2 false 57 ([cfgN 2 false 0, iV 2]) (fR 2 false) = rQb true := by kernel_rfl
theorem q57_2f4_run : gQ true 2 false 57 ([cfgN 2 false 0, iV 4]) (fR 2 false) = rQb true := by kernel_rfl
theorem q57_2fx_run : gQ true 2 false 57 ([cfgN 2 false 0, iV 13]) (fNo 2 false 13) = rQb false := by kernel_rfl
theorem z57_2f_run : gQ false 2 false 57 ([cfgN 2 false 0, iV 13]) [] = rQb false := by kernel_rfl
theorem q101_2f2_run : gQ true 2 false 101 ([cfgN 2 false 0, iV 2]) (fR 2 false) = rQb true := by kernel_rfl
theorem q101_2f4_run : gQ true 2 false 101 ([cfgN 2 false 0, iV 4]) (fR 2 false) = rQb true := by kernel_rfl
theorem q101_2fx_run : gQ true 2 false 101 ([cfgN 2 false 0, iV 13]) (fNo 2 false 13) = rQb false := by kernel_rfl
theorem z101_2f_run : gQ false 2 false 101 ([cfgN 2 false 0, iV 13]) [] = rQb false := by kernel_rfl
theorem q81_3t_run : gQ true 3 true 81 ([cfgN 3 true 0]) (fR 3 true) = rQv 2 := by kernel_rfl
theorem z81_3t_run : gQ false 3 true 81 ([cfgN 3 true 0]) [] = rQl (-1) := by kernel_rfl
theorem q102_3t_run : gQ true 3 true 102 ([cfgN 3 true 0]) (fR 3 true) = rQv 2 := by kernel_rfl
theorem z102_3t_run : gQ false 3 true 102 ([cfgN 3 true 0]) [] = rQl (-1) := by kernel_rfl
theorem q80_3t_run : gQ true 3 true 80 ([cfgN 3 true 0]) (fR 3 true) = rQv 6 := by kernel_rfl
theorem z80_3t_run : gQ false 3 true 80 ([cfgN 3 true 0]) [] = rQl (-1) := by kernel_rfl
theorem q103_3t_run : gQ true 3 true 103 ([cfgN 3 true 0]) (fR 3 true) = rQv 6 := by kernel_rfl
theorem z103_3t_run : gQ false 3 true 103 ([cfgN 3 true 0]) [] = rQl (-1) := by kernel_rfl
theorem q56_3t2_run : gQ true 3 true 56 ([cfgN 3 true 0, iV 2]) (fR 3 true) = rQl (-1) := by kernel_rfl
theorem q56_3t4_run : gQ true 3 true 56 ([cfgN 3 true 0, iV 4]) (fR 3 true) = rQv 2 := by kernel_rfl
theorem q56_3t6_run : gQ true 3 true 56 ([cfgN 3 true 0, iV 6]) (fR 3 true) = rQv 4 := by kernel_rfl
theorem q56_3t11_run : gQ true 3 true 56 ([cfgN 3 true 0, iV 11]) (fR 3 true) = rQv 6 := by kernel_rfl
theorem q56_3tx_run : gQ true 3 true 56 ([cfgN 3 true 0, iV 13]) (fNo 3 true 13) = rQl (-1) := by kernel_rfl
theorem z56_3t_run : gQ false 3 true 56 ([cfgN 3 true 0, iV 13]) [] = rQl (-1) := by kernel_rfl
theorem q99_3t2_run : gQ true 3 true 99 ([cfgN 3 true 0, iV 2]) (fR 3 true) = rQl (-1) := by kernel_rfl
theorem q99_3t4_run : gQ true 3 true 99 ([cfgN 3 true 0, iV 4]) (fR 3 true) = rQv 2 := by kernel_rfl
theorem q99_3t6_run : gQ true 3 true 99 ([cfgN 3 true 0, iV 6]) (fR 3 true) = rQv 4 := by kernel_rfl
theorem q99_3t11_run : gQ true 3 true 99 ([cfgN 3 true 0, iV 11]) (fR 3 true) = rQv 6 := by kernel_rfl
theorem q99_3tx_run : gQ true 3 true 99 ([cfgN 3 true 0, iV 13]) (fNo 3 true 13) = rQl (-1) := by kernel_rfl
theorem z99_3t_run : gQ false 3 true 99 ([cfgN 3 true 0, iV 13]) [] = rQl (-1) := by kernel_rfl
theorem q55_3t2_run : gQ true 3 true 55 ([cfgN 3 true 0, iV 2]) (fR 3 true) = rQv 4 := by kernel_rfl
theorem q55_3t4_run : gQ true 3 true 55 ([cfgN 3 true 0, iV 4]) (fR 3 true) = rQv 6 := by kernel_rfl
theorem q55_3t6_run : gQ true 3 true 55 ([cfgN 3 true 0, iV 6]) (fR 3 true) = rQv 11 := by kernel_rfl
theorem q55_3t11_run : gQ true 3 true 55 ([cfgN 3 true 0, iV 11]) (fR 3 true) = rQl (-1) := by kernel_rfl
theorem q55_3tx_run : gQ true 3 true 55 ([cfgN 3 true 0, iV 13]) (fNo 3 true 13) = rQl (-1) := by kernel_rfl
theorem z55_3t_run : gQ false 3 true 55 ([cfgN 3 true 0, iV 13]) [] = rQl (-1) := by kernel_rfl
theorem q100_3t2_run : gQ true 3 true 100 ([cfgN 3 true 0, iV 2]) (fR 3 true) = rQv 4 := by kernel_rfl
theorem q100_3t4_run : gQ true 3 true 100 ([cfgN 3 true 0, iV 4]) (fR 3 true) = rQv 6 := by kernel_rfl
theorem q100_3t6_run : gQ true 3 true 100 ([cfgN 3 true 0, iV 6]) (fR 3 true) = rQv 11 := by kernel_rfl
theorem q100_3t11_run : gQ true 3 true 100 ([cfgN 3 true 0, iV 11]) (fR 3 true) = rQl (-1) := by kernel_rfl
theorem q100_3tx_run : gQ true 3 true 100 ([cfgN 3 true 0, iV 13]) (fNo 3 true 13) = rQl (-1) := by kernel_rfl
theorem z100_3t_run : gQ false 3 true 100 ([cfgN 3 true 0, iV 13]) [] = rQl (-1) := by kernel_rfl
theorem q43_3t2_run : gQ true 3 true 43 ([cfgN 3 true 0, iV 2]) (fR 3 true) = rQv 3 := by kernel_rfl
theorem q43_3t4_run : gQ true 3 true 43 ([cfgN 3 true 0, iV 4]) (fR 3 true) = rQv 5 := by kernel_rfl
theorem q43_3t6_run : gQ true 3 true 43 ([cfgN 3 true 0, iV 6]) (fR 3 true) = rQv 7 := by kernel_rfl
theorem q43_3t11_run : gQ true 3 true 43 ([cfgN 3 true 0, iV 11]) (fR 3 true) = rQv 12 := by kernel_rfl
theorem q43_3tx_run : gQ true 3 true 43 ([cfgN 3 true 0, iV 13]) (fNo 3 true 13) = rQl (0) := by kernel_rfl
theorem z43_3t_run : gQ false 3 true 43 ([cfgN 3 true 0, iV 13]) [] = rQl (0) := by kernel_rfl
theorem q90_3t2_run : gQ true 3 true 90 ([cfgN 3 true 0, iV 2]) (fR 3 true) = rQv 3 := by kernel_rfl
theorem q90_3t4_run : gQ true 3 true 90 ([cfgN 3 true 0, iV 4]) (fR 3 true) = rQv 5 := by kernel_rfl
theorem q90_3t6_run : gQ true 3 true 90 ([cfgN 3 true 0, iV 6]) (fR 3 true) = rQv 7 := by kernel_rfl
theorem q90_3t11_run : gQ true 3 true 90 ([cfgN 3 true 0, iV 11]) (fR 3 true) = rQv 12 := by kernel_rfl
theorem q90_3tx_run : gQ true 3 true 90 ([cfgN 3 true 0, iV 13]) (fNo 3 true 13) = rQl (0) := by kernel_rfl
theorem z90_3t_run : gQ false 3 true 90 ([cfgN 3 true 0, iV 13]) [] = rQl (0) := by kernel_rfl
theorem q57_3t2_run : gQ true 3 true 57 ([cfgN 3 true 0, iV 2]) (fR 3 true) = rQb true := by kernel_rfl
theorem q57_3t4_run : gQ true 3 true 57 ([cfgN 3 true 0, iV 4]) (fR 3 true) = rQb true := by kernel_rfl
theorem q57_3t6_run : gQ true 3 true 57 ([cfgN 3 true 0, iV 6]) (fR 3 true) = rQb true := by kernel_rfl
theorem q57_3t11_run : gQ true 3 true 57 ([cfgN 3 true 0, iV 11]) (fR 3 true) = rQb false := by kernel_rfl
theorem q57_3tx_run : gQ true 3 true 57 ([cfgN 3 true 0, iV 13]) (fNo 3 true 13) = rQb false := by kernel_rfl
theorem z57_3t_run : gQ false 3 true 57 ([cfgN 3 true 0, iV 13]) [] = rQb false := by kernel_rfl
theorem q101_3t2_run : gQ true 3 true 101 ([cfgN 3 true 0, iV 2]) (fR 3 true) = rQb true := by kernel_rfl
theorem q101_3t4_run : gQ true 3 true 101 ([cfgN 3 true 0, iV 4]) (fR 3 true) = rQb true := by kernel_rfl
theorem q101_3t6_run : gQ true 3 true 101 ([cfgN 3 true 0, iV 6]) (fR 3 true) = rQb true := by kernel_rfl
theorem q101_3t11_run : gQ true 3 true 101 ([cfgN 3 true 0, iV 11]) (fR 3 true) = rQb false := by kernel_rfl
theorem q101_3tx_run : gQ true 3 true 101 ([cfgN 3 true 0, iV 13]) (fNo 3 true 13) = rQb false := by kernel_rfl
theorem z101_3t_run : gQ false 3 true 101 ([cfgN 3 true 0, iV 13]) [] = rQb false := by kernel_rfl
theorem q81_3f_run : gQ true 3 false 81 ([cfgN 3 false 0]) (fR 3 false) = rQv 2 := by kernel_rfl
theorem z81_3f_run : gQ false 3 false 81 ([cfgN 3 false 0]) [] = rQl (-1) := by kernel_rfl
theorem q102_3f_run : gQ true 3 false 102 ([cfgN 3 false 0]) (fR 3 false) = rQv 2 := by kernel_rfl
theorem z102_3f_run : gQ false 3 false 102 ([cfgN 3 false 0]) [] = rQl (-1) := by kernel_rfl
theorem q80_3f_run : gQ true 3 false 80 ([cfgN 3 false 0]) (fR 3 false) = rQv 6 := by kernel_rfl
theorem z80_3f_run : gQ false 3 false 80 ([cfgN 3 false 0]) [] = rQl (-1) := by kernel_rfl
theorem q103_3f_run : gQ true 3 false 103 ([cfgN 3 false 0]) (fR 3 false) = rQv 6 := by kernel_rfl
theorem z103_3f_run : gQ false 3 false 103 ([cfgN 3 false 0]) [] = rQl (-1) := by kernel_rfl
theorem q56_3f2_run : gQ true 3 false 56 ([cfgN 3 false 0, iV 2]) (fR 3 false) = rQl (-1) := by kernel_rfl
theorem q56_3f4_run : gQ true 3 false 56 ([cfgN 3 false 0, iV 4]) (fR 3 false) = rQv 2 := by kernel_rfl
theorem q56_3f6_run : gQ true 3 false 56 ([cfgN 3 false 0, iV 6]) (fR 3 false) = rQv 4 := by kernel_rfl
theorem q56_3fx_run : gQ true 3 false 56 ([cfgN 3 false 0, iV 13]) (fNo 3 false 13) = rQl (-1) := by kernel_rfl
theorem z56_3f_run : gQ false 3 false 56 ([cfgN 3 false 0, iV 13]) [] = rQl (-1) := by kernel_rfl
theorem q99_3f2_run : gQ true 3 false 99 ([cfgN 3 false 0, iV 2]) (fR 3 false) = rQl (-1) := by kernel_rfl
theorem q99_3f4_run : gQ true 3 false 99 ([cfgN 3 false 0, iV 4]) (fR 3 false) = rQv 2 := by kernel_rfl
theorem q99_3f6_run : gQ true 3 false 99 ([cfgN 3 false 0, iV 6]) (fR 3 false) = rQv 4 := by kernel_rfl
theorem q99_3fx_run : gQ true 3 false 99 ([cfgN 3 false 0, iV 13]) (fNo 3 false 13) = rQl (-1) := by kernel_rfl
theorem z99_3f_run : gQ false 3 false 99 ([cfgN 3 false 0, iV 13]) [] = rQl (-1) := by kernel_rfl
theorem q55_3f2_run : gQ true 3 false 55 ([cfgN 3 false 0, iV 2]) (fR 3 false) = rQv 4 := by kernel_rfl
theorem q55_3f4_run : gQ true 3 false 55 ([cfgN 3 false 0, iV 4]) (fR 3 false) = rQv 6 := by kernel_rfl
theorem q55_3f6_run : gQ true 3 false 55 ([cfgN 3 false 0, iV 6]) (fR 3 false) = rQl (-1) := by kernel_rfl
theorem q55_3fx_run : gQ true 3 false 55 ([cfgN 3 false 0, iV 13]) (fNo 3 false 13) = rQl (-1) := by kernel_rfl
theorem z55_3f_run : gQ false 3 false 55 ([cfgN 3 false 0, iV 13]) [] = rQl (-1) := by kernel_rfl
theorem q100_3f2_run : gQ true 3 false 100 ([cfgN 3 false 0, iV 2]) (fR 3 false) = rQv 4 := by kernel_rfl
theorem q100_3f4_run : gQ true 3 false 100 ([cfgN 3 false 0, iV 4]) (fR 3 false) = rQv 6 := by kernel_rfl
theorem q100_3f6_run : gQ true 3 false 100 ([cfgN 3 false 0, iV 6]) (fR 3 false) = rQl (-1) := by kernel_rfl
theorem q100_3fx_run : gQ true 3 false 100 ([cfgN 3 false 0, iV 13]) (fNo 3 false 13) = rQl (-1) := by kernel_rfl
theorem z100_3f_run : gQ false 3 false 100 ([cfgN 3 false 0, iV 13]) [] = rQl (-1) := by kernel_rfl
theorem q43_3f2_run : gQ true 3 false 43 ([cfgN 3 false 0, iV 2]) (fR 3 false) = rQv 3 := by kernel_rfl
theorem q43_3f4_run : gQ true 3 false 43 ([cfgN 3 false 0, iV 4]) (fR 3 false) = rQv 5 := by kernel_rfl
theorem q43_3f6_run : gQ true 3 false 43 ([cfgN 3 false 0, iV 6]) (fR 3 false) = rQv 7 := by kernel_rfl
theorem q43_3fx_run : gQ true 3 false 43 ([cfgN 3 false 0, iV 13]) (fNo 3 false 13) = rQl (0) := by kernel_rfl
theorem z43_3f_run : gQ false 3 false 43 ([cfgN 3 false 0, iV 13]) [] = rQl (0) := by kernel_rfl
theorem q90_3f2_run : gQ true 3 false 90 ([cfgN 3 false 0, iV 2]) (fR 3 false) = rQv 3 := by kernel_rfl
theorem q90_3f4_run : gQ true 3 false 90 ([cfgN 3 false 0, iV 4]) (fR 3 false) = rQv 5 := by kernel_rfl
theorem q90_3f6_run : gQ true 3 false 90 ([cfgN 3 false 0, iV 6]) (fR 3 false) = rQv 7 := by kernel_rfl
theorem q90_3fx_run : gQ true 3 false 90 ([cfgN 3 false 0, iV 13]) (fNo 3 false 13) = rQl (0) := by kernel_rfl
theorem z90_3f_run : gQ false 3 false 90 ([cfgN 3 false 0, iV 13]) [] = rQl (0) := by kernel_rfl
theorem q57_3f2_run : gQ true 3 false 57 ([cfgN 3 false 0, iV 2]) (fR 3 false) = rQb true := by kernel_rfl
theorem q57_3f4_run : gQ true 3 false 57 ([cfgN 3 false 0, iV 4]) (fR 3 false) = rQb true := by kernel_rfl
theorem q57_3f6_run : gQ true 3 false 57 ([cfgN 3 false 0, iV 6]) (fR 3 false) = rQb true := by kernel_rfl
theorem q57_3fx_run : gQ true 3 false 57 ([cfgN 3 false 0, iV 13]) (fNo 3 false 13) = rQb false := by kernel_rfl
theorem z57_3f_run : gQ false 3 false 57 ([cfgN 3 false 0, iV 13]) [] = rQb false := by kernel_rfl
theorem q101_3f2_run : gQ true 3 false 101 ([cfgN 3 false 0, iV 2]) (fR 3 false) = rQb true := by kernel_rfl
theorem q101_3f4_run : gQ true 3 false 101 ([cfgN 3 false 0, iV 4]) (fR 3 false) = rQb true := by kernel_rfl
theorem q101_3f6_run : gQ true 3 false 101 ([cfgN 3 false 0, iV 6]) (fR 3 false) = rQb true := by kernel_rfl
theorem q101_3fx_run : gQ true 3 false 101 ([cfgN 3 false 0, iV 13]) (fNo 3 false 13) = rQb false := by kernel_rfl
theorem z101_3f_run : gQ false 3 false 101 ([cfgN 3 false 0, iV 13]) [] = rQb false := by kernel_rfl
theorem z81_4t_run : gQ false 4 true 81 ([cfgN 4 true 0]) [] = rQl (-1) := by kernel_rfl
theorem z102_4t_run : gQ false 4 true 102 ([cfgN 4 true 0]) [] = rQl (-1) := by kernel_rfl
theorem z80_4t_run : gQ false 4 true 80 ([cfgN 4 true 0]) [] = rQl (-1) := by kernel_rfl
theorem z103_4t_run : gQ false 4 true 103 ([cfgN 4 true 0]) [] = rQl (-1) := by kernel_rfl
theorem z56_4t_run : gQ false 4 true 56 ([cfgN 4 true 0, iV 13]) [] = rQl (-1) := by kernel_rfl
theorem z99_4t_run : gQ false 4 true 99 ([cfgN 4 true 0, iV 13]) [] = rQl (-1) := by kernel_rfl
theorem z55_4t_run : gQ false 4 true 55 ([cfgN 4 true 0, iV 13]) [] = rQl (-1) := by kernel_rfl
theorem z100_4t_run : gQ false 4 true 100 ([cfgN 4 true 0, iV 13]) [] = rQl (-1) := by kernel_rfl
theorem z43_4t_run : gQ false 4 true 43 ([cfgN 4 true 0, iV 13]) [] = rQl (0) := by kernel_rfl
theorem z90_4t_run : gQ false 4 true 90 ([cfgN 4 true 0, iV 13]) [] = rQl (0) := by kernel_rfl
theorem z57_4t_run : gQ false 4 true 57 ([cfgN 4 true 0, iV 13]) [] = rQb false := by kernel_rfl
theorem z101_4t_run : gQ false 4 true 101 ([cfgN 4 true 0, iV 13]) [] = rQb false := by kernel_rfl
theorem q81_4f_run : gQ true 4 false 81 ([cfgN 4 false 0]) (fR 4 false) = rQv 2 := by kernel_rfl
theorem z81_4f_run : gQ false 4 false 81 ([cfgN 4 false 0]) [] = rQl (-1) := by kernel_rfl
theorem q102_4f_run : gQ true 4 false 102 ([cfgN 4 false 0]) (fR 4 false) = rQv 2 := by kernel_rfl
theorem z102_4f_run : gQ false 4 false 102 ([cfgN 4 false 0]) [] = rQl (-1) := by kernel_rfl
theorem q80_4f_run : gQ true 4 false 80 ([cfgN 4 false 0]) (fR 4 false) = rQv 8 := by kernel_rfl
theorem z80_4f_run : gQ false 4 false 80 ([cfgN 4 false 0]) [] = rQl (-1) := by kernel_rfl
theorem q103_4f_run : gQ true 4 false 103 ([cfgN 4 false 0]) (fR 4 false) = rQv 8 := by kernel_rfl
theorem z103_4f_run : gQ false 4 false 103 ([cfgN 4 false 0]) [] = rQl (-1) := by kernel_rfl
theorem q56_4f2_run : gQ true 4 false 56 ([cfgN 4 false 0, iV 2]) (fR 4 false) = rQl (-1) := by kernel_rfl
theorem q56_4f4_run : gQ true 4 false 56 ([cfgN 4 false 0, iV 4]) (fR 4 false) = rQv 2 := by kernel_rfl
theorem q56_4f6_run : gQ true 4 false 56 ([cfgN 4 false 0, iV 6]) (fR 4 false) = rQv 4 := by kernel_rfl
theorem q56_4f8_run : gQ true 4 false 56 ([cfgN 4 false 0, iV 8]) (fR 4 false) = rQv 6 := by kernel_rfl
theorem q56_4fx_run : gQ true 4 false 56 ([cfgN 4 false 0, iV 13]) (fNo 4 false 13) = rQl (-1) := by kernel_rfl
theorem z56_4f_run : gQ false 4 false 56 ([cfgN 4 false 0, iV 13]) [] = rQl (-1) := by kernel_rfl
theorem q99_4f2_run : gQ true 4 false 99 ([cfgN 4 false 0, iV 2]) (fR 4 false) = rQl (-1) := by kernel_rfl
theorem q99_4f4_run : gQ true 4 false 99 ([cfgN 4 false 0, iV 4]) (fR 4 false) = rQv 2 := by kernel_rfl
theorem q99_4f6_run : gQ true 4 false 99 ([cfgN 4 false 0, iV 6]) (fR 4 false) = rQv 4 := by kernel_rfl
theorem q99_4f8_run : gQ true 4 false 99 ([cfgN 4 false 0, iV 8]) (fR 4 false) = rQv 6 := by kernel_rfl
theorem q99_4fx_run : gQ true 4 false 99 ([cfgN 4 false 0, iV 13]) (fNo 4 false 13) = rQl (-1) := by kernel_rfl
theorem z99_4f_run : gQ false 4 false 99 ([cfgN 4 false 0, iV 13]) [] = rQl (-1) := by kernel_rfl
theorem q55_4f2_run : gQ true 4 false 55 ([cfgN 4 false 0, iV 2]) (fR 4 false) = rQv 4 := by kernel_rfl
theorem q55_4f4_run : gQ true 4 false 55 ([cfgN 4 false 0, iV 4]) (fR 4 false) = rQv 6 := by kernel_rfl
theorem q55_4f6_run : gQ true 4 false 55 ([cfgN 4 false 0, iV 6]) (fR 4 false) = rQv 8 := by kernel_rfl
theorem q55_4f8_run : gQ true 4 false 55 ([cfgN 4 false 0, iV 8]) (fR 4 false) = rQl (-1) := by kernel_rfl
theorem q55_4fx_run : gQ true 4 false 55 ([cfgN 4 false 0, iV 13]) (fNo 4 false 13) = rQl (-1) := by kernel_rfl
theorem z55_4f_run : gQ false 4 false 55 ([cfgN 4 false 0, iV 13]) [] = rQl (-1) := by kernel_rfl
theorem q100_4f2_run : gQ true 4 false 100 ([cfgN 4 false 0, iV 2]) (fR 4 false) = rQv 4 := by kernel_rfl
theorem q100_4f4_run : gQ true 4 false 100 ([cfgN 4 false 0, iV 4]) (fR 4 false) = rQv 6 := by kernel_rfl
theorem q100_4f6_run : gQ true 4 false 100 ([cfgN 4 false 0, iV 6]) (fR 4 false) = rQv 8 := by kernel_rfl
theorem q100_4f8_run : gQ true 4 false 100 ([cfgN 4 false 0, iV 8]) (fR 4 false) = rQl (-1) := by kernel_rfl
theorem q100_4fx_run : gQ true 4 false 100 ([cfgN 4 false 0, iV 13]) (fNo 4 false 13) = rQl (-1) := by kernel_rfl
theorem z100_4f_run : gQ false 4 false 100 ([cfgN 4 false 0, iV 13]) [] = rQl (-1) := by kernel_rfl
theorem q43_4f2_run : gQ true 4 false 43 ([cfgN 4 false 0, iV 2]) (fR 4 false) = rQv 3 := by kernel_rfl
theorem q43_4f4_run : gQ true 4 false 43 ([cfgN 4 false 0, iV 4]) (fR 4 false) = rQv 5 := by kernel_rfl
theorem q43_4f6_run : gQ true 4 false 43 ([cfgN 4 false 0, iV 6]) (fR 4 false) = rQv 7 := by kernel_rfl
theorem q43_4f8_run : gQ true 4 false 43 ([cfgN 4 false 0, iV 8]) (fR 4 false) = rQv 9 := by kernel_rfl
theorem q43_4fx_run : gQ true 4 false 43 ([cfgN 4 false 0, iV 13]) (fNo 4 false 13) = rQl (0) := by kernel_rfl
theorem z43_4f_run : gQ false 4 false 43 ([cfgN 4 false 0, iV 13]) [] = rQl (0) := by kernel_rfl
theorem q90_4f2_run : gQ true 4 false 90 ([cfgN 4 false 0, iV 2]) (fR 4 false) = rQv 3 := by kernel_rfl
theorem q90_4f4_run : gQ true 4 false 90 ([cfgN 4 false 0, iV 4]) (fR 4 false) = rQv 5 := by kernel_rfl
theorem q90_4f6_run : gQ true 4 false 90 ([cfgN 4 false 0, iV 6]) (fR 4 false) = rQv 7 := by kernel_rfl
theorem q90_4f8_run : gQ true 4 false 90 ([cfgN 4 false 0, iV 8]) (fR 4 false) = rQv 9 := by kernel_rfl
theorem q90_4fx_run : gQ true 4 false 90 ([cfgN 4 false 0, iV 13]) (fNo 4 false 13) = rQl (0) := by kernel_rfl
theorem z90_4f_run : gQ false 4 false 90 ([cfgN 4 false 0, iV 13]) [] = rQl (0) := by kernel_rfl
theorem q57_4f2_run : gQ true 4 false 57 ([cfgN 4 false 0, iV 2]) (fR 4 false) = rQb true := by kernel_rfl
theorem q57_4f4_run : gQ true 4 false 57 ([cfgN 4 false 0, iV 4]) (fR 4 false) = rQb true := by kernel_rfl
theorem q57_4f6_run : gQ true 4 false 57 ([cfgN 4 false 0, iV 6]) (fR 4 false) = rQb true := by kernel_rfl
theorem q57_4f8_run : gQ true 4 false 57 ([cfgN 4 false 0, iV 8]) (fR 4 false) = rQb true := by kernel_rfl
theorem q57_4fx_run : gQ true 4 false 57 ([cfgN 4 false 0, iV 13]) (fNo 4 false 13) = rQb false := by kernel_rfl
theorem z57_4f_run : gQ false 4 false 57 ([cfgN 4 false 0, iV 13]) [] = rQb false := by kernel_rfl
theorem q101_4f2_run : gQ true 4 false 101 ([cfgN 4 false 0, iV 2]) (fR 4 false) = rQb true := by kernel_rfl
theorem q101_4f4_run : gQ true 4 false 101 ([cfgN 4 false 0, iV 4]) (fR 4 false) = rQb true := by kernel_rfl
theorem q101_4f6_run : gQ true 4 false 101 ([cfgN 4 false 0, iV 6]) (fR 4 false) = rQb true := by kernel_rfl
theorem q101_4f8_run : gQ true 4 false 101 ([cfgN 4 false 0, iV 8]) (fR 4 false) = rQb true := by kernel_rfl
theorem q101_4fx_run : gQ true 4 false 101 ([cfgN 4 false 0, iV 13]) (fNo 4 false 13) = rQb false := by kernel_rfl
theorem z101_4f_run : gQ false 4 false 101 ([cfgN 4 false 0, iV 13]) [] = rQb false := by kernel_rfl
theorem y81_0_run : askF ⟨cV, [], RH⟩ 81 ([cfgV 0]) f0 = rQl (-1) := by kernel_rfl
theorem y102_0_run : askF ⟨cV, [], RH⟩ 102 ([cfgV 0]) f0 = rQl (-1) := by kernel_rfl
theorem y80_0_run : askF ⟨cV, [], RH⟩ 80 ([cfgV 0]) f0 = rQl (-1) := by kernel_rfl
theorem y103_0_run : askF ⟨cV, [], RH⟩ 103 ([cfgV 0]) f0 = rQl (-1) := by kernel_rfl
theorem y56_0_run : askF ⟨cV, [], RH⟩ 56 ([cfgV 0, iV 13]) f0 = rQl (-1) := by kernel_rfl
theorem y99_0_run : askF ⟨cV, [], RH⟩ 99 ([cfgV 0, iV 13]) f0 = rQl (-1) := by kernel_rfl
theorem y55_0_run : askF ⟨cV, [], RH⟩ 55 ([cfgV 0, iV 13]) f0 = rQl (-1) := by kernel_rfl
theorem y100_0_run : askF ⟨cV, [], RH⟩ 100 ([cfgV 0, iV 13]) f0 = rQl (-1) := by kernel_rfl
theorem y43_0_run : askF ⟨cV, [], RH⟩ 43 ([cfgV 0, iV 13]) f0 = rQl (0) := by kernel_rfl
theorem y90_0_run : askF ⟨cV, [], RH⟩ 90 ([cfgV 0, iV 13]) f0 = rQl (0) := by kernel_rfl
theorem y57_0_run : askF ⟨cV, [], RH⟩ 57 ([cfgV 0, iV 13]) f0 = rQb false := by kernel_rfl
theorem y101_0_run : askF ⟨cV, [], RH⟩ 101 ([cfgV 0, iV 13]) f0 = rQb false := by kernel_rfl
theorem y42_0_run : askF ⟨cfg [], [], RH⟩ 42 ([cfgV 0]) f0 = rQb false := by kernel_rfl
theorem y89_0_run : askF ⟨cfg [], [], RH⟩ 89 ([cfgV 0]) f0 = rQb false := by kernel_rfl
theorem y81_5_run : askF ⟨cV, [], RH⟩ 81 ([cfgV 0]) f5 = rQl (-1) := by kernel_rfl
theorem y102_5_run : askF ⟨cV, [], RH⟩ 102 ([cfgV 0]) f5 = rQl (-1) := by kernel_rfl
theorem y80_5_run : askF ⟨cV, [], RH⟩ 80 ([cfgV 0]) f5 = rQl (-1) := by kernel_rfl
theorem y103_5_run : askF ⟨cV, [], RH⟩ 103 ([cfgV 0]) f5 = rQl (-1) := by kernel_rfl
theorem y56_5_run : askF ⟨cV, [], RH⟩ 56 ([cfgV 0, iV 13]) f5 = rQl (-1) := by kernel_rfl
theorem y99_5_run : askF ⟨cV, [], RH⟩ 99 ([cfgV 0, iV 13]) f5 = rQl (-1) := by kernel_rfl
theorem y55_5_run : askF ⟨cV, [], RH⟩ 55 ([cfgV 0, iV 13]) f5 = rQl (-1) := by kernel_rfl
theorem y100_5_run : askF ⟨cV, [], RH⟩ 100 ([cfgV 0, iV 13]) f5 = rQl (-1) := by kernel_rfl
theorem y43_5_run : askF ⟨cV, [], RH⟩ 43 ([cfgV 0, iV 13]) f5 = rQl (0) := by kernel_rfl
theorem y90_5_run : askF ⟨cV, [], RH⟩ 90 ([cfgV 0, iV 13]) f5 = rQl (0) := by kernel_rfl
theorem y57_5_run : askF ⟨cV, [], RH⟩ 57 ([cfgV 0, iV 13]) f5 = rQb false := by kernel_rfl
theorem y101_5_run : askF ⟨cV, [], RH⟩ 101 ([cfgV 0, iV 13]) f5 = rQb false := by kernel_rfl
theorem y42_5_run : askF ⟨cfg [], [], RH⟩ 42 ([cfgV 0]) f5 = rQb false := by kernel_rfl
theorem y89_5_run : askF ⟨cfg [], [], RH⟩ 89 ([cfgV 0]) f5 = rQb false := by kernel_rfl
end Go.Proofs.Ytonefailiekemaa
