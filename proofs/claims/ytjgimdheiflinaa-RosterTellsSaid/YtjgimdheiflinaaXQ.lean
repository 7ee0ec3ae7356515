/- Roster: patterns and facts of the runs. -/
import Derived.Test.YtjgimdheiflinaaXA1
namespace Go.Proofs.Ytjgimdheiflinaa
open Go Go.Proofs.Aw Go.Proofs.Xw
/-- The letters of the members' nodes. -/
def nds (n : Nat) (j : Bool) : List Nat := (List.range n).map (fun k => 2 + 2 * k) ++ (if j = true then [11] else [])
def pairs : List Nat → List (Nat × Nat)
  | [] => []
  | a :: l => l.map (fun b => (a, b)) ++ pairs l
/-- A chain: what is no member's is zero. -/
def cfgZ (n : Nat) (j : Bool) : X := .agg ([iV 0, iC n] ++ (List.range 8).map (fun k => if k < 2 * n then iV (2 + k) else iC 0) ++ [.sc (.b (.lit j)), if j = true then iV 11 else iC 0, if j = true then iV 12 else iC 0])
def ksR (n : Nat) (j : Bool) : List (Nat × List X × X) := [(17, [cfgZ n j], .sc (.b (.lit true))), (26, [cfgZ n j], .sc (.b (.lit true)))]
def ksN (n : Nat) (j : Bool) : List (Nat × List X × X) := [(17, [cfgN n j 0], .sc (.b (.lit false))), (26, [cfgN n j 0], .sc (.b (.lit false)))]
def fR (n : Nat) (j : Bool) : Facts := [(.lt (.var 0) (.lit 1), false), (.lt (.lit 1099511627776) (.var 0), false)] ++ (nds n j).flatMap (fun k => [(.lt (.var k) (.lit 0), false), (.lt (.lit 3) (.var k), false), (.lt (.var (k + 1)) (.lit 1), false), (.lt (.var 0) (.var (k + 1)), false)]) ++ (pairs (nds n j)).flatMap (fun p => [(.eq (.var p.1) (.var p.2), false)])
/-- A node that is no member's. -/
def fX (n : Nat) (j : Bool) (m : Nat) : Facts := fR n j ++ (nds n j).map (fun k => (.eq (.var m) (.var k), false))
def inR : Facts := [(.lt (.var 14) (.lit 0), false), (.lt (.lit 3) (.var 14), false)]
def lowR : Facts := [(.lt (.var 14) (.lit 0), true)]
def highR : Facts := [(.lt (.lit 3) (.var 14), true)]
def endE : Facts := [(.eq (.var 0) (.lit 1099511627776), true), (.lt (.var 0) (.lit 1099511627776), false)]
def onE : Facts := [(.eq (.var 0) (.lit 1099511627776), false), (.lt (.var 0) (.lit 1099511627776), true)]
def bigE : Facts := [(.lt (.lit 1073741824) (.var 0), true)]
def smE : Facts := [(.lt (.lit 1073741824) (.var 0), false)]
def f0 : Facts := [(.lt (.var 1) (.lit 1), true)]
def f5 : Facts := [(.lt (.lit 4) (.var 1), true)]
end Go.Proofs.Ytjgimdheiflinaa
