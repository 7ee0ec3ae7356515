/- Roster: turns, one by one: patterns and facts of a round. -/
import Derived.Test.YtjgimdheiflinaaXQ
import Derived.Test.YtjgimdheiflinaaXwM2
namespace Go.Proofs.Ytjgimdheiflinaa
open Go Go.Proofs.Aw Go.Proofs.Xw
set_option maxRecDepth 100000
/-- The letters of the members' nodes. -/
def ndS (n : Nat) (j : Bool) : List Nat := (List.range n).map (fun k => 32 + 2 * k) ++ (if j = true then [41] else [])
/-- A chain: what is no member's is zero. -/
def cellS' (n : Nat) (j : Bool) : List X := [iV 30, iC n] ++ (List.range 8).map (fun k => if k < 2 * n then iV (32 + k) else iC 0) ++ [.sc (.b (.lit j)), if j = true then iV 41 else iC 0, if j = true then iV 42 else iC 0]
/-- Any chain. -/
def cellV : List X := [iV 30, iV 31] ++ (List.range 8).map (fun k => iV (32 + k)) ++ [.sc (.b (.var 40)), iV 41, iV 42]
def fRS (n : Nat) (j : Bool) : Facts := [(.lt (.var 30) (.lit 1), false), (.lt (.lit 1099511627776) (.var 30), false)] ++ (ndS n j).flatMap (fun k => [(.lt (.var k) (.lit 0), false), (.lt (.lit 3) (.var k), false), (.lt (.var (k + 1)) (.lit 1), false), (.lt (.var 30) (.var (k + 1)), false)]) ++ (pairs (ndS n j)).flatMap (fun p => [(.eq (.var p.1) (.var p.2), false)])
/-- What holds at the head of the loop: a right chain with n full members, and how far it is. -/
def psiS (n : Nat) (j : Bool) : Facts := [(.lt (.var 43) (.lit 0), false), (.lt (.lit 5000) (.var 43), false), (.eq (.var 31) (.lit n), true), (.var 40, j)] ++ (List.range 8).flatMap (fun k => if k < 2 * n then [] else [(.eq (.var (32 + k)) (.lit 0), true)]) ++ (if j = true then [] else [(.eq (.var 41) (.lit 0), true), (.eq (.var 42) (.lit 0), true)]) ++ fRS n j
def allS : List Facts := [psiS 1 true, psiS 1 false, psiS 2 true, psiS 2 false, psiS 3 true, psiS 3 false, psiS 4 false]
def inS : Facts := [(.lt (.var 43) (.lit 0), false), (.lt (.var 43) (.len 1), true), (.lt (.var 43) (.lit 5000), true)]
def kindE : IE := .cl 1 0 (.var 43)
def nodeE : IE := .cl 1 1 (.var 43)
def kd (k : Int) : Facts := [(.eq kindE (.lit k), true)]
def kdX : Facts := [(.eq kindE (.lit 1), false), (.eq kindE (.lit 2), false), (.eq kindE (.lit 3), false)]
def endS : Facts := [(.eq (.var 30) (.lit 1099511627776), true), (.lt (.var 30) (.lit 1099511627776), false)]
def onS : Facts := [(.eq (.var 30) (.lit 1099511627776), false), (.lt (.var 30) (.lit 1099511627776), true)]
def ndE (n : Nat) (j : Bool) (k : Nat) : Facts := (ndS n j).map (fun m => (.eq nodeE (.var m), Nat.beq m k))
def ndX (n : Nat) (j : Bool) : Facts := (ndS n j).map (fun k => (.eq nodeE (.var k), false))
def inN : Facts := [(.lt nodeE (.lit 0), false), (.lt (.lit 3) nodeE, false)]
def lowN : Facts := [(.lt nodeE (.lit 0), true)]
def highN : Facts := [(.lt (.lit 3) nodeE, true)]
def turnsX : X := .rl 2 (.len 1) (.var 1 [.i .i64, .i .i64]) false
def stT : XTp := [(7, iV 43), (18, .top), (17, .top), (6, .top), (5, .ptr (8, 0) [] 0), (16, .top), (15, .top), (12, .top), (14, .top), (13, .top), (11, .top), (10, .top), (4, .top), (0, .top), (1, turnsX)]
def stS : XS := ⟨stT, [((8, 0), cellV)], 14⟩
def stZ (n : Nat) (j : Bool) : XS := ⟨stT, [((8, 0), cellS' n j)], 14⟩
def initS (n : Nat) : Bind := ⟨[(30, .lit 1), (31, .lit n)] ++ (List.range 8).map (fun k => (32 + k, .lit (if k < 2 * n then (if k % 2 = 0 then (k / 2 : Nat) else 1) else 0))) ++ [(41, .lit 0), (42, .lit 0), (43, .lit 0)], [(40, .lit false)], [], []⟩
def ksS (n : Nat) (j : Bool) : List (Nat × List X × X) := [(17, [.agg (cellS' n j)], .sc (.b (.lit true)))]
noncomputable def stC : Code := (loopsOf (Try.f5.body.getD .skip))[0]?.getD .skip
noncomputable def stGo (n : Nat) (j : Bool) (Φ : Facts) : Bool := goesX 0 30 (initS 1) stS 43 allS (Φ ++ fRS n j) ((codeX (cfgL (ksS n j) (fun _ => [])).ti (callS ⟨cfgL (ksS n j) (fun _ => []), l_R, [49,45,48,19,25]⟩ 12) (((cfg []).ft 5).elim [] (·.ms)) 0 [] 1000 stC (Φ ++ fRS n j) (stZ n j)).map (sqz (stS.t.map (·.1))))
theorem st_fits : fitsC Try.f5.ntmps stC = true := by kernel_rfl
end Go.Proofs.Ytjgimdheiflinaa
