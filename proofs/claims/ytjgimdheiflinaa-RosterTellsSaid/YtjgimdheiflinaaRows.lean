/-
  No cell of these rows narrows 'for every input' (looked for: loops, veiled, ifaces, maps, wideKeys, modest, calm, conditions, laid).
  DERIVED. THE GIVEN ROWS OF THIS SEAT. 5 by the template 'for every input the law returns true; each argument reads behind the call as it read before'; 0 by the template 'total and deterministic' (their statements: YtjgimdheiflinaaTotals.lean).
  GIVEN WITH THE SEED: the statements are not yours to turn. If you find one false, say at which input.
  Laid BY PROGRAM, IN A SANDBOX (cutbox-rows.mjs): the forced cells as the released guide's own fill.sh prints them over the translation ec43f25e848ecfdb… (all of the seat's roots in one cut). By AI agents, Wed Nov 11 2026. No macro, syntax, notation, axiom, sorry.
-/
import Derived.Test.YtjgimdheiflinaaChecked
import GoSem.Claim
import GoSem.ClaimJoined
import GoSem.ClaimMapViews
import Derived.JoinedTies
import Derived.KernelRfl
namespace Go.Proofs.Ytjgimdheiflinaa
/- THE CELL 'sum', in the pinned program and in every row, IS THE sha256 OF THE DUMP (.gsa) THAT YtjgimdheiflinaaProg.lean LOADS. Nothing in Lean hashes anything: it is a label: what it is worth is what the hold of that sum in a sandbox is worth. -/
noncomputable def Try.pinned : Pinned := { name := "ytjgimdheiflinaa", sum := "ec43f25e848ecfdb793ab23668d06b826a4c4597ad253a1499786b3f408d0ace", checked := Try.checked }
namespace Rows
def none {H : Type} : Left H := { results := [], args := [] }

/-- 'causewaylaw12.RosterMakes': WHATEVER THE INPUT: true; the input reads as it did. -/
def rosterMakesSpec : ChangeSpec := { name := "rosterMakes", fn := fun _ => fun
  | [d1, d2, d3] => { results := [.lit (.bool true)], args := [d1, d2, d3] }
  | _ => none }
def rosterMakesRow : OpenClaim := { program := "ytjgimdheiflinaa", sum := "ec43f25e848ecfdb793ab23668d06b826a4c4597ad253a1499786b3f408d0ace", func := "causeway/causewaylaw12.RosterMakes", spec := "rosterMakes", unfollowed := true, recurses := true, apart := false }
def RosterMakesSaid : Prop := rosterMakesRow.holds Try.pinned (OpenSpec.ofChange rosterMakesSpec)

/-- ITS FALSE NEIGHBOUR: 'it returns false'. Refute it at one input. -/
def rosterMakesWrong : ChangeSpec := { name := "rosterMakes", fn := fun _ => fun
  | [d1, d2, d3] => { results := [.lit (.bool false)], args := [d1, d2, d3] }
  | _ => none }
def RosterMakesWrongFalsely : Prop := rosterMakesRow.holds Try.pinned (OpenSpec.ofChange rosterMakesWrong)

/-- 'causewaylaw12.RosterRound': WHATEVER THE INPUT: true; the input reads as it did. -/
def rosterRoundSpec : ChangeSpec := { name := "rosterRound", fn := fun _ => fun
  | [d1, d2] => { results := [.lit (.bool true)], args := [d1, d2] }
  | _ => none }
def rosterRoundRow : OpenClaim := { program := "ytjgimdheiflinaa", sum := "ec43f25e848ecfdb793ab23668d06b826a4c4597ad253a1499786b3f408d0ace", func := "causeway/causewaylaw12.RosterRound", spec := "rosterRound", unfollowed := true, recurses := true, apart := false }
def RosterRoundSaid : Prop := rosterRoundRow.holds Try.pinned (OpenSpec.ofChange rosterRoundSpec)

/-- ITS FALSE NEIGHBOUR: 'it returns false'. Refute it at one input. -/
def rosterRoundWrong : ChangeSpec := { name := "rosterRound", fn := fun _ => fun
  | [d1, d2] => { results := [.lit (.bool false)], args := [d1, d2] }
  | _ => none }
def RosterRoundWrongFalsely : Prop := rosterRoundRow.holds Try.pinned (OpenSpec.ofChange rosterRoundWrong)

/-- 'causewaylaw12.RosterStays': WHATEVER THE INPUT: true; the input reads as it did. -/
def rosterStaysSpec : ChangeSpec := { name := "rosterStays", fn := fun _ => fun
  | [d1, d2] => { results := [.lit (.bool true)], args := [d1, d2] }
  | _ => none }
def rosterStaysRow : OpenClaim := { program := "ytjgimdheiflinaa", sum := "ec43f25e848ecfdb793ab23668d06b826a4c4597ad253a1499786b3f408d0ace", func := "causeway/causewaylaw12.RosterStays", spec := "rosterStays", unfollowed := true, recurses := true, apart := false }
def RosterStaysSaid : Prop := rosterStaysRow.holds Try.pinned (OpenSpec.ofChange rosterStaysSpec)

/-- ITS FALSE NEIGHBOUR: 'it returns false'. Refute it at one input. -/
def rosterStaysWrong : ChangeSpec := { name := "rosterStays", fn := fun _ => fun
  | [d1, d2] => { results := [.lit (.bool false)], args := [d1, d2] }
  | _ => none }
def RosterStaysWrongFalsely : Prop := rosterStaysRow.holds Try.pinned (OpenSpec.ofChange rosterStaysWrong)

/-- 'causewaylaw12.RosterTells': WHATEVER THE INPUT: true; the input reads as it did. -/
def rosterTellsSpec : ChangeSpec := { name := "rosterTells", fn := fun _ => fun
  | [d1, d2] => { results := [.lit (.bool true)], args := [d1, d2] }
  | _ => none }
def rosterTellsRow : OpenClaim := { program := "ytjgimdheiflinaa", sum := "ec43f25e848ecfdb793ab23668d06b826a4c4597ad253a1499786b3f408d0ace", func := "causeway/causewaylaw12.RosterTells", spec := "rosterTells", unfollowed := true, recurses := true, apart := false }
def RosterTellsSaid : Prop := rosterTellsRow.holds Try.pinned (OpenSpec.ofChange rosterTellsSpec)

/-- ITS FALSE NEIGHBOUR: 'it returns false'. Refute it at one input. -/
def rosterTellsWrong : ChangeSpec := { name := "rosterTells", fn := fun _ => fun
  | [d1, d2] => { results := [.lit (.bool false)], args := [d1, d2] }
  | _ => none }
def RosterTellsWrongFalsely : Prop := rosterTellsRow.holds Try.pinned (OpenSpec.ofChange rosterTellsWrong)

/-- 'causewaylaw12.RosterRow': WHATEVER THE INPUT: true; the input reads as it did. -/
def rosterRowSpec : ChangeSpec := { name := "rosterRow", fn := fun _ => fun
  | [d] => { results := [.lit (.bool true)], args := [d] }
  | _ => none }
def rosterRowRow : OpenClaim := { program := "ytjgimdheiflinaa", sum := "ec43f25e848ecfdb793ab23668d06b826a4c4597ad253a1499786b3f408d0ace", func := "causeway/causewaylaw12.RosterRow", spec := "rosterRow", unfollowed := true, recurses := true, apart := false }
def RosterRowSaid : Prop := rosterRowRow.holds Try.pinned (OpenSpec.ofChange rosterRowSpec)

/-- ITS FALSE NEIGHBOUR: 'it returns false'. Refute it at one input. -/
def rosterRowWrong : ChangeSpec := { name := "rosterRow", fn := fun _ => fun
  | [d] => { results := [.lit (.bool false)], args := [d] }
  | _ => none }
def RosterRowWrongFalsely : Prop := rosterRowRow.holds Try.pinned (OpenSpec.ofChange rosterRowWrong)

/- THE SECOND FORM. 'bulk': how many values and letters a reading holds, each counted each time it is reached (what is shared counts as often as it is met; a slice's spare places count too). A statement '..UptoSaid' is the law's where the arguments, and the package variables that the reading takes, are together of bulk at most 1048576: NARROWER than '..Said'. Prove '..Said' where nothing that the law and all that it calls make is longer than what came in: it says more and counts as full. Else prove '..UptoSaid'. A law counts once. -/
mutual
def uptoBulk {H : Type} : DataW H → Nat
  | .lit (.string bytes) => bytes.length + 1
  | .lit _ => 1
  | .nil => 1
  | .ptr d => uptoBulk d + 1
  | .slice elems spare => uptoBulkAll elems + uptoBulkAll spare + 1
  | .agg parts => uptoBulkAll parts + 1
  | .iface _ d => uptoBulk d + 1
  | .map entries => uptoBulkEntries entries + 1
  | .held _ => 1
def uptoBulkAll {H : Type} : List (DataW H) → Nat
  | [] => 0
  | d :: r => uptoBulk d + uptoBulkAll r
def uptoBulkEntries {H : Type} : List (Lit × DataW H) → Nat
  | [] => 0
  | x :: r => uptoBulkEntry x + uptoBulkEntries r
def uptoBulkEntry {H : Type} : Lit × DataW H → Nat
  | (.string bytes, d) => bytes.length + uptoBulk d + 1
  | (_, d) => uptoBulk d + 1
 end
def uptoSmall : (H : Type) → List (DataW H) → Bool := fun _ ds => decide (uptoBulkAll ds ≤ 1048576)
def OpenSpec.upto (s : _root_.Go.ChangeSpec) : _root_.Go.OpenSpec := { _root_.Go.OpenSpec.ofChange s with cond := some uptoSmall }

/-- 'causewaylaw12.RosterMakes', WHERE WHAT IT READS IS OF BULK AT MOST 1048576: true; the input reads as it did. -/
def rosterMakesUptoRow : OpenClaim := { program := "ytjgimdheiflinaa", sum := "ec43f25e848ecfdb793ab23668d06b826a4c4597ad253a1499786b3f408d0ace", func := "causeway/causewaylaw12.RosterMakes", spec := "rosterMakes", unfollowed := true, recurses := true, apart := false, narrowed := true }
def RosterMakesUptoSaid : Prop := rosterMakesUptoRow.holds Try.pinned (OpenSpec.upto rosterMakesSpec)

/-- 'causewaylaw12.RosterRound', WHERE WHAT IT READS IS OF BULK AT MOST 1048576: true; the input reads as it did. -/
def rosterRoundUptoRow : OpenClaim := { program := "ytjgimdheiflinaa", sum := "ec43f25e848ecfdb793ab23668d06b826a4c4597ad253a1499786b3f408d0ace", func := "causeway/causewaylaw12.RosterRound", spec := "rosterRound", unfollowed := true, recurses := true, apart := false, narrowed := true }
def RosterRoundUptoSaid : Prop := rosterRoundUptoRow.holds Try.pinned (OpenSpec.upto rosterRoundSpec)

/-- 'causewaylaw12.RosterStays', WHERE WHAT IT READS IS OF BULK AT MOST 1048576: true; the input reads as it did. -/
def rosterStaysUptoRow : OpenClaim := { program := "ytjgimdheiflinaa", sum := "ec43f25e848ecfdb793ab23668d06b826a4c4597ad253a1499786b3f408d0ace", func := "causeway/causewaylaw12.RosterStays", spec := "rosterStays", unfollowed := true, recurses := true, apart := false, narrowed := true }
def RosterStaysUptoSaid : Prop := rosterStaysUptoRow.holds Try.pinned (OpenSpec.upto rosterStaysSpec)

/-- 'causewaylaw12.RosterTells', WHERE WHAT IT READS IS OF BULK AT MOST 1048576: true; the input reads as it did. -/
def rosterTellsUptoRow : OpenClaim := { program := "ytjgimdheiflinaa", sum := "ec43f25e848ecfdb793ab23668d06b826a4c4597ad253a1499786b3f408d0ace", func := "causeway/causewaylaw12.RosterTells", spec := "rosterTells", unfollowed := true, recurses := true, apart := false, narrowed := true }
def RosterTellsUptoSaid : Prop := rosterTellsUptoRow.holds Try.pinned (OpenSpec.upto rosterTellsSpec)

/-- 'causewaylaw12.RosterRow', WHERE WHAT IT READS IS OF BULK AT MOST 1048576: true; the input reads as it did. -/
def rosterRowUptoRow : OpenClaim := { program := "ytjgimdheiflinaa", sum := "ec43f25e848ecfdb793ab23668d06b826a4c4597ad253a1499786b3f408d0ace", func := "causeway/causewaylaw12.RosterRow", spec := "rosterRow", unfollowed := true, recurses := true, apart := false, narrowed := true }
def RosterRowUptoSaid : Prop := rosterRowUptoRow.holds Try.pinned (OpenSpec.upto rosterRowSpec)

end Rows
end Go.Proofs.Ytjgimdheiflinaa
