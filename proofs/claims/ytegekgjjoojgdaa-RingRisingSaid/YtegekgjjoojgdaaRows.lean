/-
  No cell of these rows narrows 'for every input' (looked for: loops, veiled, ifaces, maps, wideKeys, modest, calm, conditions, laid).
  DERIVED. THE GIVEN ROWS OF THIS SEAT. 2 by the template 'for every input the law returns true; each argument reads behind the call as it read before'; 0 by the template 'total and deterministic' (their statements: YtegekgjjoojgdaaTotals.lean).
  GIVEN WITH THE SEED: the statements are not yours to turn. If you find one false, say at which input.
  Laid BY PROGRAM, IN A SANDBOX (cutbox-rows.mjs): the forced cells as the released guide's own fill.sh prints them over the translation 357d70a804ff1e73… (all of the seat's roots in one cut). By AI agents, Wed Nov 11 2026. No macro, syntax, notation, axiom, sorry.
-/
import Derived.Test.YtegekgjjoojgdaaChecked
import GoSem.Claim
import GoSem.ClaimJoined
import GoSem.ClaimMapViews
import Derived.JoinedTies
import Derived.KernelRfl
namespace Go.Proofs.Ytegekgjjoojgdaa
/- THE CELL 'sum', in the pinned program and in every row, IS THE sha256 OF THE DUMP (.gsa) THAT YtegekgjjoojgdaaProg.lean LOADS. Nothing in Lean hashes anything: it is a label: what it is worth is what the hold of that sum in a sandbox is worth. -/
noncomputable def Try.pinned : Pinned := { name := "ytegekgjjoojgdaa", sum := "357d70a804ff1e73e349b4df3e8a001754852a240beda2eab4a4c47912684d28", checked := Try.checked }
namespace Rows
def none {H : Type} : Left H := { results := [], args := [] }

/-- 'causewaylaw2.RingAround': WHATEVER THE INPUT: true; the input reads as it did. -/
def ringAroundSpec : ChangeSpec := { name := "ringAround", fn := fun _ => fun
  | [d] => { results := [.lit (.bool true)], args := [d] }
  | _ => none }
def ringAroundRow : OpenClaim := { program := "ytegekgjjoojgdaa", sum := "357d70a804ff1e73e349b4df3e8a001754852a240beda2eab4a4c47912684d28", func := "causeway/causewaylaw2.RingAround", spec := "ringAround", inPlace := ["internal/bytealg.abigen_runtime_cmpstring"], unfollowed := true, recurses := true, apart := false }
def RingAroundSaid : Prop := ringAroundRow.holds Try.pinned (OpenSpec.ofChange ringAroundSpec)

/-- ITS FALSE NEIGHBOUR: 'it returns false'. Refute it at one input. -/
def ringAroundWrong : ChangeSpec := { name := "ringAround", fn := fun _ => fun
  | [d] => { results := [.lit (.bool false)], args := [d] }
  | _ => none }
def RingAroundWrongFalsely : Prop := ringAroundRow.holds Try.pinned (OpenSpec.ofChange ringAroundWrong)

/-- 'causewaylaw2.RingRising': WHATEVER THE INPUT: true; the input reads as it did. -/
def ringRisingSpec : ChangeSpec := { name := "ringRising", fn := fun _ => fun
  | [d1, d2] => { results := [.lit (.bool true)], args := [d1, d2] }
  | _ => none }
def ringRisingRow : OpenClaim := { program := "ytegekgjjoojgdaa", sum := "357d70a804ff1e73e349b4df3e8a001754852a240beda2eab4a4c47912684d28", func := "causeway/causewaylaw2.RingRising", spec := "ringRising", inPlace := ["internal/bytealg.abigen_runtime_cmpstring"], unfollowed := true, recurses := true, apart := false }
def RingRisingSaid : Prop := ringRisingRow.holds Try.pinned (OpenSpec.ofChange ringRisingSpec)

/-- ITS FALSE NEIGHBOUR: 'it returns false'. Refute it at one input. -/
def ringRisingWrong : ChangeSpec := { name := "ringRising", fn := fun _ => fun
  | [d1, d2] => { results := [.lit (.bool false)], args := [d1, d2] }
  | _ => none }
def RingRisingWrongFalsely : Prop := ringRisingRow.holds Try.pinned (OpenSpec.ofChange ringRisingWrong)

/- THE SECOND FORM. 'bulk': how many values and letters a reading holds, each counted each time it is reached (what is shared counts as often as it is met; a slice's spare places count too). A statement '..UptoSaid' is the law's where the arguments, and the package variables that the reading takes, are together of bulk at most 1048576: NARROWER than '..Said'. Prove '..Said' where nothing that the law and all that it calls make is longer than what came in: it says more and counts as full. Else prove '..UptoSaid'. A law counts once. -/
mutual
def uptoBulk {H : Type} : DataW H → Nat
  | .lit (.string bytes) => bytes.length + 1
  | .lit _ => 1
  | .nil => 1
  | .ptr d => uptoBulk d + 1
  | .slice elems spare => uptoBulkAll elems + uptoBulkAll spare + 1
  | .agg parts => uptoBulkAll parts + 1
  | .iface _ d => uptoBulk d + 1
  | .map entries => uptoBulkEntries entries + 1
  | .held _ => 1
def uptoBulkAll {H : Type} : List (DataW H) → Nat
  | [] => 0
  | d :: r => uptoBulk d + uptoBulkAll r
def uptoBulkEntries {H : Type} : List (Lit × DataW H) → Nat
  | [] => 0
  | x :: r => uptoBulkEntry x + uptoBulkEntries r
def uptoBulkEntry {H : Type} : Lit × DataW H → Nat
  | (.string bytes, d) => bytes.length + uptoBulk d + 1
  | (_, d) => uptoBulk d + 1
 end
def uptoSmall : (H : Type) → List (DataW H) → Bool := fun _ ds => decide (uptoBulkAll ds ≤ 1048576)
def OpenSpec.upto (s : _root_.Go.ChangeSpec) : _root_.Go.OpenSpec := { _root_.Go.OpenSpec.ofChange s with cond := some uptoSmall }

/-- 'causewaylaw2.RingAround', WHERE WHAT IT READS IS OF BULK AT MOST 1048576: true; the input reads as it did. -/
def ringAroundUptoRow : OpenClaim := { program := "ytegekgjjoojgdaa", sum := "357d70a804ff1e73e349b4df3e8a001754852a240beda2eab4a4c47912684d28", func := "causeway/causewaylaw2.RingAround", spec := "ringAround", inPlace := ["internal/bytealg.abigen_runtime_cmpstring"], unfollowed := true, recurses := true, apart := false, narrowed := true }
def RingAroundUptoSaid : Prop := ringAroundUptoRow.holds Try.pinned (OpenSpec.upto ringAroundSpec)

/-- 'causewaylaw2.RingRising', WHERE WHAT IT READS IS OF BULK AT MOST 1048576: true; the input reads as it did. -/
def ringRisingUptoRow : OpenClaim := { program := "ytegekgjjoojgdaa", sum := "357d70a804ff1e73e349b4df3e8a001754852a240beda2eab4a4c47912684d28", func := "causeway/causewaylaw2.RingRising", spec := "ringRising", inPlace := ["internal/bytealg.abigen_runtime_cmpstring"], unfollowed := true, recurses := true, apart := false, narrowed := true }
def RingRisingUptoSaid : Prop := ringRisingUptoRow.holds Try.pinned (OpenSpec.upto ringRisingSpec)

end Rows
end Go.Proofs.Ytegekgjjoojgdaa
