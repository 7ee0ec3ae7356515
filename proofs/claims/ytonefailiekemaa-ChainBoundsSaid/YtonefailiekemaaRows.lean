/-
  No cell of these rows narrows 'for every input' (looked for: loops, veiled, ifaces, maps, wideKeys, modest, calm, conditions, laid).
  DERIVED. THE GIVEN ROWS OF THIS SEAT. 6 by the template 'for every input the law returns true; each argument reads behind the call as it read before'; 0 by the template 'total and deterministic' (their statements: YtonefailiekemaaTotals.lean).
  GIVEN WITH THE SEED: the statements are not yours to turn. If you find one false, say at which input.
  Laid BY PROGRAM, IN A SANDBOX (cutbox-rows.mjs): the forced cells as the released guide's own fill.sh prints them over the translation df96b388c1c92b85… (all of the seat's roots in one cut). By AI agents, Wed Nov 11 2026. No macro, syntax, notation, axiom, sorry.
-/
import Derived.Test.YtonefailiekemaaChecked
import GoSem.Claim
import GoSem.ClaimJoined
import GoSem.ClaimMapViews
import Derived.JoinedTies
import Derived.KernelRfl
namespace Go.Proofs.Ytonefailiekemaa
/- THE CELL 'sum', in the pinned program and in every row, IS THE sha256 OF THE DUMP (.gsa) THAT YtonefailiekemaaProg.lean LOADS. Nothing in Lean hashes anything: it is a label: what it is worth is what the hold of that sum in a sandbox is worth. -/
noncomputable def Try.pinned : Pinned := { name := "ytonefailiekemaa", sum := "df96b388c1c92b852d4af1648dd20d21a12b46f6c54ce0b88e9a43fb8185bcfc", checked := Try.checked }
namespace Rows
def none {H : Type} : Left H := { results := [], args := [] }

/-- 'causewaylaw15.ChainOnce': WHATEVER THE INPUT: true; the input reads as it did. -/
def chainOnceSpec : ChangeSpec := { name := "chainOnce", fn := fun _ => fun
  | [d1, d2] => { results := [.lit (.bool true)], args := [d1, d2] }
  | _ => none }
def chainOnceRow : OpenClaim := { program := "ytonefailiekemaa", sum := "df96b388c1c92b852d4af1648dd20d21a12b46f6c54ce0b88e9a43fb8185bcfc", func := "causeway/causewaylaw15.ChainOnce", spec := "chainOnce", unfollowed := true, recurses := true, apart := false }
def ChainOnceSaid : Prop := chainOnceRow.holds Try.pinned (OpenSpec.ofChange chainOnceSpec)

/-- ITS FALSE NEIGHBOUR: 'it returns false'. Refute it at one input. -/
def chainOnceWrong : ChangeSpec := { name := "chainOnce", fn := fun _ => fun
  | [d1, d2] => { results := [.lit (.bool false)], args := [d1, d2] }
  | _ => none }
def ChainOnceWrongFalsely : Prop := chainOnceRow.holds Try.pinned (OpenSpec.ofChange chainOnceWrong)

/-- 'causewaylaw15.ChainNumbers': WHATEVER THE INPUT: true; the input reads as it did. -/
def chainNumbersSpec : ChangeSpec := { name := "chainNumbers", fn := fun _ => fun
  | [d1, d2, d3] => { results := [.lit (.bool true)], args := [d1, d2, d3] }
  | _ => none }
def chainNumbersRow : OpenClaim := { program := "ytonefailiekemaa", sum := "df96b388c1c92b852d4af1648dd20d21a12b46f6c54ce0b88e9a43fb8185bcfc", func := "causeway/causewaylaw15.ChainNumbers", spec := "chainNumbers", unfollowed := true, recurses := true, apart := false }
def ChainNumbersSaid : Prop := chainNumbersRow.holds Try.pinned (OpenSpec.ofChange chainNumbersSpec)

/-- ITS FALSE NEIGHBOUR: 'it returns false'. Refute it at one input. -/
def chainNumbersWrong : ChangeSpec := { name := "chainNumbers", fn := fun _ => fun
  | [d1, d2, d3] => { results := [.lit (.bool false)], args := [d1, d2, d3] }
  | _ => none }
def ChainNumbersWrongFalsely : Prop := chainNumbersRow.holds Try.pinned (OpenSpec.ofChange chainNumbersWrong)

/-- 'causewaylaw15.ChainPasses': WHATEVER THE INPUT: true; the input reads as it did. -/
def chainPassesSpec : ChangeSpec := { name := "chainPasses", fn := fun _ => fun
  | [d1, d2] => { results := [.lit (.bool true)], args := [d1, d2] }
  | _ => none }
def chainPassesRow : OpenClaim := { program := "ytonefailiekemaa", sum := "df96b388c1c92b852d4af1648dd20d21a12b46f6c54ce0b88e9a43fb8185bcfc", func := "causeway/causewaylaw15.ChainPasses", spec := "chainPasses", unfollowed := true, recurses := true, apart := false }
def ChainPassesSaid : Prop := chainPassesRow.holds Try.pinned (OpenSpec.ofChange chainPassesSpec)

/-- ITS FALSE NEIGHBOUR: 'it returns false'. Refute it at one input. -/
def chainPassesWrong : ChangeSpec := { name := "chainPasses", fn := fun _ => fun
  | [d1, d2] => { results := [.lit (.bool false)], args := [d1, d2] }
  | _ => none }
def ChainPassesWrongFalsely : Prop := chainPassesRow.holds Try.pinned (OpenSpec.ofChange chainPassesWrong)

/-- 'causewaylaw15.ChainBounds': WHATEVER THE INPUT: true; the input reads as it did. -/
def chainBoundsSpec : ChangeSpec := { name := "chainBounds", fn := fun _ => fun
  | [d1, d2, d3, d4] => { results := [.lit (.bool true)], args := [d1, d2, d3, d4] }
  | _ => none }
def chainBoundsRow : OpenClaim := { program := "ytonefailiekemaa", sum := "df96b388c1c92b852d4af1648dd20d21a12b46f6c54ce0b88e9a43fb8185bcfc", func := "causeway/causewaylaw15.ChainBounds", spec := "chainBounds", unfollowed := true, recurses := true, apart := false }
def ChainBoundsSaid : Prop := chainBoundsRow.holds Try.pinned (OpenSpec.ofChange chainBoundsSpec)

/-- ITS FALSE NEIGHBOUR: 'it returns false'. Refute it at one input. -/
def chainBoundsWrong : ChangeSpec := { name := "chainBounds", fn := fun _ => fun
  | [d1, d2, d3, d4] => { results := [.lit (.bool false)], args := [d1, d2, d3, d4] }
  | _ => none }
def ChainBoundsWrongFalsely : Prop := chainBoundsRow.holds Try.pinned (OpenSpec.ofChange chainBoundsWrong)

/-- 'causewaylaw15.ChainFresh': WHATEVER THE INPUT: true; the input reads as it did. -/
def chainFreshSpec : ChangeSpec := { name := "chainFresh", fn := fun _ => fun
  | [d1, d2] => { results := [.lit (.bool true)], args := [d1, d2] }
  | _ => none }
def chainFreshRow : OpenClaim := { program := "ytonefailiekemaa", sum := "df96b388c1c92b852d4af1648dd20d21a12b46f6c54ce0b88e9a43fb8185bcfc", func := "causeway/causewaylaw15.ChainFresh", spec := "chainFresh", unfollowed := true, recurses := true, apart := false }
def ChainFreshSaid : Prop := chainFreshRow.holds Try.pinned (OpenSpec.ofChange chainFreshSpec)

/-- ITS FALSE NEIGHBOUR: 'it returns false'. Refute it at one input. -/
def chainFreshWrong : ChangeSpec := { name := "chainFresh", fn := fun _ => fun
  | [d1, d2] => { results := [.lit (.bool false)], args := [d1, d2] }
  | _ => none }
def ChainFreshWrongFalsely : Prop := chainFreshRow.holds Try.pinned (OpenSpec.ofChange chainFreshWrong)

/-- 'causewaylaw15.ChainLearns': WHATEVER THE INPUT: true; the input reads as it did. -/
def chainLearnsSpec : ChangeSpec := { name := "chainLearns", fn := fun _ => fun
  | [d1, d2] => { results := [.lit (.bool true)], args := [d1, d2] }
  | _ => none }
def chainLearnsRow : OpenClaim := { program := "ytonefailiekemaa", sum := "df96b388c1c92b852d4af1648dd20d21a12b46f6c54ce0b88e9a43fb8185bcfc", func := "causeway/causewaylaw15.ChainLearns", spec := "chainLearns", unfollowed := true, recurses := true, apart := false }
def ChainLearnsSaid : Prop := chainLearnsRow.holds Try.pinned (OpenSpec.ofChange chainLearnsSpec)

/-- ITS FALSE NEIGHBOUR: 'it returns false'. Refute it at one input. -/
def chainLearnsWrong : ChangeSpec := { name := "chainLearns", fn := fun _ => fun
  | [d1, d2] => { results := [.lit (.bool false)], args := [d1, d2] }
  | _ => none }
def ChainLearnsWrongFalsely : Prop := chainLearnsRow.holds Try.pinned (OpenSpec.ofChange chainLearnsWrong)

/- THE SECOND FORM. 'bulk': how many values and letters a reading holds, each counted each time it is reached (what is shared counts as often as it is met; a slice's spare places count too). A statement '..UptoSaid' is the law's where the arguments, and the package variables that the reading takes, are together of bulk at most 1048576: NARROWER than '..Said'. Prove '..Said' where nothing that the law and all that it calls make is longer than what came in: it says more and counts as full. Else prove '..UptoSaid'. A law counts once. -/
mutual
def uptoBulk {H : Type} : DataW H → Nat
  | .lit (.string bytes) => bytes.length + 1
  | .lit _ => 1
  | .nil => 1
  | .ptr d => uptoBulk d + 1
  | .slice elems spare => uptoBulkAll elems + uptoBulkAll spare + 1
  | .agg parts => uptoBulkAll parts + 1
  | .iface _ d => uptoBulk d + 1
  | .map entries => uptoBulkEntries entries + 1
  | .held _ => 1
def uptoBulkAll {H : Type} : List (DataW H) → Nat
  | [] => 0
  | d :: r => uptoBulk d + uptoBulkAll r
def uptoBulkEntries {H : Type} : List (Lit × DataW H) → Nat
  | [] => 0
  | x :: r => uptoBulkEntry x + uptoBulkEntries r
def uptoBulkEntry {H : Type} : Lit × DataW H → Nat
  | (.string bytes, d) => bytes.length + uptoBulk d + 1
  | (_, d) => uptoBulk d + 1
 end
def uptoSmall : (H : Type) → List (DataW H) → Bool := fun _ ds => decide (uptoBulkAll ds ≤ 1048576)
def OpenSpec.upto (s : _root_.Go.ChangeSpec) : _root_.Go.OpenSpec := { _root_.Go.OpenSpec.ofChange s with cond := some uptoSmall }

/-- 'causewaylaw15.ChainOnce', WHERE WHAT IT READS IS OF BULK AT MOST 1048576: true; the input reads as it did. -/
def chainOnceUptoRow : OpenClaim := { program := "ytonefailiekemaa", sum := "df96b388c1c92b852d4af1648dd20d21a12b46f6c54ce0b88e9a43fb8185bcfc", func := "causeway/causewaylaw15.ChainOnce", spec := "chainOnce", unfollowed := true, recurses := true, apart := false, narrowed := true }
def ChainOnceUptoSaid : Prop := chainOnceUptoRow.holds Try.pinned (OpenSpec.upto chainOnceSpec)

/-- 'causewaylaw15.ChainNumbers', WHERE WHAT IT READS IS OF BULK AT MOST 1048576: true; the input reads as it did. -/
def chainNumbersUptoRow : OpenClaim := { program := "ytonefailiekemaa", sum := "df96b388c1c92b852d4af1648dd20d21a12b46f6c54ce0b88e9a43fb8185bcfc", func := "causeway/causewaylaw15.ChainNumbers", spec := "chainNumbers", unfollowed := true, recurses := true, apart := false, narrowed := true }
def ChainNumbersUptoSaid : Prop := chainNumbersUptoRow.holds Try.pinned (OpenSpec.upto chainNumbersSpec)

/-- 'causewaylaw15.ChainPasses', WHERE WHAT IT READS IS OF BULK AT MOST 1048576: true; the input reads as it did. -/
def chainPassesUptoRow : OpenClaim := { program := "ytonefailiekemaa", sum := "df96b388c1c92b852d4af1648dd20d21a12b46f6c54ce0b88e9a43fb8185bcfc", func := "causeway/causewaylaw15.ChainPasses", spec := "chainPasses", unfollowed := true, recurses := true, apart := false, narrowed := true }
def ChainPassesUptoSaid : Prop := chainPassesUptoRow.holds Try.pinned (OpenSpec.upto chainPassesSpec)

/-- 'causewaylaw15.ChainBounds', WHERE WHAT IT READS IS OF BULK AT MOST 1048576: true; the input reads as it did. -/
def chainBoundsUptoRow : OpenClaim := { program := "ytonefailiekemaa", sum := "df96b388c1c92b852d4af1648dd20d21a12b46f6c54ce0b88e9a43fb8185bcfc", func := "causeway/causewaylaw15.ChainBounds", spec := "chainBounds", unfollowed := true, recurses := true, apart := false, narrowed := true }
def ChainBoundsUptoSaid : Prop := chainBoundsUptoRow.holds Try.pinned (OpenSpec.upto chainBoundsSpec)

/-- 'causewaylaw15.ChainFresh', WHERE WHAT IT READS IS OF BULK AT MOST 1048576: true; the input reads as it did. -/
def chainFreshUptoRow : OpenClaim := { program := "ytonefailiekemaa", sum := "df96b388c1c92b852d4af1648dd20d21a12b46f6c54ce0b88e9a43fb8185bcfc", func := "causeway/causewaylaw15.ChainFresh", spec := "chainFresh", unfollowed := true, recurses := true, apart := false, narrowed := true }
def ChainFreshUptoSaid : Prop := chainFreshUptoRow.holds Try.pinned (OpenSpec.upto chainFreshSpec)

/-- 'causewaylaw15.ChainLearns', WHERE WHAT IT READS IS OF BULK AT MOST 1048576: true; the input reads as it did. -/
def chainLearnsUptoRow : OpenClaim := { program := "ytonefailiekemaa", sum := "df96b388c1c92b852d4af1648dd20d21a12b46f6c54ce0b88e9a43fb8185bcfc", func := "causeway/causewaylaw15.ChainLearns", spec := "chainLearns", unfollowed := true, recurses := true, apart := false, narrowed := true }
def ChainLearnsUptoSaid : Prop := chainLearnsUptoRow.holds Try.pinned (OpenSpec.upto chainLearnsSpec)

end Rows
end Go.Proofs.Ytonefailiekemaa
