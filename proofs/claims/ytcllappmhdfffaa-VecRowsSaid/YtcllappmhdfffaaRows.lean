/-
  No cell of these rows narrows 'for every input' (looked for: loops, veiled, ifaces, maps, wideKeys, modest, calm, conditions, laid).
  DERIVED. THE GIVEN ROWS OF THIS SEAT. 11 by the template 'for every input the law returns true; each argument reads behind the call as it read before'; 0 by the template 'total and deterministic' (their statements: YtcllappmhdfffaaTotals.lean).
  GIVEN WITH THE SEED: the statements are not yours to turn. If you find one false, say at which input.
  Laid BY PROGRAM, IN A SANDBOX (cutbox-rows.mjs): the forced cells as the released guide's own fill.sh prints them over the translation e1dd8de89a5d5bd8… (all of the seat's roots in one cut). By AI agents, Wed Nov 11 2026. No macro, syntax, notation, axiom, sorry.
-/
import Derived.Test.YtcllappmhdfffaaChecked
import GoSem.Claim
import GoSem.ClaimJoined
import GoSem.ClaimMapViews
import Derived.JoinedTies
import Derived.KernelRfl
namespace Go.Proofs.Ytcllappmhdfffaa
/- THE CELL 'sum', in the pinned program and in every row, IS THE sha256 OF THE DUMP (.gsa) THAT YtcllappmhdfffaaProg.lean LOADS. Nothing in Lean hashes anything: it is a label: what it is worth is what the hold of that sum in a sandbox is worth. -/
noncomputable def Try.pinned : Pinned := { name := "ytcllappmhdfffaa", sum := "e1dd8de89a5d5bd83ad79a5e552739d07eb1534ec92b84829f05ff200886bff4", checked := Try.checked }
namespace Rows
def none {H : Type} : Left H := { results := [], args := [] }

/-- 'causewaylaw5.VecLattice': WHATEVER THE INPUT: true; the input reads as it did. -/
def vecLatticeSpec : ChangeSpec := { name := "vecLattice", fn := fun _ => fun
  | [d1, d2, d3] => { results := [.lit (.bool true)], args := [d1, d2, d3] }
  | _ => none }
def vecLatticeRow : OpenClaim := { program := "ytcllappmhdfffaa", sum := "e1dd8de89a5d5bd83ad79a5e552739d07eb1534ec92b84829f05ff200886bff4", func := "causeway/causewaylaw5.VecLattice", spec := "vecLattice", apart := false }
def VecLatticeSaid : Prop := vecLatticeRow.holds Try.pinned (OpenSpec.ofChange vecLatticeSpec)

/-- ITS FALSE NEIGHBOUR: 'it returns false'. Refute it at one input. -/
def vecLatticeWrong : ChangeSpec := { name := "vecLattice", fn := fun _ => fun
  | [d1, d2, d3] => { results := [.lit (.bool false)], args := [d1, d2, d3] }
  | _ => none }
def VecLatticeWrongFalsely : Prop := vecLatticeRow.holds Try.pinned (OpenSpec.ofChange vecLatticeWrong)

/-- 'causewaylaw5.VecOrder': WHATEVER THE INPUT: true; the input reads as it did. -/
def vecOrderSpec : ChangeSpec := { name := "vecOrder", fn := fun _ => fun
  | [d1, d2, d3] => { results := [.lit (.bool true)], args := [d1, d2, d3] }
  | _ => none }
def vecOrderRow : OpenClaim := { program := "ytcllappmhdfffaa", sum := "e1dd8de89a5d5bd83ad79a5e552739d07eb1534ec92b84829f05ff200886bff4", func := "causeway/causewaylaw5.VecOrder", spec := "vecOrder", apart := false }
def VecOrderSaid : Prop := vecOrderRow.holds Try.pinned (OpenSpec.ofChange vecOrderSpec)

/-- ITS FALSE NEIGHBOUR: 'it returns false'. Refute it at one input. -/
def vecOrderWrong : ChangeSpec := { name := "vecOrder", fn := fun _ => fun
  | [d1, d2, d3] => { results := [.lit (.bool false)], args := [d1, d2, d3] }
  | _ => none }
def VecOrderWrongFalsely : Prop := vecOrderRow.holds Try.pinned (OpenSpec.ofChange vecOrderWrong)

/-- 'causewaylaw5.VecMerges': WHATEVER THE INPUT: true; the input reads as it did. -/
def vecMergesSpec : ChangeSpec := { name := "vecMerges", fn := fun _ => fun
  | [d1, d2] => { results := [.lit (.bool true)], args := [d1, d2] }
  | _ => none }
def vecMergesRow : OpenClaim := { program := "ytcllappmhdfffaa", sum := "e1dd8de89a5d5bd83ad79a5e552739d07eb1534ec92b84829f05ff200886bff4", func := "causeway/causewaylaw5.VecMerges", spec := "vecMerges", apart := false }
def VecMergesSaid : Prop := vecMergesRow.holds Try.pinned (OpenSpec.ofChange vecMergesSpec)

/-- ITS FALSE NEIGHBOUR: 'it returns false'. Refute it at one input. -/
def vecMergesWrong : ChangeSpec := { name := "vecMerges", fn := fun _ => fun
  | [d1, d2] => { results := [.lit (.bool false)], args := [d1, d2] }
  | _ => none }
def VecMergesWrongFalsely : Prop := vecMergesRow.holds Try.pinned (OpenSpec.ofChange vecMergesWrong)

/-- 'causewaylaw5.VecHas': WHATEVER THE INPUT: true; the input reads as it did. -/
def vecHasSpec : ChangeSpec := { name := "vecHas", fn := fun _ => fun
  | [d1, d2, d3, d4] => { results := [.lit (.bool true)], args := [d1, d2, d3, d4] }
  | _ => none }
def vecHasRow : OpenClaim := { program := "ytcllappmhdfffaa", sum := "e1dd8de89a5d5bd83ad79a5e552739d07eb1534ec92b84829f05ff200886bff4", func := "causeway/causewaylaw5.VecHas", spec := "vecHas", apart := false }
def VecHasSaid : Prop := vecHasRow.holds Try.pinned (OpenSpec.ofChange vecHasSpec)

/-- ITS FALSE NEIGHBOUR: 'it returns false'. Refute it at one input. -/
def vecHasWrong : ChangeSpec := { name := "vecHas", fn := fun _ => fun
  | [d1, d2, d3, d4] => { results := [.lit (.bool false)], args := [d1, d2, d3, d4] }
  | _ => none }
def VecHasWrongFalsely : Prop := vecHasRow.holds Try.pinned (OpenSpec.ofChange vecHasWrong)

/-- 'causewaylaw5.VecNeeds': WHATEVER THE INPUT: true; the input reads as it did. -/
def vecNeedsSpec : ChangeSpec := { name := "vecNeeds", fn := fun _ => fun
  | [d1, d2] => { results := [.lit (.bool true)], args := [d1, d2] }
  | _ => none }
def vecNeedsRow : OpenClaim := { program := "ytcllappmhdfffaa", sum := "e1dd8de89a5d5bd83ad79a5e552739d07eb1534ec92b84829f05ff200886bff4", func := "causeway/causewaylaw5.VecNeeds", spec := "vecNeeds", apart := false }
def VecNeedsSaid : Prop := vecNeedsRow.holds Try.pinned (OpenSpec.ofChange vecNeedsSpec)

/-- ITS FALSE NEIGHBOUR: 'it returns false'. Refute it at one input. -/
def vecNeedsWrong : ChangeSpec := { name := "vecNeeds", fn := fun _ => fun
  | [d1, d2] => { results := [.lit (.bool false)], args := [d1, d2] }
  | _ => none }
def VecNeedsWrongFalsely : Prop := vecNeedsRow.holds Try.pinned (OpenSpec.ofChange vecNeedsWrong)

/-- 'causewaylaw5.VecTells': WHATEVER THE INPUT: true; the input reads as it did. -/
def vecTellsSpec : ChangeSpec := { name := "vecTells", fn := fun _ => fun
  | [d1, d2, d3, d4] => { results := [.lit (.bool true)], args := [d1, d2, d3, d4] }
  | _ => none }
def vecTellsRow : OpenClaim := { program := "ytcllappmhdfffaa", sum := "e1dd8de89a5d5bd83ad79a5e552739d07eb1534ec92b84829f05ff200886bff4", func := "causeway/causewaylaw5.VecTells", spec := "vecTells", apart := false }
def VecTellsSaid : Prop := vecTellsRow.holds Try.pinned (OpenSpec.ofChange vecTellsSpec)

/-- ITS FALSE NEIGHBOUR: 'it returns false'. Refute it at one input. -/
def vecTellsWrong : ChangeSpec := { name := "vecTells", fn := fun _ => fun
  | [d1, d2, d3, d4] => { results := [.lit (.bool false)], args := [d1, d2, d3, d4] }
  | _ => none }
def VecTellsWrongFalsely : Prop := vecTellsRow.holds Try.pinned (OpenSpec.ofChange vecTellsWrong)

/-- 'causewaylaw5.VecColumns': WHATEVER THE INPUT: true; the input reads as it did. -/
def vecColumnsSpec : ChangeSpec := { name := "vecColumns", fn := fun _ => fun
  | [d1, d2, d3] => { results := [.lit (.bool true)], args := [d1, d2, d3] }
  | _ => none }
def vecColumnsRow : OpenClaim := { program := "ytcllappmhdfffaa", sum := "e1dd8de89a5d5bd83ad79a5e552739d07eb1534ec92b84829f05ff200886bff4", func := "causeway/causewaylaw5.VecColumns", spec := "vecColumns", apart := false }
def VecColumnsSaid : Prop := vecColumnsRow.holds Try.pinned (OpenSpec.ofChange vecColumnsSpec)

/-- ITS FALSE NEIGHBOUR: 'it returns false'. Refute it at one input. -/
def vecColumnsWrong : ChangeSpec := { name := "vecColumns", fn := fun _ => fun
  | [d1, d2, d3] => { results := [.lit (.bool false)], args := [d1, d2, d3] }
  | _ => none }
def VecColumnsWrongFalsely : Prop := vecColumnsRow.holds Try.pinned (OpenSpec.ofChange vecColumnsWrong)

/-- 'causewaylaw5.VecPast': WHATEVER THE INPUT: true; the input reads as it did. -/
def vecPastSpec : ChangeSpec := { name := "vecPast", fn := fun _ => fun
  | [d1, d2] => { results := [.lit (.bool true)], args := [d1, d2] }
  | _ => none }
def vecPastRow : OpenClaim := { program := "ytcllappmhdfffaa", sum := "e1dd8de89a5d5bd83ad79a5e552739d07eb1534ec92b84829f05ff200886bff4", func := "causeway/causewaylaw5.VecPast", spec := "vecPast", apart := false }
def VecPastSaid : Prop := vecPastRow.holds Try.pinned (OpenSpec.ofChange vecPastSpec)

/-- ITS FALSE NEIGHBOUR: 'it returns false'. Refute it at one input. -/
def vecPastWrong : ChangeSpec := { name := "vecPast", fn := fun _ => fun
  | [d1, d2] => { results := [.lit (.bool false)], args := [d1, d2] }
  | _ => none }
def VecPastWrongFalsely : Prop := vecPastRow.holds Try.pinned (OpenSpec.ofChange vecPastWrong)

/-- 'causewaylaw5.VecParts': WHATEVER THE INPUT: true; the input reads as it did. -/
def vecPartsSpec : ChangeSpec := { name := "vecParts", fn := fun _ => fun
  | [d1, d2, d3, d4, d5] => { results := [.lit (.bool true)], args := [d1, d2, d3, d4, d5] }
  | _ => none }
def vecPartsRow : OpenClaim := { program := "ytcllappmhdfffaa", sum := "e1dd8de89a5d5bd83ad79a5e552739d07eb1534ec92b84829f05ff200886bff4", func := "causeway/causewaylaw5.VecParts", spec := "vecParts", apart := false }
def VecPartsSaid : Prop := vecPartsRow.holds Try.pinned (OpenSpec.ofChange vecPartsSpec)

/-- ITS FALSE NEIGHBOUR: 'it returns false'. Refute it at one input. -/
def vecPartsWrong : ChangeSpec := { name := "vecParts", fn := fun _ => fun
  | [d1, d2, d3, d4, d5] => { results := [.lit (.bool false)], args := [d1, d2, d3, d4, d5] }
  | _ => none }
def VecPartsWrongFalsely : Prop := vecPartsRow.holds Try.pinned (OpenSpec.ofChange vecPartsWrong)

/-- 'causewaylaw5.VecWrites': WHATEVER THE INPUT: true; the input reads as it did. -/
def vecWritesSpec : ChangeSpec := { name := "vecWrites", fn := fun _ => fun
  | [d] => { results := [.lit (.bool true)], args := [d] }
  | _ => none }
def vecWritesRow : OpenClaim := { program := "ytcllappmhdfffaa", sum := "e1dd8de89a5d5bd83ad79a5e552739d07eb1534ec92b84829f05ff200886bff4", func := "causeway/causewaylaw5.VecWrites", spec := "vecWrites", apart := false }
def VecWritesSaid : Prop := vecWritesRow.holds Try.pinned (OpenSpec.ofChange vecWritesSpec)

/-- ITS FALSE NEIGHBOUR: 'it returns false'. Refute it at one input. -/
def vecWritesWrong : ChangeSpec := { name := "vecWrites", fn := fun _ => fun
  | [d] => { results := [.lit (.bool false)], args := [d] }
  | _ => none }
def VecWritesWrongFalsely : Prop := vecWritesRow.holds Try.pinned (OpenSpec.ofChange vecWritesWrong)

/-- 'causewaylaw5.VecRows': WHATEVER THE INPUT: true; the input reads as it did. -/
def vecRowsSpec : ChangeSpec := { name := "vecRows", fn := fun _ => fun
  | [d1, d2, d3] => { results := [.lit (.bool true)], args := [d1, d2, d3] }
  | _ => none }
def vecRowsRow : OpenClaim := { program := "ytcllappmhdfffaa", sum := "e1dd8de89a5d5bd83ad79a5e552739d07eb1534ec92b84829f05ff200886bff4", func := "causeway/causewaylaw5.VecRows", spec := "vecRows", apart := false }
def VecRowsSaid : Prop := vecRowsRow.holds Try.pinned (OpenSpec.ofChange vecRowsSpec)

/-- ITS FALSE NEIGHBOUR: 'it returns false'. Refute it at one input. -/
def vecRowsWrong : ChangeSpec := { name := "vecRows", fn := fun _ => fun
  | [d1, d2, d3] => { results := [.lit (.bool false)], args := [d1, d2, d3] }
  | _ => none }
def VecRowsWrongFalsely : Prop := vecRowsRow.holds Try.pinned (OpenSpec.ofChange vecRowsWrong)

/- THE SECOND FORM. 'bulk': how many values and letters a reading holds, each counted each time it is reached (what is shared counts as often as it is met; a slice's spare places count too). A statement '..UptoSaid' is the law's where the arguments, and the package variables that the reading takes, are together of bulk at most 1048576: NARROWER than '..Said'. Prove '..Said' where nothing that the law and all that it calls make is longer than what came in: it says more and counts as full. Else prove '..UptoSaid'. A law counts once. -/
mutual
def uptoBulk {H : Type} : DataW H → Nat
  | .lit (.string bytes) => bytes.length + 1
  | .lit _ => 1
  | .nil => 1
  | .ptr d => uptoBulk d + 1
  | .slice elems spare => uptoBulkAll elems + uptoBulkAll spare + 1
  | .agg parts => uptoBulkAll parts + 1
  | .iface _ d => uptoBulk d + 1
  | .map entries => uptoBulkEntries entries + 1
  | .held _ => 1
def uptoBulkAll {H : Type} : List (DataW H) → Nat
  | [] => 0
  | d :: r => uptoBulk d + uptoBulkAll r
def uptoBulkEntries {H : Type} : List (Lit × DataW H) → Nat
  | [] => 0
  | x :: r => uptoBulkEntry x + uptoBulkEntries r
def uptoBulkEntry {H : Type} : Lit × DataW H → Nat
  | (.string bytes, d) => bytes.length + uptoBulk d + 1
  | (_, d) => uptoBulk d + 1
 end
def uptoSmall : (H : Type) → List (DataW H) → Bool := fun _ ds => decide (uptoBulkAll ds ≤ 1048576)
def OpenSpec.upto (s : _root_.Go.ChangeSpec) : _root_.Go.OpenSpec := { _root_.Go.OpenSpec.ofChange s with cond := some uptoSmall }

/-- 'causewaylaw5.VecLattice', WHERE WHAT IT READS IS OF BULK AT MOST 1048576: true; the input reads as it did. -/
def vecLatticeUptoRow : OpenClaim := { program := "ytcllappmhdfffaa", sum := "e1dd8de89a5d5bd83ad79a5e552739d07eb1534ec92b84829f05ff200886bff4", func := "causeway/causewaylaw5.VecLattice", spec := "vecLattice", apart := false, narrowed := true }
def VecLatticeUptoSaid : Prop := vecLatticeUptoRow.holds Try.pinned (OpenSpec.upto vecLatticeSpec)

/-- 'causewaylaw5.VecOrder', WHERE WHAT IT READS IS OF BULK AT MOST 1048576: true; the input reads as it did. -/
def vecOrderUptoRow : OpenClaim := { program := "ytcllappmhdfffaa", sum := "e1dd8de89a5d5bd83ad79a5e552739d07eb1534ec92b84829f05ff200886bff4", func := "causeway/causewaylaw5.VecOrder", spec := "vecOrder", apart := false, narrowed := true }
def VecOrderUptoSaid : Prop := vecOrderUptoRow.holds Try.pinned (OpenSpec.upto vecOrderSpec)

/-- 'causewaylaw5.VecMerges', WHERE WHAT IT READS IS OF BULK AT MOST 1048576: true; the input reads as it did. -/
def vecMergesUptoRow : OpenClaim := { program := "ytcllappmhdfffaa", sum := "e1dd8de89a5d5bd83ad79a5e552739d07eb1534ec92b84829f05ff200886bff4", func := "causeway/causewaylaw5.VecMerges", spec := "vecMerges", apart := false, narrowed := true }
def VecMergesUptoSaid : Prop := vecMergesUptoRow.holds Try.pinned (OpenSpec.upto vecMergesSpec)

/-- 'causewaylaw5.VecHas', WHERE WHAT IT READS IS OF BULK AT MOST 1048576: true; the input reads as it did. -/
def vecHasUptoRow : OpenClaim := { program := "ytcllappmhdfffaa", sum := "e1dd8de89a5d5bd83ad79a5e552739d07eb1534ec92b84829f05ff200886bff4", func := "causeway/causewaylaw5.VecHas", spec := "vecHas", apart := false, narrowed := true }
def VecHasUptoSaid : Prop := vecHasUptoRow.holds Try.pinned (OpenSpec.upto vecHasSpec)

/-- 'causewaylaw5.VecNeeds', WHERE WHAT IT READS IS OF BULK AT MOST 1048576: true; the input reads as it did. -/
def vecNeedsUptoRow : OpenClaim := { program := "ytcllappmhdfffaa", sum := "e1dd8de89a5d5bd83ad79a5e552739d07eb1534ec92b84829f05ff200886bff4", func := "causeway/causewaylaw5.VecNeeds", spec := "vecNeeds", apart := false, narrowed := true }
def VecNeedsUptoSaid : Prop := vecNeedsUptoRow.holds Try.pinned (OpenSpec.upto vecNeedsSpec)

/-- 'causewaylaw5.VecTells', WHERE WHAT IT READS IS OF BULK AT MOST 1048576: true; the input reads as it did. -/
def vecTellsUptoRow : OpenClaim := { program := "ytcllappmhdfffaa", sum := "e1dd8de89a5d5bd83ad79a5e552739d07eb1534ec92b84829f05ff200886bff4", func := "causeway/causewaylaw5.VecTells", spec := "vecTells", apart := false, narrowed := true }
def VecTellsUptoSaid : Prop := vecTellsUptoRow.holds Try.pinned (OpenSpec.upto vecTellsSpec)

/-- 'causewaylaw5.VecColumns', WHERE WHAT IT READS IS OF BULK AT MOST 1048576: true; the input reads as it did. -/
def vecColumnsUptoRow : OpenClaim := { program := "ytcllappmhdfffaa", sum := "e1dd8de89a5d5bd83ad79a5e552739d07eb1534ec92b84829f05ff200886bff4", func := "causeway/causewaylaw5.VecColumns", spec := "vecColumns", apart := false, narrowed := true }
def VecColumnsUptoSaid : Prop := vecColumnsUptoRow.holds Try.pinned (OpenSpec.upto vecColumnsSpec)

/-- 'causewaylaw5.VecPast', WHERE WHAT IT READS IS OF BULK AT MOST 1048576: true; the input reads as it did. -/
def vecPastUptoRow : OpenClaim := { program := "ytcllappmhdfffaa", sum := "e1dd8de89a5d5bd83ad79a5e552739d07eb1534ec92b84829f05ff200886bff4", func := "causeway/causewaylaw5.VecPast", spec := "vecPast", apart := false, narrowed := true }
def VecPastUptoSaid : Prop := vecPastUptoRow.holds Try.pinned (OpenSpec.upto vecPastSpec)

/-- 'causewaylaw5.VecParts', WHERE WHAT IT READS IS OF BULK AT MOST 1048576: true; the input reads as it did. -/
def vecPartsUptoRow : OpenClaim := { program := "ytcllappmhdfffaa", sum := "e1dd8de89a5d5bd83ad79a5e552739d07eb1534ec92b84829f05ff200886bff4", func := "causeway/causewaylaw5.VecParts", spec := "vecParts", apart := false, narrowed := true }
def VecPartsUptoSaid : Prop := vecPartsUptoRow.holds Try.pinned (OpenSpec.upto vecPartsSpec)

/-- 'causewaylaw5.VecWrites', WHERE WHAT IT READS IS OF BULK AT MOST 1048576: true; the input reads as it did. -/
def vecWritesUptoRow : OpenClaim := { program := "ytcllappmhdfffaa", sum := "e1dd8de89a5d5bd83ad79a5e552739d07eb1534ec92b84829f05ff200886bff4", func := "causeway/causewaylaw5.VecWrites", spec := "vecWrites", apart := false, narrowed := true }
def VecWritesUptoSaid : Prop := vecWritesUptoRow.holds Try.pinned (OpenSpec.upto vecWritesSpec)

/-- 'causewaylaw5.VecRows', WHERE WHAT IT READS IS OF BULK AT MOST 1048576: true; the input reads as it did. -/
def vecRowsUptoRow : OpenClaim := { program := "ytcllappmhdfffaa", sum := "e1dd8de89a5d5bd83ad79a5e552739d07eb1534ec92b84829f05ff200886bff4", func := "causeway/causewaylaw5.VecRows", spec := "vecRows", apart := false, narrowed := true }
def VecRowsUptoSaid : Prop := vecRowsUptoRow.holds Try.pinned (OpenSpec.upto vecRowsSpec)

end Rows
end Go.Proofs.Ytcllappmhdfffaa
