/-
  No cell of these rows narrows 'for every input' (looked for: loops, veiled, ifaces, maps, wideKeys, modest, calm, conditions, laid).
  DERIVED. THE GIVEN ROWS OF THIS SEAT. 4 by the template 'for every input the law returns true; each argument reads behind the call as it read before'; 0 by the template 'total and deterministic' (their statements: YtdlifdoglhhnfaaTotals.lean).
  GIVEN WITH THE SEED: the statements are not yours to turn. If you find one false, say at which input.
  Laid BY PROGRAM, IN A SANDBOX (cutbox-rows.mjs): the forced cells as the released guide's own fill.sh prints them over the translation 1fb3f93f837fe5cc… (all of the seat's roots in one cut). By AI agents, Wed Nov 11 2026. No macro, syntax, notation, axiom, sorry.
-/
import Derived.Test.YtdlifdoglhhnfaaChecked
import GoSem.Claim
import GoSem.ClaimJoined
import GoSem.ClaimMapViews
import Derived.JoinedTies
import Derived.KernelRfl
namespace Go.Proofs.Ytdlifdoglhhnfaa
/- THE CELL 'sum', in the pinned program and in every row, IS THE sha256 OF THE DUMP (.gsa) THAT YtdlifdoglhhnfaaProg.lean LOADS. Nothing in Lean hashes anything: it is a label: what it is worth is what the hold of that sum in a sandbox is worth. -/
noncomputable def Try.pinned : Pinned := { name := "ytdlifdoglhhnfaa", sum := "1fb3f93f837fe5cc5164f830c5d7dbc2c7a8d45a8ec385d8157d0112b61712f0", checked := Try.checked }
namespace Rows
def none {H : Type} : Left H := { results := [], args := [] }

/-- 'causewaylaw21.TxnSettles': WHATEVER THE INPUT: true; the input reads as it did. -/
def txnSettlesSpec : ChangeSpec := { name := "txnSettles", fn := fun _ => fun
  | [d1, d2, d3, d4] => { results := [.lit (.bool true)], args := [d1, d2, d3, d4] }
  | _ => none }
def txnSettlesRow : OpenClaim := { program := "ytdlifdoglhhnfaa", sum := "1fb3f93f837fe5cc5164f830c5d7dbc2c7a8d45a8ec385d8157d0112b61712f0", func := "causeway/causewaylaw21.TxnSettles", spec := "txnSettles", apart := false }
def TxnSettlesSaid : Prop := txnSettlesRow.holds Try.pinned (OpenSpec.ofChange txnSettlesSpec)

/-- ITS FALSE NEIGHBOUR: 'it returns false'. Refute it at one input. -/
def txnSettlesWrong : ChangeSpec := { name := "txnSettles", fn := fun _ => fun
  | [d1, d2, d3, d4] => { results := [.lit (.bool false)], args := [d1, d2, d3, d4] }
  | _ => none }
def TxnSettlesWrongFalsely : Prop := txnSettlesRow.holds Try.pinned (OpenSpec.ofChange txnSettlesWrong)

/-- 'causewaylaw21.TxnPlays': WHATEVER THE INPUT: true; the input reads as it did. -/
def txnPlaysSpec : ChangeSpec := { name := "txnPlays", fn := fun _ => fun
  | [d1, d2, d3, d4] => { results := [.lit (.bool true)], args := [d1, d2, d3, d4] }
  | _ => none }
def txnPlaysRow : OpenClaim := { program := "ytdlifdoglhhnfaa", sum := "1fb3f93f837fe5cc5164f830c5d7dbc2c7a8d45a8ec385d8157d0112b61712f0", func := "causeway/causewaylaw21.TxnPlays", spec := "txnPlays", apart := false }
def TxnPlaysSaid : Prop := txnPlaysRow.holds Try.pinned (OpenSpec.ofChange txnPlaysSpec)

/-- ITS FALSE NEIGHBOUR: 'it returns false'. Refute it at one input. -/
def txnPlaysWrong : ChangeSpec := { name := "txnPlays", fn := fun _ => fun
  | [d1, d2, d3, d4] => { results := [.lit (.bool false)], args := [d1, d2, d3, d4] }
  | _ => none }
def TxnPlaysWrongFalsely : Prop := txnPlaysRow.holds Try.pinned (OpenSpec.ofChange txnPlaysWrong)

/-- 'causewaylaw21.TxnEnds': WHATEVER THE INPUT: true; the input reads as it did. -/
def txnEndsSpec : ChangeSpec := { name := "txnEnds", fn := fun _ => fun
  | [d1, d2, d3, d4] => { results := [.lit (.bool true)], args := [d1, d2, d3, d4] }
  | _ => none }
def txnEndsRow : OpenClaim := { program := "ytdlifdoglhhnfaa", sum := "1fb3f93f837fe5cc5164f830c5d7dbc2c7a8d45a8ec385d8157d0112b61712f0", func := "causeway/causewaylaw21.TxnEnds", spec := "txnEnds", apart := false }
def TxnEndsSaid : Prop := txnEndsRow.holds Try.pinned (OpenSpec.ofChange txnEndsSpec)

/-- ITS FALSE NEIGHBOUR: 'it returns false'. Refute it at one input. -/
def txnEndsWrong : ChangeSpec := { name := "txnEnds", fn := fun _ => fun
  | [d1, d2, d3, d4] => { results := [.lit (.bool false)], args := [d1, d2, d3, d4] }
  | _ => none }
def TxnEndsWrongFalsely : Prop := txnEndsRow.holds Try.pinned (OpenSpec.ofChange txnEndsWrong)

/-- 'causewaylaw21.TxnWorld': WHATEVER THE INPUT: true; the input reads as it did. -/
def txnWorldSpec : ChangeSpec := { name := "txnWorld", fn := fun _ => fun
  | [d1, d2, d3, d4] => { results := [.lit (.bool true)], args := [d1, d2, d3, d4] }
  | _ => none }
def txnWorldRow : OpenClaim := { program := "ytdlifdoglhhnfaa", sum := "1fb3f93f837fe5cc5164f830c5d7dbc2c7a8d45a8ec385d8157d0112b61712f0", func := "causeway/causewaylaw21.TxnWorld", spec := "txnWorld", apart := false }
def TxnWorldSaid : Prop := txnWorldRow.holds Try.pinned (OpenSpec.ofChange txnWorldSpec)

/-- ITS FALSE NEIGHBOUR: 'it returns false'. Refute it at one input. -/
def txnWorldWrong : ChangeSpec := { name := "txnWorld", fn := fun _ => fun
  | [d1, d2, d3, d4] => { results := [.lit (.bool false)], args := [d1, d2, d3, d4] }
  | _ => none }
def TxnWorldWrongFalsely : Prop := txnWorldRow.holds Try.pinned (OpenSpec.ofChange txnWorldWrong)

/- THE SECOND FORM. 'bulk': how many values and letters a reading holds, each counted each time it is reached (what is shared counts as often as it is met; a slice's spare places count too). A statement '..UptoSaid' is the law's where the arguments, and the package variables that the reading takes, are together of bulk at most 1048576: NARROWER than '..Said'. Prove '..Said' where nothing that the law and all that it calls make is longer than what came in: it says more and counts as full. Else prove '..UptoSaid'. A law counts once. -/
mutual
def uptoBulk {H : Type} : DataW H → Nat
  | .lit (.string bytes) => bytes.length + 1
  | .lit _ => 1
  | .nil => 1
  | .ptr d => uptoBulk d + 1
  | .slice elems spare => uptoBulkAll elems + uptoBulkAll spare + 1
  | .agg parts => uptoBulkAll parts + 1
  | .iface _ d => uptoBulk d + 1
  | .map entries => uptoBulkEntries entries + 1
  | .held _ => 1
def uptoBulkAll {H : Type} : List (DataW H) → Nat
  | [] => 0
  | d :: r => uptoBulk d + uptoBulkAll r
def uptoBulkEntries {H : Type} : List (Lit × DataW H) → Nat
  | [] => 0
  | x :: r => uptoBulkEntry x + uptoBulkEntries r
def uptoBulkEntry {H : Type} : Lit × DataW H → Nat
  | (.string bytes, d) => bytes.length + uptoBulk d + 1
  | (_, d) => uptoBulk d + 1
 end
def uptoSmall : (H : Type) → List (DataW H) → Bool := fun _ ds => decide (uptoBulkAll ds ≤ 1048576)
def OpenSpec.upto (s : _root_.Go.ChangeSpec) : _root_.Go.OpenSpec := { _root_.Go.OpenSpec.ofChange s with cond := some uptoSmall }

/-- 'causewaylaw21.TxnSettles', WHERE WHAT IT READS IS OF BULK AT MOST 1048576: true; the input reads as it did. -/
def txnSettlesUptoRow : OpenClaim := { program := "ytdlifdoglhhnfaa", sum := "1fb3f93f837fe5cc5164f830c5d7dbc2c7a8d45a8ec385d8157d0112b61712f0", func := "causeway/causewaylaw21.TxnSettles", spec := "txnSettles", apart := false, narrowed := true }
def TxnSettlesUptoSaid : Prop := txnSettlesUptoRow.holds Try.pinned (OpenSpec.upto txnSettlesSpec)

/-- 'causewaylaw21.TxnPlays', WHERE WHAT IT READS IS OF BULK AT MOST 1048576: true; the input reads as it did. -/
def txnPlaysUptoRow : OpenClaim := { program := "ytdlifdoglhhnfaa", sum := "1fb3f93f837fe5cc5164f830c5d7dbc2c7a8d45a8ec385d8157d0112b61712f0", func := "causeway/causewaylaw21.TxnPlays", spec := "txnPlays", apart := false, narrowed := true }
def TxnPlaysUptoSaid : Prop := txnPlaysUptoRow.holds Try.pinned (OpenSpec.upto txnPlaysSpec)

/-- 'causewaylaw21.TxnEnds', WHERE WHAT IT READS IS OF BULK AT MOST 1048576: true; the input reads as it did. -/
def txnEndsUptoRow : OpenClaim := { program := "ytdlifdoglhhnfaa", sum := "1fb3f93f837fe5cc5164f830c5d7dbc2c7a8d45a8ec385d8157d0112b61712f0", func := "causeway/causewaylaw21.TxnEnds", spec := "txnEnds", apart := false, narrowed := true }
def TxnEndsUptoSaid : Prop := txnEndsUptoRow.holds Try.pinned (OpenSpec.upto txnEndsSpec)

/-- 'causewaylaw21.TxnWorld', WHERE WHAT IT READS IS OF BULK AT MOST 1048576: true; the input reads as it did. -/
def txnWorldUptoRow : OpenClaim := { program := "ytdlifdoglhhnfaa", sum := "1fb3f93f837fe5cc5164f830c5d7dbc2c7a8d45a8ec385d8157d0112b61712f0", func := "causeway/causewaylaw21.TxnWorld", spec := "txnWorld", apart := false, narrowed := true }
def TxnWorldUptoSaid : Prop := txnWorldUptoRow.holds Try.pinned (OpenSpec.upto txnWorldSpec)

end Rows
end Go.Proofs.Ytdlifdoglhhnfaa
