/-
  No cell of these rows narrows 'for every input' (looked for: loops, veiled, ifaces, maps, wideKeys, modest, calm, conditions, laid).
  DERIVED. THE GIVEN ROWS OF THIS SEAT. 7 by the template 'for every input the law returns true; each argument reads behind the call as it read before'; 0 by the template 'total and deterministic' (their statements: YtpdfmnhgocpkcaaGreatTotals.lean).
  GIVEN WITH THE SEED: the statements are not yours to turn. If you find one false, say at which input.
  Laid BY PROGRAM, IN A SANDBOX (cutbox-rows.mjs): the forced cells as the released guide's own fill.sh prints them over the translation cfa596d7fc260ee7… (all of the seat's roots in one cut). By AI agents, Wed Nov 11 2026. No macro, syntax, notation, axiom, sorry.
-/
import Derived.Test.YtpdfmnhgocpkcaaGreatChecked
import GoSem.Claim
import GoSem.ClaimJoined
import GoSem.ClaimMapViews
import Derived.JoinedTies
import Derived.KernelRfl
namespace Go.Proofs.YtpdfmnhgocpkcaaGreat
/- THE CELL 'sum', in the pinned program and in every row, IS THE sha256 OF THE DUMP (.gsa) THAT YtpdfmnhgocpkcaaGreatProg.lean LOADS. Nothing in Lean hashes anything: it is a label: what it is worth is what the hold of that sum in a sandbox is worth. -/
noncomputable def Tryz.pinned : Pinned := { name := "ytpdfmnhgocpkcaagreat", sum := "cfa596d7fc260ee7f20a0e419ca01364c665f32c8483213a520cef257d5542d7", checked := Tryz.checked }
namespace Rows
def none {H : Type} : Left H := { results := [], args := [] }

/-- 'causewaylaw22.ClientEnds': WHATEVER THE INPUT: true; the input reads as it did. -/
def clientEndsSpec : ChangeSpec := { name := "clientEnds", fn := fun _ => fun
  | [d1, d2, d3, d4] => { results := [.lit (.bool true)], args := [d1, d2, d3, d4] }
  | _ => none }
def clientEndsRow : OpenClaim := { program := "ytpdfmnhgocpkcaagreat", sum := "cfa596d7fc260ee7f20a0e419ca01364c665f32c8483213a520cef257d5542d7", func := "causeway/causewaylaw22.ClientEnds", spec := "clientEnds", apart := false }
def ClientEndsSaid : Prop := clientEndsRow.holds Tryz.pinned (OpenSpec.ofChange clientEndsSpec)

/-- ITS FALSE NEIGHBOUR: 'it returns false'. Refute it at one input. -/
def clientEndsWrong : ChangeSpec := { name := "clientEnds", fn := fun _ => fun
  | [d1, d2, d3, d4] => { results := [.lit (.bool false)], args := [d1, d2, d3, d4] }
  | _ => none }
def ClientEndsWrongFalsely : Prop := clientEndsRow.holds Tryz.pinned (OpenSpec.ofChange clientEndsWrong)

/-- 'causewaylaw22.ClientCuts': WHATEVER THE INPUT: true; the input reads as it did. -/
def clientCutsSpec : ChangeSpec := { name := "clientCuts", fn := fun _ => fun
  | [d1, d2, d3] => { results := [.lit (.bool true)], args := [d1, d2, d3] }
  | _ => none }
def clientCutsRow : OpenClaim := { program := "ytpdfmnhgocpkcaagreat", sum := "cfa596d7fc260ee7f20a0e419ca01364c665f32c8483213a520cef257d5542d7", func := "causeway/causewaylaw22.ClientCuts", spec := "clientCuts", apart := false }
def ClientCutsSaid : Prop := clientCutsRow.holds Tryz.pinned (OpenSpec.ofChange clientCutsSpec)

/-- ITS FALSE NEIGHBOUR: 'it returns false'. Refute it at one input. -/
def clientCutsWrong : ChangeSpec := { name := "clientCuts", fn := fun _ => fun
  | [d1, d2, d3] => { results := [.lit (.bool false)], args := [d1, d2, d3] }
  | _ => none }
def ClientCutsWrongFalsely : Prop := clientCutsRow.holds Tryz.pinned (OpenSpec.ofChange clientCutsWrong)

/-- 'causewaylaw22.ClientReads': WHATEVER THE INPUT: true; the input reads as it did. -/
def clientReadsSpec : ChangeSpec := { name := "clientReads", fn := fun _ => fun
  | [d1, d2, d3, d4, d5, d6, d7] => { results := [.lit (.bool true)], args := [d1, d2, d3, d4, d5, d6, d7] }
  | _ => none }
def clientReadsRow : OpenClaim := { program := "ytpdfmnhgocpkcaagreat", sum := "cfa596d7fc260ee7f20a0e419ca01364c665f32c8483213a520cef257d5542d7", func := "causeway/causewaylaw22.ClientReads", spec := "clientReads", apart := false }
def ClientReadsSaid : Prop := clientReadsRow.holds Tryz.pinned (OpenSpec.ofChange clientReadsSpec)

/-- ITS FALSE NEIGHBOUR: 'it returns false'. Refute it at one input. -/
def clientReadsWrong : ChangeSpec := { name := "clientReads", fn := fun _ => fun
  | [d1, d2, d3, d4, d5, d6, d7] => { results := [.lit (.bool false)], args := [d1, d2, d3, d4, d5, d6, d7] }
  | _ => none }
def ClientReadsWrongFalsely : Prop := clientReadsRow.holds Tryz.pinned (OpenSpec.ofChange clientReadsWrong)

/-- 'causewaylaw22.ClientPlays': WHATEVER THE INPUT: true; the input reads as it did. -/
def clientPlaysSpec : ChangeSpec := { name := "clientPlays", fn := fun _ => fun
  | [d1, d2, d3, d4] => { results := [.lit (.bool true)], args := [d1, d2, d3, d4] }
  | _ => none }
def clientPlaysRow : OpenClaim := { program := "ytpdfmnhgocpkcaagreat", sum := "cfa596d7fc260ee7f20a0e419ca01364c665f32c8483213a520cef257d5542d7", func := "causeway/causewaylaw22.ClientPlays", spec := "clientPlays", apart := false }
def ClientPlaysSaid : Prop := clientPlaysRow.holds Tryz.pinned (OpenSpec.ofChange clientPlaysSpec)

/-- ITS FALSE NEIGHBOUR: 'it returns false'. Refute it at one input. -/
def clientPlaysWrong : ChangeSpec := { name := "clientPlays", fn := fun _ => fun
  | [d1, d2, d3, d4] => { results := [.lit (.bool false)], args := [d1, d2, d3, d4] }
  | _ => none }
def ClientPlaysWrongFalsely : Prop := clientPlaysRow.holds Tryz.pinned (OpenSpec.ofChange clientPlaysWrong)

/-- 'causewaylaw22.ClientStale': WHATEVER THE INPUT: true; the input reads as it did. -/
def clientStaleSpec : ChangeSpec := { name := "clientStale", fn := fun _ => fun
  | [d1, d2, d3, d4, d5, d6] => { results := [.lit (.bool true)], args := [d1, d2, d3, d4, d5, d6] }
  | _ => none }
def clientStaleRow : OpenClaim := { program := "ytpdfmnhgocpkcaagreat", sum := "cfa596d7fc260ee7f20a0e419ca01364c665f32c8483213a520cef257d5542d7", func := "causeway/causewaylaw22.ClientStale", spec := "clientStale", apart := false }
def ClientStaleSaid : Prop := clientStaleRow.holds Tryz.pinned (OpenSpec.ofChange clientStaleSpec)

/-- ITS FALSE NEIGHBOUR: 'it returns false'. Refute it at one input. -/
def clientStaleWrong : ChangeSpec := { name := "clientStale", fn := fun _ => fun
  | [d1, d2, d3, d4, d5, d6] => { results := [.lit (.bool false)], args := [d1, d2, d3, d4, d5, d6] }
  | _ => none }
def ClientStaleWrongFalsely : Prop := clientStaleRow.holds Tryz.pinned (OpenSpec.ofChange clientStaleWrong)

/-- 'causewaylaw22.ClientFresh': WHATEVER THE INPUT: true; the input reads as it did. -/
def clientFreshSpec : ChangeSpec := { name := "clientFresh", fn := fun _ => fun
  | [d1, d2, d3] => { results := [.lit (.bool true)], args := [d1, d2, d3] }
  | _ => none }
def clientFreshRow : OpenClaim := { program := "ytpdfmnhgocpkcaagreat", sum := "cfa596d7fc260ee7f20a0e419ca01364c665f32c8483213a520cef257d5542d7", func := "causeway/causewaylaw22.ClientFresh", spec := "clientFresh", apart := false }
def ClientFreshSaid : Prop := clientFreshRow.holds Tryz.pinned (OpenSpec.ofChange clientFreshSpec)

/-- ITS FALSE NEIGHBOUR: 'it returns false'. Refute it at one input. -/
def clientFreshWrong : ChangeSpec := { name := "clientFresh", fn := fun _ => fun
  | [d1, d2, d3] => { results := [.lit (.bool false)], args := [d1, d2, d3] }
  | _ => none }
def ClientFreshWrongFalsely : Prop := clientFreshRow.holds Tryz.pinned (OpenSpec.ofChange clientFreshWrong)

/-- 'causewaylaw22.ClientAsks': WHATEVER THE INPUT: true; the input reads as it did. -/
def clientAsksSpec : ChangeSpec := { name := "clientAsks", fn := fun _ => fun
  | [d1, d2, d3, d4, d5] => { results := [.lit (.bool true)], args := [d1, d2, d3, d4, d5] }
  | _ => none }
def clientAsksRow : OpenClaim := { program := "ytpdfmnhgocpkcaagreat", sum := "cfa596d7fc260ee7f20a0e419ca01364c665f32c8483213a520cef257d5542d7", func := "causeway/causewaylaw22.ClientAsks", spec := "clientAsks", apart := false }
def ClientAsksSaid : Prop := clientAsksRow.holds Tryz.pinned (OpenSpec.ofChange clientAsksSpec)

/-- ITS FALSE NEIGHBOUR: 'it returns false'. Refute it at one input. -/
def clientAsksWrong : ChangeSpec := { name := "clientAsks", fn := fun _ => fun
  | [d1, d2, d3, d4, d5] => { results := [.lit (.bool false)], args := [d1, d2, d3, d4, d5] }
  | _ => none }
def ClientAsksWrongFalsely : Prop := clientAsksRow.holds Tryz.pinned (OpenSpec.ofChange clientAsksWrong)

/- THE SECOND FORM. 'bulk': how many values and letters a reading holds, each counted each time it is reached (what is shared counts as often as it is met; a slice's spare places count too). A statement '..UptoSaid' is the law's where the arguments, and the package variables that the reading takes, are together of bulk at most 1048576: NARROWER than '..Said'. Prove '..Said' where nothing that the law and all that it calls make is longer than what came in: it says more and counts as full. Else prove '..UptoSaid'. A law counts once. -/
mutual
def uptoBulk {H : Type} : DataW H → Nat
  | .lit (.string bytes) => bytes.length + 1
  | .lit _ => 1
  | .nil => 1
  | .ptr d => uptoBulk d + 1
  | .slice elems spare => uptoBulkAll elems + uptoBulkAll spare + 1
  | .agg parts => uptoBulkAll parts + 1
  | .iface _ d => uptoBulk d + 1
  | .map entries => uptoBulkEntries entries + 1
  | .held _ => 1
def uptoBulkAll {H : Type} : List (DataW H) → Nat
  | [] => 0
  | d :: r => uptoBulk d + uptoBulkAll r
def uptoBulkEntries {H : Type} : List (Lit × DataW H) → Nat
  | [] => 0
  | x :: r => uptoBulkEntry x + uptoBulkEntries r
def uptoBulkEntry {H : Type} : Lit × DataW H → Nat
  | (.string bytes, d) => bytes.length + uptoBulk d + 1
  | (_, d) => uptoBulk d + 1
 end
def uptoSmall : (H : Type) → List (DataW H) → Bool := fun _ ds => decide (uptoBulkAll ds ≤ 1048576)
def OpenSpec.upto (s : _root_.Go.ChangeSpec) : _root_.Go.OpenSpec := { _root_.Go.OpenSpec.ofChange s with cond := some uptoSmall }

/-- 'causewaylaw22.ClientEnds', WHERE WHAT IT READS IS OF BULK AT MOST 1048576: true; the input reads as it did. -/
def clientEndsUptoRow : OpenClaim := { program := "ytpdfmnhgocpkcaagreat", sum := "cfa596d7fc260ee7f20a0e419ca01364c665f32c8483213a520cef257d5542d7", func := "causeway/causewaylaw22.ClientEnds", spec := "clientEnds", apart := false, narrowed := true }
def ClientEndsUptoSaid : Prop := clientEndsUptoRow.holds Tryz.pinned (OpenSpec.upto clientEndsSpec)

/-- 'causewaylaw22.ClientCuts', WHERE WHAT IT READS IS OF BULK AT MOST 1048576: true; the input reads as it did. -/
def clientCutsUptoRow : OpenClaim := { program := "ytpdfmnhgocpkcaagreat", sum := "cfa596d7fc260ee7f20a0e419ca01364c665f32c8483213a520cef257d5542d7", func := "causeway/causewaylaw22.ClientCuts", spec := "clientCuts", apart := false, narrowed := true }
def ClientCutsUptoSaid : Prop := clientCutsUptoRow.holds Tryz.pinned (OpenSpec.upto clientCutsSpec)

/-- 'causewaylaw22.ClientReads', WHERE WHAT IT READS IS OF BULK AT MOST 1048576: true; the input reads as it did. -/
def clientReadsUptoRow : OpenClaim := { program := "ytpdfmnhgocpkcaagreat", sum := "cfa596d7fc260ee7f20a0e419ca01364c665f32c8483213a520cef257d5542d7", func := "causeway/causewaylaw22.ClientReads", spec := "clientReads", apart := false, narrowed := true }
def ClientReadsUptoSaid : Prop := clientReadsUptoRow.holds Tryz.pinned (OpenSpec.upto clientReadsSpec)

/-- 'causewaylaw22.ClientPlays', WHERE WHAT IT READS IS OF BULK AT MOST 1048576: true; the input reads as it did. -/
def clientPlaysUptoRow : OpenClaim := { program := "ytpdfmnhgocpkcaagreat", sum := "cfa596d7fc260ee7f20a0e419ca01364c665f32c8483213a520cef257d5542d7", func := "causeway/causewaylaw22.ClientPlays", spec := "clientPlays", apart := false, narrowed := true }
def ClientPlaysUptoSaid : Prop := clientPlaysUptoRow.holds Tryz.pinned (OpenSpec.upto clientPlaysSpec)

/-- 'causewaylaw22.ClientStale', WHERE WHAT IT READS IS OF BULK AT MOST 1048576: true; the input reads as it did. -/
def clientStaleUptoRow : OpenClaim := { program := "ytpdfmnhgocpkcaagreat", sum := "cfa596d7fc260ee7f20a0e419ca01364c665f32c8483213a520cef257d5542d7", func := "causeway/causewaylaw22.ClientStale", spec := "clientStale", apart := false, narrowed := true }
def ClientStaleUptoSaid : Prop := clientStaleUptoRow.holds Tryz.pinned (OpenSpec.upto clientStaleSpec)

/-- 'causewaylaw22.ClientFresh', WHERE WHAT IT READS IS OF BULK AT MOST 1048576: true; the input reads as it did. -/
def clientFreshUptoRow : OpenClaim := { program := "ytpdfmnhgocpkcaagreat", sum := "cfa596d7fc260ee7f20a0e419ca01364c665f32c8483213a520cef257d5542d7", func := "causeway/causewaylaw22.ClientFresh", spec := "clientFresh", apart := false, narrowed := true }
def ClientFreshUptoSaid : Prop := clientFreshUptoRow.holds Tryz.pinned (OpenSpec.upto clientFreshSpec)

/-- 'causewaylaw22.ClientAsks', WHERE WHAT IT READS IS OF BULK AT MOST 1048576: true; the input reads as it did. -/
def clientAsksUptoRow : OpenClaim := { program := "ytpdfmnhgocpkcaagreat", sum := "cfa596d7fc260ee7f20a0e419ca01364c665f32c8483213a520cef257d5542d7", func := "causeway/causewaylaw22.ClientAsks", spec := "clientAsks", apart := false, narrowed := true }
def ClientAsksUptoSaid : Prop := clientAsksUptoRow.holds Tryz.pinned (OpenSpec.upto clientAsksSpec)

end Rows
end Go.Proofs.YtpdfmnhgocpkcaaGreat
