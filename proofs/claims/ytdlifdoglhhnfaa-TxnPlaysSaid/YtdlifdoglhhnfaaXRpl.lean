/- Whatever the input, the law TxnPlays returns true, and every argument reads behind the call as it read before. No condition. -/
import Derived.Test.YtdlifdoglhhnfaaRows
import Derived.WalkKit
import Derived.ProofKit
import Derived.OpenShut
import Derived.Test.YtdlifdoglhhnfaaXwM2
import Derived.Test.YtdlifdoglhhnfaaTM24
namespace Go.Proofs.Ytdlifdoglhhnfaa.txnPlays
open Go Go.ChangeShapes Go.WideShapes Go.ChangeAt Go.RowKit Go.Proofs.Aw Go.Proofs.Xw
theorem own : ownKnob Try.prog.godebug = none := by kernel_rfl
theorem spec_fn (H : Type) (ds : List (DataW H)) (h : ds.length = 4) : Rows.txnPlaysSpec.fn H (ds ++ []) = { results := [.lit (.bool true)], args := ds } := by
  match ds, h with
  | [d0, d1, d2, d3], _ => rfl
set_option maxRecDepth 100000 in
theorem runs (W : World) (vs : List Value) (hl : enSh.length = vs.length) (hf : ∀ (i : Nat) (sh : Sh) (v : Value), enSh[i]? = some sh → vs[i]? = some v → Fits W sh v) (hs : Short Try.prog Try.f4.params.toList vs) : CY Try.prog 0 4 (X.denL (mkR W (plain enSh vs) vs (enSh.map shZ)) (pats 0 0 enSh)) [] (.sc (.bool true)) [] := by
  exact pl_law W vs hl hf hs
set_option maxRecDepth 100000 in
theorem lifted (os : Os) (started : os.Started) (H : Type) (enc : TypeId × Value → H) :
    ReturnsInHanded {} Try.checked os 4 .any (Rows.txnPlaysSpec.pre6 enc Try.prog Try.f4 Rows.txnPlaysRow.domain false) (Rows.txnPlaysSpec.post enc Try.prog Try.f4 false true false false) := by
  refine handed_sized (C := Try.checked) own started (by kernel_rfl) Try.func4
    (ChangeSpec.witness6 (enc := enc) (C := Try.checked) false ⟨#[], #[.agg #[.int .i64 0, .int .i64 0, .int .i64 0, .int .i64 0, .int .i64 0, .int .i64 0, .int .i64 0, .int .i64 0, .int .i64 0], .int .i64 0, .slice none 0 0, .slice none 0 0], []⟩ 8 (by kernel_rfl) (by kernel_rfl) (by kernel_rfl) (by kernel_rfl)) ?_
  intro W base args ds gs before hval0 hW hwt
  exact law_callsS (P := Try.prog) (shs := enSh) (r := 4) (by kernel_rfl) (by kernel_rfl) (by kernel_rfl) rfl (fun W vs hl hf hs => runs W vs hl hf hs) hval0 hW hwt (fun ds h => spec_fn H ds h)
theorem proved : Rows.TxnPlaysSaid :=
  OpenClaim.holds_of_wide 4 Try.f4 rfl rfl rfl rfl rfl rfl rfl ⟨rfl, rfl, rfl, rfl, rfl⟩ rfl rfl rfl rfl rfl (by kernel_rfl) Try.func4 (by kernel_rfl)
    (of_decide_eq_true (by kernel_rfl)) (by unfold Func.isWrapper; first | (rw [if_pos (by decide +kernel)]; kernel_rfl) | (rw [if_neg (by decide +kernel)]; exact ⟨rfl, rfl⟩))
    (fun os started H enc _ => lifted os started H enc)
end Go.Proofs.Ytdlifdoglhhnfaa.txnPlays
