/- Whatever the input, the law TxnWorld returns true, and every argument reads behind the call as it read before. No condition. -/
import Derived.Test.YtdlifdoglhhnfaaRows
import Derived.WalkKit
import Derived.ProofKit
import Derived.OpenShut
import Derived.Test.YtdlifdoglhhnfaaXwM2
import Derived.Test.YtdlifdoglhhnfaaTM10
namespace Go.Proofs.Ytdlifdoglhhnfaa.txnWorld
open Go Go.ChangeShapes Go.WideShapes Go.ChangeAt Go.RowKit Go.Proofs.Aw Go.Proofs.Xw
theorem own : ownKnob Try.prog.godebug = none := by kernel_rfl
theorem spec_fn (H : Type) (ds : List (DataW H)) (h : ds.length = 4) : Rows.txnWorldSpec.fn H (ds ++ []) = { results := [.lit (.bool true)], args := ds } := by
  match ds, h with
  | [d0, d1, d2, d3], _ => rfl
set_option maxRecDepth 100000 in
theorem runs (W : World) (vs : List Value) (hl : wdSh.length = vs.length) (hf : ∀ (i : Nat) (sh : Sh2) (v : Value), wdSh[i]? = some sh → vs[i]? = some v → Fits2 W sh v) (hs : Short Try.prog Try.f6.params.toList vs) : CY Try.prog 0 6 (X.denL (mkR2 W (plain2 wdSh vs) vs (wdSh.map shZ2) wdNz) (pats2 0 0 wdSh)) [] (.sc (.bool true)) [] := by
  exact wl_law W vs hl hf hs
set_option maxRecDepth 100000 in
theorem lifted (os : Os) (started : os.Started) (H : Type) (enc : TypeId × Value → H) :
    ReturnsInHanded {} Try.checked os 6 .any (Rows.txnWorldSpec.pre6 enc Try.prog Try.f6 Rows.txnWorldRow.domain false) (Rows.txnWorldSpec.post enc Try.prog Try.f6 false true false false) := by
  refine handed_sized (C := Try.checked) own started (by kernel_rfl) Try.func6
    (ChangeSpec.witness6 (enc := enc) (C := Try.checked) false ⟨#[], #[.int .i64 0, .slice none 0 0, .slice none 0 0, .slice none 0 0], []⟩ 8 (by kernel_rfl) (by kernel_rfl) (by kernel_rfl) (by kernel_rfl)) ?_
  intro W base args ds gs before hval0 hW hwt
  exact law_callsN (P := Try.prog) (shs := wdSh) (nz := wdNz) (r := 4) wd_shOk (by kernel_rfl) (by kernel_rfl) (by kernel_rfl) rfl (fun W vs hl hf hs => runs W vs hl hf hs) hval0 hW hwt (fun ds h => spec_fn H ds h)
theorem proved : Rows.TxnWorldSaid :=
  OpenClaim.holds_of_wide 6 Try.f6 rfl rfl rfl rfl rfl rfl rfl ⟨rfl, rfl, rfl, rfl, rfl⟩ rfl rfl rfl rfl rfl (by kernel_rfl) Try.func6 (by kernel_rfl)
    (of_decide_eq_true (by kernel_rfl)) (by unfold Func.isWrapper; first | (rw [if_pos (by decide +kernel)]; kernel_rfl) | (rw [if_neg (by decide +kernel)]; exact ⟨rfl, rfl⟩))
    (fun os started H enc _ => lifted os started H enc)
end Go.Proofs.Ytdlifdoglhhnfaa.txnWorld
