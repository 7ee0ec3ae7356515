/- Whatever the input, the law ChainBounds returns true, and every argument reads behind the call as it read before. No condition. -/
import Derived.Test.YtonefailiekemaaRows
import Derived.WalkKit
import Derived.ProofKit
import Derived.OpenShut
import Derived.Test.YtonefailiekemaaXwM2
import Derived.Test.YtonefailiekemaaGN
namespace Go.Proofs.Ytonefailiekemaa.chainBounds
open Go Go.ChangeShapes Go.WideShapes Go.ChangeAt Go.RowKit Go.Proofs.Aw Go.Proofs.Xw
theorem own : ownKnob Try.prog.godebug = none := by kernel_rfl
theorem spec_fn (H : Type) (ds : List (DataW H)) (h : ds.length = 4) : Rows.chainBoundsSpec.fn H (ds ++ []) = { results := [.lit (.bool true)], args := ds } := by
  match ds, h with
  | [d0, d1, d2, d3], _ => rfl
set_option maxRecDepth 100000 in
theorem runs (W : World) (vs : List Value) : CY Try.prog 0 6 (X.denL (mkR W (plain bnSh vs) vs (bnSh.map shZ)) (pats 0 0 bnSh)) [] (.sc (.bool true)) [] := by
  exact bn_cy _
set_option maxRecDepth 100000 in
theorem lifted (os : Os) (started : os.Started) (H : Type) (enc : TypeId × Value → H) :
    ReturnsInHanded {} Try.checked os 6 .any (Rows.chainBoundsSpec.pre6 enc Try.prog Try.f6 Rows.chainBoundsRow.domain false) (Rows.chainBoundsSpec.post enc Try.prog Try.f6 false true false false) := by
  refine returnsInHanded_of_change (C := Try.checked) own started (by kernel_rfl) Try.func6
    (ChangeSpec.witness6 (enc := enc) (C := Try.checked) false ⟨#[], #[.int .i64 0, .int .i64 0, .int .i64 0, .slice none 0 0], []⟩ 8 (by kernel_rfl) (by kernel_rfl) (by kernel_rfl) (by kernel_rfl)) ?_
  intro W base args ds gs before hval0 hW hcnd _
  exact law_calls (P := Try.prog) (shs := bnSh) (r := 4) (by kernel_rfl) (by kernel_rfl) (by kernel_rfl) rfl (fun W vs _ _ => runs W vs) hval0 hW (fun ds h => spec_fn H ds h)
theorem proved : Rows.ChainBoundsSaid :=
  OpenClaim.holds_of_wide 6 Try.f6 rfl rfl rfl rfl rfl rfl rfl ⟨rfl, rfl, rfl, rfl, rfl⟩ rfl rfl rfl rfl rfl (by kernel_rfl) Try.func6 (by kernel_rfl)
    (of_decide_eq_true (by kernel_rfl)) (by unfold Func.isWrapper; first | (rw [if_pos (by decide +kernel)]; kernel_rfl) | (rw [if_neg (by decide +kernel)]; exact ⟨rfl, rfl⟩))
    (fun os started H enc _ => lifted os started H enc)
end Go.Proofs.Ytonefailiekemaa.chainBounds
