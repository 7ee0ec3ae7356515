/- Whatever the input, the law VecTells returns true, and every argument reads behind the call as it read before. No condition. -/
import Derived.Test.YtcllappmhdfffaaRows
import Derived.WalkKit
import Derived.ProofKit
import Derived.OpenShut
import Derived.Test.YtcllappmhdfffaaXw15
import Derived.Test.YtcllappmhdfffaaXL2
import Derived.Test.YtcllappmhdfffaaXP
import Derived.Test.YtcllappmhdfffaaXA7
namespace Go.Proofs.Ytcllappmhdfffaa.vecTells
open Go Go.ChangeShapes Go.WideShapes Go.ChangeAt Go.RowKit Go.Proofs.Aw Go.Proofs.Xw
theorem own : ownKnob Try.prog.godebug = none := by kernel_rfl
theorem spec_fn (H : Type) (ds : List (DataW H)) (h : ds.length = 4) : Rows.vecTellsSpec.fn H (ds ++ []) = { results := [.lit (.bool true)], args := ds } := by
  match ds, h with
  | [d0, d1, d2, d3], _ => rfl
set_option maxRecDepth 100000 in
theorem runs (W : World) (vs : List Value) : CY Try.prog 0 8 (X.denL (mkR W (plain tellsSh vs) vs (tellsSh.map shZ)) (pats 0 0 tellsSh)) [] (.sc (.bool true)) [] := by
  have h := tells_ok.2 (mkR W (plain tellsSh vs) vs (tellsSh.map shZ)) 0 []
  have e : X.den (mkR W (plain tellsSh vs) vs (tellsSh.map shZ)) tells.r = .sc (.bool true) := tells_den _
  rw [e] at h
  exact h
set_option maxRecDepth 100000 in
theorem lifted (os : Os) (started : os.Started) (H : Type) (enc : TypeId × Value → H) :
    ReturnsInHanded {} Try.checked os 8 .any (Rows.vecTellsSpec.pre6 enc Try.prog Try.f8 Rows.vecTellsRow.domain false) (Rows.vecTellsSpec.post enc Try.prog Try.f8 false true false false) := by
  refine returnsInHanded_of_change (C := Try.checked) own started (by kernel_rfl) Try.func8
    (ChangeSpec.witness6 (enc := enc) (C := Try.checked) false ⟨#[], #[.agg #[.int .i64 0,.int .i64 0,.int .i64 0,.int .i64 0,.int .i64 0,.int .i64 0,.int .i64 0,.int .i64 0,.int .i64 0], .agg #[.int .i64 0,.int .i64 0,.int .i64 0,.int .i64 0,.int .i64 0,.int .i64 0,.int .i64 0,.int .i64 0,.int .i64 0], .agg #[.int .i64 0,.int .i64 0,.int .i64 0,.int .i64 0,.int .i64 0,.int .i64 0,.string ⟨#[]⟩,.string ⟨#[]⟩,.bool false,.int .i64 0,.int .i64 0,.int .i64 0,.int .i64 0,.int .i64 0,.int .i64 0,.int .i64 0,.int .i64 0,.int .i64 0,.int .i64 0,.int .i64 0], .agg #[.int .i64 0,.int .i64 0,.int .i64 0]], []⟩ 8 (by kernel_rfl) (by kernel_rfl) (by kernel_rfl) (by kernel_rfl)) ?_
  intro W base args ds gs before hval0 hW hcnd _
  exact law_calls (P := Try.prog) (shs := tellsSh) (r := 4) (by kernel_rfl) (by kernel_rfl) (by kernel_rfl) rfl (fun W vs _ _ => runs W vs) hval0 hW (fun ds h => spec_fn H ds h)
theorem proved : Rows.VecTellsSaid :=
  OpenClaim.holds_of_wide 8 Try.f8 rfl rfl rfl rfl rfl rfl rfl ⟨rfl, rfl, rfl, rfl, rfl⟩ rfl rfl rfl rfl rfl (by kernel_rfl) Try.func8 (by kernel_rfl)
    (of_decide_eq_true (by kernel_rfl)) (by unfold Func.isWrapper; first | (rw [if_pos (by decide +kernel)]; kernel_rfl) | (rw [if_neg (by decide +kernel)]; exact ⟨rfl, rfl⟩))
    (fun os started H enc _ => lifted os started H enc)
end Go.Proofs.Ytcllappmhdfffaa.vecTells
