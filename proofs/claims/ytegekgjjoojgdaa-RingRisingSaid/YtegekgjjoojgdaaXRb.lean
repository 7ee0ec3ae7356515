/- Whatever the input, the law RingRising returns true, and every argument reads behind the call as it read before. No condition. -/
import Derived.Test.YtegekgjjoojgdaaRows
import Derived.WalkKit
import Derived.ProofKit
import Derived.OpenShut
import Derived.Test.YtegekgjjoojgdaaXwM2
import Derived.Test.YtegekgjjoojgdaaTM9
namespace Go.Proofs.Ytegekgjjoojgdaa.ringRising
open Go Go.ChangeShapes Go.WideShapes Go.ChangeAt Go.RowKit Go.Proofs.Aw Go.Proofs.Xw
theorem own : ownKnob Try.prog.godebug = none := by kernel_rfl
theorem spec_fn (H : Type) (ds : List (DataW H)) (h : ds.length = 2) : Rows.ringRisingSpec.fn H (ds ++ []) = { results := [.lit (.bool true)], args := ds } := by
  match ds, h with
  | [d0, d1], _ => rfl
set_option maxRecDepth 100000 in
theorem runs (W : World) (vs : List Value) (hl : rgSh.length = vs.length) (hf : ∀ (i : Nat) (sh : Sh) (v : Value), rgSh[i]? = some sh → vs[i]? = some v → Fits W sh v) : CY Try.prog 0 4 (X.denL (mkR W (plain rgSh vs) vs (rgSh.map shZ)) (pats 0 0 rgSh)) [] (.sc (.bool true)) [] := by
  exact rg_law W vs hl hf
set_option maxRecDepth 100000 in
theorem lifted (os : Os) (started : os.Started) (H : Type) (enc : TypeId × Value → H) :
    ReturnsInHanded {} Try.checked os 4 .any (Rows.ringRisingSpec.pre6 enc Try.prog Try.f4 Rows.ringRisingRow.domain false) (Rows.ringRisingSpec.post enc Try.prog Try.f4 false true false false) := by
  refine returnsInHanded_of_change (C := Try.checked) own started (by kernel_rfl) Try.func4
    (ChangeSpec.witness6 (enc := enc) (C := Try.checked) false ⟨#[], #[.slice none 0 0, .int .i64 0], []⟩ 8 (by kernel_rfl) (by kernel_rfl) (by kernel_rfl) (by kernel_rfl)) ?_
  intro W base args ds gs before hval0 hW hcnd _
  exact law_calls (P := Try.prog) (shs := rgSh) (r := 4) (by kernel_rfl) (by kernel_rfl) (by kernel_rfl) rfl (fun W vs hl hf => runs W vs hl hf) hval0 hW (fun ds h => spec_fn H ds h)
theorem proved : Rows.RingRisingSaid :=
  OpenClaim.holds_of_wide 4 Try.f4 rfl rfl rfl rfl rfl rfl rfl ⟨rfl, rfl, rfl, rfl, rfl⟩ rfl rfl rfl rfl rfl (by kernel_rfl) Try.func4 (by kernel_rfl)
    (of_decide_eq_true (by kernel_rfl)) (by unfold Func.isWrapper; first | (rw [if_pos (by decide +kernel)]; kernel_rfl) | (rw [if_neg (by decide +kernel)]; exact ⟨rfl, rfl⟩))
    (fun os started H enc _ => lifted os started H enc)
end Go.Proofs.Ytegekgjjoojgdaa.ringRising
