/- Whatever the input, the law ClientPlays returns true, and every argument reads behind the call as it read before. No condition. -/
import Derived.Test.YtpdfmnhgocpkcaaGreatRows
import Derived.WalkKit
import Derived.ProofKit
import Derived.OpenShut
import Derived.Test.YtpdfmnhgocpkcaaGreatXwM3
import Derived.Test.YtpdfmnhgocpkcaaGreatTM33
namespace Go.Proofs.YtpdfmnhgocpkcaaGreat.clientPlays
open Go Go.ChangeShapes Go.WideShapes Go.ChangeAt Go.RowKit Go.Proofs.Aw Go.Proofs.Xw
theorem own : ownKnob Tryz.prog.godebug = none := by kernel_rfl
theorem arH (aR : Type) (ds : List (DataW aR)) (h : ds.length = 4) : Rows.clientPlaysSpec.fn aR (ds ++ []) = { results := [.lit (.bool true)], args := ds } := by
  match ds, h with
  | [d0, d1, d2, SR], _ => rfl
set_option maxRecDepth 100000 in
theorem runs (ak : World) (vs : List Value) (M : kJ.length = vs.length) (hf : ∀ (i : Nat) (sh : gK) (v : Value), kJ[i]? = some sh -> vs[i]? = some v -> rQ ak sh v) (hs : Jm Tryz.prog Tryz.f6.params.toList vs) (hb : DX Tryz.prog ak Tryz.f6.params.toList vs) : CY Tryz.prog 0 6 (X.af (cy ak (mC kJ vs) vs (kJ.map rC) HA) (kG 0 0 kJ)) [] (.sc (.bool true)) [] := by
  exact aoK ak vs M hf hs hb
set_option maxRecDepth 100000 in
theorem lifted (os : Os) (started : os.Started) (aR : Type) (enc : TypeId × Value -> aR) :
    ReturnsInHanded {} Tryz.checked os 6 .any (Rows.clientPlaysSpec.pre6 enc Tryz.prog Tryz.f6 Rows.clientPlaysRow.domain false) (Rows.clientPlaysSpec.post enc Tryz.prog Tryz.f6 false true false false) := by
  refine afG (C := Tryz.checked) own started (by kernel_rfl) Tryz.func6
    (ChangeSpec.witness6 (enc := enc) (C := Tryz.checked) false ⟨#[], #[.agg #[.int .i64 0, .int .i64 0, .int .i64 0, .int .i64 0], .int .i64 0, .int .i64 0, .slice none 0 0], []⟩ 8 (by kernel_rfl) (by kernel_rfl) (by kernel_rfl) (by kernel_rfl)) ?_
  intro ak base args ds gs before ags hW FK
  exact ahF (P := Tryz.prog) (dQ := kJ) (nz := HA) (r := 4) apO (by kernel_rfl) (by kernel_rfl) (by kernel_rfl) rfl (fun ak vs M hf hs hb => runs ak vs M hf hs hb) ags hW FK (fun ds h => arH aR ds h)
theorem proved : Rows.ClientPlaysSaid :=
  OpenClaim.holds_of_wide 6 Tryz.f6 rfl rfl rfl rfl rfl rfl rfl ⟨rfl, rfl, rfl, rfl, rfl⟩ rfl rfl rfl rfl rfl (by kernel_rfl) Tryz.func6 (by kernel_rfl)
    (of_decide_eq_true (by kernel_rfl)) (by unfold Func.isWrapper; first | (rw [if_pos (by decide +kernel)]; kernel_rfl) | (rw [if_neg (by decide +kernel)]; exact ⟨rfl, rfl⟩))
    (fun os started aR enc _ => lifted os started aR enc)
end Go.Proofs.YtpdfmnhgocpkcaaGreat.clientPlays
