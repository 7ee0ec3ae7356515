/- Whatever the input, the law ClientReads returns true, and every argument reads behind the call as it read before. No condition. -/
import Derived.Test.YtpdfmnhgocpkcaaGreatRows
import Derived.WalkKit
import Derived.ProofKit
import Derived.OpenShut
import Derived.Test.YtpdfmnhgocpkcaaGreatXwM3
import Derived.Test.YtpdfmnhgocpkcaaGreatTM35
namespace Go.Proofs.YtpdfmnhgocpkcaaGreat.clientReads
open Go Go.ChangeShapes Go.WideShapes Go.ChangeAt Go.RowKit Go.Proofs.Aw Go.Proofs.Xw
theorem own : ownKnob Tryz.prog.godebug = none := by kernel_rfl
theorem ax7 (H : Type) (ds : List (DataW H)) (h : ds.length = 7) : Rows.clientReadsSpec.fn H (ds ++ []) = { results := [.lit (.bool true)], args := ds } := by
  match ds, h with
  | [d0, d1, d2, d3, d4, d5, d6], _ => rfl
set_option maxRecDepth 100000 in
theorem runs (W : World) (vs : List Value) (hl : rdSh.length = vs.length) (hf : ∀ (i : Nat) (sh : Sh2) (v : Value), rdSh[i]? = some sh -> vs[i]? = some v -> CJ W sh v) (hs : Short Tryz.prog Tryz.f5.params.toList vs) (hb : SBs Tryz.prog W Tryz.f5.params.toList vs) : CY Tryz.prog 0 5 (X.denL (gQ W (lW rdSh vs) vs (rdSh.map JP) aA0) (oQ 0 0 rdSh)) [] (.sc (.bool true)) [] := by
  exact aZ7 W vs hl hf hs hb
set_option maxRecDepth 100000 in
theorem lifted (os : Os) (started : os.Started) (H : Type) (enc : TypeId × Value -> H) :
    ReturnsInHanded {} Tryz.checked os 5 .any (Rows.clientReadsSpec.pre6 enc Tryz.prog Tryz.f5 Rows.clientReadsRow.domain false) (Rows.clientReadsSpec.post enc Tryz.prog Tryz.f5 false true false false) := by
  refine KZ (C := Tryz.checked) own started (by kernel_rfl) Tryz.func5
    (ChangeSpec.witness6 (enc := enc) (C := Tryz.checked) false ⟨#[], #[.agg #[.int .i64 0, .int .i64 0, .int .i64 0, .int .i64 0], .int .i64 0, .slice none 0 0, .string ⟨#[]⟩, .agg #[.int .i64 0, .int .i64 0, .int .i64 0, .int .i64 0, .int .i64 0, .int .i64 0, .int .i64 0, .int .i64 0, .int .i64 0, .int .i64 0, .bool false, .int .i64 0, .int .i64 0], .agg #[.int .i64 0, .int .i64 0, .int .i64 0, .int .i64 0, .int .i64 0, .int .i64 0, .string ⟨#[]⟩, .string ⟨#[]⟩, .bool false, .int .i64 0, .int .i64 0, .int .i64 0, .int .i64 0, .int .i64 0, .int .i64 0, .int .i64 0, .int .i64 0, .int .i64 0, .int .i64 0, .int .i64 0], .bool false], []⟩ 8 (by kernel_rfl) (by kernel_rfl) (by kernel_rfl) (by kernel_rfl)) ?_
  intro W base args ds gs before hval0 hW hwt
  exact QP (P := Tryz.prog) (shs := rdSh) (nz := aA0) (r := 4) az7 (by kernel_rfl) (by kernel_rfl) (by kernel_rfl) rfl (fun W vs hl hf hs hb => runs W vs hl hf hs hb) hval0 hW hwt (fun ds h => ax7 H ds h)
theorem proved : Rows.ClientReadsSaid :=
  OpenClaim.holds_of_wide 5 Tryz.f5 rfl rfl rfl rfl rfl rfl rfl ⟨rfl, rfl, rfl, rfl, rfl⟩ rfl rfl rfl rfl rfl (by kernel_rfl) Tryz.func5 (by kernel_rfl)
    (of_decide_eq_true (by kernel_rfl)) (by unfold Func.isWrapper; first | (rw [if_pos (by decide +kernel)]; kernel_rfl) | (rw [if_neg (by decide +kernel)]; exact ⟨rfl, rfl⟩))
    (fun os started H enc _ => lifted os started H enc)
end Go.Proofs.YtpdfmnhgocpkcaaGreat.clientReads
