/- Whatever the input, the law ClientStale returns true, and every argument reads behind the call as it read before. No condition. -/
import Derived.Test.YtpdfmnhgocpkcaaGreatRows
import Derived.WalkKit
import Derived.ProofKit
import Derived.OpenShut
import Derived.Test.YtpdfmnhgocpkcaaGreatXwM3
import Derived.Test.YtpdfmnhgocpkcaaGreatTM34
namespace Go.Proofs.YtpdfmnhgocpkcaaGreat.clientStale
open Go Go.ChangeShapes Go.WideShapes Go.ChangeAt Go.RowKit Go.Proofs.Aw Go.Proofs.Xw
theorem own : ownKnob Tryz.prog.godebug = none := by kernel_rfl
theorem arb (aR : Type) (ds : List (DataW aR)) (h : ds.length = 6) : Rows.clientStaleSpec.fn aR (ds ++ []) = { results := [.lit (.bool true)], args := ds } := by
  match ds, h with
  | [d0, d1, d2, adV, d4, atW], _ => rfl
set_option maxRecDepth 100000 in
theorem runs (ak : World) (vs : List Value) (M : kJ.length = vs.length) (hf : ∀ (i : Nat) (sh : gJ) (v : Value), kJ[i]? = some sh -> vs[i]? = some v -> rR ak sh v) (hs : Jn Tryz.prog Tryz.f7.params.toList vs) (hb : DY Tryz.prog ak Tryz.f7.params.toList vs) : CY Tryz.prog 0 7 (X.af (cz ak (mC kJ vs) vs (kJ.map rD) HB) (kG 0 0 kJ)) [] (.sc (.bool true)) [] := by
  exact arh ak vs M hf hs hb
set_option maxRecDepth 100000 in
theorem lifted (os : Os) (started : os.Started) (aR : Type) (enc : TypeId × Value -> aR) :
    ReturnsInHanded {} Tryz.checked os 7 .any (Rows.clientStaleSpec.pre6 enc Tryz.prog Tryz.f7 Rows.clientStaleRow.domain false) (Rows.clientStaleSpec.post enc Tryz.prog Tryz.f7 false true false false) := by
  refine afG (C := Tryz.checked) own started (by kernel_rfl) Tryz.func7
    (ChangeSpec.witness6 (enc := enc) (C := Tryz.checked) false ⟨#[], #[.agg #[.int .i64 0, .int .i64 0, .int .i64 0, .int .i64 0], .int .i64 0, .slice none 0 0, .agg #[.int .i64 0, .int .i64 0, .int .i64 0, .int .i64 0, .int .i64 0, .int .i64 0, .int .i64 0, .int .i64 0, .int .i64 0, .int .i64 0, .int .i64 0, .int .i64 0, .int .i64 0, .int .i64 0, .int .i64 0, .int .i64 0, .int .i64 0, .int .i64 0, .int .i64 0, .int .i64 0, .int .i64 0, .int .i64 0, .int .i64 0, .int .i64 0, .bool false, .int .i64 0, .int .i64 0, .int .i64 0, .int .i64 0, .int .i64 0, .int .i64 0, .int .i64 0, .int .i64 0, .string ⟨#[]⟩, .string ⟨#[]⟩, .bool false, .int .i64 0, .int .i64 0, .int .i64 0, .int .i64 0, .int .i64 0, .int .i64 0, .int .i64 0, .int .i64 0, .int .i64 0, .int .i64 0, .int .i64 0, .bool false, .string ⟨#[]⟩, .string ⟨#[]⟩, .bool false, .bool false, .int .i64 0, .int .i64 0, .int .i64 0, .int .i64 0, .int .i64 0, .int .i64 0, .int .i64 0, .int .i64 0, .int .i64 0, .int .i64 0, .int .i64 0, .int .i64 0, .int .i64 0, .int .i64 0, .int .i64 0, .int .i64 0, .int .i64 0, .int .i64 0, .int .i64 0, .int .i64 0, .int .i64 0, .int .i64 0], .int .i64 0, .int .i64 0], []⟩ 8 (by kernel_rfl) (by kernel_rfl) (by kernel_rfl) (by kernel_rfl)) ?_
  intro ak base args ds gs before ags hW FN
  exact ahF (P := Tryz.prog) (dQ := kJ) (nz := HB) (r := 4) apj (by kernel_rfl) (by kernel_rfl) (by kernel_rfl) rfl (fun ak vs M hf hs hb => runs ak vs M hf hs hb) ags hW FN (fun ds h => arb aR ds h)
theorem proved : Rows.ClientStaleSaid :=
  OpenClaim.holds_of_wide 7 Tryz.f7 rfl rfl rfl rfl rfl rfl rfl ⟨rfl, rfl, rfl, rfl, rfl⟩ rfl rfl rfl rfl rfl (by kernel_rfl) Tryz.func7 (by kernel_rfl)
    (of_decide_eq_true (by kernel_rfl)) (by unfold Func.isWrapper; first | (rw [if_pos (by decide +kernel)]; kernel_rfl) | (rw [if_neg (by decide +kernel)]; exact ⟨rfl, rfl⟩))
    (fun os started aR enc _ => lifted os started aR enc)
end Go.Proofs.YtpdfmnhgocpkcaaGreat.clientStale
