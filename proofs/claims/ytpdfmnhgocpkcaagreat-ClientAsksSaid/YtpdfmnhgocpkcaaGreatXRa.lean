/- Whatever the input, the law ClientAsks returns true, and every argument reads behind the call as it read before. No condition. -/
import Derived.Test.YtpdfmnhgocpkcaaGreatRows
import Derived.WalkKit
import Derived.ProofKit
import Derived.OpenShut
import Derived.Test.YtpdfmnhgocpkcaaGreatXwK3
import Derived.Test.YtpdfmnhgocpkcaaGreatTK44
namespace Go.Proofs.YtpdfmnhgocpkcaaGreat.clientAsks
open Go Go.ChangeShapes Go.WideShapes Go.ChangeAt Go.RowKit Go.Proofs.Aw Go.Proofs.Xw
theorem own : ownKnob Tryz.prog.godebug = none := by kernel_rfl
theorem art (aR : Type) (ds : List (DataW aR)) (h : ds.length = 5) : Rows.clientAsksSpec.fn aR (ds ++ []) = { results := [.lit (.bool true)], args := ds } := by
  match ds, h with
  | [d0, d1, d2, aeo, d4], _ => rfl
set_option maxRecDepth 100000 in
theorem runs (aj : World) (vs : List Value) (O : jh.length = vs.length) (hf : ∀ (i : Nat) (sh : gS) (v : Value), jh[i]? = some sh -> vs[i]? = some v -> qt aj sh v) (hs : JI Tryz.prog Tryz.f9.params.toList vs) (hb : Ei Tryz.prog aj Tryz.f9.params.toList vs) : CY Tryz.prog 0 9 (X.af (b_ aj (jW jh vs) vs (jh.map oZ) CX) (jg 0 0 jh)) [] (.sc (.bool true)) [] := by
  exact ac9 aj vs O hf hs hb
set_option maxRecDepth 100000 in
theorem lifted (os : Os) (started : os.Started) (aR : Type) (enc : TypeId × Value -> aR) :
    ReturnsInHanded {} Tryz.checked os 9 .any (Rows.clientAsksSpec.pre6 enc Tryz.prog Tryz.f9 Rows.clientAsksRow.domain false) (Rows.clientAsksSpec.post enc Tryz.prog Tryz.f9 false true false false) := by
  refine afY (C := Tryz.checked) own started (by kernel_rfl) Tryz.func9
    (ChangeSpec.witness6 (enc := enc) (C := Tryz.checked) false ⟨#[], #[.agg #[.int .i64 0, .int .i64 0, .int .i64 0, .int .i64 0], .int .i64 0, .slice none 0 0, .agg #[.int .i64 0, .slice none 0 0, .string ⟨#[]⟩, .int .i64 0], .agg #[.int .i64 0, .int .i64 0, .int .i64 0, .int .i64 0, .int .i64 0, .int .i64 0, .int .i64 0, .int .i64 0, .int .i64 0, .int .i64 0, .bool false, .int .i64 0, .int .i64 0]], []⟩ 8 (by kernel_rfl) (by kernel_rfl) (by kernel_rfl) (by kernel_rfl)) ?_
  intro aj base args ds gs before agJ hW F6
  exact ahW (P := Tryz.prog) (dQ := jh) (nz := CX) (r := 4) apD (by kernel_rfl) (by kernel_rfl) (by kernel_rfl) rfl (fun aj vs O hf hs hb => runs aj vs O hf hs hb) agJ hW F6 (fun ds h => art aR ds h)
theorem proved : Rows.ClientAsksSaid :=
  OpenClaim.holds_of_wide 9 Tryz.f9 rfl rfl rfl rfl rfl rfl rfl ⟨rfl, rfl, rfl, rfl, rfl⟩ rfl rfl rfl rfl rfl (by kernel_rfl) Tryz.func9 (by kernel_rfl)
    (of_decide_eq_true (by kernel_rfl)) (by unfold Func.isWrapper; first | (rw [if_pos (by decide +kernel)]; kernel_rfl) | (rw [if_neg (by decide +kernel)]; exact ⟨rfl, rfl⟩))
    (fun os started aR enc _ => lifted os started aR enc)
end Go.Proofs.YtpdfmnhgocpkcaaGreat.clientAsks
