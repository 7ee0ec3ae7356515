/- The tables that symbolic runs btLook things up in: types and functions of this program; each row is shown to be the program's own. -/
import Derived.Test.YtnlniclnonnigaaXwM2
import Derived.Test.YtnlniclnonnigaaRows
namespace Go.Proofs.Ytnlniclnonnigaa
open Go Go.Proofs.Aw Go.Proofs.Xw
noncomputable def tis : List (Nat × TI) := [
  (3, (.mk 1 (some false) (some [(.int .i64 (0 : Int))]) none none none none none false false none 8 (some .i64) true false)),
  (4, (.mk 1 (some false) (some [(.bool false)]) none none none none none false true none 1 none true false)),
  (23, (.mk 1 (some false) (some [(.complex .f64 0 0)]) none none none none none false false none 16 none true false)),
  (24, (.mk 1 (some false) (some [.nilFunc]) none none none none none false false none 8 none true false)),
  (25, (.mk 1 (some false) (some [.nilFunc]) none none none none none false false none 8 none true false)),
  (26, (.mk 1 (some false) (some [.nilFunc]) none none none none none false false none 8 none true false)),
  (27, (.mk 1 (some false) (some [.nilFunc]) none none none none none false false none 8 none true false)),
  (28, (.mk 1 (some false) (some [.nilFunc]) none none none none none false false none 8 none true false)),
  (29, (.mk 1 (some false) (some [(.tuple #[(.complex .f64 0 0), (.bool false)])]) none none none none none false false none 0 none true false)),
  (30, (.mk 1 (some false) (some [.nilFunc]) none none none none none false false none 8 none true false)),
  (31, (.mk 1 (some false) (some [.nilFunc]) none none none none none false false none 8 none true false)),
  (32, (.mk 1 (some false) (some [.nilFunc]) none none none none none false false none 8 none true false)),
  (33, (.mk 1 (some false) (some [.nilFunc]) none none none none none false false none 8 none true false)),
  (34, (.mk 1 (some false) (some [(.float .f64 0)]) none none none none none false false none 8 none true true)),
  (35, (.mk 1 (some false) (some [.nilFunc]) none none none none none false false none 8 none true false)),
  (36, (.mk 1 (some false) (some [(.slice none 0 0)]) none none (some (23, 1)) none none false false none 24 none true false)),
  (37, (.mk 1 (some false) (some [.nilFunc]) none none none none none false false none 8 none true false)),
  (38, (.mk 1 (some false) (some [.nilFunc]) none none none none none false false none 8 none true false)),
  (39, (.mk 1 (some false) (some [(.slice none 0 0)]) none none (some (3, 1)) none none false false none 24 none true false))]
set_option maxRecDepth 100000 in
theorem tis_all : tis = tis.map (fun p => (p.1, tiOf Try.prog p.1)) := by kernel_rfl
noncomputable def tisT : BT TI := bt_of tis 20
theorem tis_ok : TIs.ok Try.prog (fun t => btLook t tisT) := fun t i h => by
  have h1 := bt_of_mem _ _ (btLook_mem h)
  rw [tis_all] at h1
  obtain ⟨q, _, h2⟩ := List.mem_map.1 h1
  cases h2; rfl
theorem mixed : Try.prog.follows .mixedOrders = true := by kernel_rfl
def fi (fn : Func) (ms : List Nat) : FnI := ⟨fn.body.getD .skip, fn.results.toList, fn.ntmps, ms⟩
theorem fi_ok {f : Nat} {fn : Func} {ms : List Nat} (hf : Try.prog.funcs[f]? = some fn) (hb : fn.body.isSome = true) (hfit : fitsC fn.ntmps (fn.body.getD .skip) = true) (hh : hasBody Try.prog f = true) : FnOk Try.prog f (fi fn ms) := by
  obtain ⟨c, hc⟩ := Option.isSome_iff_exists.1 hb
  refine ⟨fn, hf, by simp only [fi, hc, Option.getD_some], rfl, rfl, hfit, hh⟩
theorem fo3 : FnOk Try.prog 3 (fi Try.f3 []) := fi_ok Try.func3 (by kernel_rfl) (by kernel_rfl) (by kernel_rfl)
theorem fo4 : FnOk Try.prog 4 (fi Try.f4 []) := fi_ok Try.func4 (by kernel_rfl) (by kernel_rfl) (by kernel_rfl)
theorem fo5 : FnOk Try.prog 5 (fi Try.f5 []) := fi_ok Try.func5 (by kernel_rfl) (by kernel_rfl) (by kernel_rfl)
theorem fo6 : FnOk Try.prog 6 (fi Try.f6 []) := fi_ok Try.func6 (by kernel_rfl) (by kernel_rfl) (by kernel_rfl)
theorem fo7 : FnOk Try.prog 7 (fi Try.f7 []) := fi_ok Try.func7 (by kernel_rfl) (by kernel_rfl) (by kernel_rfl)
theorem fo8 : FnOk Try.prog 8 (fi Try.f8 []) := fi_ok Try.func8 (by kernel_rfl) (by kernel_rfl) (by kernel_rfl)
theorem fo9 : FnOk Try.prog 9 (fi Try.f9 []) := fi_ok Try.func9 (by kernel_rfl) (by kernel_rfl) (by kernel_rfl)
theorem fo10 : FnOk Try.prog 10 (fi Try.f10 []) := fi_ok Try.func10 (by kernel_rfl) (by kernel_rfl) (by kernel_rfl)
theorem fo11 : FnOk Try.prog 11 (fi Try.f11 []) := fi_ok Try.func11 (by kernel_rfl) (by kernel_rfl) (by kernel_rfl)
theorem fo12 : FnOk Try.prog 12 (fi Try.f12 []) := fi_ok Try.func12 (by kernel_rfl) (by kernel_rfl) (by kernel_rfl)
theorem fo13 : FnOk Try.prog 13 (fi Try.f13 []) := fi_ok Try.func13 (by kernel_rfl) (by kernel_rfl) (by kernel_rfl)
theorem fo14 : FnOk Try.prog 14 (fi Try.f14 []) := fi_ok Try.func14 (by kernel_rfl) (by kernel_rfl) (by kernel_rfl)
theorem fo15 : FnOk Try.prog 15 (fi Try.f15 []) := fi_ok Try.func15 (by kernel_rfl) (by kernel_rfl) (by kernel_rfl)
noncomputable def fts : List (Nat × FnI) := [(3, fi Try.f3 []), (4, fi Try.f4 []), (5, fi Try.f5 []), (6, fi Try.f6 []), (7, fi Try.f7 []), (8, fi Try.f8 []), (9, fi Try.f9 []), (10, fi Try.f10 []), (11, fi Try.f11 []), (12, fi Try.f12 []), (13, fi Try.f13 []), (14, fi Try.f14 []), (15, fi Try.f15 [])]
noncomputable def ftsT : BT FnI := bt_of fts 20
noncomputable def cfgL (ks : List (Nat × List X × X)) (lp : Nat → List LoopX) : Cfg := ⟨fun t => btLook t tisT, fun f => btLook f ftsT, 1000, ks, lp⟩
noncomputable def cfg (ks : List (Nat × List X × X)) : Cfg := cfgL ks fun _ => []
theorem fts_ok : ∀ p ∈ fts, FnOk Try.prog p.1 p.2 := List.forall_mem_cons.2 ⟨fo3, List.forall_mem_cons.2 ⟨fo4, List.forall_mem_cons.2 ⟨fo5, List.forall_mem_cons.2 ⟨fo6, List.forall_mem_cons.2 ⟨fo7, List.forall_mem_cons.2 ⟨fo8, List.forall_mem_cons.2 ⟨fo9, List.forall_mem_cons.2 ⟨fo10, List.forall_mem_cons.2 ⟨fo11, List.forall_mem_cons.2 ⟨fo12, List.forall_mem_cons.2 ⟨fo13, List.forall_mem_cons.2 ⟨fo14, List.forall_mem_cons.2 ⟨fo15, List.forall_mem_nil _⟩⟩⟩⟩⟩⟩⟩⟩⟩⟩⟩⟩⟩
theorem cfg_ok {ρ : Rho} {ks : List (Nat × List X × X)} (hk : ∀ p ∈ ks, hasBody Try.prog p.1 = true ∧ ∀ n h, CY Try.prog n p.1 (X.denL ρ p.2.1) h (p.2.2.den ρ) []) : CfgOk Try.prog ρ (cfg ks) :=
  ⟨mixed, tis_ok, fun f i h => fts_ok (f, i) (bt_of_mem _ _ (btLook_mem h)), hk, fun _ _ _ => LpsOk.nil _ _ _ _⟩
theorem cfgL_ok {ρ : Rho} {ks : List (Nat × List X × X)} {lp : Nat → List LoopX} (hk : ∀ p ∈ ks, hasBody Try.prog p.1 = true ∧ ∀ n h, CY Try.prog n p.1 (X.denL ρ p.2.1) h (p.2.2.den ρ) []) (hl : ∀ f i, btLook f ftsT = some i → LpsOk Try.prog ρ i.ntmps (lp f) i.body) : CfgOk Try.prog ρ (cfgL ks lp) :=
  ⟨mixed, tis_ok, fun f i h => fts_ok (f, i) (bt_of_mem _ _ (btLook_mem h)), hk, hl⟩
end Go.Proofs.Ytnlniclnonnigaa
