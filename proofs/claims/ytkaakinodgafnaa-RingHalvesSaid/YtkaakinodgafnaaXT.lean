/- The tables that symbolic runs btLook things up in: types and functions of this program; each row is shown to be the program's own. -/
import Derived.Test.YtkaakinodgafnaaXwM2
import Derived.Test.YtkaakinodgafnaaRows
namespace Go.Proofs.Ytkaakinodgafnaa
open Go Go.Proofs.Aw Go.Proofs.Xw
noncomputable def tis : List (Nat × TI) := [
  (2, (.mk 1 (some false) (some [(.int .i64 (0 : Int))]) none none none none none false false none 8 (some .i64) true false)),
  (3, (.mk 1 (some false) (some [(.int .i64 (0 : Int))]) none none none none none false false none 8 (some .i64) true false)),
  (4, (.mk 1 (some false) (some [(.bool false)]) none none none none none false true none 1 none true false)),
  (5, (.mk 1 (some false) (some [(.int .u8 (0 : Int))]) none none none none none false false none 1 (some .u8) true false)),
  (9, (.mk 1 (some false) (some [(.string (.mk #[]))]) none none none none none true false none 16 none true false)),
  (23, (.mk 1 (some false) (some [(.slice none 0 0)]) none none (some (26, 1)) none none false false none 24 none true false)),
  (26, (.mk 1 (some false) (some [(.complex .f64 0 0)]) none none none none none false false none 16 none true false)),
  (30, (.mk 1 (some false) (some [(.tuple #[(.int .i64 (0 : Int)), (.int .i64 (0 : Int)), (.bool false)])]) none none none none none false false none 0 none true false)),
  (34, (.mk 1 (some false) (some [(.slice none 0 0)]) none none (some (9, 1)) none none false false none 24 none true false)),
  (41, (.mk 1 (some false) (some [(.int .u64 (0 : Int))]) none none none none none false false none 8 (some .u64) true false)),
  (42, (.mk 1 (some false) (some [(.int .u64 (0 : Int))]) none none none none none false false none 8 (some .u64) true false)),
  (43, (.mk 1 (some false) (some [(.tuple #[(.complex .f64 0 0), (.bool false)])]) none none none none none false false none 0 none true false)),
  (44, (.mk 1 (some false) (some [.nilFunc]) none none none none none false false none 8 none true false)),
  (45, (.mk 1 (some false) (some [(.tuple #[(.int .i64 (0 : Int)), (.int .i64 (0 : Int))])]) none none none none none false false none 0 none true false)),
  (46, (.mk 1 (some false) (some [.nilFunc]) none none none none none false false none 8 none true false)),
  (47, (.mk 1 (some false) (some [.nilFunc]) none none none none none false false none 8 none true false)),
  (48, (.mk 1 (some false) (some [(.float .f64 0)]) none none none none none false false none 8 none true true))]
set_option maxRecDepth 100000 in
theorem tis_all : tis = tis.map (fun p => (p.1, tiOf Try.prog p.1)) := by kernel_rfl
noncomputable def tisT : BT TI := bt_of tis 20
theorem tis_ok : TIs.ok Try.prog (fun t => btLook t tisT) := fun t i h => by
  have h1 := bt_of_mem _ _ (btLook_mem h)
  rw [tis_all] at h1
  obtain ⟨q, _, h2⟩ := List.mem_map.1 h1
  cases h2; rfl
theorem mixed : Try.prog.follows .mixedOrders = true := by kernel_rfl
def fi (fn : Func) (ms : List Nat) : FnI := ⟨fn.body.getD .skip, fn.results.toList, fn.ntmps, ms⟩
theorem fi_ok {f : Nat} {fn : Func} {ms : List Nat} (hf : Try.prog.funcs[f]? = some fn) (hb : fn.body.isSome = true) (hfit : fitsC fn.ntmps (fn.body.getD .skip) = true) (hh : hasBody Try.prog f = true) : FnOk Try.prog f (fi fn ms) := by
  obtain ⟨c, hc⟩ := Option.isSome_iff_exists.1 hb
  refine ⟨fn, hf, by simp only [fi, hc, Option.getD_some], rfl, rfl, hfit, hh⟩
theorem fo3 : FnOk Try.prog 3 (fi Try.f3 []) := fi_ok Try.func3 (by kernel_rfl) (by kernel_rfl) (by kernel_rfl)
theorem fo4 : FnOk Try.prog 4 (fi Try.f4 []) := fi_ok Try.func4 (by kernel_rfl) (by kernel_rfl) (by kernel_rfl)
theorem fo5 : FnOk Try.prog 5 (fi Try.f5 []) := fi_ok Try.func5 (by kernel_rfl) (by kernel_rfl) (by kernel_rfl)
theorem fo6 : FnOk Try.prog 6 (fi Try.f6 []) := fi_ok Try.func6 (by kernel_rfl) (by kernel_rfl) (by kernel_rfl)
theorem fo7 : FnOk Try.prog 7 (fi Try.f7 []) := fi_ok Try.func7 (by kernel_rfl) (by kernel_rfl) (by kernel_rfl)
theorem fo8 : FnOk Try.prog 8 (fi Try.f8 [6,9,12]) := fi_ok Try.func8 (by kernel_rfl) (by kernel_rfl) (by kernel_rfl)
theorem fo9 : FnOk Try.prog 9 (fi Try.f9 []) := fi_ok Try.func9 (by kernel_rfl) (by kernel_rfl) (by kernel_rfl)
theorem fo10 : FnOk Try.prog 10 (fi Try.f10 []) := fi_ok Try.func10 (by kernel_rfl) (by kernel_rfl) (by kernel_rfl)
theorem fo11 : FnOk Try.prog 11 (fi Try.f11 []) := fi_ok Try.func11 (by kernel_rfl) (by kernel_rfl) (by kernel_rfl)
theorem fo12 : FnOk Try.prog 12 (fi Try.f12 []) := fi_ok Try.func12 (by kernel_rfl) (by kernel_rfl) (by kernel_rfl)
theorem fo13 : FnOk Try.prog 13 (fi Try.f13 []) := fi_ok Try.func13 (by kernel_rfl) (by kernel_rfl) (by kernel_rfl)
theorem fo14 : FnOk Try.prog 14 (fi Try.f14 []) := fi_ok Try.func14 (by kernel_rfl) (by kernel_rfl) (by kernel_rfl)
theorem fo15 : FnOk Try.prog 15 (fi Try.f15 []) := fi_ok Try.func15 (by kernel_rfl) (by kernel_rfl) (by kernel_rfl)
theorem fo16 : FnOk Try.prog 16 (fi Try.f16 []) := fi_ok Try.func16 (by kernel_rfl) (by kernel_rfl) (by kernel_rfl)
theorem fo17 : FnOk Try.prog 17 (fi Try.f17 []) := fi_ok Try.func17 (by kernel_rfl) (by kernel_rfl) (by kernel_rfl)
theorem fo18 : FnOk Try.prog 18 (fi Try.f18 []) := fi_ok Try.func18 (by kernel_rfl) (by kernel_rfl) (by kernel_rfl)
theorem fo19 : FnOk Try.prog 19 (fi Try.f19 []) := fi_ok Try.func19 (by kernel_rfl) (by kernel_rfl) (by kernel_rfl)
theorem fo20 : FnOk Try.prog 20 (fi Try.f20 []) := fi_ok Try.func20 (by kernel_rfl) (by kernel_rfl) (by kernel_rfl)
theorem fo21 : FnOk Try.prog 21 (fi Try.f21 []) := fi_ok Try.func21 (by kernel_rfl) (by kernel_rfl) (by kernel_rfl)
theorem fo22 : FnOk Try.prog 22 (fi Try.f22 []) := fi_ok Try.func22 (by kernel_rfl) (by kernel_rfl) (by kernel_rfl)
theorem fo23 : FnOk Try.prog 23 (fi Try.f23 []) := fi_ok Try.func23 (by kernel_rfl) (by kernel_rfl) (by kernel_rfl)
theorem fo24 : FnOk Try.prog 24 (fi Try.f24 []) := fi_ok Try.func24 (by kernel_rfl) (by kernel_rfl) (by kernel_rfl)
theorem fo25 : FnOk Try.prog 25 (fi Try.f25 []) := fi_ok Try.func25 (by kernel_rfl) (by kernel_rfl) (by kernel_rfl)
theorem fo26 : FnOk Try.prog 26 (fi Try.f26 []) := fi_ok Try.func26 (by kernel_rfl) (by kernel_rfl) (by kernel_rfl)
theorem fo27 : FnOk Try.prog 27 (fi Try.f27 []) := fi_ok Try.func27 (by kernel_rfl) (by kernel_rfl) (by kernel_rfl)
theorem fo28 : FnOk Try.prog 28 (fi Try.f28 []) := fi_ok Try.func28 (by kernel_rfl) (by kernel_rfl) (by kernel_rfl)
theorem fo29 : FnOk Try.prog 29 (fi Try.f29 []) := fi_ok Try.func29 (by kernel_rfl) (by kernel_rfl) (by kernel_rfl)
theorem fo30 : FnOk Try.prog 30 (fi Try.f30 []) := fi_ok Try.func30 (by kernel_rfl) (by kernel_rfl) (by kernel_rfl)
theorem fo31 : FnOk Try.prog 31 (fi Try.f31 []) := fi_ok Try.func31 (by kernel_rfl) (by kernel_rfl) (by kernel_rfl)
theorem fo32 : FnOk Try.prog 32 (fi Try.f32 []) := fi_ok Try.func32 (by kernel_rfl) (by kernel_rfl) (by kernel_rfl)
theorem fo33 : FnOk Try.prog 33 (fi Try.f33 []) := fi_ok Try.func33 (by kernel_rfl) (by kernel_rfl) (by kernel_rfl)
theorem fo34 : FnOk Try.prog 34 (fi Try.f34 []) := fi_ok Try.func34 (by kernel_rfl) (by kernel_rfl) (by kernel_rfl)
theorem fo35 : FnOk Try.prog 35 (fi Try.f35 []) := fi_ok Try.func35 (by kernel_rfl) (by kernel_rfl) (by kernel_rfl)
theorem fo36 : FnOk Try.prog 36 (fi Try.f36 []) := fi_ok Try.func36 (by kernel_rfl) (by kernel_rfl) (by kernel_rfl)
theorem fo37 : FnOk Try.prog 37 (fi Try.f37 []) := fi_ok Try.func37 (by kernel_rfl) (by kernel_rfl) (by kernel_rfl)
theorem fo38 : FnOk Try.prog 38 (fi Try.f38 []) := fi_ok Try.func38 (by kernel_rfl) (by kernel_rfl) (by kernel_rfl)
theorem fo39 : FnOk Try.prog 39 (fi Try.f39 []) := fi_ok Try.func39 (by kernel_rfl) (by kernel_rfl) (by kernel_rfl)
theorem fo40 : FnOk Try.prog 40 (fi Try.f40 []) := fi_ok Try.func40 (by kernel_rfl) (by kernel_rfl) (by kernel_rfl)
theorem fo41 : FnOk Try.prog 41 (fi Try.f41 []) := fi_ok Try.func41 (by kernel_rfl) (by kernel_rfl) (by kernel_rfl)
theorem fo43 : FnOk Try.prog 43 (fi Try.f43 []) := fi_ok Try.func43 (by kernel_rfl) (by kernel_rfl) (by kernel_rfl)
theorem fo44 : FnOk Try.prog 44 (fi Try.f44 []) := fi_ok Try.func44 (by kernel_rfl) (by kernel_rfl) (by kernel_rfl)
noncomputable def fts : List (Nat × FnI) := [(3, fi Try.f3 []), (4, fi Try.f4 []), (5, fi Try.f5 []), (6, fi Try.f6 []), (7, fi Try.f7 []), (8, fi Try.f8 [6,9,12]), (9, fi Try.f9 []), (10, fi Try.f10 []), (11, fi Try.f11 []), (12, fi Try.f12 []), (13, fi Try.f13 []), (14, fi Try.f14 []), (15, fi Try.f15 []), (16, fi Try.f16 []), (17, fi Try.f17 []), (18, fi Try.f18 []), (19, fi Try.f19 []), (20, fi Try.f20 []), (21, fi Try.f21 []), (22, fi Try.f22 []), (23, fi Try.f23 []), (24, fi Try.f24 []), (25, fi Try.f25 []), (26, fi Try.f26 []), (27, fi Try.f27 []), (28, fi Try.f28 []), (29, fi Try.f29 []), (30, fi Try.f30 []), (31, fi Try.f31 []), (32, fi Try.f32 []), (33, fi Try.f33 []), (34, fi Try.f34 []), (35, fi Try.f35 []), (36, fi Try.f36 []), (37, fi Try.f37 []), (38, fi Try.f38 []), (39, fi Try.f39 []), (40, fi Try.f40 []), (41, fi Try.f41 []), (43, fi Try.f43 []), (44, fi Try.f44 [])]
noncomputable def ftsT : BT FnI := bt_of fts 20
noncomputable def cfgL (ks : List (Nat × List X × X)) (lp : Nat → List LoopX) : Cfg := ⟨fun t => btLook t tisT, fun f => btLook f ftsT, 1000, ks, lp⟩
noncomputable def cfg (ks : List (Nat × List X × X)) : Cfg := cfgL ks fun _ => []
theorem fts_ok : ∀ p ∈ fts, FnOk Try.prog p.1 p.2 := List.forall_mem_cons.2 ⟨fo3, List.forall_mem_cons.2 ⟨fo4, List.forall_mem_cons.2 ⟨fo5, List.forall_mem_cons.2 ⟨fo6, List.forall_mem_cons.2 ⟨fo7, List.forall_mem_cons.2 ⟨fo8, List.forall_mem_cons.2 ⟨fo9, List.forall_mem_cons.2 ⟨fo10, List.forall_mem_cons.2 ⟨fo11, List.forall_mem_cons.2 ⟨fo12, List.forall_mem_cons.2 ⟨fo13, List.forall_mem_cons.2 ⟨fo14, List.forall_mem_cons.2 ⟨fo15, List.forall_mem_cons.2 ⟨fo16, List.forall_mem_cons.2 ⟨fo17, List.forall_mem_cons.2 ⟨fo18, List.forall_mem_cons.2 ⟨fo19, List.forall_mem_cons.2 ⟨fo20, List.forall_mem_cons.2 ⟨fo21, List.forall_mem_cons.2 ⟨fo22, List.forall_mem_cons.2 ⟨fo23, List.forall_mem_cons.2 ⟨fo24, List.forall_mem_cons.2 ⟨fo25, List.forall_mem_cons.2 ⟨fo26, List.forall_mem_cons.2 ⟨fo27, List.forall_mem_cons.2 ⟨fo28, List.forall_mem_cons.2 ⟨fo29, List.forall_mem_cons.2 ⟨fo30, List.forall_mem_cons.2 ⟨fo31, List.forall_mem_cons.2 ⟨fo32, List.forall_mem_cons.2 ⟨fo33, List.forall_mem_cons.2 ⟨fo34, List.forall_mem_cons.2 ⟨fo35, List.forall_mem_cons.2 ⟨fo36, List.forall_mem_cons.2 ⟨fo37, List.forall_mem_cons.2 ⟨fo38, List.forall_mem_cons.2 ⟨fo39, List.forall_mem_cons.2 ⟨fo40, List.forall_mem_cons.2 ⟨fo41, List.forall_mem_cons.2 ⟨fo43, List.forall_mem_cons.2 ⟨fo44, List.forall_mem_nil _⟩⟩⟩⟩⟩⟩⟩⟩⟩⟩⟩⟩⟩⟩⟩⟩⟩⟩⟩⟩⟩⟩⟩⟩⟩⟩⟩⟩⟩⟩⟩⟩⟩⟩⟩⟩⟩⟩⟩⟩⟩
theorem cfg_ok {ρ : Rho} {ks : List (Nat × List X × X)} (hk : ∀ p ∈ ks, hasBody Try.prog p.1 = true ∧ ∀ n h, CY Try.prog n p.1 (X.denL ρ p.2.1) h (p.2.2.den ρ) []) : CfgOk Try.prog ρ (cfg ks) :=
  ⟨mixed, tis_ok, fun f i h => fts_ok (f, i) (bt_of_mem _ _ (btLook_mem h)), hk, fun _ _ _ => LpsOk.nil _ _ _ _⟩
theorem cfgL_ok {ρ : Rho} {ks : List (Nat × List X × X)} {lp : Nat → List LoopX} (hk : ∀ p ∈ ks, hasBody Try.prog p.1 = true ∧ ∀ n h, CY Try.prog n p.1 (X.denL ρ p.2.1) h (p.2.2.den ρ) []) (hl : ∀ f i, btLook f ftsT = some i → LpsOk Try.prog ρ i.ntmps (lp f) i.body) : CfgOk Try.prog ρ (cfgL ks lp) :=
  ⟨mixed, tis_ok, fun f i h => fts_ok (f, i) (bt_of_mem _ _ (btLook_mem h)), hk, hl⟩
end Go.Proofs.Ytkaakinodgafnaa
