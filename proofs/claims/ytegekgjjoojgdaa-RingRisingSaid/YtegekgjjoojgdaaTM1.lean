/- Parts of the proof, one behind the other. -/
import Derived.Test.YtegekgjjoojgdaaXwM2
import Derived.Test.YtegekgjjoojgdaaRows
import Derived.Test.YtegekgjjoojgdaaXwM3
import Init
import Derived.Test.YtegekgjjoojgdaaXwM1
/- The tables that symbolic runs btLook things up in: types and functions of this program; each row is shown to be the program's own. -/
namespace Go.Proofs.Ytegekgjjoojgdaa
open Go Go.Proofs.Aw Go.Proofs.Xw
noncomputable def tis : List (Nat × TI) := [
  (2, (.mk 1 (some false) (some [(.int .i64 (0 : Int))]) none none none none none false false none 8 (some .i64) true false false)),
  (3, (.mk 1 (some false) (some [(.int .i64 (0 : Int))]) none none none none none false false none 8 (some .i64) true false false)),
  (4, (.mk 1 (some false) (some [(.bool false)]) none none none none none false true none 1 none true false false)),
  (5, (.mk 1 (some false) (some [(.int .u8 (0 : Int))]) none none none none none false false none 1 (some .u8) true false false)),
  (9, (.mk 1 (some false) (some [(.string (.mk #[]))]) none none none none none true false none 16 none true false false)),
  (22, (.mk 1 (some false) (some [(.slice none 0 0)]) none none (some (9, 1)) none none false false none 24 none true false false)),
  (31, (.mk 1 (some false) (some [(.complex .f64 0 0)]) none none none none none false false none 16 none true false false)),
  (32, (.mk 1 (some false) (some [(.slice none 0 0)]) none none (some (31, 1)) none none false false none 24 none true false false)),
  (42, (.mk 1 (some false) (some [(.int .u64 (0 : Int))]) none none none none none false false none 8 (some .u64) true false false)),
  (43, (.mk 1 (some false) (some [(.int .u64 (0 : Int))]) none none none none none false false none 8 (some .u64) true false false)),
  (44, (.mk 1 (some false) (some [(.tuple #[(.complex .f64 0 0), (.bool false)])]) none none none none none false false none 0 none true false false)),
  (46, (.mk 1 (some false) (some [(.tuple #[(.int .i64 (0 : Int)), (.int .i64 (0 : Int))])]) none none none none none false false none 0 none true false false)),
  (50, (.mk 1 (some false) (some [(.float .f64 0)]) none none none none none false false none 8 none true true false)),
  (53, (.mk 1 (some false) (some [(.tuple #[(.int .i64 (0 : Int)), (.int .i64 (0 : Int)), (.bool false)])]) none none none none none false false none 0 none true false false))]
set_option maxRecDepth 100000 in
theorem tis_all : tis = tis.map (fun p => (p.1, tiOf Try.prog p.1)) := by kernel_rfl
noncomputable def tisT : BT TI := bt_of tis 20
theorem tis_ok : TIs.ok Try.prog (fun t => btLook t tisT) := fun t i h => by
  have h1 := bt_of_mem _ _ (btLook_mem h)
  rw [tis_all] at h1
  obtain ⟨q, _, h2⟩ := List.mem_map.1 h1
  cases h2; rfl
theorem mixed : Try.prog.follows .mixedOrders = true := by kernel_rfl
def fi (fn : Func) (ms : List Nat) : FnI := ⟨fn.body.getD .skip, fn.results.toList, fn.ntmps, ms⟩
theorem fi_ok {f : Nat} {fn : Func} {ms : List Nat} (hf : Try.prog.funcs[f]? = some fn) (hb : fn.body.isSome = true) (hfit : fitsC fn.ntmps (fn.body.getD .skip) = true) (hh : hasBody Try.prog f = true) : FnOk Try.prog f (fi fn ms) := by
  obtain ⟨c, hc⟩ := Option.isSome_iff_exists.1 hb
  refine ⟨fn, hf, by simp only [fi, hc, Option.getD_some], rfl, rfl, hfit, hh⟩
theorem fo3 : FnOk Try.prog 3 (fi Try.f3 [10, 12, 14]) := fi_ok Try.func3 (by kernel_rfl) (by kernel_rfl) (by kernel_rfl)
theorem fo4 : FnOk Try.prog 4 (fi Try.f4 [21, 23]) := fi_ok Try.func4 (by kernel_rfl) (by kernel_rfl) (by kernel_rfl)
theorem fo5 : FnOk Try.prog 5 (fi Try.f5 []) := fi_ok Try.func5 (by kernel_rfl) (by kernel_rfl) (by kernel_rfl)
theorem fo6 : FnOk Try.prog 6 (fi Try.f6 []) := fi_ok Try.func6 (by kernel_rfl) (by kernel_rfl) (by kernel_rfl)
theorem fo7 : FnOk Try.prog 7 (fi Try.f7 []) := fi_ok Try.func7 (by kernel_rfl) (by kernel_rfl) (by kernel_rfl)
theorem fo8 : FnOk Try.prog 8 (fi Try.f8 []) := fi_ok Try.func8 (by kernel_rfl) (by kernel_rfl) (by kernel_rfl)
theorem fo9 : FnOk Try.prog 9 (fi Try.f9 [20]) := fi_ok Try.func9 (by kernel_rfl) (by kernel_rfl) (by kernel_rfl)
theorem fo10 : FnOk Try.prog 10 (fi Try.f10 []) := fi_ok Try.func10 (by kernel_rfl) (by kernel_rfl) (by kernel_rfl)
theorem fo11 : FnOk Try.prog 11 (fi Try.f11 []) := fi_ok Try.func11 (by kernel_rfl) (by kernel_rfl) (by kernel_rfl)
theorem fo12 : FnOk Try.prog 12 (fi Try.f12 [6,9,12]) := fi_ok Try.func12 (by kernel_rfl) (by kernel_rfl) (by kernel_rfl)
theorem fo13 : FnOk Try.prog 13 (fi Try.f13 [5, 7]) := fi_ok Try.func13 (by kernel_rfl) (by kernel_rfl) (by kernel_rfl)
theorem fo14 : FnOk Try.prog 14 (fi Try.f14 []) := fi_ok Try.func14 (by kernel_rfl) (by kernel_rfl) (by kernel_rfl)
theorem fo15 : FnOk Try.prog 15 (fi Try.f15 []) := fi_ok Try.func15 (by kernel_rfl) (by kernel_rfl) (by kernel_rfl)
theorem fo16 : FnOk Try.prog 16 (fi Try.f16 []) := fi_ok Try.func16 (by kernel_rfl) (by kernel_rfl) (by kernel_rfl)
theorem fo17 : FnOk Try.prog 17 (fi Try.f17 []) := fi_ok Try.func17 (by kernel_rfl) (by kernel_rfl) (by kernel_rfl)
theorem fo19 : FnOk Try.prog 19 (fi Try.f19 []) := fi_ok Try.func19 (by kernel_rfl) (by kernel_rfl) (by kernel_rfl)
theorem fo20 : FnOk Try.prog 20 (fi Try.f20 []) := fi_ok Try.func20 (by kernel_rfl) (by kernel_rfl) (by kernel_rfl)
theorem fo21 : FnOk Try.prog 21 (fi Try.f21 []) := fi_ok Try.func21 (by kernel_rfl) (by kernel_rfl) (by kernel_rfl)
theorem fo22 : FnOk Try.prog 22 (fi Try.f22 []) := fi_ok Try.func22 (by kernel_rfl) (by kernel_rfl) (by kernel_rfl)
theorem fo23 : FnOk Try.prog 23 (fi Try.f23 []) := fi_ok Try.func23 (by kernel_rfl) (by kernel_rfl) (by kernel_rfl)
theorem fo24 : FnOk Try.prog 24 (fi Try.f24 []) := fi_ok Try.func24 (by kernel_rfl) (by kernel_rfl) (by kernel_rfl)
theorem fo26 : FnOk Try.prog 26 (fi Try.f26 []) := fi_ok Try.func26 (by kernel_rfl) (by kernel_rfl) (by kernel_rfl)
theorem fo27 : FnOk Try.prog 27 (fi Try.f27 []) := fi_ok Try.func27 (by kernel_rfl) (by kernel_rfl) (by kernel_rfl)
theorem fo28 : FnOk Try.prog 28 (fi Try.f28 []) := fi_ok Try.func28 (by kernel_rfl) (by kernel_rfl) (by kernel_rfl)
theorem fo29 : FnOk Try.prog 29 (fi Try.f29 []) := fi_ok Try.func29 (by kernel_rfl) (by kernel_rfl) (by kernel_rfl)
theorem fo30 : FnOk Try.prog 30 (fi Try.f30 []) := fi_ok Try.func30 (by kernel_rfl) (by kernel_rfl) (by kernel_rfl)
theorem fo31 : FnOk Try.prog 31 (fi Try.f31 []) := fi_ok Try.func31 (by kernel_rfl) (by kernel_rfl) (by kernel_rfl)
theorem fo33 : FnOk Try.prog 33 (fi Try.f33 []) := fi_ok Try.func33 (by kernel_rfl) (by kernel_rfl) (by kernel_rfl)
theorem fo34 : FnOk Try.prog 34 (fi Try.f34 []) := fi_ok Try.func34 (by kernel_rfl) (by kernel_rfl) (by kernel_rfl)
theorem fo35 : FnOk Try.prog 35 (fi Try.f35 []) := fi_ok Try.func35 (by kernel_rfl) (by kernel_rfl) (by kernel_rfl)
noncomputable def fts : List (Nat × FnI) := [(3, fi Try.f3 [10, 12, 14]), (4, fi Try.f4 [21, 23]), (5, fi Try.f5 []), (6, fi Try.f6 []), (7, fi Try.f7 []), (8, fi Try.f8 []), (9, fi Try.f9 [20]), (10, fi Try.f10 []), (11, fi Try.f11 []), (12, fi Try.f12 [6,9,12]), (13, fi Try.f13 [5, 7]), (14, fi Try.f14 []), (15, fi Try.f15 []), (16, fi Try.f16 []), (17, fi Try.f17 []), (19, fi Try.f19 []), (20, fi Try.f20 []), (21, fi Try.f21 []), (22, fi Try.f22 []), (23, fi Try.f23 []), (24, fi Try.f24 []), (26, fi Try.f26 []), (27, fi Try.f27 []), (28, fi Try.f28 []), (29, fi Try.f29 []), (30, fi Try.f30 []), (31, fi Try.f31 []), (33, fi Try.f33 []), (34, fi Try.f34 []), (35, fi Try.f35 [])]
noncomputable def ftsT : BT FnI := bt_of fts 20
noncomputable def cfgL (ks : List (Nat × List X × X)) (lp : Nat → List LoopX) : Cfg := ⟨fun t => btLook t tisT, fun f => btLook f ftsT, 1000, ks, lp, []⟩
noncomputable def cfgH (ks : List (Nat × List X × X)) (lp : Nat → List LoopX) (kh : List HK) : Cfg := ⟨fun t => btLook t tisT, fun f => btLook f ftsT, 1000, ks, lp, kh⟩
noncomputable def cfg (ks : List (Nat × List X × X)) : Cfg := cfgL ks fun _ => []
theorem fts_ok : ∀ p ∈ fts, FnOk Try.prog p.1 p.2 := List.forall_mem_cons.2 ⟨fo3, List.forall_mem_cons.2 ⟨fo4, List.forall_mem_cons.2 ⟨fo5, List.forall_mem_cons.2 ⟨fo6, List.forall_mem_cons.2 ⟨fo7, List.forall_mem_cons.2 ⟨fo8, List.forall_mem_cons.2 ⟨fo9, List.forall_mem_cons.2 ⟨fo10, List.forall_mem_cons.2 ⟨fo11, List.forall_mem_cons.2 ⟨fo12, List.forall_mem_cons.2 ⟨fo13, List.forall_mem_cons.2 ⟨fo14, List.forall_mem_cons.2 ⟨fo15, List.forall_mem_cons.2 ⟨fo16, List.forall_mem_cons.2 ⟨fo17, List.forall_mem_cons.2 ⟨fo19, List.forall_mem_cons.2 ⟨fo20, List.forall_mem_cons.2 ⟨fo21, List.forall_mem_cons.2 ⟨fo22, List.forall_mem_cons.2 ⟨fo23, List.forall_mem_cons.2 ⟨fo24, List.forall_mem_cons.2 ⟨fo26, List.forall_mem_cons.2 ⟨fo27, List.forall_mem_cons.2 ⟨fo28, List.forall_mem_cons.2 ⟨fo29, List.forall_mem_cons.2 ⟨fo30, List.forall_mem_cons.2 ⟨fo31, List.forall_mem_cons.2 ⟨fo33, List.forall_mem_cons.2 ⟨fo34, List.forall_mem_cons.2 ⟨fo35, List.forall_mem_nil _⟩⟩⟩⟩⟩⟩⟩⟩⟩⟩⟩⟩⟩⟩⟩⟩⟩⟩⟩⟩⟩⟩⟩⟩⟩⟩⟩⟩⟩⟩
theorem cfg_ok {ρ : Rho} {ks : List (Nat × List X × X)} (hk : ∀ p ∈ ks, hasBody Try.prog p.1 = true ∧ ∀ n h, CY Try.prog n p.1 (X.denL ρ p.2.1) h (p.2.2.den ρ) []) : CfgOk Try.prog ρ (cfg ks) :=
  ⟨mixed, tis_ok, fun f i h => fts_ok (f, i) (bt_of_mem _ _ (btLook_mem h)), hk, fun _ _ _ => LpsOk.nil _ _ _ _, List.forall_mem_nil _⟩
theorem cfgL_ok {ρ : Rho} {ks : List (Nat × List X × X)} {lp : Nat → List LoopX} (hk : ∀ p ∈ ks, hasBody Try.prog p.1 = true ∧ ∀ n h, CY Try.prog n p.1 (X.denL ρ p.2.1) h (p.2.2.den ρ) []) (hl : ∀ f i, btLook f ftsT = some i → LpsOk Try.prog ρ i.ntmps (lp f) i.body) : CfgOk Try.prog ρ (cfgL ks lp) :=
  ⟨mixed, tis_ok, fun f i h => fts_ok (f, i) (bt_of_mem _ _ (btLook_mem h)), hk, hl, List.forall_mem_nil _⟩
theorem cfgH_ok {ρ : Rho} {ks : List (Nat × List X × X)} {lp : Nat → List LoopX} {kh : List HK} (hk : ∀ p ∈ ks, hasBody Try.prog p.1 = true ∧ ∀ n h, CY Try.prog n p.1 (X.denL ρ p.2.1) h (p.2.2.den ρ) []) (hl : ∀ f i, btLook f ftsT = some i → LpsOk Try.prog ρ i.ntmps (lp f) i.body) (hh : ∀ k ∈ kh, HKOk Try.prog ρ k) : CfgOk Try.prog ρ (cfgH ks lp kh) :=
  ⟨mixed, tis_ok, fun f i h => fts_ok (f, i) (bt_of_mem _ _ (btLook_mem h)), hk, hl, hh⟩
end Go.Proofs.Ytegekgjjoojgdaa

/- What functions answer, run over letters; each shown by running it. -/
namespace Go.Proofs.Ytegekgjjoojgdaa
open Go Go.Proofs.Aw Go.Proofs.Xw

def l_XS1 : List Sm := []
theorem l_XS1_ok : ∀ s ∈ l_XS1, SmOk Try.prog s := List.forall_mem_nil _
def able : Sm := ⟨5, [], (.sc (.b (.lit true)))⟩
set_option maxRecDepth 100000 in
theorem able_ok : SmOk Try.prog able := smOk (c := ⟨cfg [], l_XS1, [12]⟩) (fun _ => cfg_ok (List.forall_mem_nil _)) l_XS1_ok (by kernel_rfl)
def l_able : List Sm := able :: l_XS1
theorem l_able_ok : ∀ s ∈ l_able, SmOk Try.prog s := List.forall_mem_cons.2 ⟨able_ok, l_XS1_ok⟩
end Go.Proofs.Ytegekgjjoojgdaa

/- What is shown of loops, each by one run of its body over letters. -/
namespace Go.Proofs.Ytegekgjjoojgdaa
open Go Go.Proofs.Aw Go.Proofs.Xw
def rwS (l : Nat) : List X := [.rows 1 (.len 0) (.var l [.s])]
def slD : X := .slv (0, 0) 1 (.lit 0) (.len 0) true
def cmpX : X := .fn (.func 15) [] []
def iV (k : Nat) : X := .sc (.i .i64 (.var k))
def swA : List X := [slD, iV 1, iV 2, iV 3, cmpX]

/-! wR: letters [100] [] [] [101] -/
noncomputable def wR_c : Code := (loopsOf (Try.f35.body.getD .skip))[0]?.getD .skip
def wR_S : XS := ⟨[(10, (.sc (.i .i64 (.var 100)))), (0, (.slv (0, 0) 1 (.lit (0 : Int)) (.len 0) true)), (1, (.sc (.i .i64 (.var 1)))), (2, (.sc (.i .i64 (.var 2)))), (3, (.sc (.i .i64 (.var 3)))), (4, (.fn (.func 15) [] []))], [((0, 0), [(.rows 1 (.len 0) (.var 101 [.s]))])], 3⟩
def wR_Φ : Facts := [(.lt (.var 100) (.lit 0), false)]
def wR_b : Bind := ⟨[(100, (.op .add .i64 (.var 100) (.lit (1 : Int))))], [], [], [(101, (.len 0), (.upd (.op .add .i64 (.var 2) (.var 100)) [(.s (.cl 101 0 (.op .add .i64 (.var 1) (.var 100))))] (.upd (.op .add .i64 (.var 1) (.var 100)) [(.s (.cl 101 0 (.op .add .i64 (.var 2) (.var 100))))] (.var 101 [.s]))))]⟩
def wR_i : Bind := ⟨[(100, (.lit (0 : Int)))], [], [], [(101, (.len 0), (.var 0 [.s]))]⟩
def wR_t : T (XE × XS) := (.br (.lt (.var 100) (.var 3)) (.need (.and (.not (.lt (.op .add .i64 (.var 2) (.var 100)) (.lit (0 : Int)))) (.and (.lt (.op .add .i64 (.var 2) (.var 100)) (.len 0)) (.and (.not (.lt (.op .add .i64 (.var 1) (.var 100)) (.lit (0 : Int)))) (.lt (.op .add .i64 (.var 1) (.var 100)) (.len 0))))) (.ret (.normal, ⟨[(10, (.sc (.i .i64 (.op .add .i64 (.var 100) (.lit (1 : Int)))))), (0, (.slv (0, 0) 1 (.lit (0 : Int)) (.len 0) true)), (1, (.sc (.i .i64 (.var 1)))), (2, (.sc (.i .i64 (.var 2)))), (3, (.sc (.i .i64 (.var 3)))), (4, (.fn (.func 15) [] []))], [((0, 0), [(.rows 1 (.len 0) (.upd (.op .add .i64 (.var 2) (.var 100)) [(.s (.cl 101 0 (.op .add .i64 (.var 1) (.var 100))))] (.upd (.op .add .i64 (.var 1) (.var 100)) [(.s (.cl 101 0 (.op .add .i64 (.var 2) (.var 100))))] (.var 101 [.s]))))])], 33⟩))) (.ret ((.exit 0), ⟨[(10, (.sc (.i .i64 (.var 100)))), (0, (.slv (0, 0) 1 (.lit (0 : Int)) (.len 0) true)), (1, (.sc (.i .i64 (.var 1)))), (2, (.sc (.i .i64 (.var 2)))), (3, (.sc (.i .i64 (.var 3)))), (4, (.fn (.func 15) [] []))], [((0, 0), [(.rows 1 (.len 0) (.var 101 [.s]))])], 6⟩)))
noncomputable def wR : LoopX := ⟨((codeKey wR_c).getD 0), 2, 100, wR_S, wR_i, [], wR_t.outs⟩
set_option maxRecDepth 100000 in
theorem wR_run : (codeX (cfgL ([]) (fun _ => [])).ti (callS ⟨(cfgL ([]) (fun _ => [])), l_able, []⟩ 12) (((cfgL ([]) (fun _ => [])).ft 35).elim [] (·.ms)) wR.k0 ((fun _ => []) 35) 1000 wR_c wR_Φ wR.S).map (sqz (wR_S.t.map (·.1))) = wR_t := by kernel_rfl
theorem wR_back : wR_t.nrm (okS wR.k0 wR.n wR_b [] wR.S) = true := by kernel_rfl
theorem wR_bel : wR_t.outs.belX 102 = true := by kernel_rfl
theorem wR_ib : wR_i.bel 100 = true := by kernel_rfl
theorem wR_ig : wR_i.ge 100 = true := by kernel_rfl
theorem wR_bg : wR_b.ge 100 = true := by kernel_rfl
theorem wR_same : wR_i.same wR_b = true := by kernel_rfl
theorem wR_Sb : wR_S.bel 102 = true := by kernel_rfl
theorem wR_fits : fitsC Try.f35.ntmps wR_c = true := by kernel_rfl
end Go.Proofs.Ytegekgjjoojgdaa

/- What functions answer, run over letters, where something is known; each shown by running it. -/
namespace Go.Proofs.Ytegekgjjoojgdaa
open Go Go.Proofs.Aw Go.Proofs.Xw
noncomputable def lpS (f : Nat) : List LoopX := if Nat.beq f 35 = true then [wR] else []
theorem lpS_35o : othersB [wR] [0] 0 (loopsOf (Try.f35.body.getD .skip)) = true := by kernel_rfl
theorem lpS_35 {ρ : Rho} (h_wR : LoopOk Try.prog ρ Try.f35.ntmps wR_c wR) : LpsOk Try.prog ρ Try.f35.ntmps [wR] (Try.f35.body.getD .skip) :=
  lps_idx [0] lpS_35o (List.forall_mem_cons.2 ⟨look_list (c := wR_c) (Ls := [wR]) (by kernel_rfl) (List.forall_mem_cons.2 ⟨h_wR, List.forall_mem_nil _⟩), List.forall_mem_nil _⟩)
theorem lpS_ok {ρ : Rho} (h_wR : LoopOk Try.prog ρ Try.f35.ntmps wR_c wR) : ∀ f i, btLook f ftsT = some i → LpsOk Try.prog ρ i.ntmps (lpS f) i.body := by
  intro f i h
  have hi := fts_ok (f, i) (bt_of_mem _ _ (btLook_mem h))
  unfold lpS
  split
  · rename_i hf
    have hf := Nat.eq_of_beq_eq_true hf
    subst hf
    exact lps_row hi Try.func35 (lpS_35 h_wR)
  · exact LpsOk.nil _ _ _ _

def swH : T (X × XDl) := (.need (.not (.lt (.var 100) (.var 3))) (.ret ((.tup []), [((0, 0), some [(.rows 1 (.len 0) (.var 101 [.s]))])])))
set_option maxRecDepth 100000 in
theorem swH_run : askH ⟨cfgL [] lpS, l_able, []⟩ 35 (swA) (rwS 0) [] = swH := by kernel_rfl
end Go.Proofs.Ytegekgjjoojgdaa

/- Sorting by swaps, in plain Lean: what the steps of a stable sort do to a row, seen as a function of the place. -/
namespace Go.Proofs.Sr
/-- Two places change what they hold. -/
def swp {α : Type} (f : Nat → α) (i j : Nat) : Nat → α := fun k => if k = i then f j else if k = j then f i else f k
/-- Made by swaps of places from a to b. -/
inductive Sw {α : Type} (a b : Nat) : (Nat → α) → (Nat → α) → Prop
  | refl (f : Nat → α) : Sw a b f f
  | step {f g : Nat → α} (i j : Nat) (hi : a ≤ i ∧ i < b) (hj : a ≤ j ∧ j < b) (h : Sw a b f g) : Sw a b f (swp g i j)
theorem Sw.trans {α : Type} {a b : Nat} {f g h : Nat → α} (h1 : Sw a b f g) (h2 : Sw a b g h) : Sw a b f h := by
  induction h2 with
  | refl => exact h1
  | step i j hi hj _ ih => exact .step i j hi hj ih
theorem Sw.wide {α : Type} {a b a' b' : Nat} (ha : a' ≤ a) (hb : b ≤ b') {f g : Nat → α} (h : Sw a b f g) : Sw a' b' f g := by
  induction h with
  | refl => exact .refl _
  | step i j hi hj _ ih => exact .step i j ⟨by omega, by omega⟩ ⟨by omega, by omega⟩ ih
theorem Sw.out {α : Type} {a b : Nat} {f g : Nat → α} (h : Sw a b f g) {k : Nat} (hk : k < a ∨ b ≤ k) : g k = f k := by
  induction h with
  | refl => rfl
  | step i j hi hj _ ih =>
    unfold swp
    rw [if_neg (by omega), if_neg (by omega)]; exact ih
/-- What all of them are, they are still. -/
theorem Sw.all {α : Type} {a b : Nat} {f g : Nat → α} (h : Sw a b f g) {Q : α → Prop} (hq : ∀ k, a ≤ k → k < b → Q (f k)) : ∀ k, a ≤ k → k < b → Q (g k) := by
  induction h with
  | refl => exact hq
  | step i j hi hj _ ih =>
    intro k h1 h2
    unfold swp
    split
    · exact ih j hj.1 hj.2
    · split
      · exact ih i hi.1 hi.2
      · exact ih k h1 h2
/-- How many of the places below n hold what p tells. -/
def cnt {α : Type} (p : α → Bool) (f : Nat → α) : Nat → Nat
  | 0 => 0
  | n + 1 => cnt p f n + (if p (f n) then 1 else 0)
theorem cnt_congr {α : Type} {p : α → Bool} {f g : Nat → α} : ∀ {n : Nat}, (∀ k, k < n → p (f k) = p (g k)) → cnt p f n = cnt p g n
  | 0, _ => rfl
  | n + 1, h => by simp only [cnt]; rw [cnt_congr fun k hk => h k (by omega), h n (by omega)]
theorem cnt_set {α : Type} {p : α → Bool} {f g : Nat → α} {i : Nat} : ∀ {n : Nat}, i < n → (∀ k, k < n → k ≠ i → g k = f k) → cnt p g n + (if p (f i) then 1 else 0) = cnt p f n + (if p (g i) then 1 else 0)
  | 0, h, _ => absurd h (Nat.not_lt_zero _)
  | n + 1, h, he => by
    simp only [cnt]
    by_cases hn : i = n
    · subst hn
      rw [cnt_congr (f := g) (g := f) fun k hk => by rw [he k (by omega) (by omega)]]
      omega
    · have := cnt_set (p := p) (f := f) (g := g) (i := i) (n := n) (by omega) fun k hk => he k (by omega)
      rw [he n (by omega) (by omega)]
      omega
theorem cnt_swp {α : Type} {p : α → Bool} {f : Nat → α} {i j n : Nat} (hi : i < n) (hj : j < n) : cnt p (swp f i j) n = cnt p f n := by
  by_cases hij : i = j
  · subst hij
    refine cnt_congr fun k _ => ?_
    unfold swp
    split
    · rename_i h; rw [h]
    · rfl
  · let g : Nat → α := fun k => if k = i then f j else f k
    have e1 := cnt_set (p := p) (f := f) (g := g) hi fun k _ hk => by simp only [g]; rw [if_neg hk]
    have e2 := cnt_set (p := p) (f := g) (g := swp f i j) hj fun k _ hk => by simp only [g, swp]; rw [if_neg hk]
    have h1 : g i = f j := by simp [g]
    have h2 : g j = f j := by simp only [g]; split <;> rfl
    have h3 : swp f i j j = f i := by unfold swp; rw [if_neg fun h => hij h.symm, if_pos rfl]
    rw [h1] at e1
    rw [h2, h3] at e2
    omega
theorem Sw.cnt {α : Type} {a b : Nat} {f g : Nat → α} (h : Sw a b f g) {n : Nat} (hb : b ≤ n) (p : α → Bool) : Sr.cnt p g n = Sr.cnt p f n := by
  induction h with
  | refl => rfl
  | step i j hi hj _ ih => rw [cnt_swp (by omega) (by omega)]; exact ih
/-! ### An order -/
structure Ord {α : Type} (lt : α → α → Prop) : Prop where
  irr : ∀ a, ¬ lt a a
  tr : ∀ a b c, lt a b → lt b c → lt a c
  tot : ∀ a b, lt a b ∨ a = b ∨ lt b a
/-- Sorted from a to b. -/
def Srt {α : Type} (lt : α → α → Prop) (f : Nat → α) (a b : Nat) : Prop := ∀ i j, a ≤ i → i ≤ j → j < b → ¬ lt (f j) (f i)
theorem Ord.le_trans {α : Type} {lt : α → α → Prop} (o : Ord lt) {a b c : α} (h1 : ¬ lt b a) (h2 : ¬ lt c b) : ¬ lt c a := fun h => by
  rcases o.tot a b with h3 | h3 | h3
  · exact h2 (o.tr _ _ _ h h3)
  · subst h3; exact h2 h
  · exact h1 h3
theorem Ord.le_of_lt {α : Type} {lt : α → α → Prop} (o : Ord lt) {a b : α} (h : lt a b) : ¬ lt b a := fun k => o.irr _ (o.tr _ _ _ h k)
theorem Ord.eq_of {α : Type} {lt : α → α → Prop} (o : Ord lt) {a b : α} (h1 : ¬ lt a b) (h2 : ¬ lt b a) : a = b := by
  rcases o.tot a b with h | h | h
  · exact absurd h h1
  · exact h
  · exact absurd h h2
theorem Srt.sub {α : Type} {lt : α → α → Prop} {f : Nat → α} {a b a' b' : Nat} (h : Srt lt f a b) (ha : a ≤ a') (hb : b' ≤ b) : Srt lt f a' b' := fun i j h1 h2 h3 => h i j (by omega) h2 (by omega)
theorem Srt.congr {α : Type} {lt : α → α → Prop} {f g : Nat → α} {a b : Nat} (h : Srt lt f a b) (he : ∀ k, a ≤ k → k < b → g k = f k) : Srt lt g a b := fun i j h1 h2 h3 => by
  rw [he i h1 (by omega), he j (by omega) h3]; exact h i j h1 h2 h3
/-- Two sorted rows, all of the first at most all of the second. -/
theorem Srt.join {α : Type} {lt : α → α → Prop} {f : Nat → α} {a m b : Nat} (h1 : Srt lt f a m) (h2 : Srt lt f m b) (hl : ∀ i j, a ≤ i → i < m → m ≤ j → j < b → ¬ lt (f j) (f i)) : Srt lt f a b := fun i j h3 h4 h5 => by
  by_cases hj : j < m
  · exact h1 i j h3 h4 hj
  · by_cases hi : i < m
    · exact hl i j h3 hi (by omega) h5
    · exact h2 i j (by omega) h4 h5
/-- Of two sorted rows with the same in them all places hold the same. -/
theorem Srt.uniq {α : Type} [DecidableEq α] {lt : α → α → Prop} (o : Ord lt) {f g : Nat → α} : ∀ {n : Nat}, Srt lt f 0 n → Srt lt g 0 n → (∀ x : α, cnt (fun y => decide (y = x)) f n = cnt (fun y => decide (y = x)) g n) → ∀ k, k < n → f k = g k
  | 0, _, _, _ => fun k hk => absurd hk (Nat.not_lt_zero _)
  | n + 1, hf, hg, hc => by
    have pos : ∀ (u v : Nat → α), (∀ x : α, cnt (fun y => decide (y = x)) u (n + 1) = cnt (fun y => decide (y = x)) v (n + 1)) → ∃ k, k < n + 1 ∧ v k = u n := fun u v h => by
      have h1 := h (u n)
      have h2 : 1 ≤ cnt (fun y => decide (y = u n)) u (n + 1) := by simp only [cnt]; simp
      rw [h1] at h2
      have ex : ∀ m, 1 ≤ cnt (fun y => decide (y = u n)) v m → ∃ k, k < m ∧ v k = u n := by
        intro m
        induction m with
        | zero => intro h; simp [cnt] at h
        | succ m ih =>
          intro h
          simp only [cnt] at h
          by_cases hv : v m = u n
          · exact ⟨m, by omega, hv⟩
          · rw [if_neg (by simpa using hv)] at h
            obtain ⟨k, hk, he⟩ := ih (by omega)
            exact ⟨k, by omega, he⟩
      exact ex _ h2
    have e : f n = g n := by
      obtain ⟨k, hk, h1⟩ := pos f g hc
      obtain ⟨l, hl, h2⟩ := pos g f fun x => (hc x).symm
      have a1 := hg k n (by omega) (by omega) (by omega)
      have a2 := hf l n (by omega) (by omega) (by omega)
      rw [h1] at a1
      rw [h2] at a2
      exact o.eq_of a2 a1
    intro k hk
    by_cases hn : k = n
    · rw [hn]; exact e
    · refine Srt.uniq o (n := n) (hf.sub (by omega) (by omega)) (hg.sub (by omega) (by omega)) (fun x => ?_) k (by omega)
      have := hc x
      simp only [cnt] at this
      rw [e] at this
      omega
end Go.Proofs.Sr

/- Sorting by swaps, in plain Lean: ranges that are swapped, rows that are turned, merges. -/
namespace Go.Proofs.Sr
variable {α : Type}
/-! ### Two ranges are swapped -/
def swr (f : Nat → α) (a b j : Nat) : Nat → α := fun k => if a ≤ k ∧ k < a + j then f (k - a + b) else if b ≤ k ∧ k < b + j then f (k - b + a) else f k
theorem swr_zero (f : Nat → α) (a b : Nat) : swr f a b 0 = f := by
  funext k; unfold swr; rw [if_neg (by omega), if_neg (by omega)]
theorem swr_step (f : Nat → α) {a b n j : Nat} (hd : a + n ≤ b ∨ b + n ≤ a) (hj : j < n) : swp (swr f a b j) (a + j) (b + j) = swr f a b (j + 1) := by
  funext k
  unfold swp
  by_cases h1 : k = a + j
  · rw [if_pos h1]
    unfold swr
    rw [if_neg (by omega), if_neg (by omega), if_pos (by omega)]
    congr 1; omega
  · rw [if_neg h1]
    by_cases h2 : k = b + j
    · rw [if_pos h2]
      unfold swr
      rw [if_neg (by omega), if_neg (by omega), if_neg (by omega), if_pos (by omega)]
      congr 1; omega
    · rw [if_neg h2]
      unfold swr
      by_cases h3 : a ≤ k ∧ k < a + j
      · rw [if_pos h3, if_pos (by omega)]
      · rw [if_neg h3, if_neg (show ¬ (a ≤ k ∧ k < a + (j + 1)) by omega)]
        by_cases h4 : b ≤ k ∧ k < b + j
        · rw [if_pos h4, if_pos (by omega)]
        · rw [if_neg h4, if_neg (show ¬ (b ≤ k ∧ k < b + (j + 1)) by omega)]
theorem swr_sw (f : Nat → α) {a b n lo hi : Nat} (hd : a + n ≤ b ∨ b + n ≤ a) (ha : lo ≤ a ∧ a + n ≤ hi) (hb : lo ≤ b ∧ b + n ≤ hi) : ∀ j, j ≤ n → Sw lo hi f (swr f a b j)
  | 0, _ => by rw [swr_zero]; exact .refl _
  | j + 1, h => by
    rw [← swr_step f hd (show j < n by omega)]
    exact .step _ _ ⟨by omega, by omega⟩ ⟨by omega, by omega⟩ (swr_sw f hd ha hb j (by omega))
/-! ### A row is turned -/
/-- From s to e: what stands from m on comes first. -/
def rot (f : Nat → α) (s m e : Nat) : Nat → α := fun k => if s ≤ k ∧ k < s + (e - m) then f (k - s + m) else if s + (e - m) ≤ k ∧ k < e then f (k - (e - m)) else f k
/-- What holds between the steps: the part from m - i to m + j is still to be turned. -/
structure RotI (f : Nat → α) (s m e : Nat) (g : Nat → α) (i j : Nat) : Prop where
  hi : s + i ≤ m
  hj : m + j ≤ e
  i0 : 0 < i
  j0 : 0 < j
  out : ∀ k, k < m - i ∨ m + j ≤ k → g k = rot f s m e k
  lft : ∀ k, m - i ≤ k → k < m - i + j → rot f s m e k = g (k + i)
  rgt : ∀ k, m - i + j ≤ k → k < m + j → rot f s m e k = g (k - j)
theorem RotI.init {f : Nat → α} {s m e : Nat} (h1 : s < m) (h2 : m < e) : RotI f s m e f (m - s) (e - m) := by
  refine ⟨by omega, by omega, by omega, by omega, fun k hk => ?_, fun k hk hk2 => ?_, fun k hk hk2 => ?_⟩
  · unfold rot; rw [if_neg (by omega), if_neg (by omega)]
  · unfold rot; rw [if_pos (by omega)]; congr 1; omega
  · unfold rot; rw [if_neg (by omega), if_pos (by omega)]
theorem RotI.big {f g : Nat → α} {s m e i j : Nat} (h : RotI f s m e g i j) (hij : j < i) : RotI f s m e (swr g (m - i) m j) (i - j) j := by
  have hi := h.hi; have hj := h.hj; have j0 := h.j0
  refine ⟨by omega, by omega, by omega, j0, fun k hk => ?_, fun k hk hk2 => ?_, fun k hk hk2 => ?_⟩
  · unfold swr
    by_cases h1 : m - i ≤ k ∧ k < m - i + j
    · rw [if_pos h1, h.lft k h1.1 h1.2]; congr 1; omega
    · rw [if_neg h1, if_neg (by omega)]; exact h.out k (by omega)
  · unfold swr
    rw [if_neg (by omega)]
    by_cases h1 : k + (i - j) < m
    · rw [if_neg (by omega)]
      by_cases h2 : k < m - i + j
      · omega
      · omega
    · rw [if_pos (by omega)]
      by_cases h2 : k < m - i + j
      · omega
      · rw [h.rgt k (by omega) (by omega)]; congr 1; omega
  · rw [h.rgt k (by omega) (by omega)]
    unfold swr
    by_cases h1 : m ≤ k - j
    · omega
    · rw [if_neg (by omega), if_neg (by omega)]
theorem RotI.small {f g : Nat → α} {s m e i j : Nat} (h : RotI f s m e g i j) (hij : i < j) : RotI f s m e (swr g (m - i) (m + j - i) i) i (j - i) := by
  have hi := h.hi; have hj := h.hj; have i0 := h.i0
  refine ⟨by omega, by omega, i0, by omega, fun k hk => ?_, fun k hk hk2 => ?_, fun k hk hk2 => ?_⟩
  · unfold swr
    by_cases h1 : m + j - i ≤ k ∧ k < m + j
    · rw [if_neg (by omega), if_pos (by omega), h.rgt k (by omega) h1.2]; congr 1; omega
    · rw [if_neg (by omega), if_neg (by omega)]; exact h.out k (by omega)
  · rw [h.lft k (by omega) (by omega)]
    unfold swr
    by_cases h1 : k + i < m + j - i
    · rw [if_neg (by omega), if_neg (by omega)]
    · omega
  · unfold swr
    by_cases h1 : k - (j - i) < m
    · rw [if_pos (by omega)]
      by_cases h2 : k < m - i + j
      · rw [h.lft k (by omega) h2]; congr 1; omega
      · omega
    · omega
theorem RotI.done {f g : Nat → α} {s m e i : Nat} (h : RotI f s m e g i i) : swr g (m - i) m i = rot f s m e := by
  have hi := h.hi; have hj := h.hj; have i0 := h.i0
  funext k
  unfold swr
  by_cases h1 : m - i ≤ k ∧ k < m - i + i
  · rw [if_pos h1, h.lft k h1.1 h1.2]; congr 1; omega
  · rw [if_neg h1]
    by_cases h2 : m ≤ k ∧ k < m + i
    · rw [if_pos h2, h.rgt k (by omega) h2.2]; congr 1; omega
    · rw [if_neg h2]; exact h.out k (by omega)
/-! ### The merge -/
variable {lt : α → α → Prop}
/-- What is known where the search for the turn has ended: c from start to r. -/
structure Cut (lt : α → α → Prop) (f : Nat → α) (a m b start : Nat) : Prop where
  s0 : a ≤ start
  s1 : start ≤ m
  s2 : start ≤ (a + b) / 2
  e1 : m ≤ (a + b) / 2 + m - start
  e2 : (a + b) / 2 + m - start ≤ b
  lo : a < start → (a + b) / 2 + m - start < b → ¬ lt (f ((a + b) / 2 + m - start)) (f (start - 1))
  up : start < m → m < (a + b) / 2 + m - start → lt (f ((a + b) / 2 + m - start - 1)) (f start)
/-- Behind the turn: both halves are two sorted rows, and all of the first half is at most all of the second. -/
theorem Cut.halves (o : Ord lt) {f : Nat → α} {a m b st : Nat} (hm : a ≤ m ∧ m ≤ b) (h1 : Srt lt f a m) (h2 : Srt lt f m b) (c : Cut lt f a m b st) {mid e : Nat} (hmid : mid = (a + b) / 2) (he : e = mid + m - st) :
    Srt lt (rot f st m e) a st ∧ Srt lt (rot f st m e) st mid ∧ Srt lt (rot f st m e) mid e ∧ Srt lt (rot f st m e) e b ∧ ∀ i j, a ≤ i → i < mid → mid ≤ j → j < b → ¬ lt (rot f st m e j) (rot f st m e i) := by
  obtain ⟨s0, s1, s2, e1, e2, lo, up⟩ := c
  rw [← hmid] at s2 e1 e2 lo up
  rw [← he] at e1 e2 lo up
  have q1 : ∀ k, k < st → rot f st m e k = f k := fun k hk => by unfold rot; rw [if_neg (by omega), if_neg (by omega)]
  have q2 : ∀ k, st ≤ k → k < mid → rot f st m e k = f (k - st + m) := fun k hk hk2 => by unfold rot; rw [if_pos (by omega)]
  have q3 : ∀ k, mid ≤ k → k < e → rot f st m e k = f (k - (e - m)) := fun k hk hk2 => by unfold rot; rw [if_neg (by omega), if_pos (by omega)]
  have q4 : ∀ k, e ≤ k → rot f st m e k = f k := fun k hk => by unfold rot; rw [if_neg (by omega), if_neg (by omega)]
  have sd : ∀ i j, a ≤ i → i < mid → mid ≤ j → j < b → ¬ lt (rot f st m e j) (rot f st m e i) := by
    intro i j hi hi2 hj hj2
    by_cases c1 : i < st
    · rw [q1 i c1]
      by_cases c2 : j < e
      · rw [q3 j hj c2]; exact h1 i _ hi (by omega) (by omega)
      · rw [q4 j (by omega)]
        -- from i to st - 1, to e, to j
        have l1 := lo (by omega) (by omega)
        have l2 : ¬ lt (f (st - 1)) (f i) := h1 i (st - 1) hi (by omega) (by omega)
        have l3 : ¬ lt (f j) (f e) := h2 e j (by omega) (by omega) hj2
        exact o.le_trans (o.le_trans l2 l1) l3
    · rw [q2 i (by omega) hi2]
      by_cases c2 : j < e
      · rw [q3 j hj c2]
        have l1 := o.le_of_lt (up (by omega) (by omega))
        have l2 : ¬ lt (f (e - 1)) (f (i - st + m)) := h2 _ _ (by omega) (by omega) (by omega)
        have l3 : ¬ lt (f (j - (e - m))) (f st) := h1 st _ (by omega) (by omega) (by omega)
        exact o.le_trans (o.le_trans l2 l1) l3
      · rw [q4 j (by omega)]; exact h2 _ _ (by omega) (by omega) hj2
  refine ⟨fun i j hi hij hj => ?_, fun i j hi hij hj => ?_, fun i j hi hij hj => ?_, fun i j hi hij hj => ?_, sd⟩
  · rw [q1 i (by omega), q1 j hj]; exact h1 i j hi hij (by omega)
  · rw [q2 i hi (by omega), q2 j (by omega) hj]; exact h2 _ _ (by omega) (by omega) (by omega)
  · rw [q3 i hi (by omega), q3 j (by omega) hj]; exact h1 _ _ (by omega) (by omega) (by omega)
  · rw [q4 i hi, q4 j (by omega)]; exact h2 _ _ (by omega) (by omega) hj
/-- Two halves that are sorted by swaps of their own are one sorted row. -/
theorem halves_join {f g h : Nat → α} {a mid b : Nat} (hl : ∀ i j, a ≤ i → i < mid → mid ≤ j → j < b → ¬ lt (f j) (f i)) (h1 : Sw a mid f g) (h2 : Sw mid b g h) (s1 : Srt lt g a mid) (s2 : Srt lt h mid b) : Srt lt h a b := by
  have e1 : ∀ k, k < mid → h k = g k := fun k hk => h2.out (.inl hk)
  have e2 : ∀ k, mid ≤ k → g k = f k := fun k hk => h1.out (.inr hk)
  refine Srt.join (m := mid) (s1.congr fun k _ hk => e1 k hk) s2 ?_
  have g1 : ∀ i, a ≤ i → i < mid → ∀ j, mid ≤ j → j < b → ¬ lt (f j) (g i) := h1.all (Q := fun x => ∀ j, mid ≤ j → j < b → ¬ lt (f j) x) fun k hk hk2 j hj hj2 => hl k j hk hk2 hj hj2
  have g2 : ∀ j, mid ≤ j → j < b → ∀ i, a ≤ i → i < mid → ¬ lt (h j) (g i) := h2.all (Q := fun x => ∀ i, a ≤ i → i < mid → ¬ lt x (g i)) fun k hk hk2 i hi hi2 => by rw [e2 k hk]; exact g1 i hi hi2 k hk hk2
  intro i j hi hi2 hj hj2
  rw [e1 i hi2]
  exact g2 j hj hj2 i hi hi2
end Go.Proofs.Sr

/- Sorting by swaps, in plain Lean: one that is moved to its place, and what rounds of a stable sort keep. -/
namespace Go.Proofs.Sr
variable {α : Type} {lt : α → α → Prop}
/-- What stood at m stands at i, the ones between moved up. -/
def shr (f : Nat → α) (m i : Nat) : Nat → α := fun k => if k = i then f m else if i < k ∧ k ≤ m then f (k - 1) else f k
/-- What stood at a stands at i, the ones between moved down. -/
def shl (f : Nat → α) (a i : Nat) : Nat → α := fun k => if k = i then f a else if a ≤ k ∧ k < i then f (k + 1) else f k
theorem shr_self (f : Nat → α) (m : Nat) : shr f m m = f := by
  funext k; unfold shr
  by_cases h : k = m
  · rw [if_pos h, h]
  · rw [if_neg h, if_neg (by omega)]
theorem shl_self (f : Nat → α) (a : Nat) : shl f a a = f := by
  funext k; unfold shl
  by_cases h : k = a
  · rw [if_pos h, h]
  · rw [if_neg h, if_neg (by omega)]
theorem shr_step (f : Nat → α) {m i : Nat} (h0 : 0 < i) (h : i ≤ m) : swp (shr f m i) i (i - 1) = shr f m (i - 1) := by
  funext k
  unfold swp
  by_cases h1 : k = i
  · rw [if_pos h1]
    unfold shr
    rw [if_neg (by omega), if_neg (by omega), if_neg (by omega), if_pos (by omega), h1]
  · rw [if_neg h1]
    by_cases h2 : k = i - 1
    · rw [if_pos h2]; unfold shr; rw [if_pos rfl, if_pos h2]
    · rw [if_neg h2]
      unfold shr
      rw [if_neg h1, if_neg h2]
      by_cases h3 : i < k ∧ k ≤ m
      · rw [if_pos h3, if_pos (by omega)]
      · rw [if_neg h3, if_neg (by omega)]
theorem shl_step (f : Nat → α) {a i : Nat} (h : a ≤ i) : swp (shl f a i) i (i + 1) = shl f a (i + 1) := by
  funext k
  unfold swp
  by_cases h1 : k = i
  · rw [if_pos h1]
    unfold shl
    rw [if_neg (by omega), if_neg (by omega), if_neg (by omega), if_pos (by omega), h1]
  · rw [if_neg h1]
    by_cases h2 : k = i + 1
    · rw [if_pos h2]; unfold shl; rw [if_pos rfl, if_pos h2]
    · rw [if_neg h2]
      unfold shl
      rw [if_neg h1, if_neg h2]
      by_cases h3 : a ≤ k ∧ k < i
      · rw [if_pos h3, if_pos (by omega)]
      · rw [if_neg h3, if_neg (by omega)]
theorem shr_sw (f : Nat → α) {lo hi m : Nat} (hm : m < hi) : ∀ (d i : Nat), m = i + d → lo ≤ i → Sw lo hi f (shr f m i)
  | 0, i, h, _ => by rw [show i = m by omega, shr_self]; exact .refl _
  | d + 1, i, h, hl => by
    have := shr_step f (m := m) (i := i + 1) (by omega) (by omega)
    rw [Nat.add_sub_cancel] at this
    rw [← this]
    exact .step _ _ ⟨by omega, by omega⟩ ⟨by omega, by omega⟩ (shr_sw f hm d (i + 1) (by omega) (by omega))
theorem shl_sw (f : Nat → α) {lo hi a : Nat} (ha : lo ≤ a) : ∀ (d i : Nat), i = a + d → i < hi → Sw lo hi f (shl f a i)
  | 0, i, h, _ => by rw [show i = a by omega, shl_self]; exact .refl _
  | d + 1, i, h, hl => by
    have := shl_step f (a := a) (i := i - 1) (by omega)
    rw [show i - 1 + 1 = i by omega] at this
    rw [← this]
    exact .step _ _ ⟨by omega, by omega⟩ ⟨by omega, by omega⟩ (shl_sw f ha d (i - 1) (by omega) (by omega))
/-- The last one is put in its place. -/
theorem shr_srt (o : Ord lt) {f : Nat → α} {a m i : Nat} (h : Srt lt f a m) (hi : a ≤ i ∧ i ≤ m) (h1 : a < i → ¬ lt (f m) (f (i - 1))) (h2 : i < m → lt (f m) (f i)) : Srt lt (shr f m i) a (m + 1) := by
  have q1 : ∀ k, k < i → shr f m i k = f k := fun k hk => by unfold shr; rw [if_neg (by omega), if_neg (by omega)]
  have q2 : shr f m i i = f m := by unfold shr; rw [if_pos rfl]
  have q3 : ∀ k, i < k → k ≤ m → shr f m i k = f (k - 1) := fun k hk hk2 => by unfold shr; rw [if_neg (by omega), if_pos ⟨hk, hk2⟩]
  have lo : ∀ k, a ≤ k → k < i → ¬ lt (f m) (f k) := fun k hk hk2 => o.le_trans (h k (i - 1) hk (by omega) (by omega)) (h1 (by omega))
  have up : ∀ k, i ≤ k → k < m → ¬ lt (f k) (f m) := fun k hk hk2 => o.le_trans (o.le_of_lt (h2 (by omega))) (h i k hi.1 hk hk2)
  intro x y hx hxy hy
  by_cases c1 : x < i
  · rw [q1 x c1]
    by_cases c2 : y < i
    · rw [q1 y c2]; exact h x y hx hxy (by omega)
    · by_cases c3 : y = i
      · rw [c3, q2]; exact lo x hx c1
      · rw [q3 y (by omega) (by omega)]; exact h x _ hx (by omega) (by omega)
  · by_cases c2 : x = i
    · rw [c2, q2]
      by_cases c3 : y = i
      · rw [c3, q2]; exact o.irr _
      · rw [q3 y (by omega) (by omega)]; exact up _ (by omega) (by omega)
    · rw [q3 x (by omega) (by omega), q3 y (by omega) (by omega)]; exact h _ _ (by omega) (by omega) (by omega)
/-- The first one is put in its place. -/
theorem shl_srt (o : Ord lt) {f : Nat → α} {a b i : Nat} (h : Srt lt f (a + 1) b) (hi : a ≤ i ∧ i < b) (h1 : a < i → lt (f i) (f a)) (h2 : i + 1 < b → ¬ lt (f (i + 1)) (f a)) : Srt lt (shl f a i) a b := by
  have q1 : ∀ k, a ≤ k → k < i → shl f a i k = f (k + 1) := fun k hk hk2 => by unfold shl; rw [if_neg (by omega), if_pos ⟨hk, hk2⟩]
  have q2 : shl f a i i = f a := by unfold shl; rw [if_pos rfl]
  have q3 : ∀ k, i < k → shl f a i k = f k := fun k hk => by unfold shl; rw [if_neg (by omega), if_neg (by omega)]
  have lo : ∀ k, a < k → k ≤ i → ¬ lt (f a) (f k) := fun k hk hk2 => o.le_trans (h k i (by omega) hk2 hi.2) (o.le_of_lt (h1 (by omega)))
  have up : ∀ k, i < k → k < b → ¬ lt (f k) (f a) := fun k hk hk2 => o.le_trans (h2 (by omega)) (h (i + 1) k (by omega) hk hk2)
  intro x y hx hxy hy
  by_cases c1 : x < i
  · rw [q1 x hx c1]
    by_cases c2 : y < i
    · rw [q1 y (by omega) c2]; exact h _ _ (by omega) (by omega) (by omega)
    · by_cases c3 : y = i
      · rw [c3, q2]; exact lo _ (by omega) (by omega)
      · rw [q3 y (by omega)]; exact h _ _ (by omega) (by omega) hy
  · by_cases c2 : x = i
    · rw [c2, q2]
      by_cases c3 : y = i
      · rw [c3, q2]; exact o.irr _
      · rw [q3 y (by omega)]; exact up y (by omega) hy
    · rw [q3 x (by omega), q3 y (by omega)]; exact h x y (by omega) hxy hy
theorem Srt.one {lt : α → α → Prop} (o : Ord lt) (f : Nat → α) {a b : Nat} (h : b ≤ a + 1) : Srt lt f a b := fun i j h1 h2 h3 => by
  rw [show i = j by omega]; exact o.irr _
/-! ### Blocks -/
/-- Each block of s is sorted. -/
def Blk (lt : α → α → Prop) (f : Nat → α) (s n : Nat) : Prop := ∀ t, Srt lt f (t * s) (min (t * s + s) n)
/-- Between the merges of a pass: the blocks below a are merged; from a on nothing has turned. -/
structure PassI (lt : α → α → Prop) (f g : Nat → α) (s n a : Nat) : Prop where
  a0 : ∃ t, a = t * (2 * s)
  sw : Sw 0 n f g
  fro : ∀ k, a ≤ k → g k = f k
  blk : ∀ t, t * (2 * s) + 2 * s ≤ a → Srt lt g (t * (2 * s)) (t * (2 * s) + 2 * s)
theorem PassI.init (f : Nat → α) (s n : Nat) (hs : 0 < s) : PassI lt f f s n 0 :=
  ⟨⟨0, by simp⟩, .refl _, fun _ _ => rfl, fun t h => by omega⟩
theorem Blk.at {f : Nat → α} {s n a t : Nat} (h : Blk lt f s n) (ha : a = t * (2 * s)) : Srt lt f a (min (a + s) n) ∧ Srt lt f (a + s) (min (a + 2 * s) n) := by
  have h1 := h (2 * t)
  have h2 := h (2 * t + 1)
  have e1 : 2 * t * s = a := by rw [ha, Nat.mul_assoc, Nat.mul_left_comm]
  have e2 : (2 * t + 1) * s = a + s := by rw [Nat.add_mul, e1]; omega
  rw [e1] at h1
  rw [e2] at h2
  exact ⟨h1, by rw [show a + 2 * s = a + s + s by omega]; exact h2⟩
/-- One merge. -/
theorem PassI.step {f g h : Nat → α} {s n a : Nat} (hs : 0 < s) (p : PassI lt f g s n a) (hn : a + 2 * s ≤ n) (w : Sw a (a + 2 * s) g h) (r : Srt lt h a (a + 2 * s)) : PassI lt f h s n (a + 2 * s) := by
  obtain ⟨t0, ht0⟩ := p.a0
  refine ⟨⟨t0 + 1, by rw [Nat.add_mul]; omega⟩, p.sw.trans (w.wide (by omega) hn), fun k hk => by rw [w.out (.inr hk)]; exact p.fro k (by omega), fun t ht => ?_⟩
  by_cases c : t * (2 * s) + 2 * s ≤ a
  · exact (p.blk t c).congr fun k h1 h2 => w.out (.inl (by omega))
  · have e : t = t0 := by
      rw [ht0] at c ht
      have h1 : ¬ (t + 1) * (2 * s) ≤ t0 * (2 * s) := by rw [Nat.add_mul]; omega
      have h2 : (t + 1) * (2 * s) ≤ (t0 + 1) * (2 * s) := by rw [Nat.add_mul, Nat.add_mul]; omega
      have h3 : t + 1 ≤ t0 + 1 := Nat.le_of_mul_le_mul_right h2 (by omega)
      have h4 : ¬ t + 1 ≤ t0 := fun h => h1 (Nat.mul_le_mul_right _ h)
      omega
    rw [e, ← ht0]; exact r
/-- The end of a pass: the rest is one block, or two that are merged. -/
theorem PassI.done {f g h : Nat → α} {s n a : Nat} (_ : 0 < s) (p : PassI lt f g s n a) (_ : n < a + 2 * s) (w : Sw a n g h) (r : Srt lt h a n) : Sw 0 n f h ∧ Blk lt h (2 * s) n := by
  obtain ⟨t0, ht0⟩ := p.a0
  refine ⟨p.sw.trans (w.wide (by omega) (Nat.le_refl _)), fun t => ?_⟩
  by_cases c : t * (2 * s) + 2 * s ≤ a
  · refine ((p.blk t c).congr fun k h1 h2 => w.out (.inl (by omega))).sub (Nat.le_refl _) (by omega)
  · have h1 : t0 * (2 * s) ≤ t * (2 * s) := by
      refine Nat.mul_le_mul_right _ ?_
      have : ¬ (t + 1) * (2 * s) ≤ t0 * (2 * s) := by rw [Nat.add_mul]; omega
      have : ¬ t + 1 ≤ t0 := fun h => this (Nat.mul_le_mul_right _ h)
      omega
    exact r.sub (by omega) (by omega)
theorem Blk.all {f : Nat → α} {s n : Nat} (h : Blk lt f s n) (hn : n ≤ s) : Srt lt f 0 n := by
  have := h 0
  rw [Nat.zero_mul] at this
  exact this.sub (Nat.le_refl _) (by omega)
/-- Between the sorts of the first blocks. -/
structure FirI (lt : α → α → Prop) (f g : Nat → α) (s n a : Nat) : Prop where
  a0 : ∃ t, a = t * s
  sw : Sw 0 n f g
  blk : ∀ t, t * s + s ≤ a → Srt lt g (t * s) (t * s + s)
theorem FirI.init (f : Nat → α) (s n : Nat) (hs : 0 < s) : FirI lt f f s n 0 := ⟨⟨0, by simp⟩, .refl _, fun t h => by omega⟩
theorem FirI.step {f g h : Nat → α} {s n a : Nat} (hs : 0 < s) (p : FirI lt f g s n a) (hn : a + s ≤ n) (w : Sw a (a + s) g h) (r : Srt lt h a (a + s)) : FirI lt f h s n (a + s) := by
  obtain ⟨t0, ht0⟩ := p.a0
  refine ⟨⟨t0 + 1, by rw [Nat.add_mul]; omega⟩, p.sw.trans (w.wide (by omega) hn), fun t ht => ?_⟩
  by_cases c : t * s + s ≤ a
  · exact (p.blk t c).congr fun k h1 h2 => w.out (.inl (by omega))
  · have e : t = t0 := by
      rw [ht0] at c ht
      have h1 : ¬ (t + 1) * s ≤ t0 * s := by rw [Nat.add_mul]; omega
      have h2 : (t + 1) * s ≤ (t0 + 1) * s := by rw [Nat.add_mul, Nat.add_mul]; omega
      have h3 : t + 1 ≤ t0 + 1 := Nat.le_of_mul_le_mul_right h2 hs
      have h4 : ¬ t + 1 ≤ t0 := fun h => h1 (Nat.mul_le_mul_right _ h)
      omega
    rw [e, ← ht0]; exact r
theorem FirI.done {f g h : Nat → α} {s n a : Nat} (_ : 0 < s) (p : FirI lt f g s n a) (_ : n < a + s) (w : Sw a n g h) (r : Srt lt h a n) : Sw 0 n f h ∧ Blk lt h s n := by
  obtain ⟨t0, ht0⟩ := p.a0
  refine ⟨p.sw.trans (w.wide (by omega) (Nat.le_refl _)), fun t => ?_⟩
  by_cases c : t * s + s ≤ a
  · refine ((p.blk t c).congr fun k h1 h2 => w.out (.inl (by omega))).sub (Nat.le_refl _) (by omega)
  · have h1 : t0 * s ≤ t * s := by
      refine Nat.mul_le_mul_right _ ?_
      have : ¬ (t + 1) * s ≤ t0 * s := by rw [Nat.add_mul]; omega
      have : ¬ t + 1 ≤ t0 := fun h => this (Nat.mul_le_mul_right _ h)
      omega
    exact r.sub (by omega) (by omega)
end Go.Proofs.Sr

/- When a truth over letters is true, said without the letters' tree. -/
namespace Go.Proofs.Xw
open Go Go.Proofs.Aw
section
variable (ρ : Rho)
theorem dl_t (b : Bool) : ((BE.lit b).den ρ = true) = (b = true) := rfl
theorem dl_f (b : Bool) : ((BE.lit b).den ρ = false) = (b = false) := rfl
theorem dlt_t (a b : IE) : ((BE.lt a b).den ρ = true) = (a.den ρ < b.den ρ) := by simp [BE.den]
theorem dlt_f (a b : IE) : ((BE.lt a b).den ρ = false) = (b.den ρ ≤ a.den ρ) := by simp [BE.den]
theorem deq_t (a b : IE) : ((BE.eq a b).den ρ = true) = (a.den ρ = b.den ρ) := by simp [BE.den]
theorem deq_f (a b : IE) : ((BE.eq a b).den ρ = false) = ¬ (a.den ρ = b.den ρ) := by simp [BE.den]
theorem dnot_t (a : BE) : ((BE.not a).den ρ = true) = (a.den ρ = false) := by simp [BE.den]
theorem dnot_f (a : BE) : ((BE.not a).den ρ = false) = (a.den ρ = true) := by simp [BE.den]
theorem dand_t (a b : BE) : ((BE.and a b).den ρ = true) = (a.den ρ = true ∧ b.den ρ = true) := by simp [BE.den]
theorem dand_f (a b : BE) : ((BE.and a b).den ρ = false) = (a.den ρ = false ∨ b.den ρ = false) := by simp only [BE.den]; cases BE.den ρ a <;> cases BE.den ρ b <;> simp
theorem dor_t (a b : BE) : ((BE.or a b).den ρ = true) = (a.den ρ = true ∨ b.den ρ = true) := by simp [BE.den]
theorem dor_f (a b : BE) : ((BE.or a b).den ρ = false) = (a.den ρ = false ∧ b.den ρ = false) := by simp [BE.den]
theorem dite_t (c a b : BE) : ((BE.ite c a b).den ρ = true) = ((c.den ρ = true → a.den ρ = true) ∧ (c.den ρ = false → b.den ρ = true)) := by simp only [BE.den]; cases BE.den ρ c <;> simp
theorem dite_f (c a b : BE) : ((BE.ite c a b).den ρ = false) = ((c.den ρ = true → a.den ρ = false) ∧ (c.den ρ = false → b.den ρ = false)) := by simp only [BE.den]; cases BE.den ρ c <;> simp
end
/-- The truth that a summary answers. -/
def X.be : X → BE
  | .sc (.b e) => e
  | _ => .lit false
end Go.Proofs.Xw

/- Ring: a contract of swapRange: two ranges of a row of strings change places. -/
namespace Go.Proofs.Ytegekgjjoojgdaa
open Go Go.Proofs.Aw Go.Proofs.Xw Go.Proofs.Sr
set_option maxRecDepth 100000
theorem call0 : ∀ ρ, CallOk Try.prog ρ (callS ⟨cfgL [] (fun _ => []), l_able, []⟩ 12) := fun _ => callS_ok (c := ⟨cfgL [] (fun _ => []), l_able, []⟩) (cfgL_ok (List.forall_mem_nil _) (fun _ _ _ => LpsOk.nil _ _ _ _)) l_able_ok 12
/-- The row of strings that is letter l. -/
def stR (ρ : Rho) (l : Nat) : Nat → ByteArray := fun k => ρ.cs l 0 k
theorem agree_st {n : Nat} {ρ ρ' : Rho} (h : Agree n ρ ρ') {l : Nat} (hl : l < n) : stR ρ' l = stR ρ l := by
  funext k; show ρ'.cs l 0 k = ρ.cs l 0 k; rw [h.cs l hl]
theorem ap_i {β : Bind} {ρ : Rho} {k : Nat} {e : IE} (h : lassoc k β.i = some e) : (β.ap ρ).i k = e.den ρ := by simp only [Bind.ap, h]
theorem ap_len {β : Bind} {ρ : Rho} {k : Nat} {m : IE} {r : RL} (h : lassoc k β.r = some (m, r)) : (β.ap ρ).len k = (m.den ρ).toNat := by simp only [Bind.ap, h]
theorem ap_st {β : Bind} {ρ : Rho} {l : Nat} {m : IE} {r : RL} (h : lassoc l β.r = some (m, r)) (k : Nat) : stR (β.ap ρ) l k = cellS (r.row ρ k)[0]? := by
  show (β.ap ρ).cs l 0 k = _
  simp only [Bind.ap, h]
theorem row_var (ρ : Rho) (l k : Nat) : cellS ((RL.var l [.s]).row ρ k)[0]? = stR ρ l k := by
  simp only [RL.row, cellsV, List.getElem?_cons_zero, cellS, Int.toNat_natCast]; rfl
/-- Two places change what they hold. -/
theorem row_swp (ρ : Rho) (l : Nat) {e1 e2 : IE} {i j : Nat} (h1 : e1.den ρ = i) (h2 : e2.den ρ = j) (k : Nat) : cellS ((RL.upd e2 [.s (.cl l 0 e1)] (.upd e1 [.s (.cl l 0 e2)] (.var l [.s]))).row ρ k)[0]? = swp (stR ρ l) i j k := by
  simp only [RL.row, h1, h2]
  unfold swp
  by_cases c1 : k = j
  · rw [if_pos (by omega)]
    simp only [scL, List.map_cons, List.map_nil, List.getElem?_cons_zero, Sc.den, TE.den, cellS, h1, Int.toNat_natCast]
    by_cases c2 : k = i
    · rw [if_pos c2]; show ρ.cs l 0 i = ρ.cs l 0 j; rw [show i = j by omega]
    · rw [if_neg c2, if_pos c1]; rfl
  · rw [if_neg (by omega)]
    by_cases c2 : k = i
    · rw [if_pos (by omega), if_pos c2]
      simp only [scL, List.map_cons, List.map_nil, List.getElem?_cons_zero, Sc.den, TE.den, cellS, h2, Int.toNat_natCast]
      rfl
    · rw [if_neg (by omega), if_neg c2, if_neg c1]
      exact row_var ρ l k
theorem add_nat {a b : Nat} (h : a + b < 4611686018427387904) : IOp.den .add .i64 (a : Int) (b : Int) = ((a + b : Nat) : Int) := by
  simp only [IOp.den]; rw [wrap_id _ (by omega) (by omega)]; omega
theorem wR_tree : ∃ c s1 s2, wR_t = .br (.lt (.var 100) (.var 3)) (.need (.and (.not (.lt (.op .add .i64 (.var 2) (.var 100)) (.lit 0))) (.and (.lt (.op .add .i64 (.var 2) (.var 100)) (.len 0)) (.and (.not (.lt (.op .add .i64 (.var 1) (.var 100)) (.lit 0))) (.lt (.op .add .i64 (.var 1) (.var 100)) (.len 0))))) (.ret (.normal, s1))) (.ret (.exit c, s2)) := ⟨_, _, _, rfl⟩
/-- The letters of swapRange's call: a, b, n, in a row of len. -/
structure SwA (ρ : Rho) (a b n : Nat) : Prop where
  ea : ρ.i 1 = a
  eb : ρ.i 2 = b
  en : ρ.i 3 = n
  ha : a + n ≤ ρ.len 0
  hb : b + n ≤ ρ.len 0
  l : ρ.len 0 < 1000000
theorem SwA.agree {ρ ρ' : Rho} {a b n : Nat} (h : SwA ρ a b n) (ag : Agree 100 ρ ρ') : SwA ρ' a b n :=
  ⟨by rw [← ag.i 1 (by decide)]; exact h.ea, by rw [← ag.i 2 (by decide)]; exact h.eb, by rw [← ag.i 3 (by decide)]; exact h.en, by rw [← ag.len 0 (by decide)]; exact h.ha, by rw [← ag.len 0 (by decide)]; exact h.hb, by rw [← ag.len 0 (by decide)]; exact h.l⟩
theorem wR_st {ρ : Rho} {a b n : Nat} (h : SwA ρ a b n) (hd : a + n ≤ b ∨ b + n ≤ a) : ∀ j, j ≤ n → stR (wR_b.it (wR_i.ap ρ) j) 101 = swr (stR ρ 0) a b j
  | 0, _ => by
    rw [swr_zero]
    funext k
    show stR (wR_i.ap ρ) 101 k = _
    rw [ap_st (show lassoc 101 wR_i.r = some (.len 0, .var 0 [.s]) from rfl)]
    exact row_var ρ 0 k
  | j + 1, hj => by
    have ih := wR_st h hd j (by omega)
    have cnt := it_count (e := .lit 0) (I := 100) (β := wR_b) rfl (ρ := wR_i.ap ρ) (by rfl) j (by have := h.ha; have := h.l; omega)
    have hA := h.agree ((Bind.agree wR_ig ρ).trans (Bind.it_agree wR_bg (wR_i.ap ρ) j))
    rw [← swr_step (stR ρ 0) hd (show j < n by omega), ← ih]
    funext k
    have := hA.ha; have := hA.hb; have := hA.l
    show stR (wR_b.ap (wR_b.it (wR_i.ap ρ) j)) 101 k = _
    rw [ap_st (show lassoc 101 wR_b.r = some (.len 0, .upd (.op .add .i64 (.var 2) (.var 100)) [.s (.cl 101 0 (.op .add .i64 (.var 1) (.var 100)))] (.upd (.op .add .i64 (.var 1) (.var 100)) [.s (.cl 101 0 (.op .add .i64 (.var 2) (.var 100)))] (.var 101 [.s]))) from rfl)]
    refine row_swp _ 101 ?_ ?_ k
    · simp only [IE.den, hA.ea, cnt]; exact add_nat (by omega)
    · simp only [IE.den, hA.eb, cnt]; exact add_nat (by omega)
theorem swH_tree : swH = .need (.not (.lt (.var 100) (.var 3))) (.ret (.tup [], [((0, 0), some (rwS 101))])) := rfl
/-- swapRange. -/
theorem swap_hk {ρ : Rho} {a b n : Nat} (h : SwA ρ a b n) (hd : a + n ≤ b ∨ b + n ≤ a) : ∃ ρ', Agree 100 ρ ρ' ∧ stR ρ' 101 = swr (stR ρ 0) a b n ∧ HKOk Try.prog ρ' ⟨35, swA, rwS 0, rwS 101, .tup []⟩ := by
  have hl := h.l
  have ha := h.ha
  have cnt := fun j hj => it_count (e := .lit 0) (I := 100) (β := wR_b) rfl (ρ := wR_i.ap ρ) (by rfl) j hj
  have ag := fun j => (Bind.agree wR_ig ρ).trans (Bind.it_agree wR_bg (wR_i.ap ρ) j)
  obtain ⟨c, s1, s2, ht⟩ := wR_tree
  have L : LoopOk Try.prog (wR_b.it (wR_i.ap ρ) n) Try.f35.ntmps wR_c wR := by
    refine loopOk_cntG mixed tis_ok wR_run wR_fits wR_back rfl 102 wR_bel wR_ib wR_bg wR_same (I := 100) rfl rfl (Φ0 := []) rfl rfl (Facts.ok_nil _) wR_ig call0 (fun _ => LpsOk.nil _ _ _ _) n (by omega) (fun j hj hc hag => ⟨s1, ?_⟩) (fun hc hag => ⟨.exit c, s2, (fun h => nomatch h), ?_⟩)
    · have hA := h.agree hag
      change (wR_b.it (wR_i.ap ρ) j).i 100 = j at hc
      change SwA (wR_b.it (wR_i.ap ρ) j) a b n at hA
      change wR_t.sel (wR_b.it (wR_i.ap ρ) j) = _
      generalize wR_b.it (wR_i.ap ρ) j = ρ1 at hc hA
      have := hA.ha; have := hA.hb; have := hA.l
      have e1 : IE.den ρ1 (.op .add .i64 (.var 1) (.var 100)) = ((a + j : Nat) : Int) := by simp only [IE.den, hA.ea, hc]; exact add_nat (by omega)
      have e2 : IE.den ρ1 (.op .add .i64 (.var 2) (.var 100)) = ((b + j : Nat) : Int) := by simp only [IE.den, hA.eb, hc]; exact add_nat (by omega)
      rw [ht, T.sel, if_pos (by rw [dlt_t]; simp only [IE.den, hc, hA.en]; omega), T.sel, if_pos]
      · rfl
      · rw [dand_t, dand_t, dand_t, dnot_t, dnot_t, dlt_f, dlt_f, dlt_t, dlt_t, e1, e2]
        simp only [IE.den]
        omega
    · have hA := h.agree hag
      change (wR_b.it (wR_i.ap ρ) n).i 100 = n at hc
      change SwA (wR_b.it (wR_i.ap ρ) n) a b n at hA
      change wR_t.sel (wR_b.it (wR_i.ap ρ) n) = _
      rw [ht, T.sel, if_neg (by rw [Bool.not_eq_true, dlt_f]; simp only [IE.den, hc, hA.en]; omega)]
      rfl
  refine ⟨wR_b.it (wR_i.ap ρ) n, ag n, wR_st h hd n (Nat.le_refl _), ?_⟩
  have hA := h.agree (ag n)
  have hc := cnt n (by omega)
  generalize wR_b.it (wR_i.ap ρ) n = ρ1 at L hA hc
  refine askH_ok (c := ⟨cfgL [] lpS, l_able, []⟩) (Φ := []) (cfgL_ok (List.forall_mem_nil _) (lpS_ok L)) l_able_ok (Facts.ok_nil _) ?_ (by kernel_rfl)
  rw [swH_run, swH_tree, T.sel, if_pos (by rw [dnot_t, dlt_f]; simp only [IE.den, hc, hA.en]; omega)]
  rfl
end Go.Proofs.Ytegekgjjoojgdaa
