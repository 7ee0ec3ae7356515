/- Parts of the proof, one behind the other. -/
import Derived.Test.YtegekgjjoojgdaaTM1
import Derived.Test.YtegekgjjoojgdaaXwM3
/- Loops whose rounds have letters of their own: what is run once. -/
namespace Go.Proofs.Ytegekgjjoojgdaa
open Go Go.Proofs.Aw Go.Proofs.Xw
set_option maxRecDepth 100000
def roA : List X := [slD, iV 1, iV 2, iV 3, cmpX]
def sbX (a b : Nat) : X := .sc (.i .i64 (.op .sub .i64 (.var a) (.var b)))
def kB : HK := ⟨35, [slD, sbX 2 110, iV 2, iV 111, cmpX], rwS 112, rwS 113, .tup []⟩
def kS : HK := ⟨35, [slD, sbX 2 110, .sc (.i .i64 (.op .sub .i64 (.op .add .i64 (.var 2) (.var 111)) (.var 110))), iV 110, cmpX], rwS 112, rwS 113, .tup []⟩

/-! ro: letters {10: 110, 11: 111} rows 112; entered under [] -/
noncomputable def ro_c : Code := (loopsOf (Try.f34.body.getD .skip))[0]?.getD .skip
def ro_E : XS := ⟨[(11, (.sc (.i .i64 (.op .sub .i64 (.var 3) (.var 2))))), (17, .top), (16, .top), (15, .top), (10, (.sc (.i .i64 (.op .sub .i64 (.var 2) (.var 1))))), (14, .top), (13, .top), (12, .top), (0, (.slv (0, 0) 1 (.lit (0 : Int)) (.len 0) true)), (1, (.sc (.i .i64 (.var 1)))), (2, (.sc (.i .i64 (.var 2)))), (3, (.sc (.i .i64 (.var 3)))), (4, (.fn (.func 15) [] []))], [((0, 0), [(.rows 1 (.len 0) (.var 0 [.s]))])], 10⟩
def ro_S : XS := ⟨[(11, (.sc (.i .i64 (.var 111)))), (17, .top), (16, .top), (15, .top), (10, (.sc (.i .i64 (.var 110)))), (14, .top), (13, .top), (12, .top), (0, (.slv (0, 0) 1 (.lit (0 : Int)) (.len 0) true)), (1, (.sc (.i .i64 (.var 1)))), (2, (.sc (.i .i64 (.var 2)))), (3, (.sc (.i .i64 (.var 3)))), (4, (.fn (.func 15) [] []))], [((0, 0), [(.rows 1 (.len 0) (.var 112 [.s]))])], 10⟩
def ro_I : Bind := ⟨[(110, (.op .sub .i64 (.var 2) (.var 1))), (111, (.op .sub .i64 (.var 3) (.var 2)))], [], [], [(112, (.len 0), (.var 0 [.s]))]⟩
def ro_ks : List Nat := [11, 17, 16, 15, 10, 14, 13, 12, 0, 1, 2, 3, 4]
theorem ro_Iok : okS 2 110 ro_I (nmS ro_S ro_E) ro_S ro_E = true := by kernel_rfl
theorem ro_Ig : ro_I.ge 110 = true := by kernel_rfl
theorem ro_Eb : ro_E.bel 110 = true := by kernel_rfl
theorem ro_fits : fitsC Try.f34.ntmps ro_c = true := by kernel_rfl
theorem ro_I110 : lassoc 110 ro_I.i = some (.op .sub .i64 (.var 2) (.var 1)) := by kernel_rfl
theorem ro_I111 : lassoc 111 ro_I.i = some (.op .sub .i64 (.var 3) (.var 2)) := by kernel_rfl
theorem ro_Ir : lassoc 112 ro_I.r = some ((.len 0), (.var 0 [.s])) := by kernel_rfl
def ro_B_r : T (XE × XS) := (.ret (.normal, ⟨[(11, (.sc (.i .i64 (.var 111)))), (17, .top), (16, .top), (15, .top), (10, (.sc (.i .i64 (.op .sub .i64 (.var 110) (.var 111))))), (14, .top), (13, .top), (12, .top), (0, (.slv (0, 0) 1 (.lit (0 : Int)) (.len 0) true)), (1, (.sc (.i .i64 (.var 1)))), (2, (.sc (.i .i64 (.var 2)))), (3, (.sc (.i .i64 (.var 3)))), (4, (.fn (.func 15) [] []))], [((0, 0), [(.rows 1 (.len 0) (.var 113 [.s]))])], 28⟩))
theorem ro_B_run : (codeX (cfgH [] (fun _ => []) [kB]).ti (callS ⟨(cfgH [] (fun _ => []) [kB]), l_able, []⟩ 12) (((cfgH [] (fun _ => []) [kB]).ft 34).elim [] (·.ms)) 2 ((cfgH [] (fun _ => []) [kB]).lp 34) 1000 ro_c ([(.eq (.var 110) (.var 111), false), (.lt (.var 111) (.var 110), true)]) ro_S).map (sqz ro_ks) = ro_B_r := by kernel_rfl
def ro_B_s : XS := ⟨[(11, (.sc (.i .i64 (.var 111)))), (17, .top), (16, .top), (15, .top), (10, (.sc (.i .i64 (.op .sub .i64 (.var 110) (.var 111))))), (14, .top), (13, .top), (12, .top), (0, (.slv (0, 0) 1 (.lit (0 : Int)) (.len 0) true)), (1, (.sc (.i .i64 (.var 1)))), (2, (.sc (.i .i64 (.var 2)))), (3, (.sc (.i .i64 (.var 3)))), (4, (.fn (.func 15) [] []))], [((0, 0), [(.rows 1 (.len 0) (.var 113 [.s]))])], 28⟩
def ro_B_b : Bind := ⟨[(110, (.op .sub .i64 (.var 110) (.var 111))), (111, (.var 111))], [], [], [(112, (.len 0), (.var 113 [.s]))]⟩
theorem ro_B_ok : okS 2 110 ro_B_b (nmS ro_S ro_B_s) ro_S ro_B_s = true := by kernel_rfl
theorem ro_B_g : ro_B_b.ge 110 = true := by kernel_rfl
theorem ro_B_110 : lassoc 110 ro_B_b.i = some (.op .sub .i64 (.var 110) (.var 111)) := by kernel_rfl
theorem ro_B_111 : lassoc 111 ro_B_b.i = some (.var 111) := by kernel_rfl
theorem ro_B_rw : lassoc 112 ro_B_b.r = some ((.len 0), (.var 113 [.s])) := by kernel_rfl
def ro_S_r : T (XE × XS) := (.ret (.normal, ⟨[(11, (.sc (.i .i64 (.op .sub .i64 (.var 111) (.var 110))))), (17, .top), (16, .top), (15, .top), (10, (.sc (.i .i64 (.var 110)))), (14, .top), (13, .top), (12, .top), (0, (.slv (0, 0) 1 (.lit (0 : Int)) (.len 0) true)), (1, (.sc (.i .i64 (.var 1)))), (2, (.sc (.i .i64 (.var 2)))), (3, (.sc (.i .i64 (.var 3)))), (4, (.fn (.func 15) [] []))], [((0, 0), [(.rows 1 (.len 0) (.var 113 [.s]))])], 32⟩))
theorem ro_S_run : (codeX (cfgH [] (fun _ => []) [kS]).ti (callS ⟨(cfgH [] (fun _ => []) [kS]), l_able, []⟩ 12) (((cfgH [] (fun _ => []) [kS]).ft 34).elim [] (·.ms)) 2 ((cfgH [] (fun _ => []) [kS]).lp 34) 1000 ro_c ([(.eq (.var 110) (.var 111), false), (.lt (.var 111) (.var 110), false)]) ro_S).map (sqz ro_ks) = ro_S_r := by kernel_rfl
def ro_S_s : XS := ⟨[(11, (.sc (.i .i64 (.op .sub .i64 (.var 111) (.var 110))))), (17, .top), (16, .top), (15, .top), (10, (.sc (.i .i64 (.var 110)))), (14, .top), (13, .top), (12, .top), (0, (.slv (0, 0) 1 (.lit (0 : Int)) (.len 0) true)), (1, (.sc (.i .i64 (.var 1)))), (2, (.sc (.i .i64 (.var 2)))), (3, (.sc (.i .i64 (.var 3)))), (4, (.fn (.func 15) [] []))], [((0, 0), [(.rows 1 (.len 0) (.var 113 [.s]))])], 32⟩
def ro_S_b : Bind := ⟨[(110, (.var 110)), (111, (.op .sub .i64 (.var 111) (.var 110)))], [], [], [(112, (.len 0), (.var 113 [.s]))]⟩
theorem ro_S_ok : okS 2 110 ro_S_b (nmS ro_S ro_S_s) ro_S ro_S_s = true := by kernel_rfl
theorem ro_S_g : ro_S_b.ge 110 = true := by kernel_rfl
theorem ro_S_110 : lassoc 110 ro_S_b.i = some (.var 110) := by kernel_rfl
theorem ro_S_111 : lassoc 111 ro_S_b.i = some (.op .sub .i64 (.var 111) (.var 110)) := by kernel_rfl
theorem ro_S_rw : lassoc 112 ro_S_b.r = some ((.len 0), (.var 113 [.s])) := by kernel_rfl
def ro_X_r : T (XE × XS) := (.ret ((.exit 0), ⟨[(11, (.sc (.i .i64 (.var 111)))), (17, .top), (16, .top), (15, .top), (10, (.sc (.i .i64 (.var 110)))), (14, .top), (13, .top), (12, .top), (0, (.slv (0, 0) 1 (.lit (0 : Int)) (.len 0) true)), (1, (.sc (.i .i64 (.var 1)))), (2, (.sc (.i .i64 (.var 2)))), (3, (.sc (.i .i64 (.var 3)))), (4, (.fn (.func 15) [] []))], [((0, 0), [(.rows 1 (.len 0) (.var 112 [.s]))])], 13⟩))
theorem ro_X_run : (codeX (cfgL [] (fun _ => [])).ti (callS ⟨(cfgL [] (fun _ => [])), l_able, []⟩ 12) (((cfgL [] (fun _ => [])).ft 34).elim [] (·.ms)) 2 ((cfgL [] (fun _ => [])).lp 34) 1000 ro_c ([(.eq (.var 110) (.var 111), true)]) ro_S).map (sqz ro_ks) = ro_X_r := by kernel_rfl
def ro_X_s : XS := ⟨[(11, (.sc (.i .i64 (.var 111)))), (17, .top), (16, .top), (15, .top), (10, (.sc (.i .i64 (.var 110)))), (14, .top), (13, .top), (12, .top), (0, (.slv (0, 0) 1 (.lit (0 : Int)) (.len 0) true)), (1, (.sc (.i .i64 (.var 1)))), (2, (.sc (.i .i64 (.var 2)))), (3, (.sc (.i .i64 (.var 3)))), (4, (.fn (.func 15) [] []))], [((0, 0), [(.rows 1 (.len 0) (.var 112 [.s]))])], 13⟩
noncomputable def ro : LoopX := ⟨((codeKey ro_c).getD 0), 2, 110, ro_E, noB, [], .ret ((.exit 0), ro_X_s)⟩
theorem ro_ob : ro.out.belX 130 = true := by kernel_rfl
end Go.Proofs.Ytegekgjjoojgdaa

/- Ring: contracts over any row of strings; a row is turned (rotate). -/
namespace Go.Proofs.Ytegekgjjoojgdaa
open Go Go.Proofs.Aw Go.Proofs.Xw Go.Proofs.Sr
set_option maxRecDepth 100000
/-- Strings, as an object holds them. -/
def strsV (n : Nat) (g : Nat → ByteArray) : List AV := ((List.range n).map fun j => [AV.sc (.string (g j))]).flatten
theorem rw_den (ρ : Rho) (l : Nat) : denO ρ (rwS l) = strsV (ρ.len 0) (stR ρ l) := by
  show (rowsD ρ (.len 0) (.var l [.s])).flatten = _
  unfold strsV rowsD
  simp only [IE.den, Int.toNat_natCast]
  congr 1
theorem strsV_congr {n : Nat} {g h : Nat → ByteArray} (e : ∀ k, k < n → g k = h k) : strsV n g = strsV n h := by
  unfold strsV
  congr 1
  exact List.map_congr_left fun j hj => by rw [e j (List.mem_range.1 hj)]
/-- A function turns the row that it is handed from g to h. -/
def HS (f : Nat) (args : List AV) (n : Nat) (g h : Nat → ByteArray) : Prop := hasBody Try.prog f = true ∧ ∀ k m hp, hget hp m = some (strsV n g) → CY Try.prog k f (Aw.renL (fun _ => m) args) hp (.tup []) [(m, some (strsV n h))]
theorem HS.congr {f : Nat} {args : List AV} {n : Nat} {g h h' : Nat → ByteArray} (k : HS f args n g h) (e : ∀ k, k < n → h k = h' k) : HS f args n g h' := by
  unfold HS at *
  rw [← strsV_congr e]; exact k
theorem HS.hk {ρ : Rho} {f : Nat} {args : List X} {l l' : Nat} (h : HS f (X.denL ρ args) (ρ.len 0) (stR ρ l) (stR ρ l')) : HKOk Try.prog ρ ⟨f, args, rwS l, rwS l', .tup []⟩ :=
  ⟨h.1, fun n m hp hg => by
    show CY Try.prog n f _ hp _ [(m, some (denO ρ (rwS l')))]
    rw [rw_den]
    exact h.2 n m hp (by rw [← rw_den]; exact hg)⟩
theorem HS.of {ρ : Rho} {f : Nat} {args : List X} {l l' : Nat} (h : HKOk Try.prog ρ ⟨f, args, rwS l, rwS l', .tup []⟩) : HS f (X.denL ρ args) (ρ.len 0) (stR ρ l) (stR ρ l') :=
  ⟨h.1, fun n m hp hg => by
    have := h.2 n m hp (by show _ = some (denO ρ (rwS l)); rw [rw_den]; exact hg)
    have e : denO ρ (rwS l') = strsV (ρ.len 0) (stR ρ l') := rw_den ρ l'
    rw [← e]
    exact this⟩
/-- Another row behind a letter. -/
def putR (ρ : Rho) (l : Nat) (g : Nat → ByteArray) : Rho := { ρ with cs := fun l' c j => if l' = l then g j else ρ.cs l' c j }
theorem putR_agree (ρ : Rho) (l : Nat) (g : Nat → ByteArray) {n : Nat} (hn : n ≤ l) : Agree n ρ (putR ρ l g) :=
  ⟨fun _ _ => rfl, fun _ _ => rfl, fun _ _ => rfl, fun _ _ => rfl, fun _ _ => rfl, fun _ _ => rfl, fun k hk => by funext c j; show _ = if k = l then _ else _; rw [if_neg (by omega)]⟩
theorem putR_st (ρ : Rho) (l : Nat) (g : Nat → ByteArray) : stR (putR ρ l g) l = g := by
  funext k; show (if l = l then g k else _) = _; rw [if_pos rfl]
theorem putR_ne (ρ : Rho) (l : Nat) (g : Nat → ByteArray) {k : Nat} (h : k ≠ l) : stR (putR ρ l g) k = stR ρ k := by
  funext j; show (if k = l then g j else ρ.cs k 0 j) = _; rw [if_neg h]; rfl
/-- Letters for a call. -/
def rho0 (is : List Int) (n : Nat) (g : Nat → ByteArray) : Rho := ⟨fun k => is.getD k 0, fun _ => false, fun _ => ⟨#[]⟩, fun _ => n, fun _ _ _ => 0, fun _ _ _ => false, fun _ _ j => g j⟩
theorem rho0_st (is : List Int) (n : Nat) (g : Nat → ByteArray) (l : Nat) : stR (rho0 is n g) l = g := rfl
def slV (n : Nat) : AV := .sl (0, 0) 1 0 n true
def nV (a : Nat) : AV := .sc (.int .i64 (a : Int))
def cmpV : AV := .fn (.func 15) [] []
theorem slD_den (ρ : Rho) : X.den ρ slD = slV (ρ.len 0) := by
  simp only [slD, X.den, IE.den, Int.toNat_natCast, slV]; rfl
theorem i_den (ρ : Rho) (e : IE) {n : Nat} (h : e.den ρ = n) : X.den ρ (.sc (.i .i64 e)) = nV n := by
  simp only [X.den, Sc.den, h, nV]
theorem cmp_den (ρ : Rho) : X.den ρ cmpX = cmpV := rfl
theorem swap_hs {len a b n : Nat} {g : Nat → ByteArray} (ha : a + n ≤ len) (hb : b + n ≤ len) (hl : len < 1000000) (hd : a + n ≤ b ∨ b + n ≤ a) : HS 35 [slV len, nV a, nV b, nV n, cmpV] len g (swr g a b n) := by
  obtain ⟨ρ', ag, hs, hk⟩ := swap_hk (ρ := rho0 [0, a, b, n] len g) (a := a) (b := b) (n := n) ⟨rfl, rfl, rfl, ha, hb, hl⟩ hd
  have h := HS.of hk
  rw [hs, agree_st ag (by decide), rho0_st, ← ag.len 0 (by decide), ← X.belL_den ag swA (by kernel_rfl)] at h
  exact h
theorem sub_nat {a b : Nat} (h : b ≤ a) (ha : a < 4611686018427387904) : IOp.den .sub .i64 (a : Int) (b : Int) = ((a - b : Nat) : Int) := by
  simp only [IOp.den]; rw [wrap_id _ (by omega) (by omega)]; omega
/-- A round goes on. -/
theorem fam_go {N k0 n : Nat} {body : Code} {S : XS} {ks ms hf : List Nat} {ρ ρ1 : Rho} {c : Cfg} {Φ : Facts} {t : T (XE × XS)} {s : XS} {β : Bind} {nm : List (Nm × Nm)} (hfit : fitsC N body = true) (hd : S.den ρ = S.den ρ1) (cok : CfgOk Try.prog ρ1 c) (hk : Facts.ok ρ1 Φ)
    (hrun : (codeX c.ti (callS ⟨c, l_able, hf⟩ 12) ms k0 [] 1000 body Φ S).map (sqz ks) = t) (hs : t.sel ρ1 = some (.normal, s)) (hok : okS k0 n β nm S s = true) : StepF Try.prog N body k0 S S ρ (β.ap ρ1) :=
  StepF.from hd (stepF_of mixed cok.ti (callS_ok (c := ⟨c, l_able, hf⟩) cok l_able_ok 12) (LpsOk.nil _ _ _ _) hfit hk rfl (by rw [hrun]; exact hs) hok)
/-- The loop ends. -/
theorem fam_end {N k0 : Nat} {body : Code} {S : XS} {ks ms hf : List Nat} {ρ : Rho} {c : Cfg} {Φ : Facts} {t out : T (XE × XS)} {e : XE} {s : XS} (hfit : fitsC N body = true) (cok : CfgOk Try.prog ρ c) (hk : Facts.ok ρ Φ)
    (hrun : (codeX c.ti (callS ⟨c, l_able, hf⟩ 12) ms k0 [] 1000 body Φ S).map (sqz ks) = t) (hs : t.sel ρ = some (e, s)) (he : e ≠ .normal) (ho : out.sel ρ = some (e, s)) : EndL Try.prog N body k0 S out ρ :=
  endF_of mixed cok.ti (callS_ok (c := ⟨c, l_able, hf⟩) cok l_able_ok 12) (LpsOk.nil _ _ _ _) hfit hk rfl he (by rw [hrun]; exact hs) ⟨s, ho, fun E _ => impRefl _ _⟩
theorem cN_ok (ρ : Rho) : CfgOk Try.prog ρ (cfgL [] (fun _ => [])) := cfgL_ok (List.forall_mem_nil _) (fun _ _ _ => LpsOk.nil _ _ _ _)
theorem cH_ok {ρ : Rho} {kh : List HK} (h : ∀ k ∈ kh, HKOk Try.prog ρ k) : CfgOk Try.prog ρ (cfgH [] (fun _ => []) kh) := cfgH_ok (List.forall_mem_nil _) (fun _ _ _ => LpsOk.nil _ _ _ _) h
/-! ### rotate -/
/-- The letters of the call: s, m, e. -/
structure RoA (ρ : Rho) (s m e : Nat) : Prop where
  es : ρ.i 1 = s
  em : ρ.i 2 = m
  ee : ρ.i 3 = e
  h1 : s < m
  h2 : m < e
  h3 : e ≤ ρ.len 0
  l : ρ.len 0 < 1000000
theorem RoA.agree {ρ ρ' : Rho} {s m e : Nat} (h : RoA ρ s m e) (ag : Agree 110 ρ ρ') : RoA ρ' s m e :=
  ⟨by rw [← ag.i 1 (by decide)]; exact h.es, by rw [← ag.i 2 (by decide)]; exact h.em, by rw [← ag.i 3 (by decide)]; exact h.ee, h.h1, h.h2, by rw [← ag.len 0 (by decide)]; exact h.h3, by rw [← ag.len 0 (by decide)]; exact h.l⟩
/-- Between the rounds. -/
def RoR (s m e : Nat) (f : Nat → ByteArray) (ρ : Rho) : Prop := RoA ρ s m e ∧ ∃ i j : Nat, ρ.i 110 = i ∧ ρ.i 111 = j ∧ RotI f s m e (stR ρ 112) i j
theorem ro_Sb : ro_S.bel 113 = true := by kernel_rfl
theorem ro_ok (ρ : Rho) {s m e : Nat} (h : RoA ρ s m e) : ∃ ρf, Agree 110 ρ ρf ∧ RoR s m e (stR ρ 0) ρf ∧ ρf.i 110 = ρf.i 111 ∧ LoopOk Try.prog ρf Try.f34.ntmps ro_c ro := by
  suffices hh : ∃ (_ : Nat) (ρf : Rho), Agree ro.n ρ ρf ∧ (RoR s m e (stR ρ 0) ρf ∧ ρf.i 110 = ρf.i 111) ∧ LoopOk Try.prog ρf Try.f34.ntmps ro_c ro by
    obtain ⟨_, ρf, h1, ⟨h2, h3⟩, h4⟩ := hh
    exact ⟨ρf, h1, h2, h3, h4⟩
  refine loopOk_famE (L := ro) (N := Try.f34.ntmps) (body := ro_c) (P := Try.prog) rfl ro_Eb (fun _ => ro_S) (fun _ => RoR s m e (stR ρ 0)) (fun _ ρ' => RoR s m e (stR ρ 0) ρ' ∧ ρ'.i 110 = ρ'.i 111) (fun _ ρ' => (ρ'.i 110 + ρ'.i 111).toNat) ?_
    ⟨0, ro_I.ap ρ, Bind.agree ro_Ig ρ, ⟨h.agree (Bind.agree ro_Ig ρ), m - s, e - m, ?_, ?_, ?_⟩, fun E _ hE => okS_imp hE ro_Iok ρ⟩
  · rintro _ ρ' ⟨hA, i, j, hi, hj, hI⟩
    have := hI.hi; have := hI.hj; have := hI.i0; have := hI.j0; have := hA.h3; have := hA.l
    by_cases c : i = j
    · refine .inl ⟨ρ', Agree.refl _ _, ⟨⟨hA, i, j, hi, hj, hI⟩, by rw [hi, hj, c]⟩, rfl, ?_⟩
      exact fam_end (c := cfgL [] (fun _ => [])) ro_fits (cN_ok ρ') (Facts.ok_cons (show (BE.eq (.var 110) (.var 111)).den ρ' = true by rw [deq_t]; show ρ'.i 110 = ρ'.i 111; rw [hi, hj, c]) (Facts.ok_nil _)) ro_X_run rfl (fun h => nomatch h) rfl
    · have f0 : (BE.eq (.var 110) (.var 111)).den ρ' = false := by rw [deq_f]; simp only [IE.den, hi, hj]; omega
      by_cases c2 : j < i
      · refine .inr ⟨0, ro_B_b.ap (putR ρ' 113 (swr (stR ρ' 112) (m - i) m j)), ?_, ?_⟩
        · have ag := putR_agree ρ' 113 (swr (stR ρ' 112) (m - i) m j) (n := 113) (Nat.le_refl _)
          refine fam_go (c := cfgH [] (fun _ => []) [kB]) (Φ := [(.eq (.var 110) (.var 111), false), (.lt (.var 111) (.var 110), true)]) ro_fits (XS.bel_den ag ro_S ro_Sb) (cH_ok (List.forall_mem_cons.2 ⟨?_, List.forall_mem_nil _⟩)) (Facts.ok_cons f0 (Facts.ok_cons (by rw [dlt_t]; show ρ'.i 111 < ρ'.i 110; omega) (Facts.ok_nil _))) ro_B_run rfl ro_B_ok
          refine HS.hk ?_
          rw [putR_st, putR_ne _ _ _ (by decide)]
          have := swap_hs (g := stR ρ' 112) (len := ρ'.len 0) (a := m - i) (b := m) (n := j) (by omega) (by omega) (by omega) (.inl (by omega))
          simp only [X.denL, slD_den, cmp_den]
          rw [show X.den (putR ρ' 113 (swr (stR ρ' 112) (m - i) m j)) (sbX 2 110) = nV (m - i) from i_den _ _ (by simp only [IE.den]; show IOp.den .sub .i64 (ρ'.i 2) (ρ'.i 110) = _; rw [hA.em, hi]; exact sub_nat (by omega) (by omega)),
            show X.den (putR ρ' 113 (swr (stR ρ' 112) (m - i) m j)) (iV 2) = nV m from i_den _ _ hA.em, show X.den (putR ρ' 113 (swr (stR ρ' 112) (m - i) m j)) (iV 111) = nV j from i_den _ _ hj]
          exact this
        · have b := hI.big c2
          have ag : Agree 110 ρ' (ro_B_b.ap (putR ρ' 113 (swr (stR ρ' 112) (m - i) m j))) := (putR_agree _ _ _ (by decide)).trans (Bind.agree ro_B_g _)
          have e1 : (ro_B_b.ap (putR ρ' 113 (swr (stR ρ' 112) (m - i) m j))).i 110 = ((i - j : Nat) : Int) := by
            rw [ap_i ro_B_110]; simp only [IE.den]; show IOp.den .sub .i64 (ρ'.i 110) (ρ'.i 111) = _; rw [hi, hj]; exact sub_nat (by omega) (by omega)
          have e2 : (ro_B_b.ap (putR ρ' 113 (swr (stR ρ' 112) (m - i) m j))).i 111 = j := by rw [ap_i ro_B_111]; exact hj
          have e3 : stR (ro_B_b.ap (putR ρ' 113 (swr (stR ρ' 112) (m - i) m j))) 112 = swr (stR ρ' 112) (m - i) m j := by
            funext k; rw [ap_st ro_B_rw, row_var, putR_st]
          refine ⟨⟨hA.agree ag, i - j, j, e1, e2, by rw [e3]; exact b⟩, ?_, ag⟩
          show (_ + _ : Int).toNat < (_ + _ : Int).toNat
          rw [e1, e2, hi, hj]; omega
      · refine .inr ⟨0, ro_S_b.ap (putR ρ' 113 (swr (stR ρ' 112) (m - i) (m + j - i) i)), ?_, ?_⟩
        · have ag := putR_agree ρ' 113 (swr (stR ρ' 112) (m - i) (m + j - i) i) (n := 113) (Nat.le_refl _)
          refine fam_go (c := cfgH [] (fun _ => []) [kS]) (Φ := [(.eq (.var 110) (.var 111), false), (.lt (.var 111) (.var 110), false)]) ro_fits (XS.bel_den ag ro_S ro_Sb) (cH_ok (List.forall_mem_cons.2 ⟨?_, List.forall_mem_nil _⟩)) (Facts.ok_cons f0 (Facts.ok_cons (by rw [dlt_f]; show ρ'.i 110 ≤ ρ'.i 111; omega) (Facts.ok_nil _))) ro_S_run rfl ro_S_ok
          refine HS.hk ?_
          rw [putR_st, putR_ne _ _ _ (by decide)]
          have := swap_hs (g := stR ρ' 112) (len := ρ'.len 0) (a := m - i) (b := m + j - i) (n := i) (by omega) (by omega) (by omega) (.inl (by omega))
          simp only [X.denL, slD_den, cmp_den]
          rw [show X.den (putR ρ' 113 (swr (stR ρ' 112) (m - i) (m + j - i) i)) (sbX 2 110) = nV (m - i) from i_den _ _ (by simp only [IE.den]; show IOp.den .sub .i64 (ρ'.i 2) (ρ'.i 110) = _; rw [hA.em, hi]; exact sub_nat (by omega) (by omega)),
            show X.den (putR ρ' 113 (swr (stR ρ' 112) (m - i) (m + j - i) i)) (.sc (.i .i64 (.op .sub .i64 (.op .add .i64 (.var 2) (.var 111)) (.var 110)))) = nV (m + j - i) from i_den _ _ (by simp only [IE.den]; show IOp.den .sub .i64 (IOp.den .add .i64 (ρ'.i 2) (ρ'.i 111)) (ρ'.i 110) = _; rw [hA.em, hi, hj, add_nat (by omega)]; exact sub_nat (by omega) (by omega)),
            show X.den (putR ρ' 113 (swr (stR ρ' 112) (m - i) (m + j - i) i)) (iV 110) = nV i from i_den _ _ hi]
          exact this
        · have b := hI.small (show i < j by omega)
          have ag : Agree 110 ρ' (ro_S_b.ap (putR ρ' 113 (swr (stR ρ' 112) (m - i) (m + j - i) i))) := (putR_agree _ _ _ (by decide)).trans (Bind.agree ro_S_g _)
          have e1 : (ro_S_b.ap (putR ρ' 113 (swr (stR ρ' 112) (m - i) (m + j - i) i))).i 110 = i := by rw [ap_i ro_S_110]; exact hi
          have e2 : (ro_S_b.ap (putR ρ' 113 (swr (stR ρ' 112) (m - i) (m + j - i) i))).i 111 = ((j - i : Nat) : Int) := by
            rw [ap_i ro_S_111]; simp only [IE.den]; show IOp.den .sub .i64 (ρ'.i 111) (ρ'.i 110) = _; rw [hi, hj]; exact sub_nat (by omega) (by omega)
          have e3 : stR (ro_S_b.ap (putR ρ' 113 (swr (stR ρ' 112) (m - i) (m + j - i) i))) 112 = swr (stR ρ' 112) (m - i) (m + j - i) i := by
            funext k; rw [ap_st ro_S_rw, row_var, putR_st]
          refine ⟨⟨hA.agree ag, i, j - i, e1, e2, by rw [e3]; exact b⟩, ?_, ag⟩
          show (_ + _ : Int).toNat < (_ + _ : Int).toNat
          rw [e1, e2, hi, hj]; omega
  · rw [ap_i ro_I110]; simp only [IE.den]; rw [h.em, h.es]; have := h.h1; have := h.h2; have := h.h3; have := h.l; exact sub_nat (by omega) (by omega)
  · rw [ap_i ro_I111]; simp only [IE.den]; rw [h.em, h.ee]; have := h.h1; have := h.h2; have := h.h3; have := h.l; exact sub_nat (by omega) (by omega)
  · have e : stR (ro_I.ap ρ) 112 = stR ρ 0 := by funext k; rw [ap_st ro_Ir, row_var]
    rw [e]; exact RotI.init h.h1 h.h2
end Go.Proofs.Ytegekgjjoojgdaa

/- What functions answer, run over letters, where something is known; each shown by running it. -/
namespace Go.Proofs.Ytegekgjjoojgdaa
open Go Go.Proofs.Aw Go.Proofs.Xw
noncomputable def lpRo (f : Nat) : List LoopX := if Nat.beq f 34 = true then [ro] else []
theorem lpRo_34o : othersB [ro] [0] 0 (loopsOf (Try.f34.body.getD .skip)) = true := by kernel_rfl
theorem lpRo_34 {ρ : Rho} (h_ro : LoopOk Try.prog ρ Try.f34.ntmps ro_c ro) : LpsOk Try.prog ρ Try.f34.ntmps [ro] (Try.f34.body.getD .skip) :=
  lps_idx [0] lpRo_34o (List.forall_mem_cons.2 ⟨look_list (c := ro_c) (Ls := [ro]) (by kernel_rfl) (List.forall_mem_cons.2 ⟨h_ro, List.forall_mem_nil _⟩), List.forall_mem_nil _⟩)
theorem lpRo_ok {ρ : Rho} (h_ro : LoopOk Try.prog ρ Try.f34.ntmps ro_c ro) : ∀ f i, btLook f ftsT = some i → LpsOk Try.prog ρ i.ntmps (lpRo f) i.body := by
  intro f i h
  have hi := fts_ok (f, i) (bt_of_mem _ _ (btLook_mem h))
  unfold lpRo
  split
  · rename_i hf
    have hf := Nat.eq_of_beq_eq_true hf
    subst hf
    exact lps_row hi Try.func34 (lpRo_34 h_ro)
  · exact LpsOk.nil _ _ _ _
def kF : HK := ⟨35, [slD, sbX 2 110, iV 2, iV 110, cmpX], rwS 112, rwS 113, .tup []⟩

def roH : T (X × XDl) := (.ret ((.tup []), [((0, 0), some [(.rows 1 (.len 0) (.var 113 [.s]))])]))
set_option maxRecDepth 100000 in
theorem roH_run : askH ⟨cfgH [] lpRo [kF], l_able, []⟩ 34 (roA) (rwS 0) [] = roH := by kernel_rfl
end Go.Proofs.Ytegekgjjoojgdaa

/- Ring: a contract of rotate. -/
namespace Go.Proofs.Ytegekgjjoojgdaa
open Go Go.Proofs.Aw Go.Proofs.Xw Go.Proofs.Sr
set_option maxRecDepth 100000
theorem rot_hk {ρ : Rho} {s m e : Nat} (h : RoA ρ s m e) : ∃ ρ', Agree 110 ρ ρ' ∧ stR ρ' 113 = rot (stR ρ 0) s m e ∧ HKOk Try.prog ρ' ⟨34, roA, rwS 0, rwS 113, .tup []⟩ := by
  obtain ⟨ρf, ag, ⟨hA, i, j, hi, hj, hI⟩, he, L⟩ := ro_ok ρ h
  have hij : i = j := by rw [hi, hj] at he; omega
  subst hij
  have := hI.hi; have := hI.hj; have := hI.i0; have := hA.h3; have := hA.l
  have ag2 := putR_agree ρf 113 (swr (stR ρf 112) (m - i) m i) (n := 113) (Nat.le_refl _)
  have L2 : LoopOk Try.prog (putR ρf 113 (swr (stR ρf 112) (m - i) m i)) Try.f34.ntmps ro_c ro := LoopOk.agree (B := 113) (show ro.S.bel 113 = true by kernel_rfl) rfl (show ro.out.belX 113 = true by kernel_rfl) ag2 L
  refine ⟨_, ag.trans (ag2.le (by decide)), by rw [putR_st]; exact hI.done, ?_⟩
  refine askH_ok (c := ⟨cfgH [] lpRo [kF], l_able, []⟩) (Φ := []) (cfgH_ok (List.forall_mem_nil _) (lpRo_ok L2) (List.forall_mem_cons.2 ⟨?_, List.forall_mem_nil _⟩)) l_able_ok (Facts.ok_nil _) (by rw [roH_run]; rfl) (by kernel_rfl)
  refine HS.hk ?_
  rw [putR_st, putR_ne _ _ _ (by decide)]
  have := swap_hs (g := stR ρf 112) (len := ρf.len 0) (a := m - i) (b := m) (n := i) (by omega) (by omega) (by omega) (.inl (by omega))
  simp only [X.denL, slD_den, cmp_den]
  rw [show X.den (putR ρf 113 (swr (stR ρf 112) (m - i) m i)) (sbX 2 110) = nV (m - i) from i_den _ _ (by simp only [IE.den]; show IOp.den .sub .i64 (ρf.i 2) (ρf.i 110) = _; rw [hA.em, hi]; exact sub_nat (by omega) (by omega)),
    show X.den (putR ρf 113 (swr (stR ρf 112) (m - i) m i)) (iV 2) = nV m from i_den _ _ hA.em, show X.den (putR ρf 113 (swr (stR ρf 112) (m - i) m i)) (iV 110) = nV i from i_den _ _ hi]
  exact this
/-- rotate. -/
theorem rot_hs {len s m e : Nat} {g : Nat → ByteArray} (h1 : s < m) (h2 : m < e) (h3 : e ≤ len) (hl : len < 1000000) : HS 34 [slV len, nV s, nV m, nV e, cmpV] len g (rot g s m e) := by
  obtain ⟨ρ', ag, hs, hk⟩ := rot_hk (ρ := rho0 [0, s, m, e] len g) (s := s) (m := m) (e := e) ⟨rfl, rfl, rfl, h1, h2, h3, hl⟩
  have h := HS.of hk
  rw [hs, agree_st ag (by decide), rho0_st, ← ag.len 0 (by decide), ← X.belL_den ag roA (by kernel_rfl)] at h
  exact h
theorem rot_sw {f : Nat → ByteArray} {s m e : Nat} : ∀ (n i j : Nat) (g : Nat → ByteArray), i + j ≤ n → RotI f s m e g i j → ∃ h, Sw s e g h ∧ h = rot f s m e
  | 0, i, j, g, hn, h => by have := h.i0; omega
  | n + 1, i, j, g, hn, h => by
    have := h.hi; have := h.hj; have := h.i0; have := h.j0
    by_cases c : i = j
    · subst c
      exact ⟨_, swr_sw g (n := i) (.inl (by omega)) ⟨by omega, by omega⟩ ⟨by omega, by omega⟩ i (Nat.le_refl _), h.done⟩
    · by_cases c2 : j < i
      · obtain ⟨u, h1, h2⟩ := rot_sw n (i - j) j _ (by omega) (h.big c2)
        exact ⟨u, (swr_sw g (n := j) (.inl (by omega)) ⟨by omega, by omega⟩ ⟨by omega, by omega⟩ j (Nat.le_refl _)).trans h1, h2⟩
      · obtain ⟨u, h1, h2⟩ := rot_sw n i (j - i) _ (by omega) (h.small (by omega))
        exact ⟨u, (swr_sw g (n := i) (.inl (by omega)) ⟨by omega, by omega⟩ ⟨by omega, by omega⟩ i (Nat.le_refl _)).trans h1, h2⟩
theorem rot_swaps (f : Nat → ByteArray) {s m e : Nat} (h1 : s < m) (h2 : m < e) : Sw s e f (rot f s m e) := by
  obtain ⟨h, w, rfl⟩ := rot_sw _ _ _ f (Nat.le_refl _) (RotI.init h1 h2)
  exact w
end Go.Proofs.Ytegekgjjoojgdaa

/- Loops whose rounds have letters of their own: what is run once. -/
namespace Go.Proofs.Ytegekgjjoojgdaa
open Go Go.Proofs.Aw Go.Proofs.Xw
set_option maxRecDepth 100000
def smA : List X := [slD, iV 1, iV 2, iV 3, cmpX]
def midE (a b : Nat) : IE := .op .conv .i64 (.op .shr .u64 (.op .conv .u64 (.op .add .i64 (.var a) (.var b)) (.lit 0)) (.lit 1)) (.lit 0)
def atX (e : IE) : X := .sc (.s (.cl 0 0 e))
def ks0 : List (Nat × List X × X) := [(15, [atX (midE 120 121), atX (.var 1)], iV 125)]
def ks2 : List (Nat × List X × X) := [(15, [atX (.var 2), atX (midE 120 121)], iV 125)]
def ks4 : List (Nat × List X × X) := [(15, [atX (.op .sub .i64 (.var 134) (midE 130 131)), atX (midE 130 131)], iV 139)]
def one1 : Facts := [(.eq (.op .sub .i64 (.var 2) (.var 1)) (.lit 1), true)]
def one2 : Facts := [(.eq (.op .sub .i64 (.var 2) (.var 1)) (.lit 1), false), (.eq (.op .sub .i64 (.var 3) (.var 2)) (.lit 1), true)]
def one4 : Facts := [(.eq (.op .sub .i64 (.var 2) (.var 1)) (.lit 1), false), (.eq (.op .sub .i64 (.var 3) (.var 2)) (.lit 1), false)]
def lsF (a b : Nat) (v : Bool) : Facts := [(.lt (.var a) (.var b), v)]
def ngF (c : Nat) (v : Bool) : Facts := [(.lt (.var c) (.lit 0), v)]

/-! m0: letters {10: 120, 11: 121} rows None; entered under [] -/
noncomputable def m0_c : Code := (loopsOf (Try.f30.body.getD .skip))[0]?.getD .skip
def m0_E : XS := ⟨[(11, (.sc (.i .i64 (.var 3)))), (30, .top), (10, (.sc (.i .i64 (.var 2)))), (29, .top), (28, .top), (27, .top), (26, .top), (25, .top), (0, (.slv (0, 0) 1 (.lit (0 : Int)) (.len 0) true)), (1, (.sc (.i .i64 (.var 1)))), (2, (.sc (.i .i64 (.var 2)))), (3, (.sc (.i .i64 (.var 3)))), (4, (.fn (.func 15) [] []))], [((0, 0), [(.rows 1 (.len 0) (.var 0 [.s]))])], 10⟩
def m0_S : XS := ⟨[(11, (.sc (.i .i64 (.var 121)))), (30, .top), (10, (.sc (.i .i64 (.var 120)))), (29, .top), (28, .top), (27, .top), (26, .top), (25, .top), (0, (.slv (0, 0) 1 (.lit (0 : Int)) (.len 0) true)), (1, (.sc (.i .i64 (.var 1)))), (2, (.sc (.i .i64 (.var 2)))), (3, (.sc (.i .i64 (.var 3)))), (4, (.fn (.func 15) [] []))], [((0, 0), [(.rows 1 (.len 0) (.var 0 [.s]))])], 10⟩
def m0_I : Bind := ⟨[(120, (.var 2)), (121, (.var 3))], [], [], []⟩
def m0_ks : List Nat := [11, 30, 10, 29, 28, 27, 26, 25, 0, 1, 2, 3, 4]
theorem m0_Iok : okS 2 120 m0_I (nmS m0_S m0_E) m0_S m0_E = true := by kernel_rfl
theorem m0_Ig : m0_I.ge 120 = true := by kernel_rfl
theorem m0_Eb : m0_E.bel 120 = true := by kernel_rfl
theorem m0_fits : fitsC Try.f30.ntmps m0_c = true := by kernel_rfl
theorem m0_I120 : lassoc 120 m0_I.i = some (.var 2) := by kernel_rfl
theorem m0_I121 : lassoc 121 m0_I.i = some (.var 3) := by kernel_rfl
def m0_G_r : T (XE × XS) := (.need (.and (.not (.lt (.op .conv .i64 (.op .shr .u64 (.op .conv .u64 (.op .add .i64 (.var 120) (.var 121)) (.lit (0 : Int))) (.lit (1 : Int))) (.lit (0 : Int))) (.lit (0 : Int)))) (.and (.lt (.op .conv .i64 (.op .shr .u64 (.op .conv .u64 (.op .add .i64 (.var 120) (.var 121)) (.lit (0 : Int))) (.lit (1 : Int))) (.lit (0 : Int))) (.len 0)) (.and (.not (.lt (.var 1) (.lit (0 : Int)))) (.lt (.var 1) (.len 0))))) (.ret (.normal, ⟨[(11, (.sc (.i .i64 (.var 121)))), (30, .top), (10, (.sc (.i .i64 (.op .add .i64 (.op .conv .i64 (.op .shr .u64 (.op .conv .u64 (.op .add .i64 (.var 120) (.var 121)) (.lit (0 : Int))) (.lit (1 : Int))) (.lit (0 : Int))) (.lit (1 : Int)))))), (29, .top), (28, .top), (27, .top), (26, .top), (25, .top), (0, (.slv (0, 0) 1 (.lit (0 : Int)) (.len 0) true)), (1, (.sc (.i .i64 (.var 1)))), (2, (.sc (.i .i64 (.var 2)))), (3, (.sc (.i .i64 (.var 3)))), (4, (.fn (.func 15) [] []))], [((0, 0), [(.rows 1 (.len 0) (.var 0 [.s]))])], 34⟩)))
theorem m0_G_run : (codeX (cfgL ks0 (fun _ => [])).ti (callS ⟨(cfgL ks0 (fun _ => [])), l_able, []⟩ 12) (((cfgL ks0 (fun _ => [])).ft 30).elim [] (·.ms)) 2 ((cfgL ks0 (fun _ => [])).lp 30) 1000 m0_c (lsF 120 121 true ++ ngF 125 true) m0_S).map (sqz m0_ks) = m0_G_r := by kernel_rfl
def m0_G_s : XS := ⟨[(11, (.sc (.i .i64 (.var 121)))), (30, .top), (10, (.sc (.i .i64 (.op .add .i64 (.op .conv .i64 (.op .shr .u64 (.op .conv .u64 (.op .add .i64 (.var 120) (.var 121)) (.lit (0 : Int))) (.lit (1 : Int))) (.lit (0 : Int))) (.lit (1 : Int)))))), (29, .top), (28, .top), (27, .top), (26, .top), (25, .top), (0, (.slv (0, 0) 1 (.lit (0 : Int)) (.len 0) true)), (1, (.sc (.i .i64 (.var 1)))), (2, (.sc (.i .i64 (.var 2)))), (3, (.sc (.i .i64 (.var 3)))), (4, (.fn (.func 15) [] []))], [((0, 0), [(.rows 1 (.len 0) (.var 0 [.s]))])], 34⟩
def m0_G_b : Bind := ⟨[(120, (.op .add .i64 (.op .conv .i64 (.op .shr .u64 (.op .conv .u64 (.op .add .i64 (.var 120) (.var 121)) (.lit (0 : Int))) (.lit (1 : Int))) (.lit (0 : Int))) (.lit (1 : Int)))), (121, (.var 121))], [], [], []⟩
theorem m0_G_ok : okS 2 120 m0_G_b (nmS m0_S m0_G_s) m0_S m0_G_s = true := by kernel_rfl
theorem m0_G_g : m0_G_b.ge 120 = true := by kernel_rfl
theorem m0_G_120 : lassoc 120 m0_G_b.i = some (.op .add .i64 (.op .conv .i64 (.op .shr .u64 (.op .conv .u64 (.op .add .i64 (.var 120) (.var 121)) (.lit (0 : Int))) (.lit (1 : Int))) (.lit (0 : Int))) (.lit (1 : Int))) := by kernel_rfl
theorem m0_G_121 : lassoc 121 m0_G_b.i = some (.var 121) := by kernel_rfl
def m0_L_r : T (XE × XS) := (.need (.and (.not (.lt (.op .conv .i64 (.op .shr .u64 (.op .conv .u64 (.op .add .i64 (.var 120) (.var 121)) (.lit (0 : Int))) (.lit (1 : Int))) (.lit (0 : Int))) (.lit (0 : Int)))) (.and (.lt (.op .conv .i64 (.op .shr .u64 (.op .conv .u64 (.op .add .i64 (.var 120) (.var 121)) (.lit (0 : Int))) (.lit (1 : Int))) (.lit (0 : Int))) (.len 0)) (.and (.not (.lt (.var 1) (.lit (0 : Int)))) (.lt (.var 1) (.len 0))))) (.ret (.normal, ⟨[(11, (.sc (.i .i64 (.op .conv .i64 (.op .shr .u64 (.op .conv .u64 (.op .add .i64 (.var 120) (.var 121)) (.lit (0 : Int))) (.lit (1 : Int))) (.lit (0 : Int)))))), (30, .top), (10, (.sc (.i .i64 (.var 120)))), (29, .top), (28, .top), (27, .top), (26, .top), (25, .top), (0, (.slv (0, 0) 1 (.lit (0 : Int)) (.len 0) true)), (1, (.sc (.i .i64 (.var 1)))), (2, (.sc (.i .i64 (.var 2)))), (3, (.sc (.i .i64 (.var 3)))), (4, (.fn (.func 15) [] []))], [((0, 0), [(.rows 1 (.len 0) (.var 0 [.s]))])], 33⟩)))
theorem m0_L_run : (codeX (cfgL ks0 (fun _ => [])).ti (callS ⟨(cfgL ks0 (fun _ => [])), l_able, []⟩ 12) (((cfgL ks0 (fun _ => [])).ft 30).elim [] (·.ms)) 2 ((cfgL ks0 (fun _ => [])).lp 30) 1000 m0_c (lsF 120 121 true ++ ngF 125 false) m0_S).map (sqz m0_ks) = m0_L_r := by kernel_rfl
def m0_L_s : XS := ⟨[(11, (.sc (.i .i64 (.op .conv .i64 (.op .shr .u64 (.op .conv .u64 (.op .add .i64 (.var 120) (.var 121)) (.lit (0 : Int))) (.lit (1 : Int))) (.lit (0 : Int)))))), (30, .top), (10, (.sc (.i .i64 (.var 120)))), (29, .top), (28, .top), (27, .top), (26, .top), (25, .top), (0, (.slv (0, 0) 1 (.lit (0 : Int)) (.len 0) true)), (1, (.sc (.i .i64 (.var 1)))), (2, (.sc (.i .i64 (.var 2)))), (3, (.sc (.i .i64 (.var 3)))), (4, (.fn (.func 15) [] []))], [((0, 0), [(.rows 1 (.len 0) (.var 0 [.s]))])], 33⟩
def m0_L_b : Bind := ⟨[(120, (.var 120)), (121, (.op .conv .i64 (.op .shr .u64 (.op .conv .u64 (.op .add .i64 (.var 120) (.var 121)) (.lit (0 : Int))) (.lit (1 : Int))) (.lit (0 : Int))))], [], [], []⟩
theorem m0_L_ok : okS 2 120 m0_L_b (nmS m0_S m0_L_s) m0_S m0_L_s = true := by kernel_rfl
theorem m0_L_g : m0_L_b.ge 120 = true := by kernel_rfl
theorem m0_L_120 : lassoc 120 m0_L_b.i = some (.var 120) := by kernel_rfl
theorem m0_L_121 : lassoc 121 m0_L_b.i = some (.op .conv .i64 (.op .shr .u64 (.op .conv .u64 (.op .add .i64 (.var 120) (.var 121)) (.lit (0 : Int))) (.lit (1 : Int))) (.lit (0 : Int))) := by kernel_rfl
def m0_X_r : T (XE × XS) := (.ret ((.exit 0), ⟨[(11, (.sc (.i .i64 (.var 121)))), (30, .top), (10, (.sc (.i .i64 (.var 120)))), (29, .top), (28, .top), (27, .top), (26, .top), (25, .top), (0, (.slv (0, 0) 1 (.lit (0 : Int)) (.len 0) true)), (1, (.sc (.i .i64 (.var 1)))), (2, (.sc (.i .i64 (.var 2)))), (3, (.sc (.i .i64 (.var 3)))), (4, (.fn (.func 15) [] []))], [((0, 0), [(.rows 1 (.len 0) (.var 0 [.s]))])], 13⟩))
theorem m0_X_run : (codeX (cfgL [] (fun _ => [])).ti (callS ⟨(cfgL [] (fun _ => [])), l_able, []⟩ 12) (((cfgL [] (fun _ => [])).ft 30).elim [] (·.ms)) 2 ((cfgL [] (fun _ => [])).lp 30) 1000 m0_c (lsF 120 121 false) m0_S).map (sqz m0_ks) = m0_X_r := by kernel_rfl
def m0_X_s : XS := ⟨[(11, (.sc (.i .i64 (.var 121)))), (30, .top), (10, (.sc (.i .i64 (.var 120)))), (29, .top), (28, .top), (27, .top), (26, .top), (25, .top), (0, (.slv (0, 0) 1 (.lit (0 : Int)) (.len 0) true)), (1, (.sc (.i .i64 (.var 1)))), (2, (.sc (.i .i64 (.var 2)))), (3, (.sc (.i .i64 (.var 3)))), (4, (.fn (.func 15) [] []))], [((0, 0), [(.rows 1 (.len 0) (.var 0 [.s]))])], 13⟩
noncomputable def m0 : LoopX := ⟨((codeKey m0_c).getD 0), 2, 120, m0_E, noB, [], .ret ((.exit 0), m0_X_s)⟩
theorem m0_ob : m0.out.belX 140 = true := by kernel_rfl
/-! m2: letters {14: 120, 15: 121} rows None; entered under [] -/
noncomputable def m2_c : Code := (loopsOf (Try.f30.body.getD .skip))[2]?.getD .skip
def m2_E : XS := ⟨[(15, (.sc (.i .i64 (.var 2)))), (82, .top), (14, (.sc (.i .i64 (.var 1)))), (81, .top), (80, .top), (79, .top), (78, .top), (77, .top), (28, .top), (27, .top), (26, .top), (25, .top), (0, (.slv (0, 0) 1 (.lit (0 : Int)) (.len 0) true)), (1, (.sc (.i .i64 (.var 1)))), (2, (.sc (.i .i64 (.var 2)))), (3, (.sc (.i .i64 (.var 3)))), (4, (.fn (.func 15) [] []))], [((0, 0), [(.rows 1 (.len 0) (.var 0 [.s]))])], 14⟩
def m2_S : XS := ⟨[(15, (.sc (.i .i64 (.var 121)))), (82, .top), (14, (.sc (.i .i64 (.var 120)))), (81, .top), (80, .top), (79, .top), (78, .top), (77, .top), (28, .top), (27, .top), (26, .top), (25, .top), (0, (.slv (0, 0) 1 (.lit (0 : Int)) (.len 0) true)), (1, (.sc (.i .i64 (.var 1)))), (2, (.sc (.i .i64 (.var 2)))), (3, (.sc (.i .i64 (.var 3)))), (4, (.fn (.func 15) [] []))], [((0, 0), [(.rows 1 (.len 0) (.var 0 [.s]))])], 14⟩
def m2_I : Bind := ⟨[(120, (.var 1)), (121, (.var 2))], [], [], []⟩
def m2_ks : List Nat := [15, 82, 14, 81, 80, 79, 78, 77, 28, 27, 26, 25, 0, 1, 2, 3, 4]
theorem m2_Iok : okS 2 120 m2_I (nmS m2_S m2_E) m2_S m2_E = true := by kernel_rfl
theorem m2_Ig : m2_I.ge 120 = true := by kernel_rfl
theorem m2_Eb : m2_E.bel 120 = true := by kernel_rfl
theorem m2_fits : fitsC Try.f30.ntmps m2_c = true := by kernel_rfl
theorem m2_I120 : lassoc 120 m2_I.i = some (.var 1) := by kernel_rfl
theorem m2_I121 : lassoc 121 m2_I.i = some (.var 2) := by kernel_rfl
def m2_G_r : T (XE × XS) := (.need (.and (.not (.lt (.var 2) (.lit (0 : Int)))) (.and (.lt (.var 2) (.len 0)) (.and (.not (.lt (.op .conv .i64 (.op .shr .u64 (.op .conv .u64 (.op .add .i64 (.var 120) (.var 121)) (.lit (0 : Int))) (.lit (1 : Int))) (.lit (0 : Int))) (.lit (0 : Int)))) (.lt (.op .conv .i64 (.op .shr .u64 (.op .conv .u64 (.op .add .i64 (.var 120) (.var 121)) (.lit (0 : Int))) (.lit (1 : Int))) (.lit (0 : Int))) (.len 0))))) (.ret (.normal, ⟨[(15, (.sc (.i .i64 (.op .conv .i64 (.op .shr .u64 (.op .conv .u64 (.op .add .i64 (.var 120) (.var 121)) (.lit (0 : Int))) (.lit (1 : Int))) (.lit (0 : Int)))))), (82, .top), (14, (.sc (.i .i64 (.var 120)))), (81, .top), (80, .top), (79, .top), (78, .top), (77, .top), (28, .top), (27, .top), (26, .top), (25, .top), (0, (.slv (0, 0) 1 (.lit (0 : Int)) (.len 0) true)), (1, (.sc (.i .i64 (.var 1)))), (2, (.sc (.i .i64 (.var 2)))), (3, (.sc (.i .i64 (.var 3)))), (4, (.fn (.func 15) [] []))], [((0, 0), [(.rows 1 (.len 0) (.var 0 [.s]))])], 38⟩)))
theorem m2_G_run : (codeX (cfgL ks2 (fun _ => [])).ti (callS ⟨(cfgL ks2 (fun _ => [])), l_able, []⟩ 12) (((cfgL ks2 (fun _ => [])).ft 30).elim [] (·.ms)) 2 ((cfgL ks2 (fun _ => [])).lp 30) 1000 m2_c (lsF 120 121 true ++ ngF 125 true) m2_S).map (sqz m2_ks) = m2_G_r := by kernel_rfl
def m2_G_s : XS := ⟨[(15, (.sc (.i .i64 (.op .conv .i64 (.op .shr .u64 (.op .conv .u64 (.op .add .i64 (.var 120) (.var 121)) (.lit (0 : Int))) (.lit (1 : Int))) (.lit (0 : Int)))))), (82, .top), (14, (.sc (.i .i64 (.var 120)))), (81, .top), (80, .top), (79, .top), (78, .top), (77, .top), (28, .top), (27, .top), (26, .top), (25, .top), (0, (.slv (0, 0) 1 (.lit (0 : Int)) (.len 0) true)), (1, (.sc (.i .i64 (.var 1)))), (2, (.sc (.i .i64 (.var 2)))), (3, (.sc (.i .i64 (.var 3)))), (4, (.fn (.func 15) [] []))], [((0, 0), [(.rows 1 (.len 0) (.var 0 [.s]))])], 38⟩
def m2_G_b : Bind := ⟨[(120, (.var 120)), (121, (.op .conv .i64 (.op .shr .u64 (.op .conv .u64 (.op .add .i64 (.var 120) (.var 121)) (.lit (0 : Int))) (.lit (1 : Int))) (.lit (0 : Int))))], [], [], []⟩
theorem m2_G_ok : okS 2 120 m2_G_b (nmS m2_S m2_G_s) m2_S m2_G_s = true := by kernel_rfl
theorem m2_G_g : m2_G_b.ge 120 = true := by kernel_rfl
theorem m2_G_120 : lassoc 120 m2_G_b.i = some (.var 120) := by kernel_rfl
theorem m2_G_121 : lassoc 121 m2_G_b.i = some (.op .conv .i64 (.op .shr .u64 (.op .conv .u64 (.op .add .i64 (.var 120) (.var 121)) (.lit (0 : Int))) (.lit (1 : Int))) (.lit (0 : Int))) := by kernel_rfl
def m2_L_r : T (XE × XS) := (.need (.and (.not (.lt (.var 2) (.lit (0 : Int)))) (.and (.lt (.var 2) (.len 0)) (.and (.not (.lt (.op .conv .i64 (.op .shr .u64 (.op .conv .u64 (.op .add .i64 (.var 120) (.var 121)) (.lit (0 : Int))) (.lit (1 : Int))) (.lit (0 : Int))) (.lit (0 : Int)))) (.lt (.op .conv .i64 (.op .shr .u64 (.op .conv .u64 (.op .add .i64 (.var 120) (.var 121)) (.lit (0 : Int))) (.lit (1 : Int))) (.lit (0 : Int))) (.len 0))))) (.ret (.normal, ⟨[(15, (.sc (.i .i64 (.var 121)))), (82, .top), (14, (.sc (.i .i64 (.op .add .i64 (.op .conv .i64 (.op .shr .u64 (.op .conv .u64 (.op .add .i64 (.var 120) (.var 121)) (.lit (0 : Int))) (.lit (1 : Int))) (.lit (0 : Int))) (.lit (1 : Int)))))), (81, .top), (80, .top), (79, .top), (78, .top), (77, .top), (28, .top), (27, .top), (26, .top), (25, .top), (0, (.slv (0, 0) 1 (.lit (0 : Int)) (.len 0) true)), (1, (.sc (.i .i64 (.var 1)))), (2, (.sc (.i .i64 (.var 2)))), (3, (.sc (.i .i64 (.var 3)))), (4, (.fn (.func 15) [] []))], [((0, 0), [(.rows 1 (.len 0) (.var 0 [.s]))])], 39⟩)))
theorem m2_L_run : (codeX (cfgL ks2 (fun _ => [])).ti (callS ⟨(cfgL ks2 (fun _ => [])), l_able, []⟩ 12) (((cfgL ks2 (fun _ => [])).ft 30).elim [] (·.ms)) 2 ((cfgL ks2 (fun _ => [])).lp 30) 1000 m2_c (lsF 120 121 true ++ ngF 125 false) m2_S).map (sqz m2_ks) = m2_L_r := by kernel_rfl
def m2_L_s : XS := ⟨[(15, (.sc (.i .i64 (.var 121)))), (82, .top), (14, (.sc (.i .i64 (.op .add .i64 (.op .conv .i64 (.op .shr .u64 (.op .conv .u64 (.op .add .i64 (.var 120) (.var 121)) (.lit (0 : Int))) (.lit (1 : Int))) (.lit (0 : Int))) (.lit (1 : Int)))))), (81, .top), (80, .top), (79, .top), (78, .top), (77, .top), (28, .top), (27, .top), (26, .top), (25, .top), (0, (.slv (0, 0) 1 (.lit (0 : Int)) (.len 0) true)), (1, (.sc (.i .i64 (.var 1)))), (2, (.sc (.i .i64 (.var 2)))), (3, (.sc (.i .i64 (.var 3)))), (4, (.fn (.func 15) [] []))], [((0, 0), [(.rows 1 (.len 0) (.var 0 [.s]))])], 39⟩
def m2_L_b : Bind := ⟨[(120, (.op .add .i64 (.op .conv .i64 (.op .shr .u64 (.op .conv .u64 (.op .add .i64 (.var 120) (.var 121)) (.lit (0 : Int))) (.lit (1 : Int))) (.lit (0 : Int))) (.lit (1 : Int)))), (121, (.var 121))], [], [], []⟩
theorem m2_L_ok : okS 2 120 m2_L_b (nmS m2_S m2_L_s) m2_S m2_L_s = true := by kernel_rfl
theorem m2_L_g : m2_L_b.ge 120 = true := by kernel_rfl
theorem m2_L_120 : lassoc 120 m2_L_b.i = some (.op .add .i64 (.op .conv .i64 (.op .shr .u64 (.op .conv .u64 (.op .add .i64 (.var 120) (.var 121)) (.lit (0 : Int))) (.lit (1 : Int))) (.lit (0 : Int))) (.lit (1 : Int))) := by kernel_rfl
theorem m2_L_121 : lassoc 121 m2_L_b.i = some (.var 121) := by kernel_rfl
def m2_X_r : T (XE × XS) := (.ret ((.exit 4), ⟨[(15, (.sc (.i .i64 (.var 121)))), (82, .top), (14, (.sc (.i .i64 (.var 120)))), (81, .top), (80, .top), (79, .top), (78, .top), (77, .top), (28, .top), (27, .top), (26, .top), (25, .top), (0, (.slv (0, 0) 1 (.lit (0 : Int)) (.len 0) true)), (1, (.sc (.i .i64 (.var 1)))), (2, (.sc (.i .i64 (.var 2)))), (3, (.sc (.i .i64 (.var 3)))), (4, (.fn (.func 15) [] []))], [((0, 0), [(.rows 1 (.len 0) (.var 0 [.s]))])], 17⟩))
theorem m2_X_run : (codeX (cfgL [] (fun _ => [])).ti (callS ⟨(cfgL [] (fun _ => [])), l_able, []⟩ 12) (((cfgL [] (fun _ => [])).ft 30).elim [] (·.ms)) 2 ((cfgL [] (fun _ => [])).lp 30) 1000 m2_c (lsF 120 121 false) m2_S).map (sqz m2_ks) = m2_X_r := by kernel_rfl
def m2_X_s : XS := ⟨[(15, (.sc (.i .i64 (.var 121)))), (82, .top), (14, (.sc (.i .i64 (.var 120)))), (81, .top), (80, .top), (79, .top), (78, .top), (77, .top), (28, .top), (27, .top), (26, .top), (25, .top), (0, (.slv (0, 0) 1 (.lit (0 : Int)) (.len 0) true)), (1, (.sc (.i .i64 (.var 1)))), (2, (.sc (.i .i64 (.var 2)))), (3, (.sc (.i .i64 (.var 3)))), (4, (.fn (.func 15) [] []))], [((0, 0), [(.rows 1 (.len 0) (.var 0 [.s]))])], 17⟩
noncomputable def m2 : LoopX := ⟨((codeKey m2_c).getD 0), 2, 120, m2_E, noB, [], .ret ((.exit 4), m2_X_s)⟩
theorem m2_ob : m2.out.belX 140 = true := by kernel_rfl
/-! m4: letters {18: 132, 19: 133, 22: 134, 20: 130, 21: 131} rows None; entered under [] -/
noncomputable def m4_c : Code := (loopsOf (Try.f30.body.getD .skip))[4]?.getD .skip
def m4_E : XS := ⟨[(22, (.sc (.i .i64 (.op .sub .i64 (.op .add .i64 (.op .conv .i64 (.op .shr .u64 (.op .conv .u64 (.op .add .i64 (.var 1) (.var 3)) (.lit (0 : Int))) (.lit (1 : Int))) (.lit (0 : Int))) (.var 2)) (.lit (1 : Int)))))), (148, .top), (147, .top), (21, (.sc (.i .i64 (.ite (.lt (.op .conv .i64 (.op .shr .u64 (.op .conv .u64 (.op .add .i64 (.var 1) (.var 3)) (.lit (0 : Int))) (.lit (1 : Int))) (.lit (0 : Int))) (.var 2)) (.op .conv .i64 (.op .shr .u64 (.op .conv .u64 (.op .add .i64 (.var 1) (.var 3)) (.lit (0 : Int))) (.lit (1 : Int))) (.lit (0 : Int))) (.var 2))))), (144, .top), (20, (.sc (.i .i64 (.ite (.lt (.op .conv .i64 (.op .shr .u64 (.op .conv .u64 (.op .add .i64 (.var 1) (.var 3)) (.lit (0 : Int))) (.lit (1 : Int))) (.lit (0 : Int))) (.var 2)) (.op .sub .i64 (.op .add .i64 (.op .conv .i64 (.op .shr .u64 (.op .conv .u64 (.op .add .i64 (.var 1) (.var 3)) (.lit (0 : Int))) (.lit (1 : Int))) (.lit (0 : Int))) (.var 2)) (.var 3)) (.var 1))))), (143, .top), (142, .top), (141, .top), (146, .top), (145, .top), (140, .top), (139, .top), (138, .top), (19, (.sc (.i .i64 (.op .add .i64 (.op .conv .i64 (.op .shr .u64 (.op .conv .u64 (.op .add .i64 (.var 1) (.var 3)) (.lit (0 : Int))) (.lit (1 : Int))) (.lit (0 : Int))) (.var 2))))), (137, .top), (136, .top), (135, .top), (18, (.sc (.i .i64 (.op .conv .i64 (.op .shr .u64 (.op .conv .u64 (.op .add .i64 (.var 1) (.var 3)) (.lit (0 : Int))) (.lit (1 : Int))) (.lit (0 : Int)))))), (134, .top), (133, .top), (132, .top), (131, .top), (130, .top), (129, .top), (80, .top), (79, .top), (78, .top), (77, .top), (28, .top), (27, .top), (26, .top), (25, .top), (0, (.slv (0, 0) 1 (.lit (0 : Int)) (.len 0) true)), (1, (.sc (.i .i64 (.var 1)))), (2, (.sc (.i .i64 (.var 2)))), (3, (.sc (.i .i64 (.var 3)))), (4, (.fn (.func 15) [] []))], [((0, 0), [(.rows 1 (.len 0) (.var 0 [.s]))])], 35⟩
def m4_S : XS := ⟨[(22, (.sc (.i .i64 (.var 134)))), (148, .top), (147, .top), (21, (.sc (.i .i64 (.var 131)))), (144, .top), (20, (.sc (.i .i64 (.var 130)))), (143, .top), (142, .top), (141, .top), (146, .top), (145, .top), (140, .top), (139, .top), (138, .top), (19, (.sc (.i .i64 (.var 133)))), (137, .top), (136, .top), (135, .top), (18, (.sc (.i .i64 (.var 132)))), (134, .top), (133, .top), (132, .top), (131, .top), (130, .top), (129, .top), (80, .top), (79, .top), (78, .top), (77, .top), (28, .top), (27, .top), (26, .top), (25, .top), (0, (.slv (0, 0) 1 (.lit (0 : Int)) (.len 0) true)), (1, (.sc (.i .i64 (.var 1)))), (2, (.sc (.i .i64 (.var 2)))), (3, (.sc (.i .i64 (.var 3)))), (4, (.fn (.func 15) [] []))], [((0, 0), [(.rows 1 (.len 0) (.var 0 [.s]))])], 35⟩
def m4_I : Bind := ⟨[(132, (.op .conv .i64 (.op .shr .u64 (.op .conv .u64 (.op .add .i64 (.var 1) (.var 3)) (.lit (0 : Int))) (.lit (1 : Int))) (.lit (0 : Int)))), (133, (.op .add .i64 (.op .conv .i64 (.op .shr .u64 (.op .conv .u64 (.op .add .i64 (.var 1) (.var 3)) (.lit (0 : Int))) (.lit (1 : Int))) (.lit (0 : Int))) (.var 2))), (134, (.op .sub .i64 (.op .add .i64 (.op .conv .i64 (.op .shr .u64 (.op .conv .u64 (.op .add .i64 (.var 1) (.var 3)) (.lit (0 : Int))) (.lit (1 : Int))) (.lit (0 : Int))) (.var 2)) (.lit (1 : Int)))), (130, (.ite (.lt (.op .conv .i64 (.op .shr .u64 (.op .conv .u64 (.op .add .i64 (.var 1) (.var 3)) (.lit (0 : Int))) (.lit (1 : Int))) (.lit (0 : Int))) (.var 2)) (.op .sub .i64 (.op .add .i64 (.op .conv .i64 (.op .shr .u64 (.op .conv .u64 (.op .add .i64 (.var 1) (.var 3)) (.lit (0 : Int))) (.lit (1 : Int))) (.lit (0 : Int))) (.var 2)) (.var 3)) (.var 1))), (131, (.ite (.lt (.op .conv .i64 (.op .shr .u64 (.op .conv .u64 (.op .add .i64 (.var 1) (.var 3)) (.lit (0 : Int))) (.lit (1 : Int))) (.lit (0 : Int))) (.var 2)) (.op .conv .i64 (.op .shr .u64 (.op .conv .u64 (.op .add .i64 (.var 1) (.var 3)) (.lit (0 : Int))) (.lit (1 : Int))) (.lit (0 : Int))) (.var 2)))], [], [], []⟩
def m4_ks : List Nat := [22, 148, 147, 21, 144, 20, 143, 142, 141, 146, 145, 140, 139, 138, 19, 137, 136, 135, 18, 134, 133, 132, 131, 130, 129, 80, 79, 78, 77, 28, 27, 26, 25, 0, 1, 2, 3, 4]
theorem m4_Iok : okS 2 130 m4_I (nmS m4_S m4_E) m4_S m4_E = true := by kernel_rfl
theorem m4_Ig : m4_I.ge 130 = true := by kernel_rfl
theorem m4_Eb : m4_E.bel 130 = true := by kernel_rfl
theorem m4_fits : fitsC Try.f30.ntmps m4_c = true := by kernel_rfl
theorem m4_I132 : lassoc 132 m4_I.i = some (.op .conv .i64 (.op .shr .u64 (.op .conv .u64 (.op .add .i64 (.var 1) (.var 3)) (.lit (0 : Int))) (.lit (1 : Int))) (.lit (0 : Int))) := by kernel_rfl
theorem m4_I133 : lassoc 133 m4_I.i = some (.op .add .i64 (.op .conv .i64 (.op .shr .u64 (.op .conv .u64 (.op .add .i64 (.var 1) (.var 3)) (.lit (0 : Int))) (.lit (1 : Int))) (.lit (0 : Int))) (.var 2)) := by kernel_rfl
theorem m4_I134 : lassoc 134 m4_I.i = some (.op .sub .i64 (.op .add .i64 (.op .conv .i64 (.op .shr .u64 (.op .conv .u64 (.op .add .i64 (.var 1) (.var 3)) (.lit (0 : Int))) (.lit (1 : Int))) (.lit (0 : Int))) (.var 2)) (.lit (1 : Int))) := by kernel_rfl
theorem m4_I130 : lassoc 130 m4_I.i = some (.ite (.lt (.op .conv .i64 (.op .shr .u64 (.op .conv .u64 (.op .add .i64 (.var 1) (.var 3)) (.lit (0 : Int))) (.lit (1 : Int))) (.lit (0 : Int))) (.var 2)) (.op .sub .i64 (.op .add .i64 (.op .conv .i64 (.op .shr .u64 (.op .conv .u64 (.op .add .i64 (.var 1) (.var 3)) (.lit (0 : Int))) (.lit (1 : Int))) (.lit (0 : Int))) (.var 2)) (.var 3)) (.var 1)) := by kernel_rfl
theorem m4_I131 : lassoc 131 m4_I.i = some (.ite (.lt (.op .conv .i64 (.op .shr .u64 (.op .conv .u64 (.op .add .i64 (.var 1) (.var 3)) (.lit (0 : Int))) (.lit (1 : Int))) (.lit (0 : Int))) (.var 2)) (.op .conv .i64 (.op .shr .u64 (.op .conv .u64 (.op .add .i64 (.var 1) (.var 3)) (.lit (0 : Int))) (.lit (1 : Int))) (.lit (0 : Int))) (.var 2)) := by kernel_rfl
def m4_G_r : T (XE × XS) := (.need (.and (.not (.lt (.op .sub .i64 (.var 134) (.op .conv .i64 (.op .shr .u64 (.op .conv .u64 (.op .add .i64 (.var 130) (.var 131)) (.lit (0 : Int))) (.lit (1 : Int))) (.lit (0 : Int)))) (.lit (0 : Int)))) (.and (.lt (.op .sub .i64 (.var 134) (.op .conv .i64 (.op .shr .u64 (.op .conv .u64 (.op .add .i64 (.var 130) (.var 131)) (.lit (0 : Int))) (.lit (1 : Int))) (.lit (0 : Int)))) (.len 0)) (.and (.not (.lt (.op .conv .i64 (.op .shr .u64 (.op .conv .u64 (.op .add .i64 (.var 130) (.var 131)) (.lit (0 : Int))) (.lit (1 : Int))) (.lit (0 : Int))) (.lit (0 : Int)))) (.lt (.op .conv .i64 (.op .shr .u64 (.op .conv .u64 (.op .add .i64 (.var 130) (.var 131)) (.lit (0 : Int))) (.lit (1 : Int))) (.lit (0 : Int))) (.len 0))))) (.ret (.normal, ⟨[(22, (.sc (.i .i64 (.var 134)))), (148, .top), (147, .top), (21, (.sc (.i .i64 (.op .conv .i64 (.op .shr .u64 (.op .conv .u64 (.op .add .i64 (.var 130) (.var 131)) (.lit (0 : Int))) (.lit (1 : Int))) (.lit (0 : Int)))))), (144, .top), (20, (.sc (.i .i64 (.var 130)))), (143, .top), (142, .top), (141, .top), (146, .top), (145, .top), (140, .top), (139, .top), (138, .top), (19, (.sc (.i .i64 (.var 133)))), (137, .top), (136, .top), (135, .top), (18, (.sc (.i .i64 (.var 132)))), (134, .top), (133, .top), (132, .top), (131, .top), (130, .top), (129, .top), (80, .top), (79, .top), (78, .top), (77, .top), (28, .top), (27, .top), (26, .top), (25, .top), (0, (.slv (0, 0) 1 (.lit (0 : Int)) (.len 0) true)), (1, (.sc (.i .i64 (.var 1)))), (2, (.sc (.i .i64 (.var 2)))), (3, (.sc (.i .i64 (.var 3)))), (4, (.fn (.func 15) [] []))], [((0, 0), [(.rows 1 (.len 0) (.var 0 [.s]))])], 61⟩)))
theorem m4_G_run : (codeX (cfgL ks4 (fun _ => [])).ti (callS ⟨(cfgL ks4 (fun _ => [])), l_able, []⟩ 12) (((cfgL ks4 (fun _ => [])).ft 30).elim [] (·.ms)) 2 ((cfgL ks4 (fun _ => [])).lp 30) 1000 m4_c (lsF 130 131 true ++ ngF 139 true) m4_S).map (sqz m4_ks) = m4_G_r := by kernel_rfl
def m4_G_s : XS := ⟨[(22, (.sc (.i .i64 (.var 134)))), (148, .top), (147, .top), (21, (.sc (.i .i64 (.op .conv .i64 (.op .shr .u64 (.op .conv .u64 (.op .add .i64 (.var 130) (.var 131)) (.lit (0 : Int))) (.lit (1 : Int))) (.lit (0 : Int)))))), (144, .top), (20, (.sc (.i .i64 (.var 130)))), (143, .top), (142, .top), (141, .top), (146, .top), (145, .top), (140, .top), (139, .top), (138, .top), (19, (.sc (.i .i64 (.var 133)))), (137, .top), (136, .top), (135, .top), (18, (.sc (.i .i64 (.var 132)))), (134, .top), (133, .top), (132, .top), (131, .top), (130, .top), (129, .top), (80, .top), (79, .top), (78, .top), (77, .top), (28, .top), (27, .top), (26, .top), (25, .top), (0, (.slv (0, 0) 1 (.lit (0 : Int)) (.len 0) true)), (1, (.sc (.i .i64 (.var 1)))), (2, (.sc (.i .i64 (.var 2)))), (3, (.sc (.i .i64 (.var 3)))), (4, (.fn (.func 15) [] []))], [((0, 0), [(.rows 1 (.len 0) (.var 0 [.s]))])], 61⟩
def m4_G_b : Bind := ⟨[(132, (.var 132)), (133, (.var 133)), (134, (.var 134)), (130, (.var 130)), (131, (.op .conv .i64 (.op .shr .u64 (.op .conv .u64 (.op .add .i64 (.var 130) (.var 131)) (.lit (0 : Int))) (.lit (1 : Int))) (.lit (0 : Int))))], [], [], []⟩
theorem m4_G_ok : okS 2 130 m4_G_b (nmS m4_S m4_G_s) m4_S m4_G_s = true := by kernel_rfl
theorem m4_G_g : m4_G_b.ge 130 = true := by kernel_rfl
theorem m4_G_132 : lassoc 132 m4_G_b.i = some (.var 132) := by kernel_rfl
theorem m4_G_133 : lassoc 133 m4_G_b.i = some (.var 133) := by kernel_rfl
theorem m4_G_134 : lassoc 134 m4_G_b.i = some (.var 134) := by kernel_rfl
theorem m4_G_130 : lassoc 130 m4_G_b.i = some (.var 130) := by kernel_rfl
theorem m4_G_131 : lassoc 131 m4_G_b.i = some (.op .conv .i64 (.op .shr .u64 (.op .conv .u64 (.op .add .i64 (.var 130) (.var 131)) (.lit (0 : Int))) (.lit (1 : Int))) (.lit (0 : Int))) := by kernel_rfl
def m4_L_r : T (XE × XS) := (.need (.and (.not (.lt (.op .sub .i64 (.var 134) (.op .conv .i64 (.op .shr .u64 (.op .conv .u64 (.op .add .i64 (.var 130) (.var 131)) (.lit (0 : Int))) (.lit (1 : Int))) (.lit (0 : Int)))) (.lit (0 : Int)))) (.and (.lt (.op .sub .i64 (.var 134) (.op .conv .i64 (.op .shr .u64 (.op .conv .u64 (.op .add .i64 (.var 130) (.var 131)) (.lit (0 : Int))) (.lit (1 : Int))) (.lit (0 : Int)))) (.len 0)) (.and (.not (.lt (.op .conv .i64 (.op .shr .u64 (.op .conv .u64 (.op .add .i64 (.var 130) (.var 131)) (.lit (0 : Int))) (.lit (1 : Int))) (.lit (0 : Int))) (.lit (0 : Int)))) (.lt (.op .conv .i64 (.op .shr .u64 (.op .conv .u64 (.op .add .i64 (.var 130) (.var 131)) (.lit (0 : Int))) (.lit (1 : Int))) (.lit (0 : Int))) (.len 0))))) (.ret (.normal, ⟨[(22, (.sc (.i .i64 (.var 134)))), (148, .top), (147, .top), (21, (.sc (.i .i64 (.var 131)))), (144, .top), (20, (.sc (.i .i64 (.op .add .i64 (.op .conv .i64 (.op .shr .u64 (.op .conv .u64 (.op .add .i64 (.var 130) (.var 131)) (.lit (0 : Int))) (.lit (1 : Int))) (.lit (0 : Int))) (.lit (1 : Int)))))), (143, .top), (142, .top), (141, .top), (146, .top), (145, .top), (140, .top), (139, .top), (138, .top), (19, (.sc (.i .i64 (.var 133)))), (137, .top), (136, .top), (135, .top), (18, (.sc (.i .i64 (.var 132)))), (134, .top), (133, .top), (132, .top), (131, .top), (130, .top), (129, .top), (80, .top), (79, .top), (78, .top), (77, .top), (28, .top), (27, .top), (26, .top), (25, .top), (0, (.slv (0, 0) 1 (.lit (0 : Int)) (.len 0) true)), (1, (.sc (.i .i64 (.var 1)))), (2, (.sc (.i .i64 (.var 2)))), (3, (.sc (.i .i64 (.var 3)))), (4, (.fn (.func 15) [] []))], [((0, 0), [(.rows 1 (.len 0) (.var 0 [.s]))])], 62⟩)))
theorem m4_L_run : (codeX (cfgL ks4 (fun _ => [])).ti (callS ⟨(cfgL ks4 (fun _ => [])), l_able, []⟩ 12) (((cfgL ks4 (fun _ => [])).ft 30).elim [] (·.ms)) 2 ((cfgL ks4 (fun _ => [])).lp 30) 1000 m4_c (lsF 130 131 true ++ ngF 139 false) m4_S).map (sqz m4_ks) = m4_L_r := by kernel_rfl
def m4_L_s : XS := ⟨[(22, (.sc (.i .i64 (.var 134)))), (148, .top), (147, .top), (21, (.sc (.i .i64 (.var 131)))), (144, .top), (20, (.sc (.i .i64 (.op .add .i64 (.op .conv .i64 (.op .shr .u64 (.op .conv .u64 (.op .add .i64 (.var 130) (.var 131)) (.lit (0 : Int))) (.lit (1 : Int))) (.lit (0 : Int))) (.lit (1 : Int)))))), (143, .top), (142, .top), (141, .top), (146, .top), (145, .top), (140, .top), (139, .top), (138, .top), (19, (.sc (.i .i64 (.var 133)))), (137, .top), (136, .top), (135, .top), (18, (.sc (.i .i64 (.var 132)))), (134, .top), (133, .top), (132, .top), (131, .top), (130, .top), (129, .top), (80, .top), (79, .top), (78, .top), (77, .top), (28, .top), (27, .top), (26, .top), (25, .top), (0, (.slv (0, 0) 1 (.lit (0 : Int)) (.len 0) true)), (1, (.sc (.i .i64 (.var 1)))), (2, (.sc (.i .i64 (.var 2)))), (3, (.sc (.i .i64 (.var 3)))), (4, (.fn (.func 15) [] []))], [((0, 0), [(.rows 1 (.len 0) (.var 0 [.s]))])], 62⟩
def m4_L_b : Bind := ⟨[(132, (.var 132)), (133, (.var 133)), (134, (.var 134)), (130, (.op .add .i64 (.op .conv .i64 (.op .shr .u64 (.op .conv .u64 (.op .add .i64 (.var 130) (.var 131)) (.lit (0 : Int))) (.lit (1 : Int))) (.lit (0 : Int))) (.lit (1 : Int)))), (131, (.var 131))], [], [], []⟩
theorem m4_L_ok : okS 2 130 m4_L_b (nmS m4_S m4_L_s) m4_S m4_L_s = true := by kernel_rfl
theorem m4_L_g : m4_L_b.ge 130 = true := by kernel_rfl
theorem m4_L_132 : lassoc 132 m4_L_b.i = some (.var 132) := by kernel_rfl
theorem m4_L_133 : lassoc 133 m4_L_b.i = some (.var 133) := by kernel_rfl
theorem m4_L_134 : lassoc 134 m4_L_b.i = some (.var 134) := by kernel_rfl
theorem m4_L_130 : lassoc 130 m4_L_b.i = some (.op .add .i64 (.op .conv .i64 (.op .shr .u64 (.op .conv .u64 (.op .add .i64 (.var 130) (.var 131)) (.lit (0 : Int))) (.lit (1 : Int))) (.lit (0 : Int))) (.lit (1 : Int))) := by kernel_rfl
theorem m4_L_131 : lassoc 131 m4_L_b.i = some (.var 131) := by kernel_rfl
def m4_X_r : T (XE × XS) := (.ret ((.exit 8), ⟨[(22, (.sc (.i .i64 (.var 134)))), (148, .top), (147, .top), (21, (.sc (.i .i64 (.var 131)))), (144, .top), (20, (.sc (.i .i64 (.var 130)))), (143, .top), (142, .top), (141, .top), (146, .top), (145, .top), (140, .top), (139, .top), (138, .top), (19, (.sc (.i .i64 (.var 133)))), (137, .top), (136, .top), (135, .top), (18, (.sc (.i .i64 (.var 132)))), (134, .top), (133, .top), (132, .top), (131, .top), (130, .top), (129, .top), (80, .top), (79, .top), (78, .top), (77, .top), (28, .top), (27, .top), (26, .top), (25, .top), (0, (.slv (0, 0) 1 (.lit (0 : Int)) (.len 0) true)), (1, (.sc (.i .i64 (.var 1)))), (2, (.sc (.i .i64 (.var 2)))), (3, (.sc (.i .i64 (.var 3)))), (4, (.fn (.func 15) [] []))], [((0, 0), [(.rows 1 (.len 0) (.var 0 [.s]))])], 38⟩))
theorem m4_X_run : (codeX (cfgL [] (fun _ => [])).ti (callS ⟨(cfgL [] (fun _ => [])), l_able, []⟩ 12) (((cfgL [] (fun _ => [])).ft 30).elim [] (·.ms)) 2 ((cfgL [] (fun _ => [])).lp 30) 1000 m4_c (lsF 130 131 false) m4_S).map (sqz m4_ks) = m4_X_r := by kernel_rfl
def m4_X_s : XS := ⟨[(22, (.sc (.i .i64 (.var 134)))), (148, .top), (147, .top), (21, (.sc (.i .i64 (.var 131)))), (144, .top), (20, (.sc (.i .i64 (.var 130)))), (143, .top), (142, .top), (141, .top), (146, .top), (145, .top), (140, .top), (139, .top), (138, .top), (19, (.sc (.i .i64 (.var 133)))), (137, .top), (136, .top), (135, .top), (18, (.sc (.i .i64 (.var 132)))), (134, .top), (133, .top), (132, .top), (131, .top), (130, .top), (129, .top), (80, .top), (79, .top), (78, .top), (77, .top), (28, .top), (27, .top), (26, .top), (25, .top), (0, (.slv (0, 0) 1 (.lit (0 : Int)) (.len 0) true)), (1, (.sc (.i .i64 (.var 1)))), (2, (.sc (.i .i64 (.var 2)))), (3, (.sc (.i .i64 (.var 3)))), (4, (.fn (.func 15) [] []))], [((0, 0), [(.rows 1 (.len 0) (.var 0 [.s]))])], 38⟩
noncomputable def m4 : LoopX := ⟨((codeKey m4_c).getD 0), 2, 130, m4_E, noB, [], .ret ((.exit 8), m4_X_s)⟩
theorem m4_ob : m4.out.belX 140 = true := by kernel_rfl
end Go.Proofs.Ytegekgjjoojgdaa
