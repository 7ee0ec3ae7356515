/- Parts of the proof, one behind the other. -/
import Derived.Test.YtegekgjjoojgdaaTM4
import Derived.Test.YtegekgjjoojgdaaXwM3
import Derived.Test.YtegekgjjoojgdaaTM1
import Derived.Test.YtegekgjjoojgdaaXwM2
/- Loops whose rounds have letters of their own: what is run once. -/
namespace Go.Proofs.Ytegekgjjoojgdaa
open Go Go.Proofs.Aw Go.Proofs.Xw
set_option maxRecDepth 100000
def stA : List X := [slD, iV 1, cmpX]
def k0S : HK := ⟨29, [slD, iV 160, iV 161, cmpX], rwS 162, rwS 163, .tup []⟩
def k0E : HK := ⟨29, [slD, iV 160, iV 1, cmpX], rwS 162, rwS 164, .tup []⟩
def mE : IE := .op .add .i64 (.var 172) (.var 170)
def k2S : HK := ⟨30, [slD, iV 172, .sc (.i .i64 mE), iV 173, cmpX], rwS 174, rwS 175, .tup []⟩
def k2E : HK := ⟨30, [slD, iV 172, .sc (.i .i64 mE), iV 1, cmpX], rwS 174, rwS 176, .tup []⟩

/-! s0: letters {7: 160, 8: 161} rows 162; entered under [] -/
noncomputable def s0_c : Code := (loopsOf (Try.f21.body.getD .skip))[0]?.getD .skip
def s0_E : XS := ⟨[(8, (.sc (.i .i64 (.lit (20 : Int))))), (7, (.sc (.i .i64 (.lit (0 : Int))))), (10, .top), (6, (.sc (.i .i64 (.lit (20 : Int))))), (0, (.slv (0, 0) 1 (.lit (0 : Int)) (.len 0) true)), (1, (.sc (.i .i64 (.var 1)))), (2, (.fn (.func 15) [] []))], [((0, 0), [(.rows 1 (.len 0) (.var 0 [.s]))])], 6⟩
def s0_S : XS := ⟨[(8, (.sc (.i .i64 (.var 161)))), (7, (.sc (.i .i64 (.var 160)))), (10, .top), (6, (.sc (.i .i64 (.lit (20 : Int))))), (0, (.slv (0, 0) 1 (.lit (0 : Int)) (.len 0) true)), (1, (.sc (.i .i64 (.var 1)))), (2, (.fn (.func 15) [] []))], [((0, 0), [(.rows 1 (.len 0) (.var 162 [.s]))])], 6⟩
def s0_I : Bind := ⟨[(160, (.lit (0 : Int))), (161, (.lit (20 : Int)))], [], [], [(162, (.len 0), (.var 0 [.s]))]⟩
def s0_ks : List Nat := [8, 7, 10, 6, 0, 1, 2]
theorem s0_Iok : okS 2 160 s0_I (nmS s0_S s0_E) s0_S s0_E = true := by kernel_rfl
theorem s0_Ig : s0_I.ge 160 = true := by kernel_rfl
theorem s0_Eb : s0_E.bel 160 = true := by kernel_rfl
theorem s0_fits : fitsC Try.f21.ntmps s0_c = true := by kernel_rfl
theorem s0_I160 : lassoc 160 s0_I.i = some (.lit (0 : Int)) := by kernel_rfl
theorem s0_I161 : lassoc 161 s0_I.i = some (.lit (20 : Int)) := by kernel_rfl
theorem s0_Ir : lassoc 162 s0_I.r = some ((.len 0), (.var 0 [.s])) := by kernel_rfl
def s0_G_r : T (XE × XS) := (.ret (.normal, ⟨[(8, (.sc (.i .i64 (.op .add .i64 (.var 161) (.lit (20 : Int)))))), (7, (.sc (.i .i64 (.var 161)))), (10, .top), (6, (.sc (.i .i64 (.lit (20 : Int))))), (0, (.slv (0, 0) 1 (.lit (0 : Int)) (.len 0) true)), (1, (.sc (.i .i64 (.var 1)))), (2, (.fn (.func 15) [] []))], [((0, 0), [(.rows 1 (.len 0) (.var 163 [.s]))])], 20⟩))
theorem s0_G_run : (codeX (cfgH [] (fun _ => []) [k0S]).ti (callS ⟨(cfgH [] (fun _ => []) [k0S]), l_able, []⟩ 12) (((cfgH [] (fun _ => []) [k0S]).ft 21).elim [] (·.ms)) 2 ((cfgH [] (fun _ => []) [k0S]).lp 21) 1000 s0_c ([(.lt (.var 1) (.var 161), false)]) s0_S).map (sqz s0_ks) = s0_G_r := by kernel_rfl
def s0_G_s : XS := ⟨[(8, (.sc (.i .i64 (.op .add .i64 (.var 161) (.lit (20 : Int)))))), (7, (.sc (.i .i64 (.var 161)))), (10, .top), (6, (.sc (.i .i64 (.lit (20 : Int))))), (0, (.slv (0, 0) 1 (.lit (0 : Int)) (.len 0) true)), (1, (.sc (.i .i64 (.var 1)))), (2, (.fn (.func 15) [] []))], [((0, 0), [(.rows 1 (.len 0) (.var 163 [.s]))])], 20⟩
def s0_G_b : Bind := ⟨[(160, (.var 161)), (161, (.op .add .i64 (.var 161) (.lit (20 : Int))))], [], [], [(162, (.len 0), (.var 163 [.s]))]⟩
theorem s0_G_ok : okS 2 160 s0_G_b (nmS s0_S s0_G_s) s0_S s0_G_s = true := by kernel_rfl
theorem s0_G_g : s0_G_b.ge 160 = true := by kernel_rfl
theorem s0_G_160 : lassoc 160 s0_G_b.i = some (.var 161) := by kernel_rfl
theorem s0_G_161 : lassoc 161 s0_G_b.i = some (.op .add .i64 (.var 161) (.lit (20 : Int))) := by kernel_rfl
theorem s0_G_rw : lassoc 162 s0_G_b.r = some ((.len 0), (.var 163 [.s])) := by kernel_rfl
def s0_X_r : T (XE × XS) := (.ret ((.exit 0), ⟨[(8, (.sc (.i .i64 (.var 161)))), (7, (.sc (.i .i64 (.var 160)))), (10, .top), (6, (.sc (.i .i64 (.lit (20 : Int))))), (0, (.slv (0, 0) 1 (.lit (0 : Int)) (.len 0) true)), (1, (.sc (.i .i64 (.var 1)))), (2, (.fn (.func 15) [] []))], [((0, 0), [(.rows 1 (.len 0) (.var 162 [.s]))])], 9⟩))
theorem s0_X_run : (codeX (cfgL [] (fun _ => [])).ti (callS ⟨(cfgL [] (fun _ => [])), l_able, []⟩ 12) (((cfgL [] (fun _ => [])).ft 21).elim [] (·.ms)) 2 ((cfgL [] (fun _ => [])).lp 21) 1000 s0_c ([(.lt (.var 1) (.var 161), true)]) s0_S).map (sqz s0_ks) = s0_X_r := by kernel_rfl
def s0_X_s : XS := ⟨[(8, (.sc (.i .i64 (.var 161)))), (7, (.sc (.i .i64 (.var 160)))), (10, .top), (6, (.sc (.i .i64 (.lit (20 : Int))))), (0, (.slv (0, 0) 1 (.lit (0 : Int)) (.len 0) true)), (1, (.sc (.i .i64 (.var 1)))), (2, (.fn (.func 15) [] []))], [((0, 0), [(.rows 1 (.len 0) (.var 162 [.s]))])], 9⟩
noncomputable def s0 : LoopX := ⟨((codeKey s0_c).getD 0), 2, 160, s0_E, noB, [], .ret ((.exit 0), s0_X_s)⟩
theorem s0_ob : s0.out.belX 170 = true := by kernel_rfl
end Go.Proofs.Ytegekgjjoojgdaa

/- Ring: stable's first loop: blocks of twenty are sorted. -/
namespace Go.Proofs.Ytegekgjjoojgdaa
open Go Go.Proofs.Aw Go.Proofs.Xw Go.Proofs.Sr
set_option maxRecDepth 100000
section
variable {lt : ByteArray → ByteArray → Prop}
def s0R (lt : ByteArray → ByteArray → Prop) (n : Nat) (f : Nat → ByteArray) (ρ : Rho) : Prop :=
  ρ.i 1 = n ∧ ρ.len 0 = n ∧ n < 100000 ∧ Szs (stR ρ 162) n ∧ ∃ a : Nat, ρ.i 160 = a ∧ ρ.i 161 = ((a + 20 : Nat) : Int) ∧ a ≤ n ∧ FirI lt f (stR ρ 162) 20 n a
theorem s0_ok (o : Ord lt) (ck : CK lt) (ρ : Rho) {n : Nat} (en : ρ.i 1 = n) (el : ρ.len 0 = n) (hn : n < 100000) (hz : Szs (stR ρ 0) n) :
    ∃ ρf, Agree 160 ρ ρf ∧ s0R lt n (stR ρ 0) ρf ∧ (n : Int) < ρf.i 161 ∧ LoopOk Try.prog ρf Try.f21.ntmps s0_c s0 := by
  suffices hh : ∃ (_ : Nat) (ρf : Rho), Agree s0.n ρ ρf ∧ (s0R lt n (stR ρ 0) ρf ∧ (n : Int) < ρf.i 161) ∧ LoopOk Try.prog ρf Try.f21.ntmps s0_c s0 by
    obtain ⟨_, ρf, h1, ⟨h2, h3⟩, h4⟩ := hh
    exact ⟨ρf, h1, h2, h3, h4⟩
  have a0 := Bind.agree s0_Ig ρ
  have e0 : stR (s0_I.ap ρ) 162 = stR ρ 0 := by funext k; rw [ap_st s0_Ir]; exact row_var ρ 0 k
  refine loopOk_famE (L := s0) (N := Try.f21.ntmps) (body := s0_c) (P := Try.prog) rfl s0_Eb (fun _ => s0_S) (fun _ => s0R lt n (stR ρ 0)) (fun _ ρ' => s0R lt n (stR ρ 0) ρ' ∧ (n : Int) < ρ'.i 161) (fun _ ρ' => (n - ρ'.i 160).toNat) ?_
    ⟨0, s0_I.ap ρ, a0, ⟨by rw [← a0.i 1 (by decide)]; exact en, by rw [← a0.len 0 (by decide)]; exact el, hn, by rw [e0]; exact hz, 0, ap_i s0_I160, ap_i s0_I161, Nat.zero_le _, by rw [e0]; exact FirI.init _ _ _ (by decide)⟩, fun E _ hE => okS_imp hE s0_Iok ρ⟩
  rintro _ ρ' ⟨xn, xl, _, xz, a, xa, xb, ha, hF⟩
  by_cases c : a + 20 ≤ n
  · obtain ⟨h, w, t, hs⟩ := ins_hs o ck (a := a) (b := a + 20) (len := n) (g := stR ρ' 162) (by omega) c (by omega) xz
    have ag1 := putR_agree ρ' 163 h (n := 163) (Nat.le_refl _)
    refine .inr ⟨0, s0_G_b.ap (putR ρ' 163 h), ?_, ?_⟩
    · refine fam_go (c := cfgH [] (fun _ => []) [k0S]) (Φ := [(.lt (.var 1) (.var 161), false)]) s0_fits (XS.bel_den ag1 s0_S (by kernel_rfl)) (cH_ok (List.forall_mem_cons.2 ⟨HS.hk ?_, List.forall_mem_nil _⟩)) (Facts.ok_cons (by rw [dlt_f]; show ρ'.i 161 ≤ ρ'.i 1; rw [xb, xn]; omega) (Facts.ok_nil _)) s0_G_run rfl s0_G_ok
      rw [putR_st, putR_ne _ _ _ (by decide), show (putR ρ' 163 h).len 0 = n from xl]
      simp only [X.denL, slD_den, cmp_den]
      rw [show (putR ρ' 163 h).len 0 = n from xl, show X.den (putR ρ' 163 h) (iV 160) = nV a from i_den _ _ xa, show X.den (putR ρ' 163 h) (iV 161) = nV (a + 20) from i_den _ _ xb]
      exact hs
    · have ag : Agree 160 ρ' (s0_G_b.ap (putR ρ' 163 h)) := (putR_agree _ _ _ (by decide)).trans (Bind.agree s0_G_g _)
      have e1 : (s0_G_b.ap (putR ρ' 163 h)).i 160 = ((a + 20 : Nat) : Int) := (ap_i s0_G_160).trans xb
      have e2 : (s0_G_b.ap (putR ρ' 163 h)).i 161 = ((a + 20 + 20 : Nat) : Int) := (ap_i s0_G_161).trans (by show IOp.den .add .i64 (ρ'.i 161) 20 = _; rw [xb]; exact add_nat (b := 20) (by omega))
      have e3 : stR (s0_G_b.ap (putR ρ' 163 h)) 162 = h := by funext k; rw [ap_st s0_G_rw, row_var, putR_st]
      refine ⟨⟨by rw [← ag.i 1 (by decide)]; exact xn, by rw [← ag.len 0 (by decide)]; exact xl, hn, by rw [e3]; exact szs_sw w c xz, a + 20, e1, e2, c, by rw [e3]; exact hF.step (by decide) c w t⟩, ?_, ag⟩
      show (_ - _ : Int).toNat < (_ - _ : Int).toNat
      rw [e1, xa]; omega
  · refine .inl ⟨ρ', Agree.refl _ _, ⟨⟨xn, xl, hn, xz, a, xa, xb, ha, hF⟩, by rw [xb]; omega⟩, rfl, ?_⟩
    exact fam_end (c := cfgL [] (fun _ => [])) (Φ := [(.lt (.var 1) (.var 161), true)]) s0_fits (cN_ok ρ') (Facts.ok_cons (by rw [dlt_t]; show ρ'.i 1 < ρ'.i 161; rw [xb, xn]; omega) (Facts.ok_nil _)) s0_X_run rfl (fun h => nomatch h) rfl
end
end Go.Proofs.Ytegekgjjoojgdaa

/- Loops whose rounds have letters of their own: what is run once. -/
namespace Go.Proofs.Ytegekgjjoojgdaa
open Go Go.Proofs.Aw Go.Proofs.Xw
set_option maxRecDepth 100000

/-! s2: letters {7: 172, 8: 173} rows 174; entered under [] -/
noncomputable def s2_c : Code := (loopsOf (Try.f21.body.getD .skip))[2]?.getD .skip
def s2_E : XS := ⟨[(8, (.sc (.i .i64 (.op .mul .i64 (.lit (2 : Int)) (.var 170))))), (7, (.sc (.i .i64 (.lit (0 : Int))))), (32, .top), (31, .top), (30, .top), (29, .top), (28, .top), (27, .top), (26, .top), (25, .top), (24, .top), (23, .top), (10, .top), (6, (.sc (.i .i64 (.var 170)))), (0, (.slv (0, 0) 1 (.lit (0 : Int)) (.len 0) true)), (1, (.sc (.i .i64 (.var 1)))), (2, (.fn (.func 15) [] []))], [((0, 0), [(.rows 1 (.len 0) (.var 171 [.s]))])], 21⟩
def s2_S : XS := ⟨[(8, (.sc (.i .i64 (.var 173)))), (7, (.sc (.i .i64 (.var 172)))), (32, .top), (31, .top), (30, .top), (29, .top), (28, .top), (27, .top), (26, .top), (25, .top), (24, .top), (23, .top), (10, .top), (6, (.sc (.i .i64 (.var 170)))), (0, (.slv (0, 0) 1 (.lit (0 : Int)) (.len 0) true)), (1, (.sc (.i .i64 (.var 1)))), (2, (.fn (.func 15) [] []))], [((0, 0), [(.rows 1 (.len 0) (.var 174 [.s]))])], 21⟩
def s2_I : Bind := ⟨[(172, (.lit (0 : Int))), (173, (.op .mul .i64 (.lit (2 : Int)) (.var 170)))], [], [], [(174, (.len 0), (.var 171 [.s]))]⟩
def s2_ks : List Nat := [8, 7, 32, 31, 30, 29, 28, 27, 26, 25, 24, 23, 10, 6, 0, 1, 2]
theorem s2_Iok : okS 2 172 s2_I (nmS s2_S s2_E) s2_S s2_E = true := by kernel_rfl
theorem s2_Ig : s2_I.ge 172 = true := by kernel_rfl
theorem s2_Eb : s2_E.bel 172 = true := by kernel_rfl
theorem s2_fits : fitsC Try.f21.ntmps s2_c = true := by kernel_rfl
theorem s2_I172 : lassoc 172 s2_I.i = some (.lit (0 : Int)) := by kernel_rfl
theorem s2_I173 : lassoc 173 s2_I.i = some (.op .mul .i64 (.lit (2 : Int)) (.var 170)) := by kernel_rfl
theorem s2_Ir : lassoc 174 s2_I.r = some ((.len 0), (.var 171 [.s])) := by kernel_rfl
def s2_G_r : T (XE × XS) := (.ret (.normal, ⟨[(8, (.sc (.i .i64 (.op .add .i64 (.var 173) (.op .mul .i64 (.lit (2 : Int)) (.var 170)))))), (7, (.sc (.i .i64 (.var 173)))), (32, .top), (31, .top), (30, .top), (29, .top), (28, .top), (27, .top), (26, .top), (25, .top), (24, .top), (23, .top), (10, .top), (6, (.sc (.i .i64 (.var 170)))), (0, (.slv (0, 0) 1 (.lit (0 : Int)) (.len 0) true)), (1, (.sc (.i .i64 (.var 1)))), (2, (.fn (.func 15) [] []))], [((0, 0), [(.rows 1 (.len 0) (.var 175 [.s]))])], 39⟩))
theorem s2_G_run : (codeX (cfgH [] (fun _ => []) [k2S]).ti (callS ⟨(cfgH [] (fun _ => []) [k2S]), l_able, []⟩ 12) (((cfgH [] (fun _ => []) [k2S]).ft 21).elim [] (·.ms)) 2 ((cfgH [] (fun _ => []) [k2S]).lp 21) 1000 s2_c ([(.lt (.var 1) (.var 173), false)]) s2_S).map (sqz s2_ks) = s2_G_r := by kernel_rfl
def s2_G_s : XS := ⟨[(8, (.sc (.i .i64 (.op .add .i64 (.var 173) (.op .mul .i64 (.lit (2 : Int)) (.var 170)))))), (7, (.sc (.i .i64 (.var 173)))), (32, .top), (31, .top), (30, .top), (29, .top), (28, .top), (27, .top), (26, .top), (25, .top), (24, .top), (23, .top), (10, .top), (6, (.sc (.i .i64 (.var 170)))), (0, (.slv (0, 0) 1 (.lit (0 : Int)) (.len 0) true)), (1, (.sc (.i .i64 (.var 1)))), (2, (.fn (.func 15) [] []))], [((0, 0), [(.rows 1 (.len 0) (.var 175 [.s]))])], 39⟩
def s2_G_b : Bind := ⟨[(172, (.var 173)), (173, (.op .add .i64 (.var 173) (.op .mul .i64 (.lit (2 : Int)) (.var 170))))], [], [], [(174, (.len 0), (.var 175 [.s]))]⟩
theorem s2_G_ok : okS 2 172 s2_G_b (nmS s2_S s2_G_s) s2_S s2_G_s = true := by kernel_rfl
theorem s2_G_g : s2_G_b.ge 172 = true := by kernel_rfl
theorem s2_G_172 : lassoc 172 s2_G_b.i = some (.var 173) := by kernel_rfl
theorem s2_G_173 : lassoc 173 s2_G_b.i = some (.op .add .i64 (.var 173) (.op .mul .i64 (.lit (2 : Int)) (.var 170))) := by kernel_rfl
theorem s2_G_rw : lassoc 174 s2_G_b.r = some ((.len 0), (.var 175 [.s])) := by kernel_rfl
def s2_X_r : T (XE × XS) := (.ret ((.exit 4), ⟨[(8, (.sc (.i .i64 (.var 173)))), (7, (.sc (.i .i64 (.var 172)))), (32, .top), (31, .top), (30, .top), (29, .top), (28, .top), (27, .top), (26, .top), (25, .top), (24, .top), (23, .top), (10, .top), (6, (.sc (.i .i64 (.var 170)))), (0, (.slv (0, 0) 1 (.lit (0 : Int)) (.len 0) true)), (1, (.sc (.i .i64 (.var 1)))), (2, (.fn (.func 15) [] []))], [((0, 0), [(.rows 1 (.len 0) (.var 174 [.s]))])], 24⟩))
theorem s2_X_run : (codeX (cfgL [] (fun _ => [])).ti (callS ⟨(cfgL [] (fun _ => [])), l_able, []⟩ 12) (((cfgL [] (fun _ => [])).ft 21).elim [] (·.ms)) 2 ((cfgL [] (fun _ => [])).lp 21) 1000 s2_c ([(.lt (.var 1) (.var 173), true)]) s2_S).map (sqz s2_ks) = s2_X_r := by kernel_rfl
def s2_X_s : XS := ⟨[(8, (.sc (.i .i64 (.var 173)))), (7, (.sc (.i .i64 (.var 172)))), (32, .top), (31, .top), (30, .top), (29, .top), (28, .top), (27, .top), (26, .top), (25, .top), (24, .top), (23, .top), (10, .top), (6, (.sc (.i .i64 (.var 170)))), (0, (.slv (0, 0) 1 (.lit (0 : Int)) (.len 0) true)), (1, (.sc (.i .i64 (.var 1)))), (2, (.fn (.func 15) [] []))], [((0, 0), [(.rows 1 (.len 0) (.var 174 [.s]))])], 24⟩
noncomputable def s2 : LoopX := ⟨((codeKey s2_c).getD 0), 2, 172, s2_E, noB, [], .ret ((.exit 4), s2_X_s)⟩
theorem s2_ob : s2.out.belX 180 = true := by kernel_rfl
end Go.Proofs.Ytegekgjjoojgdaa

/- Ring: stable's innermost loop: pairs of blocks are merged. -/
namespace Go.Proofs.Ytegekgjjoojgdaa
open Go Go.Proofs.Aw Go.Proofs.Xw Go.Proofs.Sr
set_option maxRecDepth 100000
theorem mul_nat {a : Nat} (h : a < 1000000) : IOp.den .mul .i64 2 (a : Int) = ((2 * a : Nat) : Int) := by
  simp only [IOp.den]; rw [wrap_id _ (by omega) (by omega)]; omega
section
variable {lt : ByteArray → ByteArray → Prop}
structure S2A (lt : ByteArray → ByteArray → Prop) (ρ : Rho) (n s : Nat) (f : Nat → ByteArray) : Prop where
  en : ρ.i 1 = n
  el : ρ.len 0 = n
  hn : n < 100000
  es : ρ.i 170 = s
  s0 : 0 < s
  s1 : s < n
  bk : Blk lt f s n
theorem S2A.agree {ρ ρ' : Rho} {n s k : Nat} {f : Nat → ByteArray} (h : S2A lt ρ n s f) (ag : Agree k ρ ρ') (hk : 171 ≤ k) : S2A lt ρ' n s f :=
  ⟨by rw [← ag.i 1 (by omega)]; exact h.en, by rw [← ag.len 0 (by omega)]; exact h.el, h.hn, by rw [← ag.i 170 (by omega)]; exact h.es, h.s0, h.s1, h.bk⟩
def s2R (lt : ByteArray → ByteArray → Prop) (n s : Nat) (f : Nat → ByteArray) (ρ : Rho) : Prop :=
  S2A lt ρ n s f ∧ Szs (stR ρ 174) n ∧ ∃ a : Nat, ρ.i 172 = a ∧ ρ.i 173 = ((a + 2 * s : Nat) : Int) ∧ a ≤ n ∧ PassI lt f (stR ρ 174) s n a
/-- Two neighbours of a pass are sorted. -/
theorem pass_two {f g : Nat → ByteArray} {s n a : Nat} (h : Blk lt f s n) (p : PassI lt f g s n a) : Srt lt g a (min (a + s) n) ∧ Srt lt g (a + s) (min (a + 2 * s) n) := by
  obtain ⟨t, ht⟩ := p.a0
  obtain ⟨h1, h2⟩ := h.at ht
  exact ⟨h1.congr fun k q _ => p.fro k q, h2.congr fun k q _ => p.fro k (by omega)⟩
theorem s2_ok (o : Ord lt) (ck : CK lt) (ρ : Rho) {n s : Nat} (hA : S2A lt ρ n s (stR ρ 171)) (hz : Szs (stR ρ 171) n) :
    ∃ ρf, Agree 172 ρ ρf ∧ s2R lt n s (stR ρ 171) ρf ∧ (n : Int) < ρf.i 173 ∧ LoopOk Try.prog ρf Try.f21.ntmps s2_c s2 := by
  suffices hh : ∃ (_ : Nat) (ρf : Rho), Agree s2.n ρ ρf ∧ (s2R lt n s (stR ρ 171) ρf ∧ (n : Int) < ρf.i 173) ∧ LoopOk Try.prog ρf Try.f21.ntmps s2_c s2 by
    obtain ⟨_, ρf, h1, ⟨h2, h3⟩, h4⟩ := hh
    exact ⟨ρf, h1, h2, h3, h4⟩
  have a0 := Bind.agree s2_Ig ρ
  have hs0 := hA.s0; have hs1 := hA.s1; have hn := hA.hn
  have e0 : stR (s2_I.ap ρ) 174 = stR ρ 171 := by funext k; rw [ap_st s2_Ir]; exact row_var ρ 171 k
  refine loopOk_famE (L := s2) (N := Try.f21.ntmps) (body := s2_c) (P := Try.prog) rfl s2_Eb (fun _ => s2_S) (fun _ => s2R lt n s (stR ρ 171)) (fun _ ρ' => s2R lt n s (stR ρ 171) ρ' ∧ (n : Int) < ρ'.i 173) (fun _ ρ' => (n - ρ'.i 172).toNat) ?_
    ⟨0, s2_I.ap ρ, a0, ⟨hA.agree a0 (by decide), by rw [e0]; exact hz, 0, ap_i s2_I172, (ap_i s2_I173).trans (by show IOp.den .mul .i64 2 (ρ.i 170) = _; rw [hA.es, mul_nat (by omega), Nat.zero_add]), Nat.zero_le _, by rw [e0]; exact PassI.init _ _ _ hs0⟩, fun E _ hE => okS_imp hE s2_Iok ρ⟩
  rintro _ ρ' ⟨xA, xz, a, xa, xb, ha, hP⟩
  have xn := xA.en; have xl := xA.el
  by_cases c : a + 2 * s ≤ n
  · obtain ⟨p1, p2⟩ := pass_two hA.bk hP
    rw [Nat.min_eq_left (by omega)] at p1 p2
    obtain ⟨h, w, t, hs⟩ := sym_hs o ck (2 * s) a (a + s) (a + 2 * s) n (stR ρ' 174) (by omega) (by omega) (by omega) c (by omega) xz p1 p2
    have ag1 := putR_agree ρ' 175 h (n := 175) (Nat.le_refl _)
    refine .inr ⟨0, s2_G_b.ap (putR ρ' 175 h), ?_, ?_⟩
    · refine fam_go (c := cfgH [] (fun _ => []) [k2S]) (Φ := [(.lt (.var 1) (.var 173), false)]) s2_fits (XS.bel_den ag1 s2_S (by kernel_rfl)) (cH_ok (List.forall_mem_cons.2 ⟨HS.hk ?_, List.forall_mem_nil _⟩)) (Facts.ok_cons (by rw [dlt_f]; show ρ'.i 173 ≤ ρ'.i 1; rw [xb, xn]; omega) (Facts.ok_nil _)) s2_G_run rfl s2_G_ok
      rw [putR_st, putR_ne _ _ _ (by decide), show (putR ρ' 175 h).len 0 = n from xl]
      simp only [X.denL, slD_den, cmp_den]
      rw [show (putR ρ' 175 h).len 0 = n from xl, show X.den (putR ρ' 175 h) (iV 172) = nV a from i_den _ _ xa, show X.den (putR ρ' 175 h) (iV 173) = nV (a + 2 * s) from i_den _ _ xb,
        show X.den (putR ρ' 175 h) (.sc (.i .i64 mE)) = nV (a + s) from i_den _ _ (by show IOp.den .add .i64 (ρ'.i 172) (ρ'.i 170) = _; rw [xa, xA.es]; exact add_nat (by omega))]
      exact hs
    · have ag : Agree 172 ρ' (s2_G_b.ap (putR ρ' 175 h)) := (putR_agree _ _ _ (by decide)).trans (Bind.agree s2_G_g _)
      have e1 : (s2_G_b.ap (putR ρ' 175 h)).i 172 = ((a + 2 * s : Nat) : Int) := (ap_i s2_G_172).trans xb
      have e2 : (s2_G_b.ap (putR ρ' 175 h)).i 173 = ((a + 2 * s + 2 * s : Nat) : Int) := (ap_i s2_G_173).trans (by show IOp.den .add .i64 (ρ'.i 173) (IOp.den .mul .i64 2 (ρ'.i 170)) = _; rw [xb, xA.es, mul_nat (by omega)]; exact add_nat (by omega))
      have e3 : stR (s2_G_b.ap (putR ρ' 175 h)) 174 = h := by funext k; rw [ap_st s2_G_rw, row_var, putR_st]
      refine ⟨⟨xA.agree ag (by decide), by rw [e3]; exact szs_sw w c xz, a + 2 * s, e1, e2, c, by rw [e3]; exact hP.step hs0 c w t⟩, ?_, ag⟩
      show (_ - _ : Int).toNat < (_ - _ : Int).toNat
      rw [e1, xa]; omega
  · refine .inl ⟨ρ', Agree.refl _ _, ⟨⟨xA, xz, a, xa, xb, ha, hP⟩, by rw [xb]; omega⟩, rfl, ?_⟩
    exact fam_end (c := cfgL [] (fun _ => [])) (Φ := [(.lt (.var 1) (.var 173), true)]) s2_fits (cN_ok ρ') (Facts.ok_cons (by rw [dlt_t]; show ρ'.i 1 < ρ'.i 173; rw [xb, xn]; omega) (Facts.ok_nil _)) s2_X_run rfl (fun h => nomatch h) rfl
end
end Go.Proofs.Ytegekgjjoojgdaa

/- Loops whose rounds have letters of their own: what is run once. -/
namespace Go.Proofs.Ytegekgjjoojgdaa
open Go Go.Proofs.Aw Go.Proofs.Xw
set_option maxRecDepth 100000
noncomputable def lpS0 (f : Nat) : List LoopX := if Nat.beq f 21 = true then [s0] else []
theorem lpS0_21o : othersB [s0] [0] 0 (loopsOf (Try.f21.body.getD .skip)) = true := by kernel_rfl
theorem lpS0_21 {ρ : Rho} (h_s0 : LoopOk Try.prog ρ Try.f21.ntmps s0_c s0) : LpsOk Try.prog ρ Try.f21.ntmps [s0] (Try.f21.body.getD .skip) :=
  lps_idx [0] lpS0_21o (List.forall_mem_cons.2 ⟨look_list (c := s0_c) (Ls := [s0]) (by kernel_rfl) (List.forall_mem_cons.2 ⟨h_s0, List.forall_mem_nil _⟩), List.forall_mem_nil _⟩)
theorem lpS0_ok {ρ : Rho} (h_s0 : LoopOk Try.prog ρ Try.f21.ntmps s0_c s0) : ∀ f i, btLook f ftsT = some i → LpsOk Try.prog ρ i.ntmps (lpS0 f) i.body := by
  intro f i h
  have hi := fts_ok (f, i) (bt_of_mem _ _ (btLook_mem h))
  unfold lpS0
  split
  · rename_i hf
    have hf := Nat.eq_of_beq_eq_true hf
    subst hf
    exact lps_row hi Try.func21 (lpS0_21 h_s0)
  · exact LpsOk.nil _ _ _ _
noncomputable def lpS2 (f : Nat) : List LoopX := if Nat.beq f 21 = true then [s2] else []
theorem lpS2_21o : othersB [s2] [2] 0 (loopsOf (Try.f21.body.getD .skip)) = true := by kernel_rfl
theorem lpS2_21 {ρ : Rho} (h_s2 : LoopOk Try.prog ρ Try.f21.ntmps s2_c s2) : LpsOk Try.prog ρ Try.f21.ntmps [s2] (Try.f21.body.getD .skip) :=
  lps_idx [2] lpS2_21o (List.forall_mem_cons.2 ⟨look_list (c := s2_c) (Ls := [s2]) (by kernel_rfl) (List.forall_mem_cons.2 ⟨h_s2, List.forall_mem_nil _⟩), List.forall_mem_nil _⟩)
theorem lpS2_ok {ρ : Rho} (h_s2 : LoopOk Try.prog ρ Try.f21.ntmps s2_c s2) : ∀ f i, btLook f ftsT = some i → LpsOk Try.prog ρ i.ntmps (lpS2 f) i.body := by
  intro f i h
  have hi := fts_ok (f, i) (bt_of_mem _ _ (btLook_mem h))
  unfold lpS2
  split
  · rename_i hf
    have hf := Nat.eq_of_beq_eq_true hf
    subst hf
    exact lps_row hi Try.func21 (lpS2_21 h_s2)
  · exact LpsOk.nil _ _ _ _

/-! s1: letters {6: 170} rows 171; entered under [] -/
noncomputable def s1_c : Code := (loopsOf (Try.f21.body.getD .skip))[1]?.getD .skip
def s1_E : XS := ⟨[(27, .top), (26, .top), (25, .top), (24, .top), (23, .top), (8, .top), (7, .top), (10, .top), (6, (.sc (.i .i64 (.lit (20 : Int))))), (0, (.slv (0, 0) 1 (.lit (0 : Int)) (.len 0) true)), (1, (.sc (.i .i64 (.var 1)))), (2, (.fn (.func 15) [] []))], [((0, 0), [(.rows 1 (.len 0) (.var 164 [.s]))])], 14⟩
def s1_S : XS := ⟨[(27, .top), (26, .top), (25, .top), (24, .top), (23, .top), (8, .top), (7, .top), (10, .top), (6, (.sc (.i .i64 (.var 170)))), (0, (.slv (0, 0) 1 (.lit (0 : Int)) (.len 0) true)), (1, (.sc (.i .i64 (.var 1)))), (2, (.fn (.func 15) [] []))], [((0, 0), [(.rows 1 (.len 0) (.var 171 [.s]))])], 14⟩
def s1_I : Bind := ⟨[(170, (.lit (20 : Int)))], [], [], [(171, (.len 0), (.var 164 [.s]))]⟩
def s1_ks : List Nat := [27, 26, 25, 24, 23, 8, 7, 10, 6, 0, 1, 2]
theorem s1_Iok : okS 2 170 s1_I (nmS s1_S s1_E) s1_S s1_E = true := by kernel_rfl
theorem s1_Ig : s1_I.ge 170 = true := by kernel_rfl
theorem s1_Eb : s1_E.bel 170 = true := by kernel_rfl
theorem s1_fits : fitsC Try.f21.ntmps s1_c = true := by kernel_rfl
theorem s1_I170 : lassoc 170 s1_I.i = some (.lit (20 : Int)) := by kernel_rfl
theorem s1_Ir : lassoc 171 s1_I.r = some ((.len 0), (.var 164 [.s])) := by kernel_rfl
def s1_G_r : T (XE × XS) := (.ret (.normal, ⟨[(27, .top), (26, .top), (25, .top), (24, .top), (23, .top), (8, (.sc (.i .i64 (.var 173)))), (7, (.sc (.i .i64 (.var 172)))), (10, .top), (6, (.sc (.i .i64 (.op .mul .i64 (.var 170) (.lit (2 : Int)))))), (0, (.slv (0, 0) 1 (.lit (0 : Int)) (.len 0) true)), (1, (.sc (.i .i64 (.var 1)))), (2, (.fn (.func 15) [] []))], [((0, 0), [(.rows 1 (.len 0) (.var 176 [.s]))])], 40⟩))
theorem s1_G_run : (codeX (cfgH [] lpS2 [k2E]).ti (callS ⟨(cfgH [] lpS2 [k2E]), l_able, []⟩ 12) (((cfgH [] lpS2 [k2E]).ft 21).elim [] (·.ms)) 2 ((cfgH [] lpS2 [k2E]).lp 21) 1000 s1_c ([(.lt (.var 170) (.var 1), true), (.lt mE (.var 1), true)]) s1_S).map (sqz s1_ks) = s1_G_r := by kernel_rfl
def s1_G_s : XS := ⟨[(27, .top), (26, .top), (25, .top), (24, .top), (23, .top), (8, (.sc (.i .i64 (.var 173)))), (7, (.sc (.i .i64 (.var 172)))), (10, .top), (6, (.sc (.i .i64 (.op .mul .i64 (.var 170) (.lit (2 : Int)))))), (0, (.slv (0, 0) 1 (.lit (0 : Int)) (.len 0) true)), (1, (.sc (.i .i64 (.var 1)))), (2, (.fn (.func 15) [] []))], [((0, 0), [(.rows 1 (.len 0) (.var 176 [.s]))])], 40⟩
def s1_G_b : Bind := ⟨[(170, (.op .mul .i64 (.var 170) (.lit (2 : Int))))], [], [], [(171, (.len 0), (.var 176 [.s]))]⟩
theorem s1_G_ok : okS 2 170 s1_G_b (nmS s1_S s1_G_s) s1_S s1_G_s = true := by kernel_rfl
theorem s1_G_g : s1_G_b.ge 170 = true := by kernel_rfl
theorem s1_G_170 : lassoc 170 s1_G_b.i = some (.op .mul .i64 (.var 170) (.lit (2 : Int))) := by kernel_rfl
theorem s1_G_rw : lassoc 171 s1_G_b.r = some ((.len 0), (.var 176 [.s])) := by kernel_rfl
def s1_H_r : T (XE × XS) := (.ret (.normal, ⟨[(27, .top), (26, .top), (25, .top), (24, .top), (23, .top), (8, (.sc (.i .i64 (.var 173)))), (7, (.sc (.i .i64 (.var 172)))), (10, .top), (6, (.sc (.i .i64 (.op .mul .i64 (.var 170) (.lit (2 : Int)))))), (0, (.slv (0, 0) 1 (.lit (0 : Int)) (.len 0) true)), (1, (.sc (.i .i64 (.var 1)))), (2, (.fn (.func 15) [] []))], [((0, 0), [(.rows 1 (.len 0) (.var 174 [.s]))])], 34⟩))
theorem s1_H_run : (codeX (cfgH [] lpS2 []).ti (callS ⟨(cfgH [] lpS2 []), l_able, []⟩ 12) (((cfgH [] lpS2 []).ft 21).elim [] (·.ms)) 2 ((cfgH [] lpS2 []).lp 21) 1000 s1_c ([(.lt (.var 170) (.var 1), true), (.lt mE (.var 1), false)]) s1_S).map (sqz s1_ks) = s1_H_r := by kernel_rfl
def s1_H_s : XS := ⟨[(27, .top), (26, .top), (25, .top), (24, .top), (23, .top), (8, (.sc (.i .i64 (.var 173)))), (7, (.sc (.i .i64 (.var 172)))), (10, .top), (6, (.sc (.i .i64 (.op .mul .i64 (.var 170) (.lit (2 : Int)))))), (0, (.slv (0, 0) 1 (.lit (0 : Int)) (.len 0) true)), (1, (.sc (.i .i64 (.var 1)))), (2, (.fn (.func 15) [] []))], [((0, 0), [(.rows 1 (.len 0) (.var 174 [.s]))])], 34⟩
def s1_H_b : Bind := ⟨[(170, (.op .mul .i64 (.var 170) (.lit (2 : Int))))], [], [], [(171, (.len 0), (.var 174 [.s]))]⟩
theorem s1_H_ok : okS 2 170 s1_H_b (nmS s1_S s1_H_s) s1_S s1_H_s = true := by kernel_rfl
theorem s1_H_g : s1_H_b.ge 170 = true := by kernel_rfl
theorem s1_H_170 : lassoc 170 s1_H_b.i = some (.op .mul .i64 (.var 170) (.lit (2 : Int))) := by kernel_rfl
theorem s1_H_rw : lassoc 171 s1_H_b.r = some ((.len 0), (.var 174 [.s])) := by kernel_rfl
def s1_X_r : T (XE × XS) := (.ret ((.exit 2), ⟨[(27, .top), (26, .top), (25, .top), (24, .top), (23, .top), (8, .top), (7, .top), (10, .top), (6, (.sc (.i .i64 (.var 170)))), (0, (.slv (0, 0) 1 (.lit (0 : Int)) (.len 0) true)), (1, (.sc (.i .i64 (.var 1)))), (2, (.fn (.func 15) [] []))], [((0, 0), [(.rows 1 (.len 0) (.var 171 [.s]))])], 17⟩))
theorem s1_X_run : (codeX (cfgL [] (fun _ => [])).ti (callS ⟨(cfgL [] (fun _ => [])), l_able, []⟩ 12) (((cfgL [] (fun _ => [])).ft 21).elim [] (·.ms)) 2 ((cfgL [] (fun _ => [])).lp 21) 1000 s1_c ([(.lt (.var 170) (.var 1), false)]) s1_S).map (sqz s1_ks) = s1_X_r := by kernel_rfl
def s1_X_s : XS := ⟨[(27, .top), (26, .top), (25, .top), (24, .top), (23, .top), (8, .top), (7, .top), (10, .top), (6, (.sc (.i .i64 (.var 170)))), (0, (.slv (0, 0) 1 (.lit (0 : Int)) (.len 0) true)), (1, (.sc (.i .i64 (.var 1)))), (2, (.fn (.func 15) [] []))], [((0, 0), [(.rows 1 (.len 0) (.var 171 [.s]))])], 17⟩
noncomputable def s1 : LoopX := ⟨((codeKey s1_c).getD 0), 2, 170, s1_E, noB, [], .ret ((.exit 2), s1_X_s)⟩
theorem s1_ob : s1.out.belX 180 = true := by kernel_rfl
end Go.Proofs.Ytegekgjjoojgdaa

/- Ring: stable's loop over the blocks' sizes: at its end all is sorted. -/
namespace Go.Proofs.Ytegekgjjoojgdaa
open Go Go.Proofs.Aw Go.Proofs.Xw Go.Proofs.Sr
set_option maxRecDepth 100000
theorem s1_o : othersB [s2] [0] 0 (loopsOf s1_c) = true := by kernel_rfl
theorem s1_l {ρ : Rho} (h : LoopOk Try.prog ρ Try.f21.ntmps s2_c s2) : LpsOk Try.prog ρ Try.f21.ntmps [s2] s1_c :=
  lps_idx [0] s1_o (List.forall_mem_cons.2 ⟨look_list (c := s2_c) (Ls := [s2]) (by kernel_rfl) (List.forall_mem_cons.2 ⟨h, List.forall_mem_nil _⟩), List.forall_mem_nil _⟩)
section
variable {lt : ByteArray → ByteArray → Prop}
def s1R (lt : ByteArray → ByteArray → Prop) (n : Nat) (f : Nat → ByteArray) (ρ : Rho) : Prop :=
  ρ.i 1 = n ∧ ρ.len 0 = n ∧ n < 100000 ∧ Szs (stR ρ 171) n ∧ ∃ s : Nat, ρ.i 170 = s ∧ 0 < s ∧ Sw 0 n f (stR ρ 171) ∧ Blk lt (stR ρ 171) s n
theorem s1_ok (o : Ord lt) (ck : CK lt) (ρ : Rho) {n : Nat} (en : ρ.i 1 = n) (el : ρ.len 0 = n) (hn : n < 100000) (hz : Szs (stR ρ 164) n) (hb : Blk lt (stR ρ 164) 20 n) :
    ∃ ρf, Agree 170 ρ ρf ∧ Sw 0 n (stR ρ 164) (stR ρf 171) ∧ Srt lt (stR ρf 171) 0 n ∧ LoopOk Try.prog ρf Try.f21.ntmps s1_c s1 := by
  suffices hh : ∃ (_ : Nat) (ρf : Rho), Agree s1.n ρ ρf ∧ (Sw 0 n (stR ρ 164) (stR ρf 171) ∧ Srt lt (stR ρf 171) 0 n) ∧ LoopOk Try.prog ρf Try.f21.ntmps s1_c s1 by
    obtain ⟨_, ρf, h1, ⟨h2, h3⟩, h4⟩ := hh
    exact ⟨ρf, h1, h2, h3, h4⟩
  have a0 := Bind.agree s1_Ig ρ
  have e0 : stR (s1_I.ap ρ) 171 = stR ρ 164 := by funext k; rw [ap_st s1_Ir]; exact row_var ρ 164 k
  refine loopOk_famE (L := s1) (N := Try.f21.ntmps) (body := s1_c) (P := Try.prog) rfl s1_Eb (fun _ => s1_S) (fun _ => s1R lt n (stR ρ 164)) (fun _ ρ' => Sw 0 n (stR ρ 164) (stR ρ' 171) ∧ Srt lt (stR ρ' 171) 0 n) (fun _ ρ' => (n - ρ'.i 170).toNat) ?_
    ⟨0, s1_I.ap ρ, a0, ⟨by rw [← a0.i 1 (by decide)]; exact en, by rw [← a0.len 0 (by decide)]; exact el, hn, by rw [e0]; exact hz, 20, ap_i s1_I170, by decide, by rw [e0]; exact .refl _, by rw [e0]; exact hb⟩, fun E _ hE => okS_imp hE s1_Iok ρ⟩
  rintro _ ρ' ⟨xn, xl, _, xz, s, xs, hs0, hw, hB⟩
  by_cases c : s < n
  · obtain ⟨ρ1, ag1, ⟨xA, z1, a, xa, xb, ha, hP⟩, hlt, L⟩ := s2_ok o ck ρ' (n := n) (s := s) ⟨xn, xl, hn, xs, hs0, c, hB⟩ xz
    have hlt2 : n < a + 2 * s := by rw [xb] at hlt; omega
    obtain ⟨p1, p2⟩ := pass_two hB hP
    have em : IE.den ρ1 mE = ((a + s : Nat) : Int) := by show IOp.den .add .i64 (ρ1.i 172) (ρ1.i 170) = _; rw [xa, xA.es]; exact add_nat (by omega)
    -- how it goes on, whatever the rest is
    have fin : ∀ (ρ2 : Rho) (β : Bind) (h : Nat → ByteArray), Agree 170 ρ1 ρ2 → β.ge 170 = true → (β.ap ρ2).i 170 = ((2 * s : Nat) : Int) → stR (β.ap ρ2) 171 = h → Sw a n (stR ρ1 174) h → Srt lt h a n →
        s1R lt n (stR ρ 164) (β.ap ρ2) ∧ ((n : Int) - (β.ap ρ2).i 170).toNat < ((n : Int) - ρ'.i 170).toNat ∧ Agree 170 ρ' (β.ap ρ2) := fun ρ2 β h ag hg e1 e2 w t => by
      have ag' : Agree 170 ρ' (β.ap ρ2) := ((ag1.le (by decide)).trans ag).trans (Bind.agree hg _)
      obtain ⟨w2, b2⟩ := hP.done hs0 hlt2 w t
      refine ⟨⟨by rw [← ag'.i 1 (by decide)]; exact xn, by rw [← ag'.len 0 (by decide)]; exact xl, hn, by rw [e2]; exact szs_sw w2 (Nat.le_refl _) xz, 2 * s, e1, by omega, by rw [e2]; exact hw.trans w2, by rw [e2]; exact b2⟩, ?_, ag'⟩
      rw [e1, xs]; omega
    have em2 : IOp.den .mul .i64 (s : Int) 2 = ((2 * s : Nat) : Int) := by simp only [IOp.den]; rw [wrap_id _ (by omega) (by omega)]; omega
    by_cases c2 : a + s < n
    · rw [Nat.min_eq_left (by omega)] at p1
      rw [Nat.min_eq_right (by omega)] at p2
      obtain ⟨h, w, t, hs⟩ := sym_hs o ck (n - a) a (a + s) n n (stR ρ1 174) (Nat.le_refl _) (by omega) c2 (Nat.le_refl _) (by omega) z1 p1 p2
      have ag2 := putR_agree ρ1 176 h (n := 176) (Nat.le_refl _)
      refine .inr ⟨0, s1_G_b.ap (putR ρ1 176 h), ?_, ?_⟩
      · have L2 : LoopOk Try.prog (putR ρ1 176 h) Try.f21.ntmps s2_c s2 := LoopOk.agree (B := 176) (show s2.S.bel 176 = true by kernel_rfl) rfl (show s2.out.belX 176 = true by kernel_rfl) ag2 L
        refine fam_goL (c := cfgH [] lpS2 [k2E]) (Φ := [(.lt (.var 170) (.var 1), true), (.lt mE (.var 1), true)]) s1_fits (XS.bel_den (ag1.trans (ag2.le (by decide))) s1_S (by kernel_rfl)) (cfgH_ok (List.forall_mem_nil _) (lpS2_ok L2) (List.forall_mem_cons.2 ⟨HS.hk ?_, List.forall_mem_nil _⟩)) (s1_l L2)
          (Facts.ok_cons (by rw [dlt_t]; show ρ1.i 170 < ρ1.i 1; rw [xA.es, xA.en]; omega) (Facts.ok_cons (by rw [dlt_t]; show IE.den ρ1 mE < ρ1.i 1; rw [em, xA.en]; omega) (Facts.ok_nil _))) s1_G_run rfl s1_G_ok
        rw [putR_st, putR_ne _ _ _ (by decide), show (putR ρ1 176 h).len 0 = n from xA.el]
        simp only [X.denL, slD_den, cmp_den]
        rw [show (putR ρ1 176 h).len 0 = n from xA.el, show X.den (putR ρ1 176 h) (iV 172) = nV a from i_den _ _ xa, show X.den (putR ρ1 176 h) (iV 1) = nV n from i_den _ _ xA.en,
          show X.den (putR ρ1 176 h) (.sc (.i .i64 mE)) = nV (a + s) from i_den _ _ em]
        exact hs
      · exact fin _ _ h (ag2.le (by decide)) s1_G_g ((ap_i s1_G_170).trans (by show IOp.den .mul .i64 (ρ1.i 170) 2 = _; rw [xA.es]; exact em2)) (by funext k; rw [ap_st s1_G_rw, row_var, putR_st]) w t
    · rw [Nat.min_eq_right (by omega)] at p1
      refine .inr ⟨0, s1_H_b.ap ρ1, ?_, ?_⟩
      · exact fam_goL (c := cfgH [] lpS2 []) (Φ := [(.lt (.var 170) (.var 1), true), (.lt mE (.var 1), false)]) s1_fits (XS.bel_den ag1 s1_S (by kernel_rfl)) (cfgH_ok (List.forall_mem_nil _) (lpS2_ok L) (List.forall_mem_nil _)) (s1_l L)
          (Facts.ok_cons (by rw [dlt_t]; show ρ1.i 170 < ρ1.i 1; rw [xA.es, xA.en]; omega) (Facts.ok_cons (by rw [dlt_f]; show ρ1.i 1 ≤ IE.den ρ1 mE; rw [em, xA.en]; omega) (Facts.ok_nil _))) s1_H_run rfl s1_H_ok
      · exact fin _ _ (stR ρ1 174) (Agree.refl _ _) s1_H_g ((ap_i s1_H_170).trans (by show IOp.den .mul .i64 (ρ1.i 170) 2 = _; rw [xA.es]; exact em2)) (by funext k; rw [ap_st s1_H_rw, row_var]) (.refl _) p1
  · refine .inl ⟨ρ', Agree.refl _ _, ⟨hw, hB.all (by omega)⟩, rfl, ?_⟩
    exact fam_end (c := cfgL [] (fun _ => [])) (Φ := [(.lt (.var 170) (.var 1), false)]) s1_fits (cN_ok ρ') (Facts.ok_cons (by rw [dlt_f]; show ρ'.i 1 ≤ ρ'.i 170; rw [xn, xs]; omega) (Facts.ok_nil _)) s1_X_run rfl (fun h => nomatch h) rfl
end
end Go.Proofs.Ytegekgjjoojgdaa

/- What functions answer, run over letters, where something is known; each shown by running it. -/
namespace Go.Proofs.Ytegekgjjoojgdaa
open Go Go.Proofs.Aw Go.Proofs.Xw
noncomputable def lpSt (f : Nat) : List LoopX := if Nat.beq f 21 = true then [s0, s1] else []
theorem lpSt_21o : othersB [s0, s1] [0, 1] 0 (loopsOf (Try.f21.body.getD .skip)) = true := by kernel_rfl
theorem lpSt_21 {ρ : Rho} (h_s0 : LoopOk Try.prog ρ Try.f21.ntmps s0_c s0) (h_s1 : LoopOk Try.prog ρ Try.f21.ntmps s1_c s1) : LpsOk Try.prog ρ Try.f21.ntmps [s0, s1] (Try.f21.body.getD .skip) :=
  lps_idx [0, 1] lpSt_21o (List.forall_mem_cons.2 ⟨look_list (c := s0_c) (Ls := [s0]) (by kernel_rfl) (List.forall_mem_cons.2 ⟨h_s0, List.forall_mem_nil _⟩), List.forall_mem_cons.2 ⟨look_list (c := s1_c) (Ls := [s1]) (by kernel_rfl) (List.forall_mem_cons.2 ⟨h_s1, List.forall_mem_nil _⟩), List.forall_mem_nil _⟩⟩)
theorem lpSt_ok {ρ : Rho} (h_s0 : LoopOk Try.prog ρ Try.f21.ntmps s0_c s0) (h_s1 : LoopOk Try.prog ρ Try.f21.ntmps s1_c s1) : ∀ f i, btLook f ftsT = some i → LpsOk Try.prog ρ i.ntmps (lpSt f) i.body := by
  intro f i h
  have hi := fts_ok (f, i) (bt_of_mem _ _ (btLook_mem h))
  unfold lpSt
  split
  · rename_i hf
    have hf := Nat.eq_of_beq_eq_true hf
    subst hf
    exact lps_row hi Try.func21 (lpSt_21 h_s0 h_s1)
  · exact LpsOk.nil _ _ _ _

def stH : T (X × XDl) := (.ret ((.tup []), [((0, 0), some [(.rows 1 (.len 0) (.var 171 [.s]))])]))
set_option maxRecDepth 100000 in
theorem stH_run : askH ⟨cfgH [] lpSt [k0E], l_able, []⟩ 21 (stA) (rwS 0) [] = stH := by kernel_rfl
end Go.Proofs.Ytegekgjjoojgdaa

/- Ring: stableCmpFunc sorts. -/
namespace Go.Proofs.Ytegekgjjoojgdaa
open Go Go.Proofs.Aw Go.Proofs.Xw Go.Proofs.Sr
set_option maxRecDepth 100000
theorem stb_hs {lt : ByteArray → ByteArray → Prop} (o : Ord lt) (ck : CK lt) {n : Nat} {g : Nat → ByteArray} (hn : n < 100000) (hz : Szs g n) :
    ∃ h, Sw 0 n g h ∧ Srt lt h 0 n ∧ HS 21 [slV n, nV n, cmpV] n g h := by
  generalize hρ : rho0 [0, (n : Int)] n g = ρ
  have hg : ∀ l, stR ρ l = g := fun l => by rw [← hρ]; rfl
  have hlen : ρ.len 0 = n := by rw [← hρ]; rfl
  have en : ρ.i 1 = n := by rw [← hρ]; rfl
  obtain ⟨ρ1, ag1, ⟨xn, xl, _, xz, a, xa, xb, ha, hF⟩, hlt, L0⟩ := s0_ok o ck ρ en hlen hn (by rw [hg]; exact hz)
  rw [hg] at hF
  obtain ⟨h0, w0, t0, k0⟩ := ins_hs o ck (a := a) (b := n) (len := n) (g := stR ρ1 162) ha (Nat.le_refl _) (by omega) xz
  obtain ⟨w1, b1⟩ := hF.done (by decide) (by rw [xb] at hlt; omega) w0 t0
  have ag2 := putR_agree ρ1 164 h0 (n := 164) (Nat.le_refl _)
  have z1 := szs_sw w1 (Nat.le_refl _) hz
  obtain ⟨ρ3, ag3, w3, t3, L1⟩ := s1_ok o ck (putR ρ1 164 h0) (n := n) xn xl hn (by rw [putR_st]; exact z1) (by rw [putR_st]; exact b1)
  rw [putR_st] at w3
  have ag23 : Agree 164 ρ1 ρ3 := ag2.trans (ag3.le (by decide))
  have L0' : LoopOk Try.prog ρ3 Try.f21.ntmps s0_c s0 := LoopOk.agree (B := 164) (show s0.S.bel 164 = true by kernel_rfl) rfl (show s0.out.belX 164 = true by kernel_rfl) ag23 L0
  have ag : Agree 160 ρ ρ3 := ag1.trans (ag23.le (by decide))
  refine ⟨stR ρ3 171, w1.trans w3, t3, ?_⟩
  have e1 : stR ρ3 162 = stR ρ1 162 := agree_st ag23 (by decide)
  have e2 : stR ρ3 164 = h0 := by rw [agree_st ag3 (by decide), putR_st]
  have e3 : ρ3.len 0 = n := by rw [← ag.len 0 (by decide)]; exact hlen
  have hk := askH_ok (c := ⟨cfgH [] lpSt [k0E], l_able, []⟩) (f := 21) (args := stA) (inn := rwS 0) (out := rwS 171) (Φ := []) (r := .tup []) (cfgH_ok (List.forall_mem_nil _) (lpSt_ok L0' L1) (List.forall_mem_cons.2 ⟨HS.hk (by
      rw [e1, e2, e3]
      simp only [X.denL, slD_den, cmp_den, e3]
      rw [show X.den ρ3 (iV 160) = nV a from i_den _ _ (by show ρ3.i 160 = _; rw [← ag23.i 160 (by decide)]; exact xa), show X.den ρ3 (iV 1) = nV n from i_den _ _ (by show ρ3.i 1 = _; rw [← ag.i 1 (by decide)]; exact en)]
      exact k0), List.forall_mem_nil _⟩)) l_able_ok (Facts.ok_nil _) (by rw [stH_run]; rfl) (by kernel_rfl)
  have q := HS.of hk
  rw [agree_st ag (by decide), hg, e3, ← X.belL_den ag stA (by kernel_rfl)] at q
  rw [← hρ] at q
  exact q
end Go.Proofs.Ytegekgjjoojgdaa

/- What functions answer, run over letters, where something is known; each shown by running it. -/
namespace Go.Proofs.Ytegekgjjoojgdaa
open Go Go.Proofs.Aw Go.Proofs.Xw
def kSt : HK := ⟨21, [slD, .sc (.i .i64 (.len 0)), cmpX], rwS 0, rwS 180, .tup []⟩
def sfA : List X := [slD, cmpX]

def sfH : T (X × XDl) := (.ret ((.tup []), [((0, 0), some [(.rows 1 (.len 0) (.var 180 [.s]))])]))
set_option maxRecDepth 100000 in
theorem sfH_run : askH ⟨cfgH [] (fun _ => []) [kSt], l_able, []⟩ 14 (sfA) (rwS 0) [] = sfH := by kernel_rfl
end Go.Proofs.Ytegekgjjoojgdaa

/- Ring: SortStableFunc sorts. -/
namespace Go.Proofs.Ytegekgjjoojgdaa
open Go Go.Proofs.Aw Go.Proofs.Xw Go.Proofs.Sr
set_option maxRecDepth 100000
theorem sort_hs {lt : ByteArray → ByteArray → Prop} (o : Ord lt) (ck : CK lt) {n : Nat} {g : Nat → ByteArray} (hn : n < 100000) (hz : Szs g n) :
    ∃ h, Sw 0 n g h ∧ Srt lt h 0 n ∧ HS 14 [slV n, cmpV] n g h := by
  obtain ⟨h, w, t, k⟩ := stb_hs o ck hn hz
  refine ⟨h, w, t, ?_⟩
  have e0 : stR (putR (rho0 [] n g) 180 h) 0 = g := putR_ne _ _ _ (by decide)
  have e1 : (putR (rho0 [] n g) 180 h).len 0 = n := rfl
  have hk := askH_ok (c := ⟨cfgH [] (fun _ => []) [kSt], l_able, []⟩) (ρ := putR (rho0 [] n g) 180 h) (f := 14) (args := sfA) (inn := rwS 0) (out := rwS 180) (Φ := []) (r := .tup []) (cH_ok (List.forall_mem_cons.2 ⟨HS.hk (by
      rw [e0, putR_st, e1]
      simp only [X.denL, slD_den, cmp_den, e1]
      rw [show X.den (putR (rho0 [] n g) 180 h) (.sc (.i .i64 (.len 0))) = nV n from i_den _ _ (by simp only [IE.den, e1])]
      exact k), List.forall_mem_nil _⟩)) l_able_ok (Facts.ok_nil _) (by rw [sfH_run]; rfl) (by kernel_rfl)
  have q := HS.of hk
  rw [e0, putR_st, e1] at q
  simp only [sfA, X.denL, slD_den, cmp_den, e1] at q
  exact q
end Go.Proofs.Ytegekgjjoojgdaa

/- What functions answer, run over letters, where something is known; each shown by running it. -/
namespace Go.Proofs.Ytegekgjjoojgdaa
open Go Go.Proofs.Aw Go.Proofs.Xw
def sX (k : Nat) : X := .sc (.s (.var k))
def cpX (a b : Nat) : X := .sc (.c (.var a) (.lit false) (.var b) (.lit false))
def ksO : List (Nat × List X × X) := [(17, [sX 0], cpX 300 301), (17, [sX 1], cpX 302 303), (18, [sX 0, sX 1], iV 304)]
def bnd (k : Nat) : Facts := [(.lt (.var k) (.lit (-524288)), false), (.lt (.lit 524288) (.var k), false)]
def fO : Facts := bnd 300 ++ bnd 301 ++ bnd 302 ++ bnd 303 ++ [(.and (.eq (.var 300) (.lit 0)) (.eq (.var 301) (.lit 0)), false), (.and (.eq (.var 302) (.lit 0)) (.eq (.var 303) (.lit 0)), false)]

def od : T X := (.ret (.sc (.i .i64 (.ite (.not (.ite (.not (.eq (.op .sub .i64 (.ite (.or (.and (.or (.eq (.op .sub .i64 (.op .mul .i64 (.lit (1 : Int)) (.var 301)) (.op .mul .i64 (.lit (0 : Int)) (.var 300))) (.lit (0 : Int))) (.lt (.lit (0 : Int)) (.op .sub .i64 (.op .mul .i64 (.lit (1 : Int)) (.var 301)) (.op .mul .i64 (.lit (0 : Int)) (.var 300))))) (.not (.eq (.op .sub .i64 (.op .mul .i64 (.lit (1 : Int)) (.var 301)) (.op .mul .i64 (.lit (0 : Int)) (.var 300))) (.lit (0 : Int))))) (.and (.and (.or (.eq (.op .sub .i64 (.op .mul .i64 (.lit (1 : Int)) (.var 301)) (.op .mul .i64 (.lit (0 : Int)) (.var 300))) (.lit (0 : Int))) (.lt (.lit (0 : Int)) (.op .sub .i64 (.op .mul .i64 (.lit (1 : Int)) (.var 301)) (.op .mul .i64 (.lit (0 : Int)) (.var 300))))) (.eq (.op .sub .i64 (.op .mul .i64 (.lit (1 : Int)) (.var 301)) (.op .mul .i64 (.lit (0 : Int)) (.var 300))) (.lit (0 : Int)))) (.lt (.lit (0 : Int)) (.var 300)))) (.lit (0 : Int)) (.lit (1 : Int))) (.ite (.or (.and (.or (.eq (.op .sub .i64 (.op .mul .i64 (.lit (1 : Int)) (.var 303)) (.op .mul .i64 (.lit (0 : Int)) (.var 302))) (.lit (0 : Int))) (.lt (.lit (0 : Int)) (.op .sub .i64 (.op .mul .i64 (.lit (1 : Int)) (.var 303)) (.op .mul .i64 (.lit (0 : Int)) (.var 302))))) (.not (.eq (.op .sub .i64 (.op .mul .i64 (.lit (1 : Int)) (.var 303)) (.op .mul .i64 (.lit (0 : Int)) (.var 302))) (.lit (0 : Int))))) (.and (.and (.or (.eq (.op .sub .i64 (.op .mul .i64 (.lit (1 : Int)) (.var 303)) (.op .mul .i64 (.lit (0 : Int)) (.var 302))) (.lit (0 : Int))) (.lt (.lit (0 : Int)) (.op .sub .i64 (.op .mul .i64 (.lit (1 : Int)) (.var 303)) (.op .mul .i64 (.lit (0 : Int)) (.var 302))))) (.eq (.op .sub .i64 (.op .mul .i64 (.lit (1 : Int)) (.var 303)) (.op .mul .i64 (.lit (0 : Int)) (.var 302))) (.lit (0 : Int)))) (.lt (.lit (0 : Int)) (.var 302)))) (.lit (0 : Int)) (.lit (1 : Int)))) (.lit (0 : Int)))) (.eq (.op .sub .i64 (.ite (.or (.and (.or (.eq (.op .sub .i64 (.op .mul .i64 (.lit (1 : Int)) (.var 301)) (.op .mul .i64 (.lit (0 : Int)) (.var 300))) (.lit (0 : Int))) (.lt (.lit (0 : Int)) (.op .sub .i64 (.op .mul .i64 (.lit (1 : Int)) (.var 301)) (.op .mul .i64 (.lit (0 : Int)) (.var 300))))) (.not (.eq (.op .sub .i64 (.op .mul .i64 (.lit (1 : Int)) (.var 301)) (.op .mul .i64 (.lit (0 : Int)) (.var 300))) (.lit (0 : Int))))) (.and (.and (.or (.eq (.op .sub .i64 (.op .mul .i64 (.lit (1 : Int)) (.var 301)) (.op .mul .i64 (.lit (0 : Int)) (.var 300))) (.lit (0 : Int))) (.lt (.lit (0 : Int)) (.op .sub .i64 (.op .mul .i64 (.lit (1 : Int)) (.var 301)) (.op .mul .i64 (.lit (0 : Int)) (.var 300))))) (.eq (.op .sub .i64 (.op .mul .i64 (.lit (1 : Int)) (.var 301)) (.op .mul .i64 (.lit (0 : Int)) (.var 300))) (.lit (0 : Int)))) (.lt (.lit (0 : Int)) (.var 300)))) (.lit (0 : Int)) (.lit (1 : Int))) (.ite (.or (.and (.or (.eq (.op .sub .i64 (.op .mul .i64 (.lit (1 : Int)) (.var 303)) (.op .mul .i64 (.lit (0 : Int)) (.var 302))) (.lit (0 : Int))) (.lt (.lit (0 : Int)) (.op .sub .i64 (.op .mul .i64 (.lit (1 : Int)) (.var 303)) (.op .mul .i64 (.lit (0 : Int)) (.var 302))))) (.not (.eq (.op .sub .i64 (.op .mul .i64 (.lit (1 : Int)) (.var 303)) (.op .mul .i64 (.lit (0 : Int)) (.var 302))) (.lit (0 : Int))))) (.and (.and (.or (.eq (.op .sub .i64 (.op .mul .i64 (.lit (1 : Int)) (.var 303)) (.op .mul .i64 (.lit (0 : Int)) (.var 302))) (.lit (0 : Int))) (.lt (.lit (0 : Int)) (.op .sub .i64 (.op .mul .i64 (.lit (1 : Int)) (.var 303)) (.op .mul .i64 (.lit (0 : Int)) (.var 302))))) (.eq (.op .sub .i64 (.op .mul .i64 (.lit (1 : Int)) (.var 303)) (.op .mul .i64 (.lit (0 : Int)) (.var 302))) (.lit (0 : Int)))) (.lt (.lit (0 : Int)) (.var 302)))) (.lit (0 : Int)) (.lit (1 : Int)))) (.lit (0 : Int))) (.eq (.op .sub .i64 (.lit (0 : Int)) (.ite (.or (.eq (.op .sub .i64 (.op .mul .i64 (.var 300) (.var 303)) (.op .mul .i64 (.var 301) (.var 302))) (.lit (0 : Int))) (.lt (.lit (0 : Int)) (.op .sub .i64 (.op .mul .i64 (.var 300) (.var 303)) (.op .mul .i64 (.var 301) (.var 302))))) (.ite (.eq (.op .sub .i64 (.op .mul .i64 (.var 300) (.var 303)) (.op .mul .i64 (.var 301) (.var 302))) (.lit (0 : Int))) (.lit (0 : Int)) (.lit (1 : Int))) (.lit (-1 : Int)))) (.lit (0 : Int))))) (.ite (.not (.eq (.op .sub .i64 (.ite (.or (.and (.or (.eq (.op .sub .i64 (.op .mul .i64 (.lit (1 : Int)) (.var 301)) (.op .mul .i64 (.lit (0 : Int)) (.var 300))) (.lit (0 : Int))) (.lt (.lit (0 : Int)) (.op .sub .i64 (.op .mul .i64 (.lit (1 : Int)) (.var 301)) (.op .mul .i64 (.lit (0 : Int)) (.var 300))))) (.not (.eq (.op .sub .i64 (.op .mul .i64 (.lit (1 : Int)) (.var 301)) (.op .mul .i64 (.lit (0 : Int)) (.var 300))) (.lit (0 : Int))))) (.and (.and (.or (.eq (.op .sub .i64 (.op .mul .i64 (.lit (1 : Int)) (.var 301)) (.op .mul .i64 (.lit (0 : Int)) (.var 300))) (.lit (0 : Int))) (.lt (.lit (0 : Int)) (.op .sub .i64 (.op .mul .i64 (.lit (1 : Int)) (.var 301)) (.op .mul .i64 (.lit (0 : Int)) (.var 300))))) (.eq (.op .sub .i64 (.op .mul .i64 (.lit (1 : Int)) (.var 301)) (.op .mul .i64 (.lit (0 : Int)) (.var 300))) (.lit (0 : Int)))) (.lt (.lit (0 : Int)) (.var 300)))) (.lit (0 : Int)) (.lit (1 : Int))) (.ite (.or (.and (.or (.eq (.op .sub .i64 (.op .mul .i64 (.lit (1 : Int)) (.var 303)) (.op .mul .i64 (.lit (0 : Int)) (.var 302))) (.lit (0 : Int))) (.lt (.lit (0 : Int)) (.op .sub .i64 (.op .mul .i64 (.lit (1 : Int)) (.var 303)) (.op .mul .i64 (.lit (0 : Int)) (.var 302))))) (.not (.eq (.op .sub .i64 (.op .mul .i64 (.lit (1 : Int)) (.var 303)) (.op .mul .i64 (.lit (0 : Int)) (.var 302))) (.lit (0 : Int))))) (.and (.and (.or (.eq (.op .sub .i64 (.op .mul .i64 (.lit (1 : Int)) (.var 303)) (.op .mul .i64 (.lit (0 : Int)) (.var 302))) (.lit (0 : Int))) (.lt (.lit (0 : Int)) (.op .sub .i64 (.op .mul .i64 (.lit (1 : Int)) (.var 303)) (.op .mul .i64 (.lit (0 : Int)) (.var 302))))) (.eq (.op .sub .i64 (.op .mul .i64 (.lit (1 : Int)) (.var 303)) (.op .mul .i64 (.lit (0 : Int)) (.var 302))) (.lit (0 : Int)))) (.lt (.lit (0 : Int)) (.var 302)))) (.lit (0 : Int)) (.lit (1 : Int)))) (.lit (0 : Int)))) (.op .sub .i64 (.ite (.or (.and (.or (.eq (.op .sub .i64 (.op .mul .i64 (.lit (1 : Int)) (.var 301)) (.op .mul .i64 (.lit (0 : Int)) (.var 300))) (.lit (0 : Int))) (.lt (.lit (0 : Int)) (.op .sub .i64 (.op .mul .i64 (.lit (1 : Int)) (.var 301)) (.op .mul .i64 (.lit (0 : Int)) (.var 300))))) (.not (.eq (.op .sub .i64 (.op .mul .i64 (.lit (1 : Int)) (.var 301)) (.op .mul .i64 (.lit (0 : Int)) (.var 300))) (.lit (0 : Int))))) (.and (.and (.or (.eq (.op .sub .i64 (.op .mul .i64 (.lit (1 : Int)) (.var 301)) (.op .mul .i64 (.lit (0 : Int)) (.var 300))) (.lit (0 : Int))) (.lt (.lit (0 : Int)) (.op .sub .i64 (.op .mul .i64 (.lit (1 : Int)) (.var 301)) (.op .mul .i64 (.lit (0 : Int)) (.var 300))))) (.eq (.op .sub .i64 (.op .mul .i64 (.lit (1 : Int)) (.var 301)) (.op .mul .i64 (.lit (0 : Int)) (.var 300))) (.lit (0 : Int)))) (.lt (.lit (0 : Int)) (.var 300)))) (.lit (0 : Int)) (.lit (1 : Int))) (.ite (.or (.and (.or (.eq (.op .sub .i64 (.op .mul .i64 (.lit (1 : Int)) (.var 303)) (.op .mul .i64 (.lit (0 : Int)) (.var 302))) (.lit (0 : Int))) (.lt (.lit (0 : Int)) (.op .sub .i64 (.op .mul .i64 (.lit (1 : Int)) (.var 303)) (.op .mul .i64 (.lit (0 : Int)) (.var 302))))) (.not (.eq (.op .sub .i64 (.op .mul .i64 (.lit (1 : Int)) (.var 303)) (.op .mul .i64 (.lit (0 : Int)) (.var 302))) (.lit (0 : Int))))) (.and (.and (.or (.eq (.op .sub .i64 (.op .mul .i64 (.lit (1 : Int)) (.var 303)) (.op .mul .i64 (.lit (0 : Int)) (.var 302))) (.lit (0 : Int))) (.lt (.lit (0 : Int)) (.op .sub .i64 (.op .mul .i64 (.lit (1 : Int)) (.var 303)) (.op .mul .i64 (.lit (0 : Int)) (.var 302))))) (.eq (.op .sub .i64 (.op .mul .i64 (.lit (1 : Int)) (.var 303)) (.op .mul .i64 (.lit (0 : Int)) (.var 302))) (.lit (0 : Int)))) (.lt (.lit (0 : Int)) (.var 302)))) (.lit (0 : Int)) (.lit (1 : Int)))) (.op .sub .i64 (.lit (0 : Int)) (.ite (.or (.eq (.op .sub .i64 (.op .mul .i64 (.var 300) (.var 303)) (.op .mul .i64 (.var 301) (.var 302))) (.lit (0 : Int))) (.lt (.lit (0 : Int)) (.op .sub .i64 (.op .mul .i64 (.var 300) (.var 303)) (.op .mul .i64 (.var 301) (.var 302))))) (.ite (.eq (.op .sub .i64 (.op .mul .i64 (.var 300) (.var 303)) (.op .mul .i64 (.var 301) (.var 302))) (.lit (0 : Int))) (.lit (0 : Int)) (.lit (1 : Int))) (.lit (-1 : Int))))) (.var 304)))))
set_option maxRecDepth 100000 in
theorem od_run : askF ⟨cfgL ksO (fun _ => []), l_able, []⟩ 15 ([sX 0, sX 1]) fO = od := by kernel_rfl
end Go.Proofs.Ytegekgjjoojgdaa

/- What is shown of loops, each by one run of its body over letters. -/
namespace Go.Proofs.Ytegekgjjoojgdaa
open Go Go.Proofs.Aw Go.Proofs.Xw
def keyX : X := .sc (.s (.var 0))
/-! wP: letters [100, 101] [] [] [] -/
noncomputable def wP_c : Code := (loopsOf (Try.f17.body.getD .skip))[0]?.getD .skip
def wP_S : XS := ⟨[(9, (.sc (.i .i64 (.var 100)))), (8, (.sc (.i .i64 (.slen (.var 0))))), (7, (.sc (.s (.var 0)))), (3, (.sc (.i .u64 (.var 101)))), (2, (.sc (.c (.lit (0 : Int)) (.lit false) (.lit (0 : Int)) (.lit false)))), (0, (.sc (.s (.var 0))))], [], 5⟩
def wP_Φ : Facts := [(.lt (.var 100) (.lit 0), false)]
def wP_b : Bind := ⟨[(100, (.op .add .i64 (.var 100) (.lit (1 : Int)))), (101, (.op .mul .u64 (.op .xor .u64 (.var 101) (.op .conv .u64 (.byt (.var 0) (.var 100)) (.lit (0 : Int)))) (.lit (1099511628211 : Int))))], [], [], []⟩
def wP_i : Bind := ⟨[(100, (.lit (0 : Int))), (101, (.lit (14695981039346656037 : Int)))], [], [], []⟩
def wP_t : T (XE × XS) := (.br (.lt (.var 100) (.slen (.var 0))) (.ret (.normal, ⟨[(9, (.sc (.i .i64 (.op .add .i64 (.var 100) (.lit (1 : Int)))))), (8, (.sc (.i .i64 (.slen (.var 0))))), (7, (.sc (.s (.var 0)))), (3, (.sc (.i .u64 (.op .mul .u64 (.op .xor .u64 (.var 101) (.op .conv .u64 (.byt (.var 0) (.var 100)) (.lit (0 : Int)))) (.lit (1099511628211 : Int)))))), (2, (.sc (.c (.lit (0 : Int)) (.lit false) (.lit (0 : Int)) (.lit false)))), (0, (.sc (.s (.var 0))))], [], 18⟩)) (.ret ((.exit 0), ⟨[(9, (.sc (.i .i64 (.var 100)))), (8, (.sc (.i .i64 (.slen (.var 0))))), (7, (.sc (.s (.var 0)))), (3, (.sc (.i .u64 (.var 101)))), (2, (.sc (.c (.lit (0 : Int)) (.lit false) (.lit (0 : Int)) (.lit false)))), (0, (.sc (.s (.var 0))))], [], 6⟩)))
noncomputable def wP : LoopX := ⟨((codeKey wP_c).getD 0), 0, 100, wP_S, wP_i, [], wP_t.outs⟩
set_option maxRecDepth 100000 in
theorem wP_run : (codeX (cfgL ([]) (fun _ => [])).ti (callS ⟨(cfgL ([]) (fun _ => [])), l_able, []⟩ 12) (((cfgL ([]) (fun _ => [])).ft 17).elim [] (·.ms)) wP.k0 ((fun _ => []) 17) 1000 wP_c wP_Φ wP.S).map (sqz (wP_S.t.map (·.1))) = wP_t := by kernel_rfl
theorem wP_back : wP_t.nrm (okS wP.k0 wP.n wP_b [] wP.S) = true := by kernel_rfl
theorem wP_bel : wP_t.outs.belX 102 = true := by kernel_rfl
theorem wP_ib : wP_i.bel 100 = true := by kernel_rfl
theorem wP_ig : wP_i.ge 100 = true := by kernel_rfl
theorem wP_bg : wP_b.ge 100 = true := by kernel_rfl
theorem wP_same : wP_i.same wP_b = true := by kernel_rfl
theorem wP_Sb : wP_S.bel 102 = true := by kernel_rfl
theorem wP_fits : fitsC Try.f17.ntmps wP_c = true := by kernel_rfl
/-! wQ: letters [140, 141] [] [] [] -/
noncomputable def wQ_c : Code := (loopsOf (Try.f26.body.getD .skip))[0]?.getD .skip
def wQ_S : XS := ⟨[(5, (.sc (.i .i64 (.var 140)))), (4, (.sc (.i .u64 (.var 141)))), (3, (.sc (.i .i64 (.lit (0 : Int))))), (2, (.sc (.i .i64 (.lit (0 : Int))))), (0, (.sc (.s (.var 0))))], [], 4⟩
def wQ_Φ : Facts := [(.lt (.var 140) (.lit 0), false)]
def wQ_b : Bind := ⟨[(140, (.op .add .i64 (.var 140) (.lit (1 : Int)))), (141, (.op .mul .u64 (.op .xor .u64 (.var 141) (.op .conv .u64 (.byt (.var 0) (.var 140)) (.lit (0 : Int)))) (.lit (1099511628211 : Int))))], [], [], []⟩
def wQ_i : Bind := ⟨[(140, (.lit (0 : Int))), (141, (.lit (14695981039346656037 : Int)))], [], [], []⟩
def wQ_t : T (XE × XS) := (.br (.lt (.var 140) (.slen (.var 0))) (.ret (.normal, ⟨[(5, (.sc (.i .i64 (.op .add .i64 (.var 140) (.lit (1 : Int)))))), (4, (.sc (.i .u64 (.op .mul .u64 (.op .xor .u64 (.var 141) (.op .conv .u64 (.byt (.var 0) (.var 140)) (.lit (0 : Int)))) (.lit (1099511628211 : Int)))))), (3, (.sc (.i .i64 (.lit (0 : Int))))), (2, (.sc (.i .i64 (.lit (0 : Int))))), (0, (.sc (.s (.var 0))))], [], 19⟩)) (.ret ((.exit 0), ⟨[(5, (.sc (.i .i64 (.var 140)))), (4, (.sc (.i .u64 (.var 141)))), (3, (.sc (.i .i64 (.lit (0 : Int))))), (2, (.sc (.i .i64 (.lit (0 : Int))))), (0, (.sc (.s (.var 0))))], [], 8⟩)))
noncomputable def wQ : LoopX := ⟨((codeKey wQ_c).getD 0), 0, 140, wQ_S, wQ_i, [], wQ_t.outs⟩
set_option maxRecDepth 100000 in
theorem wQ_run : (codeX (cfgL ([]) (fun _ => [])).ti (callS ⟨(cfgL ([]) (fun _ => [])), l_able, []⟩ 12) (((cfgL ([]) (fun _ => [])).ft 26).elim [] (·.ms)) wQ.k0 ((fun _ => []) 26) 1000 wQ_c wQ_Φ wQ.S).map (sqz (wQ_S.t.map (·.1))) = wQ_t := by kernel_rfl
theorem wQ_back : wQ_t.nrm (okS wQ.k0 wQ.n wQ_b [] wQ.S) = true := by kernel_rfl
theorem wQ_bel : wQ_t.outs.belX 142 = true := by kernel_rfl
theorem wQ_ib : wQ_i.bel 140 = true := by kernel_rfl
theorem wQ_ig : wQ_i.ge 140 = true := by kernel_rfl
theorem wQ_bg : wQ_b.ge 140 = true := by kernel_rfl
theorem wQ_same : wQ_i.same wQ_b = true := by kernel_rfl
theorem wQ_Sb : wQ_S.bel 142 = true := by kernel_rfl
theorem wQ_fits : fitsC Try.f26.ntmps wQ_c = true := by kernel_rfl
end Go.Proofs.Ytegekgjjoojgdaa
