/- ChainLearns, loop d: the loop that sends is shown: all has come to the second one's log. -/
import Derived.Test.YtonefailiekemaaXCsd
namespace Go.Proofs.Ytonefailiekemaa.Ld
open Go Go.Proofs.Aw Go.Proofs.Xw
set_option maxRecDepth 100000
structure Hy (ρ : Rho) : Prop where
  lg : Lb.Lg ρ
theorem Hy.agree {ρ ρ' : Rho} (h : Agree 1000 ρ ρ') (k : Hy ρ) : Hy ρ' :=
  ⟨k.lg.agree h (by decide)⟩
/-- So much has come to the second log: it is what the first one begins with. -/
structure Snt (ρ : Rho) : Prop where
  l1 : 1 ≤ ρ.len 1002
  l2 : ρ.len 1002 ≤ ρ.len 601
  e0 : ρ.i 1000 = ρ.len 1002
  e1 : ρ.i 1001 = ρ.len 1002
  e3 : ρ.i 1003 = max (0 : Int) (ρ.len 1002 : Int)
  e4 : ρ.i 1004 = ρ.len 1002
  eq : ∀ j, j < ρ.len 1002 → cellsV ρ 1002 0 ke j = cellsV ρ 601 0 ke j
def Rs (s : Nat) (ρ : Rho) : Prop := Hy ρ ∧ (s = 0 ∨ (s = 1 ∧ Snt ρ))
/-- At the end all is sent. -/
def Qs (_ : Nat) (ρ : Rho) : Prop := Hy ρ ∧ Snt ρ ∧ ρ.len 1002 = ρ.len 601
def Sp (s : Nat) : XS := match s with
  | 0 => pS0
  | _ => pS1
def Mp (s : Nat) (ρ : Rho) : Nat := match s with
  | 0 => 2 * ρ.len 601 + 1
  | _ => ρ.len 601 - ρ.len 1002
theorem LF_ok {ρ : Rho} (h : Hy ρ) : Facts.ok ρ LF := by
  have h1 := h.lg.l1
  have h2 := h.lg.l2
  refine Facts.ok_cons ?_ (Facts.ok_cons ?_ (Facts.ok_nil _))
  all_goals (rw [dlt_f]; simp only [IE.den]; omega)
theorem k_den {ρ : Rho} (h0 : 0 ≤ ρ.i 1001) (h1 : ρ.i 1001 ≤ 256) : (IE.op .add .i64 (.var 1001) (.lit 1)).den ρ = ρ.i 1001 + 1 := by
  simp only [IE.den, IOp.den]; exact wrap_id _ (by omega) (by omega)
theorem j1_den {ρ : Rho} (h0 : 0 ≤ ρ.i 1001) (h1 : ρ.i 1001 ≤ 256) : j1.den ρ = ρ.i 1001 := by
  unfold j1
  rw [IE.den, k_den h0 h1]
  simp only [IE.den, IOp.den]
  rw [wrap_id _ (by omega) (by omega)]
  omega
theorem eR_den (ρ : Rho) (j : IE) : X.denL ρ [eR j] = [.agg (cellsV ρ 601 0 ke (j.den ρ).toNat)] := rfl
theorem send_ok {ρ : Rho} {j : IE} (h : Lb.Lg ρ) (hj : (j.den ρ).toNat < ρ.len 601) : CfgOk Try.prog ρ (c2 j) :=
  cfgL_ok (List.forall_mem_cons.2 ⟨⟨hb18, fun n hp => by
    rw [eR_den]
    exact h.re _ hj n hp⟩, List.forall_mem_nil _⟩) (fun _ _ _ => LpsOk.nil _ _ _ _)
theorem a0_den {ρ : Rho} (h : 1 ≤ ρ.len 601) : a0E.den ρ = 1 := by
  simp only [a0E, IE.den, IOp.den]; omega
theorem s0_den {ρ : Rho} (h : 1 ≤ ρ.len 601) : s0E.den ρ = max (0 : Int) 1 := by
  simp only [s0E, IE.den, IOp.den]; omega
theorem g0_c {ρ : Rho} (h : 1 ≤ ρ.len 601) : g0c.den ρ = false := by
  simp only [g0c, dor_f, dnot_f, dlt_f, deq_t, IE.den, IOp.den]; omega
/-- The first write is sent. -/
theorem sendA {ρ : Rho} (hg : Hy ρ) : ∃ ρ', StepF Try.prog Try.f8.ntmps sC_c 0 pS0 (Sp 1) ρ ρ' ∧ Rs 1 ρ' ∧ Mp 1 ρ' < Mp 0 ρ ∧ Agree 1000 ρ ρ' := by
  have hl := hg.lg.l1
  have hk2 : Facts.ok ρ (g0F ++ LF) := all_ok (Facts.ok_nil _) (LF_ok hg)
  have hcall : CallOk Try.prog ρ (callS ⟨c2 (.lit 0), l_able, HFL⟩ 12) := callS_ok (c := ⟨c2 (.lit 0), l_able, HFL⟩) (send_ok hg.lg (by simp only [IE.den]; exact hl)) l_able_ok 12
  have hs : (pRun (c2 (.lit 0)) g0F pS0).sel ρ = some (.normal, g0s) := by rw [g0_run, T.sel, if_neg (by rw [g0_c hl]; decide)]; rfl
  have ag : Agree 1000 ρ (g0b.ap ρ) := Bind.agree g0_g ρ
  have hl4 : (g0b.ap ρ).len 1002 = 1 := by rw [ap_len g0_r]; rfl
  have l6 : (g0b.ap ρ).len 601 = ρ.len 601 := (ag.len 601 (by decide)).symm
  refine ⟨g0b.ap ρ, stepF_of mixed tis_ok hcall (LpsOk.nil _ _ _ _) p_fits hk2 rfl hs g0_ok, ⟨hg.agree ag, .inr ⟨rfl, ⟨?_, ?_, ?_, ?_, ?_, ?_, ?_⟩⟩⟩, ?_, ag⟩
  · omega
  · omega
  · rw [ap_i g0_1000, hl4]; rfl
  · rw [ap_i g0_1001, hl4, a0_den hl]; rfl
  · rw [ap_i g0_1003, hl4, s0_den hl]; rfl
  · rw [ap_i g0_1004, hl4]; rfl
  · intro j hj
    obtain rfl : j = 0 := by omega
    rw [Bind.rows g0_r (by kernel_rfl), ← cellsV_agree ag (by decide)]
    show scL ρ (cellsG 601 (.lit 0) 0 ke) = _
    rw [cellsG_den]
    rfl
  · show (g0b.ap ρ).len 601 - (g0b.ap ρ).len 1002 < 2 * ρ.len 601 + 1
    omega
theorem a1_den {ρ : Rho} (hq : Snt ρ) (h : ρ.len 1002 < ρ.len 601) : a1E.den ρ = ρ.len 1002 + 1 := by
  have := hq.e1
  simp only [a1E, IE.den, IOp.den]; omega
theorem s1_den {ρ : Rho} (hq : Snt ρ) (h : ρ.len 1002 < ρ.len 601) : s1E.den ρ = max (0 : Int) (ρ.len 1002 + 1) := by
  have := hq.e3
  simp only [s1E, IE.den, IOp.den]; omega
theorem g1_c {ρ : Rho} (hq : Snt ρ) (h : ρ.len 1002 < ρ.len 601) : g1c.den ρ = false := by
  have := hq.e3
  have := hq.e1
  simp only [g1c, dor_f, dnot_f, dlt_f, deq_t, IE.den, IOp.den]; omega
/-- A further write is sent. -/
theorem sendB {ρ : Rho} (hg : Hy ρ) (hq : Snt ρ) (h : ρ.len 1002 < ρ.len 601) : ∃ ρ', StepF Try.prog Try.f8.ntmps sC_c 0 pS1 (Sp 1) ρ ρ' ∧ Rs 1 ρ' ∧ Mp 1 ρ' < Mp 1 ρ ∧ Agree 1000 ρ ρ' := by
  have hk := LF_ok hg
  have ad := a1_den hq h
  have sd := s1_den hq h
  have gc := g1_c hq h
  obtain ⟨q1, q2, q3, q4, q5, q6, q8⟩ := hq
  have l1 := hg.lg.l1
  have l2 := hg.lg.l2
  have k0 : 0 ≤ ρ.i 1001 := by omega
  have k1 : ρ.i 1001 ≤ 256 := by omega
  have kd := k_den k0 k1
  have jd := j1_den k0 k1
  have pl : (IE.op .add .i64 (.len 1002) (.lit 1)).den ρ = ρ.len 1002 + 1 := by simp only [IE.den, IOp.den]; exact wrap_id _ (by omega) (by omega)
  have pp : (IE.op .padd .i64 (.len 1002) (.lit 1)).den ρ = ρ.len 1002 + 1 := by simp only [IE.den, IOp.den]
  have hk2 : Facts.ok ρ (g1F ++ LF) := by
    refine all_ok (Facts.ok_cons ?_ (Facts.ok_cons ?_ (Facts.ok_cons ?_ (Facts.ok_cons ?_ (Facts.ok_cons ?_ (Facts.ok_cons ?_ (Facts.ok_cons ?_ (Facts.ok_cons ?_ (Facts.ok_cons ?_ (Facts.ok_cons ?_ (Facts.ok_nil _))))))))))) hk
    · rw [dlt_f]; simp only [IE.den]; omega
    · rw [dlt_t]; simp only [IE.den]; omega
    · rw [dlt_f]; simp only [IE.den]; omega
    · rw [dlt_f]; simp only [IE.den]; omega
    · rw [dlt_t]; simp only [IE.den]; omega
    · rw [dlt_f, kd]; simp only [IE.den]; omega
    · rw [dlt_f, kd]; simp only [IE.den]; omega
    · rw [deq_t, kd, pl]; omega
    · rw [dlt_t]; simp only [IE.den]; omega
    · rw [dlt_f, pp]; simp only [IE.den]; omega
  have hcall : CallOk Try.prog ρ (callS ⟨c2 j1, l_able, HFL⟩ 12) := callS_ok (c := ⟨c2 j1, l_able, HFL⟩) (send_ok hg.lg (by rw [jd]; omega)) l_able_ok 12
  have hs : (pRun (c2 j1) g1F pS1).sel ρ = some (.normal, g1s) := by rw [g1_run, T.sel, if_neg (by rw [gc]; decide)]; rfl
  have ag : Agree 1000 ρ (g1b.ap ρ) := Bind.agree g1_g ρ
  have hl4 : (g1b.ap ρ).len 1002 = ρ.len 1002 + 1 := by rw [ap_len g1_r, pp]; omega
  have l6 : (g1b.ap ρ).len 601 = ρ.len 601 := (ag.len 601 (by decide)).symm
  refine ⟨g1b.ap ρ, stepF_of mixed tis_ok hcall (LpsOk.nil _ _ _ _) p_fits hk2 rfl hs g1_ok, ⟨hg.agree ag, .inr ⟨rfl, ⟨?_, ?_, ?_, ?_, ?_, ?_, ?_⟩⟩⟩, ?_, ag⟩
  · omega
  · omega
  · rw [ap_i g1_1000, hl4]
    simp only [IE.den, IOp.den]
    rw [wrap_id _ (by omega) (by omega)]; omega
  · rw [ap_i g1_1001, hl4, ad]; omega
  · rw [ap_i g1_1003, hl4, sd]; omega
  · rw [ap_i g1_1004, hl4, pp]; omega
  · intro j hj
    rw [Bind.rows g1_r (by kernel_rfl), ← cellsV_agree ag (by decide), row_app]
    split
    · rename_i hlt
      have : j < ρ.len 1002 := by simp only [IE.den] at hlt; omega
      exact q8 j this
    · rename_i hlt
      have : j = ρ.len 1002 := by simp only [IE.den] at hlt; omega
      show scL ρ (cellsG 601 j1 0 ke) = _
      rw [cellsG_den, jd, q4, this, Int.toNat_natCast]
  · show (g1b.ap ρ).len 601 - (g1b.ap ρ).len 1002 < ρ.len 601 - ρ.len 1002
    omega
theorem cS_ok (ρ : Rho) (hg : Hy ρ) : ∃ i ρf, Agree 1000 ρ ρf ∧ Qs i ρf ∧ LoopOk Try.prog ρf Try.f8.ntmps sC_c cS := by
  refine loopOk_famE (L := cS) rfl pS0_b Sp Rs Qs Mp ?_ ⟨0, ρ, Agree.refl _ _, ⟨hg, .inl rfl⟩, fun E _ hE => okS_imp hE (show okS 0 9000 noB [] pS0 pS0 = true by kernel_rfl) ρ⟩
  rintro i ρ ⟨hL, rfl | ⟨rfl, hq⟩⟩
  · obtain ⟨ρ', h1, h2, h3, h4⟩ := sendA hL
    exact .inr ⟨1, ρ', h1, h2, h3, h4⟩
  · by_cases hi : ρ.len 1002 < ρ.len 601
    · obtain ⟨ρ', h1, h2, h3, h4⟩ := sendB hL hq hi
      exact .inr ⟨1, ρ', h1, h2, h3, h4⟩
    · have he : ρ.len 1002 = ρ.len 601 := by have := hq.l2; omega
      have hsel : (pRun cE n1F pS1).sel ρ = some (.exit 4, n1s) := by rw [n1_run]; rfl
      have e0 := hq.e0
      exact .inl ⟨ρ, Agree.refl _ _, ⟨hL, hq, he⟩, rfl, endF_of (e := .exit 4) mixed tis_ok (callC HFL ρ) (LpsOk.nil _ _ _ _) p_fits (all_ok (Facts.ok_cons (by rw [dlt_f]; simp only [IE.den]; omega) (Facts.ok_nil _)) (LF_ok hL)) rfl (fun h => nomatch h) hsel ⟨q1, rfl, fun E hb => okS_imp hb n1_ok ρ⟩⟩
end Go.Proofs.Ytonefailiekemaa.Ld
