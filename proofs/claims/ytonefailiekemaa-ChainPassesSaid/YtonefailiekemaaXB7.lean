/- ChainPasses: the loop that sends is shown: what is durable has come to the second one's log. -/
import Derived.Test.YtonefailiekemaaXB6
import Derived.Test.YtonefailiekemaaXwM3
namespace Go.Proofs.Ytonefailiekemaa
open Go Go.Proofs.Aw Go.Proofs.Xw
set_option maxRecDepth 100000
/-- So much has come to the second log: it is what the first one begins with. -/
structure Snt (ρ : Rho) : Prop where
  l1 : 1 ≤ ρ.len 402
  l2 : (ρ.len 402 : Int) ≤ ρ.i 203
  e0 : ρ.i 400 = ρ.len 402
  e1 : ρ.i 401 = ρ.len 402
  e3 : ρ.i 403 = ρ.len 402
  e4 : ρ.i 404 = ρ.len 402
  e5 : ρ.i 405 = ρ.len 402
  eq : ∀ j, j < ρ.len 402 → cellsV ρ 402 0 ke j = cellsV ρ 201 0 ke j
def Rs (s : Nat) (ρ : Rho) : Prop := Lg ρ ∧ ((s = 0 ∧ ρ.b 902 = false) ∨ (s = 1 ∧ ρ.b 902 = true ∧ Snt ρ))
/-- At the end all is sent. -/
def Qs (s : Nat) (ρ : Rho) : Prop := Lg ρ ∧ ((s = 0 ∧ ρ.b 902 = false ∧ ρ.i 203 = 0) ∨ (s = 1 ∧ ρ.b 902 = true ∧ Snt ρ ∧ ρ.i 203 = ρ.len 402))
def Sp (s : Nat) : XS := match s with
  | 0 => pS0
  | _ => pS1
def Mp (s : Nat) (ρ : Rho) : Nat := match s with
  | 0 => 2 * ρ.len 201 + 1
  | _ => ρ.len 201 - ρ.len 402
theorem Lg.agree4 {ρ ρ' : Rho} (h : Agree 400 ρ ρ') (k : Lg ρ) : Lg ρ' := k.agree (h.le (by decide))
theorem LF_ok {ρ : Rho} (h : Lg ρ) : Facts.ok ρ LF := by
  obtain ⟨h1, h2, h3, h4, _⟩ := h
  refine Facts.ok_cons ?_ (Facts.ok_cons ?_ (Facts.ok_cons ?_ (Facts.ok_cons ?_ (Facts.ok_nil _))))
  all_goals (rw [dlt_f]; simp only [IE.den]; omega)
theorem k_den {ρ : Rho} (h0 : 0 ≤ ρ.i 401) (h1 : ρ.i 401 ≤ 256) : (IE.op .add .i64 (.var 401) (.lit 1)).den ρ = ρ.i 401 + 1 := by
  simp only [IE.den, IOp.den]; exact wrap_id _ (by omega) (by omega)
theorem j1_den {ρ : Rho} (h0 : 0 ≤ ρ.i 401) (h1 : ρ.i 401 ≤ 256) : j1.den ρ = ρ.i 401 := by
  unfold j1
  rw [IE.den, k_den h0 h1]
  simp only [IE.den, IOp.den]
  rw [wrap_id _ (by omega) (by omega)]
  omega
theorem eR_den (ρ : Rho) (j : IE) : X.denL ρ [eR j] = [.agg (cellsV ρ 201 0 ke (j.den ρ).toNat)] := rfl
theorem send_ok {ρ : Rho} {j : IE} (h : RE ρ) (hj : (j.den ρ).toNat < ρ.len 201) (hb : hasBody Try.prog 18 = true) : CfgOk Try.prog ρ (c2 j) :=
  cfgL_ok (List.forall_mem_cons.2 ⟨⟨hb, fun n hp => by
    rw [eR_den]
    exact h _ hj n hp⟩, List.forall_mem_nil _⟩) (fun _ _ _ => LpsOk.nil _ _ _ _)
theorem hb18 : hasBody Try.prog 18 = true := by
  obtain ⟨_, h, _⟩ := re_cy ⟨fun _ => 0, fun _ => false, fun _ => ⟨#[]⟩, fun _ => 0, fun _ _ _ => 0, fun _ _ _ => false, fun _ _ _ => ⟨#[]⟩⟩
  exact h
theorem mm (a b : Int) (h : a ≤ b) : min a b = a := Int.min_eq_left h
/-- The first write is sent. -/
theorem sendA {ρ : Rho} (hg : Lg ρ) (h : 1 ≤ ρ.i 203) : ∃ ρ', StepF Try.prog Try.f5.ntmps sC_c 0 pS0 (Sp 1) ρ ρ' ∧ Rs 1 ρ' ∧ Mp 1 ρ' < Mp 0 ρ ∧ Agree 400 ρ ρ' := by
  have hk := LF_ok hg
  have hl := hg.l1
  have hk2 : Facts.ok ρ (g0F ++ LF) := all_ok (Facts.ok_cons (by rw [dlt_t]; simp only [IE.den]; omega) (Facts.ok_cons (by rw [deq_f]; simp only [IE.den]; omega) (Facts.ok_cons (by rw [dlt_f]; simp only [IE.den]; omega) (Facts.ok_cons (by rw [dlt_f]; simp only [IE.den]; omega) (Facts.ok_cons (by rw [dlt_f]; simp only [IE.den]; omega) (Facts.ok_nil _)))))) hk
  have hcall : CallOk Try.prog ρ (callS ⟨c2 (.lit 0), l_able, HFL⟩ 12) := callS_ok (c := ⟨c2 (.lit 0), l_able, HFL⟩) (send_ok hg.re (by simp only [IE.den]; exact hl) hb18) l_able_ok 12
  have hs : (pRun (c2 (.lit 0)) g0F pS0).sel ρ = some (.normal, g0s) := by rw [g0_run]; rfl
  have ag : Agree 400 ρ (g0b.ap ρ) := Bind.agree g0_g ρ
  have hl4 : (g0b.ap ρ).len 402 = 1 := by rw [ap_len g0_r]; rfl
  have a203 : (g0b.ap ρ).i 203 = ρ.i 203 := (ag.i 203 (by decide)).symm
  have d1 : (IE.op .max .i64 (.lit 0) (.op .min .i64 (.lit 1) (.var 203))).den ρ = 1 := by
    simp only [IE.den, IOp.den]; rw [mm _ _ h]; rfl
  refine ⟨g0b.ap ρ, stepF_of mixed tis_ok hcall (LpsOk.nil _ _ _ _) p_fits hk2 rfl hs g0_ok, ⟨hg.agree4 ag, .inr ⟨rfl, by rw [ap_b g0_b]; rfl, ⟨?_, ?_, ?_, ?_, ?_, ?_, ?_, ?_⟩⟩⟩, ?_, ag⟩
  · omega
  · omega
  · rw [ap_i g0_400, hl4]; rfl
  · rw [ap_i g0_401, hl4, d1]; rfl
  · rw [ap_i g0_403, hl4, d1]; rfl
  · rw [ap_i g0_404, hl4]; rfl
  · rw [ap_i g0_405, hl4]; rfl
  · intro j hj
    obtain rfl : j = 0 := by omega
    rw [Bind.rows g0_r (by kernel_rfl), ← cellsV_agree ag (by decide)]
    show scL ρ (cellsG 201 (.lit 0) 0 ke) = _
    rw [cellsG_den]
    rfl
  · show (g0b.ap ρ).len 201 - (g0b.ap ρ).len 402 < 2 * ρ.len 201 + 1
    rw [← ag.len 201 (by decide)]
    omega
/-- A further write is sent. -/
theorem sendB {ρ : Rho} (hg : Lg ρ) (hq : Snt ρ) (h : (ρ.len 402 : Int) < ρ.i 203) : ∃ ρ', StepF Try.prog Try.f5.ntmps sC_c 0 pS1 (Sp 1) ρ ρ' ∧ Rs 1 ρ' ∧ Mp 1 ρ' < Mp 1 ρ ∧ Agree 400 ρ ρ' := by
  have hk := LF_ok hg
  obtain ⟨q1, q2, q3, q4, q5, q6, q7, q8⟩ := hq
  obtain ⟨l1, l2, d0, d1, re⟩ := hg
  have k0 : 0 ≤ ρ.i 401 := by omega
  have k1 : ρ.i 401 ≤ 256 := by omega
  have kd := k_den k0 k1
  have jd := j1_den k0 k1
  have pl : (IE.op .add .i64 (.len 402) (.lit 1)).den ρ = ρ.len 402 + 1 := by simp only [IE.den, IOp.den]; exact wrap_id _ (by omega) (by omega)
  have hk2 : Facts.ok ρ (g1F ++ LF) := by
    refine all_ok (Facts.ok_cons ?_ (Facts.ok_cons ?_ (Facts.ok_cons ?_ (Facts.ok_cons ?_ (Facts.ok_cons ?_ (Facts.ok_cons ?_ (Facts.ok_cons ?_ (Facts.ok_cons ?_ (Facts.ok_cons ?_ (Facts.ok_cons ?_ (Facts.ok_cons ?_ (Facts.ok_cons ?_ (Facts.ok_nil _))))))))))))) hk
    · rw [dlt_f]; simp only [IE.den]; omega
    · rw [dlt_f]; simp only [IE.den]; omega
    · rw [dlt_f]; simp only [IE.den]; omega
    · rw [dlt_f]; simp only [IE.den]; omega
    · rw [deq_f]; simp only [IE.den]; omega
    · rw [dlt_t]; simp only [IE.den]; omega
    · rw [dlt_f, kd]; simp only [IE.den]; omega
    · rw [dlt_f, kd]; simp only [IE.den]; omega
    · rw [deq_t, kd, pl]; omega
    · rw [dlt_t]; simp only [IE.den]; omega
    · rw [dlt_f, kd]; simp only [IE.den]; omega
    · rw [dlt_t]; simp only [IE.den]; omega
  have hcall : CallOk Try.prog ρ (callS ⟨c2 j1, l_able, HFL⟩ 12) := callS_ok (c := ⟨c2 j1, l_able, HFL⟩) (send_ok re (by rw [jd]; omega) hb18) l_able_ok 12
  have hs : (pRun (c2 j1) g1F pS1).sel ρ = some (.normal, g1s) := by rw [g1_run]; rfl
  have ag : Agree 400 ρ (g1b.ap ρ) := Bind.agree g1_g ρ
  have pp : (IE.op .padd .i64 (.len 402) (.lit 1)).den ρ = ρ.len 402 + 1 := by simp only [IE.den, IOp.den]
  have hl4 : (g1b.ap ρ).len 402 = ρ.len 402 + 1 := by rw [ap_len g1_r, pp]; omega
  have a203 : (g1b.ap ρ).i 203 = ρ.i 203 := (ag.i 203 (by decide)).symm
  have mn : (IE.op .min .i64 (.op .padd .i64 (.len 402) (.lit 1)) (.var 203)).den ρ = ρ.len 402 + 1 := by
    rw [IE.den, pp]; simp only [IE.den, IOp.den]; exact mm _ _ (by omega)
  have mx : ∀ k, ρ.i k = ρ.len 402 → (IE.op .max .i64 (.var k) (.op .min .i64 (.op .padd .i64 (.len 402) (.lit 1)) (.var 203))).den ρ = ρ.len 402 + 1 := fun k hk => by
    rw [IE.den, mn]; simp only [IE.den, IOp.den, hk]; exact Int.max_eq_right (by omega)
  refine ⟨g1b.ap ρ, stepF_of mixed tis_ok hcall (LpsOk.nil _ _ _ _) p_fits hk2 rfl hs g1_ok, ⟨Lg.agree4 ag ⟨l1, l2, d0, d1, re⟩, .inr ⟨rfl, by rw [ap_b g1_b]; rfl, ⟨?_, ?_, ?_, ?_, ?_, ?_, ?_, ?_⟩⟩⟩, ?_, ag⟩
  · omega
  · omega
  · rw [ap_i g1_400, hl4]
    simp only [IE.den, IOp.den]
    rw [wrap_id _ (by omega) (by omega)]; omega
  · rw [ap_i g1_401, hl4, mx _ q4]; omega
  · rw [ap_i g1_403, hl4, mx _ q5]; omega
  · rw [ap_i g1_404, hl4, pp]; omega
  · rw [ap_i g1_405, hl4, pp]; omega
  · intro j hj
    rw [Bind.rows g1_r (by kernel_rfl), ← cellsV_agree ag (by decide), row_app]
    split
    · rename_i hlt
      have : j < ρ.len 402 := by simp only [IE.den] at hlt; omega
      exact q8 j this
    · rename_i hlt
      have : j = ρ.len 402 := by simp only [IE.den] at hlt; omega
      show scL ρ (cellsG 201 j1 0 ke) = _
      rw [cellsG_den, jd, q4, this, Int.toNat_natCast]
  · show (g1b.ap ρ).len 201 - (g1b.ap ρ).len 402 < ρ.len 201 - ρ.len 402
    rw [← ag.len 201 (by decide)]
    omega
theorem sent_end {ρ : Rho} {Φ : Facts} {S s o : XS} (hk : Facts.ok ρ (Φ ++ LF)) (hs : pRun cE Φ S = .ret (.exit 2, s)) (ho : cS.out.sel ρ = some (.exit 2, o)) (h : okS 0 1000 noB [] o s = true) : EndL Try.prog Try.f5.ntmps sC_c 0 S cS.out ρ := by
  have hsel : (pRun cE Φ S).sel ρ = some (.exit 2, s) := by rw [hs]; rfl
  exact endF_of (e := .exit 2) mixed tis_ok (callC HFL ρ) (LpsOk.nil _ _ _ _) p_fits hk rfl (fun h => nomatch h) hsel ⟨o, ho, fun E hb => okS_imp hb h ρ⟩
theorem sout0 {ρ : Rho} (h9 : ρ.b 902 = false) : cS.out.sel ρ = some (.exit 2, q0) := by
  show (T.br (.var 902) _ _).sel ρ = _
  rw [T.sel, if_neg (by simp [BE.den, h9])]; rfl
theorem sout1 {ρ : Rho} (h9 : ρ.b 902 = true) : cS.out.sel ρ = some (.exit 2, q1) := by
  show (T.br (.var 902) _ _).sel ρ = _
  rw [T.sel, if_pos (by simp [BE.den, h9])]; rfl
theorem cS_ok (ρ : Rho) (hg : Lg ρ) : ∃ i ρf, Agree 400 ρ ρf ∧ Qs i ρf ∧ LoopOk Try.prog ρf Try.f5.ntmps sC_c cS := by
  have ag0 : Agree 400 ρ (Bind.ap ⟨[], [(902, .lit false)], [], []⟩ ρ) := Bind.agree rfl ρ
  refine loopOk_famE (L := cS) rfl pS0_b Sp Rs Qs Mp ?_ ⟨0, _, ag0, ⟨hg.agree4 ag0, .inl ⟨rfl, rfl⟩⟩, fun E _ hE => ?_⟩
  · rintro i ρ ⟨hL, ⟨rfl, h9⟩ | ⟨rfl, h9, hq⟩⟩
    · by_cases hi : 1 ≤ ρ.i 203
      · obtain ⟨ρ', h1, h2, h3, h4⟩ := sendA hL hi
        exact .inr ⟨1, ρ', h1, h2, h3, h4⟩
      · have hz : ρ.i 203 = 0 := by have := hL.d0; omega
        exact .inl ⟨ρ, Agree.refl _ _, ⟨hL, .inl ⟨rfl, h9, hz⟩⟩, rfl, sent_end (all_ok (Facts.ok_cons (by rw [deq_t]; exact hz) (Facts.ok_nil _)) (LF_ok hL)) n0_run (sout0 h9) n0_ok⟩
    · by_cases hi : (ρ.len 402 : Int) < ρ.i 203
      · obtain ⟨ρ', h1, h2, h3, h4⟩ := sendB hL hq hi
        exact .inr ⟨1, ρ', h1, h2, h3, h4⟩
      · have he : ρ.i 203 = ρ.len 402 := by have := hq.l2; omega
        refine .inl ⟨ρ, Agree.refl _ _, ⟨hL, .inr ⟨rfl, h9, hq, he⟩⟩, rfl, sent_end (all_ok ?_ (LF_ok hL)) n1_run (sout1 h9) n1_ok⟩
        obtain ⟨q1, q2, q3, q4, q5, q6, q7, q8⟩ := hq
        obtain ⟨l1, l2, d0, d1, re⟩ := hL
        refine Facts.ok_cons ?_ (Facts.ok_cons ?_ (Facts.ok_cons ?_ (Facts.ok_cons ?_ (Facts.ok_cons ?_ (Facts.ok_cons ?_ (Facts.ok_cons ?_ (Facts.ok_nil _)))))))
        · rw [dlt_f]; simp only [IE.den]; omega
        · rw [dlt_f]; simp only [IE.den]; omega
        · rw [dlt_f]; simp only [IE.den]; omega
        · rw [dlt_f]; simp only [IE.den]; omega
        · rw [deq_f]; simp only [IE.den]; omega
        · rw [dlt_f]; simp only [IE.den]; omega
        · rw [dlt_f]; simp only [IE.den]; omega
  · show Imp E (pS0.den ρ) (pS0.den _)
    rw [← XS.bel_den ag0 pS0 pS0_b]
    exact okS_imp hE (show okS 0 1000 noB [] pS0 pS0 = true by kernel_rfl) ρ
end Go.Proofs.Ytonefailiekemaa
