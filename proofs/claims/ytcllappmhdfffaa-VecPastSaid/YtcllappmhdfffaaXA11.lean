/- VecPast: whatever the list, the law's call returns true. -/
import Derived.Test.YtcllappmhdfffaaXA10
import Derived.Test.YtcllappmhdfffaaXwM2
namespace Go.Proofs.Ytcllappmhdfffaa
open Go Go.Proofs.Aw Go.Proofs.Xw
set_option linter.unusedSimpArgs false
set_option linter.unusedVariables false
set_option maxRecDepth 100000
theorem vpcall (ρ' : Rho) : CallOk Try.prog ρ' (callS ⟨cfgL [] (fun _ => []), l_able14, []⟩ 12) := callS_ok (cfg_ok (List.forall_mem_nil _)) l_able14_ok 12
noncomputable def vpA (ρ : Rho) : Rho := fin pA_i pA_b 0 ρ
theorem vpokA (ρ : Rho) (h : ρ.len 0 < 4611686018427387904) (hk : Facts.ok ρ []) : LoopOk Try.prog (fin pA_i pA_b 0 ρ) Try.f32.ntmps pA_c pA :=
  loopOk_cnt mixed tis_ok pA_run pA_fits pA_back rfl 210 pA_bel pA_ib pA_bg pA_same (I := 200) (l := 0) rfl (by intro h; cases h) rfl rfl (by kernel_rfl) (Φ0 := []) rfl (by kernel_rfl) hk pA_ig h vpcall (fun _ => LpsOk.nil _ _ _ _)
theorem vpagA (ρ : Rho) : Agree 200 ρ (vpA ρ) := fin_agree pA_ig pA_bg 0 _
noncomputable def vpB (ρ : Rho) : Rho := fin pB_i pB_b 0 (vpA ρ)
theorem vpokB (ρ : Rho) (h : ρ.len 0 < 4611686018427387904) (hk : Facts.ok ρ []) : LoopOk Try.prog (fin pB_i pB_b 0 ρ) Try.f32.ntmps pB_c pB :=
  loopOk_cnt mixed tis_ok pB_run pB_fits pB_back rfl 230 pB_bel pB_ib pB_bg pB_same (I := 220) (l := 0) rfl (by intro h; cases h) rfl rfl (by kernel_rfl) (Φ0 := []) rfl (by kernel_rfl) hk pB_ig h vpcall (fun _ => LpsOk.nil _ _ _ _)
theorem vpagB (ρ : Rho) : Agree 220 (vpA ρ) (vpB ρ) := fin_agree pB_ig pB_bg 0 _
noncomputable def vpC (ρ : Rho) : Rho := fin qA_i qA_b 0 (vpB ρ)
theorem vpokC (ρ : Rho) (h : ρ.len 0 < 4611686018427387904) (hk : Facts.ok ρ []) : LoopOk Try.prog (fin qA_i qA_b 0 ρ) Try.f33.ntmps qA_c qA :=
  loopOk_cnt mixed tis_ok qA_run qA_fits qA_back rfl 244 qA_bel qA_ib qA_bg qA_same (I := 240) (l := 0) rfl (by intro h; cases h) rfl rfl (by kernel_rfl) (Φ0 := []) rfl (by kernel_rfl) hk qA_ig h vpcall (fun _ => LpsOk.nil _ _ _ _)
theorem vpagC (ρ : Rho) : Agree 240 (vpB ρ) (vpC ρ) := fin_agree qA_ig qA_bg 0 _
noncomputable def vpD (ρ : Rho) : Rho := fin pC_i pC_b 0 (vpC ρ)
theorem vpokD (ρ : Rho) (h : ρ.len 0 < 4611686018427387904) (hk : Facts.ok ρ []) : LoopOk Try.prog (fin pC_i pC_b 0 ρ) Try.f34.ntmps pC_c pC :=
  loopOk_cnt mixed tis_ok pC_run pC_fits pC_back rfl 270 pC_bel pC_ib pC_bg pC_same (I := 260) (l := 0) rfl (by intro h; cases h) rfl rfl (by kernel_rfl) (Φ0 := []) rfl (by kernel_rfl) hk pC_ig h vpcall (fun _ => LpsOk.nil _ _ _ _)
theorem vpagD (ρ : Rho) : Agree 260 (vpC ρ) (vpD ρ) := fin_agree pC_ig pC_bg 0 _
noncomputable def vpE (ρ : Rho) : Rho := fin qC_i qC_b 0 (vpD ρ)
theorem vpokE (ρ : Rho) (h : ρ.len 0 < 4611686018427387904) (hk : Facts.ok ρ []) : LoopOk Try.prog (fin qC_i qC_b 0 ρ) Try.f35.ntmps qC_c qC :=
  loopOk_cnt mixed tis_ok qC_run qC_fits qC_back rfl 284 qC_bel qC_ib qC_bg qC_same (I := 280) (l := 0) rfl (by intro h; cases h) rfl rfl (by kernel_rfl) (Φ0 := []) rfl (by kernel_rfl) hk qC_ig h vpcall (fun _ => LpsOk.nil _ _ _ _)
theorem vpagE (ρ : Rho) : Agree 280 (vpD ρ) (vpE ρ) := fin_agree qC_ig qC_bg 0 _
noncomputable def vpF (ρ : Rho) : Rho := fin rA_i rA_b 0 (vpE ρ)
theorem vpokF (ρ : Rho) (h : ρ.len 0 < 4611686018427387904) (hk : Facts.ok ρ limP) : LoopOk Try.prog (fin rA_i rA_b 0 ρ) Try.f10.ntmps rA_c rA :=
  loopOk_cnt mixed tis_ok rA_run rA_fits rA_back rfl 301 rA_bel rA_ib rA_bg rA_same (I := 300) (l := 0) rfl (by intro h; cases h) rfl rfl (by kernel_rfl) (Φ0 := limP) rfl (by kernel_rfl) hk rA_ig h vpcall (fun _ => LpsOk.nil _ _ _ _)
theorem vpagF (ρ : Rho) : Agree 300 (vpE ρ) (vpF ρ) := fin_agree rA_ig rA_bg 0 _
theorem vpzA (ρ : Rho) : Agree 100 ρ (vpA ρ) := (vpagA ρ).le (by omega)
theorem vpzB (ρ : Rho) : Agree 100 ρ (vpB ρ) := (vpzA ρ).trans ((vpagB ρ).le (by omega))
theorem vpzC (ρ : Rho) : Agree 100 ρ (vpC ρ) := (vpzB ρ).trans ((vpagC ρ).le (by omega))
theorem vpzD (ρ : Rho) : Agree 100 ρ (vpD ρ) := (vpzC ρ).trans ((vpagD ρ).le (by omega))
theorem vpzE (ρ : Rho) : Agree 100 ρ (vpE ρ) := (vpzD ρ).trans ((vpagE ρ).le (by omega))
theorem vpzF (ρ : Rho) : Agree 100 ρ (vpF ρ) := (vpzE ρ).trans ((vpagF ρ).le (by omega))
theorem vpeE (ρ : Rho) : Agree 300 (vpE ρ) (vpF ρ) := vpagF ρ
theorem vpeD (ρ : Rho) : Agree 280 (vpD ρ) (vpF ρ) := (vpagE ρ).trans ((vpeE ρ).le (by omega))
theorem vpeC (ρ : Rho) : Agree 260 (vpC ρ) (vpF ρ) := (vpagD ρ).trans ((vpeD ρ).le (by omega))
theorem vpeB (ρ : Rho) : Agree 240 (vpB ρ) (vpF ρ) := (vpagC ρ).trans ((vpeC ρ).le (by omega))
theorem vpeA (ρ : Rho) : Agree 220 (vpA ρ) (vpF ρ) := (vpagB ρ).trans ((vpeB ρ).le (by omega))
theorem vpeF (ρ : Rho) : Agree 301 (vpF ρ) (vpF ρ) := Agree.refl _ _
theorem past_lim (ρ : Rho) (hk : Facts.ok ρ limP) : CY Try.prog 0 10 (X.denL ρ [esR, iv 0]) [] (.sc (.bool true)) [] := by
  have h0 : ρ.len 0 ≤ 20000 := by
    have : decide ((20000 : Int) < (ρ.len 0 : Nat)) = false := hk (.lt (.lit 20000) (.len 0), false) (by simp [limP])
    have := of_decide_eq_false this
    omega
  have l0 : ∀ {σ : Rho}, Agree 100 ρ σ → σ.len 0 < 4611686018427387904 := fun h => by rw [← h.len 0 (by omega)]; omega
  have e0 : ∀ {σ : Rho}, Agree 100 ρ σ → σ.len 0 = ρ.len 0 := fun h => (h.len 0 (by omega)).symm
  have kk : ∀ {σ : Rho}, Agree 100 ρ σ → Facts.ok σ limP := fun h => Facts.bel_ok h (by kernel_rfl) hk
  have g_pA : LoopOk Try.prog (vpF ρ) Try.f32.ntmps pA_c pA := LoopOk.agree pA_Sb (B := 210) (by kernel_rfl) pA_bel ((vpeA ρ).le (by omega)) (vpokA ρ (l0 (Agree.refl 100 ρ)) (Facts.ok_nil _))
  have c_pA : (vpF ρ).i 200 = ρ.len 0 := by rw [← (vpeA ρ).i 200 (by omega), ← e0 (Agree.refl 100 ρ)]; exact fin_count rfl rfl 0 ρ (l0 (Agree.refl 100 ρ))
  have g_pB : LoopOk Try.prog (vpF ρ) Try.f32.ntmps pB_c pB := LoopOk.agree pB_Sb (B := 230) (by kernel_rfl) pB_bel ((vpeB ρ).le (by omega)) (vpokB (vpA ρ) (l0 (vpzA ρ)) (Facts.ok_nil _))
  have c_pB : (vpF ρ).i 220 = ρ.len 0 := by rw [← (vpeB ρ).i 220 (by omega), ← e0 (vpzA ρ)]; exact fin_count rfl rfl 0 (vpA ρ) (l0 (vpzA ρ))
  have g_qA : LoopOk Try.prog (vpF ρ) Try.f33.ntmps qA_c qA := LoopOk.agree qA_Sb (B := 244) (by kernel_rfl) qA_bel ((vpeC ρ).le (by omega)) (vpokC (vpB ρ) (l0 (vpzB ρ)) (Facts.ok_nil _))
  have c_qA : (vpF ρ).i 240 = ρ.len 0 := by rw [← (vpeC ρ).i 240 (by omega), ← e0 (vpzB ρ)]; exact fin_count rfl rfl 0 (vpB ρ) (l0 (vpzB ρ))
  have g_pC : LoopOk Try.prog (vpF ρ) Try.f34.ntmps pC_c pC := LoopOk.agree pC_Sb (B := 270) (by kernel_rfl) pC_bel ((vpeD ρ).le (by omega)) (vpokD (vpC ρ) (l0 (vpzC ρ)) (Facts.ok_nil _))
  have c_pC : (vpF ρ).i 260 = ρ.len 0 := by rw [← (vpeD ρ).i 260 (by omega), ← e0 (vpzC ρ)]; exact fin_count rfl rfl 0 (vpC ρ) (l0 (vpzC ρ))
  have g_qC : LoopOk Try.prog (vpF ρ) Try.f35.ntmps qC_c qC := LoopOk.agree qC_Sb (B := 284) (by kernel_rfl) qC_bel ((vpeE ρ).le (by omega)) (vpokE (vpD ρ) (l0 (vpzD ρ)) (Facts.ok_nil _))
  have c_qC : (vpF ρ).i 280 = ρ.len 0 := by rw [← (vpeE ρ).i 280 (by omega), ← e0 (vpzD ρ)]; exact fin_count rfl rfl 0 (vpD ρ) (l0 (vpzD ρ))
  have g_rA : LoopOk Try.prog (vpF ρ) Try.f10.ntmps rA_c rA := LoopOk.agree rA_Sb (B := 301) (by kernel_rfl) rA_bel ((vpeF ρ).le (by omega)) (vpokF (vpE ρ) (l0 (vpzE ρ)) (kk (vpzE ρ)))
  have c_rA : (vpF ρ).i 300 = ρ.len 0 := by rw [← (vpeF ρ).i 300 (by omega), ← e0 (vpzE ρ)]; exact fin_count rfl rfl 0 (vpE ρ) (l0 (vpzE ρ))
  have fA := pA_f ρ ρ (fun _ _ => rfl) (ρ.len 0) (show ρ.len 0 < 4611686018427387904 by omega)
  obtain ⟨a0, a1, a2, a3, a4, a5, a6, a7, a8⟩ := fA
  have a0' : (vpA ρ).i 201 = mxF (fun j => ρ.ci 0 9 j) (ρ.len 0) := a0
  have a1' : (vpA ρ).i 202 = mxF (fun j => ρ.ci 0 10 j) (ρ.len 0) := a1
  have a2' : (vpA ρ).i 203 = mxF (fun j => ρ.ci 0 11 j) (ρ.len 0) := a2
  have a3' : (vpA ρ).i 204 = mxF (fun j => ρ.ci 0 12 j) (ρ.len 0) := a3
  have a4' : (vpA ρ).i 205 = mxF (fun j => ρ.ci 0 13 j) (ρ.len 0) := a4
  have a5' : (vpA ρ).i 206 = mxF (fun j => ρ.ci 0 14 j) (ρ.len 0) := a5
  have a6' : (vpA ρ).i 207 = mxF (fun j => ρ.ci 0 15 j) (ρ.len 0) := a6
  have a7' : (vpA ρ).i 208 = mxF (fun j => ρ.ci 0 16 j) (ρ.len 0) := a7
  have a8' : (vpA ρ).i 209 = mxF (fun j => ρ.ci 0 17 j) (ρ.len 0) := a8
  have fB := pB_f ρ (vpA ρ) (fun k r => by rw [← (vpzA ρ).ci 0 (by omega)]) (by rw [a0']; exact mxF_nn _ _) (by rw [a1']; exact mxF_nn _ _) (by rw [a2']; exact mxF_nn _ _) (by rw [a3']; exact mxF_nn _ _) (by rw [a4']; exact mxF_nn _ _) (by rw [a5']; exact mxF_nn _ _) (by rw [a6']; exact mxF_nn _ _) (by rw [a7']; exact mxF_nn _ _) (by rw [a8']; exact mxF_nn _ _) (ρ.len 0) (show ρ.len 0 < 4611686018427387904 by omega)
  obtain ⟨b0, b1, b2, b3, b4, b5, b6, b7, b8⟩ := fB
  have hB : ∀ k, (pB_b.it (pB_i.ap (vpA ρ)) (ρ.len 0)).i k = (vpB ρ).i k := fun k => by unfold vpB fin; rw [e0 (vpzA ρ)]
  have fC := qA_f ρ (vpB ρ) (fun k r => by rw [← (vpzB ρ).ci 0 (by omega)]) (by rw [← (vpzB ρ).i 0 (by omega)]) (ρ.len 0) (show ρ.len 0 < 4611686018427387904 by omega)
  obtain ⟨c0, c1, c2⟩ := fC
  have hC : ∀ k, (qA_b.it (qA_i.ap (vpB ρ)) (ρ.len 0)).i k = (vpC ρ).i k := fun k => by unfold vpC fin; rw [e0 (vpzB ρ)]
  have fD := pC_f ρ (vpC ρ) (fun k r => by rw [← (vpzC ρ).ci 0 (by omega)]) (ρ.len 0) (show ρ.len 0 < 4611686018427387904 by omega)
  obtain ⟨d0, d1, d2, d3, d4, d5, d6, d7, d8⟩ := fD
  have hD : ∀ k, (pC_b.it (pC_i.ap (vpC ρ)) (ρ.len 0)).i k = (vpD ρ).i k := fun k => by unfold vpD fin; rw [e0 (vpzC ρ)]
  have fE := qC_f ρ (vpD ρ) (fun k r => by rw [← (vpzD ρ).ci 0 (by omega)]) (by rw [← (vpzD ρ).i 0 (by omega)]) (ρ.len 0) (show ρ.len 0 < 4611686018427387904 by omega)
  obtain ⟨f0, f1, f2⟩ := fE
  have hE : ∀ k, (qC_b.it (qC_i.ap (vpD ρ)) (ρ.len 0)).i k = (vpE ρ).i k := fun k => by unfold vpE fin; rw [e0 (vpzD ρ)]
  have p0 : (vpF ρ).i 221 = (vpF ρ).i 261 := by rw [← (vpeB ρ).i 221 (by omega), ← (vpeD ρ).i 261 (by omega), ← hB, ← hD, b0, d0, a0']
  have p1 : (vpF ρ).i 222 = (vpF ρ).i 262 := by rw [← (vpeB ρ).i 222 (by omega), ← (vpeD ρ).i 262 (by omega), ← hB, ← hD, b1, d1, a1']
  have p2 : (vpF ρ).i 223 = (vpF ρ).i 263 := by rw [← (vpeB ρ).i 223 (by omega), ← (vpeD ρ).i 263 (by omega), ← hB, ← hD, b2, d2, a2']
  have p3 : (vpF ρ).i 224 = (vpF ρ).i 264 := by rw [← (vpeB ρ).i 224 (by omega), ← (vpeD ρ).i 264 (by omega), ← hB, ← hD, b3, d3, a3']
  have p4 : (vpF ρ).i 225 = (vpF ρ).i 265 := by rw [← (vpeB ρ).i 225 (by omega), ← (vpeD ρ).i 265 (by omega), ← hB, ← hD, b4, d4, a4']
  have p5 : (vpF ρ).i 226 = (vpF ρ).i 266 := by rw [← (vpeB ρ).i 226 (by omega), ← (vpeD ρ).i 266 (by omega), ← hB, ← hD, b5, d5, a5']
  have p6 : (vpF ρ).i 227 = (vpF ρ).i 267 := by rw [← (vpeB ρ).i 227 (by omega), ← (vpeD ρ).i 267 (by omega), ← hB, ← hD, b6, d6, a6']
  have p7 : (vpF ρ).i 228 = (vpF ρ).i 268 := by rw [← (vpeB ρ).i 228 (by omega), ← (vpeD ρ).i 268 (by omega), ← hB, ← hD, b7, d7, a7']
  have p8 : (vpF ρ).i 229 = (vpF ρ).i 269 := by rw [← (vpeB ρ).i 229 (by omega), ← (vpeD ρ).i 269 (by omega), ← hB, ← hD, b8, d8, a8']
  have q0 : (vpF ρ).i 241 = (vpF ρ).i 281 := by rw [← (vpeC ρ).i 241 (by omega), ← (vpeE ρ).i 281 (by omega), ← hC, ← hE, c0, f0]
  have q1 : (vpF ρ).i 242 = (vpF ρ).i 282 := by rw [← (vpeC ρ).i 242 (by omega), ← (vpeE ρ).i 282 (by omega), ← hC, ← hE, c1, f1]
  have q2 : (vpF ρ).i 243 = (vpF ρ).i 283 := by rw [← (vpeC ρ).i 243 (by omega), ← (vpeE ρ).i 283 (by omega), ← hC, ← hE, c2, f2]
  have le0 := e0 (vpzF ρ)
  have hsel : ∃ e : BE, (askF ⟨cfgL [] lpr, l_able14, []⟩ 10 [esR, iv 0] limP).sel (vpF ρ) = some (.sc (.b e)) ∧ e.den (vpF ρ) = true := by
    rw [pastL_run]
    unfold pastL
    refine sel_need_b ?_ ?_
    · simp only [BE.den, IE.den, c_pA, c_pB, c_qA, c_pC, c_qC, c_rA, le0, p0, p1, p2, p3, p4, p5, p6, p7, p8, q0, q1, q2, beq_self_eq_true, Bool.and_self, Bool.not_true, Bool.or_true, Bool.false_or, Int.lt_irrefl, decide_false, Bool.not_false]
    · simp only [BE.den, IE.den, c_pA, c_pB, c_qA, c_pC, c_qC, c_rA, le0, p0, p1, p2, p3, p4, p5, p6, p7, p8, q0, q1, q2, beq_self_eq_true, Bool.and_self, Bool.not_true, Bool.or_true, Bool.false_or, Int.lt_irrefl, decide_false, Bool.not_false]
  obtain ⟨e, hs, he⟩ := hsel
  have := (askF_ok (cfgL_ok (List.forall_mem_nil _) (lpr_ok g_rA g_pA g_pB g_qA g_pC g_qC)) l_able14_ok (kk (vpzF ρ)) hs).2 0 []
  rw [show X.den (vpF ρ) (.sc (.b e)) = .sc (.bool true) from by simp only [X.den, Sc.den, he]] at this
  rw [X.belL_den (vpzF ρ) _ (by kernel_rfl)]
  exact this
theorem ask_retP {ρ : Rho} {c : Cfg2} {f : Nat} {args : List X} {Φ : Facts} {t : T X} {e : BE} (hc : CfgOk Try.prog ρ c.c) (hs : ∀ s ∈ c.sm, SmOk Try.prog s) (hr : askF c f args Φ = t) (ht : t = .ret (.sc (.b e))) (he : e.den ρ = true) (hk : Facts.ok ρ Φ) : CY Try.prog 0 f (X.denL ρ args) [] (.sc (.bool true)) [] := by
  have h := (askF_ok hc hs hk (r := .sc (.b e)) (by rw [hr, ht]; rfl)).2 0 []
  rw [show X.den ρ (.sc (.b e)) = .sc (.bool true) from by simp only [X.den, Sc.den, he]] at h
  exact h
def pastSh : List Sh := [.sl ke, .flat [.i .i64] false]
theorem past_cy (ρ : Rho) : CY Try.prog 0 10 (X.denL ρ [esR, iv 0]) [] (.sc (.bool true)) [] := by
  by_cases h0 : (20000 : Int) < ρ.len 0
  · exact ask_retP (cfg_ok (List.forall_mem_nil _)) l_able14_ok pastB_run rfl rfl (Facts.ok_cons (decide_eq_true h0) (Facts.ok_nil _))
  · exact past_lim ρ (Facts.ok_cons (decide_eq_false h0) (Facts.ok_nil _))
end Go.Proofs.Ytcllappmhdfffaa
