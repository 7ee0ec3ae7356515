/- ChainOnce: whatever the puts and the numbers are, the law answers true. -/
import Derived.Test.YtonefailiekemaaXL5
namespace Go.Proofs.Ytonefailiekemaa
open Go Go.Proofs.Aw Go.Proofs.Xw
set_option maxRecDepth 100000
def onceSh : List Sh := [.sl ka, .sl [.i .i64]]
theorem once_pats : pats 0 0 onceSh = [puR, isR1] := by kernel_rfl
theorem once_at (ρ : Rho) (hb : ρ.b 90 = false) (h0 : ρ.len 0 ≤ 400) (h1 : ρ.len 1 ≤ 400) (k : kOk ρ (10, [puR], .sc (.b (.var 90)))) : CY Try.prog 0 3 (X.denL ρ [puR, isR1]) [] (.sc (.bool true)) [] := by
  obtain ⟨i, ρf, ag, hR, hL⟩ := cM_ok ρ hb h0 h1
  have k' := kOk.agree ag (by kernel_rfl) k
  rw [X.belL_den ag [puR, isR1] (by kernel_rfl)]
  have b0 : ρf.b 90 = false := by rw [← ag.b 90 (by decide)]; exact hb
  have l0 : ρf.len 0 ≤ 400 := by rw [← ag.len 0 (by decide)]; exact h0
  have l1 : ρf.len 1 ≤ 400 := by rw [← ag.len 1 (by decide)]; exact h1
  have f1 : (BE.var 90).den ρf = false := b0
  have f2 : (BE.lt (.lit 400) (.len 0)).den ρf = false := by rw [dlt_f]; simp only [IE.den]; omega
  have f3 : (BE.lt (.lit 400) (.len 1)).den ρf = false := by rw [dlt_f]; simp only [IE.den]; omega
  obtain ⟨_, ⟨_, h9⟩ | ⟨_, h9, _, q1, q2, q3⟩⟩ := hR
  · have hZ : LoopOk Try.prog ρf Try.f3.ntmps cZ_c cZ := by
      intro E hE hk
      have ho : cM.out.sel ρf = cZ.out.sel ρf := by
        show (T.br (.var 901) _ _).sel ρf = _
        rw [T.sel, if_neg (by simp [BE.den, h9])]; rfl
      have := hL E hE hk
      rw [ho] at this
      exact this
    have g := askF_ok (c := ⟨cfgL ksM lpM0, l_able, HFL⟩) (cfgL_ok (List.forall_mem_cons.2 ⟨k', List.forall_mem_nil _⟩) (lpM0_ok hZ)) l_able_ok
      (Facts.ok_cons f1 (Facts.ok_cons f2 (Facts.ok_cons f3 (Facts.ok_cons (show (BE.var 901).den ρf = false from h9) (Facts.ok_nil ρf))))) (f := 3) (args := [puR, isR1]) (r := .sc (.b (.lit true))) ((congrArg (T.sel _) once0_run).trans rfl)
    exact g.2 0 []
  · have hY : LoopOk Try.prog ρf Try.f3.ntmps cY_c cY := by
      intro E hE hk
      have ho : cM.out.sel ρf = cY.out.sel ρf := by
        show (T.br (.var 901) _ _).sel ρf = _
        rw [T.sel, if_pos (by simp [BE.den, h9])]; rfl
      have := hL E hE hk
      rw [ho] at this
      exact this
    have f4 : (BE.lt (.len 201) (.lit 1)).den ρf = false := by rw [dlt_f]; simp only [IE.den]; omega
    have f5 : (BE.lt (.lit 256) (.len 201)).den ρf = false := by rw [dlt_f]; simp only [IE.den]; omega
    have g := askF_ok (c := ⟨cfgL ksM lpM1, l_able, HFL⟩) (cfgL_ok (List.forall_mem_cons.2 ⟨k', List.forall_mem_nil _⟩) (lpM1_ok hY (cQ_ok ρf q3 q1 q2))) l_able_ok
      (Facts.ok_cons f1 (Facts.ok_cons f2 (Facts.ok_cons f3 (Facts.ok_cons (show (BE.var 901).den ρf = true from h9) (Facts.ok_cons f4 (Facts.ok_cons f5 (Facts.ok_nil ρf))))))) (f := 3) (args := [puR, isR1]) (r := .sc (.b (.lit true))) ((congrArg (T.sel _) once1_run).trans rfl)
    exact g.2 0 []
/-- The law, over letters of any kind. -/
theorem once_cy' (ρ : Rho) : CY Try.prog 0 3 (X.denL ρ [puR, isR1]) [] (.sc (.bool true)) [] := by
  by_cases h0 : ρ.len 0 ≤ 400
  · obtain ⟨b, hk, hm⟩ := much_cy ρ (by omega)
    let β : Bind := ⟨[], [(90, .lit b)], [], []⟩
    have ag : Agree 90 ρ (β.ap ρ) := Bind.agree rfl ρ
    have k : kOk (β.ap ρ) (10, [puR], .sc (.b (.var 90))) := ⟨hk, fun n hp => by
      have := hm n hp
      rw [X.belL_den ag [puR] (by kernel_rfl)] at this
      exact this⟩
    have hb : (β.ap ρ).b 90 = b := rfl
    rw [X.belL_den ag [puR, isR1] (by kernel_rfl)]
    have l0 : (β.ap ρ).len 0 ≤ 400 := by rw [← ag.len 0 (by decide)]; exact h0
    generalize β.ap ρ = ρ1 at k hb l0
    have hc := cfgL_ok (ρ := ρ1) (lp := fun _ => []) (List.forall_mem_cons.2 ⟨k, List.forall_mem_nil _⟩) (fun _ _ _ => LpsOk.nil _ _ _ _)
    cases b with
    | true =>
      have g := askF_ok (c := ⟨cfgL ksM (fun _ => []), l_able, HFL⟩) hc l_able_ok
        (Facts.ok_cons (show (BE.var 90).den ρ1 = true from hb) (Facts.ok_nil ρ1)) (f := 3) (args := [puR, isR1]) (r := .sc (.b (.lit true))) ((congrArg (T.sel _) onceM_run).trans rfl)
      exact g.2 0 []
    | false =>
      by_cases h1 : ρ1.len 1 ≤ 400
      · exact once_at ρ1 hb l0 h1 k
      · have g := askF_ok (c := ⟨cfgL ksM (fun _ => []), l_able, HFL⟩) hc l_able_ok
          (Facts.ok_cons (show (BE.var 90).den ρ1 = false from hb) (Facts.ok_cons (show (BE.lt (.lit 400) (.len 1)).den ρ1 = true by rw [dlt_t]; simp only [IE.den]; omega) (Facts.ok_nil ρ1))) (f := 3) (args := [puR, isR1]) (r := .sc (.b (.lit true))) ((congrArg (T.sel _) onceB_run).trans rfl)
        exact g.2 0 []
  · have g := askF_ok (c := ⟨cfg [], l_able, HFL⟩) (cfg_ok (List.forall_mem_nil _)) l_able_ok
      (Facts.ok_cons (show (BE.lt (.lit 400) (.len 0)).den ρ = true by rw [dlt_t]; simp only [IE.den]; omega) (Facts.ok_nil ρ)) (f := 3) (args := [puR, isR1]) (r := .sc (.b (.lit true))) ((congrArg (T.sel _) onceA_run).trans rfl)
    exact g.2 0 []
theorem once_cy (ρ : Rho) : CY Try.prog 0 3 (X.denL ρ (pats 0 0 onceSh)) [] (.sc (.bool true)) [] := by
  rw [once_pats]; exact once_cy' ρ
end Go.Proofs.Ytonefailiekemaa
