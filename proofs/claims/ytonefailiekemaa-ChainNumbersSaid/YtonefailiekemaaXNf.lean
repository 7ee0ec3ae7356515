/- ChainNumbers: whatever the acts are, the law answers true. -/
import Derived.Test.YtonefailiekemaaXN8
namespace Go.Proofs.Ytonefailiekemaa
open Go Go.Proofs.Aw Go.Proofs.Xw
set_option maxRecDepth 100000
def numSh : List Sh := [.flat [.i .i64] false, .flat [.i .i64] false, .sl ka]
def puR2 : X := .rl 50 (.len 2) (.var 2 ka) false
theorem num_pats : pats 0 0 numSh = [iV 0, iV 1, puR2] := by kernel_rfl
def bP : Bind := ⟨[(0, .var 0), (1, .var 1)], [], [], [(0, .len 2, .var 2 ka)]⟩
theorem num_at (ρ : Rho) (hb : ρ.b 90 = false) (h0 : ρ.len 0 ≤ 400) (k : kOk ρ (10, [puR], .sc (.b (.var 90)))) : CY Try.prog 0 4 (X.denL ρ [iV 0, iV 1, puR]) [] (.sc (.bool true)) [] := by
  obtain ⟨i, ρf, ag, hR, hL⟩ := cM_ok ρ hb h0
  have k' := kOk.agree ag (by kernel_rfl) k
  rw [X.belL_den ag [iV 0, iV 1, puR] (by kernel_rfl)]
  have b0 : ρf.b 90 = false := by rw [← ag.b 90 (by decide)]; exact hb
  have l0 : ρf.len 0 ≤ 400 := by rw [← ag.len 0 (by decide)]; exact h0
  obtain ⟨_, ⟨_, h9⟩ | ⟨_, h9, hg⟩⟩ := hR
  · have hZ : LoopOk Try.prog ρf Try.f4.ntmps cZ_c cZ := by
      intro E hE hk
      have ho : cM.out.sel ρf = cZ.out.sel ρf := by
        show (T.br (.var 901) _ _).sel ρf = _
        rw [T.sel, if_neg (by simp [BE.den, h9])]; rfl
      have := hL E hE hk
      rw [ho] at this
      exact this
    have f2 : (BE.lt (.lit 400) (.len 0)).den ρf = false := by rw [dlt_f]; simp only [IE.den]; omega
    have g := askF_ok (c := ⟨cfgL ksM lpM0, l_able, HFL⟩) (cfgL_ok (List.forall_mem_cons.2 ⟨k', List.forall_mem_nil _⟩) (lpM0_ok hZ)) l_able_ok
      (Facts.ok_cons (show (BE.var 90).den ρf = false from b0) (Facts.ok_cons f2 (Facts.ok_nil ρf))) (f := 4) (args := [iV 0, iV 1, puR]) (r := .sc (.b (.lit true))) ((congrArg (T.sel _) num0_run).trans rfl)
    exact g.2 0 []
  · have hY : LoopOk Try.prog ρf Try.f4.ntmps cY_c cY := by
      intro E hE hk
      have ho : cM.out.sel ρf = cY.out.sel ρf := by
        show (T.br (.var 901) _ _).sel ρf = _
        rw [T.sel, if_pos (by simp [BE.den, h9])]; rfl
      have := hL E hE hk
      rw [ho] at this
      exact this
    obtain ⟨ρ2, ag2, hcol, hQ⟩ := cQ_ok ρf hg
    have hY2 : LoopOk Try.prog ρ2 Try.f4.ntmps cY_c cY := LoopOk.agree (B := 410) (show cY.S.bel 410 = true by kernel_rfl) rfl (show cY.out.belX 410 = true by kernel_rfl) ag2 hY
    have k2 := kOk.agree ag2 (by kernel_rfl) k'
    rw [X.belL_den ag2 [iV 0, iV 1, puR] (by kernel_rfl)]
    have hg2 := hg.agree4 ag2
    have hl1 := hg2.l1
    have hl2 := hg2.l2
    have hlr : (bL.ap ρ2).len 0 = ρ2.len 201 := by show (IE.den ρ2 (.len 201)).toNat = _; simp only [IE.den, Int.toNat_natCast]
    obtain ⟨p, hp, k1⟩ := colD_cy (bL.ap ρ2) (by omega) (fun j hj => hg2.nu.d j (by omega)) (fun j hj => hg2.nu.r j (by omega)) hg2.r
    have hpc : ∀ k : Nat, k < 3 → p k = ρ2.i (412 + k) := fun k hk => by
      rw [hp k hk, hlr, hcol k hk]
      unfold colE
      rw [ag2.ci 201 (by decide), ag2.len 201 (by decide)]
      exact colN_eq k (ρ2.len 201) hg2.nu.s
    have kc : kOk ρ2 (22, [iV 1, logX], .agg [iV 412, iV 413, iV 414]) := ⟨k1.1, fun n hp => by
      have := k1.2 n hp
      rw [← args_eq (by kernel_rfl) ρ2 (p := [iV 1, esR]) (e := [iV 1, logX]) (by kernel_rfl), hpc 0 (by decide), hpc 1 (by decide), hpc 2 (by decide)] at this
      exact this⟩
    have f1 : (BE.var 90).den ρ2 = false := by show ρ2.b 90 = false; rw [← ag2.b 90 (by decide)]; exact b0
    have f2 : (BE.lt (.lit 400) (.len 0)).den ρ2 = false := by rw [dlt_f]; simp only [IE.den, ← ag2.len 0 (by decide)]; omega
    have f4 : (BE.lt (.len 201) (.lit 1)).den ρ2 = false := by rw [dlt_f]; simp only [IE.den]; omega
    have f5 : (BE.lt (.lit 256) (.len 201)).den ρ2 = false := by rw [dlt_f]; simp only [IE.den]; omega
    have g := askF_ok (c := ⟨cfgL ksE lpM1, l_able, HFL⟩) (cfgL_ok (List.forall_mem_cons.2 ⟨kc, List.forall_mem_cons.2 ⟨k2, List.forall_mem_nil _⟩⟩) (lpM1_ok hY2 hQ)) l_able_ok
      (Facts.ok_cons f1 (Facts.ok_cons f2 (Facts.ok_cons f4 (Facts.ok_cons f5 (Facts.ok_nil ρ2))))) (f := 4) (args := [iV 0, iV 1, puR]) (r := .sc (.b (.lit true))) ((congrArg (T.sel _) num1_run).trans rfl)
    exact g.2 0 []
/-- The law, over letters of any kind. -/
theorem num_cy' (ρ : Rho) : CY Try.prog 0 4 (X.denL ρ [iV 0, iV 1, puR]) [] (.sc (.bool true)) [] := by
  by_cases h0 : ρ.len 0 ≤ 400
  · obtain ⟨b, hk, hm⟩ := much_cy ρ (by omega)
    let β : Bind := ⟨[], [(90, .lit b)], [], []⟩
    have ag : Agree 90 ρ (β.ap ρ) := Bind.agree rfl ρ
    have k : kOk (β.ap ρ) (10, [puR], .sc (.b (.var 90))) := ⟨hk, fun n hp => by
      have := hm n hp
      rw [X.belL_den ag [puR] (by kernel_rfl)] at this
      exact this⟩
    have hb : (β.ap ρ).b 90 = b := rfl
    rw [X.belL_den ag [iV 0, iV 1, puR] (by kernel_rfl)]
    have l0 : (β.ap ρ).len 0 ≤ 400 := by rw [← ag.len 0 (by decide)]; exact h0
    generalize β.ap ρ = ρ1 at k hb l0
    cases b with
    | true =>
      have g := askF_ok (c := ⟨cfgL ksM (fun _ => []), l_able, HFL⟩) (cfgL_ok (List.forall_mem_cons.2 ⟨k, List.forall_mem_nil _⟩) (fun _ _ _ => LpsOk.nil _ _ _ _)) l_able_ok
        (Facts.ok_cons (show (BE.var 90).den ρ1 = true from hb) (Facts.ok_nil ρ1)) (f := 4) (args := [iV 0, iV 1, puR]) (r := .sc (.b (.lit true))) ((congrArg (T.sel _) numM_run).trans rfl)
      exact g.2 0 []
    | false => exact num_at ρ1 hb l0 k
  · have g := askF_ok (c := ⟨cfg [], l_able, HFL⟩) (cfg_ok (List.forall_mem_nil _)) l_able_ok
      (Facts.ok_cons (show (BE.lt (.lit 400) (.len 0)).den ρ = true by rw [dlt_t]; simp only [IE.den]; omega) (Facts.ok_nil ρ)) (f := 4) (args := [iV 0, iV 1, puR]) (r := .sc (.b (.lit true))) ((congrArg (T.sel _) numA_run).trans rfl)
    exact g.2 0 []
theorem num_cy (ρ : Rho) : CY Try.prog 0 4 (X.denL ρ (pats 0 0 numSh)) [] (.sc (.bool true)) [] := by
  rw [num_pats, args_eq (β := bP) (by kernel_rfl) ρ (p := [iV 0, iV 1, puR]) (e := [iV 0, iV 1, puR2]) (by kernel_rfl)]
  exact num_cy' _
end Go.Proofs.Ytonefailiekemaa
