/- ChainPasses: whatever the puts and the number are, the law answers true. -/
import Derived.Test.YtonefailiekemaaXBb
namespace Go.Proofs.Ytonefailiekemaa
open Go Go.Proofs.Aw Go.Proofs.Xw
set_option maxRecDepth 100000
def onceSh : List Sh := [.sl ka, .flat [.i .i64] false]
theorem once_pats : pats 0 0 onceSh = [puR, iV 0] := by kernel_rfl
def bSy : Bind := ⟨[(1, .var 0)], [], [], [(0, .len 0, .var 0 ka)]⟩
def bEn : Bind := ⟨[(0, .var 203)], [], [], [(0, .len 402, .var 402 ke), (1, .var 203, .var 201 ke)]⟩
/-- What was sent is what the first log begins with. -/
theorem ent_ks {ρ : Rho} (hg : Lg ρ) (hq : Snt ρ) (he : ρ.i 203 = ρ.len 402) : kOk ρ (30, [.rl 20 (.len 402) (.var 402 ke) false, .rl 20 (.var 203) (.var 201 ke) false], .sc (.b (.lit true))) := by
  have hl : (bEn.ap ρ).len 0 = ρ.len 402 := by show (IE.den ρ (.len 402)).toNat = _; simp only [IE.den, Int.toNat_natCast]
  have hi : (bEn.ap ρ).i 0 = ρ.i 203 := rfl
  have g := entries_cy (bEn.ap ρ) (by have := hg.l2; have := hg.d1; omega) (by omega) (fun j hj => by
    rw [Bind.rows (β := bEn) (ρ := ρ) (l := 0) (n := .len 402) (r := .var 402 ke) rfl (by kernel_rfl), Bind.rows (β := bEn) (ρ := ρ) (l := 1) (n := .var 203) (r := .var 201 ke) rfl (by kernel_rfl)]
    exact hq.eq j (by omega))
  refine ⟨g.1, fun n hp => ?_⟩
  have := g.2 n hp
  rw [← args_eq (by kernel_rfl) ρ (p := enA) (e := [.rl 20 (.len 402) (.var 402 ke) false, .rl 20 (.var 203) (.var 201 ke) false]) (by kernel_rfl)] at this
  exact this
theorem out_c {ρ : Rho} {L M : LoopX} {c : Code} (h : LoopOk Try.prog ρ Try.f5.ntmps c L) (hS : L.S = M.S) (hi : L.init = M.init) (hk : L.k0 = M.k0) (ho : L.out.sel ρ = M.out.sel ρ) : LoopOk Try.prog ρ Try.f5.ntmps c M := by
  intro E hE hn
  have := h E hE (by rw [hk]; exact hn)
  rw [hS, hi, ho] at this
  exact this
theorem once_at (ρ : Rho) (hb : ρ.b 90 = false) (h0 : ρ.len 0 ≤ 400) (k : kOk ρ (10, [puR], .sc (.b (.var 90)))) : CY Try.prog 0 5 (X.denL ρ [puR, syX]) [] (.sc (.bool true)) [] := by
  obtain ⟨i, ρf, ag, ⟨_, hR⟩, hL⟩ := cM_ok ρ hb h0
  have k' := kOk.agree ag (by kernel_rfl) k
  rw [X.belL_den ag [puR, syX] (by kernel_rfl)]
  have b0 : ρf.b 90 = false := by rw [← ag.b 90 (by decide)]; exact hb
  have l0 : ρf.len 0 ≤ 400 := by rw [← ag.len 0 (by decide)]; exact h0
  rcases hR with ⟨_, h9⟩ | ⟨_, h9, hg⟩
  · have f1 : (BE.var 90).den ρf = false := b0
    have f2 : (BE.lt (.lit 400) (.len 0)).den ρf = false := by rw [dlt_f]; simp only [IE.den]; omega
    have hZ : LoopOk Try.prog ρf Try.f5.ntmps cZ_c cZ := out_c (M := cZ) hL rfl rfl rfl (out0 h9)
    have g := askF_ok (c := ⟨cfgL ksM lpM0, l_able, HFL⟩) (cfgL_ok (List.forall_mem_cons.2 ⟨k', List.forall_mem_nil _⟩) (lpM0_ok hZ)) l_able_ok
      (Facts.ok_cons f1 (Facts.ok_cons f2 (Facts.ok_nil ρf))) (f := 5) (args := [puR, syX]) (r := .sc (.b (.lit true))) ((congrArg (T.sel _) once0_run).trans rfl)
    exact g.2 0 []
  · have hY0 : LoopOk Try.prog ρf Try.f5.ntmps cY_c cY := out_c (M := cY) hL rfl rfl rfl (out1 h9)
    obtain ⟨j, ρg, ag2, ⟨hg2, hQ⟩, hS⟩ := cS_ok ρf hg
    have k'' := kOk.agree ag2 (by kernel_rfl) k'
    rw [X.belL_den ag2 [puR, syX] (by kernel_rfl)]
    have hY : LoopOk Try.prog ρg Try.f5.ntmps cY_c cY := LoopOk.agree (B := 400) (by kernel_rfl) rfl (by kernel_rfl) ag2 hY0
    have f1 : (BE.var 90).den ρg = false := by show ρg.b 90 = false; rw [← ag2.b 90 (by decide)]; exact b0
    have f2 : (BE.lt (.lit 400) (.len 0)).den ρg = false := by rw [dlt_f, ← IE.bel_den ag2 (.len 0) rfl, ← IE.bel_den ag2 (.lit 400) rfl]; simp only [IE.den]; omega
    obtain ⟨l1, l2, d0, d1, _⟩ := id hg2
    have f3 : (BE.lt (.len 201) (.lit 1)).den ρg = false := by rw [dlt_f]; simp only [IE.den]; omega
    have f4 : (BE.lt (.lit 256) (.len 201)).den ρg = false := by rw [dlt_f]; simp only [IE.den]; omega
    have f5 : (BE.lt (.var 203) (.lit 0)).den ρg = false := by rw [dlt_f]; simp only [IE.den]; omega
    have f6 : (BE.lt (.len 201) (.var 203)).den ρg = false := by rw [dlt_f]; simp only [IE.den]; omega
    rcases hQ with ⟨_, h9, hz⟩ | ⟨_, h9, hq, he⟩
    · have hV : LoopOk Try.prog ρg Try.f5.ntmps cV_c cV := out_c (M := cV) hS rfl rfl rfl (sout0 h9)
      have f7 : (BE.eq (.var 203) (.lit 0)).den ρg = true := by rw [deq_t]; exact hz
      have g := askF_ok (c := ⟨cfgL ksM lpM1, l_able, HFL⟩) (cfgL_ok (List.forall_mem_cons.2 ⟨k'', List.forall_mem_nil _⟩) (lpM1_ok hY hV)) l_able_ok
        (Facts.ok_cons f1 (Facts.ok_cons f2 (Facts.ok_cons f3 (Facts.ok_cons f4 (Facts.ok_cons f5 (Facts.ok_cons f6 (Facts.ok_cons f7 (Facts.ok_nil ρg)))))))) (f := 5) (args := [puR, syX]) (r := .sc (.b (.lit true))) ((congrArg (T.sel _) once1_run).trans rfl)
      exact g.2 0 []
    · have hW : LoopOk Try.prog ρg Try.f5.ntmps cW_c cW := out_c (M := cW) hS rfl rfl rfl (sout1 h9)
      have ke := ent_ks hg2 hq he
      obtain ⟨q1, q2, q3, q4, q5, q6, q7, _⟩ := hq
      have f7 : (BE.eq (.var 203) (.lit 0)).den ρg = false := by rw [deq_f]; simp only [IE.den]; omega
      have f8 : (BE.lt (.len 402) (.lit 1)).den ρg = false := by rw [dlt_f]; simp only [IE.den]; omega
      have f9 : (BE.lt (.lit 256) (.len 402)).den ρg = false := by rw [dlt_f]; simp only [IE.den]; omega
      have fa : (BE.lt (.var 401) (.var 203)).den ρg = false := by rw [dlt_f]; simp only [IE.den]; omega
      have fb : (BE.lt (.var 403) (.var 203)).den ρg = false := by rw [dlt_f]; simp only [IE.den]; omega
      have fc : (BE.eq (.var 403) (.var 203)).den ρg = true := by rw [deq_t]; simp only [IE.den]; omega
      have fd : (BE.eq (.var 405) (.var 203)).den ρg = true := by rw [deq_t]; simp only [IE.den]; omega
      have fe : (BE.eq (.len 402) (.var 203)).den ρg = true := by rw [deq_t]; simp only [IE.den]; omega
      have g := askF_ok (c := ⟨cfgL ksE lpM2, l_able, HFL⟩) (cfgL_ok (List.forall_mem_cons.2 ⟨ke, List.forall_mem_cons.2 ⟨k'', List.forall_mem_nil _⟩⟩) (lpM2_ok hY hW)) l_able_ok
        (Facts.ok_cons f1 (Facts.ok_cons f2 (Facts.ok_cons f3 (Facts.ok_cons f4 (Facts.ok_cons f5 (Facts.ok_cons f6 (Facts.ok_cons f7 (Facts.ok_cons f8 (Facts.ok_cons f9 (Facts.ok_cons fa (Facts.ok_cons fb (Facts.ok_cons fc (Facts.ok_cons fd (Facts.ok_cons fe (Facts.ok_nil ρg))))))))))))))) (f := 5) (args := [puR, syX]) (r := .sc (.b (.lit true))) ((congrArg (T.sel _) once2_run).trans rfl)
      exact g.2 0 []
/-- The law, over letters of any kind. -/
theorem once_cy' (ρ : Rho) : CY Try.prog 0 5 (X.denL ρ [puR, syX]) [] (.sc (.bool true)) [] := by
  by_cases h0 : ρ.len 0 ≤ 400
  · obtain ⟨b, hk, hm⟩ := much_cy ρ (by omega)
    let β : Bind := ⟨[], [(90, .lit b)], [], []⟩
    have ag : Agree 90 ρ (β.ap ρ) := Bind.agree rfl ρ
    have k : kOk (β.ap ρ) (10, [puR], .sc (.b (.var 90))) := ⟨hk, fun n hp => by
      have := hm n hp
      rw [X.belL_den ag [puR] (by kernel_rfl)] at this
      exact this⟩
    have hb : (β.ap ρ).b 90 = b := rfl
    rw [X.belL_den ag [puR, syX] (by kernel_rfl)]
    have l0 : (β.ap ρ).len 0 ≤ 400 := by rw [← ag.len 0 (by decide)]; exact h0
    generalize β.ap ρ = ρ1 at k hb l0
    cases b with
    | true =>
      have hc := cfgL_ok (ρ := ρ1) (lp := fun _ => []) (List.forall_mem_cons.2 ⟨k, List.forall_mem_nil _⟩) (fun _ _ _ => LpsOk.nil _ _ _ _)
      have g := askF_ok (c := ⟨cfgL ksM (fun _ => []), l_able, HFL⟩) hc l_able_ok
        (Facts.ok_cons (show (BE.var 90).den ρ1 = true from hb) (Facts.ok_nil ρ1)) (f := 5) (args := [puR, syX]) (r := .sc (.b (.lit true))) ((congrArg (T.sel _) onceM_run).trans rfl)
      exact g.2 0 []
    | false => exact once_at ρ1 hb l0 k
  · have g := askF_ok (c := ⟨cfg [], l_able, HFL⟩) (cfg_ok (List.forall_mem_nil _)) l_able_ok
      (Facts.ok_cons (show (BE.lt (.lit 400) (.len 0)).den ρ = true by rw [dlt_t]; simp only [IE.den]; omega) (Facts.ok_nil ρ)) (f := 5) (args := [puR, syX]) (r := .sc (.b (.lit true))) ((congrArg (T.sel _) onceA_run).trans rfl)
    exact g.2 0 []
theorem once_cy (ρ : Rho) : CY Try.prog 0 5 (X.denL ρ (pats 0 0 onceSh)) [] (.sc (.bool true)) [] := by
  rw [once_pats, args_eq (β := bSy) (by kernel_rfl) ρ (p := [puR, syX]) (e := [puR, iV 0]) (by kernel_rfl)]
  exact once_cy' _
end Go.Proofs.Ytonefailiekemaa
