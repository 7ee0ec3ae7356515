/- ChainLearns: whatever the puts are, the law answers true. -/
import Derived.Test.YtonefailiekemaaXCl
namespace Go.Proofs.Ytonefailiekemaa
open Go Go.Proofs.Aw Go.Proofs.Xw
set_option maxRecDepth 100000
def lrnSh : List Sh := [.sl ka, .sl ka]
theorem lrn_pats : pats 0 0 lrnSh = [puR, moR] := by kernel_rfl
def bEn : Bind := ⟨[(0, .len 1002)], [], [], [(0, .len 601, .var 601 ke), (1, .len 1002, .var 1002 ke)]⟩
/-- What was sent is what the first log is. -/
theorem ent_ks {ρ : Rho} (h2 : ρ.len 601 ≤ 256) (he : ρ.len 1002 = ρ.len 601) (h : ∀ j, j < ρ.len 1002 → cellsV ρ 1002 0 ke j = cellsV ρ 601 0 ke j) : kOk ρ (30, [.rl 20 (.len 601) (.var 601 ke) false, .rl 20 (.len 1002) (.var 1002 ke) false], .sc (.b (.lit true))) := by
  have hl : (bEn.ap ρ).len 0 = ρ.len 601 := by show (IE.den ρ (.len 601)).toNat = _; simp only [IE.den, Int.toNat_natCast]
  have hi : (bEn.ap ρ).i 0 = ρ.len 1002 := rfl
  have g := entries_cy (bEn.ap ρ) (by omega) (by omega) (fun j hj => by
    rw [Bind.rows (β := bEn) (ρ := ρ) (l := 0) (n := .len 601) (r := .var 601 ke) rfl (by kernel_rfl), Bind.rows (β := bEn) (ρ := ρ) (l := 1) (n := .len 1002) (r := .var 1002 ke) rfl (by kernel_rfl)]
    exact (h j (by omega)).symm)
  refine ⟨g.1, fun n hp => ?_⟩
  have := g.2 n hp
  rw [← args_eq (by kernel_rfl) ρ (p := enA) (e := [.rl 20 (.len 601) (.var 601 ke) false, .rl 20 (.len 1002) (.var 1002 ke) false]) (by kernel_rfl)] at this
  exact this
/-- What both rows may come to. -/
structure Mu (ρ : Rho) : Prop where
  b0 : ρ.b 90 = false
  b1 : ρ.b 91 = false
  l0 : ρ.len 0 ≤ 400
  l1 : ρ.len 1 ≤ 400
  k0 : kOk ρ (10, [puR], .sc (.b (.var 90)))
  k1 : kOk ρ (10, [moR], .sc (.b (.var 91)))
theorem Mu.agree {B : Nat} {ρ ρ' : Rho} (h : Agree B ρ ρ') (hB : (Nat.ble 92 B && (X.belL B [puR] && X.belL B [moR] && BE.bel B (.var 90) && BE.bel B (.var 91))) = true) (k : Mu ρ) : Mu ρ' := by
  simp only [Bool.and_eq_true] at hB
  obtain ⟨hB, ⟨⟨h1, h2⟩, h3⟩, h4⟩ := hB
  have hB := Nat.le_of_ble_eq_true hB
  exact ⟨by rw [← h.b 90 (by omega)]; exact k.b0, by rw [← h.b 91 (by omega)]; exact k.b1, by rw [← h.len 0 (by omega)]; exact k.l0, by rw [← h.len 1 (by omega)]; exact k.l1,
    kOk.agree h (by simp only [Bool.and_eq_true]; exact ⟨h1, h3⟩) k.k0, kOk.agree h (by simp only [Bool.and_eq_true]; exact ⟨h2, h4⟩) k.k1⟩
theorem lim0_ok {ρ : Rho} (k : Mu ρ) : Facts.ok ρ lim0 :=
  Facts.ok_cons k.b0 (Facts.ok_cons k.b1 (Facts.ok_cons (by rw [dlt_f]; simp only [IE.den]; have := k.l0; omega) (Facts.ok_cons (by rw [dlt_f]; simp only [IE.den]; have := k.l1; omega) (Facts.ok_nil _))))
theorem ksM_ok {ρ : Rho} (k : Mu ρ) : ∀ p ∈ ksM, kOk ρ p := List.forall_mem_cons.2 ⟨k.k0, List.forall_mem_cons.2 ⟨k.k1, List.forall_mem_nil _⟩⟩
theorem eq_den {ρ : Rho} {e : BE} (h : e.den ρ = true) : X.den ρ (.sc (.b e)) = .sc (.bool true) := by
  simp only [X.den, Sc.den, h]
/-- The facts at the end of the loop that sends. -/
theorem fE_ok {ρ : Rho} (l1 : 1 ≤ ρ.len 601) (l2 : ρ.len 601 ≤ 256) (he : ρ.len 1002 = ρ.len 601) (h3 : ρ.i 1003 = ρ.len 601) (h4 : ρ.i 1004 = ρ.len 601) :
    Facts.ok ρ [(.lt (.len 1002) (.lit 1), false), (.lt (.lit 256) (.len 1002), false), (.eq (.len 1002) (.len 601), true), (.eq (.var 1003) (.len 601), true), (.eq (.var 1004) (.len 601), true)] :=
  Facts.ok_cons (by rw [dlt_f]; simp only [IE.den]; omega) (Facts.ok_cons (by rw [dlt_f]; simp only [IE.den]; omega) (Facts.ok_cons (by rw [deq_t]; simp only [IE.den]; omega) (Facts.ok_cons (by rw [deq_t]; simp only [IE.den]; omega) (Facts.ok_cons (by rw [deq_t]; simp only [IE.den]; omega) (Facts.ok_nil _)))))
theorem f6_ok {ρ : Rho} (l1 : 1 ≤ ρ.len 601) (l2 : ρ.len 601 ≤ 256) : Facts.ok ρ [(.lt (.len 601) (.lit 1), false), (.lt (.lit 256) (.len 601), false)] :=
  Facts.ok_cons (by rw [dlt_f]; simp only [IE.den]; omega) (Facts.ok_cons (by rw [dlt_f]; simp only [IE.den]; omega) (Facts.ok_nil _))
theorem f2_ok {ρ : Rho} (l1 : 1 ≤ ρ.len 201) (l2 : ρ.len 201 ≤ 256) (l3 : ρ.len 201 ≤ ρ.len 601) : Facts.ok ρ [(.lt (.len 201) (.lit 1), false), (.lt (.lit 256) (.len 201), false), (.lt (.len 601) (.len 201), false)] :=
  Facts.ok_cons (by rw [dlt_f]; simp only [IE.den]; omega) (Facts.ok_cons (by rw [dlt_f]; simp only [IE.den]; omega) (Facts.ok_cons (by rw [dlt_f]; simp only [IE.den]; omega) (Facts.ok_nil _)))
theorem lrn_at (ρ : Rho) (hm : Mu ρ) : CY Try.prog 0 8 (X.denL ρ [puR, moR]) [] (.sc (.bool true)) [] := by
  obtain ⟨i, ρ1, ag1, ⟨_, hR⟩, hL⟩ := La.cM_ok ρ hm.l0
  have m1 := hm.agree ag1 (by kernel_rfl)
  rw [X.belL_den ag1 [puR, moR] (by kernel_rfl)]
  rcases hR with ⟨_, h9⟩ | ⟨_, h9, hg⟩
  · have hz : LoopOk Try.prog ρ1 Try.f8.ntmps z0_c z0 := out_c (M := z0) hL rfl rfl rfl (La.out0 h9)
    obtain ⟨j, ρ2, ag2, ⟨_, hR2⟩, hL2⟩ := Lb.cM_ok ρ1 m1.l1
    have m2 := m1.agree ag2 (by kernel_rfl)
    have hz2 : LoopOk Try.prog ρ2 Try.f8.ntmps z0_c z0 := LoopOk.agree (B := 600) (by kernel_rfl) rfl (by kernel_rfl) ag2 hz
    rw [X.belL_den ag2 [puR, moR] (by kernel_rfl)]
    rcases hR2 with ⟨_, h92⟩ | ⟨_, h92, hg2⟩
    · have hz1 : LoopOk Try.prog ρ2 Try.f8.ntmps z1_c z1 := out_c (M := z1) hL2 rfl rfl rfl (Lb.out0 h92)
      have g := askF_ok (c := ⟨cfgL ksM lpM0, l_able, HFL⟩) (cfgL_ok (ksM_ok m2) (lpM0_ok hz2 hz1)) l_able_ok (lim0_ok m2) (f := 8) (args := [puR, moR]) (r := .sc (.b (.lit true))) ((congrArg (T.sel _) once0_run).trans rfl)
      exact g.2 0 []
    · have hy1 : LoopOk Try.prog ρ2 Try.f8.ntmps y1_c y1 := out_c (M := y1) hL2 rfl rfl rfl (Lb.out1 h92)
      obtain ⟨k, ρ3, ag3, ⟨hy, hs, he⟩, hL3⟩ := Ld.cS_ok ρ2 ⟨hg2⟩
      have m3 := m2.agree ag3 (by kernel_rfl)
      rw [X.belL_den ag3 [puR, moR] (by kernel_rfl)]
      have hz3 : LoopOk Try.prog ρ3 Try.f8.ntmps z0_c z0 := LoopOk.agree (B := 1000) (by kernel_rfl) rfl (by kernel_rfl) ag3 hz2
      have hy3 : LoopOk Try.prog ρ3 Try.f8.ntmps y1_c y1 := LoopOk.agree (B := 1000) (by kernel_rfl) rfl (by kernel_rfl) ag3 hy1
      have l1 := hy.lg.l1
      have l2 := hy.lg.l2
      have e3 := hs.e3
      have e4 := hs.e4
      have h3 : ρ3.i 1003 = ρ3.len 601 := by omega
      have g := askF_ok (c := ⟨cfgL ksE lpM1, l_able, HFL⟩) (cfgL_ok (List.forall_mem_cons.2 ⟨ent_ks l2 he hs.eq, ksM_ok m3⟩) (lpM1_ok hz3 hy3 hL3)) l_able_ok
        (all_ok (lim0_ok m3) (all_ok (f6_ok l1 l2) (fE_ok l1 l2 he h3 (by omega)))) (f := 8) (args := [puR, moR]) (r := .sc (.b (.eq (.var 1003) (.len 601)))) ((congrArg (T.sel _) once1_run).trans rfl)
      rw [eq_den (by rw [deq_t]; exact h3)] at g
      exact g.2 0 []
  · have hy : LoopOk Try.prog ρ1 Try.f8.ntmps y0_c y0 := out_c (M := y0) hL rfl rfl rfl (La.out1 h9)
    obtain ⟨j, ρ2, ag2, ⟨_, _, _, hg2⟩, hL2⟩ := Lc.cM_ok ρ1 m1.l1 hg.l1 hg.l2 hg.re
    have m2 := m1.agree ag2 (by kernel_rfl)
    have hg1 := hg.agree ag2 (by decide)
    have hy2 : LoopOk Try.prog ρ2 Try.f8.ntmps y0_c y0 := LoopOk.agree (B := 600) (by kernel_rfl) rfl (by kernel_rfl) ag2 hy
    rw [X.belL_den ag2 [puR, moR] (by kernel_rfl)]
    obtain ⟨k, ρ3, ag3, ⟨hy, hs, he⟩, hL3⟩ := Le.cS_ok ρ2 ⟨hg2, hg1.l1, hg1.l2⟩
    have m3 := m2.agree ag3 (by kernel_rfl)
    rw [X.belL_den ag3 [puR, moR] (by kernel_rfl)]
    have hy3 : LoopOk Try.prog ρ3 Try.f8.ntmps y0_c y0 := LoopOk.agree (B := 1000) (by kernel_rfl) rfl (by kernel_rfl) ag3 hy2
    have hz3 : LoopOk Try.prog ρ3 Try.f8.ntmps y2_c y2 := LoopOk.agree (B := 1000) (by kernel_rfl) rfl (by kernel_rfl) ag3 hL2
    have l1 := hy.lg.l1
    have l2 := hy.lg.l2
    have l3 := hy.lg.l3
    have e3 := hs.e3
    have e4 := hs.e4
    have h3 : ρ3.i 1003 = ρ3.len 601 := by omega
    have g := askF_ok (c := ⟨cfgL ksE lpM2, l_able, HFL⟩) (cfgL_ok (List.forall_mem_cons.2 ⟨ent_ks l2 he hs.eq, ksM_ok m3⟩) (lpM2_ok hy3 hz3 hL3)) l_able_ok
      (all_ok (lim0_ok m3) (all_ok (all_ok (f6_ok l1 l2) (f2_ok hy.o1 hy.o2 l3)) (fE_ok l1 l2 he h3 (by omega)))) (f := 8) (args := [puR, moR]) (r := .sc (.b (.eq (.var 1003) (.len 601)))) ((congrArg (T.sel _) once2_run).trans rfl)
    rw [eq_den (by rw [deq_t]; exact h3)] at g
    exact g.2 0 []
def bMo : Bind := ⟨[], [], [], [(0, .len 1, .var 1 ka)]⟩
/-- The law, over letters of any kind. -/
theorem lrn_cy' (ρ : Rho) : CY Try.prog 0 8 (X.denL ρ [puR, moR]) [] (.sc (.bool true)) [] := by
  by_cases h0 : ρ.len 0 ≤ 400
  · obtain ⟨b, hk, hm⟩ := much_cy ρ (by omega)
    let β : Bind := ⟨[], [(90, .lit b)], [], []⟩
    have ag : Agree 90 ρ (β.ap ρ) := Bind.agree rfl ρ
    have k : kOk (β.ap ρ) (10, [puR], .sc (.b (.var 90))) := ⟨hk, fun n hp => by
      have := hm n hp
      rw [X.belL_den ag [puR] (by kernel_rfl)] at this
      exact this⟩
    have hb : (β.ap ρ).b 90 = b := rfl
    rw [X.belL_den ag [puR, moR] (by kernel_rfl)]
    have l0 : (β.ap ρ).len 0 ≤ 400 := by rw [← ag.len 0 (by decide)]; exact h0
    generalize β.ap ρ = ρ1 at k hb l0
    have hc := cfgL_ok (ρ := ρ1) (ks := ksA) (lp := fun _ => []) (List.forall_mem_cons.2 ⟨k, List.forall_mem_nil _⟩) (fun _ _ _ => LpsOk.nil _ _ _ _)
    cases b with
    | true =>
      have g := askF_ok (c := ⟨cfgL ksA (fun _ => []), l_able, HFL⟩) hc l_able_ok
        (Facts.ok_cons (show (BE.var 90).den ρ1 = true from hb) (Facts.ok_nil ρ1)) (f := 8) (args := [puR, moR]) (r := .sc (.b (.lit true))) ((congrArg (T.sel _) onceM_run).trans rfl)
      exact g.2 0 []
    | false =>
      by_cases h1 : ρ1.len 1 ≤ 400
      · have hml : (bMo.ap ρ1).len 0 = ρ1.len 1 := by show (IE.den ρ1 (.len 1)).toNat = _; simp only [IE.den, Int.toNat_natCast]
        obtain ⟨b2, hk2, hm2⟩ := much_cy (bMo.ap ρ1) (by omega)
        let β2 : Bind := ⟨[], [(91, .lit b2)], [], []⟩
        have ag2 : Agree 91 ρ1 (β2.ap ρ1) := Bind.agree rfl ρ1
        have k2 : kOk (β2.ap ρ1) (10, [moR], .sc (.b (.var 91))) := ⟨hk2, fun n hp => by
          have := hm2 n hp
          rw [← args_eq (by kernel_rfl) ρ1 (p := [puR]) (e := [moR]) (by kernel_rfl), X.belL_den ag2 [moR] (by kernel_rfl)] at this
          exact this⟩
        have k1 := kOk.agree ag2 (by kernel_rfl) k
        have hb2 : (β2.ap ρ1).b 91 = b2 := rfl
        have hb1 : (β2.ap ρ1).b 90 = false := by rw [← ag2.b 90 (by decide)]; exact hb
        rw [X.belL_den ag2 [puR, moR] (by kernel_rfl)]
        have l1 : (β2.ap ρ1).len 0 ≤ 400 := by rw [← ag2.len 0 (by decide)]; exact l0
        have l2 : (β2.ap ρ1).len 1 ≤ 400 := by rw [← ag2.len 1 (by decide)]; exact h1
        generalize β2.ap ρ1 = ρ2 at k1 k2 hb1 hb2 l1 l2
        cases b2 with
        | true =>
          have hc2 := cfgL_ok (ρ := ρ2) (ks := ksM) (lp := fun _ => []) (List.forall_mem_cons.2 ⟨k1, List.forall_mem_cons.2 ⟨k2, List.forall_mem_nil _⟩⟩) (fun _ _ _ => LpsOk.nil _ _ _ _)
          have g := askF_ok (c := ⟨cfgL ksM (fun _ => []), l_able, HFL⟩) hc2 l_able_ok
            (Facts.ok_cons (show (BE.var 90).den ρ2 = false from hb1) (Facts.ok_cons (show (BE.var 91).den ρ2 = true from hb2) (Facts.ok_nil ρ2))) (f := 8) (args := [puR, moR]) (r := .sc (.b (.lit true))) ((congrArg (T.sel _) onceN_run).trans rfl)
          exact g.2 0 []
        | false => exact lrn_at ρ2 ⟨hb1, hb2, l1, l2, k1, k2⟩
      · have g := askF_ok (c := ⟨cfgL ksA (fun _ => []), l_able, HFL⟩) hc l_able_ok
          (Facts.ok_cons (show (BE.var 90).den ρ1 = false from hb) (Facts.ok_cons (show (BE.lt (.lit 400) (.len 1)).den ρ1 = true by rw [dlt_t]; simp only [IE.den]; omega) (Facts.ok_nil ρ1))) (f := 8) (args := [puR, moR]) (r := .sc (.b (.lit true))) ((congrArg (T.sel _) onceB_run).trans rfl)
        exact g.2 0 []
  · have g := askF_ok (c := ⟨cfg [], l_able, HFL⟩) (cfg_ok (List.forall_mem_nil _)) l_able_ok
      (Facts.ok_cons (show (BE.lt (.lit 400) (.len 0)).den ρ = true by rw [dlt_t]; simp only [IE.den]; omega) (Facts.ok_nil ρ)) (f := 8) (args := [puR, moR]) (r := .sc (.b (.lit true))) ((congrArg (T.sel _) onceA_run).trans rfl)
    exact g.2 0 []
theorem lrn_cy (ρ : Rho) : CY Try.prog 0 8 (X.denL ρ (pats 0 0 lrnSh)) [] (.sc (.bool true)) [] := by
  rw [lrn_pats]; exact lrn_cy' ρ
end Go.Proofs.Ytonefailiekemaa
