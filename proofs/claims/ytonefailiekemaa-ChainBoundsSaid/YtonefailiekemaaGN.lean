/- ChainBounds: whatever the acts are, the law answers true. -/
import Derived.Test.YtonefailiekemaaGM1
namespace Go.Proofs.Ytonefailiekemaa
open Go Go.Proofs.Aw Go.Proofs.Xw
set_option maxRecDepth 100000
def bnSh : List Sh := [.flat [.i .i64] false, .flat [.i .i64] false, .flat [.i .i64] false, .sl ka]
def puR3 : X := .rl 50 (.len 3) (.var 3 ka) false
theorem bn_pats : pats 0 0 bnSh = [iV 0, iV 1, iV 2, puR3] := by kernel_rfl
def bBn : Bind := ⟨[(0, .var 0), (1, .var 1), (2, .var 2)], [], [], [(0, .len 3, .var 3 ka)]⟩
abbrev bnX : List X := [iV 0, iV 1, iV 2, puR]
theorem bn_at (ρ : Rho) (hb : ρ.b 90 = false) (h0 : ρ.len 0 ≤ 400) (k : kOk ρ (10, [puR], .sc (.b (.var 90)))) : CY Try.prog 0 6 (X.denL ρ bnX) [] (.sc (.bool true)) [] := by
  obtain ⟨i, ρf, ag, ⟨hLim, hR⟩, hL⟩ := cM_ok ρ hb h0
  have k' := kOk.agree ag (by kernel_rfl) k
  rw [X.belL_den ag bnX (by kernel_rfl)]
  have lim : Facts.ok ρf limM := Facts.ok_cons (show (BE.var 90).den _ = false from hLim.b) (one_ok (by rw [dlt_f]; simp only [IE.den]; have := hLim.l0; omega))
  have g := askF_ok (c := ⟨cfgL ksM lpM, l_able, HFL⟩) (cfgL_ok (List.forall_mem_cons.2 ⟨k', List.forall_mem_nil _⟩) (lpM_ok hL)) l_able_ok
    lim (f := 6) (args := bnX) (r := .sc (.b (.lit true))) ((congrArg (T.sel _) bnR_run).trans rfl)
  exact g.2 0 []
/-- The law, over letters of any kind. -/
theorem bn_cy' (ρ : Rho) : CY Try.prog 0 6 (X.denL ρ bnX) [] (.sc (.bool true)) [] := by
  by_cases h0 : ρ.len 0 ≤ 400
  · obtain ⟨b, hk, hm⟩ := much_cy ρ (by omega)
    let β : Bind := ⟨[], [(90, .lit b)], [], []⟩
    have ag : Agree 90 ρ (β.ap ρ) := Bind.agree rfl ρ
    have k : kOk (β.ap ρ) (10, [puR], .sc (.b (.var 90))) := ⟨hk, fun n hp => by
      have := hm n hp
      rw [X.belL_den ag [puR] (by kernel_rfl)] at this
      exact this⟩
    have hb : (β.ap ρ).b 90 = b := rfl
    rw [X.belL_den ag bnX (by kernel_rfl)]
    have l0 : (β.ap ρ).len 0 ≤ 400 := by rw [← ag.len 0 (by decide)]; exact h0
    generalize β.ap ρ = ρ1 at k hb l0
    cases b with
    | true =>
      have g := askF_ok (c := ⟨cfgL ksM (fun _ => []), l_able, HFL⟩) (cfgL_ok (List.forall_mem_cons.2 ⟨k, List.forall_mem_nil _⟩) (fun _ _ _ => LpsOk.nil _ _ _ _)) l_able_ok
        (Facts.ok_cons (show (BE.var 90).den ρ1 = true from hb) (Facts.ok_nil ρ1)) (f := 6) (args := bnX) (r := .sc (.b (.lit true))) ((congrArg (T.sel _) bnM_run).trans rfl)
      exact g.2 0 []
    | false => exact bn_at ρ1 hb l0 k
  · have g := askF_ok (c := ⟨cfg [], l_able, HFL⟩) (cfg_ok (List.forall_mem_nil _)) l_able_ok
      (Facts.ok_cons (show (BE.lt (.lit 400) (.len 0)).den ρ = true by rw [dlt_t]; simp only [IE.den]; omega) (Facts.ok_nil ρ)) (f := 6) (args := bnX) (r := .sc (.b (.lit true))) ((congrArg (T.sel _) bnA_run).trans rfl)
    exact g.2 0 []
theorem bn_cy (ρ : Rho) : CY Try.prog 0 6 (X.denL ρ (pats 0 0 bnSh)) [] (.sc (.bool true)) [] := by
  rw [bn_pats, args_eq (β := bBn) (by kernel_rfl) ρ (p := bnX) (e := [iV 0, iV 1, iV 2, puR3]) (by kernel_rfl)]
  exact bn_cy' _
end Go.Proofs.Ytonefailiekemaa
