/- ChartHomes: whatever the arguments, the call returns true. -/
import Derived.Test.YtnlniclnonnigaaXL1
import Derived.Test.YtnlniclnonnigaaXP
import Derived.Test.YtnlniclnonnigaaXwM2
namespace Go.Proofs.Ytnlniclnonnigaa
open Go Go.Proofs.Aw Go.Proofs.Xw
def beT : T X → BE
  | .ret x => x.be
  | _ => .lit false
theorem far_eq {x x' y y' : Int} (hx : x = x') (hy : y = y') : IntKind.i64.wrap (IntKind.i64.wrap (x * x) + IntKind.i64.wrap (y * y)) = IntKind.i64.wrap (IntKind.i64.wrap (x' * x') + IntKind.i64.wrap (y' * y')) := by subst hx hy; rfl
theorem homes0_true (ρ : Rho) : (beT homes0).den ρ = true := by
  simp only [homes0, beT, X.be, dand_t, dand_f, dite_t, deq_t, deq_f, dnot_t, IE.den, IOp.den]
  generalize bits .and .i64 (ρ.i 1) 63 = c
  generalize bits .and .i64 (ρ.i 2) 63 = r
  generalize bits .and .i64 (ρ.i 3) 63 = a
  generalize bits .and .i64 (ρ.i 4) 63 = b
  omega
theorem homes1_true (ρ : Rho) : (beT homes1).den ρ = true := by
  simp only [homes1, beT, X.be, dand_t, dand_f, dite_t, deq_t, deq_f, dnot_t, IE.den, IOp.den]
  generalize bits .and .i64 (ρ.i 1) 63 = c
  generalize bits .and .i64 (ρ.i 2) 63 = r
  generalize bits .and .i64 (ρ.i 3) 63 = a
  generalize bits .and .i64 (ρ.i 4) 63 = b
  refine ⟨far_eq (by omega) (by omega), ?_⟩
  omega
theorem homes2_true (ρ : Rho) : (beT homes2).den ρ = true := by
  simp only [homes2, beT, X.be, dand_t, dand_f, dite_t, deq_t, deq_f, dnot_t, IE.den, IOp.den]
  generalize bits .and .i64 (ρ.i 1) 63 = c
  generalize bits .and .i64 (ρ.i 2) 63 = r
  generalize bits .and .i64 (ρ.i 3) 63 = a
  generalize bits .and .i64 (ρ.i 4) 63 = b
  refine ⟨far_eq (by omega) (by omega), ?_⟩
  omega
theorem homes3_true (ρ : Rho) : (beT homes3).den ρ = true := by
  simp only [homes3, beT, X.be, dand_t, dand_f, dite_t, deq_t, deq_f, dnot_t, IE.den, IOp.den]
  generalize bits .and .i64 (ρ.i 1) 63 = c
  generalize bits .and .i64 (ρ.i 2) 63 = r
  generalize bits .and .i64 (ρ.i 3) 63 = a
  generalize bits .and .i64 (ρ.i 4) 63 = b
  refine ⟨far_eq (by omega) (by omega), ?_⟩
  omega
theorem homesG {ρ : Rho} {Φ : Facts} (hk : Facts.ok ρ Φ) {t : T X} (hr : askF ⟨cfg [], l_able, []⟩ 3 [iV 0, iV 1, iV 2, iV 3, iV 4] Φ = t) (hs : t = .ret (.sc (.b (beT t)))) (ht : (beT t).den ρ = true) : CY Try.prog 0 3 (X.denL ρ [iV 0, iV 1, iV 2, iV 3, iV 4]) [] (.sc (.bool true)) [] := by
  have g := (askF_ok (c := ⟨cfg [], l_able, []⟩) (cfg_ok (List.forall_mem_nil _)) l_able_ok hk (r := .sc (.b (beT t))) (by rw [hr, hs]; rfl)).2 0 []
  have e : X.den ρ (.sc (.b (beT t))) = .sc (.bool true) := congrArg (fun b => AV.sc (.bool b)) ht
  rw [e] at g
  exact g
theorem homes_cy (ρ : Rho) : CY Try.prog 0 3 (X.denL ρ [iV 0, iV 1, iV 2, iV 3, iV 4]) [] (.sc (.bool true)) [] := by
  have h0 := Facts.ok_nil ρ
  refine spl (.eq dcE (.lit 0)) h0 (fun h => homesG h homes0_run rfl (homes0_true ρ)) fun h => ?_
  refine spl (.eq dcE (.lit 1)) h0 (fun h => homesG h homes1_run rfl (homes1_true ρ)) fun h1 => ?_
  refine spl (.eq dcE (.lit 2)) h0 (fun h => homesG h homes2_run rfl (homes2_true ρ)) fun h2 => ?_
  have h3 : (BE.eq dcE (.lit 3)).den ρ = true := by
    have a0 := h _ List.mem_cons_self
    have a1 := h1 _ List.mem_cons_self
    have a2 := h2 _ List.mem_cons_self
    rw [deq_f] at a0 a1 a2
    rw [deq_t]
    have m := mask_le .i64 (.inl rfl) (bits .and .i64 (ρ.i 0) 63) 3 (by decide) (by decide)
    simp only [dcE, IE.den, IOp.den] at a0 a1 a2 ⊢
    omega
  exact homesG (Facts.ok_cons h3 h0) homes3_run rfl (homes3_true ρ)
def homesSh : List Sh := [.flat [.i .i64] false, .flat [.i .i64] false, .flat [.i .i64] false, .flat [.i .i64] false, .flat [.i .i64] false]
theorem homes_pats : pats 0 0 homesSh = [iV 0, iV 1, iV 2, iV 3, iV 4] := by kernel_rfl
end Go.Proofs.Ytnlniclnonnigaa
