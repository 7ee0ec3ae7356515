/- ChainOnce: the main loop, round by round. -/
import Derived.Test.YtonefailiekemaaXA2
namespace Go.Proofs.Ytonefailiekemaa
open Go Go.Proofs.Aw Go.Proofs.Xw
set_option maxRecDepth 100000
/-- No two writes of the log are of one operation. -/
def Un (ρ : Rho) : Prop := ∀ j k, j < k → k < ρ.len 201 → ¬ (ρ.ci 201 18 j = ρ.ci 201 18 k ∧ ρ.ci 201 19 j = ρ.ci 201 19 k)
structure Lim (ρ : Rho) : Prop where
  b : ρ.b 90 = false
  l0 : ρ.len 0 ≤ 400
  l1 : ρ.len 1 ≤ 400
  i0 : 0 ≤ ρ.i 200
  i1 : ρ.i 200 ≤ ρ.len 0 + ρ.len 1
theorem Lim.agree {ρ ρ' : Rho} (h : Agree 200 ρ ρ') (k : Lim ρ) (h0 : 0 ≤ ρ'.i 200) (h1 : ρ'.i 200 ≤ ρ.len 0 + ρ.len 1) : Lim ρ' :=
  ⟨by rw [← h.b 90 (by decide)]; exact k.b, by rw [← h.len 0 (by decide)]; exact k.l0, by rw [← h.len 1 (by decide)]; exact k.l1, h0, by rw [← h.len 0 (by decide), ← h.len 1 (by decide)]; exact h1⟩
theorem tmod_in (x n : Int) (h : 0 < n) : -n < x.tmod n ∧ x.tmod n < n := by
  have h1 := Int.tmod_lt_of_pos x h
  have h2 := Int.tmod_lt_of_pos (-x) h
  rw [Int.neg_tmod] at h2
  omega
theorem all_ok {ρ : Rho} {Φ Ψ : Facts} (h : Facts.ok ρ Φ) (k : Facts.ok ρ Ψ) : Facts.ok ρ (Φ ++ Ψ) := fun p hp => (List.mem_append.1 hp).elim (h p) (k p)
def e1 : BE := .or (.lt (.var 200) (.len 0)) (.and (.not (.lt (.op .sub .i64 (.var 200) (.len 0)) (.lit 0))) (.lt (.op .sub .i64 (.var 200) (.len 0)) (.len 1)))
def zE : IE := .op .rem .i64 (.op .add .i64 (.op .rem .i64 (.cl 1 0 (.op .sub .i64 (.var 200) (.len 0))) (.len 0)) (.len 0)) (.len 0)
def e2 : BE := .not (.and (.not (.lt (.var 200) (.len 0))) (.lt zE (.lit 0)))
theorem kF_ok {ρ : Rho} (h : Lim ρ) (h0 : 1 ≤ ρ.len 0) (hi : ρ.i 200 < ρ.len 0 + ρ.len 1) : Facts.ok ρ (kF ++ limC) ∧ e1.den ρ = true ∧ e2.den ρ = true := by
  obtain ⟨hb, l0, l1, i0, _⟩ := h
  have eS : (IE.op .sub .i64 (.var 200) (.len 0)).den ρ = ρ.i 200 - ρ.len 0 := by simp only [IE.den, IOp.den]; exact wrap_id _ (by omega) (by omega)
  have eA : (IE.op .add .i64 (.len 0) (.len 1)).den ρ = ρ.len 0 + ρ.len 1 := by simp only [IE.den, IOp.den]; exact wrap_id _ (by omega) (by omega)
  have eZ : 0 ≤ zE.den ρ ∧ zE.den ρ < ρ.len 0 := by
    unfold zE
    rw [IE.den, IOp.den]
    generalize hx : (IE.op .rem .i64 (.cl 1 0 (.op .sub .i64 (.var 200) (.len 0))) (.len 0)) = x
    have hx1 : -(ρ.len 0 : Int) < x.den ρ ∧ x.den ρ < ρ.len 0 := by rw [← hx, IE.den, IOp.den]; exact tmod_in _ _ (by show (0 : Int) < (ρ.len 0 : Int); omega)
    have hy : (IE.op .add .i64 x (.len 0)).den ρ = x.den ρ + ρ.len 0 := by simp only [IE.den, IOp.den]; exact wrap_id _ (by omega) (by omega)
    rw [hy]
    exact ⟨Int.tmod_nonneg _ (by omega), Int.tmod_lt_of_pos _ (by show (0 : Int) < (ρ.len 0 : Int); omega)⟩
  have f1 : e1.den ρ = true := by
    unfold e1
    rw [dor_t, dand_t, dnot_t, dlt_f, dlt_t, dlt_t, eS]
    simp only [IE.den]
    omega
  have f2 : e2.den ρ = true := by
    unfold e2
    rw [dnot_t, dand_f]
    exact .inr (by rw [dlt_f]; exact eZ.1)
  have hk : kE.den ρ = if (BE.not (.lt (.var 200) (.len 0))).den ρ = true then zE.den ρ else ρ.i 200 := rfl
  have eK : 0 ≤ kE.den ρ ∧ kE.den ρ < ρ.len 0 := by
    rw [hk]
    split
    · exact eZ
    · rename_i hc
      rw [dnot_t, dlt_f] at hc
      simp only [IE.den] at hc
      omega
  refine ⟨all_ok (Facts.ok_cons f1 (Facts.ok_cons f2 (Facts.ok_cons ?_ (Facts.ok_cons ?_ (Facts.ok_cons ?_ (Facts.ok_cons ?_ (Facts.ok_nil _))))))) (Facts.ok_cons hb (Facts.ok_cons ?_ (Facts.ok_cons ?_ (Facts.ok_cons ?_ (Facts.ok_nil _))))), f1, f2⟩
  · rw [dlt_f]; exact i0
  · rw [dlt_t, eA]; exact hi
  · rw [dlt_f]; exact eK.1
  · rw [dlt_t]; exact eK.2
  · rw [dlt_f]; simp only [IE.den]; omega
  · rw [dlt_f]; simp only [IE.den]; omega
  · rw [dlt_f]; simp only [IE.den]; omega

/-! ### What is put at a round's end -/
theorem ap_i {β : Bind} {ρ : Rho} {k : Nat} {e : IE} (h : lassoc k β.i = some e) : (β.ap ρ).i k = e.den ρ := by simp only [Bind.ap, h]
theorem ap_b {β : Bind} {ρ : Rho} {k : Nat} {e : BE} (h : lassoc k β.b = some e) : (β.ap ρ).b k = e.den ρ := by simp only [Bind.ap, h]
theorem ap_len {β : Bind} {ρ : Rho} {k : Nat} {m : IE} {r : RL} (h : lassoc k β.r = some (m, r)) : (β.ap ρ).len k = (m.den ρ).toNat := by simp only [Bind.ap, h]
theorem ap_ci {β : Bind} {ρ : Rho} {k : Nat} {m : IE} {r : RL} (h : lassoc k β.r = some (m, r)) (c j : Nat) : (β.ap ρ).ci k c j = cellI (r.row ρ j)[c]? := by simp only [Bind.ap, h]
theorem bC_r : lassoc 201 bC.r = some (.len 201, .var 201 ke) := by kernel_rfl
theorem bD_r : lassoc 201 bD.r = some (.len 201, .var 201 ke) := by kernel_rfl
noncomputable def nB : List Sc := match lassoc 201 bB.r with
  | some (_, .one s) => s
  | _ => []
theorem bB_r : lassoc 201 bB.r = some (.lit 1, .one nB) := by kernel_rfl
noncomputable def nE : List Sc := match lassoc 201 bE.r with
  | some (_, .app _ _ (.one s)) => s
  | _ => []
theorem bE_r : lassoc 201 bE.r = some (.op .padd .i64 (.len 201) (.lit 1), .app (.len 201) (.var 201 ke) (.one nE)) := by kernel_rfl
theorem nE_18 : nE[18]? = some (.i .i64 (.cl 0 2 kE)) := by kernel_rfl
theorem nE_19 : nE[19]? = some (.i .i64 (.cl 0 3 kE)) := by kernel_rfl
theorem same_un {β : Bind} (h : lassoc 201 β.r = some (.len 201, .var 201 ke)) (ρ : Rho) : (β.ap ρ).len 201 = ρ.len 201 ∧ (Un ρ → Un (β.ap ρ)) := by
  have hl : (β.ap ρ).len 201 = ρ.len 201 := by rw [ap_len h]; simp only [IE.den, Int.toNat_natCast]
  refine ⟨hl, fun hu j k hj hk => ?_⟩
  rw [hl] at hk
  rw [ap_ci h, ap_ci h, ap_ci h, ap_ci h]
  exact hu j k hj hk
theorem one_un {β : Bind} {s : List Sc} (h : lassoc 201 β.r = some (.lit 1, .one s)) (ρ : Rho) : (β.ap ρ).len 201 = 1 ∧ Un (β.ap ρ) := by
  have hl : (β.ap ρ).len 201 = 1 := by rw [ap_len h]; rfl
  exact ⟨hl, fun j k hj hk => by omega⟩
theorem row_app (ρ : Rho) (n : IE) (a b : RL) (j : Int) : RL.row ρ (.app n a b) j = if j < n.den ρ then a.row ρ j else b.row ρ (j - n.den ρ) := rfl
theorem more_un (ρ : Rho) (hn : ∀ j, j < ρ.len 201 → hitL ρ j = false) (hu : Un ρ) : (bE.ap ρ).len 201 = ρ.len 201 + 1 ∧ Un (bE.ap ρ) := by
  have hl : (bE.ap ρ).len 201 = ρ.len 201 + 1 := by rw [ap_len bE_r]; simp only [IE.den, IOp.den]; omega
  refine ⟨hl, fun j k hj hk => ?_⟩
  rw [hl] at hk
  rw [ap_ci bE_r, ap_ci bE_r, ap_ci bE_r, ap_ci bE_r]
  have old : ∀ c j : Nat, j < ρ.len 201 → cellI (RL.row ρ (.app (.len 201) (.var 201 ke) (.one nE)) j)[c]? = cellI (RL.row ρ (.var 201 ke) j)[c]? := fun c j hj => by
    rw [row_app, if_pos (by show (j : Int) < (ρ.len 201 : Int); omega)]
  have new : ∀ c : Nat, cellI (RL.row ρ (.app (.len 201) (.var 201 ke) (.one nE)) (ρ.len 201))[c]? = cellI (scL ρ nE)[c]? := fun c => by
    rw [row_app, if_neg (by show ¬ (ρ.len 201 : Int) < (ρ.len 201 : Int); omega)]
    rfl
  rw [old _ j (by omega), old _ j (by omega)]
  by_cases hkl : k < ρ.len 201
  · rw [old _ k hkl, old _ k hkl]
    exact hu j k hj hkl
  · obtain rfl : k = ρ.len 201 := by omega
    rw [new, new]
    simp only [scL, List.getElem?_map, nE_18, nE_19, Option.map_some, Sc.den, cellI]
    have := hn j (by omega)
    intro hq
    have h1 : ρ.ci 201 18 j = (IE.cl 0 2 kE).den ρ := hq.1
    have h2 : ρ.ci 201 19 j = (IE.cl 0 3 kE).den ρ := hq.2
    simp [hitL, h1, h2] at this
end Go.Proofs.Ytonefailiekemaa
