/- ChainLearns: what all its loops share. -/
import Derived.Test.YtonefailiekemaaXCr
import Derived.Test.YtonefailiekemaaXwM3
namespace Go.Proofs.Ytonefailiekemaa
open Go Go.Proofs.Aw Go.Proofs.Xw
set_option maxRecDepth 100000
def kOk (ρ : Rho) (p : Nat × List X × X) : Prop := hasBody Try.prog p.1 = true ∧ ∀ n h, CY Try.prog n p.1 (X.denL ρ p.2.1) h (p.2.2.den ρ) []
theorem kOk.agree {B : Nat} {ρ ρ' : Rho} (h : Agree B ρ ρ') {p : Nat × List X × X} (hb : (X.belL B p.2.1 && p.2.2.bel B) = true) (k : kOk ρ p) : kOk ρ' p := by
  simp only [Bool.and_eq_true] at hb
  refine ⟨k.1, fun n hp => ?_⟩
  rw [← X.belL_den h _ hb.1, ← X.bel_den h _ hb.2]
  exact k.2 n hp
theorem args_eq {β : Bind} (hg : β.ge 0 = true) (ρ : Rho) {p e : List X} (h : okXL 0 β id p e = true) : X.denL ρ e = X.denL (β.ap ρ) p := by
  rw [okXL_den hg (ρ := ρ) p e h, renL_id]
/-- Whether a write is right: it has an answer. -/
theorem re_cy (ρ : Rho) : ∃ b : Bool, hasBody Try.prog 18 = true ∧ ∀ n hp, CY Try.prog n 18 (X.denL ρ [eP]) hp (.sc (.bool b)) [] := by
  have g := fun r (hr : reR.sel ρ = some r) => askF_ok (c := ⟨cfg [], l_able, HFL⟩) (cfg_ok (List.forall_mem_nil _)) l_able_ok (Facts.ok_nil ρ) (by rw [reR_run]; exact hr)
  have g := g _ (by unfold reR; rfl)
  exact ⟨_, g⟩
theorem hb18 : hasBody Try.prog 18 = true := by
  obtain ⟨_, h, _⟩ := re_cy ⟨fun _ => 0, fun _ => false, fun _ => ⟨#[]⟩, fun _ => 0, fun _ _ _ => 0, fun _ _ _ => false, fun _ _ _ => ⟨#[]⟩⟩
  exact h
/-- The answer of a write that is tried, as the letter k. -/
theorem try_ks {e : X} {β : Bind} (k : Nat) (hg : β.ge 0 = true) (he : okXL 0 β id [eP] [e] = true) (hb : X.belL k [e] = true) (ρ : Rho) (hk : ∀ b, Bind.ge k ⟨[], [(k, .lit b)], [], []⟩ = true) :
    ∃ b : Bool, kOk (Bind.ap ⟨[], [(k, .lit b)], [], []⟩ ρ) (18, [e], .sc (.b (.var k))) := by
  obtain ⟨b, g⟩ := re_cy (β.ap ρ)
  refine ⟨b, g.1, fun n hp => ?_⟩
  have := g.2 n hp
  rw [← args_eq hg ρ (p := [eP]) (e := [e]) he, X.belL_den (Bind.agree (hk b) ρ) [e] hb] at this
  have h2 : X.den (Bind.ap ⟨[], [(k, .lit b)], [], []⟩ ρ) (.sc (.b (.var k))) = .sc (.bool b) := by
    show AV.sc (.bool ((Bind.ap ⟨[], [(k, .lit b)], [], []⟩ ρ).b k)) = _
    simp [Bind.ap, lassoc, BE.den]
  show CY Try.prog n 18 _ hp (X.den _ (.sc (.b (.var k)))) []
  rw [h2]
  exact this
/-- The write is right. -/
def REv (row : List AV) : Prop := ∀ n hp, CY Try.prog n 18 [.agg row] hp (.sc (.bool true)) []
theorem ap_i {β : Bind} {ρ : Rho} {k : Nat} {e : IE} (h : lassoc k β.i = some e) : (β.ap ρ).i k = e.den ρ := by simp only [Bind.ap, h]
theorem ap_b {β : Bind} {ρ : Rho} {k : Nat} {e : BE} (h : lassoc k β.b = some e) : (β.ap ρ).b k = e.den ρ := by simp only [Bind.ap, h]
theorem ap_len {β : Bind} {ρ : Rho} {k : Nat} {m : IE} {r : RL} (h : lassoc k β.r = some (m, r)) : (β.ap ρ).len k = (m.den ρ).toNat := by simp only [Bind.ap, h]
def scsOf : List X → List Sc
  | [] => []
  | .sc s :: l => s :: scsOf l
  | _ :: l => scsOf l
def aggOf : X → List X
  | .agg l => l
  | _ => []
theorem row_app (ρ : Rho) (n : IE) (a b : RL) (j : Int) : RL.row ρ (.app n a b) j = if j < n.den ρ then a.row ρ j else b.row ρ (j - n.den ρ) := rfl
theorem re_of {ρ : Rho} {e : X} {k : Nat} (he : e = .agg ((scsOf (aggOf e)).map X.sc)) (g : kOk ρ (18, [e], .sc (.b (.var k)))) (hb : ρ.b k = true) : REv (scL ρ (scsOf (aggOf e))) := fun n hp => by
  have := g.2 n hp
  have h1 : X.denL ρ [e] = [.agg (scL ρ (scsOf (aggOf e)))] := by
    conv => lhs; rw [he]
    generalize scsOf (aggOf e) = l
    have : X.denL ρ (l.map X.sc) = scL ρ l := by
      induction l with
      | nil => rfl
      | cons a l ih => simp only [List.map_cons, X.denL, X.den, scL] at ih ⊢; rw [ih]
    simp only [X.denL, X.den, this]
  rw [h1] at this
  have h2 : X.den ρ (.sc (.b (.var k))) = .sc (.bool true) := by
    show AV.sc (.bool (ρ.b k)) = _
    rw [hb]
  rw [h2] at this
  exact this
theorem all_ok {ρ : Rho} {Φ Ψ : Facts} (h : Facts.ok ρ Φ) (k : Facts.ok ρ Ψ) : Facts.ok ρ (Φ ++ Ψ) := fun p hp => (List.mem_append.1 hp).elim (h p) (k p)
theorem mm (a b : Int) (h : a ≤ b) : min a b = a := Int.min_eq_left h
theorem out_c {ρ : Rho} {N : Nat} {L M : LoopX} {c : Code} (h : LoopOk Try.prog ρ N c L) (hS : L.S = M.S) (hi : L.init = M.init) (hk : L.k0 = M.k0) (ho : L.out.sel ρ = M.out.sel ρ) : LoopOk Try.prog ρ N c M := by
  intro E hE hn
  have := h E hE (by rw [hk]; exact hn)
  rw [hS, hi, ho] at this
  exact this
end Go.Proofs.Ytonefailiekemaa
