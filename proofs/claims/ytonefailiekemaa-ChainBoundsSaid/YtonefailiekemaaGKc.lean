/- ChainBounds: a round's own letters: what the rosters' functions answer. -/
import Derived.Test.YtonefailiekemaaFKb
import Derived.Test.YtonefailiekemaaFB0
namespace Go.Proofs.Ytonefailiekemaa
open Go Go.Proofs.Aw Go.Proofs.Xw
set_option maxRecDepth 100000
def kOk (ρ : Rho) (p : Nat × List X × X) : Prop := Kc p.1 (X.denL ρ p.2.1) (p.2.2.den ρ)
theorem kOk.agree {B : Nat} {ρ ρ' : Rho} (h : Agree B ρ ρ') {p : Nat × List X × X} (hb : (X.belL B p.2.1 && p.2.2.bel B) = true) (k : kOk ρ p) : kOk ρ' p := by
  simp only [Bool.and_eq_true] at hb
  refine ⟨k.1, fun n hp => ?_⟩
  rw [← X.belL_den h _ hb.1, ← X.bel_den h _ hb.2]
  exact k.2 n hp
def ksBel (B : Nat) (ks : List (Nat × List X × X)) : Bool := ks.all fun p => X.belL B p.2.1 && p.2.2.bel B
theorem ks_agree {B : Nat} {ρ ρ' : Rho} (h : Agree B ρ ρ') {ks : List (Nat × List X × X)} (hb : ksBel B ks = true) (k : ∀ p ∈ ks, kOk ρ p) : ∀ p ∈ ks, kOk ρ' p :=
  fun p hp => (k p hp).agree h (List.all_eq_true.1 hb p hp)
theorem ks_app {ρ : Rho} {a b : List (Nat × List X × X)} (h : ∀ p ∈ a, kOk ρ p) (k : ∀ p ∈ b, kOk ρ p) : ∀ p ∈ a ++ b, kOk ρ p := fun p hp => (List.mem_append.1 hp).elim (h p) (k p)
theorem ks_nil {ρ : Rho} : ∀ p ∈ ([] : List (Nat × List X × X)), kOk ρ p := List.forall_mem_nil _
theorem ks_cons {ρ : Rho} {q : Nat × List X × X} {ks : List (Nat × List X × X)} (h : kOk ρ q) (k : ∀ p ∈ ks, kOk ρ p) : ∀ p ∈ q :: ks, kOk ρ p := List.forall_mem_cons.2 ⟨h, k⟩
theorem args_eq {β : Bind} (hg : β.ge 0 = true) (ρ : Rho) {p e : List X} (h : okXL 0 β id p e = true) : X.denL ρ e = X.denL (β.ap ρ) p := by
  rw [okXL_den hg (ρ := ρ) p e h, renL_id]
/-- A contract over letters, used where they are bound. -/
theorem kc_use {f : Nat} {β : Bind} (hg : β.ge 0 = true) {ρ ρ' : Rho} {B : Nat} {p e : List X} {r : AV} (h : okXL 0 β id p e = true) (ag : Agree B ρ ρ') (hb : X.belL B e = true) (k : Kc f (X.denL (β.ap ρ) p) r) : Kc f (X.denL ρ' e) r := by
  rw [← X.belL_den ag e hb, args_eq hg ρ h]
  exact k
def bC (m : IE) : Bind := ⟨[(0, .var 210), (1, .var 211), (2, .var 212), (3, .var 213), (4, .var 214), (5, .var 215), (6, .var 216), (7, .var 217), (8, .var 218), (9, .var 219), (11, .var 221), (12, .var 222), (13, m)], [(10, .var 220)], [], []⟩
def bA : Bind := ⟨[(0, (.cl 0 5 (.var 200))), (1, (.cl 0 6 (.var 200))), (2, (.cl 0 7 (.var 200))), (3, (.cl 0 8 (.var 200))), (4, (.cl 0 9 (.var 200))), (5, (.cl 0 10 (.var 200))), (6, (.cl 0 11 (.var 200))), (7, (.cl 0 12 (.var 200))), (8, (.cl 0 13 (.var 200))), (9, (.cl 0 14 (.var 200))), (11, (.cl 0 16 (.var 200))), (12, (.cl 0 17 (.var 200))), (13, (.var 206))], [(10, (.cl 0 15 (.var 200)))], [], []⟩
/-- The chain is right. -/
def Cf (ρ : Rho) : Prop := rgB.den ((bC (.var 206)).ap ρ) = true
/-- The last full member. -/
def lsV (ρ : Rho) : Int := lsE.den ((bC (.var 206)).ap ρ)
structure Rk (ρ ρ' : Rho) : Prop where
  ks : ∀ p ∈ ksRos, kOk ρ' p
  e : 1 ≤ ρ.i 210
  hd : 0 ≤ ρ'.i 301
  ls : 0 ≤ ρ'.i 302 ∧ ρ'.i 302 = lsV ρ
theorem ksRos_bel : ksBel 306 ksRos = true := by kernel_rfl
theorem ros_ks (ρ : Rho) (hc : Cf ρ) : ∃ ρ', Agree 300 ρ ρ' ∧ Rk ρ ρ' := by
  obtain ⟨hd, ls, ah, bh, sn, fu, R, G⟩ := ros_cy ((bC (.var 206)).ap ρ)
  have hc' : rgB.den ((bC (.var 206)).ap ρ) = true := hc
  have G := G hc'
  let β : Bind := ⟨[(301, .lit hd), (302, .lit ls), (303, .lit ah), (304, .lit bh)], [(305, .lit fu)], [], []⟩
  have ag : Agree 300 ρ (β.ap ρ) := Bind.agree rfl ρ
  have u1 := fun {f : Nat} {r : AV} (k : Kc f (X.denL ((bC (.var 206)).ap ρ) [cfgV 0]) r) => kc_use (e := [cfX]) (by kernel_rfl) (by kernel_rfl) ag (by kernel_rfl) k
  have u2 := fun {f : Nat} {r : AV} (k : Kc f (X.denL ((bC (.var 206)).ap ρ) [cfgV 0, iV 13]) r) => kc_use (e := [cfX, iV 206]) (by kernel_rfl) (by kernel_rfl) ag (by kernel_rfl) k
  exact ⟨β.ap ρ, ag, ks_cons (u1 R.c81) (ks_cons (u1 R.c102) (ks_cons (u1 R.c80) (ks_cons (u1 R.c103) (ks_cons (u2 R.c56) (ks_cons (u2 R.c99) (ks_cons (u2 R.c55) (ks_cons (u2 R.c100) (ks_cons (u2 R.c57) (ks_cons (u2 R.c101) ks_nil))))))))), G.e, G.hd.1, G.ls⟩
/-- Whether another node is a full member. -/
theorem full_ks (ρ : Rho) {m : X} {e : IE} (h1 : okXL 0 (bC e) id [cfgV 0, iV 13] [cfX, m] = true) (hg : (bC e).ge 0 = true) (hb : X.belL 308 [cfX, m] = true) : ∃ ρ', Agree 308 ρ ρ' ∧ ∀ p ∈ ksH m, kOk ρ' p := by
  obtain ⟨hd, ls, ah, bh, sn, fu, R, _⟩ := ros_cy ((bC e).ap ρ)
  let β : Bind := ⟨[], [(308, .lit fu)], [], []⟩
  have ag : Agree 308 ρ (β.ap ρ) := Bind.agree rfl ρ
  exact ⟨β.ap ρ, ag, ks_cons (kc_use hg h1 ag hb R.c57) (ks_cons (kc_use hg h1 ag hb R.c101) ks_nil)⟩
/-- The chain that is handed in. -/
structure Ek (ρ ρ' : Rho) : Prop where
  ks : ∀ p ∈ ksE (rgB.den (bA.ap ρ)), kOk ρ' p
  g : rgB.den (bA.ap ρ) = true → 1 ≤ (IE.cl 0 5 (.var 200)).den ρ ∧ 0 ≤ ρ'.i 306 ∧ 0 ≤ ρ'.i 307 ∧ ρ'.i 307 = lsE.den (bA.ap ρ)
theorem enter_ks (ρ : Rho) : ∃ ρ', Agree 306 ρ ρ' ∧ Ek ρ ρ' := by
  obtain ⟨hd, ls, ah, bh, sn, fu, R, G⟩ := ros_cy (bA.ap ρ)
  let β : Bind := ⟨[(306, .lit sn), (307, .lit ls)], [], [], []⟩
  have ag : Agree 306 ρ (β.ap ρ) := Bind.agree rfl ρ
  have u1 := fun {f : Nat} {r : AV} (k : Kc f (X.denL (bA.ap ρ) [cfgV 0]) r) => kc_use (e := [cfgA]) (by kernel_rfl) (by kernel_rfl) ag (by kernel_rfl) k
  have u2 := fun {f : Nat} {r : AV} (k : Kc f (X.denL (bA.ap ρ) [cfgV 0, iV 13]) r) => kc_use (e := [cfgA, iV 206]) (by kernel_rfl) (by kernel_rfl) ag (by kernel_rfl) k
  exact ⟨β.ap ρ, ag, ks_cons (u1 R.c42) (ks_cons (u1 R.c89) (ks_cons (u2 R.c43) (ks_cons (u2 R.c90) (ks_cons (u1 R.c80) (ks_cons (u1 R.c103) ks_nil))))), fun h => ⟨(G h).e, (G h).sn, (G h).ls.1, (G h).ls.2⟩⟩
/-- A write that is tried. -/
def bE (e : X) : Bind := bindF [] ⟨[(0, eP)], [], 0⟩ ⟨[(0, e)], [], 0⟩
theorem re_ks {e : X} (hg : (bE e).ge 0 = true) (he : okXL 0 (bE e) id [eP] [e] = true) (ρ : Rho) : ∃ b : Bool, (∀ p ∈ eT b e, kOk ρ p) ∧ (b = true → (0 ≤ ((bE e).ap ρ).i 0 ∧ ((bE e).ap ρ).i 0 < 3) ∧ (0 ≤ ((bE e).ap ρ).i 1 ∧ ((bE e).ap ρ).i 1 < 3) ∧ ((bE e).ap ρ).i 2 ≤ 1099511627776) := by
  obtain ⟨k1, k2⟩ := re2_cy ((bE e).ap ρ)
  have ha := args_eq hg ρ (p := [eP]) (e := [e]) he
  rw [← ha] at k1 k2
  exact ⟨reE.den ((bE e).ap ρ), ks_cons k1 (ks_cons k2 ks_nil), fun h => reE_dot h⟩
end Go.Proofs.Ytonefailiekemaa
