/- Chains: what the functions of a roster answer, at any chain and any node: the program's and the document's alike. -/
import Derived.Test.YtonefailiekemaaFA1
import Derived.Test.YtonefailiekemaaFR
namespace Go.Proofs.Ytonefailiekemaa
open Go Go.Proofs.Aw Go.Proofs.Xw
set_option maxRecDepth 100000
def Kc (f : Nat) (args : List AV) (r : AV) : Prop := hasBody Try.prog f = true ∧ ∀ n hp, CY Try.prog n f args hp r []
/-- What the functions answer. -/
structure Ros (ρ : Rho) (ok : Bool) (hd ls ah bh sn : Int) (fu : Bool) : Prop where
  c42 : Kc 42 (X.denL ρ [cfgV 0]) (.sc (.bool ok))
  c89 : Kc 89 (X.denL ρ [cfgV 0]) (.sc (.bool ok))
  c81 : Kc 81 (X.denL ρ [cfgV 0]) (.sc (.int .i64 hd))
  c102 : Kc 102 (X.denL ρ [cfgV 0]) (.sc (.int .i64 hd))
  c80 : Kc 80 (X.denL ρ [cfgV 0]) (.sc (.int .i64 ls))
  c103 : Kc 103 (X.denL ρ [cfgV 0]) (.sc (.int .i64 ls))
  c56 : Kc 56 (X.denL ρ [cfgV 0, iV 13]) (.sc (.int .i64 ah))
  c99 : Kc 99 (X.denL ρ [cfgV 0, iV 13]) (.sc (.int .i64 ah))
  c55 : Kc 55 (X.denL ρ [cfgV 0, iV 13]) (.sc (.int .i64 bh))
  c100 : Kc 100 (X.denL ρ [cfgV 0, iV 13]) (.sc (.int .i64 bh))
  c43 : Kc 43 (X.denL ρ [cfgV 0, iV 13]) (.sc (.int .i64 sn))
  c90 : Kc 90 (X.denL ρ [cfgV 0, iV 13]) (.sc (.int .i64 sn))
  c57 : Kc 57 (X.denL ρ [cfgV 0, iV 13]) (.sc (.bool fu))
  c101 : Kc 101 (X.denL ρ [cfgV 0, iV 13]) (.sc (.bool fu))
def RHF : List Nat := [105, 82, 106, 84, 51]
theorem rosK {ρ : Rho} {c : Cfg} {f : Nat} {args pat : List X} {Φ Ψ : Facts} {r : X} (hk : Facts.ok ρ Φ) (hc : CfgOk Try.prog ρ c) (hr : askF ⟨c, [], RHF⟩ f pat Ψ = .ret r) (hl : X.likeL Φ args pat = true := by kernel_rfl) (hf : Ψ.all (sees Φ) = true := by kernel_rfl) : Kc f (X.denL ρ args) (r.den ρ) := by
  rw [X.likeL_ok hk _ _ hl]
  exact askF_ok (c := ⟨c, [], RHF⟩) hc (List.forall_mem_nil _) (seesAll hk hf) (by rw [hr]; rfl)
theorem rosS {ρ : Rho} {s : Sm} {args : List X} {Φ : Facts} {b : Bool} (hk : Facts.ok ρ Φ) (hs : SmOk Try.prog s) (hb : s.r.den ρ = .sc (.bool b)) (hl : X.likeL Φ args s.pat = true := by kernel_rfl) : Kc s.f (X.denL ρ args) (.sc (.bool b)) := by
  rw [X.likeL_ok hk _ _ hl, ← hb]
  exact ⟨hs.1, hs.2 ρ⟩
theorem fOf {ρ : Rho} {Φ : Facts} (hk : Facts.ok ρ Φ) (c : BE) (b : Bool) (h : sees Φ (c, b) = true) : c.den ρ = b := sees_ok (p := (c, b)) hk h
/-- Of a chain that is right. -/
structure Gd (ρ : Rho) (hd ls sn : Int) : Prop where
  e : 1 ≤ ρ.i 0
  hd : 0 ≤ hd ∧ hd = ρ.i 2
  ls : 0 ≤ ls ∧ ls = lsE.den ρ
  sn : 0 ≤ sn
theorem ros_1t {ρ : Rho} (h : Facts.ok ρ [(.eq (.var 1) (.lit 1), true), (.var 10, true)]) : ∃ hd ls ah bh sn fu, Ros ρ (rg_1t.den ρ) hd ls ah bh sn fu ∧ (rg_1t.den ρ = true → Gd ρ hd ls sn) := by
  cases hg : rg_1t.den ρ with
  | false =>
    have c : CfgOk Try.prog ρ (cQ false 1 true) := cfgL_ok (List.forall_mem_cons.2 ⟨⟨r42_1t_ok.1, fun n h => by
      have g := r42_1t_ok.2 ρ n h
      rw [show X.den ρ r42_1t.r = .sc (.bool false) from congrArg (fun b => AV.sc (.bool b)) ((eqv_1t ρ).trans hg)] at g
      exact g⟩, List.forall_mem_cons.2 ⟨⟨r89_1t_ok.1, fun n h => by
      have g := r89_1t_ok.2 ρ n h
      rw [show X.den ρ r89_1t.r = .sc (.bool false) from congrArg (fun b => AV.sc (.bool b)) hg] at g
      exact g⟩, List.forall_mem_nil _⟩⟩) (fun _ _ _ => LpsOk.nil _ _ _ _)
    exact ⟨(-1), (-1), (-1), (-1), (0), false, ⟨rosS h r42_1t_ok (congrArg (fun b => AV.sc (.bool b)) ((eqv_1t ρ).trans hg)), rosS h r89_1t_ok (congrArg (fun b => AV.sc (.bool b)) hg), rosK h c z81_1t_run, rosK h c z102_1t_run, rosK h c z80_1t_run, rosK h c z103_1t_run, rosK h c z56_1t_run, rosK h c z99_1t_run, rosK h c z55_1t_run, rosK h c z100_1t_run, rosK h c z43_1t_run, rosK h c z90_1t_run, rosK h c z57_1t_run, rosK h c z101_1t_run⟩, fun h => nomatch h⟩
  | true =>
    have h := assume_ok rg_1t true _ hg h
    have c : CfgOk Try.prog ρ (cQ true 1 true) := cfgL_ok (List.forall_mem_cons.2 ⟨⟨r42_1t_ok.1, fun n h => by
      have g := r42_1t_ok.2 ρ n h
      rw [show X.den ρ r42_1t.r = .sc (.bool true) from congrArg (fun b => AV.sc (.bool b)) ((eqv_1t ρ).trans hg)] at g
      exact g⟩, List.forall_mem_cons.2 ⟨⟨r89_1t_ok.1, fun n h => by
      have g := r89_1t_ok.2 ρ n h
      rw [show X.den ρ r89_1t.r = .sc (.bool true) from congrArg (fun b => AV.sc (.bool b)) hg] at g
      exact g⟩, List.forall_mem_nil _⟩⟩) (fun _ _ _ => LpsOk.nil _ _ _ _)
    have h1 : ρ.i 1 = 1 := by have := fOf h (.eq (.var 1) (.lit 1)) true (by kernel_rfl); rw [deq_t] at this; exact this
    have e0 : 1 ≤ ρ.i 0 := by have := fOf h (.lt (.var 0) (.lit 1)) false (by kernel_rfl); rw [dlt_f] at this; exact this
    have hh : 0 ≤ ρ.i 2 := by have := fOf h (.lt (.var 2) (.lit 0)) false (by kernel_rfl); rw [dlt_f] at this; exact this
    have hl : 0 ≤ ρ.i 2 := by have := fOf h (.lt (.var 2) (.lit 0)) false (by kernel_rfl); rw [dlt_f] at this; exact this
    have el : ρ.i 2 = lsE.den ρ := by simp [lsE, IE.den, deq_t, h1]
    have s2 : 1 ≤ ρ.i 3 := by have := fOf h (.lt (.var 3) (.lit 1)) false (by kernel_rfl); rw [dlt_f] at this; exact this
    have s11 : 1 ≤ ρ.i 12 := by have := fOf h (.lt (.var 12) (.lit 1)) false (by kernel_rfl); rw [dlt_f] at this; exact this
    exact spl (.eq (.var 13) (.var 2)) h (fun h => ⟨(ρ.i 2), (ρ.i 2), (-1), (ρ.i 11), (ρ.i 3), true, ⟨rosS h r42_1t_ok (congrArg (fun b => AV.sc (.bool b)) ((eqv_1t ρ).trans hg)), rosS h r89_1t_ok (congrArg (fun b => AV.sc (.bool b)) hg), rosK h c q81_1t_run, rosK h c q102_1t_run, rosK h c q80_1t_run, rosK h c q103_1t_run, rosK h c q56_1t2_run, rosK h c q99_1t2_run, rosK h c q55_1t2_run, rosK h c q100_1t2_run, rosK h c q43_1t2_run, rosK h c q90_1t2_run, rosK h c q57_1t2_run, rosK h c q101_1t2_run⟩, fun _ => ⟨e0, ⟨hh, rfl⟩, ⟨hl, el⟩, by omega⟩⟩) (fun h => spl (.eq (.var 13) (.var 11)) h (fun h => ⟨(ρ.i 2), (ρ.i 2), (ρ.i 2), (-1), (ρ.i 12), false, ⟨rosS h r42_1t_ok (congrArg (fun b => AV.sc (.bool b)) ((eqv_1t ρ).trans hg)), rosS h r89_1t_ok (congrArg (fun b => AV.sc (.bool b)) hg), rosK h c q81_1t_run, rosK h c q102_1t_run, rosK h c q80_1t_run, rosK h c q103_1t_run, rosK h c q56_1t11_run, rosK h c q99_1t11_run, rosK h c q55_1t11_run, rosK h c q100_1t11_run, rosK h c q43_1t11_run, rosK h c q90_1t11_run, rosK h c q57_1t11_run, rosK h c q101_1t11_run⟩, fun _ => ⟨e0, ⟨hh, rfl⟩, ⟨hl, el⟩, by omega⟩⟩) (fun h => ⟨(ρ.i 2), (ρ.i 2), (-1), (-1), (0), false, ⟨rosS h r42_1t_ok (congrArg (fun b => AV.sc (.bool b)) ((eqv_1t ρ).trans hg)), rosS h r89_1t_ok (congrArg (fun b => AV.sc (.bool b)) hg), rosK h c q81_1t_run, rosK h c q102_1t_run, rosK h c q80_1t_run, rosK h c q103_1t_run, rosK h c q56_1tx_run, rosK h c q99_1tx_run, rosK h c q55_1tx_run, rosK h c q100_1tx_run, rosK h c q43_1tx_run, rosK h c q90_1tx_run, rosK h c q57_1tx_run, rosK h c q101_1tx_run⟩, fun _ => ⟨e0, ⟨hh, rfl⟩, ⟨hl, el⟩, Int.le_refl 0⟩⟩))
theorem ros_1f {ρ : Rho} (h : Facts.ok ρ [(.eq (.var 1) (.lit 1), true), (.var 10, false)]) : ∃ hd ls ah bh sn fu, Ros ρ (rg_1f.den ρ) hd ls ah bh sn fu ∧ (rg_1f.den ρ = true → Gd ρ hd ls sn) := by
  cases hg : rg_1f.den ρ with
  | false =>
    have c : CfgOk Try.prog ρ (cQ false 1 false) := cfgL_ok (List.forall_mem_cons.2 ⟨⟨r42_1f_ok.1, fun n h => by
      have g := r42_1f_ok.2 ρ n h
      rw [show X.den ρ r42_1f.r = .sc (.bool false) from congrArg (fun b => AV.sc (.bool b)) ((eqv_1f ρ).trans hg)] at g
      exact g⟩, List.forall_mem_cons.2 ⟨⟨r89_1f_ok.1, fun n h => by
      have g := r89_1f_ok.2 ρ n h
      rw [show X.den ρ r89_1f.r = .sc (.bool false) from congrArg (fun b => AV.sc (.bool b)) hg] at g
      exact g⟩, List.forall_mem_nil _⟩⟩) (fun _ _ _ => LpsOk.nil _ _ _ _)
    exact ⟨(-1), (-1), (-1), (-1), (0), false, ⟨rosS h r42_1f_ok (congrArg (fun b => AV.sc (.bool b)) ((eqv_1f ρ).trans hg)), rosS h r89_1f_ok (congrArg (fun b => AV.sc (.bool b)) hg), rosK h c z81_1f_run, rosK h c z102_1f_run, rosK h c z80_1f_run, rosK h c z103_1f_run, rosK h c z56_1f_run, rosK h c z99_1f_run, rosK h c z55_1f_run, rosK h c z100_1f_run, rosK h c z43_1f_run, rosK h c z90_1f_run, rosK h c z57_1f_run, rosK h c z101_1f_run⟩, fun h => nomatch h⟩
  | true =>
    have h := assume_ok rg_1f true _ hg h
    have c : CfgOk Try.prog ρ (cQ true 1 false) := cfgL_ok (List.forall_mem_cons.2 ⟨⟨r42_1f_ok.1, fun n h => by
      have g := r42_1f_ok.2 ρ n h
      rw [show X.den ρ r42_1f.r = .sc (.bool true) from congrArg (fun b => AV.sc (.bool b)) ((eqv_1f ρ).trans hg)] at g
      exact g⟩, List.forall_mem_cons.2 ⟨⟨r89_1f_ok.1, fun n h => by
      have g := r89_1f_ok.2 ρ n h
      rw [show X.den ρ r89_1f.r = .sc (.bool true) from congrArg (fun b => AV.sc (.bool b)) hg] at g
      exact g⟩, List.forall_mem_nil _⟩⟩) (fun _ _ _ => LpsOk.nil _ _ _ _)
    have h1 : ρ.i 1 = 1 := by have := fOf h (.eq (.var 1) (.lit 1)) true (by kernel_rfl); rw [deq_t] at this; exact this
    have e0 : 1 ≤ ρ.i 0 := by have := fOf h (.lt (.var 0) (.lit 1)) false (by kernel_rfl); rw [dlt_f] at this; exact this
    have hh : 0 ≤ ρ.i 2 := by have := fOf h (.lt (.var 2) (.lit 0)) false (by kernel_rfl); rw [dlt_f] at this; exact this
    have hl : 0 ≤ ρ.i 2 := by have := fOf h (.lt (.var 2) (.lit 0)) false (by kernel_rfl); rw [dlt_f] at this; exact this
    have el : ρ.i 2 = lsE.den ρ := by simp [lsE, IE.den, deq_t, h1]
    have s2 : 1 ≤ ρ.i 3 := by have := fOf h (.lt (.var 3) (.lit 1)) false (by kernel_rfl); rw [dlt_f] at this; exact this
    exact spl (.eq (.var 13) (.var 2)) h (fun h => ⟨(ρ.i 2), (ρ.i 2), (-1), (-1), (ρ.i 3), true, ⟨rosS h r42_1f_ok (congrArg (fun b => AV.sc (.bool b)) ((eqv_1f ρ).trans hg)), rosS h r89_1f_ok (congrArg (fun b => AV.sc (.bool b)) hg), rosK h c q81_1f_run, rosK h c q102_1f_run, rosK h c q80_1f_run, rosK h c q103_1f_run, rosK h c q56_1f2_run, rosK h c q99_1f2_run, rosK h c q55_1f2_run, rosK h c q100_1f2_run, rosK h c q43_1f2_run, rosK h c q90_1f2_run, rosK h c q57_1f2_run, rosK h c q101_1f2_run⟩, fun _ => ⟨e0, ⟨hh, rfl⟩, ⟨hl, el⟩, by omega⟩⟩) (fun h => ⟨(ρ.i 2), (ρ.i 2), (-1), (-1), (0), false, ⟨rosS h r42_1f_ok (congrArg (fun b => AV.sc (.bool b)) ((eqv_1f ρ).trans hg)), rosS h r89_1f_ok (congrArg (fun b => AV.sc (.bool b)) hg), rosK h c q81_1f_run, rosK h c q102_1f_run, rosK h c q80_1f_run, rosK h c q103_1f_run, rosK h c q56_1fx_run, rosK h c q99_1fx_run, rosK h c q55_1fx_run, rosK h c q100_1fx_run, rosK h c q43_1fx_run, rosK h c q90_1fx_run, rosK h c q57_1fx_run, rosK h c q101_1fx_run⟩, fun _ => ⟨e0, ⟨hh, rfl⟩, ⟨hl, el⟩, Int.le_refl 0⟩⟩)
theorem ros_2t {ρ : Rho} (h : Facts.ok ρ [(.eq (.var 1) (.lit 2), true), (.var 10, true)]) : ∃ hd ls ah bh sn fu, Ros ρ (rg_2t.den ρ) hd ls ah bh sn fu ∧ (rg_2t.den ρ = true → Gd ρ hd ls sn) := by
  cases hg : rg_2t.den ρ with
  | false =>
    have c : CfgOk Try.prog ρ (cQ false 2 true) := cfgL_ok (List.forall_mem_cons.2 ⟨⟨r42_2t_ok.1, fun n h => by
      have g := r42_2t_ok.2 ρ n h
      rw [show X.den ρ r42_2t.r = .sc (.bool false) from congrArg (fun b => AV.sc (.bool b)) ((eqv_2t ρ).trans hg)] at g
      exact g⟩, List.forall_mem_cons.2 ⟨⟨r89_2t_ok.1, fun n h => by
      have g := r89_2t_ok.2 ρ n h
      rw [show X.den ρ r89_2t.r = .sc (.bool false) from congrArg (fun b => AV.sc (.bool b)) hg] at g
      exact g⟩, List.forall_mem_nil _⟩⟩) (fun _ _ _ => LpsOk.nil _ _ _ _)
    exact ⟨(-1), (-1), (-1), (-1), (0), false, ⟨rosS h r42_2t_ok (congrArg (fun b => AV.sc (.bool b)) ((eqv_2t ρ).trans hg)), rosS h r89_2t_ok (congrArg (fun b => AV.sc (.bool b)) hg), rosK h c z81_2t_run, rosK h c z102_2t_run, rosK h c z80_2t_run, rosK h c z103_2t_run, rosK h c z56_2t_run, rosK h c z99_2t_run, rosK h c z55_2t_run, rosK h c z100_2t_run, rosK h c z43_2t_run, rosK h c z90_2t_run, rosK h c z57_2t_run, rosK h c z101_2t_run⟩, fun h => nomatch h⟩
  | true =>
    have h := assume_ok rg_2t true _ hg h
    have c : CfgOk Try.prog ρ (cQ true 2 true) := cfgL_ok (List.forall_mem_cons.2 ⟨⟨r42_2t_ok.1, fun n h => by
      have g := r42_2t_ok.2 ρ n h
      rw [show X.den ρ r42_2t.r = .sc (.bool true) from congrArg (fun b => AV.sc (.bool b)) ((eqv_2t ρ).trans hg)] at g
      exact g⟩, List.forall_mem_cons.2 ⟨⟨r89_2t_ok.1, fun n h => by
      have g := r89_2t_ok.2 ρ n h
      rw [show X.den ρ r89_2t.r = .sc (.bool true) from congrArg (fun b => AV.sc (.bool b)) hg] at g
      exact g⟩, List.forall_mem_nil _⟩⟩) (fun _ _ _ => LpsOk.nil _ _ _ _)
    have h1 : ρ.i 1 = 2 := by have := fOf h (.eq (.var 1) (.lit 2)) true (by kernel_rfl); rw [deq_t] at this; exact this
    have e0 : 1 ≤ ρ.i 0 := by have := fOf h (.lt (.var 0) (.lit 1)) false (by kernel_rfl); rw [dlt_f] at this; exact this
    have hh : 0 ≤ ρ.i 2 := by have := fOf h (.lt (.var 2) (.lit 0)) false (by kernel_rfl); rw [dlt_f] at this; exact this
    have hl : 0 ≤ ρ.i 4 := by have := fOf h (.lt (.var 4) (.lit 0)) false (by kernel_rfl); rw [dlt_f] at this; exact this
    have el : ρ.i 4 = lsE.den ρ := by simp [lsE, IE.den, deq_t, h1]
    have s2 : 1 ≤ ρ.i 3 := by have := fOf h (.lt (.var 3) (.lit 1)) false (by kernel_rfl); rw [dlt_f] at this; exact this
    have s4 : 1 ≤ ρ.i 5 := by have := fOf h (.lt (.var 5) (.lit 1)) false (by kernel_rfl); rw [dlt_f] at this; exact this
    have s11 : 1 ≤ ρ.i 12 := by have := fOf h (.lt (.var 12) (.lit 1)) false (by kernel_rfl); rw [dlt_f] at this; exact this
    exact spl (.eq (.var 13) (.var 2)) h (fun h => ⟨(ρ.i 2), (ρ.i 4), (-1), (ρ.i 4), (ρ.i 3), true, ⟨rosS h r42_2t_ok (congrArg (fun b => AV.sc (.bool b)) ((eqv_2t ρ).trans hg)), rosS h r89_2t_ok (congrArg (fun b => AV.sc (.bool b)) hg), rosK h c q81_2t_run, rosK h c q102_2t_run, rosK h c q80_2t_run, rosK h c q103_2t_run, rosK h c q56_2t2_run, rosK h c q99_2t2_run, rosK h c q55_2t2_run, rosK h c q100_2t2_run, rosK h c q43_2t2_run, rosK h c q90_2t2_run, rosK h c q57_2t2_run, rosK h c q101_2t2_run⟩, fun _ => ⟨e0, ⟨hh, rfl⟩, ⟨hl, el⟩, by omega⟩⟩) (fun h => spl (.eq (.var 13) (.var 4)) h (fun h => ⟨(ρ.i 2), (ρ.i 4), (ρ.i 2), (ρ.i 11), (ρ.i 5), true, ⟨rosS h r42_2t_ok (congrArg (fun b => AV.sc (.bool b)) ((eqv_2t ρ).trans hg)), rosS h r89_2t_ok (congrArg (fun b => AV.sc (.bool b)) hg), rosK h c q81_2t_run, rosK h c q102_2t_run, rosK h c q80_2t_run, rosK h c q103_2t_run, rosK h c q56_2t4_run, rosK h c q99_2t4_run, rosK h c q55_2t4_run, rosK h c q100_2t4_run, rosK h c q43_2t4_run, rosK h c q90_2t4_run, rosK h c q57_2t4_run, rosK h c q101_2t4_run⟩, fun _ => ⟨e0, ⟨hh, rfl⟩, ⟨hl, el⟩, by omega⟩⟩) (fun h => spl (.eq (.var 13) (.var 11)) h (fun h => ⟨(ρ.i 2), (ρ.i 4), (ρ.i 4), (-1), (ρ.i 12), false, ⟨rosS h r42_2t_ok (congrArg (fun b => AV.sc (.bool b)) ((eqv_2t ρ).trans hg)), rosS h r89_2t_ok (congrArg (fun b => AV.sc (.bool b)) hg), rosK h c q81_2t_run, rosK h c q102_2t_run, rosK h c q80_2t_run, rosK h c q103_2t_run, rosK h c q56_2t11_run, rosK h c q99_2t11_run, rosK h c q55_2t11_run, rosK h c q100_2t11_run, rosK h c q43_2t11_run, rosK h c q90_2t11_run, rosK h c q57_2t11_run, rosK h c q101_2t11_run⟩, fun _ => ⟨e0, ⟨hh, rfl⟩, ⟨hl, el⟩, by omega⟩⟩) (fun h => ⟨(ρ.i 2), (ρ.i 4), (-1), (-1), (0), false, ⟨rosS h r42_2t_ok (congrArg (fun b => AV.sc (.bool b)) ((eqv_2t ρ).trans hg)), rosS h r89_2t_ok (congrArg (fun b => AV.sc (.bool b)) hg), rosK h c q81_2t_run, rosK h c q102_2t_run, rosK h c q80_2t_run, rosK h c q103_2t_run, rosK h c q56_2tx_run, rosK h c q99_2tx_run, rosK h c q55_2tx_run, rosK h c q100_2tx_run, rosK h c q43_2tx_run, rosK h c q90_2tx_run, rosK h c q57_2tx_run, rosK h c q101_2tx_run⟩, fun _ => ⟨e0, ⟨hh, rfl⟩, ⟨hl, el⟩, Int.le_refl 0⟩⟩)))
theorem ros_2f {ρ : Rho} (h : Facts.ok ρ [(.eq (.var 1) (.lit 2), true), (.var 10, false)]) : ∃ hd ls ah bh sn fu, Ros ρ (rg_2f.den ρ) hd ls ah bh sn fu ∧ (rg_2f.den ρ = true → Gd ρ hd ls sn) := by
  cases hg : rg_2f.den ρ with
  | false =>
    have c : CfgOk Try.prog ρ (cQ false 2 false) := cfgL_ok (List.forall_mem_cons.2 ⟨⟨r42_2f_ok.1, fun n h => by
      have g := r42_2f_ok.2 ρ n h
      rw [show X.den ρ r42_2f.r = .sc (.bool false) from congrArg (fun b => AV.sc (.bool b)) ((eqv_2f ρ).trans hg)] at g
      exact g⟩, List.forall_mem_cons.2 ⟨⟨r89_2f_ok.1, fun n h => by
      have g := r89_2f_ok.2 ρ n h
      rw [show X.den ρ r89_2f.r = .sc (.bool false) from congrArg (fun b => AV.sc (.bool b)) hg] at g
      exact g⟩, List.forall_mem_nil _⟩⟩) (fun _ _ _ => LpsOk.nil _ _ _ _)
    exact ⟨(-1), (-1), (-1), (-1), (0), false, ⟨rosS h r42_2f_ok (congrArg (fun b => AV.sc (.bool b)) ((eqv_2f ρ).trans hg)), rosS h r89_2f_ok (congrArg (fun b => AV.sc (.bool b)) hg), rosK h c z81_2f_run, rosK h c z102_2f_run, rosK h c z80_2f_run, rosK h c z103_2f_run, rosK h c z56_2f_run, rosK h c z99_2f_run, rosK h c z55_2f_run, rosK h c z100_2f_run, rosK h c z43_2f_run, rosK h c z90_2f_run, rosK h c z57_2f_run, rosK h c z101_2f_run⟩, fun h => nomatch h⟩
  | true =>
    have h := assume_ok rg_2f true _ hg h
    have c : CfgOk Try.prog ρ (cQ true 2 false) := cfgL_ok (List.forall_mem_cons.2 ⟨⟨r42_2f_ok.1, fun n h => by
      have g := r42_2f_ok.2 ρ n h
      rw [show X.den ρ r42_2f.r = .sc (.bool true) from congrArg (fun b => AV.sc (.bool b)) ((eqv_2f ρ).trans hg)] at g
      exact g⟩, List.forall_mem_cons.2 ⟨⟨r89_2f_ok.1, fun n h => by
      have g := r89_2f_ok.2 ρ n h
      rw [show X.den ρ r89_2f.r = .sc (.bool true) from congrArg (fun b => AV.sc (.bool b)) hg] at g
      exact g⟩, List.forall_mem_nil _⟩⟩) (fun _ _ _ => LpsOk.nil _ _ _ _)
    have h1 : ρ.i 1 = 2 := by have := fOf h (.eq (.var 1) (.lit 2)) true (by kernel_rfl); rw [deq_t] at this; exact this
    have e0 : 1 ≤ ρ.i 0 := by have := fOf h (.lt (.var 0) (.lit 1)) false (by kernel_rfl); rw [dlt_f] at this; exact this
    have hh : 0 ≤ ρ.i 2 := by have := fOf h (.lt (.var 2) (.lit 0)) false (by kernel_rfl); rw [dlt_f] at this; exact this
    have hl : 0 ≤ ρ.i 4 := by have := fOf h (.lt (.var 4) (.lit 0)) false (by kernel_rfl); rw [dlt_f] at this; exact this
    have el : ρ.i 4 = lsE.den ρ := by simp [lsE, IE.den, deq_t, h1]
    have s2 : 1 ≤ ρ.i 3 := by have := fOf h (.lt (.var 3) (.lit 1)) false (by kernel_rfl); rw [dlt_f] at this; exact this
    have s4 : 1 ≤ ρ.i 5 := by have := fOf h (.lt (.var 5) (.lit 1)) false (by kernel_rfl); rw [dlt_f] at this; exact this
    exact spl (.eq (.var 13) (.var 2)) h (fun h => ⟨(ρ.i 2), (ρ.i 4), (-1), (ρ.i 4), (ρ.i 3), true, ⟨rosS h r42_2f_ok (congrArg (fun b => AV.sc (.bool b)) ((eqv_2f ρ).trans hg)), rosS h r89_2f_ok (congrArg (fun b => AV.sc (.bool b)) hg), rosK h c q81_2f_run, rosK h c q102_2f_run, rosK h c q80_2f_run, rosK h c q103_2f_run, rosK h c q56_2f2_run, rosK h c q99_2f2_run, rosK h c q55_2f2_run, rosK h c q100_2f2_run, rosK h c q43_2f2_run, rosK h c q90_2f2_run, rosK h c q57_2f2_run, rosK h c q101_2f2_run⟩, fun _ => ⟨e0, ⟨hh, rfl⟩, ⟨hl, el⟩, by omega⟩⟩) (fun h => spl (.eq (.var 13) (.var 4)) h (fun h => ⟨(ρ.i 2), (ρ.i 4), (ρ.i 2), (-1), (ρ.i 5), true, ⟨rosS h r42_2f_ok (congrArg (fun b => AV.sc (.bool b)) ((eqv_2f ρ).trans hg)), rosS h r89_2f_ok (congrArg (fun b => AV.sc (.bool b)) hg), rosK h c q81_2f_run, rosK h c q102_2f_run, rosK h c q80_2f_run, rosK h c q103_2f_run, rosK h c q56_2f4_run, rosK h c q99_2f4_run, rosK h c q55_2f4_run, rosK h c q100_2f4_run, rosK h c q43_2f4_run, rosK h c q90_2f4_run, rosK h c q57_2f4_run, rosK h c q101_2f4_run⟩, fun _ => ⟨e0, ⟨hh, rfl⟩, ⟨hl, el⟩, by omega⟩⟩) (fun h => ⟨(ρ.i 2), (ρ.i 4), (-1), (-1), (0), false, ⟨rosS h r42_2f_ok (congrArg (fun b => AV.sc (.bool b)) ((eqv_2f ρ).trans hg)), rosS h r89_2f_ok (congrArg (fun b => AV.sc (.bool b)) hg), rosK h c q81_2f_run, rosK h c q102_2f_run, rosK h c q80_2f_run, rosK h c q103_2f_run, rosK h c q56_2fx_run, rosK h c q99_2fx_run, rosK h c q55_2fx_run, rosK h c q100_2fx_run, rosK h c q43_2fx_run, rosK h c q90_2fx_run, rosK h c q57_2fx_run, rosK h c q101_2fx_run⟩, fun _ => ⟨e0, ⟨hh, rfl⟩, ⟨hl, el⟩, Int.le_refl 0⟩⟩))
theorem ros_3t {ρ : Rho} (h : Facts.ok ρ [(.eq (.var 1) (.lit 3), true), (.var 10, true)]) : ∃ hd ls ah bh sn fu, Ros ρ (rg_3t.den ρ) hd ls ah bh sn fu ∧ (rg_3t.den ρ = true → Gd ρ hd ls sn) := by
  cases hg : rg_3t.den ρ with
  | false =>
    have c : CfgOk Try.prog ρ (cQ false 3 true) := cfgL_ok (List.forall_mem_cons.2 ⟨⟨r42_3t_ok.1, fun n h => by
      have g := r42_3t_ok.2 ρ n h
      rw [show X.den ρ r42_3t.r = .sc (.bool false) from congrArg (fun b => AV.sc (.bool b)) ((eqv_3t ρ).trans hg)] at g
      exact g⟩, List.forall_mem_cons.2 ⟨⟨r89_3t_ok.1, fun n h => by
      have g := r89_3t_ok.2 ρ n h
      rw [show X.den ρ r89_3t.r = .sc (.bool false) from congrArg (fun b => AV.sc (.bool b)) hg] at g
      exact g⟩, List.forall_mem_nil _⟩⟩) (fun _ _ _ => LpsOk.nil _ _ _ _)
    exact ⟨(-1), (-1), (-1), (-1), (0), false, ⟨rosS h r42_3t_ok (congrArg (fun b => AV.sc (.bool b)) ((eqv_3t ρ).trans hg)), rosS h r89_3t_ok (congrArg (fun b => AV.sc (.bool b)) hg), rosK h c z81_3t_run, rosK h c z102_3t_run, rosK h c z80_3t_run, rosK h c z103_3t_run, rosK h c z56_3t_run, rosK h c z99_3t_run, rosK h c z55_3t_run, rosK h c z100_3t_run, rosK h c z43_3t_run, rosK h c z90_3t_run, rosK h c z57_3t_run, rosK h c z101_3t_run⟩, fun h => nomatch h⟩
  | true =>
    have h := assume_ok rg_3t true _ hg h
    have c : CfgOk Try.prog ρ (cQ true 3 true) := cfgL_ok (List.forall_mem_cons.2 ⟨⟨r42_3t_ok.1, fun n h => by
      have g := r42_3t_ok.2 ρ n h
      rw [show X.den ρ r42_3t.r = .sc (.bool true) from congrArg (fun b => AV.sc (.bool b)) ((eqv_3t ρ).trans hg)] at g
      exact g⟩, List.forall_mem_cons.2 ⟨⟨r89_3t_ok.1, fun n h => by
      have g := r89_3t_ok.2 ρ n h
      rw [show X.den ρ r89_3t.r = .sc (.bool true) from congrArg (fun b => AV.sc (.bool b)) hg] at g
      exact g⟩, List.forall_mem_nil _⟩⟩) (fun _ _ _ => LpsOk.nil _ _ _ _)
    have h1 : ρ.i 1 = 3 := by have := fOf h (.eq (.var 1) (.lit 3)) true (by kernel_rfl); rw [deq_t] at this; exact this
    have e0 : 1 ≤ ρ.i 0 := by have := fOf h (.lt (.var 0) (.lit 1)) false (by kernel_rfl); rw [dlt_f] at this; exact this
    have hh : 0 ≤ ρ.i 2 := by have := fOf h (.lt (.var 2) (.lit 0)) false (by kernel_rfl); rw [dlt_f] at this; exact this
    have hl : 0 ≤ ρ.i 6 := by have := fOf h (.lt (.var 6) (.lit 0)) false (by kernel_rfl); rw [dlt_f] at this; exact this
    have el : ρ.i 6 = lsE.den ρ := by simp [lsE, IE.den, deq_t, h1]
    have s2 : 1 ≤ ρ.i 3 := by have := fOf h (.lt (.var 3) (.lit 1)) false (by kernel_rfl); rw [dlt_f] at this; exact this
    have s4 : 1 ≤ ρ.i 5 := by have := fOf h (.lt (.var 5) (.lit 1)) false (by kernel_rfl); rw [dlt_f] at this; exact this
    have s6 : 1 ≤ ρ.i 7 := by have := fOf h (.lt (.var 7) (.lit 1)) false (by kernel_rfl); rw [dlt_f] at this; exact this
    have s11 : 1 ≤ ρ.i 12 := by have := fOf h (.lt (.var 12) (.lit 1)) false (by kernel_rfl); rw [dlt_f] at this; exact this
    exact spl (.eq (.var 13) (.var 2)) h (fun h => ⟨(ρ.i 2), (ρ.i 6), (-1), (ρ.i 4), (ρ.i 3), true, ⟨rosS h r42_3t_ok (congrArg (fun b => AV.sc (.bool b)) ((eqv_3t ρ).trans hg)), rosS h r89_3t_ok (congrArg (fun b => AV.sc (.bool b)) hg), rosK h c q81_3t_run, rosK h c q102_3t_run, rosK h c q80_3t_run, rosK h c q103_3t_run, rosK h c q56_3t2_run, rosK h c q99_3t2_run, rosK h c q55_3t2_run, rosK h c q100_3t2_run, rosK h c q43_3t2_run, rosK h c q90_3t2_run, rosK h c q57_3t2_run, rosK h c q101_3t2_run⟩, fun _ => ⟨e0, ⟨hh, rfl⟩, ⟨hl, el⟩, by omega⟩⟩) (fun h => spl (.eq (.var 13) (.var 4)) h (fun h => ⟨(ρ.i 2), (ρ.i 6), (ρ.i 2), (ρ.i 6), (ρ.i 5), true, ⟨rosS h r42_3t_ok (congrArg (fun b => AV.sc (.bool b)) ((eqv_3t ρ).trans hg)), rosS h r89_3t_ok (congrArg (fun b => AV.sc (.bool b)) hg), rosK h c q81_3t_run, rosK h c q102_3t_run, rosK h c q80_3t_run, rosK h c q103_3t_run, rosK h c q56_3t4_run, rosK h c q99_3t4_run, rosK h c q55_3t4_run, rosK h c q100_3t4_run, rosK h c q43_3t4_run, rosK h c q90_3t4_run, rosK h c q57_3t4_run, rosK h c q101_3t4_run⟩, fun _ => ⟨e0, ⟨hh, rfl⟩, ⟨hl, el⟩, by omega⟩⟩) (fun h => spl (.eq (.var 13) (.var 6)) h (fun h => ⟨(ρ.i 2), (ρ.i 6), (ρ.i 4), (ρ.i 11), (ρ.i 7), true, ⟨rosS h r42_3t_ok (congrArg (fun b => AV.sc (.bool b)) ((eqv_3t ρ).trans hg)), rosS h r89_3t_ok (congrArg (fun b => AV.sc (.bool b)) hg), rosK h c q81_3t_run, rosK h c q102_3t_run, rosK h c q80_3t_run, rosK h c q103_3t_run, rosK h c q56_3t6_run, rosK h c q99_3t6_run, rosK h c q55_3t6_run, rosK h c q100_3t6_run, rosK h c q43_3t6_run, rosK h c q90_3t6_run, rosK h c q57_3t6_run, rosK h c q101_3t6_run⟩, fun _ => ⟨e0, ⟨hh, rfl⟩, ⟨hl, el⟩, by omega⟩⟩) (fun h => spl (.eq (.var 13) (.var 11)) h (fun h => ⟨(ρ.i 2), (ρ.i 6), (ρ.i 6), (-1), (ρ.i 12), false, ⟨rosS h r42_3t_ok (congrArg (fun b => AV.sc (.bool b)) ((eqv_3t ρ).trans hg)), rosS h r89_3t_ok (congrArg (fun b => AV.sc (.bool b)) hg), rosK h c q81_3t_run, rosK h c q102_3t_run, rosK h c q80_3t_run, rosK h c q103_3t_run, rosK h c q56_3t11_run, rosK h c q99_3t11_run, rosK h c q55_3t11_run, rosK h c q100_3t11_run, rosK h c q43_3t11_run, rosK h c q90_3t11_run, rosK h c q57_3t11_run, rosK h c q101_3t11_run⟩, fun _ => ⟨e0, ⟨hh, rfl⟩, ⟨hl, el⟩, by omega⟩⟩) (fun h => ⟨(ρ.i 2), (ρ.i 6), (-1), (-1), (0), false, ⟨rosS h r42_3t_ok (congrArg (fun b => AV.sc (.bool b)) ((eqv_3t ρ).trans hg)), rosS h r89_3t_ok (congrArg (fun b => AV.sc (.bool b)) hg), rosK h c q81_3t_run, rosK h c q102_3t_run, rosK h c q80_3t_run, rosK h c q103_3t_run, rosK h c q56_3tx_run, rosK h c q99_3tx_run, rosK h c q55_3tx_run, rosK h c q100_3tx_run, rosK h c q43_3tx_run, rosK h c q90_3tx_run, rosK h c q57_3tx_run, rosK h c q101_3tx_run⟩, fun _ => ⟨e0, ⟨hh, rfl⟩, ⟨hl, el⟩, Int.le_refl 0⟩⟩))))
theorem ros_3f {ρ : Rho} (h : Facts.ok ρ [(.eq (.var 1) (.lit 3), true), (.var 10, false)]) : ∃ hd ls ah bh sn fu, Ros ρ (rg_3f.den ρ) hd ls ah bh sn fu ∧ (rg_3f.den ρ = true → Gd ρ hd ls sn) := by
  cases hg : rg_3f.den ρ with
  | false =>
    have c : CfgOk Try.prog ρ (cQ false 3 false) := cfgL_ok (List.forall_mem_cons.2 ⟨⟨r42_3f_ok.1, fun n h => by
      have g := r42_3f_ok.2 ρ n h
      rw [show X.den ρ r42_3f.r = .sc (.bool false) from congrArg (fun b => AV.sc (.bool b)) ((eqv_3f ρ).trans hg)] at g
      exact g⟩, List.forall_mem_cons.2 ⟨⟨r89_3f_ok.1, fun n h => by
      have g := r89_3f_ok.2 ρ n h
      rw [show X.den ρ r89_3f.r = .sc (.bool false) from congrArg (fun b => AV.sc (.bool b)) hg] at g
      exact g⟩, List.forall_mem_nil _⟩⟩) (fun _ _ _ => LpsOk.nil _ _ _ _)
    exact ⟨(-1), (-1), (-1), (-1), (0), false, ⟨rosS h r42_3f_ok (congrArg (fun b => AV.sc (.bool b)) ((eqv_3f ρ).trans hg)), rosS h r89_3f_ok (congrArg (fun b => AV.sc (.bool b)) hg), rosK h c z81_3f_run, rosK h c z102_3f_run, rosK h c z80_3f_run, rosK h c z103_3f_run, rosK h c z56_3f_run, rosK h c z99_3f_run, rosK h c z55_3f_run, rosK h c z100_3f_run, rosK h c z43_3f_run, rosK h c z90_3f_run, rosK h c z57_3f_run, rosK h c z101_3f_run⟩, fun h => nomatch h⟩
  | true =>
    have h := assume_ok rg_3f true _ hg h
    have c : CfgOk Try.prog ρ (cQ true 3 false) := cfgL_ok (List.forall_mem_cons.2 ⟨⟨r42_3f_ok.1, fun n h => by
      have g := r42_3f_ok.2 ρ n h
      rw [show X.den ρ r42_3f.r = .sc (.bool true) from congrArg (fun b => AV.sc (.bool b)) ((eqv_3f ρ).trans hg)] at g
      exact g⟩, List.forall_mem_cons.2 ⟨⟨r89_3f_ok.1, fun n h => by
      have g := r89_3f_ok.2 ρ n h
      rw [show X.den ρ r89_3f.r = .sc (.bool true) from congrArg (fun b => AV.sc (.bool b)) hg] at g
      exact g⟩, List.forall_mem_nil _⟩⟩) (fun _ _ _ => LpsOk.nil _ _ _ _)
    have h1 : ρ.i 1 = 3 := by have := fOf h (.eq (.var 1) (.lit 3)) true (by kernel_rfl); rw [deq_t] at this; exact this
    have e0 : 1 ≤ ρ.i 0 := by have := fOf h (.lt (.var 0) (.lit 1)) false (by kernel_rfl); rw [dlt_f] at this; exact this
    have hh : 0 ≤ ρ.i 2 := by have := fOf h (.lt (.var 2) (.lit 0)) false (by kernel_rfl); rw [dlt_f] at this; exact this
    have hl : 0 ≤ ρ.i 6 := by have := fOf h (.lt (.var 6) (.lit 0)) false (by kernel_rfl); rw [dlt_f] at this; exact this
    have el : ρ.i 6 = lsE.den ρ := by simp [lsE, IE.den, deq_t, h1]
    have s2 : 1 ≤ ρ.i 3 := by have := fOf h (.lt (.var 3) (.lit 1)) false (by kernel_rfl); rw [dlt_f] at this; exact this
    have s4 : 1 ≤ ρ.i 5 := by have := fOf h (.lt (.var 5) (.lit 1)) false (by kernel_rfl); rw [dlt_f] at this; exact this
    have s6 : 1 ≤ ρ.i 7 := by have := fOf h (.lt (.var 7) (.lit 1)) false (by kernel_rfl); rw [dlt_f] at this; exact this
    exact spl (.eq (.var 13) (.var 2)) h (fun h => ⟨(ρ.i 2), (ρ.i 6), (-1), (ρ.i 4), (ρ.i 3), true, ⟨rosS h r42_3f_ok (congrArg (fun b => AV.sc (.bool b)) ((eqv_3f ρ).trans hg)), rosS h r89_3f_ok (congrArg (fun b => AV.sc (.bool b)) hg), rosK h c q81_3f_run, rosK h c q102_3f_run, rosK h c q80_3f_run, rosK h c q103_3f_run, rosK h c q56_3f2_run, rosK h c q99_3f2_run, rosK h c q55_3f2_run, rosK h c q100_3f2_run, rosK h c q43_3f2_run, rosK h c q90_3f2_run, rosK h c q57_3f2_run, rosK h c q101_3f2_run⟩, fun _ => ⟨e0, ⟨hh, rfl⟩, ⟨hl, el⟩, by omega⟩⟩) (fun h => spl (.eq (.var 13) (.var 4)) h (fun h => ⟨(ρ.i 2), (ρ.i 6), (ρ.i 2), (ρ.i 6), (ρ.i 5), true, ⟨rosS h r42_3f_ok (congrArg (fun b => AV.sc (.bool b)) ((eqv_3f ρ).trans hg)), rosS h r89_3f_ok (congrArg (fun b => AV.sc (.bool b)) hg), rosK h c q81_3f_run, rosK h c q102_3f_run, rosK h c q80_3f_run, rosK h c q103_3f_run, rosK h c q56_3f4_run, rosK h c q99_3f4_run, rosK h c q55_3f4_run, rosK h c q100_3f4_run, rosK h c q43_3f4_run, rosK h c q90_3f4_run, rosK h c q57_3f4_run, rosK h c q101_3f4_run⟩, fun _ => ⟨e0, ⟨hh, rfl⟩, ⟨hl, el⟩, by omega⟩⟩) (fun h => spl (.eq (.var 13) (.var 6)) h (fun h => ⟨(ρ.i 2), (ρ.i 6), (ρ.i 4), (-1), (ρ.i 7), true, ⟨rosS h r42_3f_ok (congrArg (fun b => AV.sc (.bool b)) ((eqv_3f ρ).trans hg)), rosS h r89_3f_ok (congrArg (fun b => AV.sc (.bool b)) hg), rosK h c q81_3f_run, rosK h c q102_3f_run, rosK h c q80_3f_run, rosK h c q103_3f_run, rosK h c q56_3f6_run, rosK h c q99_3f6_run, rosK h c q55_3f6_run, rosK h c q100_3f6_run, rosK h c q43_3f6_run, rosK h c q90_3f6_run, rosK h c q57_3f6_run, rosK h c q101_3f6_run⟩, fun _ => ⟨e0, ⟨hh, rfl⟩, ⟨hl, el⟩, by omega⟩⟩) (fun h => ⟨(ρ.i 2), (ρ.i 6), (-1), (-1), (0), false, ⟨rosS h r42_3f_ok (congrArg (fun b => AV.sc (.bool b)) ((eqv_3f ρ).trans hg)), rosS h r89_3f_ok (congrArg (fun b => AV.sc (.bool b)) hg), rosK h c q81_3f_run, rosK h c q102_3f_run, rosK h c q80_3f_run, rosK h c q103_3f_run, rosK h c q56_3fx_run, rosK h c q99_3fx_run, rosK h c q55_3fx_run, rosK h c q100_3fx_run, rosK h c q43_3fx_run, rosK h c q90_3fx_run, rosK h c q57_3fx_run, rosK h c q101_3fx_run⟩, fun _ => ⟨e0, ⟨hh, rfl⟩, ⟨hl, el⟩, Int.le_refl 0⟩⟩)))
theorem ros_4t {ρ : Rho} (h : Facts.ok ρ [(.eq (.var 1) (.lit 4), true), (.var 10, true)]) : ∃ hd ls ah bh sn fu, Ros ρ (rg_4t.den ρ) hd ls ah bh sn fu ∧ (rg_4t.den ρ = true → Gd ρ hd ls sn) := by
  cases hg : rg_4t.den ρ with
  | false =>
    have c : CfgOk Try.prog ρ (cQ false 4 true) := cfgL_ok (List.forall_mem_cons.2 ⟨⟨r42_4t_ok.1, fun n h => by
      have g := r42_4t_ok.2 ρ n h
      rw [show X.den ρ r42_4t.r = .sc (.bool false) from congrArg (fun b => AV.sc (.bool b)) ((eqv_4t ρ).trans hg)] at g
      exact g⟩, List.forall_mem_cons.2 ⟨⟨r89_4t_ok.1, fun n h => by
      have g := r89_4t_ok.2 ρ n h
      rw [show X.den ρ r89_4t.r = .sc (.bool false) from congrArg (fun b => AV.sc (.bool b)) hg] at g
      exact g⟩, List.forall_mem_nil _⟩⟩) (fun _ _ _ => LpsOk.nil _ _ _ _)
    exact ⟨(-1), (-1), (-1), (-1), (0), false, ⟨rosS h r42_4t_ok (congrArg (fun b => AV.sc (.bool b)) ((eqv_4t ρ).trans hg)), rosS h r89_4t_ok (congrArg (fun b => AV.sc (.bool b)) hg), rosK h c z81_4t_run, rosK h c z102_4t_run, rosK h c z80_4t_run, rosK h c z103_4t_run, rosK h c z56_4t_run, rosK h c z99_4t_run, rosK h c z55_4t_run, rosK h c z100_4t_run, rosK h c z43_4t_run, rosK h c z90_4t_run, rosK h c z57_4t_run, rosK h c z101_4t_run⟩, fun h => nomatch h⟩
  | true => exact absurd hg (by rw [no_4t]; simp)
theorem ros_4f {ρ : Rho} (h : Facts.ok ρ [(.eq (.var 1) (.lit 4), true), (.var 10, false)]) : ∃ hd ls ah bh sn fu, Ros ρ (rg_4f.den ρ) hd ls ah bh sn fu ∧ (rg_4f.den ρ = true → Gd ρ hd ls sn) := by
  cases hg : rg_4f.den ρ with
  | false =>
    have c : CfgOk Try.prog ρ (cQ false 4 false) := cfgL_ok (List.forall_mem_cons.2 ⟨⟨r42_4f_ok.1, fun n h => by
      have g := r42_4f_ok.2 ρ n h
      rw [show X.den ρ r42_4f.r = .sc (.bool false) from congrArg (fun b => AV.sc (.bool b)) ((eqv_4f ρ).trans hg)] at g
      exact g⟩, List.forall_mem_cons.2 ⟨⟨r89_4f_ok.1, fun n h => by
      have g := r89_4f_ok.2 ρ n h
      rw [show X.den ρ r89_4f.r = .sc (.bool false) from congrArg (fun b => AV.sc (.bool b)) hg] at g
      exact g⟩, List.forall_mem_nil _⟩⟩) (fun _ _ _ => LpsOk.nil _ _ _ _)
    exact ⟨(-1), (-1), (-1), (-1), (0), false, ⟨rosS h r42_4f_ok (congrArg (fun b => AV.sc (.bool b)) ((eqv_4f ρ).trans hg)), rosS h r89_4f_ok (congrArg (fun b => AV.sc (.bool b)) hg), rosK h c z81_4f_run, rosK h c z102_4f_run, rosK h c z80_4f_run, rosK h c z103_4f_run, rosK h c z56_4f_run, rosK h c z99_4f_run, rosK h c z55_4f_run, rosK h c z100_4f_run, rosK h c z43_4f_run, rosK h c z90_4f_run, rosK h c z57_4f_run, rosK h c z101_4f_run⟩, fun h => nomatch h⟩
  | true =>
    have h := assume_ok rg_4f true _ hg h
    have c : CfgOk Try.prog ρ (cQ true 4 false) := cfgL_ok (List.forall_mem_cons.2 ⟨⟨r42_4f_ok.1, fun n h => by
      have g := r42_4f_ok.2 ρ n h
      rw [show X.den ρ r42_4f.r = .sc (.bool true) from congrArg (fun b => AV.sc (.bool b)) ((eqv_4f ρ).trans hg)] at g
      exact g⟩, List.forall_mem_cons.2 ⟨⟨r89_4f_ok.1, fun n h => by
      have g := r89_4f_ok.2 ρ n h
      rw [show X.den ρ r89_4f.r = .sc (.bool true) from congrArg (fun b => AV.sc (.bool b)) hg] at g
      exact g⟩, List.forall_mem_nil _⟩⟩) (fun _ _ _ => LpsOk.nil _ _ _ _)
    have h1 : ρ.i 1 = 4 := by have := fOf h (.eq (.var 1) (.lit 4)) true (by kernel_rfl); rw [deq_t] at this; exact this
    have e0 : 1 ≤ ρ.i 0 := by have := fOf h (.lt (.var 0) (.lit 1)) false (by kernel_rfl); rw [dlt_f] at this; exact this
    have hh : 0 ≤ ρ.i 2 := by have := fOf h (.lt (.var 2) (.lit 0)) false (by kernel_rfl); rw [dlt_f] at this; exact this
    have hl : 0 ≤ ρ.i 8 := by have := fOf h (.lt (.var 8) (.lit 0)) false (by kernel_rfl); rw [dlt_f] at this; exact this
    have el : ρ.i 8 = lsE.den ρ := by simp [lsE, IE.den, deq_t, h1]
    have s2 : 1 ≤ ρ.i 3 := by have := fOf h (.lt (.var 3) (.lit 1)) false (by kernel_rfl); rw [dlt_f] at this; exact this
    have s4 : 1 ≤ ρ.i 5 := by have := fOf h (.lt (.var 5) (.lit 1)) false (by kernel_rfl); rw [dlt_f] at this; exact this
    have s6 : 1 ≤ ρ.i 7 := by have := fOf h (.lt (.var 7) (.lit 1)) false (by kernel_rfl); rw [dlt_f] at this; exact this
    have s8 : 1 ≤ ρ.i 9 := by have := fOf h (.lt (.var 9) (.lit 1)) false (by kernel_rfl); rw [dlt_f] at this; exact this
    exact spl (.eq (.var 13) (.var 2)) h (fun h => ⟨(ρ.i 2), (ρ.i 8), (-1), (ρ.i 4), (ρ.i 3), true, ⟨rosS h r42_4f_ok (congrArg (fun b => AV.sc (.bool b)) ((eqv_4f ρ).trans hg)), rosS h r89_4f_ok (congrArg (fun b => AV.sc (.bool b)) hg), rosK h c q81_4f_run, rosK h c q102_4f_run, rosK h c q80_4f_run, rosK h c q103_4f_run, rosK h c q56_4f2_run, rosK h c q99_4f2_run, rosK h c q55_4f2_run, rosK h c q100_4f2_run, rosK h c q43_4f2_run, rosK h c q90_4f2_run, rosK h c q57_4f2_run, rosK h c q101_4f2_run⟩, fun _ => ⟨e0, ⟨hh, rfl⟩, ⟨hl, el⟩, by omega⟩⟩) (fun h => spl (.eq (.var 13) (.var 4)) h (fun h => ⟨(ρ.i 2), (ρ.i 8), (ρ.i 2), (ρ.i 6), (ρ.i 5), true, ⟨rosS h r42_4f_ok (congrArg (fun b => AV.sc (.bool b)) ((eqv_4f ρ).trans hg)), rosS h r89_4f_ok (congrArg (fun b => AV.sc (.bool b)) hg), rosK h c q81_4f_run, rosK h c q102_4f_run, rosK h c q80_4f_run, rosK h c q103_4f_run, rosK h c q56_4f4_run, rosK h c q99_4f4_run, rosK h c q55_4f4_run, rosK h c q100_4f4_run, rosK h c q43_4f4_run, rosK h c q90_4f4_run, rosK h c q57_4f4_run, rosK h c q101_4f4_run⟩, fun _ => ⟨e0, ⟨hh, rfl⟩, ⟨hl, el⟩, by omega⟩⟩) (fun h => spl (.eq (.var 13) (.var 6)) h (fun h => ⟨(ρ.i 2), (ρ.i 8), (ρ.i 4), (ρ.i 8), (ρ.i 7), true, ⟨rosS h r42_4f_ok (congrArg (fun b => AV.sc (.bool b)) ((eqv_4f ρ).trans hg)), rosS h r89_4f_ok (congrArg (fun b => AV.sc (.bool b)) hg), rosK h c q81_4f_run, rosK h c q102_4f_run, rosK h c q80_4f_run, rosK h c q103_4f_run, rosK h c q56_4f6_run, rosK h c q99_4f6_run, rosK h c q55_4f6_run, rosK h c q100_4f6_run, rosK h c q43_4f6_run, rosK h c q90_4f6_run, rosK h c q57_4f6_run, rosK h c q101_4f6_run⟩, fun _ => ⟨e0, ⟨hh, rfl⟩, ⟨hl, el⟩, by omega⟩⟩) (fun h => spl (.eq (.var 13) (.var 8)) h (fun h => ⟨(ρ.i 2), (ρ.i 8), (ρ.i 6), (-1), (ρ.i 9), true, ⟨rosS h r42_4f_ok (congrArg (fun b => AV.sc (.bool b)) ((eqv_4f ρ).trans hg)), rosS h r89_4f_ok (congrArg (fun b => AV.sc (.bool b)) hg), rosK h c q81_4f_run, rosK h c q102_4f_run, rosK h c q80_4f_run, rosK h c q103_4f_run, rosK h c q56_4f8_run, rosK h c q99_4f8_run, rosK h c q55_4f8_run, rosK h c q100_4f8_run, rosK h c q43_4f8_run, rosK h c q90_4f8_run, rosK h c q57_4f8_run, rosK h c q101_4f8_run⟩, fun _ => ⟨e0, ⟨hh, rfl⟩, ⟨hl, el⟩, by omega⟩⟩) (fun h => ⟨(ρ.i 2), (ρ.i 8), (-1), (-1), (0), false, ⟨rosS h r42_4f_ok (congrArg (fun b => AV.sc (.bool b)) ((eqv_4f ρ).trans hg)), rosS h r89_4f_ok (congrArg (fun b => AV.sc (.bool b)) hg), rosK h c q81_4f_run, rosK h c q102_4f_run, rosK h c q80_4f_run, rosK h c q103_4f_run, rosK h c q56_4fx_run, rosK h c q99_4fx_run, rosK h c q55_4fx_run, rosK h c q100_4fx_run, rosK h c q43_4fx_run, rosK h c q90_4fx_run, rosK h c q57_4fx_run, rosK h c q101_4fx_run⟩, fun _ => ⟨e0, ⟨hh, rfl⟩, ⟨hl, el⟩, Int.le_refl 0⟩⟩))))
theorem cVok {ρ : Rho} (h : Kc 42 (X.denL ρ [cfgV 0]) (.sc (.bool false)) ∧ Kc 89 (X.denL ρ [cfgV 0]) (.sc (.bool false))) : CfgOk Try.prog ρ cV :=
  cfgL_ok (List.forall_mem_cons.2 ⟨h.1, List.forall_mem_cons.2 ⟨h.2, List.forall_mem_nil _⟩⟩) (fun _ _ _ => LpsOk.nil _ _ _ _)
theorem ros_y0 {ρ : Rho} {Φ : Facts} (h : Facts.ok ρ Φ) (hs : sees Φ ((.lt (.var 1) (.lit 1)), true) = true) : Ros ρ false (-1) (-1) (-1) (-1) (0) false := by
  have h : Facts.ok ρ f0 := Facts.ok_cons (sees_ok h hs) (Facts.ok_nil _)
  have k1 : Kc 42 (X.denL ρ [cfgV 0]) (.sc (.bool false)) := rosK h (cfg_ok (List.forall_mem_nil _)) y42_0_run
  have k2 : Kc 89 (X.denL ρ [cfgV 0]) (.sc (.bool false)) := rosK h (cfg_ok (List.forall_mem_nil _)) y89_0_run
  have c := cVok ⟨k1, k2⟩
  exact ⟨k1, k2, rosK h c y81_0_run, rosK h c y102_0_run, rosK h c y80_0_run, rosK h c y103_0_run, rosK h c y56_0_run, rosK h c y99_0_run, rosK h c y55_0_run, rosK h c y100_0_run, rosK h c y43_0_run, rosK h c y90_0_run, rosK h c y57_0_run, rosK h c y101_0_run⟩
theorem ros_y5 {ρ : Rho} {Φ : Facts} (h : Facts.ok ρ Φ) (hs : sees Φ ((.lt (.lit 4) (.var 1)), true) = true) : Ros ρ false (-1) (-1) (-1) (-1) (0) false := by
  have h : Facts.ok ρ f5 := Facts.ok_cons (sees_ok h hs) (Facts.ok_nil _)
  have k1 : Kc 42 (X.denL ρ [cfgV 0]) (.sc (.bool false)) := rosK h (cfg_ok (List.forall_mem_nil _)) y42_5_run
  have k2 : Kc 89 (X.denL ρ [cfgV 0]) (.sc (.bool false)) := rosK h (cfg_ok (List.forall_mem_nil _)) y89_5_run
  have c := cVok ⟨k1, k2⟩
  exact ⟨k1, k2, rosK h c y81_5_run, rosK h c y102_5_run, rosK h c y80_5_run, rosK h c y103_5_run, rosK h c y56_5_run, rosK h c y99_5_run, rosK h c y55_5_run, rosK h c y100_5_run, rosK h c y43_5_run, rosK h c y90_5_run, rosK h c y57_5_run, rosK h c y101_5_run⟩
theorem ros_cy (ρ : Rho) : ∃ hd ls ah bh sn fu, Ros ρ (rgB.den ρ) hd ls ah bh sn fu ∧ (rgB.den ρ = true → Gd ρ hd ls sn) := by
  by_cases a0 : ρ.i 1 < 1
  · have hb : rgB.den ρ = false := by unfold rgB; rw [dite_f]; exact ⟨fun _ => rfl, fun h => by rw [dlt_f] at h; simp only [IE.den] at h; omega⟩
    rw [hb]
    exact ⟨(-1), (-1), (-1), (-1), (0), false, ros_y0 (Φ := f0) (Facts.ok_cons (by rw [dlt_t]; exact a0) (Facts.ok_nil _)) (by kernel_rfl), fun h => nomatch h⟩
  by_cases a5 : 4 < ρ.i 1
  · have hb : rgB.den ρ = false := by unfold rgB; rw [dite_f]; refine ⟨fun _ => rfl, fun _ => ?_⟩; rw [dite_f]; exact ⟨fun _ => rfl, fun h => by rw [dlt_f] at h; simp only [IE.den] at h; omega⟩
    rw [hb]
    exact ⟨(-1), (-1), (-1), (-1), (0), false, ros_y5 (Φ := f5) (Facts.ok_cons (by rw [dlt_t]; exact a5) (Facts.ok_nil _)) (by kernel_rfl), fun h => nomatch h⟩
  have c0 : (BE.lt (.var 1) (.lit 1)).den ρ = false := by rw [dlt_f]; simp only [IE.den]; omega
  have c5 : (BE.lt (.lit 4) (.var 1)).den ρ = false := by rw [dlt_f]; simp only [IE.den]; omega
  have i_t : ∀ (c a b : BE), c.den ρ = true → (BE.ite c a b).den ρ = a.den ρ := fun c a b h => by simp only [BE.den, h, if_true]
  have i_f : ∀ (c a b : BE), c.den ρ = false → (BE.ite c a b).den ρ = b.den ρ := fun c a b h => by simp only [BE.den, h, Bool.false_eq_true, if_false]
  have e0 : rgB.den ρ = (BE.ite (.eq (.var 1) (.lit 1)) (.ite (.var 10) rg_1t rg_1f) (.ite (.eq (.var 1) (.lit 2)) (.ite (.var 10) rg_2t rg_2f) (.ite (.eq (.var 1) (.lit 3)) (.ite (.var 10) rg_3t rg_3f) (.ite (.var 10) rg_4t rg_4f)))).den ρ := by
    unfold rgB; rw [i_f _ _ _ c0, i_f _ _ _ c5]
  rw [e0]
  have nq : ∀ k : Int, ρ.i 1 ≠ k → (BE.eq (.var 1) (.lit k)).den ρ = false := fun k h => by rw [deq_f]; exact h
  have yq : ∀ k : Int, ρ.i 1 = k → (BE.eq (.var 1) (.lit k)).den ρ = true := fun k h => by rw [deq_t]; exact h
  rcases (show ρ.i 1 = 1 ∨ ρ.i 1 = 2 ∨ ρ.i 1 = 3 ∨ ρ.i 1 = 4 by omega) with h1 | h1 | h1 | h1
  · rw [i_t _ _ _ (yq 1 h1)]
    cases hj : ρ.b 10 with
    | true => rw [i_t _ _ _ (show (BE.var 10).den ρ = true from hj)]; exact ros_1t (Facts.ok_cons (yq 1 h1) (Facts.ok_cons hj (Facts.ok_nil _)))
    | false => rw [i_f _ _ _ (show (BE.var 10).den ρ = false from hj)]; exact ros_1f (Facts.ok_cons (yq 1 h1) (Facts.ok_cons hj (Facts.ok_nil _)))
  · rw [i_f _ _ _ (nq 1 (by omega)), i_t _ _ _ (yq 2 h1)]
    cases hj : ρ.b 10 with
    | true => rw [i_t _ _ _ (show (BE.var 10).den ρ = true from hj)]; exact ros_2t (Facts.ok_cons (yq 2 h1) (Facts.ok_cons hj (Facts.ok_nil _)))
    | false => rw [i_f _ _ _ (show (BE.var 10).den ρ = false from hj)]; exact ros_2f (Facts.ok_cons (yq 2 h1) (Facts.ok_cons hj (Facts.ok_nil _)))
  · rw [i_f _ _ _ (nq 1 (by omega)), i_f _ _ _ (nq 2 (by omega)), i_t _ _ _ (yq 3 h1)]
    cases hj : ρ.b 10 with
    | true => rw [i_t _ _ _ (show (BE.var 10).den ρ = true from hj)]; exact ros_3t (Facts.ok_cons (yq 3 h1) (Facts.ok_cons hj (Facts.ok_nil _)))
    | false => rw [i_f _ _ _ (show (BE.var 10).den ρ = false from hj)]; exact ros_3f (Facts.ok_cons (yq 3 h1) (Facts.ok_cons hj (Facts.ok_nil _)))
  · rw [i_f _ _ _ (nq 1 (by omega)), i_f _ _ _ (nq 2 (by omega)), i_f _ _ _ (nq 3 (by omega))]
    cases hj : ρ.b 10 with
    | true => rw [i_t _ _ _ (show (BE.var 10).den ρ = true from hj)]; exact ros_4t (Facts.ok_cons (yq 4 h1) (Facts.ok_cons hj (Facts.ok_nil _)))
    | false => rw [i_f _ _ _ (show (BE.var 10).den ρ = false from hj)]; exact ros_4f (Facts.ok_cons (yq 4 h1) (Facts.ok_cons hj (Facts.ok_nil _)))
end Go.Proofs.Ytonefailiekemaa
