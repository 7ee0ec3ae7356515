/- Roster: what the runs may suppose of the test of a chain. -/
import Derived.Test.YtjgimdheiflinaaXQ
namespace Go.Proofs.Ytjgimdheiflinaa
open Go Go.Proofs.Aw Go.Proofs.Xw
set_option maxRecDepth 100000
theorem ksN_1t {ρ : Rho} (hg : rg_1t.den ρ = false) : ∀ p ∈ ksN 1 true, hasBody Try.prog p.1 = true ∧ ∀ n h, CY Try.prog n p.1 (X.denL ρ p.2.1) h (p.2.2.den ρ) [] :=
  List.forall_mem_cons.2 ⟨⟨rr_1t_ok.1, fun n h => by
    have g := rr_1t_ok.2 ρ n h
    rw [show X.den ρ rr_1t.r = .sc (.bool false) from congrArg (fun b => AV.sc (.bool b)) hg] at g
    exact g⟩, List.forall_mem_cons.2 ⟨⟨r26_1t_ok.1, fun n h => by
    have g := r26_1t_ok.2 ρ n h
    rw [show X.den ρ r26_1t.r = .sc (.bool false) from congrArg (fun b => AV.sc (.bool b)) hg] at g
    exact g⟩, List.forall_mem_nil _⟩⟩
theorem ksR_1t {ρ : Rho} {Φ : Facts} (hk : Facts.ok ρ Φ) (hl : X.likeL Φ [cfgN 1 true 0] [cfgZ 1 true] = true) (hg : rg_1t.den ρ = true) : ∀ p ∈ ksR 1 true, hasBody Try.prog p.1 = true ∧ ∀ n h, CY Try.prog n p.1 (X.denL ρ p.2.1) h (p.2.2.den ρ) [] := by
  have e : X.denL ρ rr_1t.pat = X.denL ρ [cfgZ 1 true] := X.likeL_ok hk _ _ hl
  have e' : X.denL ρ r26_1t.pat = X.denL ρ [cfgZ 1 true] := X.likeL_ok hk _ _ hl
  exact List.forall_mem_cons.2 ⟨⟨rr_1t_ok.1, fun n h => by
    have g := rr_1t_ok.2 ρ n h
    rw [show X.den ρ rr_1t.r = .sc (.bool true) from congrArg (fun b => AV.sc (.bool b)) hg, e] at g
    exact g⟩, List.forall_mem_cons.2 ⟨⟨r26_1t_ok.1, fun n h => by
    have g := r26_1t_ok.2 ρ n h
    rw [show X.den ρ r26_1t.r = .sc (.bool true) from congrArg (fun b => AV.sc (.bool b)) hg, e'] at g
    exact g⟩, List.forall_mem_nil _⟩⟩
theorem ksN_1f {ρ : Rho} (hg : rg_1f.den ρ = false) : ∀ p ∈ ksN 1 false, hasBody Try.prog p.1 = true ∧ ∀ n h, CY Try.prog n p.1 (X.denL ρ p.2.1) h (p.2.2.den ρ) [] :=
  List.forall_mem_cons.2 ⟨⟨rr_1f_ok.1, fun n h => by
    have g := rr_1f_ok.2 ρ n h
    rw [show X.den ρ rr_1f.r = .sc (.bool false) from congrArg (fun b => AV.sc (.bool b)) hg] at g
    exact g⟩, List.forall_mem_cons.2 ⟨⟨r26_1f_ok.1, fun n h => by
    have g := r26_1f_ok.2 ρ n h
    rw [show X.den ρ r26_1f.r = .sc (.bool false) from congrArg (fun b => AV.sc (.bool b)) hg] at g
    exact g⟩, List.forall_mem_nil _⟩⟩
theorem ksR_1f {ρ : Rho} {Φ : Facts} (hk : Facts.ok ρ Φ) (hl : X.likeL Φ [cfgN 1 false 0] [cfgZ 1 false] = true) (hg : rg_1f.den ρ = true) : ∀ p ∈ ksR 1 false, hasBody Try.prog p.1 = true ∧ ∀ n h, CY Try.prog n p.1 (X.denL ρ p.2.1) h (p.2.2.den ρ) [] := by
  have e : X.denL ρ rr_1f.pat = X.denL ρ [cfgZ 1 false] := X.likeL_ok hk _ _ hl
  have e' : X.denL ρ r26_1f.pat = X.denL ρ [cfgZ 1 false] := X.likeL_ok hk _ _ hl
  exact List.forall_mem_cons.2 ⟨⟨rr_1f_ok.1, fun n h => by
    have g := rr_1f_ok.2 ρ n h
    rw [show X.den ρ rr_1f.r = .sc (.bool true) from congrArg (fun b => AV.sc (.bool b)) hg, e] at g
    exact g⟩, List.forall_mem_cons.2 ⟨⟨r26_1f_ok.1, fun n h => by
    have g := r26_1f_ok.2 ρ n h
    rw [show X.den ρ r26_1f.r = .sc (.bool true) from congrArg (fun b => AV.sc (.bool b)) hg, e'] at g
    exact g⟩, List.forall_mem_nil _⟩⟩
theorem ksN_2t {ρ : Rho} (hg : rg_2t.den ρ = false) : ∀ p ∈ ksN 2 true, hasBody Try.prog p.1 = true ∧ ∀ n h, CY Try.prog n p.1 (X.denL ρ p.2.1) h (p.2.2.den ρ) [] :=
  List.forall_mem_cons.2 ⟨⟨rr_2t_ok.1, fun n h => by
    have g := rr_2t_ok.2 ρ n h
    rw [show X.den ρ rr_2t.r = .sc (.bool false) from congrArg (fun b => AV.sc (.bool b)) hg] at g
    exact g⟩, List.forall_mem_cons.2 ⟨⟨r26_2t_ok.1, fun n h => by
    have g := r26_2t_ok.2 ρ n h
    rw [show X.den ρ r26_2t.r = .sc (.bool false) from congrArg (fun b => AV.sc (.bool b)) hg] at g
    exact g⟩, List.forall_mem_nil _⟩⟩
theorem ksR_2t {ρ : Rho} {Φ : Facts} (hk : Facts.ok ρ Φ) (hl : X.likeL Φ [cfgN 2 true 0] [cfgZ 2 true] = true) (hg : rg_2t.den ρ = true) : ∀ p ∈ ksR 2 true, hasBody Try.prog p.1 = true ∧ ∀ n h, CY Try.prog n p.1 (X.denL ρ p.2.1) h (p.2.2.den ρ) [] := by
  have e : X.denL ρ rr_2t.pat = X.denL ρ [cfgZ 2 true] := X.likeL_ok hk _ _ hl
  have e' : X.denL ρ r26_2t.pat = X.denL ρ [cfgZ 2 true] := X.likeL_ok hk _ _ hl
  exact List.forall_mem_cons.2 ⟨⟨rr_2t_ok.1, fun n h => by
    have g := rr_2t_ok.2 ρ n h
    rw [show X.den ρ rr_2t.r = .sc (.bool true) from congrArg (fun b => AV.sc (.bool b)) hg, e] at g
    exact g⟩, List.forall_mem_cons.2 ⟨⟨r26_2t_ok.1, fun n h => by
    have g := r26_2t_ok.2 ρ n h
    rw [show X.den ρ r26_2t.r = .sc (.bool true) from congrArg (fun b => AV.sc (.bool b)) hg, e'] at g
    exact g⟩, List.forall_mem_nil _⟩⟩
theorem ksN_2f {ρ : Rho} (hg : rg_2f.den ρ = false) : ∀ p ∈ ksN 2 false, hasBody Try.prog p.1 = true ∧ ∀ n h, CY Try.prog n p.1 (X.denL ρ p.2.1) h (p.2.2.den ρ) [] :=
  List.forall_mem_cons.2 ⟨⟨rr_2f_ok.1, fun n h => by
    have g := rr_2f_ok.2 ρ n h
    rw [show X.den ρ rr_2f.r = .sc (.bool false) from congrArg (fun b => AV.sc (.bool b)) hg] at g
    exact g⟩, List.forall_mem_cons.2 ⟨⟨r26_2f_ok.1, fun n h => by
    have g := r26_2f_ok.2 ρ n h
    rw [show X.den ρ r26_2f.r = .sc (.bool false) from congrArg (fun b => AV.sc (.bool b)) hg] at g
    exact g⟩, List.forall_mem_nil _⟩⟩
theorem ksR_2f {ρ : Rho} {Φ : Facts} (hk : Facts.ok ρ Φ) (hl : X.likeL Φ [cfgN 2 false 0] [cfgZ 2 false] = true) (hg : rg_2f.den ρ = true) : ∀ p ∈ ksR 2 false, hasBody Try.prog p.1 = true ∧ ∀ n h, CY Try.prog n p.1 (X.denL ρ p.2.1) h (p.2.2.den ρ) [] := by
  have e : X.denL ρ rr_2f.pat = X.denL ρ [cfgZ 2 false] := X.likeL_ok hk _ _ hl
  have e' : X.denL ρ r26_2f.pat = X.denL ρ [cfgZ 2 false] := X.likeL_ok hk _ _ hl
  exact List.forall_mem_cons.2 ⟨⟨rr_2f_ok.1, fun n h => by
    have g := rr_2f_ok.2 ρ n h
    rw [show X.den ρ rr_2f.r = .sc (.bool true) from congrArg (fun b => AV.sc (.bool b)) hg, e] at g
    exact g⟩, List.forall_mem_cons.2 ⟨⟨r26_2f_ok.1, fun n h => by
    have g := r26_2f_ok.2 ρ n h
    rw [show X.den ρ r26_2f.r = .sc (.bool true) from congrArg (fun b => AV.sc (.bool b)) hg, e'] at g
    exact g⟩, List.forall_mem_nil _⟩⟩
theorem ksN_3t {ρ : Rho} (hg : rg_3t.den ρ = false) : ∀ p ∈ ksN 3 true, hasBody Try.prog p.1 = true ∧ ∀ n h, CY Try.prog n p.1 (X.denL ρ p.2.1) h (p.2.2.den ρ) [] :=
  List.forall_mem_cons.2 ⟨⟨rr_3t_ok.1, fun n h => by
    have g := rr_3t_ok.2 ρ n h
    rw [show X.den ρ rr_3t.r = .sc (.bool false) from congrArg (fun b => AV.sc (.bool b)) hg] at g
    exact g⟩, List.forall_mem_cons.2 ⟨⟨r26_3t_ok.1, fun n h => by
    have g := r26_3t_ok.2 ρ n h
    rw [show X.den ρ r26_3t.r = .sc (.bool false) from congrArg (fun b => AV.sc (.bool b)) hg] at g
    exact g⟩, List.forall_mem_nil _⟩⟩
theorem ksR_3t {ρ : Rho} {Φ : Facts} (hk : Facts.ok ρ Φ) (hl : X.likeL Φ [cfgN 3 true 0] [cfgZ 3 true] = true) (hg : rg_3t.den ρ = true) : ∀ p ∈ ksR 3 true, hasBody Try.prog p.1 = true ∧ ∀ n h, CY Try.prog n p.1 (X.denL ρ p.2.1) h (p.2.2.den ρ) [] := by
  have e : X.denL ρ rr_3t.pat = X.denL ρ [cfgZ 3 true] := X.likeL_ok hk _ _ hl
  have e' : X.denL ρ r26_3t.pat = X.denL ρ [cfgZ 3 true] := X.likeL_ok hk _ _ hl
  exact List.forall_mem_cons.2 ⟨⟨rr_3t_ok.1, fun n h => by
    have g := rr_3t_ok.2 ρ n h
    rw [show X.den ρ rr_3t.r = .sc (.bool true) from congrArg (fun b => AV.sc (.bool b)) hg, e] at g
    exact g⟩, List.forall_mem_cons.2 ⟨⟨r26_3t_ok.1, fun n h => by
    have g := r26_3t_ok.2 ρ n h
    rw [show X.den ρ r26_3t.r = .sc (.bool true) from congrArg (fun b => AV.sc (.bool b)) hg, e'] at g
    exact g⟩, List.forall_mem_nil _⟩⟩
theorem ksN_3f {ρ : Rho} (hg : rg_3f.den ρ = false) : ∀ p ∈ ksN 3 false, hasBody Try.prog p.1 = true ∧ ∀ n h, CY Try.prog n p.1 (X.denL ρ p.2.1) h (p.2.2.den ρ) [] :=
  List.forall_mem_cons.2 ⟨⟨rr_3f_ok.1, fun n h => by
    have g := rr_3f_ok.2 ρ n h
    rw [show X.den ρ rr_3f.r = .sc (.bool false) from congrArg (fun b => AV.sc (.bool b)) hg] at g
    exact g⟩, List.forall_mem_cons.2 ⟨⟨r26_3f_ok.1, fun n h => by
    have g := r26_3f_ok.2 ρ n h
    rw [show X.den ρ r26_3f.r = .sc (.bool false) from congrArg (fun b => AV.sc (.bool b)) hg] at g
    exact g⟩, List.forall_mem_nil _⟩⟩
theorem ksR_3f {ρ : Rho} {Φ : Facts} (hk : Facts.ok ρ Φ) (hl : X.likeL Φ [cfgN 3 false 0] [cfgZ 3 false] = true) (hg : rg_3f.den ρ = true) : ∀ p ∈ ksR 3 false, hasBody Try.prog p.1 = true ∧ ∀ n h, CY Try.prog n p.1 (X.denL ρ p.2.1) h (p.2.2.den ρ) [] := by
  have e : X.denL ρ rr_3f.pat = X.denL ρ [cfgZ 3 false] := X.likeL_ok hk _ _ hl
  have e' : X.denL ρ r26_3f.pat = X.denL ρ [cfgZ 3 false] := X.likeL_ok hk _ _ hl
  exact List.forall_mem_cons.2 ⟨⟨rr_3f_ok.1, fun n h => by
    have g := rr_3f_ok.2 ρ n h
    rw [show X.den ρ rr_3f.r = .sc (.bool true) from congrArg (fun b => AV.sc (.bool b)) hg, e] at g
    exact g⟩, List.forall_mem_cons.2 ⟨⟨r26_3f_ok.1, fun n h => by
    have g := r26_3f_ok.2 ρ n h
    rw [show X.den ρ r26_3f.r = .sc (.bool true) from congrArg (fun b => AV.sc (.bool b)) hg, e'] at g
    exact g⟩, List.forall_mem_nil _⟩⟩
theorem ksN_4t {ρ : Rho} (hg : rg_4t.den ρ = false) : ∀ p ∈ ksN 4 true, hasBody Try.prog p.1 = true ∧ ∀ n h, CY Try.prog n p.1 (X.denL ρ p.2.1) h (p.2.2.den ρ) [] :=
  List.forall_mem_cons.2 ⟨⟨rr_4t_ok.1, fun n h => by
    have g := rr_4t_ok.2 ρ n h
    rw [show X.den ρ rr_4t.r = .sc (.bool false) from congrArg (fun b => AV.sc (.bool b)) hg] at g
    exact g⟩, List.forall_mem_cons.2 ⟨⟨r26_4t_ok.1, fun n h => by
    have g := r26_4t_ok.2 ρ n h
    rw [show X.den ρ r26_4t.r = .sc (.bool false) from congrArg (fun b => AV.sc (.bool b)) hg] at g
    exact g⟩, List.forall_mem_nil _⟩⟩
theorem ksR_4t {ρ : Rho} {Φ : Facts} (hk : Facts.ok ρ Φ) (hl : X.likeL Φ [cfgN 4 true 0] [cfgZ 4 true] = true) (hg : rg_4t.den ρ = true) : ∀ p ∈ ksR 4 true, hasBody Try.prog p.1 = true ∧ ∀ n h, CY Try.prog n p.1 (X.denL ρ p.2.1) h (p.2.2.den ρ) [] := by
  have e : X.denL ρ rr_4t.pat = X.denL ρ [cfgZ 4 true] := X.likeL_ok hk _ _ hl
  have e' : X.denL ρ r26_4t.pat = X.denL ρ [cfgZ 4 true] := X.likeL_ok hk _ _ hl
  exact List.forall_mem_cons.2 ⟨⟨rr_4t_ok.1, fun n h => by
    have g := rr_4t_ok.2 ρ n h
    rw [show X.den ρ rr_4t.r = .sc (.bool true) from congrArg (fun b => AV.sc (.bool b)) hg, e] at g
    exact g⟩, List.forall_mem_cons.2 ⟨⟨r26_4t_ok.1, fun n h => by
    have g := r26_4t_ok.2 ρ n h
    rw [show X.den ρ r26_4t.r = .sc (.bool true) from congrArg (fun b => AV.sc (.bool b)) hg, e'] at g
    exact g⟩, List.forall_mem_nil _⟩⟩
theorem ksN_4f {ρ : Rho} (hg : rg_4f.den ρ = false) : ∀ p ∈ ksN 4 false, hasBody Try.prog p.1 = true ∧ ∀ n h, CY Try.prog n p.1 (X.denL ρ p.2.1) h (p.2.2.den ρ) [] :=
  List.forall_mem_cons.2 ⟨⟨rr_4f_ok.1, fun n h => by
    have g := rr_4f_ok.2 ρ n h
    rw [show X.den ρ rr_4f.r = .sc (.bool false) from congrArg (fun b => AV.sc (.bool b)) hg] at g
    exact g⟩, List.forall_mem_cons.2 ⟨⟨r26_4f_ok.1, fun n h => by
    have g := r26_4f_ok.2 ρ n h
    rw [show X.den ρ r26_4f.r = .sc (.bool false) from congrArg (fun b => AV.sc (.bool b)) hg] at g
    exact g⟩, List.forall_mem_nil _⟩⟩
theorem ksR_4f {ρ : Rho} {Φ : Facts} (hk : Facts.ok ρ Φ) (hl : X.likeL Φ [cfgN 4 false 0] [cfgZ 4 false] = true) (hg : rg_4f.den ρ = true) : ∀ p ∈ ksR 4 false, hasBody Try.prog p.1 = true ∧ ∀ n h, CY Try.prog n p.1 (X.denL ρ p.2.1) h (p.2.2.den ρ) [] := by
  have e : X.denL ρ rr_4f.pat = X.denL ρ [cfgZ 4 false] := X.likeL_ok hk _ _ hl
  have e' : X.denL ρ r26_4f.pat = X.denL ρ [cfgZ 4 false] := X.likeL_ok hk _ _ hl
  exact List.forall_mem_cons.2 ⟨⟨rr_4f_ok.1, fun n h => by
    have g := rr_4f_ok.2 ρ n h
    rw [show X.den ρ rr_4f.r = .sc (.bool true) from congrArg (fun b => AV.sc (.bool b)) hg, e] at g
    exact g⟩, List.forall_mem_cons.2 ⟨⟨r26_4f_ok.1, fun n h => by
    have g := r26_4f_ok.2 ρ n h
    rw [show X.den ρ r26_4f.r = .sc (.bool true) from congrArg (fun b => AV.sc (.bool b)) hg, e'] at g
    exact g⟩, List.forall_mem_nil _⟩⟩
end Go.Proofs.Ytjgimdheiflinaa
