/- ChainBounds: states at the head of the loop over acts, and behind a round. -/
import Derived.Test.YtonefailiekemaaFL5
import Derived.Test.YtonefailiekemaaFC
import Derived.Test.YtonefailiekemaaXA1
import Derived.Test.YtonefailiekemaaXwM3
namespace Go.Proofs.Ytonefailiekemaa
open Go Go.Proofs.Aw Go.Proofs.Xw
set_option maxRecDepth 100000
noncomputable def lpX (f : Nat) : List LoopX := if Nat.beq f 15 = true then [cX] else if Nat.beq f 59 = true then [dFx, dS] else []
theorem lpX_15o : othersB [cX] [0] 0 (loopsOf (Try.f15.body.getD .skip)) = true := by kernel_rfl
theorem lpX_15 {ρ : Rho} (h_cX : LoopOk Try.prog ρ Try.f15.ntmps cX_c cX) : LpsOk Try.prog ρ Try.f15.ntmps [cX] (Try.f15.body.getD .skip) :=
  lps_idx [0] lpX_15o (List.forall_mem_cons.2 ⟨look_list (c := cX_c) (Ls := [cX]) (by kernel_rfl) (List.forall_mem_cons.2 ⟨h_cX, List.forall_mem_nil _⟩), List.forall_mem_nil _⟩)
theorem lpX_59o : othersB [dFx, dS] [0, 1] 0 (loopsOf (Try.f59.body.getD .skip)) = true := by kernel_rfl
theorem lpX_59 {ρ : Rho} (h_dFx : LoopOk Try.prog ρ Try.f59.ntmps dFx_c dFx) (h_dS : LoopOk Try.prog ρ Try.f59.ntmps dS_c dS) : LpsOk Try.prog ρ Try.f59.ntmps [dFx, dS] (Try.f59.body.getD .skip) :=
  lps_idx [0, 1] lpX_59o (List.forall_mem_cons.2 ⟨look_list (c := dFx_c) (Ls := [dFx]) (by kernel_rfl) (List.forall_mem_cons.2 ⟨h_dFx, List.forall_mem_nil _⟩), List.forall_mem_cons.2 ⟨look_list (c := dS_c) (Ls := [dS]) (by kernel_rfl) (List.forall_mem_cons.2 ⟨h_dS, List.forall_mem_nil _⟩), List.forall_mem_nil _⟩⟩)
theorem lpX_ok {ρ : Rho} (h_cX : LoopOk Try.prog ρ Try.f15.ntmps cX_c cX) (h_dFx : LoopOk Try.prog ρ Try.f59.ntmps dFx_c dFx) (h_dS : LoopOk Try.prog ρ Try.f59.ntmps dS_c dS) : ∀ f i, btLook f ftsT = some i → LpsOk Try.prog ρ i.ntmps (lpX f) i.body := by
  intro f i h
  have hi := fts_ok (f, i) (bt_of_mem _ _ (btLook_mem h))
  unfold lpX
  split
  · rename_i hf
    have hf := Nat.eq_of_beq_eq_true hf
    subst hf
    exact lps_row hi Try.func15 (lpX_15 h_cX)
  · split
    · rename_i hf
      have hf := Nat.eq_of_beq_eq_true hf
      subst hf
      exact lps_row hi Try.func59 (lpX_59 h_dFx h_dS)
    · exact LpsOk.nil _ _ _ _
noncomputable def lpR (f : Nat) : List LoopX := if Nat.beq f 15 = true then [cX] else if Nat.beq f 59 = true then [dFr, dS] else []
theorem lpR_15o : othersB [cX] [0] 0 (loopsOf (Try.f15.body.getD .skip)) = true := by kernel_rfl
theorem lpR_15 {ρ : Rho} (h_cX : LoopOk Try.prog ρ Try.f15.ntmps cX_c cX) : LpsOk Try.prog ρ Try.f15.ntmps [cX] (Try.f15.body.getD .skip) :=
  lps_idx [0] lpR_15o (List.forall_mem_cons.2 ⟨look_list (c := cX_c) (Ls := [cX]) (by kernel_rfl) (List.forall_mem_cons.2 ⟨h_cX, List.forall_mem_nil _⟩), List.forall_mem_nil _⟩)
theorem lpR_59o : othersB [dFr, dS] [0, 1] 0 (loopsOf (Try.f59.body.getD .skip)) = true := by kernel_rfl
theorem lpR_59 {ρ : Rho} (h_dFr : LoopOk Try.prog ρ Try.f59.ntmps dFr_c dFr) (h_dS : LoopOk Try.prog ρ Try.f59.ntmps dS_c dS) : LpsOk Try.prog ρ Try.f59.ntmps [dFr, dS] (Try.f59.body.getD .skip) :=
  lps_idx [0, 1] lpR_59o (List.forall_mem_cons.2 ⟨look_list (c := dFr_c) (Ls := [dFr]) (by kernel_rfl) (List.forall_mem_cons.2 ⟨h_dFr, List.forall_mem_nil _⟩), List.forall_mem_cons.2 ⟨look_list (c := dS_c) (Ls := [dS]) (by kernel_rfl) (List.forall_mem_cons.2 ⟨h_dS, List.forall_mem_nil _⟩), List.forall_mem_nil _⟩⟩)
theorem lpR_ok {ρ : Rho} (h_cX : LoopOk Try.prog ρ Try.f15.ntmps cX_c cX) (h_dFr : LoopOk Try.prog ρ Try.f59.ntmps dFr_c dFr) (h_dS : LoopOk Try.prog ρ Try.f59.ntmps dS_c dS) : ∀ f i, btLook f ftsT = some i → LpsOk Try.prog ρ i.ntmps (lpR f) i.body := by
  intro f i h
  have hi := fts_ok (f, i) (bt_of_mem _ _ (btLook_mem h))
  unfold lpR
  split
  · rename_i hf
    have hf := Nat.eq_of_beq_eq_true hf
    subst hf
    exact lps_row hi Try.func15 (lpR_15 h_cX)
  · split
    · rename_i hf
      have hf := Nat.eq_of_beq_eq_true hf
      subst hf
      exact lps_row hi Try.func59 (lpR_59 h_dFr h_dS)
    · exact LpsOk.nil _ _ _ _
def scsOf : List X → List Sc
  | [] => []
  | .sc s :: l => s :: scsOf l
  | _ :: l => scsOf l
def aggOf : X → List X
  | .agg l => l
  | _ => []
def enR (r : RL) : List (Nat × List X × X) := [(30, [.rl 20 (.len 201) r false, logX], .sc (.b (.lit true)))]
def apR (e : X) : RL := .app (.len 201) rV (.one (scsOf (aggOf e)))
noncomputable def mC : Code := (loopsOf (Try.f6.body.getD .skip))[0]?.getD .skip
abbrev zFB0_0 : X := .sc (.i .i64 (.var 204))
abbrev zFB0_1 : X := .sc (.i .i64 (.var 205))
abbrev zFB0_2 : X := .sc (.s (.cl 0 18 (.var 200)))
abbrev zFB0_3 : X := .sc (.s (.cl 0 19 (.var 200)))
abbrev zFB0_4 : X := .sc (.b (.cl 0 20 (.var 200)))
abbrev zFB0_5 : IE := .op .max .i64 (.lit 0) (.cl 0 21 (.var 200))
abbrev zFB0_6 : IE := .op .max .i64 (.lit 0) (.cl 0 22 (.var 200))
abbrev zFB0_7 : IE := .op .max .i64 (.lit 0) (.cl 0 23 (.var 200))
abbrev zFB0_8 : IE := .op .max .i64 (.lit 0) (.cl 0 24 (.var 200))
abbrev zFB0_9 : IE := .op .max .i64 (.lit 0) (.cl 0 25 (.var 200))
abbrev zFB0_10 : IE := .op .max .i64 (.lit 0) (.cl 0 26 (.var 200))
abbrev zFB0_11 : IE := .op .max .i64 (.lit 0) (.cl 0 27 (.var 200))
abbrev zFB0_12 : IE := .op .max .i64 (.lit 0) (.cl 0 28 (.var 200))
abbrev zFB0_13 : IE := .op .max .i64 (.lit 0) (.cl 0 29 (.var 200))
abbrev zFB0_14 : X := .sc (.i .i64 (.cl 0 2 (.var 200)))
abbrev zFB0_15 : X := .sc (.i .i64 (.cl 0 3 (.var 200)))
def eL : X := (.agg [zFB0_0, zFB0_1, (.sc (.i .i64 (.op .add .i64 (.ite (.eq (.var 204) (.lit 0)) (.var 321) (.ite (.eq (.var 204) (.lit 1)) (.var 322) (.var 323))) (.lit 1)))), (.sc (.i .i64 (.var 351))), zFB0_0, zFB0_1, zFB0_2, zFB0_3, zFB0_4, (.sc (.i .i64 (.op .max .i64 zFB0_5 (.var 311)))), (.sc (.i .i64 (.op .max .i64 zFB0_6 (.var 312)))), (.sc (.i .i64 (.op .max .i64 zFB0_7 (.var 313)))), (.sc (.i .i64 (.op .max .i64 zFB0_8 (.var 314)))), (.sc (.i .i64 (.op .max .i64 zFB0_9 (.var 315)))), (.sc (.i .i64 (.op .max .i64 zFB0_10 (.var 316)))), (.sc (.i .i64 (.op .max .i64 zFB0_11 (.var 317)))), (.sc (.i .i64 (.op .max .i64 zFB0_12 (.var 318)))), (.sc (.i .i64 (.op .max .i64 zFB0_13 (.var 319)))), zFB0_14, zFB0_15])
def eN : X := (.agg [zFB0_0, zFB0_1, (.sc (.i .i64 (.lit 1))), (.sc (.i .i64 (.var 351))), zFB0_0, zFB0_1, zFB0_2, zFB0_3, zFB0_4, (.sc (.i .i64 (.op .max .i64 zFB0_5 (.lit 0)))), (.sc (.i .i64 (.op .max .i64 zFB0_6 (.lit 0)))), (.sc (.i .i64 (.op .max .i64 zFB0_7 (.lit 0)))), (.sc (.i .i64 (.op .max .i64 zFB0_8 (.lit 0)))), (.sc (.i .i64 (.op .max .i64 zFB0_9 (.lit 0)))), (.sc (.i .i64 (.op .max .i64 zFB0_10 (.lit 0)))), (.sc (.i .i64 (.op .max .i64 zFB0_11 (.lit 0)))), (.sc (.i .i64 (.op .max .i64 zFB0_12 (.lit 0)))), (.sc (.i .i64 (.op .max .i64 zFB0_13 (.lit 0)))), zFB0_14, zFB0_15])
def mT (i : IE) : XTp := [(11, .sc (.i .i64 i)), (10, .ptr (14, 0) [] 0), (9, .ptr (12, 0) [] 0), (28, .top), (27, .top), (26, .top), (25, .top), (24, .top), (23, .top), (22, .top), (21, .top), (20, .top), (19, .top), (18, .top), (17, .top), (8, .top), (0, iV 0), (1, iV 1), (2, iV 2), (3, puR)]
def mS (h : XHp) : XS := ⟨mT (.var 200), h, 28⟩
def lS (h : XHp) (n : Nat) : XS := ⟨mT (.op .add .i64 (.var 200) (.lit 1)), h, n⟩
def mK : List Nat := [11, 10, 9, 28, 27, 26, 25, 24, 23, 22, 21, 20, 19, 18, 17, 8, 0, 1, 2, 3]
noncomputable def mRun (c : Cfg) (Φ : Facts) (S : XS) : T (XE × XS) := (codeX c.ti (callS ⟨c, l_able, HFL⟩ 12) ((c.ft 6).elim [] (·.ms)) 0 [] 1000 mC (Φ ++ (kF ++ limC)) S).map (sqz mK)
/-- A configuration with contracts more. -/
def addK (k : List (Nat × List X × X)) (c : Cfg) : Cfg := ⟨c.ti, c.ft, c.fuel, k ++ c.ks, c.lp⟩
noncomputable def c0 (ks : List (Nat × List X × X)) : Cfg := cfgL ks (fun _ => [])
noncomputable def cXx (ks : List (Nat × List X × X)) : Cfg := cfgL ks lpX
noncomputable def cXr (ks : List (Nat × List X × X)) : Cfg := cfgL ks lpR
end Go.Proofs.Ytonefailiekemaa
