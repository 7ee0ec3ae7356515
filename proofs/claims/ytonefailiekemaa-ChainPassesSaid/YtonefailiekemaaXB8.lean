/- What functions answer, run over letters, where something is known; each shown by running it. -/
import Derived.Test.YtonefailiekemaaXT
import Derived.Test.YtonefailiekemaaXB7
import Derived.Test.YtonefailiekemaaXwM2
namespace Go.Proofs.Ytonefailiekemaa
open Go Go.Proofs.Aw Go.Proofs.Xw
noncomputable def cZ_c : Code := mC
noncomputable def cY_c : Code := mC
noncomputable def cV_c : Code := sC_c
noncomputable def cW_c : Code := sC_c
noncomputable def lpM0 (f : Nat) : List LoopX := if Nat.beq f 5 = true then [cZ] else []
theorem lpM0_5o : othersB [cZ] [0] 0 (loopsOf (Try.f5.body.getD .skip)) = true := by kernel_rfl
theorem lpM0_5 {ρ : Rho} (h_cZ : LoopOk Try.prog ρ Try.f5.ntmps cZ_c cZ) : LpsOk Try.prog ρ Try.f5.ntmps [cZ] (Try.f5.body.getD .skip) :=
  lps_idx [0] lpM0_5o (List.forall_mem_cons.2 ⟨look_list (c := cZ_c) (Ls := [cZ]) (by kernel_rfl) (List.forall_mem_cons.2 ⟨h_cZ, List.forall_mem_nil _⟩), List.forall_mem_nil _⟩)
theorem lpM0_ok {ρ : Rho} (h_cZ : LoopOk Try.prog ρ Try.f5.ntmps cZ_c cZ) : ∀ f i, btLook f ftsT = some i → LpsOk Try.prog ρ i.ntmps (lpM0 f) i.body := by
  intro f i h
  have hi := fts_ok (f, i) (bt_of_mem _ _ (btLook_mem h))
  unfold lpM0
  split
  · rename_i hf
    have hf := Nat.eq_of_beq_eq_true hf
    subst hf
    exact lps_row hi Try.func5 (lpM0_5 h_cZ)
  · exact LpsOk.nil _ _ _ _
noncomputable def lpM1 (f : Nat) : List LoopX := if Nat.beq f 5 = true then [cY, cV] else []
theorem lpM1_5o : othersB [cY, cV] [0, 1] 0 (loopsOf (Try.f5.body.getD .skip)) = true := by kernel_rfl
theorem lpM1_5 {ρ : Rho} (h_cY : LoopOk Try.prog ρ Try.f5.ntmps cY_c cY) (h_cV : LoopOk Try.prog ρ Try.f5.ntmps cV_c cV) : LpsOk Try.prog ρ Try.f5.ntmps [cY, cV] (Try.f5.body.getD .skip) :=
  lps_idx [0, 1] lpM1_5o (List.forall_mem_cons.2 ⟨look_list (c := cY_c) (Ls := [cY]) (by kernel_rfl) (List.forall_mem_cons.2 ⟨h_cY, List.forall_mem_nil _⟩), List.forall_mem_cons.2 ⟨look_list (c := cV_c) (Ls := [cV]) (by kernel_rfl) (List.forall_mem_cons.2 ⟨h_cV, List.forall_mem_nil _⟩), List.forall_mem_nil _⟩⟩)
theorem lpM1_ok {ρ : Rho} (h_cY : LoopOk Try.prog ρ Try.f5.ntmps cY_c cY) (h_cV : LoopOk Try.prog ρ Try.f5.ntmps cV_c cV) : ∀ f i, btLook f ftsT = some i → LpsOk Try.prog ρ i.ntmps (lpM1 f) i.body := by
  intro f i h
  have hi := fts_ok (f, i) (bt_of_mem _ _ (btLook_mem h))
  unfold lpM1
  split
  · rename_i hf
    have hf := Nat.eq_of_beq_eq_true hf
    subst hf
    exact lps_row hi Try.func5 (lpM1_5 h_cY h_cV)
  · exact LpsOk.nil _ _ _ _
noncomputable def lpM2 (f : Nat) : List LoopX := if Nat.beq f 5 = true then [cY, cW] else []
theorem lpM2_5o : othersB [cY, cW] [0, 1] 0 (loopsOf (Try.f5.body.getD .skip)) = true := by kernel_rfl
theorem lpM2_5 {ρ : Rho} (h_cY : LoopOk Try.prog ρ Try.f5.ntmps cY_c cY) (h_cW : LoopOk Try.prog ρ Try.f5.ntmps cW_c cW) : LpsOk Try.prog ρ Try.f5.ntmps [cY, cW] (Try.f5.body.getD .skip) :=
  lps_idx [0, 1] lpM2_5o (List.forall_mem_cons.2 ⟨look_list (c := cY_c) (Ls := [cY]) (by kernel_rfl) (List.forall_mem_cons.2 ⟨h_cY, List.forall_mem_nil _⟩), List.forall_mem_cons.2 ⟨look_list (c := cW_c) (Ls := [cW]) (by kernel_rfl) (List.forall_mem_cons.2 ⟨h_cW, List.forall_mem_nil _⟩), List.forall_mem_nil _⟩⟩)
theorem lpM2_ok {ρ : Rho} (h_cY : LoopOk Try.prog ρ Try.f5.ntmps cY_c cY) (h_cW : LoopOk Try.prog ρ Try.f5.ntmps cW_c cW) : ∀ f i, btLook f ftsT = some i → LpsOk Try.prog ρ i.ntmps (lpM2 f) i.body := by
  intro f i h
  have hi := fts_ok (f, i) (bt_of_mem _ _ (btLook_mem h))
  unfold lpM2
  split
  · rename_i hf
    have hf := Nat.eq_of_beq_eq_true hf
    subst hf
    exact lps_row hi Try.func5 (lpM2_5 h_cY h_cW)
  · exact LpsOk.nil _ _ _ _
def syX : X := .sc (.i .i64 (.var 1))
def ksE : List (Nat × List X × X) := [(30, [.rl 20 (.len 402) (.var 402 ke) false, .rl 20 (.var 203) (.var 201 ke) false], .sc (.b (.lit true))), (10, [puR], .sc (.b (.var 90)))]
def bigA : Facts := [(.lt (.lit 400) (.len 0), true)]
def muchA : Facts := [(.var 90, true)]
def lim0 : Facts := [(.var 90, false), (.lt (.lit 400) (.len 0), false)]
def lim1 : Facts := [(.var 90, false), (.lt (.lit 400) (.len 0), false), (.lt (.len 201) (.lit 1), false), (.lt (.lit 256) (.len 201), false), (.lt (.var 203) (.lit 0), false), (.lt (.len 201) (.var 203), false), (.eq (.var 203) (.lit 0), true)]
def lim2 : Facts := [(.var 90, false), (.lt (.lit 400) (.len 0), false), (.lt (.len 201) (.lit 1), false), (.lt (.lit 256) (.len 201), false), (.lt (.var 203) (.lit 0), false), (.lt (.len 201) (.var 203), false), (.eq (.var 203) (.lit 0), false), (.lt (.len 402) (.lit 1), false), (.lt (.lit 256) (.len 402), false), (.lt (.var 401) (.var 203), false), (.lt (.var 403) (.var 203), false), (.eq (.var 403) (.var 203), true), (.eq (.var 405) (.var 203), true), (.eq (.len 402) (.var 203), true)]
def onceA : T X := (.ret (.sc (.b (.lit true))))
set_option maxRecDepth 100000 in
theorem onceA_run : askF ⟨cfg [], l_able, HFL⟩ 5 ([puR, syX]) bigA = onceA := by kernel_rfl
def onceM : T X := (.ret (.sc (.b (.lit true))))
set_option maxRecDepth 100000 in
theorem onceM_run : askF ⟨cfgL ksM (fun _ => []), l_able, HFL⟩ 5 ([puR, syX]) muchA = onceM := by kernel_rfl
def once0 : T X := (.ret (.sc (.b (.lit true))))
set_option maxRecDepth 100000 in
theorem once0_run : askF ⟨cfgL ksM lpM0, l_able, HFL⟩ 5 ([puR, syX]) lim0 = once0 := by kernel_rfl
def once1 : T X := (.ret (.sc (.b (.lit true))))
set_option maxRecDepth 100000 in
theorem once1_run : askF ⟨cfgL ksM lpM1, l_able, HFL⟩ 5 ([puR, syX]) lim1 = once1 := by kernel_rfl
def once2 : T X := (.ret (.sc (.b (.lit true))))
set_option maxRecDepth 100000 in
theorem once2_run : askF ⟨cfgL ksE lpM2, l_able, HFL⟩ 5 ([puR, syX]) lim2 = once2 := by kernel_rfl
end Go.Proofs.Ytonefailiekemaa
