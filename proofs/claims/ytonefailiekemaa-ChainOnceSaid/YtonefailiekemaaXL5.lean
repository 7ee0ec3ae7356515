/- What functions answer, run over letters, where something is known; each shown by running it. -/
import Derived.Test.YtonefailiekemaaXT
import Derived.Test.YtonefailiekemaaXA5
import Derived.Test.YtonefailiekemaaXwM2
namespace Go.Proofs.Ytonefailiekemaa
open Go Go.Proofs.Aw Go.Proofs.Xw
noncomputable def cZ_c : Code := mC
noncomputable def cY_c : Code := mC
/-- The main loop, where its log is empty at the end. -/
noncomputable def cZ : LoopX := ⟨(codeKey mC).getD 0, 0, 200, mSi, noB, [], .ret (.exit 0, o0)⟩
/-- The main loop, where its log holds rows at the end. -/
noncomputable def cY : LoopX := ⟨(codeKey mC).getD 0, 0, 200, mSi, noB, [], .ret (.exit 0, o1)⟩
noncomputable def lpM0 (f : Nat) : List LoopX := if Nat.beq f 3 = true then [cZ] else []
theorem lpM0_3o : othersB [cZ] [0] 0 (loopsOf (Try.f3.body.getD .skip)) = true := by kernel_rfl
theorem lpM0_3 {ρ : Rho} (h_cZ : LoopOk Try.prog ρ Try.f3.ntmps cZ_c cZ) : LpsOk Try.prog ρ Try.f3.ntmps [cZ] (Try.f3.body.getD .skip) :=
  lps_idx [0] lpM0_3o (List.forall_mem_cons.2 ⟨look_list (c := cZ_c) (Ls := [cZ]) (by kernel_rfl) (List.forall_mem_cons.2 ⟨h_cZ, List.forall_mem_nil _⟩), List.forall_mem_nil _⟩)
theorem lpM0_ok {ρ : Rho} (h_cZ : LoopOk Try.prog ρ Try.f3.ntmps cZ_c cZ) : ∀ f i, btLook f ftsT = some i → LpsOk Try.prog ρ i.ntmps (lpM0 f) i.body := by
  intro f i h
  have hi := fts_ok (f, i) (bt_of_mem _ _ (btLook_mem h))
  unfold lpM0
  split
  · rename_i hf
    have hf := Nat.eq_of_beq_eq_true hf
    subst hf
    exact lps_row hi Try.func3 (lpM0_3 h_cZ)
  · exact LpsOk.nil _ _ _ _
noncomputable def lpM1 (f : Nat) : List LoopX := if Nat.beq f 3 = true then [cY, cQ] else []
theorem lpM1_3o : othersB [cY, cQ] [0, 1] 0 (loopsOf (Try.f3.body.getD .skip)) = true := by kernel_rfl
theorem lpM1_3 {ρ : Rho} (h_cY : LoopOk Try.prog ρ Try.f3.ntmps cY_c cY) (h_cQ : LoopOk Try.prog ρ Try.f3.ntmps cQ_c cQ) : LpsOk Try.prog ρ Try.f3.ntmps [cY, cQ] (Try.f3.body.getD .skip) :=
  lps_idx [0, 1] lpM1_3o (List.forall_mem_cons.2 ⟨look_list (c := cY_c) (Ls := [cY]) (by kernel_rfl) (List.forall_mem_cons.2 ⟨h_cY, List.forall_mem_nil _⟩), List.forall_mem_cons.2 ⟨look_list (c := cQ_c) (Ls := [cQ]) (by kernel_rfl) (List.forall_mem_cons.2 ⟨h_cQ, List.forall_mem_nil _⟩), List.forall_mem_nil _⟩⟩)
theorem lpM1_ok {ρ : Rho} (h_cY : LoopOk Try.prog ρ Try.f3.ntmps cY_c cY) (h_cQ : LoopOk Try.prog ρ Try.f3.ntmps cQ_c cQ) : ∀ f i, btLook f ftsT = some i → LpsOk Try.prog ρ i.ntmps (lpM1 f) i.body := by
  intro f i h
  have hi := fts_ok (f, i) (bt_of_mem _ _ (btLook_mem h))
  unfold lpM1
  split
  · rename_i hf
    have hf := Nat.eq_of_beq_eq_true hf
    subst hf
    exact lps_row hi Try.func3 (lpM1_3 h_cY h_cQ)
  · exact LpsOk.nil _ _ _ _
def bigA : Facts := [(.lt (.lit 400) (.len 0), true)]
def muchA : Facts := [(.var 90, true)]
def bigB : Facts := [(.var 90, false), (.lt (.lit 400) (.len 1), true)]
def lim0 : Facts := [(.var 90, false), (.lt (.lit 400) (.len 0), false), (.lt (.lit 400) (.len 1), false), (.var 901, false)]
def lim1 : Facts := [(.var 90, false), (.lt (.lit 400) (.len 0), false), (.lt (.lit 400) (.len 1), false), (.var 901, true), (.lt (.len 201) (.lit 1), false), (.lt (.lit 256) (.len 201), false)]
def onceA : T X := (.ret (.sc (.b (.lit true))))
set_option maxRecDepth 100000 in
theorem onceA_run : askF ⟨cfg [], l_able, HFL⟩ 3 ([puR, isR1]) bigA = onceA := by kernel_rfl
def onceM : T X := (.ret (.sc (.b (.lit true))))
set_option maxRecDepth 100000 in
theorem onceM_run : askF ⟨cfgL ksM (fun _ => []), l_able, HFL⟩ 3 ([puR, isR1]) muchA = onceM := by kernel_rfl
def onceB : T X := (.ret (.sc (.b (.lit true))))
set_option maxRecDepth 100000 in
theorem onceB_run : askF ⟨cfgL ksM (fun _ => []), l_able, HFL⟩ 3 ([puR, isR1]) bigB = onceB := by kernel_rfl
def once0 : T X := (.ret (.sc (.b (.lit true))))
set_option maxRecDepth 100000 in
theorem once0_run : askF ⟨cfgL ksM lpM0, l_able, HFL⟩ 3 ([puR, isR1]) lim0 = once0 := by kernel_rfl
def once1 : T X := (.ret (.sc (.b (.lit true))))
set_option maxRecDepth 100000 in
theorem once1_run : askF ⟨cfgL ksM lpM1, l_able, HFL⟩ 3 ([puR, isR1]) lim1 = once1 := by kernel_rfl
end Go.Proofs.Ytonefailiekemaa
