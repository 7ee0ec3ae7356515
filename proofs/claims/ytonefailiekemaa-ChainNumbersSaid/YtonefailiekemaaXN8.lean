/- What functions answer, run over letters, where something is known; each shown by running it. -/
import Derived.Test.YtonefailiekemaaXT
import Derived.Test.YtonefailiekemaaXNe
import Derived.Test.YtonefailiekemaaXwM2
namespace Go.Proofs.Ytonefailiekemaa
open Go Go.Proofs.Aw Go.Proofs.Xw
noncomputable def cZ_c : Code := mC
noncomputable def cY_c : Code := mC
noncomputable def lpM0 (f : Nat) : List LoopX := if Nat.beq f 4 = true then [cZ] else []
theorem lpM0_4o : othersB [cZ] [0] 0 (loopsOf (Try.f4.body.getD .skip)) = true := by kernel_rfl
theorem lpM0_4 {ρ : Rho} (h_cZ : LoopOk Try.prog ρ Try.f4.ntmps cZ_c cZ) : LpsOk Try.prog ρ Try.f4.ntmps [cZ] (Try.f4.body.getD .skip) :=
  lps_idx [0] lpM0_4o (List.forall_mem_cons.2 ⟨look_list (c := cZ_c) (Ls := [cZ]) (by kernel_rfl) (List.forall_mem_cons.2 ⟨h_cZ, List.forall_mem_nil _⟩), List.forall_mem_nil _⟩)
theorem lpM0_ok {ρ : Rho} (h_cZ : LoopOk Try.prog ρ Try.f4.ntmps cZ_c cZ) : ∀ f i, btLook f ftsT = some i → LpsOk Try.prog ρ i.ntmps (lpM0 f) i.body := by
  intro f i h
  have hi := fts_ok (f, i) (bt_of_mem _ _ (btLook_mem h))
  unfold lpM0
  split
  · rename_i hf
    have hf := Nat.eq_of_beq_eq_true hf
    subst hf
    exact lps_row hi Try.func4 (lpM0_4 h_cZ)
  · exact LpsOk.nil _ _ _ _
noncomputable def lpM1 (f : Nat) : List LoopX := if Nat.beq f 4 = true then [cY, cQ] else []
theorem lpM1_4o : othersB [cY, cQ] [0, 1] 0 (loopsOf (Try.f4.body.getD .skip)) = true := by kernel_rfl
theorem lpM1_4 {ρ : Rho} (h_cY : LoopOk Try.prog ρ Try.f4.ntmps cY_c cY) (h_cQ : LoopOk Try.prog ρ Try.f4.ntmps cQ_c cQ) : LpsOk Try.prog ρ Try.f4.ntmps [cY, cQ] (Try.f4.body.getD .skip) :=
  lps_idx [0, 1] lpM1_4o (List.forall_mem_cons.2 ⟨look_list (c := cY_c) (Ls := [cY]) (by kernel_rfl) (List.forall_mem_cons.2 ⟨h_cY, List.forall_mem_nil _⟩), List.forall_mem_cons.2 ⟨look_list (c := cQ_c) (Ls := [cQ]) (by kernel_rfl) (List.forall_mem_cons.2 ⟨h_cQ, List.forall_mem_nil _⟩), List.forall_mem_nil _⟩⟩)
theorem lpM1_ok {ρ : Rho} (h_cY : LoopOk Try.prog ρ Try.f4.ntmps cY_c cY) (h_cQ : LoopOk Try.prog ρ Try.f4.ntmps cQ_c cQ) : ∀ f i, btLook f ftsT = some i → LpsOk Try.prog ρ i.ntmps (lpM1 f) i.body := by
  intro f i h
  have hi := fts_ok (f, i) (bt_of_mem _ _ (btLook_mem h))
  unfold lpM1
  split
  · rename_i hf
    have hf := Nat.eq_of_beq_eq_true hf
    subst hf
    exact lps_row hi Try.func4 (lpM1_4 h_cY h_cQ)
  · exact LpsOk.nil _ _ _ _
def bigA : Facts := [(.lt (.lit 400) (.len 0), true)]
def muchA : Facts := [(.var 90, true)]
def ksE : List (Nat × List X × X) := (22, [iV 1, logX], .agg [iV 412, iV 413, iV 414]) :: ksM
def lim0 : Facts := [(.var 90, false), (.lt (.lit 400) (.len 0), false)]
def lim1 : Facts := [(.var 90, false), (.lt (.lit 400) (.len 0), false), (.lt (.len 201) (.lit 1), false), (.lt (.lit 256) (.len 201), false)]
def numA : T X := (.ret (.sc (.b (.lit true))))
set_option maxRecDepth 100000 in
theorem numA_run : askF ⟨cfg [], l_able, HFL⟩ 4 ([iV 0, iV 1, puR]) bigA = numA := by kernel_rfl
def numM : T X := (.ret (.sc (.b (.lit true))))
set_option maxRecDepth 100000 in
theorem numM_run : askF ⟨cfgL ksM (fun _ => []), l_able, HFL⟩ 4 ([iV 0, iV 1, puR]) muchA = numM := by kernel_rfl
def num0 : T X := (.ret (.sc (.b (.lit true))))
set_option maxRecDepth 100000 in
theorem num0_run : askF ⟨cfgL ksM lpM0, l_able, HFL⟩ 4 ([iV 0, iV 1, puR]) lim0 = num0 := by kernel_rfl
def num1 : T X := (.ret (.sc (.b (.lit true))))
set_option maxRecDepth 100000 in
theorem num1_run : askF ⟨cfgL ksE lpM1, l_able, HFL⟩ 4 ([iV 0, iV 1, puR]) lim1 = num1 := by kernel_rfl
end Go.Proofs.Ytonefailiekemaa
