/- What functions answer, run over letters, where something is known; each shown by running it. -/
import Derived.Test.YtonefailiekemaaXT
import Derived.Test.YtonefailiekemaaGKl
import Derived.Test.YtonefailiekemaaXwM3
namespace Go.Proofs.Ytonefailiekemaa
open Go Go.Proofs.Aw Go.Proofs.Xw
noncomputable def cM_c : Code := mC
noncomputable def lpM (f : Nat) : List LoopX := if Nat.beq f 6 = true then [cM] else []
theorem lpM_6o : othersB [cM] [0] 0 (loopsOf (Try.f6.body.getD .skip)) = true := by kernel_rfl
theorem lpM_6 {ρ : Rho} (h_cM : LoopOk Try.prog ρ Try.f6.ntmps cM_c cM) : LpsOk Try.prog ρ Try.f6.ntmps [cM] (Try.f6.body.getD .skip) :=
  lps_idx [0] lpM_6o (List.forall_mem_cons.2 ⟨look_list (c := cM_c) (Ls := [cM]) (by kernel_rfl) (List.forall_mem_cons.2 ⟨h_cM, List.forall_mem_nil _⟩), List.forall_mem_nil _⟩)
theorem lpM_ok {ρ : Rho} (h_cM : LoopOk Try.prog ρ Try.f6.ntmps cM_c cM) : ∀ f i, btLook f ftsT = some i → LpsOk Try.prog ρ i.ntmps (lpM f) i.body := by
  intro f i h
  have hi := fts_ok (f, i) (bt_of_mem _ _ (btLook_mem h))
  unfold lpM
  split
  · rename_i hf
    have hf := Nat.eq_of_beq_eq_true hf
    subst hf
    exact lps_row hi Try.func6 (lpM_6 h_cM)
  · exact LpsOk.nil _ _ _ _
def bigA : Facts := [(.lt (.lit 400) (.len 0), true)]
def muchA : Facts := [(.var 90, true)]
def limM : Facts := [(.var 90, false), (.lt (.lit 400) (.len 0), false)]

def bnA : T X := (.ret (.sc (.b (.lit true))))
set_option maxRecDepth 100000 in
theorem bnA_run : askF ⟨cfg [], l_able, HFL⟩ 6 ([iV 0, iV 1, iV 2, puR]) bigA = bnA := by kernel_rfl
def bnM : T X := (.ret (.sc (.b (.lit true))))
set_option maxRecDepth 100000 in
theorem bnM_run : askF ⟨cfgL ksM (fun _ => []), l_able, HFL⟩ 6 ([iV 0, iV 1, iV 2, puR]) muchA = bnM := by kernel_rfl
def bnR : T X := (.ret (.sc (.b (.lit true))))
set_option maxRecDepth 100000 in
theorem bnR_run : askF ⟨cfgL ksM lpM, l_able, HFL⟩ 6 ([iV 0, iV 1, iV 2, puR]) limM = bnR := by kernel_rfl
end Go.Proofs.Ytonefailiekemaa
