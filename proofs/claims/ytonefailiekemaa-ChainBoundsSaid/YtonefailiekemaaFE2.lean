/- What functions answer, run over letters, where something is known; each shown by running it. -/
import Derived.Test.YtonefailiekemaaXT
import Derived.Test.YtonefailiekemaaFE1
import Derived.Test.YtonefailiekemaaXwM3
namespace Go.Proofs.Ytonefailiekemaa
open Go Go.Proofs.Aw Go.Proofs.Xw
set_option maxRecDepth 100000
noncomputable def lyEn (f : Nat) : List LoopX := if Nat.beq f 30 = true then [eX] else []
theorem lyEn_30o : othersB [eX] [0] 0 (loopsOf (Try.f30.body.getD .skip)) = true := by kernel_rfl
theorem lyEn_30 {ρ : Rho} (h_eX : LoopOk Try.prog ρ Try.f30.ntmps eX_c eX) : LpsOk Try.prog ρ Try.f30.ntmps [eX] (Try.f30.body.getD .skip) :=
  lps_idx [0] lyEn_30o (List.forall_mem_cons.2 ⟨look_list (c := eX_c) (Ls := [eX]) (by kernel_rfl) (List.forall_mem_cons.2 ⟨h_eX, List.forall_mem_nil _⟩), List.forall_mem_nil _⟩)
theorem lyEn_ok {ρ : Rho} (h_eX : LoopOk Try.prog ρ Try.f30.ntmps eX_c eX) : ∀ f i, btLook f ftsT = some i → LpsOk Try.prog ρ i.ntmps (lyEn f) i.body := by
  intro f i h
  have hi := fts_ok (f, i) (bt_of_mem _ _ (btLook_mem h))
  unfold lyEn
  split
  · rename_i hf
    have hf := Nat.eq_of_beq_eq_true hf
    subst hf
    exact lps_row hi Try.func30 (lyEn_30 h_eX)
  · exact LpsOk.nil _ _ _ _

abbrev zFE2_0 : BE := .not (.lt (.var 100) (.len 0))
def entR : T X := (.need (.and (.not (.lt (.var 0) (.lit 0))) (.or zFE2_0 (.and (.lt (.var 100) (.var 0)) (.not (.and (.eq (.cl 0 0 (.var 100)) (.cl 1 0 (.var 100))) (.and (.eq (.cl 0 1 (.var 100)) (.cl 1 1 (.var 100))) (.and (.eq (.cl 0 2 (.var 100)) (.cl 1 2 (.var 100))) (.and (.eq (.cl 0 3 (.var 100)) (.cl 1 3 (.var 100))) (.and (.eq (.cl 0 4 (.var 100)) (.cl 1 4 (.var 100))) (.and (.eq (.cl 0 5 (.var 100)) (.cl 1 5 (.var 100))) (.and (.seq (.cl 0 6 (.var 100)) (.cl 1 6 (.var 100))) (.and (.seq (.cl 0 7 (.var 100)) (.cl 1 7 (.var 100))) (.and (.ite (.cl 0 8 (.var 100)) (.cl 1 8 (.var 100)) (.not (.cl 1 8 (.var 100)))) (.and (.eq (.cl 0 9 (.var 100)) (.cl 1 9 (.var 100))) (.and (.eq (.cl 0 10 (.var 100)) (.cl 1 10 (.var 100))) (.and (.eq (.cl 0 11 (.var 100)) (.cl 1 11 (.var 100))) (.and (.eq (.cl 0 12 (.var 100)) (.cl 1 12 (.var 100))) (.and (.eq (.cl 0 13 (.var 100)) (.cl 1 13 (.var 100))) (.and (.eq (.cl 0 14 (.var 100)) (.cl 1 14 (.var 100))) (.and (.eq (.cl 0 15 (.var 100)) (.cl 1 15 (.var 100))) (.and (.eq (.cl 0 16 (.var 100)) (.cl 1 16 (.var 100))) (.and (.eq (.cl 0 17 (.var 100)) (.cl 1 17 (.var 100))) (.and (.eq (.cl 0 18 (.var 100)) (.cl 1 18 (.var 100))) (.eq (.cl 0 19 (.var 100)) (.cl 1 19 (.var 100)))))))))))))))))))))))))) (.ret (.sc (.b zFE2_0))))
theorem entR_run : askF ⟨cfgL [] lyEn, l_able, HFL⟩ 30 (enA) enF = entR := by kernel_rfl
end Go.Proofs.Ytonefailiekemaa
