/- What functions answer, run over letters, where something is known; each shown by running it. -/
import Derived.Test.YtcllappmhdfffaaXT
import Derived.Test.YtcllappmhdfffaaXLP7
import Derived.Test.YtcllappmhdfffaaXwM2
namespace Go.Proofs.Ytcllappmhdfffaa
open Go Go.Proofs.Aw Go.Proofs.Xw
noncomputable def lpr (f : Nat) : List LoopX := if Nat.beq f 10 = true then [rA] else if Nat.beq f 32 = true then [pA, pB] else if Nat.beq f 33 = true then [qA] else if Nat.beq f 34 = true then [pC] else if Nat.beq f 35 = true then [qC] else []
theorem lpr_10o : othersB [rA] [0] 0 (loopsOf (Try.f10.body.getD .skip)) = true := by kernel_rfl
theorem lpr_10 {ρ : Rho} (h_rA : LoopOk Try.prog ρ Try.f10.ntmps rA_c rA) : LpsOk Try.prog ρ Try.f10.ntmps [rA] (Try.f10.body.getD .skip) :=
  lps_idx [0] lpr_10o (List.forall_mem_cons.2 ⟨look_one (c := rA_c) (by kernel_rfl) h_rA, List.forall_mem_nil _⟩)
theorem lpr_32o : othersB [pA, pB] [0, 1] 0 (loopsOf (Try.f32.body.getD .skip)) = true := by kernel_rfl
theorem lpr_32 {ρ : Rho} (h_pA : LoopOk Try.prog ρ Try.f32.ntmps pA_c pA) (h_pB : LoopOk Try.prog ρ Try.f32.ntmps pB_c pB) : LpsOk Try.prog ρ Try.f32.ntmps [pA, pB] (Try.f32.body.getD .skip) :=
  lps_idx [0, 1] lpr_32o (List.forall_mem_cons.2 ⟨look_one (c := pA_c) (by kernel_rfl) h_pA, List.forall_mem_cons.2 ⟨look_one (c := pB_c) (by kernel_rfl) h_pB, List.forall_mem_nil _⟩⟩)
theorem lpr_33o : othersB [qA] [0] 0 (loopsOf (Try.f33.body.getD .skip)) = true := by kernel_rfl
theorem lpr_33 {ρ : Rho} (h_qA : LoopOk Try.prog ρ Try.f33.ntmps qA_c qA) : LpsOk Try.prog ρ Try.f33.ntmps [qA] (Try.f33.body.getD .skip) :=
  lps_idx [0] lpr_33o (List.forall_mem_cons.2 ⟨look_one (c := qA_c) (by kernel_rfl) h_qA, List.forall_mem_nil _⟩)
theorem lpr_34o : othersB [pC] [0] 0 (loopsOf (Try.f34.body.getD .skip)) = true := by kernel_rfl
theorem lpr_34 {ρ : Rho} (h_pC : LoopOk Try.prog ρ Try.f34.ntmps pC_c pC) : LpsOk Try.prog ρ Try.f34.ntmps [pC] (Try.f34.body.getD .skip) :=
  lps_idx [0] lpr_34o (List.forall_mem_cons.2 ⟨look_one (c := pC_c) (by kernel_rfl) h_pC, List.forall_mem_nil _⟩)
theorem lpr_35o : othersB [qC] [0] 0 (loopsOf (Try.f35.body.getD .skip)) = true := by kernel_rfl
theorem lpr_35 {ρ : Rho} (h_qC : LoopOk Try.prog ρ Try.f35.ntmps qC_c qC) : LpsOk Try.prog ρ Try.f35.ntmps [qC] (Try.f35.body.getD .skip) :=
  lps_idx [0] lpr_35o (List.forall_mem_cons.2 ⟨look_one (c := qC_c) (by kernel_rfl) h_qC, List.forall_mem_nil _⟩)
theorem lpr_ok {ρ : Rho} (h_rA : LoopOk Try.prog ρ Try.f10.ntmps rA_c rA) (h_pA : LoopOk Try.prog ρ Try.f32.ntmps pA_c pA) (h_pB : LoopOk Try.prog ρ Try.f32.ntmps pB_c pB) (h_qA : LoopOk Try.prog ρ Try.f33.ntmps qA_c qA) (h_pC : LoopOk Try.prog ρ Try.f34.ntmps pC_c pC) (h_qC : LoopOk Try.prog ρ Try.f35.ntmps qC_c qC) : ∀ f i, btLook f ftsT = some i → LpsOk Try.prog ρ i.ntmps (lpr f) i.body := by
  intro f i h
  have hi := fts_ok (f, i) (bt_of_mem _ _ (btLook_mem h))
  unfold lpr
  split
  · rename_i hf
    have hf := Nat.eq_of_beq_eq_true hf
    subst hf
    exact lps_row hi Try.func10 (lpr_10 h_rA)
  · split
    · rename_i hf
      have hf := Nat.eq_of_beq_eq_true hf
      subst hf
      exact lps_row hi Try.func32 (lpr_32 h_pA h_pB)
    · split
      · rename_i hf
        have hf := Nat.eq_of_beq_eq_true hf
        subst hf
        exact lps_row hi Try.func33 (lpr_33 h_qA)
      · split
        · rename_i hf
          have hf := Nat.eq_of_beq_eq_true hf
          subst hf
          exact lps_row hi Try.func34 (lpr_34 h_pC)
        · split
          · rename_i hf
            have hf := Nat.eq_of_beq_eq_true hf
            subst hf
            exact lps_row hi Try.func35 (lpr_35 h_qC)
          · exact LpsOk.nil _ _ _ _

def limP : Facts := [(.lt (.lit 20000) (.len 0), false)]
def bigP : Facts := [(.lt (.lit 20000) (.len 0), true)]
def pastL : T X := (.need (.and (.and (.not (.lt (.var 200) (.len 0))) (.not (.lt (.var 220) (.len 0)))) (.and (.not (.lt (.var 240) (.len 0))) (.and (.not (.lt (.var 300) (.len 0))) (.and (.not (.lt (.var 260) (.len 0))) (.or (.not (.and (.eq (.var 221) (.var 261)) (.and (.eq (.var 222) (.var 262)) (.and (.eq (.var 223) (.var 263)) (.and (.eq (.var 224) (.var 264)) (.and (.eq (.var 225) (.var 265)) (.and (.eq (.var 226) (.var 266)) (.and (.eq (.var 227) (.var 267)) (.and (.eq (.var 228) (.var 268)) (.eq (.var 229) (.var 269))))))))))) (.not (.lt (.var 280) (.len 0)))))))) (.ret (.sc (.b (.and (.and (.eq (.var 221) (.var 261)) (.and (.eq (.var 222) (.var 262)) (.and (.eq (.var 223) (.var 263)) (.and (.eq (.var 224) (.var 264)) (.and (.eq (.var 225) (.var 265)) (.and (.eq (.var 226) (.var 266)) (.and (.eq (.var 227) (.var 267)) (.and (.eq (.var 228) (.var 268)) (.eq (.var 229) (.var 269)))))))))) (.and (.eq (.var 241) (.var 281)) (.and (.eq (.var 242) (.var 282)) (.eq (.var 243) (.var 283)))))))))
set_option maxRecDepth 100000 in
theorem pastL_run : askF ⟨cfgL [] lpr, l_able14, []⟩ 10 ([esR, iv 0]) limP = pastL := by kernel_rfl
def pastB : T X := (.ret (.sc (.b (.lit true))))
set_option maxRecDepth 100000 in
theorem pastB_run : askF ⟨cfg [], l_able14, []⟩ 10 ([esR, iv 0]) bigP = pastB := by kernel_rfl
end Go.Proofs.Ytcllappmhdfffaa
