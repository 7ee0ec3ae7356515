/- What functions answer, run over letters, where something is known; each shown by running it. -/
import Derived.Test.YtcllappmhdfffaaXT
import Derived.Test.YtcllappmhdfffaaXLP3
import Derived.Test.YtcllappmhdfffaaXw23
namespace Go.Proofs.Ytcllappmhdfffaa
open Go Go.Proofs.Aw Go.Proofs.Xw
noncomputable def lp3 (f : Nat) : List LoopX := if Nat.beq f 5 = true then [lpD, lpE] else if Nat.beq f 15 = true then [lpA] else if Nat.beq f 18 = true then [lpB] else if Nat.beq f 19 = true then [lpC] else []
theorem lp3_5o : othersB [lpD, lpE] [0, 1] 0 (loopsOf (Try.f5.body.getD .skip)) = true := by kernel_rfl
theorem lp3_5 {ρ : Rho} (h_lpD : LoopOk Try.prog ρ Try.f5.ntmps lpD_c lpD) (h_lpE : LoopOk Try.prog ρ Try.f5.ntmps lpE_c lpE) : LpsOk Try.prog ρ Try.f5.ntmps [lpD, lpE] (Try.f5.body.getD .skip) :=
  lps_idx [0, 1] lp3_5o (List.forall_mem_cons.2 ⟨look_one (c := lpD_c) (by kernel_rfl) h_lpD, List.forall_mem_cons.2 ⟨look_one (c := lpE_c) (by kernel_rfl) h_lpE, List.forall_mem_nil _⟩⟩)
theorem lp3_15o : othersB [lpA] [0] 0 (loopsOf (Try.f15.body.getD .skip)) = true := by kernel_rfl
theorem lp3_15 {ρ : Rho} (h_lpA : LoopOk Try.prog ρ Try.f15.ntmps lpA_c lpA) : LpsOk Try.prog ρ Try.f15.ntmps [lpA] (Try.f15.body.getD .skip) :=
  lps_idx [0] lp3_15o (List.forall_mem_cons.2 ⟨look_one (c := lpA_c) (by kernel_rfl) h_lpA, List.forall_mem_nil _⟩)
theorem lp3_18o : othersB [lpB] [0] 0 (loopsOf (Try.f18.body.getD .skip)) = true := by kernel_rfl
theorem lp3_18 {ρ : Rho} (h_lpB : LoopOk Try.prog ρ Try.f18.ntmps lpB_c lpB) : LpsOk Try.prog ρ Try.f18.ntmps [lpB] (Try.f18.body.getD .skip) :=
  lps_idx [0] lp3_18o (List.forall_mem_cons.2 ⟨look_one (c := lpB_c) (by kernel_rfl) h_lpB, List.forall_mem_nil _⟩)
theorem lp3_19o : othersB [lpC] [0] 0 (loopsOf (Try.f19.body.getD .skip)) = true := by kernel_rfl
theorem lp3_19 {ρ : Rho} (h_lpC : LoopOk Try.prog ρ Try.f19.ntmps lpC_c lpC) : LpsOk Try.prog ρ Try.f19.ntmps [lpC] (Try.f19.body.getD .skip) :=
  lps_idx [0] lp3_19o (List.forall_mem_cons.2 ⟨look_one (c := lpC_c) (by kernel_rfl) h_lpC, List.forall_mem_nil _⟩)
theorem lp3_ok {ρ : Rho} (h_lpD : LoopOk Try.prog ρ Try.f5.ntmps lpD_c lpD) (h_lpE : LoopOk Try.prog ρ Try.f5.ntmps lpE_c lpE) (h_lpA : LoopOk Try.prog ρ Try.f15.ntmps lpA_c lpA) (h_lpB : LoopOk Try.prog ρ Try.f18.ntmps lpB_c lpB) (h_lpC : LoopOk Try.prog ρ Try.f19.ntmps lpC_c lpC) : ∀ f i, btLook f ftsT = some i → LpsOk Try.prog ρ i.ntmps (lp3 f) i.body := by
  intro f i h
  have hi := fts_ok (f, i) (bt_of_mem _ _ (btLook_mem h))
  unfold lp3
  split
  · rename_i hf
    have hf := Nat.eq_of_beq_eq_true hf
    subst hf
    exact lps_row hi Try.func5 (lp3_5 h_lpD h_lpE)
  · split
    · rename_i hf
      have hf := Nat.eq_of_beq_eq_true hf
      subst hf
      exact lps_row hi Try.func15 (lp3_15 h_lpA)
    · split
      · rename_i hf
        have hf := Nat.eq_of_beq_eq_true hf
        subst hf
        exact lps_row hi Try.func18 (lp3_18 h_lpB)
      · split
        · rename_i hf
          have hf := Nat.eq_of_beq_eq_true hf
          subst hf
          exact lps_row hi Try.func19 (lp3_19 h_lpC)
        · exact LpsOk.nil _ _ _ _

def lim : Facts := [(.lt (.lit 20000) (.len 0), false), (.lt (.lit 20000) (.len 1), false)]
def mergesL : T X := (.need (.and (.not (.lt (.var 100) (.len 0))) (.and (.not (.lt (.var 120) (.len 0))) (.or (.not (.and (.eq (.var 101) (.var 121)) (.and (.eq (.var 102) (.var 122)) (.and (.eq (.var 103) (.var 123)) (.and (.eq (.var 104) (.var 124)) (.and (.eq (.var 105) (.var 125)) (.and (.eq (.var 106) (.var 126)) (.and (.eq (.var 107) (.var 127)) (.and (.eq (.var 108) (.var 128)) (.eq (.var 109) (.var 129))))))))))) (.and (.not (.lt (.var 140) (.len 1))) (.and (.not (.lt (.var 160) (.len 1))) (.not (.lt (.var 180) (.len 0)))))))) (.ret (.sc (.b (.and (.and (.eq (.var 101) (.var 121)) (.and (.eq (.var 102) (.var 122)) (.and (.eq (.var 103) (.var 123)) (.and (.eq (.var 104) (.var 124)) (.and (.eq (.var 105) (.var 125)) (.and (.eq (.var 106) (.var 126)) (.and (.eq (.var 107) (.var 127)) (.and (.eq (.var 108) (.var 128)) (.eq (.var 109) (.var 129)))))))))) (.and (.eq (.var 141) (.var 161)) (.and (.eq (.var 142) (.var 162)) (.and (.eq (.var 143) (.var 163)) (.and (.eq (.var 144) (.var 164)) (.and (.eq (.var 145) (.var 165)) (.and (.eq (.var 146) (.var 166)) (.and (.eq (.var 147) (.var 167)) (.and (.eq (.var 148) (.var 168)) (.eq (.var 149) (.var 169)))))))))))))))
set_option maxRecDepth 100000 in
theorem mergesL_run : askF ⟨cfgL [] lp3, l_able14, []⟩ 5 ([.rl 9 (.len 0) (.var 0 kv) false, .rl 3 (.len 1) (.var 1 kdd) false]) lim = mergesL := by kernel_rfl
end Go.Proofs.Ytcllappmhdfffaa
