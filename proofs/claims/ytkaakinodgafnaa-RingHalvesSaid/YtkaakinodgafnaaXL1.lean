/- What functions answer, run over letters, where something is known; each shown by running it. -/
import Derived.Test.YtkaakinodgafnaaXT
import Derived.Test.YtkaakinodgafnaaXLP1
import Derived.Test.YtkaakinodgafnaaXwM2
namespace Go.Proofs.Ytkaakinodgafnaa
open Go Go.Proofs.Aw Go.Proofs.Xw
noncomputable def lpyP (f : Nat) : List LoopX := if Nat.beq f 11 = true then [wP] else []
theorem lpyP_11o : othersB [wP] [0] 0 (loopsOf (Try.f11.body.getD .skip)) = true := by kernel_rfl
theorem lpyP_11 {ρ : Rho} (h_wP : LoopOk Try.prog ρ Try.f11.ntmps wP_c wP) : LpsOk Try.prog ρ Try.f11.ntmps [wP] (Try.f11.body.getD .skip) :=
  lps_idx [0] lpyP_11o (List.forall_mem_cons.2 ⟨look_list (c := wP_c) (Ls := [wP]) (by kernel_rfl) (List.forall_mem_cons.2 ⟨h_wP, List.forall_mem_nil _⟩), List.forall_mem_nil _⟩)
theorem lpyP_ok {ρ : Rho} (h_wP : LoopOk Try.prog ρ Try.f11.ntmps wP_c wP) : ∀ f i, btLook f ftsT = some i → LpsOk Try.prog ρ i.ntmps (lpyP f) i.body := by
  intro f i h
  have hi := fts_ok (f, i) (bt_of_mem _ _ (btLook_mem h))
  unfold lpyP
  split
  · rename_i hf
    have hf := Nat.eq_of_beq_eq_true hf
    subst hf
    exact lps_row hi Try.func11 (lpyP_11 h_wP)
  · exact LpsOk.nil _ _ _ _
noncomputable def lpyQ (f : Nat) : List LoopX := if Nat.beq f 23 = true then [wQ] else []
theorem lpyQ_23o : othersB [wQ] [0] 0 (loopsOf (Try.f23.body.getD .skip)) = true := by kernel_rfl
theorem lpyQ_23 {ρ : Rho} (h_wQ : LoopOk Try.prog ρ Try.f23.ntmps wQ_c wQ) : LpsOk Try.prog ρ Try.f23.ntmps [wQ] (Try.f23.body.getD .skip) :=
  lps_idx [0] lpyQ_23o (List.forall_mem_cons.2 ⟨look_list (c := wQ_c) (Ls := [wQ]) (by kernel_rfl) (List.forall_mem_cons.2 ⟨h_wQ, List.forall_mem_nil _⟩), List.forall_mem_nil _⟩)
theorem lpyQ_ok {ρ : Rho} (h_wQ : LoopOk Try.prog ρ Try.f23.ntmps wQ_c wQ) : ∀ f i, btLook f ftsT = some i → LpsOk Try.prog ρ i.ntmps (lpyQ f) i.body := by
  intro f i h
  have hi := fts_ok (f, i) (bt_of_mem _ _ (btLook_mem h))
  unfold lpyQ
  split
  · rename_i hf
    have hf := Nat.eq_of_beq_eq_true hf
    subst hf
    exact lps_row hi Try.func23 (lpyQ_23 h_wQ)
  · exact LpsOk.nil _ _ _ _

def pnt : T X := (.need (.not (.lt (.var 100) (.slen (.var 0)))) (.ret (.sc (.c (.ite (.and (.eq (.op .padd .i64 (.op .and .u64 (.op .xor .u64 (.op .mul .u64 (.op .xor .u64 (.var 101) (.op .shr .u64 (.var 101) (.lit (32 : Int)))) (.lit (11400714819323198485 : Int))) (.op .shr .u64 (.op .mul .u64 (.op .xor .u64 (.var 101) (.op .shr .u64 (.var 101) (.lit (32 : Int)))) (.lit (11400714819323198485 : Int))) (.lit (29 : Int)))) (.lit (1048575 : Int))) (.lit (-524288 : Int))) (.lit (0 : Int))) (.eq (.op .padd .i64 (.op .and .u64 (.op .shr .u64 (.op .xor .u64 (.op .mul .u64 (.op .xor .u64 (.var 101) (.op .shr .u64 (.var 101) (.lit (32 : Int)))) (.lit (11400714819323198485 : Int))) (.op .shr .u64 (.op .mul .u64 (.op .xor .u64 (.var 101) (.op .shr .u64 (.var 101) (.lit (32 : Int)))) (.lit (11400714819323198485 : Int))) (.lit (29 : Int)))) (.lit (20 : Int))) (.lit (1048575 : Int))) (.lit (-524288 : Int))) (.lit (0 : Int)))) (.lit (1 : Int)) (.op .padd .i64 (.op .and .u64 (.op .xor .u64 (.op .mul .u64 (.op .xor .u64 (.var 101) (.op .shr .u64 (.var 101) (.lit (32 : Int)))) (.lit (11400714819323198485 : Int))) (.op .shr .u64 (.op .mul .u64 (.op .xor .u64 (.var 101) (.op .shr .u64 (.var 101) (.lit (32 : Int)))) (.lit (11400714819323198485 : Int))) (.lit (29 : Int)))) (.lit (1048575 : Int))) (.lit (-524288 : Int)))) (.lit false) (.ite (.and (.eq (.op .padd .i64 (.op .and .u64 (.op .xor .u64 (.op .mul .u64 (.op .xor .u64 (.var 101) (.op .shr .u64 (.var 101) (.lit (32 : Int)))) (.lit (11400714819323198485 : Int))) (.op .shr .u64 (.op .mul .u64 (.op .xor .u64 (.var 101) (.op .shr .u64 (.var 101) (.lit (32 : Int)))) (.lit (11400714819323198485 : Int))) (.lit (29 : Int)))) (.lit (1048575 : Int))) (.lit (-524288 : Int))) (.lit (0 : Int))) (.eq (.op .padd .i64 (.op .and .u64 (.op .shr .u64 (.op .xor .u64 (.op .mul .u64 (.op .xor .u64 (.var 101) (.op .shr .u64 (.var 101) (.lit (32 : Int)))) (.lit (11400714819323198485 : Int))) (.op .shr .u64 (.op .mul .u64 (.op .xor .u64 (.var 101) (.op .shr .u64 (.var 101) (.lit (32 : Int)))) (.lit (11400714819323198485 : Int))) (.lit (29 : Int)))) (.lit (20 : Int))) (.lit (1048575 : Int))) (.lit (-524288 : Int))) (.lit (0 : Int)))) (.lit (0 : Int)) (.op .padd .i64 (.op .and .u64 (.op .shr .u64 (.op .xor .u64 (.op .mul .u64 (.op .xor .u64 (.var 101) (.op .shr .u64 (.var 101) (.lit (32 : Int)))) (.lit (11400714819323198485 : Int))) (.op .shr .u64 (.op .mul .u64 (.op .xor .u64 (.var 101) (.op .shr .u64 (.var 101) (.lit (32 : Int)))) (.lit (11400714819323198485 : Int))) (.lit (29 : Int)))) (.lit (20 : Int))) (.lit (1048575 : Int))) (.lit (-524288 : Int)))) (.lit false)))))
set_option maxRecDepth 100000 in
theorem pnt_run : askF ⟨cfgL [] lpyP, l_able, []⟩ 11 ([keyX]) [] = pnt := by kernel_rfl
def rpt : T X := (.need (.not (.lt (.var 140) (.slen (.var 0)))) (.ret (.tup [(.sc (.i .i64 (.ite (.and (.eq (.op .sub .i64 (.op .conv .i64 (.op .and .u64 (.op .xor .u64 (.op .mul .u64 (.op .xor .u64 (.var 141) (.op .shr .u64 (.var 141) (.lit (32 : Int)))) (.lit (11400714819323198485 : Int))) (.op .shr .u64 (.op .mul .u64 (.op .xor .u64 (.var 141) (.op .shr .u64 (.var 141) (.lit (32 : Int)))) (.lit (11400714819323198485 : Int))) (.lit (29 : Int)))) (.lit (1048575 : Int))) (.lit (0 : Int))) (.lit (524288 : Int))) (.lit (0 : Int))) (.eq (.op .sub .i64 (.op .conv .i64 (.op .and .u64 (.op .shr .u64 (.op .xor .u64 (.op .mul .u64 (.op .xor .u64 (.var 141) (.op .shr .u64 (.var 141) (.lit (32 : Int)))) (.lit (11400714819323198485 : Int))) (.op .shr .u64 (.op .mul .u64 (.op .xor .u64 (.var 141) (.op .shr .u64 (.var 141) (.lit (32 : Int)))) (.lit (11400714819323198485 : Int))) (.lit (29 : Int)))) (.lit (20 : Int))) (.lit (1048575 : Int))) (.lit (0 : Int))) (.lit (524288 : Int))) (.lit (0 : Int)))) (.lit (1 : Int)) (.op .sub .i64 (.op .conv .i64 (.op .and .u64 (.op .xor .u64 (.op .mul .u64 (.op .xor .u64 (.var 141) (.op .shr .u64 (.var 141) (.lit (32 : Int)))) (.lit (11400714819323198485 : Int))) (.op .shr .u64 (.op .mul .u64 (.op .xor .u64 (.var 141) (.op .shr .u64 (.var 141) (.lit (32 : Int)))) (.lit (11400714819323198485 : Int))) (.lit (29 : Int)))) (.lit (1048575 : Int))) (.lit (0 : Int))) (.lit (524288 : Int)))))), (.sc (.i .i64 (.op .sub .i64 (.op .conv .i64 (.op .and .u64 (.op .shr .u64 (.op .xor .u64 (.op .mul .u64 (.op .xor .u64 (.var 141) (.op .shr .u64 (.var 141) (.lit (32 : Int)))) (.lit (11400714819323198485 : Int))) (.op .shr .u64 (.op .mul .u64 (.op .xor .u64 (.var 141) (.op .shr .u64 (.var 141) (.lit (32 : Int)))) (.lit (11400714819323198485 : Int))) (.lit (29 : Int)))) (.lit (20 : Int))) (.lit (1048575 : Int))) (.lit (0 : Int))) (.lit (524288 : Int)))))])))
set_option maxRecDepth 100000 in
theorem rpt_run : askF ⟨cfgL [] lpyQ, l_able, []⟩ 23 ([keyX]) [] = rpt := by kernel_rfl
end Go.Proofs.Ytkaakinodgafnaa
