/- What functions answer, run over letters, where something is known; each shown by running it. -/
import Derived.Test.YtonefailiekemaaXT
import Derived.Test.YtonefailiekemaaFL1
import Derived.Test.YtonefailiekemaaXwM3
namespace Go.Proofs.Ytonefailiekemaa
open Go Go.Proofs.Aw Go.Proofs.Xw
set_option maxRecDepth 100000
abbrev hf2_ : List Nat := [105,82,106,84,51,11,31,10014,10024,10025,10026,10028,10032,10033,10035,10038,10039,10040,10041,10045,10047,10048,10065,10066,10067,10071,10064,10068,10069,10070,10072,10073,10092,10085]
noncomputable def lyE (f : Nat) : List LoopX := if Nat.beq f 108 = true then [kE] else []
theorem lyE_108o : othersB [kE] [0] 0 (loopsOf (Try.f108.body.getD .skip)) = true := by kernel_rfl
theorem lyE_108 {ρ : Rho} (h_kE : LoopOk Try.prog ρ Try.f108.ntmps kE_c kE) : LpsOk Try.prog ρ Try.f108.ntmps [kE] (Try.f108.body.getD .skip) :=
  lps_idx [0] lyE_108o (List.forall_mem_cons.2 ⟨look_list (c := kE_c) (Ls := [kE]) (by kernel_rfl) (List.forall_mem_cons.2 ⟨h_kE, List.forall_mem_nil _⟩), List.forall_mem_nil _⟩)
theorem lyE_ok {ρ : Rho} (h_kE : LoopOk Try.prog ρ Try.f108.ntmps kE_c kE) : ∀ f i, btLook f ftsT = some i → LpsOk Try.prog ρ i.ntmps (lyE f) i.body := by
  intro f i h
  have hi := fts_ok (f, i) (bt_of_mem _ _ (btLook_mem h))
  unfold lyE
  split
  · rename_i hf
    have hf := Nat.eq_of_beq_eq_true hf
    subst hf
    exact lps_row hi Try.func108 (lyE_108 h_kE)
  · exact LpsOk.nil _ _ _ _
noncomputable def lyQ (f : Nat) : List LoopX := if Nat.beq f 97 = true then [pC] else []
theorem lyQ_97o : othersB [pC] [0] 0 (loopsOf (Try.f97.body.getD .skip)) = true := by kernel_rfl
theorem lyQ_97 {ρ : Rho} (h_pC : LoopOk Try.prog ρ Try.f97.ntmps pC_c pC) : LpsOk Try.prog ρ Try.f97.ntmps [pC] (Try.f97.body.getD .skip) :=
  lps_idx [0] lyQ_97o (List.forall_mem_cons.2 ⟨look_list (c := pC_c) (Ls := [pC]) (by kernel_rfl) (List.forall_mem_cons.2 ⟨h_pC, List.forall_mem_nil _⟩), List.forall_mem_nil _⟩)
theorem lyQ_ok {ρ : Rho} (h_pC : LoopOk Try.prog ρ Try.f97.ntmps pC_c pC) : ∀ f i, btLook f ftsT = some i → LpsOk Try.prog ρ i.ntmps (lyQ f) i.body := by
  intro f i h
  have hi := fts_ok (f, i) (bt_of_mem _ _ (btLook_mem h))
  unfold lyQ
  split
  · rename_i hf
    have hf := Nat.eq_of_beq_eq_true hf
    subst hf
    exact lps_row hi Try.func97 (lyQ_97 h_pC)
  · exact LpsOk.nil _ _ _ _
noncomputable def lyZ (f : Nat) : List LoopX := if Nat.beq f 95 = true then [nZ] else []
theorem lyZ_95o : othersB [nZ] [0] 0 (loopsOf (Try.f95.body.getD .skip)) = true := by kernel_rfl
theorem lyZ_95 {ρ : Rho} (h_nZ : LoopOk Try.prog ρ Try.f95.ntmps nZ_c nZ) : LpsOk Try.prog ρ Try.f95.ntmps [nZ] (Try.f95.body.getD .skip) :=
  lps_idx [0] lyZ_95o (List.forall_mem_cons.2 ⟨look_list (c := nZ_c) (Ls := [nZ]) (by kernel_rfl) (List.forall_mem_cons.2 ⟨h_nZ, List.forall_mem_nil _⟩), List.forall_mem_nil _⟩)
theorem lyZ_ok {ρ : Rho} (h_nZ : LoopOk Try.prog ρ Try.f95.ntmps nZ_c nZ) : ∀ f i, btLook f ftsT = some i → LpsOk Try.prog ρ i.ntmps (lyZ f) i.body := by
  intro f i h
  have hi := fts_ok (f, i) (bt_of_mem _ _ (btLook_mem h))
  unfold lyZ
  split
  · rename_i hf
    have hf := Nat.eq_of_beq_eq_true hf
    subst hf
    exact lps_row hi Try.func95 (lyZ_95 h_nZ)
  · exact LpsOk.nil _ _ _ _
abbrev zFL2_0 : BE := .not (.lt (.var 100) (.len 0))
abbrev zFL2_1 : IE := .lit 1099511627776
abbrev zFL2_2 : BE := .not (.lt (.var 101) zFL2_1)
abbrev zFL2_3 : IE := .op .add .i64 (.var 101) (.lit 1)
abbrev zFL2_4 : BE := .and (.and (.and (.and (.and (.not (.lt zFL2_3 (.lit 1))) (.not (.lt zFL2_1 zFL2_3))) (.not (.lt (.var 0) (.lit 0)))) (.lt (.var 0) (.lit 3))) (.not (.lt (.var 1) (.lit 0)))) (.lt (.var 1) (.lit 3))
abbrev zFL2_5 : BE := .or (.or (.not (.and (.and (.and (.not (.lt (.var 0) (.lit 0))) (.lt (.var 0) (.lit 3))) (.not (.lt (.var 1) (.lit 0)))) (.lt (.var 1) (.lit 3)))) (.lt (.var 2) (.lit 1))) (.lt zFL2_1 (.var 2))
abbrev zFL2_6 : BE := .not (.and (.and (.and (.and (.and (.not (.lt (.var 3) (.lit 1))) (.not (.lt zFL2_1 (.var 3)))) (.not (.lt (.var 4) (.lit 0)))) (.lt (.var 4) (.lit 3))) (.not (.lt (.var 5) (.lit 0)))) (.lt (.var 5) (.lit 3)))
abbrev zFL2_7 : BE := .or (.or (.or (.lt (.slen (.var 0)) (.lit 1)) (.lt (.lit 16) (.slen (.var 0)))) (.lt (.lit 32) (.slen (.var 1)))) (.and (.var 0) (.not (.seq (.var 1) (.lit ⟨#[]⟩))))
abbrev zFL2_8 : BE := .or (.or (.or (.lt (.var 6) (.lit 0)) (.lt zFL2_1 (.var 6))) (.or (.or (.lt (.var 7) (.lit 0)) (.lt zFL2_1 (.var 7))) (.or (.lt (.var 8) (.lit 0)) (.lt zFL2_1 (.var 8))))) (.or (.or (.or (.lt (.var 9) (.lit 0)) (.lt zFL2_1 (.var 9))) (.or (.or (.lt (.var 10) (.lit 0)) (.lt zFL2_1 (.var 10))) (.or (.lt (.var 11) (.lit 0)) (.lt zFL2_1 (.var 11))))) (.or (.or (.lt (.var 12) (.lit 0)) (.lt zFL2_1 (.var 12))) (.or (.or (.lt (.var 13) (.lit 0)) (.lt zFL2_1 (.var 13))) (.or (.lt (.var 14) (.lit 0)) (.lt zFL2_1 (.var 14))))))
abbrev zFL2_9 : BE := .eq (.var 0) (.lit 0)
abbrev zFL2_10 : BE := .eq (.var 1) (.lit 0)
abbrev zFL2_11 : BE := .eq (.var 1) (.lit 1)
abbrev zFL2_12 : BE := .eq (.var 0) (.lit 1)
abbrev zFL2_13 : BE := .eq (.ite (.and zFL2_9 zFL2_10) (.var 6) (.ite (.and zFL2_9 zFL2_11) (.var 7) (.ite zFL2_9 (.var 8) (.ite (.and zFL2_12 zFL2_10) (.var 9) (.ite (.and zFL2_12 zFL2_11) (.var 10) (.ite zFL2_12 (.var 11) (.ite zFL2_10 (.var 12) (.ite zFL2_11 (.var 13) (.var 14))))))))) (.op .sub .i64 (.var 2) (.lit 1))
def eP : X := (.agg [(.sc (.i .i64 (.var 0))), (.sc (.i .i64 (.var 1))), (.sc (.i .i64 (.var 2))), (.sc (.i .i64 (.var 3))), (.sc (.i .i64 (.var 4))), (.sc (.i .i64 (.var 5))), (.sc (.s (.var 0))), (.sc (.s (.var 1))), (.sc (.b (.var 0))), (.sc (.i .i64 (.var 6))), (.sc (.i .i64 (.var 7))), (.sc (.i .i64 (.var 8))), (.sc (.i .i64 (.var 9))), (.sc (.i .i64 (.var 10))), (.sc (.i .i64 (.var 11))), (.sc (.i .i64 (.var 12))), (.sc (.i .i64 (.var 13))), (.sc (.i .i64 (.var 14))), (.sc (.i .i64 (.var 15))), (.sc (.i .i64 (.var 16)))])

def colE0 : T X := (.need zFL2_0 (.ret (.agg [(.sc (.i .i64 (.var 101))), (.sc (.i .i64 (.var 102))), (.sc (.i .i64 (.var 103)))])))
theorem colE0_run : askF ⟨cfgL [] lyE, l_able, hf2_⟩ 108 ([iV 1, esR]) [] = colE0 := by kernel_rfl
def pastE : T X := (.need zFL2_0 (.ret (.agg [(.sc (.i .i64 (.var 101))), (.sc (.i .i64 (.var 102))), (.sc (.i .i64 (.var 103))), (.sc (.i .i64 (.var 104))), (.sc (.i .i64 (.var 105))), (.sc (.i .i64 (.var 106))), (.sc (.i .i64 (.var 107))), (.sc (.i .i64 (.var 108))), (.sc (.i .i64 (.var 109)))])))
theorem pastE_run : askF ⟨cfgL [] lyQ, l_able, hf2_⟩ 97 ([esR]) [] = pastE := by kernel_rfl
def nextE : T X := (.need zFL2_0 (.ret (.tup [(.agg [(.sc (.i .i64 (.ite zFL2_2 (.lit 0) (.ite (.not zFL2_4) (.lit 0) zFL2_3)))), (.sc (.i .i64 (.ite zFL2_2 (.lit 0) (.ite (.not zFL2_4) (.lit 0) (.var 0))))), (.sc (.i .i64 (.ite zFL2_2 (.lit 0) (.ite (.not zFL2_4) (.lit 0) (.var 1)))))]), (.sc (.b (.and (.lt (.var 101) zFL2_1) zFL2_4)))])))
theorem nextE_run : askF ⟨cfgL [] lyZ, l_able, hf2_⟩ 95 ([iV 0, iV 1, isR]) [] = nextE := by kernel_rfl
def reP : T X := (.ret (.sc (.b (.and (.not (.or zFL2_5 (.or (.or (.or zFL2_6 (.not (.eq (.var 4) (.var 0)))) (.not (.eq (.var 5) (.var 1)))) (.or zFL2_7 (.or zFL2_8 (.not zFL2_13)))))) (.and (.and (.and (.not (.lt (.var 15) (.lit 0))) (.lt (.var 15) (.lit 4))) (.not (.lt (.var 16) (.lit 1)))) (.not (.lt zFL2_1 (.var 16))))))))
theorem reP_run : askF ⟨cfg [], l_able, hf2_⟩ 18 ([eP]) [] = reP := by kernel_rfl
def reQ : T X := (.ret (.sc (.b (.and (.not (.or (.or (.or zFL2_5 zFL2_6) (.not (.eq (.var 4) (.var 0)))) (.not (.eq (.var 5) (.var 1))))) (.and (.not zFL2_7) (.and (.and (.and (.and (.and (.not zFL2_8) zFL2_13) (.not (.lt (.var 15) (.lit 0)))) (.lt (.var 15) (.lit 4))) (.not (.lt (.var 16) (.lit 1)))) (.not (.lt zFL2_1 (.var 16)))))))))
theorem reQ_run : askF ⟨cfg [], l_able, hf2_⟩ 98 ([eP]) [] = reQ := by kernel_rfl
end Go.Proofs.Ytonefailiekemaa
