/- Parts of the proof, one behind the other. -/
import Derived.Test.YtdlifdoglhhnfaaTM1
import Derived.Test.YtdlifdoglhhnfaaXwM2
import Derived.Test.YtdlifdoglhhnfaaXwM3
import Derived.Test.YtdlifdoglhhnfaaXwM1
/- What functions answer, run over letters; each shown by running it. -/
namespace Go.Proofs.Ytdlifdoglhhnfaa
open Go Go.Proofs.Aw Go.Proofs.Xw
def vi (k n : Nat) : List X := (List.range n).map fun j => .sc (.i .i64 (.var (k + j)))
def vec (k : Nat) : X := .agg (vi k 9)
def iv (k : Nat) : X := .sc (.i .i64 (.var k))
def ent (k : Nat) : X := .agg (vi k 6 ++ [.sc (.s (.var k)), .sc (.s (.var (k + 1))), .sc (.b (.var k))] ++ vi (k + 6) 11)
def l_XS1 : List Sm := []
theorem l_XS1_ok : ∀ s ∈ l_XS1, SmOk Try.prog s := List.forall_mem_nil _
abbrev zTM2_0 : BE := .and (.and (.and (.not (.lt (.var 0) (.lit 0))) (.lt (.var 0) (.lit 3))) (.not (.lt (.var 1) (.lit 0)))) (.lt (.var 1) (.lit 3))
abbrev zTM2_1 : List X := [(.agg (vi 0 3)), (.agg (vi 3 3))]
abbrev zTM2_2 : BE := .lt (.var 0) (.var 3)
abbrev zTM2_3 : BE := .lt (.var 1) (.var 4)
abbrev zTM2_4 : BE := .lt (.var 2) (.var 5)
abbrev zTM2_5 : IE := .lit 1099511627776
abbrev zTM2_6 : IE := .op .max .i64 (.lit 0) (.var 6)
abbrev zTM2_7 : IE := .op .max .i64 (.lit 0) (.var 7)
abbrev zTM2_8 : IE := .op .max .i64 (.lit 0) (.var 8)
abbrev zTM2_9 : BE := .and (.not (.lt (.var 9) (.lit 0))) (.lt (.var 9) (.lit 3))
abbrev zTM2_10 : BE := .and (.and zTM2_9 (.not (.lt (.var 10) (.lit 0)))) (.lt (.var 10) (.lit 3))
abbrev zTM2_11 : BE := .eq (.var 9) (.lit 0)
abbrev zTM2_12 : BE := .eq (.var 10) (.lit 0)
abbrev zTM2_13 : BE := .and zTM2_11 zTM2_12
abbrev zTM2_14 : BE := .eq (.var 10) (.lit 1)
abbrev zTM2_15 : BE := .and zTM2_11 zTM2_14
abbrev zTM2_16 : BE := .eq (.var 9) (.lit 1)
abbrev zTM2_17 : BE := .and zTM2_16 zTM2_12
abbrev zTM2_18 : BE := .and zTM2_16 zTM2_14
abbrev zTM2_19 : IE := .ite zTM2_13 (.var 0) (.ite zTM2_15 (.var 1) (.ite zTM2_11 (.var 2) (.ite zTM2_17 (.var 3) (.ite zTM2_18 (.var 4) (.ite zTM2_16 (.var 5) (.ite zTM2_12 (.var 6) (.ite zTM2_14 (.var 7) (.var 8))))))))
abbrev zTM2_20 : IE := .op .max .i64 zTM2_19 (.var 11)
abbrev zTM2_21 : BE := .not (.and (.not zTM2_2) (.not (.lt (.var 3) (.var 0))))
abbrev zTM2_22 : BE := .not (.and (.not zTM2_3) (.not (.lt (.var 4) (.var 1))))
abbrev zTM2_23 : BE := .eq (.var 0) (.lit 0)
abbrev zTM2_24 : BE := .eq (.var 1) (.lit 0)
abbrev zTM2_25 : BE := .and zTM2_23 zTM2_24
abbrev zTM2_26 : BE := .eq (.var 1) (.lit 1)
abbrev zTM2_27 : BE := .and zTM2_23 zTM2_26
abbrev zTM2_28 : BE := .eq (.var 0) (.lit 1)
abbrev zTM2_29 : BE := .and zTM2_28 zTM2_24
abbrev zTM2_30 : IE := .op .max .i64 (.lit 0) (.var 9)
abbrev zTM2_31 : BE := .and zTM2_28 zTM2_26
abbrev zTM2_32 : IE := .op .max .i64 (.lit 0) (.var 10)
abbrev zTM2_33 : IE := .op .max .i64 (.lit 0) (.var 11)
abbrev zTM2_34 : IE := .op .max .i64 (.lit 0) (.var 12)
abbrev zTM2_35 : IE := .op .max .i64 (.lit 0) (.var 13)
abbrev zTM2_36 : IE := .op .max .i64 (.lit 0) (.var 14)
abbrev zTM2_37 : IE := .op .max .i64 (.ite zTM2_25 zTM2_6 (.ite zTM2_27 zTM2_7 (.ite zTM2_23 zTM2_8 (.ite zTM2_29 zTM2_30 (.ite zTM2_31 zTM2_32 (.ite zTM2_28 zTM2_33 (.ite zTM2_24 zTM2_34 (.ite zTM2_26 zTM2_35 zTM2_36)))))))) (.var 2)
abbrev zTM2_38 : X := .sc (.i .i64 (.slen (.var 0)))
abbrev zTM2_39 : X := .sc (.s (.var 0))
abbrev zTM2_40 : X := .sc (.c (.lit 0) (.lit false) (.lit 0) (.lit false))
abbrev zTM2_41 : XTp := [(9, (.sc (.i .i64 (.var 100)))), (8, zTM2_38), (7, zTM2_39), (3, (.sc (.i .u64 (.var 101)))), (2, zTM2_40), (0, zTM2_39)]
abbrev zTM2_42 : IE := .op .add .i64 (.var 100) (.lit 1)
abbrev zTM2_43 : IE := .op .mul .u64 (.op .xor .u64 (.var 101) (.op .conv .u64 (.byt (.var 0) (.var 100)) (.lit 0))) (.lit 1099511628211)
abbrev zTM2_44 : BE := .lt (.var 100) (.slen (.var 0))
abbrev zTM2_45 : X := .sc (.i .i64 (.lit 0))
abbrev zTM2_46 : XTp := [(5, (.sc (.i .i64 (.var 140)))), (4, (.sc (.i .u64 (.var 141)))), (3, zTM2_45), (2, zTM2_45), (0, zTM2_39)]
abbrev zTM2_47 : IE := .op .add .i64 (.var 140) (.lit 1)
abbrev zTM2_48 : IE := .op .mul .u64 (.op .xor .u64 (.var 141) (.op .conv .u64 (.byt (.var 0) (.var 140)) (.lit 0))) (.lit 1099511628211)
abbrev zTM2_49 : BE := .lt (.var 140) (.slen (.var 0))
abbrev zTM2_50 : IE := .op .mul .u64 (.op .xor .u64 (.var 141) (.op .shr .u64 (.var 141) (.lit 32))) (.lit 11400714819323198485)
abbrev zTM2_51 : IE := .op .xor .u64 zTM2_50 (.op .shr .u64 zTM2_50 (.lit 29))
abbrev zTM2_52 : IE := .op .sub .i64 (.op .conv .i64 (.op .and .u64 zTM2_51 (.lit 1048575)) (.lit 0)) (.lit 524288)
abbrev zTM2_53 : IE := .op .sub .i64 (.op .conv .i64 (.op .and .u64 (.op .shr .u64 zTM2_51 (.lit 20)) (.lit 1048575)) (.lit 0)) (.lit 524288)
def chain40 : Sm := ⟨40, [(iv 0), (iv 1)], (.sc (.b zTM2_0))⟩
theorem chain40_ok : SmOk Try.prog chain40 := smOk (c := ⟨cfg [], l_XS1, [9, 33]⟩) (fun _ => cfg_ok (List.forall_mem_nil _)) l_XS1_ok (by kernel_rfl)
def l_chain40 : List Sm := chain40 :: l_XS1
theorem l_chain40_ok : ∀ s ∈ l_chain40, SmOk Try.prog s := List.forall_mem_cons.2 ⟨chain40_ok, l_XS1_ok⟩
def cc18 : Sm := ⟨18, zTM2_1, (.sc (.b (.not (.or zTM2_2 (.or zTM2_3 zTM2_4)))))⟩
theorem cc18_ok : SmOk Try.prog cc18 := smOk (c := ⟨cfg [], l_chain40, [9, 33]⟩) (fun _ => cfg_ok (List.forall_mem_nil _)) l_chain40_ok (by kernel_rfl)
def l_cc18 : List Sm := cc18 :: l_chain40
theorem l_cc18_ok : ∀ s ∈ l_cc18, SmOk Try.prog s := List.forall_mem_cons.2 ⟨cc18_ok, l_chain40_ok⟩
def right31 : Sm := ⟨31, [(vec 0)], (.sc (.b (.not (.or (.or (.or (.lt (.var 0) (.lit 0)) (.lt zTM2_5 (.var 0))) (.or (.or (.lt (.var 1) (.lit 0)) (.lt zTM2_5 (.var 1))) (.or (.lt (.var 2) (.lit 0)) (.lt zTM2_5 (.var 2))))) (.or (.or (.or (.lt (.var 3) (.lit 0)) (.lt zTM2_5 (.var 3))) (.or (.or (.lt (.var 4) (.lit 0)) (.lt zTM2_5 (.var 4))) (.or (.lt (.var 5) (.lit 0)) (.lt zTM2_5 (.var 5))))) (.or (.or (.lt (.var 6) (.lit 0)) (.lt zTM2_5 (.var 6))) (.or (.or (.lt (.var 7) (.lit 0)) (.lt zTM2_5 (.var 7))) (.or (.lt (.var 8) (.lit 0)) (.lt zTM2_5 (.var 8))))))))))⟩
theorem right31_ok : SmOk Try.prog right31 := smOk (c := ⟨cfg [], l_cc18, [9, 33]⟩) (fun _ => cfg_ok (List.forall_mem_nil _)) l_cc18_ok (by kernel_rfl)
def l_right31 : List Sm := right31 :: l_cc18
theorem l_right31_ok : ∀ s ∈ l_right31, SmOk Try.prog s := List.forall_mem_cons.2 ⟨right31_ok, l_cc18_ok⟩
def merge2 : Sm := ⟨35, [(.ro 9 [(X.cells (vec 0)), (X.cells (vec 9))] true)], (.agg [(.sc (.i .i64 (.op .max .i64 (.op .max .i64 (.lit 0) (.var 0)) (.var 9)))), (.sc (.i .i64 (.op .max .i64 (.op .max .i64 (.lit 0) (.var 1)) (.var 10)))), (.sc (.i .i64 (.op .max .i64 (.op .max .i64 (.lit 0) (.var 2)) (.var 11)))), (.sc (.i .i64 (.op .max .i64 (.op .max .i64 (.lit 0) (.var 3)) (.var 12)))), (.sc (.i .i64 (.op .max .i64 (.op .max .i64 (.lit 0) (.var 4)) (.var 13)))), (.sc (.i .i64 (.op .max .i64 (.op .max .i64 (.lit 0) (.var 5)) (.var 14)))), (.sc (.i .i64 (.op .max .i64 zTM2_6 (.var 15)))), (.sc (.i .i64 (.op .max .i64 zTM2_7 (.var 16)))), (.sc (.i .i64 (.op .max .i64 zTM2_8 (.var 17))))])⟩
theorem merge2_ok : SmOk Try.prog merge2 := smOk (c := ⟨cfg [], l_right31, [9, 33]⟩) (fun _ => cfg_ok (List.forall_mem_nil _)) l_right31_ok (by kernel_rfl)
def l_merge2 : List Sm := merge2 :: l_right31
theorem l_merge2_ok : ∀ s ∈ l_merge2, SmOk Try.prog s := List.forall_mem_cons.2 ⟨merge2_ok, l_right31_ok⟩
def covers15 : Sm := ⟨15, [(vec 0), (vec 9)], (.sc (.b (.not (.or (.or (.lt (.var 0) (.var 9)) (.or (.lt (.var 1) (.var 10)) (.lt (.var 2) (.var 11)))) (.or (.or (.lt (.var 3) (.var 12)) (.or (.lt (.var 4) (.var 13)) (.lt (.var 5) (.var 14)))) (.or (.lt (.var 6) (.var 15)) (.or (.lt (.var 7) (.var 16)) (.lt (.var 8) (.var 17)))))))))⟩
theorem covers15_ok : SmOk Try.prog covers15 := smOk (c := ⟨cfg [], l_merge2, [9, 33]⟩) (fun _ => cfg_ok (List.forall_mem_nil _)) l_merge2_ok (by kernel_rfl)
def l_covers15 : List Sm := covers15 :: l_merge2
theorem l_covers15_ok : ∀ s ∈ l_covers15, SmOk Try.prog s := List.forall_mem_cons.2 ⟨covers15_ok, l_merge2_ok⟩
def with36 : Sm := ⟨36, [(vec 0), (.ro 3 [(vi 9 3)] true)], (.agg [(.sc (.i .i64 (.ite zTM2_10 (.ite zTM2_13 zTM2_20 (.var 0)) (.var 0)))), (.sc (.i .i64 (.ite zTM2_10 (.ite zTM2_13 (.var 1) (.ite zTM2_15 zTM2_20 (.var 1))) (.var 1)))), (.sc (.i .i64 (.ite zTM2_10 (.ite zTM2_13 (.var 2) (.ite zTM2_15 (.var 2) (.ite zTM2_11 zTM2_20 (.var 2)))) (.var 2)))), (.sc (.i .i64 (.ite zTM2_10 (.ite zTM2_13 (.var 3) (.ite zTM2_15 (.var 3) (.ite zTM2_11 (.var 3) (.ite zTM2_17 zTM2_20 (.var 3))))) (.var 3)))), (.sc (.i .i64 (.ite zTM2_10 (.ite zTM2_13 (.var 4) (.ite zTM2_15 (.var 4) (.ite zTM2_11 (.var 4) (.ite zTM2_17 (.var 4) (.ite zTM2_18 zTM2_20 (.var 4)))))) (.var 4)))), (.sc (.i .i64 (.ite zTM2_10 (.ite zTM2_13 (.var 5) (.ite zTM2_15 (.var 5) (.ite zTM2_11 (.var 5) (.ite zTM2_17 (.var 5) (.ite zTM2_18 (.var 5) (.ite zTM2_16 zTM2_20 (.var 5))))))) (.var 5)))), (.sc (.i .i64 (.ite zTM2_10 (.ite zTM2_13 (.var 6) (.ite zTM2_15 (.var 6) (.ite zTM2_11 (.var 6) (.ite zTM2_17 (.var 6) (.ite zTM2_18 (.var 6) (.ite zTM2_16 (.var 6) (.ite zTM2_12 zTM2_20 (.var 6)))))))) (.var 6)))), (.sc (.i .i64 (.ite zTM2_10 (.ite zTM2_13 (.var 7) (.ite zTM2_15 (.var 7) (.ite zTM2_11 (.var 7) (.ite zTM2_17 (.var 7) (.ite zTM2_18 (.var 7) (.ite zTM2_16 (.var 7) (.ite zTM2_12 (.var 7) (.ite zTM2_14 zTM2_20 (.var 7))))))))) (.var 7)))), (.sc (.i .i64 (.ite zTM2_10 (.ite zTM2_13 (.var 8) (.ite zTM2_15 (.var 8) (.ite zTM2_11 (.var 8) (.ite zTM2_17 (.var 8) (.ite zTM2_18 (.var 8) (.ite zTM2_16 (.var 8) (.ite zTM2_12 (.var 8) (.ite zTM2_14 (.var 8) zTM2_20)))))))) (.var 8))))])⟩
theorem with36_ok : SmOk Try.prog with36 := smOk (c := ⟨cfg [], l_covers15, [9, 33]⟩) (fun _ => cfg_ok (List.forall_mem_nil _)) l_covers15_ok (by kernel_rfl)
def l_with36 : List Sm := with36 :: l_covers15
theorem l_with36_ok : ∀ s ∈ l_with36, SmOk Try.prog s := List.forall_mem_cons.2 ⟨with36_ok, l_covers15_ok⟩
def part19 : Sm := ⟨19, [(vec 0), (iv 9)], (.agg [(.sc (.i .i64 (.ite zTM2_9 (.ite zTM2_11 (.var 0) (.ite zTM2_16 (.var 1) (.var 2))) (.lit 0)))), (.sc (.i .i64 (.ite zTM2_9 (.ite zTM2_11 (.var 3) (.ite zTM2_16 (.var 4) (.var 5))) (.lit 0)))), (.sc (.i .i64 (.ite zTM2_9 (.ite zTM2_11 (.var 6) (.ite zTM2_16 (.var 7) (.var 8))) (.lit 0))))])⟩
theorem part19_ok : SmOk Try.prog part19 := smOk (c := ⟨cfg [], l_with36, [9, 33]⟩) (fun _ => cfg_ok (List.forall_mem_nil _)) l_with36_ok (by kernel_rfl)
def l_part19 : List Sm := part19 :: l_with36
theorem l_part19_ok : ∀ s ∈ l_part19, SmOk Try.prog s := List.forall_mem_cons.2 ⟨part19_ok, l_with36_ok⟩
def has29 : Sm := ⟨29, [(vec 0), (.agg (vi 9 3))], (.sc (.b (.and (.and zTM2_10 (.not (.lt (.var 11) (.lit 1)))) (.not (.lt zTM2_19 (.var 11))))))⟩
theorem has29_ok : SmOk Try.prog has29 := smOk (c := ⟨cfg [], l_part19, [9, 33]⟩) (fun _ => cfg_ok (List.forall_mem_nil _)) l_part19_ok (by kernel_rfl)
def l_has29 : List Sm := has29 :: l_part19
theorem l_has29_ok : ∀ s ∈ l_has29, SmOk Try.prog s := List.forall_mem_cons.2 ⟨has29_ok, l_part19_ok⟩
def within49 : Sm := ⟨49, zTM2_1, (.sc (.b (.and (.and (.and (.and (.not (.lt (.var 4) (.lit 0))) (.lt (.var 4) (.lit 3))) (.not (.lt (.var 3) (.lit 0)))) (.lt (.var 3) (.lit 3))) (.not (.lt (.ite (.eq (.var 3) (.lit 0)) (.var 0) (.ite (.eq (.var 3) (.lit 1)) (.var 1) (.var 2))) (.var 5))))))⟩
theorem within49_ok : SmOk Try.prog within49 := smOk (c := ⟨cfg [], l_has29, [9, 33]⟩) (fun _ => cfg_ok (List.forall_mem_nil _)) l_has29_ok (by kernel_rfl)
def l_within49 : List Sm := within49 :: l_has29
theorem l_within49_ok : ∀ s ∈ l_within49, SmOk Try.prog s := List.forall_mem_cons.2 ⟨within49_ok, l_has29_ok⟩
def scmp51 : Sm := ⟨51, zTM2_1, (.sc (.i .i64 (.ite (.or zTM2_21 (.or zTM2_22 (.not (.and (.not zTM2_4) (.not (.lt (.var 5) (.var 2))))))) (.ite zTM2_21 (.ite zTM2_2 (.lit (-1)) (.ite (.lt (.var 3) (.var 0)) (.lit 1) (.lit 0))) (.ite zTM2_22 (.ite zTM2_3 (.lit (-1)) (.ite (.lt (.var 4) (.var 1)) (.lit 1) (.lit 0))) (.ite zTM2_4 (.lit (-1)) (.ite (.lt (.var 5) (.var 2)) (.lit 1) (.lit 0))))) (.lit 0))))⟩
theorem scmp51_ok : SmOk Try.prog scmp51 := smOk (c := ⟨cfg [], l_within49, [9, 33]⟩) (fun _ => cfg_ok (List.forall_mem_nil _)) l_within49_ok (by kernel_rfl)
def l_scmp51 : List Sm := scmp51 :: l_within49
theorem l_scmp51_ok : ∀ s ∈ l_scmp51, SmOk Try.prog s := List.forall_mem_cons.2 ⟨scmp51_ok, l_within49_ok⟩
def past16 : Sm := ⟨16, [(.ro 20 [(X.cells (ent 0))] true)], (.agg [(.sc (.i .i64 (.ite zTM2_0 (.ite zTM2_25 zTM2_37 zTM2_6) zTM2_6))), (.sc (.i .i64 (.ite zTM2_0 (.ite zTM2_25 zTM2_7 (.ite zTM2_27 zTM2_37 zTM2_7)) zTM2_7))), (.sc (.i .i64 (.ite zTM2_0 (.ite zTM2_25 zTM2_8 (.ite zTM2_27 zTM2_8 (.ite zTM2_23 zTM2_37 zTM2_8))) zTM2_8))), (.sc (.i .i64 (.ite zTM2_0 (.ite zTM2_25 zTM2_30 (.ite zTM2_27 zTM2_30 (.ite zTM2_23 zTM2_30 (.ite zTM2_29 zTM2_37 zTM2_30)))) zTM2_30))), (.sc (.i .i64 (.ite zTM2_0 (.ite zTM2_25 zTM2_32 (.ite zTM2_27 zTM2_32 (.ite zTM2_23 zTM2_32 (.ite zTM2_29 zTM2_32 (.ite zTM2_31 zTM2_37 zTM2_32))))) zTM2_32))), (.sc (.i .i64 (.ite zTM2_0 (.ite zTM2_25 zTM2_33 (.ite zTM2_27 zTM2_33 (.ite zTM2_23 zTM2_33 (.ite zTM2_29 zTM2_33 (.ite zTM2_31 zTM2_33 (.ite zTM2_28 zTM2_37 zTM2_33)))))) zTM2_33))), (.sc (.i .i64 (.ite zTM2_0 (.ite zTM2_25 zTM2_34 (.ite zTM2_27 zTM2_34 (.ite zTM2_23 zTM2_34 (.ite zTM2_29 zTM2_34 (.ite zTM2_31 zTM2_34 (.ite zTM2_28 zTM2_34 (.ite zTM2_24 zTM2_37 zTM2_34))))))) zTM2_34))), (.sc (.i .i64 (.ite zTM2_0 (.ite zTM2_25 zTM2_35 (.ite zTM2_27 zTM2_35 (.ite zTM2_23 zTM2_35 (.ite zTM2_29 zTM2_35 (.ite zTM2_31 zTM2_35 (.ite zTM2_28 zTM2_35 (.ite zTM2_24 zTM2_35 (.ite zTM2_26 zTM2_37 zTM2_35)))))))) zTM2_35))), (.sc (.i .i64 (.ite zTM2_0 (.ite zTM2_25 zTM2_36 (.ite zTM2_27 zTM2_36 (.ite zTM2_23 zTM2_36 (.ite zTM2_29 zTM2_36 (.ite zTM2_31 zTM2_36 (.ite zTM2_28 zTM2_36 (.ite zTM2_24 zTM2_36 (.ite zTM2_26 zTM2_36 zTM2_37)))))))) zTM2_36)))])⟩
theorem past16_ok : SmOk Try.prog past16 := smOk (c := ⟨cfg [], l_scmp51, [9, 33]⟩) (fun _ => cfg_ok (List.forall_mem_nil _)) l_scmp51_ok (by kernel_rfl)
def l_past16 : List Sm := past16 :: l_scmp51
theorem l_past16_ok : ∀ s ∈ l_past16, SmOk Try.prog s := List.forall_mem_cons.2 ⟨past16_ok, l_scmp51_ok⟩
def able : Sm := ⟨7, [], (.sc (.b (.lit true)))⟩
theorem able_ok : SmOk Try.prog able := smOk (c := ⟨cfg [], l_past16, [9, 33]⟩) (fun _ => cfg_ok (List.forall_mem_nil _)) l_past16_ok (by kernel_rfl)
def l_able : List Sm := able :: l_past16
theorem l_able_ok : ∀ s ∈ l_able, SmOk Try.prog s := List.forall_mem_cons.2 ⟨able_ok, l_past16_ok⟩
end Go.Proofs.Ytdlifdoglhhnfaa

/- What is shown of loops, each by one run of its body over letters. -/
namespace Go.Proofs.Ytdlifdoglhhnfaa
open Go Go.Proofs.Aw Go.Proofs.Xw
def keyX : X := .sc (.s (.var 0))
/-! wP: letters [100, 101] [] [] [] -/
noncomputable def wP_c : Code := (loopsOf (Try.f39.body.getD .skip))[0]?.getD .skip
def wP_S : XS := ⟨zTM2_41, [], 5⟩
def wP_Φ : Facts := [(.lt (.var 100) (.lit 0), false)]
def wP_b : Bind := ⟨[(100, zTM2_42), (101, zTM2_43)], [], [], []⟩
def wP_i : Bind := ⟨[(100, (.lit 0)), (101, (.lit 14695981039346656037))], [], [], []⟩
def wP_t : T (XE × XS) := (.br zTM2_44 (.ret (.normal, ⟨[(9, (.sc (.i .i64 zTM2_42))), (8, zTM2_38), (7, zTM2_39), (3, (.sc (.i .u64 zTM2_43))), (2, zTM2_40), (0, zTM2_39)], [], 18⟩)) (.ret ((.exit 0), ⟨zTM2_41, [], 6⟩)))
noncomputable def wP : LoopX := ⟨((codeKey wP_c).getD 0), 0, 100, wP_S, wP_i, [], wP_t.outs⟩
theorem wP_run : (codeX (cfgL ([]) (fun _ => [])).ti (callS ⟨(cfgL ([]) (fun _ => [])), l_able, []⟩ 12) (((cfgL ([]) (fun _ => [])).ft 39).elim [] (·.ms)) wP.k0 ((fun _ => []) 39) 1000 wP_c wP_Φ wP.S).map (sqz (wP_S.t.map (·.1))) = wP_t := by kernel_rfl
theorem wP_back : wP_t.nrm (okS wP.k0 wP.n wP_b [] wP.S) = true := by kernel_rfl
theorem wP_bel : wP_t.outs.belX 102 = true := by kernel_rfl
theorem wP_ib : wP_i.bel 100 = true := by kernel_rfl
theorem wP_ig : wP_i.ge 100 = true := by kernel_rfl
theorem wP_bg : wP_b.ge 100 = true := by kernel_rfl
theorem wP_same : wP_i.same wP_b = true := by kernel_rfl
theorem wP_Sb : wP_S.bel 102 = true := by kernel_rfl
theorem wP_fits : fitsC Try.f39.ntmps wP_c = true := by kernel_rfl
/-! wQ: letters [140, 141] [] [] [] -/
noncomputable def wQ_c : Code := (loopsOf (Try.f69.body.getD .skip))[0]?.getD .skip
def wQ_S : XS := ⟨zTM2_46, [], 4⟩
def wQ_Φ : Facts := [(.lt (.var 140) (.lit 0), false)]
def wQ_b : Bind := ⟨[(140, zTM2_47), (141, zTM2_48)], [], [], []⟩
def wQ_i : Bind := ⟨[(140, (.lit 0)), (141, (.lit 14695981039346656037))], [], [], []⟩
def wQ_t : T (XE × XS) := (.br zTM2_49 (.ret (.normal, ⟨[(5, (.sc (.i .i64 zTM2_47))), (4, (.sc (.i .u64 zTM2_48))), (3, zTM2_45), (2, zTM2_45), (0, zTM2_39)], [], 19⟩)) (.ret ((.exit 0), ⟨zTM2_46, [], 8⟩)))
noncomputable def wQ : LoopX := ⟨((codeKey wQ_c).getD 0), 0, 140, wQ_S, wQ_i, [], wQ_t.outs⟩
theorem wQ_run : (codeX (cfgL ([]) (fun _ => [])).ti (callS ⟨(cfgL ([]) (fun _ => [])), l_able, []⟩ 12) (((cfgL ([]) (fun _ => [])).ft 69).elim [] (·.ms)) wQ.k0 ((fun _ => []) 69) 1000 wQ_c wQ_Φ wQ.S).map (sqz (wQ_S.t.map (·.1))) = wQ_t := by kernel_rfl
theorem wQ_back : wQ_t.nrm (okS wQ.k0 wQ.n wQ_b [] wQ.S) = true := by kernel_rfl
theorem wQ_bel : wQ_t.outs.belX 142 = true := by kernel_rfl
theorem wQ_ib : wQ_i.bel 140 = true := by kernel_rfl
theorem wQ_ig : wQ_i.ge 140 = true := by kernel_rfl
theorem wQ_bg : wQ_b.ge 140 = true := by kernel_rfl
theorem wQ_same : wQ_i.same wQ_b = true := by kernel_rfl
theorem wQ_Sb : wQ_S.bel 142 = true := by kernel_rfl
theorem wQ_fits : fitsC Try.f69.ntmps wQ_c = true := by kernel_rfl
end Go.Proofs.Ytdlifdoglhhnfaa

/- What functions answer, run over letters, where something is known; each shown by running it. -/
namespace Go.Proofs.Ytdlifdoglhhnfaa
open Go Go.Proofs.Aw Go.Proofs.Xw
noncomputable def lpyP (f : Nat) : List LoopX := if Nat.beq f 39 = true then [wP] else []
theorem lpyP_39o : othersB [wP] [0] 0 (loopsOf (Try.f39.body.getD .skip)) = true := by kernel_rfl
theorem lpyP_39 {ρ : Rho} (h_wP : LoopOk Try.prog ρ Try.f39.ntmps wP_c wP) : LpsOk Try.prog ρ Try.f39.ntmps [wP] (Try.f39.body.getD .skip) :=
  lps_idx [0] lpyP_39o (List.forall_mem_cons.2 ⟨look_list (c := wP_c) (Ls := [wP]) (by kernel_rfl) (List.forall_mem_cons.2 ⟨h_wP, List.forall_mem_nil _⟩), List.forall_mem_nil _⟩)
theorem lpyP_ok {ρ : Rho} (h_wP : LoopOk Try.prog ρ Try.f39.ntmps wP_c wP) : ∀ f i, btLook f ftsT = some i → LpsOk Try.prog ρ i.ntmps (lpyP f) i.body := by
  intro f i h
  have hi := fts_ok (f, i) (bt_of_mem _ _ (btLook_mem h))
  unfold lpyP
  split
  · rename_i hf
    have hf := Nat.eq_of_beq_eq_true hf
    subst hf
    exact lps_row hi Try.func39 (lpyP_39 h_wP)
  · exact LpsOk.nil _ _ _ _
noncomputable def lpyQ (f : Nat) : List LoopX := if Nat.beq f 69 = true then [wQ] else []
theorem lpyQ_69o : othersB [wQ] [0] 0 (loopsOf (Try.f69.body.getD .skip)) = true := by kernel_rfl
theorem lpyQ_69 {ρ : Rho} (h_wQ : LoopOk Try.prog ρ Try.f69.ntmps wQ_c wQ) : LpsOk Try.prog ρ Try.f69.ntmps [wQ] (Try.f69.body.getD .skip) :=
  lps_idx [0] lpyQ_69o (List.forall_mem_cons.2 ⟨look_list (c := wQ_c) (Ls := [wQ]) (by kernel_rfl) (List.forall_mem_cons.2 ⟨h_wQ, List.forall_mem_nil _⟩), List.forall_mem_nil _⟩)
theorem lpyQ_ok {ρ : Rho} (h_wQ : LoopOk Try.prog ρ Try.f69.ntmps wQ_c wQ) : ∀ f i, btLook f ftsT = some i → LpsOk Try.prog ρ i.ntmps (lpyQ f) i.body := by
  intro f i h
  have hi := fts_ok (f, i) (bt_of_mem _ _ (btLook_mem h))
  unfold lpyQ
  split
  · rename_i hf
    have hf := Nat.eq_of_beq_eq_true hf
    subst hf
    exact lps_row hi Try.func69 (lpyQ_69 h_wQ)
  · exact LpsOk.nil _ _ _ _

def pnt : T X := (.need (.not zTM2_44) (.ret (.sc (.c (.ite (.and (.eq (.op .padd .i64 (.op .and .u64 (.op .xor .u64 (.op .mul .u64 (.op .xor .u64 (.var 101) (.op .shr .u64 (.var 101) (.lit 32))) (.lit 11400714819323198485)) (.op .shr .u64 (.op .mul .u64 (.op .xor .u64 (.var 101) (.op .shr .u64 (.var 101) (.lit 32))) (.lit 11400714819323198485)) (.lit 29))) (.lit 1048575)) (.lit (-524288))) (.lit 0)) (.eq (.op .padd .i64 (.op .and .u64 (.op .shr .u64 (.op .xor .u64 (.op .mul .u64 (.op .xor .u64 (.var 101) (.op .shr .u64 (.var 101) (.lit 32))) (.lit 11400714819323198485)) (.op .shr .u64 (.op .mul .u64 (.op .xor .u64 (.var 101) (.op .shr .u64 (.var 101) (.lit 32))) (.lit 11400714819323198485)) (.lit 29))) (.lit 20)) (.lit 1048575)) (.lit (-524288))) (.lit 0))) (.lit 1) (.op .padd .i64 (.op .and .u64 (.op .xor .u64 (.op .mul .u64 (.op .xor .u64 (.var 101) (.op .shr .u64 (.var 101) (.lit 32))) (.lit 11400714819323198485)) (.op .shr .u64 (.op .mul .u64 (.op .xor .u64 (.var 101) (.op .shr .u64 (.var 101) (.lit 32))) (.lit 11400714819323198485)) (.lit 29))) (.lit 1048575)) (.lit (-524288)))) (.lit false) (.ite (.and (.eq (.op .padd .i64 (.op .and .u64 (.op .xor .u64 (.op .mul .u64 (.op .xor .u64 (.var 101) (.op .shr .u64 (.var 101) (.lit 32))) (.lit 11400714819323198485)) (.op .shr .u64 (.op .mul .u64 (.op .xor .u64 (.var 101) (.op .shr .u64 (.var 101) (.lit 32))) (.lit 11400714819323198485)) (.lit 29))) (.lit 1048575)) (.lit (-524288))) (.lit 0)) (.eq (.op .padd .i64 (.op .and .u64 (.op .shr .u64 (.op .xor .u64 (.op .mul .u64 (.op .xor .u64 (.var 101) (.op .shr .u64 (.var 101) (.lit 32))) (.lit 11400714819323198485)) (.op .shr .u64 (.op .mul .u64 (.op .xor .u64 (.var 101) (.op .shr .u64 (.var 101) (.lit 32))) (.lit 11400714819323198485)) (.lit 29))) (.lit 20)) (.lit 1048575)) (.lit (-524288))) (.lit 0))) (.lit 0) (.op .padd .i64 (.op .and .u64 (.op .shr .u64 (.op .xor .u64 (.op .mul .u64 (.op .xor .u64 (.var 101) (.op .shr .u64 (.var 101) (.lit 32))) (.lit 11400714819323198485)) (.op .shr .u64 (.op .mul .u64 (.op .xor .u64 (.var 101) (.op .shr .u64 (.var 101) (.lit 32))) (.lit 11400714819323198485)) (.lit 29))) (.lit 20)) (.lit 1048575)) (.lit (-524288)))) (.lit false)))))
theorem pnt_run : askF ⟨cfgL [] lpyP, l_able, []⟩ 39 ([keyX]) [] = pnt := by kernel_rfl
def rpt : T X := (.need (.not zTM2_49) (.ret (.tup [(.sc (.i .i64 (.ite (.and (.eq zTM2_52 (.lit 0)) (.eq zTM2_53 (.lit 0))) (.lit 1) zTM2_52))), (.sc (.i .i64 zTM2_53))])))
theorem rpt_run : askF ⟨cfgL [] lpyQ, l_able, []⟩ 69 ([keyX]) [] = rpt := by kernel_rfl
end Go.Proofs.Ytdlifdoglhhnfaa

/- When a truth over letters is true, said without the letters' tree. -/
namespace Go.Proofs.Xw
open Go Go.Proofs.Aw
section
variable (ρ : Rho)
theorem dl_t (b : Bool) : ((BE.lit b).den ρ = true) = (b = true) := rfl
theorem dl_f (b : Bool) : ((BE.lit b).den ρ = false) = (b = false) := rfl
theorem dlt_t (a b : IE) : ((BE.lt a b).den ρ = true) = (a.den ρ < b.den ρ) := by simp [BE.den]
theorem dlt_f (a b : IE) : ((BE.lt a b).den ρ = false) = (b.den ρ ≤ a.den ρ) := by simp [BE.den]
theorem deq_t (a b : IE) : ((BE.eq a b).den ρ = true) = (a.den ρ = b.den ρ) := by simp [BE.den]
theorem deq_f (a b : IE) : ((BE.eq a b).den ρ = false) = ¬ (a.den ρ = b.den ρ) := by simp [BE.den]
theorem dnot_t (a : BE) : ((BE.not a).den ρ = true) = (a.den ρ = false) := by simp [BE.den]
theorem dnot_f (a : BE) : ((BE.not a).den ρ = false) = (a.den ρ = true) := by simp [BE.den]
theorem dand_t (a b : BE) : ((BE.and a b).den ρ = true) = (a.den ρ = true ∧ b.den ρ = true) := by simp [BE.den]
theorem dand_f (a b : BE) : ((BE.and a b).den ρ = false) = (a.den ρ = false ∨ b.den ρ = false) := by simp only [BE.den]; cases BE.den ρ a <;> cases BE.den ρ b <;> simp
theorem dor_t (a b : BE) : ((BE.or a b).den ρ = true) = (a.den ρ = true ∨ b.den ρ = true) := by simp [BE.den]
theorem dor_f (a b : BE) : ((BE.or a b).den ρ = false) = (a.den ρ = false ∧ b.den ρ = false) := by simp [BE.den]
theorem dite_t (c a b : BE) : ((BE.ite c a b).den ρ = true) = ((c.den ρ = true → a.den ρ = true) ∧ (c.den ρ = false → b.den ρ = true)) := by simp only [BE.den]; cases BE.den ρ c <;> simp
theorem dite_f (c a b : BE) : ((BE.ite c a b).den ρ = false) = ((c.den ρ = true → a.den ρ = false) ∧ (c.den ρ = false → b.den ρ = false)) := by simp only [BE.den]; cases BE.den ρ c <;> simp
end
/-- The truth that a summary answers. -/
def X.be : X → BE
  | .sc (.b e) => e
  | _ => .lit false
end Go.Proofs.Xw

/- Txn: calls without contracts; rows of strings. -/
namespace Go.Proofs.Ytdlifdoglhhnfaa
open Go Go.Proofs.Aw Go.Proofs.Xw
set_option maxRecDepth 100000
theorem call0 : ∀ ρ, CallOk Try.prog ρ (callS ⟨cfgL [] (fun _ => []), l_able, []⟩ 12) := fun _ => callS_ok (c := ⟨cfgL [] (fun _ => []), l_able, []⟩) (cfgL_ok (List.forall_mem_nil _) (fun _ _ _ => LpsOk.nil _ _ _ _)) l_able_ok 12
/-- The row of strings that is letter l. -/
def stR (ρ : Rho) (l : Nat) : Nat → ByteArray := fun k => ρ.cs l 0 k
theorem agree_st {n : Nat} {ρ ρ' : Rho} (h : Agree n ρ ρ') {l : Nat} (hl : l < n) : stR ρ' l = stR ρ l := by
  funext k; show ρ'.cs l 0 k = ρ.cs l 0 k; rw [h.cs l hl]
theorem ap_i {β : Bind} {ρ : Rho} {k : Nat} {e : IE} (h : lassoc k β.i = some e) : (β.ap ρ).i k = e.den ρ := by simp only [Bind.ap, h]
theorem ap_len {β : Bind} {ρ : Rho} {k : Nat} {m : IE} {r : RL} (h : lassoc k β.r = some (m, r)) : (β.ap ρ).len k = (m.den ρ).toNat := by simp only [Bind.ap, h]
theorem row_var (ρ : Rho) (l k : Nat) : cellS ((RL.var l [.s]).row ρ k)[0]? = stR ρ l k := by
  simp only [RL.row, cellsV, List.getElem?_cons_zero, cellS, Int.toNat_natCast]; rfl
end Go.Proofs.Ytdlifdoglhhnfaa

/- Ring: where a key stands: two whole numbers, the program's and the document's alike. -/
namespace Go.Proofs.Ytdlifdoglhhnfaa
open Go Go.Proofs.Aw Go.Proofs.Xw
set_option maxRecDepth 100000
theorem wP_ok (ρ : Rho) (h : (ρ.s 0).size < 9223372036854775808) : LoopOk Try.prog (wP_b.it (wP_i.ap ρ) (ρ.s 0).size) Try.f39.ntmps wP_c wP :=
  loopOk_cntE mixed tis_ok wP_run wP_fits wP_back rfl 102 wP_bel wP_ib wP_bg wP_same (I := 100) (e := .slen (.var 0)) rfl (by intro h; cases h) rfl rfl (by kernel_rfl) (Φ0 := []) rfl (by kernel_rfl) (Facts.ok_nil _) wP_ig call0 (fun _ => LpsOk.nil _ _ _ _) _ h rfl
theorem wQ_ok (ρ : Rho) (h : (ρ.s 0).size < 9223372036854775808) : LoopOk Try.prog (wQ_b.it (wQ_i.ap ρ) (ρ.s 0).size) Try.f69.ntmps wQ_c wQ :=
  loopOk_cntE mixed tis_ok wQ_run wQ_fits wQ_back rfl 142 wQ_bel wQ_ib wQ_bg wQ_same (I := 140) (e := .slen (.var 0)) rfl (by intro h; cases h) rfl rfl (by kernel_rfl) (Φ0 := []) rfl (by kernel_rfl) (Facts.ok_nil _) wQ_ig call0 (fun _ => LpsOk.nil _ _ _ _) _ h rfl
/-- The program's hash and the document's, byte by byte. -/
theorem same (ρ : Rho) : ∀ j : Nat, (wP_b.it (wP_i.ap ρ) j).i 100 = (wQ_b.it (wQ_i.ap ρ) j).i 140 ∧ (wP_b.it (wP_i.ap ρ) j).i 101 = (wQ_b.it (wQ_i.ap ρ) j).i 141
  | 0 => ⟨rfl, rfl⟩
  | j + 1 => by
    obtain ⟨h1, h2⟩ := same ρ j
    have s1 : (wP_b.it (wP_i.ap ρ) j).s 0 = ρ.s 0 := (((Bind.agree wP_ig ρ).trans (Bind.it_agree wP_bg (wP_i.ap ρ) j)).s 0 (by decide)).symm
    have s2 : (wQ_b.it (wQ_i.ap ρ) j).s 0 = ρ.s 0 := (((Bind.agree wQ_ig ρ).trans (Bind.it_agree wQ_bg (wQ_i.ap ρ) j)).s 0 (by decide)).symm
    have e1 : (wP_b.it (wP_i.ap ρ) (j + 1)).i 100 = IOp.den .add .i64 ((wP_b.it (wP_i.ap ρ) j).i 100) 1 := by kernel_rfl
    have e2 : (wQ_b.it (wQ_i.ap ρ) (j + 1)).i 140 = IOp.den .add .i64 ((wQ_b.it (wQ_i.ap ρ) j).i 140) 1 := by kernel_rfl
    have e3 : (wP_b.it (wP_i.ap ρ) (j + 1)).i 101 = IOp.den .mul .u64 (IOp.den .xor .u64 ((wP_b.it (wP_i.ap ρ) j).i 101) (IOp.den .conv .u64 (((((wP_b.it (wP_i.ap ρ) j).s 0)[((wP_b.it (wP_i.ap ρ) j).i 100).toNat]?).getD 0).toNat : Int) 0)) 1099511628211 := by kernel_rfl
    have e4 : (wQ_b.it (wQ_i.ap ρ) (j + 1)).i 141 = IOp.den .mul .u64 (IOp.den .xor .u64 ((wQ_b.it (wQ_i.ap ρ) j).i 141) (IOp.den .conv .u64 (((((wQ_b.it (wQ_i.ap ρ) j).s 0)[((wQ_b.it (wQ_i.ap ρ) j).i 140).toNat]?).getD 0).toNat : Int) 0)) 1099511628211 := by kernel_rfl
    rw [e1, e2, e3, e4, s1, s2, h1, h2]
    exact ⟨rfl, rfl⟩
def mxI (h : Int) : Int := IOp.den .xor .u64 (IOp.den .mul .u64 (IOp.den .xor .u64 h (IOp.den .shr .u64 h 32)) 11400714819323198485) (IOp.den .shr .u64 (IOp.den .mul .u64 (IOp.den .xor .u64 h (IOp.den .shr .u64 h 32)) 11400714819323198485) 29)
def axI (h : Int) : Int := bits .and .u64 (mxI h) 1048575 + -524288
def ayI (h : Int) : Int := bits .and .u64 (IOp.den .shr .u64 (mxI h) 20) 1048575 + -524288
theorem axI_b (h : Int) : -524288 ≤ axI h ∧ axI h ≤ 524287 := by
  have := mask_le .u64 (.inr rfl) (mxI h) 1048575 (by decide) (by decide)
  unfold axI; omega
theorem ayI_b (h : Int) : -524288 ≤ ayI h ∧ ayI h ≤ 524287 := by
  have := mask_le .u64 (.inr rfl) (IOp.den .shr .u64 (mxI h) 20) 1048575 (by decide) (by decide)
  unfold ayI; omega
theorem sub_w (m : Int) (h : 0 ≤ m ∧ m ≤ 1048575) : IOp.den .sub .i64 (IOp.den .conv .i64 m 0) 524288 = m + -524288 := by
  simp only [IOp.den]
  rw [wrap_id m (by omega) (by omega), wrap_id _ (by omega) (by omega)]
  omega
theorem pnt_cy (ρ : Rho) (h : (ρ.s 0).size < 9223372036854775808) : ∃ x y : Int, (-524288 ≤ x ∧ x ≤ 524287) ∧ (-524288 ≤ y ∧ y ≤ 524287) ∧ ¬ (x = 0 ∧ y = 0) ∧
    (hasBody Try.prog 39 = true ∧ ∀ n h, CY Try.prog n 39 (X.denL ρ [keyX]) h (.sc (.complex .f64 (fv x false) (fv y false))) []) ∧
    (hasBody Try.prog 69 = true ∧ ∀ n h, CY Try.prog n 69 (X.denL ρ [keyX]) h (.tup [.sc (.int .i64 x), .sc (.int .i64 y)]) []) := by
  -- the letters behind the loops
  generalize e1 : wP_b.it (wP_i.ap ρ) (ρ.s 0).size = ρ1
  generalize e2 : wQ_b.it (wQ_i.ap ρ) (ρ.s 0).size = ρ2
  have l1 := wP_ok ρ h
  have l2 := wQ_ok ρ h
  have ag1 : Agree 100 ρ ρ1 := by rw [← e1]; exact (Bind.agree wP_ig ρ).trans (Bind.it_agree wP_bg (wP_i.ap ρ) _)
  have ag2 : Agree 140 ρ ρ2 := by rw [← e2]; exact (Bind.agree wQ_ig ρ).trans (Bind.it_agree wQ_bg (wQ_i.ap ρ) _)
  have c1 : ρ1.i 100 = (ρ.s 0).size := by rw [← e1]; exact it_count (e := .lit 0) rfl (by rfl) _ h
  have c2 : ρ2.i 140 = (ρ.s 0).size := by rw [← e2]; exact it_count (e := .lit 0) rfl (by rfl) _ h
  have sm : ρ1.i 101 = ρ2.i 141 := by rw [← e1, ← e2]; exact (same ρ _).2
  rw [e1] at l1
  rw [e2] at l2
  have n1 : (BE.not (.lt (.var 100) (.slen (.var 0)))).den ρ1 = true := by
    rw [dnot_t, dlt_f]
    simp only [IE.den, TE.den, c1, ← ag1.s 0 (by decide)]
    omega
  have n2 : (BE.not (.lt (.var 140) (.slen (.var 0)))).den ρ2 = true := by
    rw [dnot_t, dlt_f]
    simp only [IE.den, TE.den, c2, ← ag2.s 0 (by decide)]
    omega
  have g1 := fun r (hr : pnt.sel ρ1 = some r) => askF_ok (c := ⟨cfgL [] lpyP, l_able, []⟩) (cfgL_ok (List.forall_mem_nil _) (lpyP_ok l1)) l_able_ok (Facts.ok_nil ρ1) (by rw [pnt_run]; exact hr)
  have g2 := fun r (hr : rpt.sel ρ2 = some r) => askF_ok (c := ⟨cfgL [] lpyQ, l_able, []⟩) (cfgL_ok (List.forall_mem_nil _) (lpyQ_ok l2)) l_able_ok (Facts.ok_nil ρ2) (by rw [rpt_run]; exact hr)
  have g1 := g1 _ (by unfold pnt; rw [T.sel, if_pos n1]; rfl)
  have g2 := g2 _ (by unfold rpt; rw [T.sel, if_pos n2]; rfl)
  rw [← X.belL_den ag1 [keyX] (by kernel_rfl)] at g1
  rw [← X.belL_den ag2 [keyX] (by kernel_rfl)] at g2
  have ax := axI_b (ρ1.i 101)
  have ay := ayI_b (ρ1.i 101)
  generalize hh : ρ1.i 101 = hv at ax ay sm
  refine ⟨if axI hv = 0 ∧ ayI hv = 0 then 1 else axI hv, ayI hv, ?_, ay, ?_, ?_, ?_⟩
  · split <;> omega
  · split <;> omega
  · refine ⟨g1.1, fun n hp => ?_⟩
    have g := g1.2 n hp
    simp only [X.den, Sc.den, IE.den, BE.den, IOp.den, hh] at g
    have a1 : bits .and .u64 (mxI hv) 1048575 + -524288 = axI hv := rfl
    have a2 : bits .and .u64 (IOp.den .shr .u64 (mxI hv) 20) 1048575 + -524288 = ayI hv := rfl
    simp only [mxI, IOp.den] at a1 a2
    rw [a1, a2] at g
    have b : (axI hv == 0 && ayI hv == 0) = decide (axI hv = 0 ∧ ayI hv = 0) := by rw [Bool.eq_iff_iff]; simp
    rw [b] at g
    by_cases hc : axI hv = 0 ∧ ayI hv = 0
    · simp only [hc, and_self, decide_true, if_true] at g ⊢
      exact g
    · simp only [hc, decide_false, Bool.false_eq_true, if_false] at g ⊢
      exact g
  · refine ⟨g2.1, fun n hp => ?_⟩
    have g := g2.2 n hp
    have a1 := sub_w _ (mask_le .u64 (.inr rfl) (mxI hv) 1048575 (by decide) (by decide))
    have a2 := sub_w _ (mask_le .u64 (.inr rfl) (IOp.den .shr .u64 (mxI hv) 20) 1048575 (by decide) (by decide))
    simp only [X.den, X.denL, Sc.den, IE.den, BE.den, IOp.den, ← sm] at g
    have a3 : bits .and .u64 (mxI hv) 1048575 + -524288 = axI hv := rfl
    have a4 : bits .and .u64 (IOp.den .shr .u64 (mxI hv) 20) 1048575 + -524288 = ayI hv := rfl
    rw [a3] at a1
    rw [a4] at a2
    simp only [mxI, IOp.den] at a1 a2
    rw [a1, a2] at g
    have b : (axI hv == 0 && ayI hv == 0) = decide (axI hv = 0 ∧ ayI hv = 0) := by rw [Bool.eq_iff_iff]; simp
    rw [b] at g
    by_cases hc : axI hv = 0 ∧ ayI hv = 0
    · simp only [hc, and_self, decide_true, if_true] at g ⊢
      exact g
    · simp only [hc, decide_false, Bool.false_eq_true, if_false] at g ⊢
      exact g
end Go.Proofs.Ytdlifdoglhhnfaa
