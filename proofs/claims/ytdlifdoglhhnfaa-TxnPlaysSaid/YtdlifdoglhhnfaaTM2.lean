/- Parts of the proof, one behind the other. -/
import Derived.Test.YtdlifdoglhhnfaaTM1
import Derived.Test.YtdlifdoglhhnfaaXwM2
import Derived.Test.YtdlifdoglhhnfaaXwM3
namespace Go.Proofs.Ytdlifdoglhhnfaa
open Go Go.Proofs.Aw Go.Proofs.Xw
set_option maxRecDepth 100000
def vi (k n:Nat):List X:=(List.range n).map fun j => .sc (.i .i64 (.var (k+j)))
def vec (k:Nat):X := .agg (vi k 9)
def iv (k:Nat):X := .sc (.i .i64 (.var k))
def ent (k:Nat):X := .agg (vi k 6++[.sc (.s (.var k)),.sc (.s (.var (k+1))),.sc (.b (.var k))]++vi (k+6) 11)
def l_XS1:List Sm:=[]
theorem l_XS1_ok:∀s∈l_XS1,SmOk Try.prog s:=List.forall_mem_nil _
abbrev zTM2_0:BE := .and (.and (.and (.not (.lt (.var 0) (.lit 0))) (.lt (.var 0) (.lit 3))) (.not (.lt (.var 1) (.lit 0)))) (.lt (.var 1) (.lit 3))
abbrev zTM2_1:IE := .lit 1099511627776
abbrev zTM2_2:X := .sc (.b (.not (.or (.or (.or (.lt (.var 0) (.lit 0)) (.lt zTM2_1 (.var 0))) (.or (.or (.lt (.var 1) (.lit 0)) (.lt zTM2_1 (.var 1))) (.or (.lt (.var 2) (.lit 0)) (.lt zTM2_1 (.var 2))))) (.or (.or (.or (.lt (.var 3) (.lit 0)) (.lt zTM2_1 (.var 3))) (.or (.or (.lt (.var 4) (.lit 0)) (.lt zTM2_1 (.var 4))) (.or (.lt (.var 5) (.lit 0)) (.lt zTM2_1 (.var 5))))) (.or (.or (.lt (.var 6) (.lit 0)) (.lt zTM2_1 (.var 6))) (.or (.or (.lt (.var 7) (.lit 0)) (.lt zTM2_1 (.var 7))) (.or (.lt (.var 8) (.lit 0)) (.lt zTM2_1 (.var 8)))))))))
abbrev zTM2_3:IE := .op .max .i64 (.lit 0) (.var 6)
abbrev zTM2_4:IE := .op .max .i64 (.lit 0) (.var 7)
abbrev zTM2_5:IE := .op .max .i64 (.lit 0) (.var 8)
abbrev zTM2_6:X := .agg [(.sc (.i .i64 (.op .max .i64 (.op .max .i64 (.lit 0) (.var 0)) (.var 9)))),(.sc (.i .i64 (.op .max .i64 (.op .max .i64 (.lit 0) (.var 1)) (.var 10)))),(.sc (.i .i64 (.op .max .i64 (.op .max .i64 (.lit 0) (.var 2)) (.var 11)))),(.sc (.i .i64 (.op .max .i64 (.op .max .i64 (.lit 0) (.var 3)) (.var 12)))),(.sc (.i .i64 (.op .max .i64 (.op .max .i64 (.lit 0) (.var 4)) (.var 13)))),(.sc (.i .i64 (.op .max .i64 (.op .max .i64 (.lit 0) (.var 5)) (.var 14)))),(.sc (.i .i64 (.op .max .i64 zTM2_3 (.var 15)))),(.sc (.i .i64 (.op .max .i64 zTM2_4 (.var 16)))),(.sc (.i .i64 (.op .max .i64 zTM2_5 (.var 17))))]
abbrev zTM2_7:X := .sc (.b (.not (.or (.or (.lt (.var 0) (.var 9)) (.or (.lt (.var 1) (.var 10)) (.lt (.var 2) (.var 11)))) (.or (.or (.lt (.var 3) (.var 12)) (.or (.lt (.var 4) (.var 13)) (.lt (.var 5) (.var 14)))) (.or (.lt (.var 6) (.var 15)) (.or (.lt (.var 7) (.var 16)) (.lt (.var 8) (.var 17))))))))
abbrev zTM2_8:BE := .and (.not (.lt (.var 9) (.lit 0))) (.lt (.var 9) (.lit 3))
abbrev zTM2_9:BE := .and (.and zTM2_8 (.not (.lt (.var 10) (.lit 0)))) (.lt (.var 10) (.lit 3))
abbrev zTM2_10:BE := .eq (.var 9) (.lit 0)
abbrev zTM2_11:BE := .eq (.var 10) (.lit 0)
abbrev zTM2_12:BE := .and zTM2_10 zTM2_11
abbrev zTM2_13:BE := .eq (.var 10) (.lit 1)
abbrev zTM2_14:BE := .and zTM2_10 zTM2_13
abbrev zTM2_15:BE := .eq (.var 9) (.lit 1)
abbrev zTM2_16:BE := .and zTM2_15 zTM2_11
abbrev zTM2_17:BE := .and zTM2_15 zTM2_13
abbrev zTM2_18:IE := .op .max .i64 (.ite zTM2_12 (.var 0) (.ite zTM2_14 (.var 1) (.ite zTM2_10 (.var 2) (.ite zTM2_16 (.var 3) (.ite zTM2_17 (.var 4) (.ite zTM2_15 (.var 5) (.ite zTM2_11 (.var 6) (.ite zTM2_13 (.var 7) (.var 8))))))))) (.var 11)
abbrev zTM2_19:X := .agg [(.sc (.i .i64 (.ite zTM2_9 (.ite zTM2_12 zTM2_18 (.var 0)) (.var 0)))),(.sc (.i .i64 (.ite zTM2_9 (.ite zTM2_12 (.var 1) (.ite zTM2_14 zTM2_18 (.var 1))) (.var 1)))),(.sc (.i .i64 (.ite zTM2_9 (.ite zTM2_12 (.var 2) (.ite zTM2_14 (.var 2) (.ite zTM2_10 zTM2_18 (.var 2)))) (.var 2)))),(.sc (.i .i64 (.ite zTM2_9 (.ite zTM2_12 (.var 3) (.ite zTM2_14 (.var 3) (.ite zTM2_10 (.var 3) (.ite zTM2_16 zTM2_18 (.var 3))))) (.var 3)))),(.sc (.i .i64 (.ite zTM2_9 (.ite zTM2_12 (.var 4) (.ite zTM2_14 (.var 4) (.ite zTM2_10 (.var 4) (.ite zTM2_16 (.var 4) (.ite zTM2_17 zTM2_18 (.var 4)))))) (.var 4)))),(.sc (.i .i64 (.ite zTM2_9 (.ite zTM2_12 (.var 5) (.ite zTM2_14 (.var 5) (.ite zTM2_10 (.var 5) (.ite zTM2_16 (.var 5) (.ite zTM2_17 (.var 5) (.ite zTM2_15 zTM2_18 (.var 5))))))) (.var 5)))),(.sc (.i .i64 (.ite zTM2_9 (.ite zTM2_12 (.var 6) (.ite zTM2_14 (.var 6) (.ite zTM2_10 (.var 6) (.ite zTM2_16 (.var 6) (.ite zTM2_17 (.var 6) (.ite zTM2_15 (.var 6) (.ite zTM2_11 zTM2_18 (.var 6)))))))) (.var 6)))),(.sc (.i .i64 (.ite zTM2_9 (.ite zTM2_12 (.var 7) (.ite zTM2_14 (.var 7) (.ite zTM2_10 (.var 7) (.ite zTM2_16 (.var 7) (.ite zTM2_17 (.var 7) (.ite zTM2_15 (.var 7) (.ite zTM2_11 (.var 7) (.ite zTM2_13 zTM2_18 (.var 7))))))))) (.var 7)))),(.sc (.i .i64 (.ite zTM2_9 (.ite zTM2_12 (.var 8) (.ite zTM2_14 (.var 8) (.ite zTM2_10 (.var 8) (.ite zTM2_16 (.var 8) (.ite zTM2_17 (.var 8) (.ite zTM2_15 (.var 8) (.ite zTM2_11 (.var 8) (.ite zTM2_13 (.var 8) zTM2_18)))))))) (.var 8))))]
abbrev zTM2_20:X := .agg [(.sc (.i .i64 (.ite zTM2_8 (.ite zTM2_10 (.var 0) (.ite zTM2_15 (.var 1) (.var 2))) (.lit 0)))),(.sc (.i .i64 (.ite zTM2_8 (.ite zTM2_10 (.var 3) (.ite zTM2_15 (.var 4) (.var 5))) (.lit 0)))),(.sc (.i .i64 (.ite zTM2_8 (.ite zTM2_10 (.var 6) (.ite zTM2_15 (.var 7) (.var 8))) (.lit 0))))]
abbrev zTM2_21:BE := .eq (.var 0) (.lit 0)
abbrev zTM2_22:BE := .eq (.var 1) (.lit 0)
abbrev zTM2_23:BE := .and zTM2_21 zTM2_22
abbrev zTM2_24:BE := .eq (.var 1) (.lit 1)
abbrev zTM2_25:BE := .and zTM2_21 zTM2_24
abbrev zTM2_26:BE := .eq (.var 0) (.lit 1)
abbrev zTM2_27:BE := .and zTM2_26 zTM2_22
abbrev zTM2_28:IE := .op .max .i64 (.lit 0) (.var 9)
abbrev zTM2_29:BE := .and zTM2_26 zTM2_24
abbrev zTM2_30:IE := .op .max .i64 (.lit 0) (.var 10)
abbrev zTM2_31:IE := .op .max .i64 (.lit 0) (.var 11)
abbrev zTM2_32:IE := .op .max .i64 (.lit 0) (.var 12)
abbrev zTM2_33:IE := .op .max .i64 (.lit 0) (.var 13)
abbrev zTM2_34:IE := .op .max .i64 (.lit 0) (.var 14)
abbrev zTM2_35:IE := .op .max .i64 (.ite zTM2_23 zTM2_3 (.ite zTM2_25 zTM2_4 (.ite zTM2_21 zTM2_5 (.ite zTM2_27 zTM2_28 (.ite zTM2_29 zTM2_30 (.ite zTM2_26 zTM2_31 (.ite zTM2_22 zTM2_32 (.ite zTM2_24 zTM2_33 zTM2_34)))))))) (.var 2)
abbrev zTM2_36:X := .sc (.i .i64 (.slen (.var 0)))
abbrev zTM2_37:X := .sc (.s (.var 0))
abbrev zTM2_38:X := .sc (.c (.lit 0) (.lit false) (.lit 0) (.lit false))
abbrev zTM2_39:XTp:=[(9,(.sc (.i .i64 (.var 100)))),(8,zTM2_36),(7,zTM2_37),(3,(.sc (.i .u64 (.var 101)))),(2,zTM2_38),(0,zTM2_37)]
abbrev zTM2_40:IE := .op .add .i64 (.var 100) (.lit 1)
abbrev zTM2_41:IE := .op .mul .u64 (.op .xor .u64 (.var 101) (.op .conv .u64 (.byt (.var 0) (.var 100)) (.lit 0))) (.lit 1099511628211)
abbrev zTM2_42:BE := .lt (.var 100) (.slen (.var 0))
abbrev zTM2_43:X := .sc (.i .i64 (.lit 0))
abbrev zTM2_44:XTp:=[(5,(.sc (.i .i64 (.var 140)))),(4,(.sc (.i .u64 (.var 141)))),(3,zTM2_43),(2,zTM2_43),(0,zTM2_37)]
abbrev zTM2_45:IE := .op .add .i64 (.var 140) (.lit 1)
abbrev zTM2_46:IE := .op .mul .u64 (.op .xor .u64 (.var 141) (.op .conv .u64 (.byt (.var 0) (.var 140)) (.lit 0))) (.lit 1099511628211)
abbrev zTM2_47:BE := .lt (.var 140) (.slen (.var 0))
abbrev zTM2_48:IE := .op .mul .u64 (.op .xor .u64 (.var 141) (.op .shr .u64 (.var 141) (.lit 32))) (.lit 11400714819323198485)
abbrev zTM2_49:IE := .op .xor .u64 zTM2_48 (.op .shr .u64 zTM2_48 (.lit 29))
abbrev zTM2_50:IE := .op .sub .i64 (.op .conv .i64 (.op .and .u64 zTM2_49 (.lit 1048575)) (.lit 0)) (.lit 524288)
abbrev zTM2_51:IE := .op .sub .i64 (.op .conv .i64 (.op .and .u64 (.op .shr .u64 zTM2_49 (.lit 20)) (.lit 1048575)) (.lit 0)) (.lit 524288)
def chain40:Sm:=⟨40,[(iv 0),(iv 1)],(.sc (.b zTM2_0))⟩
theorem chain40_ok:SmOk Try.prog chain40:=smOk (c:=⟨cfg [],l_XS1,[9,20,33,37,58]⟩) (fun _=>cfg_ok (List.forall_mem_nil _)) l_XS1_ok (by kernel_rfl)
def l_chain40:List Sm:=chain40::l_XS1
theorem l_chain40_ok:∀s∈l_chain40,SmOk Try.prog s:=List.forall_mem_cons.2 ⟨chain40_ok,l_XS1_ok⟩
def chain66:Sm:=⟨66,[(.agg (vi 0 3))],(.sc (.b zTM2_0))⟩
theorem chain66_ok:SmOk Try.prog chain66:=smOk (c:=⟨cfg [],l_chain40,[9,20,33,37,58]⟩) (fun _=>cfg_ok (List.forall_mem_nil _)) l_chain40_ok (by kernel_rfl)
def l_chain66:List Sm:=chain66::l_chain40
theorem l_chain66_ok:∀s∈l_chain66,SmOk Try.prog s:=List.forall_mem_cons.2 ⟨chain66_ok,l_chain40_ok⟩
def cc18:Sm:=⟨18,[(.agg (vi 0 3)),(.agg (vi 3 3))],(.sc (.b (.not (.or (.lt (.var 0) (.var 3)) (.or (.lt (.var 1) (.var 4)) (.lt (.var 2) (.var 5)))))))⟩
theorem cc18_ok:SmOk Try.prog cc18:=smOk (c:=⟨cfg [],l_chain66,[9,20,33,37,58]⟩) (fun _=>cfg_ok (List.forall_mem_nil _)) l_chain66_ok (by kernel_rfl)
def l_cc18:List Sm:=cc18::l_chain66
theorem l_cc18_ok:∀s∈l_cc18,SmOk Try.prog s:=List.forall_mem_cons.2 ⟨cc18_ok,l_chain66_ok⟩
def cc46:Sm:=⟨46,[(.agg (vi 0 3)),(.agg (vi 3 3))],(.sc (.b (.and (.and (.not (.lt (.var 0) (.var 3))) (.not (.lt (.var 1) (.var 4)))) (.not (.lt (.var 2) (.var 5))))))⟩
theorem cc46_ok:SmOk Try.prog cc46:=smOk (c:=⟨cfg [],l_cc18,[9,20,33,37,58]⟩) (fun _=>cfg_ok (List.forall_mem_nil _)) l_cc18_ok (by kernel_rfl)
def l_cc46:List Sm:=cc46::l_cc18
theorem l_cc46_ok:∀s∈l_cc46,SmOk Try.prog s:=List.forall_mem_cons.2 ⟨cc46_ok,l_cc18_ok⟩
def right31:Sm:=⟨31,[(vec 0)],zTM2_2⟩
theorem right31_ok:SmOk Try.prog right31:=smOk (c:=⟨cfg [],l_cc46,[9,20,33,37,58]⟩) (fun _=>cfg_ok (List.forall_mem_nil _)) l_cc46_ok (by kernel_rfl)
def l_right31:List Sm:=right31::l_cc46
theorem l_right31_ok:∀s∈l_right31,SmOk Try.prog s:=List.forall_mem_cons.2 ⟨right31_ok,l_cc46_ok⟩
def right41:Sm:=⟨41,[(vec 0)],zTM2_2⟩
theorem right41_ok:SmOk Try.prog right41:=smOk (c:=⟨cfg [],l_right31,[9,20,33,37,58]⟩) (fun _=>cfg_ok (List.forall_mem_nil _)) l_right31_ok (by kernel_rfl)
def l_right41:List Sm:=right41::l_right31
theorem l_right41_ok:∀s∈l_right41,SmOk Try.prog s:=List.forall_mem_cons.2 ⟨right41_ok,l_right31_ok⟩
def two44:Sm:=⟨44,[(vec 0),(vec 9)],zTM2_6⟩
theorem two44_ok:SmOk Try.prog two44:=smOk (c:=⟨cfg [],l_right41,[9,20,33,37,58]⟩) (fun _=>cfg_ok (List.forall_mem_nil _)) l_right41_ok (by kernel_rfl)
def l_two44:List Sm:=two44::l_right41
theorem l_two44_ok:∀s∈l_two44,SmOk Try.prog s:=List.forall_mem_cons.2 ⟨two44_ok,l_right41_ok⟩
def merge2:Sm:=⟨35,[(.ro 9 [(X.cells (vec 0)),(X.cells (vec 9))] true)],zTM2_6⟩
theorem merge2_ok:SmOk Try.prog merge2:=smOk (c:=⟨cfg [],l_two44,[9,20,33,37,58]⟩) (fun _=>cfg_ok (List.forall_mem_nil _)) l_two44_ok (by kernel_rfl)
def l_merge2:List Sm:=merge2::l_two44
theorem l_merge2_ok:∀s∈l_merge2,SmOk Try.prog s:=List.forall_mem_cons.2 ⟨merge2_ok,l_two44_ok⟩
def covers15:Sm:=⟨15,[(vec 0),(vec 9)],zTM2_7⟩
theorem covers15_ok:SmOk Try.prog covers15:=smOk (c:=⟨cfg [],l_merge2,[9,20,33,37,58]⟩) (fun _=>cfg_ok (List.forall_mem_nil _)) l_merge2_ok (by kernel_rfl)
def l_covers15:List Sm:=covers15::l_merge2
theorem l_covers15_ok:∀s∈l_covers15,SmOk Try.prog s:=List.forall_mem_cons.2 ⟨covers15_ok,l_merge2_ok⟩
def covers42:Sm:=⟨42,[(vec 0),(vec 9)],zTM2_7⟩
theorem covers42_ok:SmOk Try.prog covers42:=smOk (c:=⟨cfg [],l_covers15,[9,20,33,37,58]⟩) (fun _=>cfg_ok (List.forall_mem_nil _)) l_covers15_ok (by kernel_rfl)
def l_covers42:List Sm:=covers42::l_covers15
theorem l_covers42_ok:∀s∈l_covers42,SmOk Try.prog s:=List.forall_mem_cons.2 ⟨covers42_ok,l_covers15_ok⟩
def with36:Sm:=⟨36,[(vec 0),(.ro 3 [(vi 9 3)] true)],zTM2_19⟩
theorem with36_ok:SmOk Try.prog with36:=smOk (c:=⟨cfg [],l_covers42,[9,20,33,37,58]⟩) (fun _=>cfg_ok (List.forall_mem_nil _)) l_covers42_ok (by kernel_rfl)
def l_with36:List Sm:=with36::l_covers42
theorem l_with36_ok:∀s∈l_with36,SmOk Try.prog s:=List.forall_mem_cons.2 ⟨with36_ok,l_covers42_ok⟩
def with57:Sm:=⟨57,[(vec 0),(.agg (vi 9 3))],zTM2_19⟩
theorem with57_ok:SmOk Try.prog with57:=smOk (c:=⟨cfg [],l_with36,[9,20,33,37,58]⟩) (fun _=>cfg_ok (List.forall_mem_nil _)) l_with36_ok (by kernel_rfl)
def l_with57:List Sm:=with57::l_with36
theorem l_with57_ok:∀s∈l_with57,SmOk Try.prog s:=List.forall_mem_cons.2 ⟨with57_ok,l_with36_ok⟩
def part19:Sm:=⟨19,[(vec 0),(iv 9)],zTM2_20⟩
theorem part19_ok:SmOk Try.prog part19:=smOk (c:=⟨cfg [],l_with57,[9,20,33,37,58]⟩) (fun _=>cfg_ok (List.forall_mem_nil _)) l_with57_ok (by kernel_rfl)
def l_part19:List Sm:=part19::l_with57
theorem l_part19_ok:∀s∈l_part19,SmOk Try.prog s:=List.forall_mem_cons.2 ⟨part19_ok,l_with57_ok⟩
def part47:Sm:=⟨47,[(vec 0),(iv 9)],zTM2_20⟩
theorem part47_ok:SmOk Try.prog part47:=smOk (c:=⟨cfg [],l_part19,[9,20,33,37,58]⟩) (fun _=>cfg_ok (List.forall_mem_nil _)) l_part19_ok (by kernel_rfl)
def l_part47:List Sm:=part47::l_part19
theorem l_part47_ok:∀s∈l_part47,SmOk Try.prog s:=List.forall_mem_cons.2 ⟨part47_ok,l_part19_ok⟩
def past16:Sm:=⟨16,[(.ro 20 [(X.cells (ent 0))] true)],(.agg [(.sc (.i .i64 (.ite zTM2_0 (.ite zTM2_23 zTM2_35 zTM2_3) zTM2_3))),(.sc (.i .i64 (.ite zTM2_0 (.ite zTM2_23 zTM2_4 (.ite zTM2_25 zTM2_35 zTM2_4)) zTM2_4))),(.sc (.i .i64 (.ite zTM2_0 (.ite zTM2_23 zTM2_5 (.ite zTM2_25 zTM2_5 (.ite zTM2_21 zTM2_35 zTM2_5))) zTM2_5))),(.sc (.i .i64 (.ite zTM2_0 (.ite zTM2_23 zTM2_28 (.ite zTM2_25 zTM2_28 (.ite zTM2_21 zTM2_28 (.ite zTM2_27 zTM2_35 zTM2_28)))) zTM2_28))),(.sc (.i .i64 (.ite zTM2_0 (.ite zTM2_23 zTM2_30 (.ite zTM2_25 zTM2_30 (.ite zTM2_21 zTM2_30 (.ite zTM2_27 zTM2_30 (.ite zTM2_29 zTM2_35 zTM2_30))))) zTM2_30))),(.sc (.i .i64 (.ite zTM2_0 (.ite zTM2_23 zTM2_31 (.ite zTM2_25 zTM2_31 (.ite zTM2_21 zTM2_31 (.ite zTM2_27 zTM2_31 (.ite zTM2_29 zTM2_31 (.ite zTM2_26 zTM2_35 zTM2_31)))))) zTM2_31))),(.sc (.i .i64 (.ite zTM2_0 (.ite zTM2_23 zTM2_32 (.ite zTM2_25 zTM2_32 (.ite zTM2_21 zTM2_32 (.ite zTM2_27 zTM2_32 (.ite zTM2_29 zTM2_32 (.ite zTM2_26 zTM2_32 (.ite zTM2_22 zTM2_35 zTM2_32))))))) zTM2_32))),(.sc (.i .i64 (.ite zTM2_0 (.ite zTM2_23 zTM2_33 (.ite zTM2_25 zTM2_33 (.ite zTM2_21 zTM2_33 (.ite zTM2_27 zTM2_33 (.ite zTM2_29 zTM2_33 (.ite zTM2_26 zTM2_33 (.ite zTM2_22 zTM2_33 (.ite zTM2_24 zTM2_35 zTM2_33)))))))) zTM2_33))),(.sc (.i .i64 (.ite zTM2_0 (.ite zTM2_23 zTM2_34 (.ite zTM2_25 zTM2_34 (.ite zTM2_21 zTM2_34 (.ite zTM2_27 zTM2_34 (.ite zTM2_29 zTM2_34 (.ite zTM2_26 zTM2_34 (.ite zTM2_22 zTM2_34 (.ite zTM2_24 zTM2_34 zTM2_35)))))))) zTM2_34)))])⟩
theorem past16_ok:SmOk Try.prog past16:=smOk (c:=⟨cfg [],l_part47,[9,20,33,37,58]⟩) (fun _=>cfg_ok (List.forall_mem_nil _)) l_part47_ok (by kernel_rfl)
def l_past16:List Sm:=past16::l_part47
theorem l_past16_ok:∀s∈l_past16,SmOk Try.prog s:=List.forall_mem_cons.2 ⟨past16_ok,l_part47_ok⟩
def able:Sm:=⟨7,[],(.sc (.b (.lit true)))⟩
theorem able_ok:SmOk Try.prog able:=smOk (c:=⟨cfg [],l_past16,[9,20,33,37,58]⟩) (fun _=>cfg_ok (List.forall_mem_nil _)) l_past16_ok (by kernel_rfl)
def l_able:List Sm:=able::l_past16
theorem l_able_ok:∀s∈l_able,SmOk Try.prog s:=List.forall_mem_cons.2 ⟨able_ok,l_past16_ok⟩
end Go.Proofs.Ytdlifdoglhhnfaa
namespace Go.Proofs.Ytdlifdoglhhnfaa
open Go Go.Proofs.Aw Go.Proofs.Xw
def keyX:X := .sc (.s (.var 0))
noncomputable def wP_c:Code:=(loopsOf (Try.f39.body.getD .skip))[0]?.getD .skip
def wP_S:XS:=⟨zTM2_39,[],5⟩
def wP_Φ:Facts:=[(.lt (.var 100) (.lit 0),false)]
def wP_b:Bind:=⟨[(100,zTM2_40),(101,zTM2_41)],[],[],[]⟩
def wP_i:Bind:=⟨[(100,(.lit 0)),(101,(.lit 14695981039346656037))],[],[],[]⟩
def wP_t:T (XE×XS):=(.br zTM2_42 (.ret (.normal,⟨[(9,(.sc (.i .i64 zTM2_40))),(8,zTM2_36),(7,zTM2_37),(3,(.sc (.i .u64 zTM2_41))),(2,zTM2_38),(0,zTM2_37)],[],18⟩)) (.ret ((.exit 0),⟨zTM2_39,[],6⟩)))
noncomputable def wP:LoopX:=⟨((codeKey wP_c).getD 0),0,100,wP_S,wP_i,[],wP_t.outs⟩
theorem wP_run:(codeX (cfgL ([]) (fun _=>[])).ti (callS ⟨(cfgL ([]) (fun _=>[])),l_able,[]⟩ 12) (((cfgL ([]) (fun _=>[])).ft 39).elim [] (·.ms)) wP.k0 ((fun _=>[]) 39) 1000 wP_c wP_Φ wP.S).map (sqz (wP_S.t.map (·.1)))=wP_t:=by kernel_rfl
theorem wP_back:wP_t.nrm (okS wP.k0 wP.n wP_b [] wP.S)=true:=by kernel_rfl
theorem wP_bel:wP_t.outs.belX 102=true:=by kernel_rfl
theorem wP_ib:wP_i.bel 100=true:=by kernel_rfl
theorem wP_ig:wP_i.ge 100=true:=by kernel_rfl
theorem wP_bg:wP_b.ge 100=true:=by kernel_rfl
theorem wP_same:wP_i.same wP_b=true:=by kernel_rfl
theorem wP_fits:fitsC Try.f39.ntmps wP_c=true:=by kernel_rfl
noncomputable def wQ_c:Code:=(loopsOf (Try.f69.body.getD .skip))[0]?.getD .skip
def wQ_S:XS:=⟨zTM2_44,[],4⟩
def wQ_Φ:Facts:=[(.lt (.var 140) (.lit 0),false)]
def wQ_b:Bind:=⟨[(140,zTM2_45),(141,zTM2_46)],[],[],[]⟩
def wQ_i:Bind:=⟨[(140,(.lit 0)),(141,(.lit 14695981039346656037))],[],[],[]⟩
def wQ_t:T (XE×XS):=(.br zTM2_47 (.ret (.normal,⟨[(5,(.sc (.i .i64 zTM2_45))),(4,(.sc (.i .u64 zTM2_46))),(3,zTM2_43),(2,zTM2_43),(0,zTM2_37)],[],19⟩)) (.ret ((.exit 0),⟨zTM2_44,[],8⟩)))
noncomputable def wQ:LoopX:=⟨((codeKey wQ_c).getD 0),0,140,wQ_S,wQ_i,[],wQ_t.outs⟩
theorem wQ_run:(codeX (cfgL ([]) (fun _=>[])).ti (callS ⟨(cfgL ([]) (fun _=>[])),l_able,[]⟩ 12) (((cfgL ([]) (fun _=>[])).ft 69).elim [] (·.ms)) wQ.k0 ((fun _=>[]) 69) 1000 wQ_c wQ_Φ wQ.S).map (sqz (wQ_S.t.map (·.1)))=wQ_t:=by kernel_rfl
theorem wQ_back:wQ_t.nrm (okS wQ.k0 wQ.n wQ_b [] wQ.S)=true:=by kernel_rfl
theorem wQ_bel:wQ_t.outs.belX 142=true:=by kernel_rfl
theorem wQ_ib:wQ_i.bel 140=true:=by kernel_rfl
theorem wQ_ig:wQ_i.ge 140=true:=by kernel_rfl
theorem wQ_bg:wQ_b.ge 140=true:=by kernel_rfl
theorem wQ_same:wQ_i.same wQ_b=true:=by kernel_rfl
theorem wQ_fits:fitsC Try.f69.ntmps wQ_c=true:=by kernel_rfl
end Go.Proofs.Ytdlifdoglhhnfaa
namespace Go.Proofs.Ytdlifdoglhhnfaa
open Go Go.Proofs.Aw Go.Proofs.Xw
noncomputable def lpyP (f:Nat):List LoopX:=if Nat.beq f 39=true then [wP]else []
theorem lpyP_39o:othersB [wP] [0] 0 (loopsOf (Try.f39.body.getD .skip))=true:=by kernel_rfl
theorem lpyP_39 {ρ:Rho} (h_wP:LoopOk Try.prog ρ Try.f39.ntmps wP_c wP):LpsOk Try.prog ρ Try.f39.ntmps [wP] (Try.f39.body.getD .skip) :=
 lps_idx [0] lpyP_39o (List.forall_mem_cons.2 ⟨look_list (c:=wP_c) (Ls:=[wP]) (by kernel_rfl) (List.forall_mem_cons.2 ⟨h_wP,List.forall_mem_nil _⟩),List.forall_mem_nil _⟩)
theorem lpyP_ok {ρ:Rho} (h_wP:LoopOk Try.prog ρ Try.f39.ntmps wP_c wP):∀f i,btLook f ftsT=some i→LpsOk Try.prog ρ i.ntmps (lpyP f) i.body:=by
 intro f i h
 have hi:=fts_ok (f,i) (bt_of_mem _ _ (btLook_mem h))
 unfold lpyP
 split
 ·rename_i hf
  have hf:=Nat.eq_of_beq_eq_true hf
  subst hf
  exact lps_row hi Try.func39 (lpyP_39 h_wP)
 ·exact LpsOk.nil _ _ _ _
noncomputable def lpyQ (f:Nat):List LoopX:=if Nat.beq f 69=true then [wQ]else []
theorem lpyQ_69o:othersB [wQ] [0] 0 (loopsOf (Try.f69.body.getD .skip))=true:=by kernel_rfl
theorem lpyQ_69 {ρ:Rho} (h_wQ:LoopOk Try.prog ρ Try.f69.ntmps wQ_c wQ):LpsOk Try.prog ρ Try.f69.ntmps [wQ] (Try.f69.body.getD .skip) :=
 lps_idx [0] lpyQ_69o (List.forall_mem_cons.2 ⟨look_list (c:=wQ_c) (Ls:=[wQ]) (by kernel_rfl) (List.forall_mem_cons.2 ⟨h_wQ,List.forall_mem_nil _⟩),List.forall_mem_nil _⟩)
theorem lpyQ_ok {ρ:Rho} (h_wQ:LoopOk Try.prog ρ Try.f69.ntmps wQ_c wQ):∀f i,btLook f ftsT=some i→LpsOk Try.prog ρ i.ntmps (lpyQ f) i.body:=by
 intro f i h
 have hi:=fts_ok (f,i) (bt_of_mem _ _ (btLook_mem h))
 unfold lpyQ
 split
 ·rename_i hf
  have hf:=Nat.eq_of_beq_eq_true hf
  subst hf
  exact lps_row hi Try.func69 (lpyQ_69 h_wQ)
 ·exact LpsOk.nil _ _ _ _
def pnt:T X:=(.need (.not zTM2_42) (.ret (.sc (.c (.ite (.and (.eq (.op .padd .i64 (.op .and .u64 (.op .xor .u64 (.op .mul .u64 (.op .xor .u64 (.var 101) (.op .shr .u64 (.var 101) (.lit 32))) (.lit 11400714819323198485)) (.op .shr .u64 (.op .mul .u64 (.op .xor .u64 (.var 101) (.op .shr .u64 (.var 101) (.lit 32))) (.lit 11400714819323198485)) (.lit 29))) (.lit 1048575)) (.lit (-524288))) (.lit 0)) (.eq (.op .padd .i64 (.op .and .u64 (.op .shr .u64 (.op .xor .u64 (.op .mul .u64 (.op .xor .u64 (.var 101) (.op .shr .u64 (.var 101) (.lit 32))) (.lit 11400714819323198485)) (.op .shr .u64 (.op .mul .u64 (.op .xor .u64 (.var 101) (.op .shr .u64 (.var 101) (.lit 32))) (.lit 11400714819323198485)) (.lit 29))) (.lit 20)) (.lit 1048575)) (.lit (-524288))) (.lit 0))) (.lit 1) (.op .padd .i64 (.op .and .u64 (.op .xor .u64 (.op .mul .u64 (.op .xor .u64 (.var 101) (.op .shr .u64 (.var 101) (.lit 32))) (.lit 11400714819323198485)) (.op .shr .u64 (.op .mul .u64 (.op .xor .u64 (.var 101) (.op .shr .u64 (.var 101) (.lit 32))) (.lit 11400714819323198485)) (.lit 29))) (.lit 1048575)) (.lit (-524288)))) (.lit false) (.ite (.and (.eq (.op .padd .i64 (.op .and .u64 (.op .xor .u64 (.op .mul .u64 (.op .xor .u64 (.var 101) (.op .shr .u64 (.var 101) (.lit 32))) (.lit 11400714819323198485)) (.op .shr .u64 (.op .mul .u64 (.op .xor .u64 (.var 101) (.op .shr .u64 (.var 101) (.lit 32))) (.lit 11400714819323198485)) (.lit 29))) (.lit 1048575)) (.lit (-524288))) (.lit 0)) (.eq (.op .padd .i64 (.op .and .u64 (.op .shr .u64 (.op .xor .u64 (.op .mul .u64 (.op .xor .u64 (.var 101) (.op .shr .u64 (.var 101) (.lit 32))) (.lit 11400714819323198485)) (.op .shr .u64 (.op .mul .u64 (.op .xor .u64 (.var 101) (.op .shr .u64 (.var 101) (.lit 32))) (.lit 11400714819323198485)) (.lit 29))) (.lit 20)) (.lit 1048575)) (.lit (-524288))) (.lit 0))) (.lit 0) (.op .padd .i64 (.op .and .u64 (.op .shr .u64 (.op .xor .u64 (.op .mul .u64 (.op .xor .u64 (.var 101) (.op .shr .u64 (.var 101) (.lit 32))) (.lit 11400714819323198485)) (.op .shr .u64 (.op .mul .u64 (.op .xor .u64 (.var 101) (.op .shr .u64 (.var 101) (.lit 32))) (.lit 11400714819323198485)) (.lit 29))) (.lit 20)) (.lit 1048575)) (.lit (-524288)))) (.lit false)))))
theorem pnt_run:askF ⟨cfgL [] lpyP,l_able,[]⟩ 39 ([keyX]) []=pnt:=by kernel_rfl
def rpt:T X:=(.need (.not zTM2_47) (.ret (.tup [(.sc (.i .i64 (.ite (.and (.eq zTM2_50 (.lit 0)) (.eq zTM2_51 (.lit 0))) (.lit 1) zTM2_50))),(.sc (.i .i64 zTM2_51))])))
theorem rpt_run:askF ⟨cfgL [] lpyQ,l_able,[]⟩ 69 ([keyX]) []=rpt:=by kernel_rfl
end Go.Proofs.Ytdlifdoglhhnfaa
