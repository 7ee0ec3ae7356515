/- Letter by letter, what loops put; the parts of the next stamps. -/
import Derived.Test.YtonefailiekemaaFL6
import Derived.Test.YtonefailiekemaaXP
import Derived.Test.YtonefailiekemaaXA1
namespace Go.Proofs.Ytonefailiekemaa
open Go Go.Proofs.Aw Go.Proofs.Xw
abbrev zFL7_0 : IE := .cl 0 1 (.var 100)
abbrev zFL7_1 : IE := .cl 0 0 (.var 100)
abbrev zFL7_2 : BE := .and (.not (.lt zFL7_1 (.lit 0))) (.lt zFL7_1 (.lit 3))
abbrev zFL7_3 : BE := .not (.lt (.var 1) (.lit 0))
abbrev zFL7_4 : BE := .lt (.var 1) (.lit 3)
abbrev zFL7_5 : BE := .and (.eq zFL7_0 (.var 1)) (.and (.and zFL7_2 zFL7_3) zFL7_4)
abbrev zFL7_6 : BE := .eq zFL7_1 (.lit 0)
abbrev zFL7_7 : BE := .eq zFL7_1 (.lit 1)
abbrev zFL7_8 : IE := .op .max .i64 (.ite zFL7_6 (.var 101) (.ite zFL7_7 (.var 102) (.var 103))) (.cl 0 2 (.var 100))
abbrev zFL7_9 : IE := .ite zFL7_6 (.var 102) (.ite zFL7_7 zFL7_8 (.var 102))
abbrev zFL7_10 : IE := .ite zFL7_6 (.var 103) (.ite zFL7_7 (.var 103) zFL7_8)
abbrev zFL7_11 : BE := .and (.and zFL7_2 (.not (.lt zFL7_0 (.lit 0)))) (.lt zFL7_0 (.lit 3))
abbrev zFL7_12 : BE := .and (.eq zFL7_0 (.var 1)) zFL7_11
abbrev zFL7_13 : IE := .cl 0 0 (.var 120)
abbrev zFL7_14 : IE := .cl 0 1 (.var 120)
abbrev zFL7_15 : BE := .and (.and (.and (.not (.lt zFL7_13 (.lit 0))) (.lt zFL7_13 (.lit 3))) (.not (.lt zFL7_14 (.lit 0)))) (.lt zFL7_14 (.lit 3))
abbrev zFL7_16 : BE := .eq zFL7_13 (.lit 0)
abbrev zFL7_17 : BE := .eq zFL7_14 (.lit 0)
abbrev zFL7_18 : BE := .and zFL7_16 zFL7_17
abbrev zFL7_19 : BE := .eq zFL7_14 (.lit 1)
abbrev zFL7_20 : BE := .and zFL7_16 zFL7_19
abbrev zFL7_21 : BE := .eq zFL7_13 (.lit 1)
abbrev zFL7_22 : BE := .and zFL7_21 zFL7_17
abbrev zFL7_23 : BE := .and zFL7_21 zFL7_19
abbrev zFL7_24 : IE := .op .max .i64 (.ite zFL7_18 (.var 121) (.ite zFL7_20 (.var 122) (.ite zFL7_16 (.var 123) (.ite zFL7_22 (.var 124) (.ite zFL7_23 (.var 125) (.ite zFL7_21 (.var 126) (.ite zFL7_17 (.var 127) (.ite zFL7_19 (.var 128) (.var 129))))))))) (.cl 0 2 (.var 120))
abbrev zFL7_25 : BE := .eq zFL7_0 (.lit 0)
abbrev zFL7_26 : BE := .and zFL7_6 zFL7_25
abbrev zFL7_27 : IE := .op .max .i64 (.op .max .i64 (.lit 0) (.var 101)) (.cl 0 9 (.var 100))
abbrev zFL7_28 : BE := .eq zFL7_0 (.lit 1)
abbrev zFL7_29 : BE := .and zFL7_6 zFL7_28
abbrev zFL7_30 : IE := .op .max .i64 (.op .max .i64 (.lit 0) (.var 102)) (.cl 0 10 (.var 100))
abbrev zFL7_31 : IE := .op .max .i64 (.op .max .i64 (.lit 0) (.var 103)) (.cl 0 11 (.var 100))
abbrev zFL7_32 : BE := .and zFL7_7 zFL7_25
abbrev zFL7_33 : IE := .op .max .i64 (.op .max .i64 (.lit 0) (.var 104)) (.cl 0 12 (.var 100))
abbrev zFL7_34 : BE := .and zFL7_7 zFL7_28
abbrev zFL7_35 : IE := .op .max .i64 (.op .max .i64 (.lit 0) (.var 105)) (.cl 0 13 (.var 100))
abbrev zFL7_36 : IE := .op .max .i64 (.op .max .i64 (.lit 0) (.var 106)) (.cl 0 14 (.var 100))
abbrev zFL7_37 : IE := .op .max .i64 (.op .max .i64 (.lit 0) (.var 107)) (.cl 0 15 (.var 100))
abbrev zFL7_38 : IE := .op .max .i64 (.op .max .i64 (.lit 0) (.var 108)) (.cl 0 16 (.var 100))
abbrev zFL7_39 : IE := .op .max .i64 (.op .max .i64 (.lit 0) (.var 109)) (.cl 0 17 (.var 100))
abbrev zFL7_40 : IE := .op .max .i64 (.ite zFL7_26 zFL7_27 (.ite zFL7_29 zFL7_30 (.ite zFL7_6 zFL7_31 (.ite zFL7_32 zFL7_33 (.ite zFL7_34 zFL7_35 (.ite zFL7_7 zFL7_36 (.ite zFL7_25 zFL7_37 (.ite zFL7_28 zFL7_38 zFL7_39)))))))) (.cl 0 2 (.var 100))
abbrev zFL7_41 : IE := .lit 1099511627776
abbrev zFL7_42 : IE := .op .add .i64 (.op .min .i64 (.var 101) zFL7_41) (.lit 1)
abbrev zFL7_43 : BE := .not (.lt (.var 0) (.lit 0))
abbrev zFL7_44 : BE := .lt (.var 0) (.lit 3)
abbrev zFL7_45 : IE := .op .add .i64 (.var 101) (.lit 1)
abbrev zFL7_46 : BE := .and (.and (.and (.and (.and (.not (.lt zFL7_45 (.lit 1))) (.not (.lt zFL7_41 zFL7_45))) zFL7_43) zFL7_44) zFL7_3) zFL7_4
abbrev zFL7_47 : BE := .or (.or (.not (.and (.and (.and zFL7_43 zFL7_44) zFL7_3) zFL7_4)) (.lt (.var 2) (.lit 1))) (.lt zFL7_41 (.var 2))
abbrev zFL7_48 : BE := .not (.and (.and (.and (.and (.and (.not (.lt (.var 3) (.lit 1))) (.not (.lt zFL7_41 (.var 3)))) (.not (.lt (.var 4) (.lit 0)))) (.lt (.var 4) (.lit 3))) (.not (.lt (.var 5) (.lit 0)))) (.lt (.var 5) (.lit 3)))
abbrev zFL7_49 : BE := .or (.or (.or (.lt (.slen (.var 0)) (.lit 1)) (.lt (.lit 16) (.slen (.var 0)))) (.lt (.lit 32) (.slen (.var 1)))) (.and (.var 0) (.not (.seq (.var 1) (.lit ⟨#[]⟩))))
abbrev zFL7_50 : BE := .or (.or (.or (.lt (.var 6) (.lit 0)) (.lt zFL7_41 (.var 6))) (.or (.or (.lt (.var 7) (.lit 0)) (.lt zFL7_41 (.var 7))) (.or (.lt (.var 8) (.lit 0)) (.lt zFL7_41 (.var 8))))) (.or (.or (.or (.lt (.var 9) (.lit 0)) (.lt zFL7_41 (.var 9))) (.or (.or (.lt (.var 10) (.lit 0)) (.lt zFL7_41 (.var 10))) (.or (.lt (.var 11) (.lit 0)) (.lt zFL7_41 (.var 11))))) (.or (.or (.lt (.var 12) (.lit 0)) (.lt zFL7_41 (.var 12))) (.or (.or (.lt (.var 13) (.lit 0)) (.lt zFL7_41 (.var 13))) (.or (.lt (.var 14) (.lit 0)) (.lt zFL7_41 (.var 14))))))
abbrev zFL7_51 : BE := .eq (.var 0) (.lit 0)
abbrev zFL7_52 : BE := .eq (.var 1) (.lit 0)
abbrev zFL7_53 : BE := .eq (.var 1) (.lit 1)
abbrev zFL7_54 : BE := .eq (.var 0) (.lit 1)
abbrev zFL7_55 : BE := .eq (.ite (.and zFL7_51 zFL7_52) (.var 6) (.ite (.and zFL7_51 zFL7_53) (.var 7) (.ite zFL7_51 (.var 8) (.ite (.and zFL7_54 zFL7_52) (.var 9) (.ite (.and zFL7_54 zFL7_53) (.var 10) (.ite zFL7_54 (.var 11) (.ite zFL7_52 (.var 12) (.ite zFL7_53 (.var 13) (.var 14))))))))) (.op .sub .i64 (.var 2) (.lit 1))
set_option maxRecDepth 100000
theorem kD_b101 : lassoc 101 kD_b.i = some (.ite zFL7_5 (.ite zFL7_6 zFL7_8 (.var 101)) (.var 101)) := by kernel_rfl
theorem kD_b102 : lassoc 102 kD_b.i = some (.ite zFL7_5 zFL7_9 (.var 102)) := by kernel_rfl
theorem kD_b103 : lassoc 103 kD_b.i = some (.ite zFL7_5 zFL7_10 (.var 103)) := by kernel_rfl
theorem kE_b101 : lassoc 101 kE_b.i = some (.ite zFL7_12 (.ite zFL7_6 zFL7_8 (.var 101)) (.var 101)) := by kernel_rfl
theorem kE_b102 : lassoc 102 kE_b.i = some (.ite zFL7_12 zFL7_9 (.var 102)) := by kernel_rfl
theorem kE_b103 : lassoc 103 kE_b.i = some (.ite zFL7_12 zFL7_10 (.var 103)) := by kernel_rfl
theorem pA_b101 : lassoc 101 pA_b.i = some (.op .max .i64 (.op .max .i64 (.lit 0) (.var 101)) (.cl 0 9 (.var 100))) := by kernel_rfl
theorem pA_b102 : lassoc 102 pA_b.i = some (.op .max .i64 (.op .max .i64 (.lit 0) (.var 102)) (.cl 0 10 (.var 100))) := by kernel_rfl
theorem pA_b103 : lassoc 103 pA_b.i = some (.op .max .i64 (.op .max .i64 (.lit 0) (.var 103)) (.cl 0 11 (.var 100))) := by kernel_rfl
theorem pA_b104 : lassoc 104 pA_b.i = some (.op .max .i64 (.op .max .i64 (.lit 0) (.var 104)) (.cl 0 12 (.var 100))) := by kernel_rfl
theorem pA_b105 : lassoc 105 pA_b.i = some (.op .max .i64 (.op .max .i64 (.lit 0) (.var 105)) (.cl 0 13 (.var 100))) := by kernel_rfl
theorem pA_b106 : lassoc 106 pA_b.i = some (.op .max .i64 (.op .max .i64 (.lit 0) (.var 106)) (.cl 0 14 (.var 100))) := by kernel_rfl
theorem pA_b107 : lassoc 107 pA_b.i = some (.op .max .i64 (.op .max .i64 (.lit 0) (.var 107)) (.cl 0 15 (.var 100))) := by kernel_rfl
theorem pA_b108 : lassoc 108 pA_b.i = some (.op .max .i64 (.op .max .i64 (.lit 0) (.var 108)) (.cl 0 16 (.var 100))) := by kernel_rfl
theorem pA_b109 : lassoc 109 pA_b.i = some (.op .max .i64 (.op .max .i64 (.lit 0) (.var 109)) (.cl 0 17 (.var 100))) := by kernel_rfl
theorem pB_b121 : lassoc 121 pB_b.i = some (.ite zFL7_15 (.ite zFL7_18 zFL7_24 (.var 121)) (.var 121)) := by kernel_rfl
theorem pB_b122 : lassoc 122 pB_b.i = some (.ite zFL7_15 (.ite zFL7_18 (.var 122) (.ite zFL7_20 zFL7_24 (.var 122))) (.var 122)) := by kernel_rfl
theorem pB_b123 : lassoc 123 pB_b.i = some (.ite zFL7_15 (.ite zFL7_18 (.var 123) (.ite zFL7_20 (.var 123) (.ite zFL7_16 zFL7_24 (.var 123)))) (.var 123)) := by kernel_rfl
theorem pB_b124 : lassoc 124 pB_b.i = some (.ite zFL7_15 (.ite zFL7_18 (.var 124) (.ite zFL7_20 (.var 124) (.ite zFL7_16 (.var 124) (.ite zFL7_22 zFL7_24 (.var 124))))) (.var 124)) := by kernel_rfl
theorem pB_b125 : lassoc 125 pB_b.i = some (.ite zFL7_15 (.ite zFL7_18 (.var 125) (.ite zFL7_20 (.var 125) (.ite zFL7_16 (.var 125) (.ite zFL7_22 (.var 125) (.ite zFL7_23 zFL7_24 (.var 125)))))) (.var 125)) := by kernel_rfl
theorem pB_b126 : lassoc 126 pB_b.i = some (.ite zFL7_15 (.ite zFL7_18 (.var 126) (.ite zFL7_20 (.var 126) (.ite zFL7_16 (.var 126) (.ite zFL7_22 (.var 126) (.ite zFL7_23 (.var 126) (.ite zFL7_21 zFL7_24 (.var 126))))))) (.var 126)) := by kernel_rfl
theorem pB_b127 : lassoc 127 pB_b.i = some (.ite zFL7_15 (.ite zFL7_18 (.var 127) (.ite zFL7_20 (.var 127) (.ite zFL7_16 (.var 127) (.ite zFL7_22 (.var 127) (.ite zFL7_23 (.var 127) (.ite zFL7_21 (.var 127) (.ite zFL7_17 zFL7_24 (.var 127)))))))) (.var 127)) := by kernel_rfl
theorem pB_b128 : lassoc 128 pB_b.i = some (.ite zFL7_15 (.ite zFL7_18 (.var 128) (.ite zFL7_20 (.var 128) (.ite zFL7_16 (.var 128) (.ite zFL7_22 (.var 128) (.ite zFL7_23 (.var 128) (.ite zFL7_21 (.var 128) (.ite zFL7_17 (.var 128) (.ite zFL7_19 zFL7_24 (.var 128))))))))) (.var 128)) := by kernel_rfl
theorem pB_b129 : lassoc 129 pB_b.i = some (.ite zFL7_15 (.ite zFL7_18 (.var 129) (.ite zFL7_20 (.var 129) (.ite zFL7_16 (.var 129) (.ite zFL7_22 (.var 129) (.ite zFL7_23 (.var 129) (.ite zFL7_21 (.var 129) (.ite zFL7_17 (.var 129) (.ite zFL7_19 (.var 129) zFL7_24)))))))) (.var 129)) := by kernel_rfl
theorem pC_b101 : lassoc 101 pC_b.i = some (.ite zFL7_11 (.ite zFL7_26 zFL7_40 zFL7_27) zFL7_27) := by kernel_rfl
theorem pC_b102 : lassoc 102 pC_b.i = some (.ite zFL7_11 (.ite zFL7_26 zFL7_30 (.ite zFL7_29 zFL7_40 zFL7_30)) zFL7_30) := by kernel_rfl
theorem pC_b103 : lassoc 103 pC_b.i = some (.ite zFL7_11 (.ite zFL7_26 zFL7_31 (.ite zFL7_29 zFL7_31 (.ite zFL7_6 zFL7_40 zFL7_31))) zFL7_31) := by kernel_rfl
theorem pC_b104 : lassoc 104 pC_b.i = some (.ite zFL7_11 (.ite zFL7_26 zFL7_33 (.ite zFL7_29 zFL7_33 (.ite zFL7_6 zFL7_33 (.ite zFL7_32 zFL7_40 zFL7_33)))) zFL7_33) := by kernel_rfl
theorem pC_b105 : lassoc 105 pC_b.i = some (.ite zFL7_11 (.ite zFL7_26 zFL7_35 (.ite zFL7_29 zFL7_35 (.ite zFL7_6 zFL7_35 (.ite zFL7_32 zFL7_35 (.ite zFL7_34 zFL7_40 zFL7_35))))) zFL7_35) := by kernel_rfl
theorem pC_b106 : lassoc 106 pC_b.i = some (.ite zFL7_11 (.ite zFL7_26 zFL7_36 (.ite zFL7_29 zFL7_36 (.ite zFL7_6 zFL7_36 (.ite zFL7_32 zFL7_36 (.ite zFL7_34 zFL7_36 (.ite zFL7_7 zFL7_40 zFL7_36)))))) zFL7_36) := by kernel_rfl
theorem pC_b107 : lassoc 107 pC_b.i = some (.ite zFL7_11 (.ite zFL7_26 zFL7_37 (.ite zFL7_29 zFL7_37 (.ite zFL7_6 zFL7_37 (.ite zFL7_32 zFL7_37 (.ite zFL7_34 zFL7_37 (.ite zFL7_7 zFL7_37 (.ite zFL7_25 zFL7_40 zFL7_37))))))) zFL7_37) := by kernel_rfl
theorem pC_b108 : lassoc 108 pC_b.i = some (.ite zFL7_11 (.ite zFL7_26 zFL7_38 (.ite zFL7_29 zFL7_38 (.ite zFL7_6 zFL7_38 (.ite zFL7_32 zFL7_38 (.ite zFL7_34 zFL7_38 (.ite zFL7_7 zFL7_38 (.ite zFL7_25 zFL7_38 (.ite zFL7_28 zFL7_40 zFL7_38)))))))) zFL7_38) := by kernel_rfl
theorem pC_b109 : lassoc 109 pC_b.i = some (.ite zFL7_11 (.ite zFL7_26 zFL7_39 (.ite zFL7_29 zFL7_39 (.ite zFL7_6 zFL7_39 (.ite zFL7_32 zFL7_39 (.ite zFL7_34 zFL7_39 (.ite zFL7_7 zFL7_39 (.ite zFL7_25 zFL7_39 (.ite zFL7_28 zFL7_39 zFL7_40)))))))) zFL7_39) := by kernel_rfl
theorem nY_b101 : lassoc 101 nY_b.i = some (.op .max .i64 (.var 101) (.cl 0 0 (.var 100))) := by kernel_rfl
theorem nZ_b101 : lassoc 101 nZ_b.i = some (.op .max .i64 (.var 101) (.cl 0 0 (.var 100))) := by kernel_rfl
def okN : BE := (.and (.and (.and (.and (.and (.not (.lt zFL7_42 (.lit 1))) (.not (.lt zFL7_41 zFL7_42))) zFL7_43) zFL7_44) zFL7_3) zFL7_4)
def sN : IE := (.op .add .i64 (.op .min .i64 (.var 101) (.lit 1099511627776)) (.lit 1))
theorem nextD_eq : nextD = .need (.not (.lt (.var 100) (.len 0))) (.ret (.tup [.agg [.sc (.i .i64 (.ite (.not okN) (.lit 0) sN)), .sc (.i .i64 (.ite (.not okN) (.lit 0) (.var 0))), .sc (.i .i64 (.ite (.not okN) (.lit 0) (.var 1)))], .sc (.b okN)])) := by kernel_rfl
def okM : BE := (.and (.lt (.var 101) zFL7_41) zFL7_46)
def cM1 : BE := (.not (.lt (.var 101) (.lit 1099511627776)))
def cM2 : BE := (.not zFL7_46)
def sM : IE := (.op .add .i64 (.var 101) (.lit 1))
theorem nextE_eq : nextE = .need (.not (.lt (.var 100) (.len 0))) (.ret (.tup [.agg [.sc (.i .i64 (.ite cM1 (.lit 0) (.ite cM2 (.lit 0) sM))), .sc (.i .i64 (.ite cM1 (.lit 0) (.ite cM2 (.lit 0) (.var 0)))), .sc (.i .i64 (.ite cM1 (.lit 0) (.ite cM2 (.lit 0) (.var 1))))], .sc (.b okM)])) := by kernel_rfl
def reE : BE := (.and (.not (.or zFL7_47 (.or (.or (.or zFL7_48 (.not (.eq (.var 4) (.var 0)))) (.not (.eq (.var 5) (.var 1)))) (.or zFL7_49 (.or zFL7_50 (.not zFL7_55)))))) (.and (.and (.and (.not (.lt (.var 15) (.lit 0))) (.lt (.var 15) (.lit 4))) (.not (.lt (.var 16) (.lit 1)))) (.not (.lt zFL7_41 (.var 16)))))
def reF : BE := (.and (.not (.or (.or (.or zFL7_47 zFL7_48) (.not (.eq (.var 4) (.var 0)))) (.not (.eq (.var 5) (.var 1))))) (.and (.not zFL7_49) (.and (.and (.and (.and (.and (.not zFL7_50) zFL7_55) (.not (.lt (.var 15) (.lit 0)))) (.lt (.var 15) (.lit 4))) (.not (.lt (.var 16) (.lit 1)))) (.not (.lt zFL7_41 (.var 16))))))
theorem reP_eq : reP = .ret (.sc (.b reE)) := by kernel_rfl
theorem reQ_eq : reQ = .ret (.sc (.b reF)) := by kernel_rfl
end Go.Proofs.Ytonefailiekemaa
