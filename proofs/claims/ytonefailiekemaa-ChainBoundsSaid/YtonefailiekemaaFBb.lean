/- What is put behind each round of the loop over acts. -/
import Derived.Test.YtonefailiekemaaFBL
import Derived.Test.YtonefailiekemaaFBN
import Derived.Test.YtonefailiekemaaFBZ
namespace Go.Proofs.Ytonefailiekemaa
open Go Go.Proofs.Aw Go.Proofs.Xw
set_option maxRecDepth 100000
def wB (z l : Bool) (β : Bind) : Bind := ⟨β.i.filter fun p => Nat.ble 200 p.1, (901, .lit z) :: (902, .lit l) :: β.b.filter fun p => Nat.ble 200 p.1, [], β.r⟩
def cfgIs (β : Bind) (f : Nat → IE) (g : BE) : Bool := (([0, 1, 2, 3, 4, 5, 6, 7, 8, 9, 11, 12] : List Nat).all fun k => match lassoc (210 + k) β.i with
    | some e => e.beq (f k)
    | none => false) && ((match lassoc 220 β.b with
    | some e => e.beq g
    | none => false) && (match lassoc 206 β.i with
    | some e => e.beq (.var 206)
    | none => false))
def fC0 (k : Nat) : IE := .var (210 + k)
def fA0 (k : Nat) : IE := .cl 0 (5 + k) (.var 200)
noncomputable def bLX : Bind := wB true true (bindF (nmS (mS hpL) (lS hLX 101)) (mS hpL) (lS hLX 101))
theorem bLX_ok : okS 0 200 bLX (nmS (mS hpL) (lS hLX 101)) (mS hpL) (lS hLX 101) = true := by kernel_rfl
theorem bLX_g : bLX.ge 200 = true := by kernel_rfl
theorem bLX_i : lassoc 200 bLX.i = some (.op .add .i64 (.var 200) (.lit 1)) := by kernel_rfl
theorem bLX_z : lassoc 901 bLX.b = some (.lit true) := by kernel_rfl
theorem bLX_l : lassoc 902 bLX.b = some (.lit true) := by kernel_rfl
theorem bLX_c : cfgIs bLX fC0 (.var 220) = true := by kernel_rfl
theorem bLX_223 : lassoc 223 bLX.i = some (.var 223) := by kernel_rfl
theorem bLX_224 : lassoc 224 bLX.i = some (.var 224) := by kernel_rfl
theorem bLX_225 : lassoc 225 bLX.i = some (.var 225) := by kernel_rfl
theorem bLX_226 : lassoc 226 bLX.i = some (.var 226) := by kernel_rfl
theorem bLX_229 : lassoc 229 bLX.i = some (.var 229) := by kernel_rfl
theorem bLX_r : lassoc 201 bLX.r = some (.len 201, .var 201 ke) := by kernel_rfl
noncomputable def bLS : Bind := wB true true (bindF (nmS (mS hpL) (lS hLS 105)) (mS hpL) (lS hLS 105))
theorem bLS_ok : okS 0 200 bLS (nmS (mS hpL) (lS hLS 105)) (mS hpL) (lS hLS 105) = true := by kernel_rfl
theorem bLS_g : bLS.ge 200 = true := by kernel_rfl
theorem bLS_i : lassoc 200 bLS.i = some (.op .add .i64 (.var 200) (.lit 1)) := by kernel_rfl
theorem bLS_z : lassoc 901 bLS.b = some (.lit true) := by kernel_rfl
theorem bLS_l : lassoc 902 bLS.b = some (.lit true) := by kernel_rfl
theorem bLS_c : cfgIs bLS fC0 (.var 220) = true := by kernel_rfl
theorem bLS_223 : lassoc 223 bLS.i = some (.var 223) := by kernel_rfl
theorem bLS_224 : lassoc 224 bLS.i = some (.var 224) := by kernel_rfl
theorem bLS_225 : lassoc 225 bLS.i = some (.len 201) := by kernel_rfl
abbrev zFBb_0 : BE := .not (.lt (.var 206) (.lit 0))
abbrev zFBb_1 : BE := .not (.and zFBb_0 (.eq (.var 302) (.var 206)))
abbrev zFBb_2 : BE := .not (.var 220)
abbrev zFBb_3 : IE := .op .max .i64 (.var 226) (.var 224)
abbrev zFBb_4 : BE := .not (.eq (.var 302) (.var 206))
abbrev zFBb_5 : IE := .op .max .i64 (.var 229) (.var 224)
abbrev zFBb_6 : BE := .not (.and zFBb_0 (.eq (.var 307) (.var 206)))
abbrev zFBb_7 : BE := .not (.cl 0 15 (.var 200))
abbrev zFBb_8 : BE := .not (.and (.lt (.lit 0) (.cl 0 5 (.var 200))) (.eq (.var 307) (.var 206)))
abbrev zFBb_9 : IE := .op .min .i64 (.cl 0 4 (.var 200)) (.var 225)
abbrev zFBb_10 : IE := .op .min .i64 (.cl 0 3 (.var 200)) (.var 225)
abbrev zFBb_11 : IE := .ite (.var 308) (.op .max .i64 (.var 226) zFBb_9) (.op .max .i64 zFBb_3 zFBb_10)
abbrev zFBb_12 : IE := .ite (.var 308) (.op .max .i64 (.var 229) zFBb_9) (.op .max .i64 zFBb_5 zFBb_10)
abbrev zFBb_13 : IE := .ite (.var 308) (.op .max .i64 (.var 226) (.var 225)) (.op .max .i64 zFBb_3 (.var 225))
abbrev zFBb_14 : IE := .ite (.var 308) (.op .max .i64 (.var 229) (.var 225)) (.op .max .i64 zFBb_5 (.var 225))
theorem bLS_226 : lassoc 226 bLS.i = some (.ite zFBb_1 (.var 226) (.ite zFBb_2 (.len 201) zFBb_3)) := by kernel_rfl
theorem bLS_229 : lassoc 229 bLS.i = some (.ite zFBb_4 (.var 229) (.ite zFBb_2 (.len 201) zFBb_5)) := by kernel_rfl
theorem bLS_r : lassoc 201 bLS.r = some (.len 201, .var 201 ke) := by kernel_rfl
noncomputable def bLE2 : Bind := wB true true (bindF (nmS (mS hpL) (lS hLE2 105)) (mS hpL) (lS hLE2 105))
theorem bLE2_ok : okS 0 200 bLE2 (nmS (mS hpL) (lS hLE2 105)) (mS hpL) (lS hLE2 105) = true := by kernel_rfl
theorem bLE2_g : bLE2.ge 200 = true := by kernel_rfl
theorem bLE2_i : lassoc 200 bLE2.i = some (.op .add .i64 (.var 200) (.lit 1)) := by kernel_rfl
theorem bLE2_z : lassoc 901 bLE2.b = some (.lit true) := by kernel_rfl
theorem bLE2_l : lassoc 902 bLE2.b = some (.lit true) := by kernel_rfl
theorem bLE2_c : cfgIs bLE2 fA0 (.cl 0 15 (.var 200)) = true := by kernel_rfl
theorem bLE2_223 : lassoc 223 bLE2.i = some (.var 223) := by kernel_rfl
theorem bLE2_224 : lassoc 224 bLE2.i = some (.len 201) := by kernel_rfl
theorem bLE2_225 : lassoc 225 bLE2.i = some (.len 201) := by kernel_rfl
theorem bLE2_226 : lassoc 226 bLE2.i = some (.ite zFBb_6 (.var 226) (.ite zFBb_7 (.len 201) (.op .max .i64 (.var 226) (.len 201)))) := by kernel_rfl
theorem bLE2_229 : lassoc 229 bLE2.i = some (.ite zFBb_8 (.var 229) (.ite zFBb_7 (.len 201) (.op .max .i64 (.var 229) (.len 201)))) := by kernel_rfl
theorem bLE2_r : lassoc 201 bLE2.r = some (.len 201, .var 201 ke) := by kernel_rfl
noncomputable def bLE4 : Bind := wB true false (bindF (nmS (mS hpN) (lS hLE4 88)) (mS hpN) (lS hLE4 88))
theorem bLE4_ok : okS 0 200 bLE4 (nmS (mS hpN) (lS hLE4 88)) (mS hpN) (lS hLE4 88) = true := by kernel_rfl
theorem bLE4_g : bLE4.ge 200 = true := by kernel_rfl
theorem bLE4_i : lassoc 200 bLE4.i = some (.op .add .i64 (.var 200) (.lit 1)) := by kernel_rfl
theorem bLE4_z : lassoc 901 bLE4.b = some (.lit true) := by kernel_rfl
theorem bLE4_l : lassoc 902 bLE4.b = some (.lit false) := by kernel_rfl
theorem bLE4_c : cfgIs bLE4 fA0 (.cl 0 15 (.var 200)) = true := by kernel_rfl
theorem bLE4_223 : lassoc 223 bLE4.i = some (.var 306) := by kernel_rfl
theorem bLE4_224 : lassoc 224 bLE4.i = some (.lit 0) := by kernel_rfl
theorem bLE4_225 : lassoc 225 bLE4.i = some (.lit 0) := by kernel_rfl
theorem bLE4_226 : lassoc 226 bLE4.i = some (.lit 0) := by kernel_rfl
theorem bLE4_229 : lassoc 229 bLE4.i = some (.lit 0) := by kernel_rfl
noncomputable def bLT6 : Bind := wB true true (bindF (nmS (mS hpL) (lS hLT6 105)) (mS hpL) (lS hLT6 105))
theorem bLT6_ok : okS 0 200 bLT6 (nmS (mS hpL) (lS hLT6 105)) (mS hpL) (lS hLT6 105) = true := by kernel_rfl
theorem bLT6_g : bLT6.ge 200 = true := by kernel_rfl
theorem bLT6_i : lassoc 200 bLT6.i = some (.op .add .i64 (.var 200) (.lit 1)) := by kernel_rfl
theorem bLT6_z : lassoc 901 bLT6.b = some (.lit true) := by kernel_rfl
theorem bLT6_l : lassoc 902 bLT6.b = some (.lit true) := by kernel_rfl
theorem bLT6_c : cfgIs bLT6 fC0 (.var 220) = true := by kernel_rfl
theorem bLT6_223 : lassoc 223 bLT6.i = some (.var 223) := by kernel_rfl
theorem bLT6_224 : lassoc 224 bLT6.i = some (.var 224) := by kernel_rfl
theorem bLT6_225 : lassoc 225 bLT6.i = some (.var 225) := by kernel_rfl
theorem bLT6_226 : lassoc 226 bLT6.i = some (.ite zFBb_1 (.var 226) (.ite zFBb_2 (.var 225) zFBb_3)) := by kernel_rfl
theorem bLT6_229 : lassoc 229 bLT6.i = some (.var 229) := by kernel_rfl
theorem bLT6_r : lassoc 201 bLT6.r = some ((.op .padd .i64 (.len 201) (.lit 1)), (.app (.len 201) (.var 201 ke) (.one (scsOf (aggOf eI))))) := by kernel_rfl
noncomputable def bLH3 : Bind := wB true true (bindF (nmS (mS hpL) (lS hLH3 105)) (mS hpL) (lS hLH3 105))
theorem bLH3_ok : okS 0 200 bLH3 (nmS (mS hpL) (lS hLH3 105)) (mS hpL) (lS hLH3 105) = true := by kernel_rfl
theorem bLH3_g : bLH3.ge 200 = true := by kernel_rfl
theorem bLH3_i : lassoc 200 bLH3.i = some (.op .add .i64 (.var 200) (.lit 1)) := by kernel_rfl
theorem bLH3_z : lassoc 901 bLH3.b = some (.lit true) := by kernel_rfl
theorem bLH3_l : lassoc 902 bLH3.b = some (.lit true) := by kernel_rfl
theorem bLH3_c : cfgIs bLH3 fC0 (.var 220) = true := by kernel_rfl
theorem bLH3_223 : lassoc 223 bLH3.i = some (.var 223) := by kernel_rfl
theorem bLH3_224 : lassoc 224 bLH3.i = some (.var 224) := by kernel_rfl
theorem bLH3_225 : lassoc 225 bLH3.i = some (.var 225) := by kernel_rfl
theorem bLH3_226 : lassoc 226 bLH3.i = some (.ite zFBb_1 zFBb_11 (.ite zFBb_2 (.var 225) (.op .max .i64 zFBb_11 (.var 224)))) := by kernel_rfl
theorem bLH3_229 : lassoc 229 bLH3.i = some (.ite zFBb_4 zFBb_12 (.ite zFBb_2 (.var 225) (.op .max .i64 zFBb_12 (.var 224)))) := by kernel_rfl
theorem bLH3_r : lassoc 201 bLH3.r = some (.len 201, .var 201 ke) := by kernel_rfl
noncomputable def bLJ1 : Bind := wB true true (bindF (nmS (mS hpL) (lS hLJ1 105)) (mS hpL) (lS hLJ1 105))
theorem bLJ1_ok : okS 0 200 bLJ1 (nmS (mS hpL) (lS hLJ1 105)) (mS hpL) (lS hLJ1 105) = true := by kernel_rfl
theorem bLJ1_g : bLJ1.ge 200 = true := by kernel_rfl
theorem bLJ1_i : lassoc 200 bLJ1.i = some (.op .add .i64 (.var 200) (.lit 1)) := by kernel_rfl
theorem bLJ1_z : lassoc 901 bLJ1.b = some (.lit true) := by kernel_rfl
theorem bLJ1_l : lassoc 902 bLJ1.b = some (.lit true) := by kernel_rfl
theorem bLJ1_c : cfgIs bLJ1 fC0 (.var 220) = true := by kernel_rfl
theorem bLJ1_223 : lassoc 223 bLJ1.i = some (.var 223) := by kernel_rfl
theorem bLJ1_224 : lassoc 224 bLJ1.i = some (.var 224) := by kernel_rfl
theorem bLJ1_225 : lassoc 225 bLJ1.i = some (.var 225) := by kernel_rfl
theorem bLJ1_226 : lassoc 226 bLJ1.i = some (.ite zFBb_1 zFBb_13 (.ite zFBb_2 (.var 225) (.op .max .i64 zFBb_13 (.var 224)))) := by kernel_rfl
theorem bLJ1_229 : lassoc 229 bLJ1.i = some (.ite zFBb_4 zFBb_14 (.ite zFBb_2 (.var 225) (.op .max .i64 zFBb_14 (.var 224)))) := by kernel_rfl
theorem bLJ1_r : lassoc 201 bLJ1.r = some (.len 201, .var 201 ke) := by kernel_rfl
noncomputable def bLP6 : Bind := wB true true (bindF (nmS (mS hpL) (lS hLP6 105)) (mS hpL) (lS hLP6 105))
theorem bLP6_ok : okS 0 200 bLP6 (nmS (mS hpL) (lS hLP6 105)) (mS hpL) (lS hLP6 105) = true := by kernel_rfl
theorem bLP6_g : bLP6.ge 200 = true := by kernel_rfl
theorem bLP6_i : lassoc 200 bLP6.i = some (.op .add .i64 (.var 200) (.lit 1)) := by kernel_rfl
theorem bLP6_z : lassoc 901 bLP6.b = some (.lit true) := by kernel_rfl
theorem bLP6_l : lassoc 902 bLP6.b = some (.lit true) := by kernel_rfl
theorem bLP6_c : cfgIs bLP6 fC0 (.var 220) = true := by kernel_rfl
theorem bLP6_223 : lassoc 223 bLP6.i = some (.var 223) := by kernel_rfl
theorem bLP6_224 : lassoc 224 bLP6.i = some (.var 224) := by kernel_rfl
theorem bLP6_225 : lassoc 225 bLP6.i = some (.var 225) := by kernel_rfl
theorem bLP6_226 : lassoc 226 bLP6.i = some (.ite zFBb_4 (.var 226) (.ite zFBb_2 (.var 225) zFBb_3)) := by kernel_rfl
theorem bLP6_229 : lassoc 229 bLP6.i = some (.var 229) := by kernel_rfl
theorem bLP6_r : lassoc 201 bLP6.r = some ((.op .padd .i64 (.len 201) (.lit 1)), (.app (.len 201) (.var 201 ke) (.one (scsOf (aggOf eL))))) := by kernel_rfl
noncomputable def bLI8 : Bind := wB true true (bindF (nmS (mS hpL) (lS hLI8 105)) (mS hpL) (lS hLI8 105))
theorem bLI8_ok : okS 0 200 bLI8 (nmS (mS hpL) (lS hLI8 105)) (mS hpL) (lS hLI8 105) = true := by kernel_rfl
theorem bLI8_g : bLI8.ge 200 = true := by kernel_rfl
theorem bLI8_i : lassoc 200 bLI8.i = some (.op .add .i64 (.var 200) (.lit 1)) := by kernel_rfl
theorem bLI8_z : lassoc 901 bLI8.b = some (.lit true) := by kernel_rfl
theorem bLI8_l : lassoc 902 bLI8.b = some (.lit true) := by kernel_rfl
theorem bLI8_c : cfgIs bLI8 fC0 (.var 220) = true := by kernel_rfl
theorem bLI8_223 : lassoc 223 bLI8.i = some (.var 223) := by kernel_rfl
theorem bLI8_224 : lassoc 224 bLI8.i = some (.var 224) := by kernel_rfl
theorem bLI8_225 : lassoc 225 bLI8.i = some (.var 225) := by kernel_rfl
theorem bLI8_226 : lassoc 226 bLI8.i = some (.ite zFBb_4 (.var 226) (.ite zFBb_2 (.var 225) zFBb_3)) := by kernel_rfl
theorem bLI8_229 : lassoc 229 bLI8.i = some (.var 229) := by kernel_rfl
theorem bLI8_r : lassoc 201 bLI8.r = some ((.op .padd .i64 (.len 201) (.lit 1)), (.app (.len 201) (.var 201 ke) (.one (scsOf (aggOf eI))))) := by kernel_rfl
noncomputable def bNX : Bind := wB true false (bindF (nmS (mS hpN) (lS hNX 101)) (mS hpN) (lS hNX 101))
theorem bNX_ok : okS 0 200 bNX (nmS (mS hpN) (lS hNX 101)) (mS hpN) (lS hNX 101) = true := by kernel_rfl
theorem bNX_g : bNX.ge 200 = true := by kernel_rfl
theorem bNX_i : lassoc 200 bNX.i = some (.op .add .i64 (.var 200) (.lit 1)) := by kernel_rfl
theorem bNX_z : lassoc 901 bNX.b = some (.lit true) := by kernel_rfl
theorem bNX_l : lassoc 902 bNX.b = some (.lit false) := by kernel_rfl
theorem bNX_c : cfgIs bNX fC0 (.var 220) = true := by kernel_rfl
theorem bNX_223 : lassoc 223 bNX.i = some (.var 223) := by kernel_rfl
theorem bNX_224 : lassoc 224 bNX.i = some (.var 224) := by kernel_rfl
theorem bNX_225 : lassoc 225 bNX.i = some (.var 225) := by kernel_rfl
theorem bNX_226 : lassoc 226 bNX.i = some (.var 226) := by kernel_rfl
theorem bNX_229 : lassoc 229 bNX.i = some (.var 229) := by kernel_rfl
noncomputable def bNS : Bind := wB true false (bindF (nmS (mS hpN) (lS hNS 105)) (mS hpN) (lS hNS 105))
theorem bNS_ok : okS 0 200 bNS (nmS (mS hpN) (lS hNS 105)) (mS hpN) (lS hNS 105) = true := by kernel_rfl
theorem bNS_g : bNS.ge 200 = true := by kernel_rfl
theorem bNS_i : lassoc 200 bNS.i = some (.op .add .i64 (.var 200) (.lit 1)) := by kernel_rfl
theorem bNS_z : lassoc 901 bNS.b = some (.lit true) := by kernel_rfl
theorem bNS_l : lassoc 902 bNS.b = some (.lit false) := by kernel_rfl
theorem bNS_c : cfgIs bNS fC0 (.var 220) = true := by kernel_rfl
theorem bNS_223 : lassoc 223 bNS.i = some (.var 223) := by kernel_rfl
theorem bNS_224 : lassoc 224 bNS.i = some (.var 224) := by kernel_rfl
theorem bNS_225 : lassoc 225 bNS.i = some (.lit 0) := by kernel_rfl
theorem bNS_226 : lassoc 226 bNS.i = some (.ite zFBb_1 (.var 226) (.ite zFBb_2 (.lit 0) zFBb_3)) := by kernel_rfl
theorem bNS_229 : lassoc 229 bNS.i = some (.ite zFBb_4 (.var 229) (.ite zFBb_2 (.lit 0) zFBb_5)) := by kernel_rfl
noncomputable def bNE2 : Bind := wB true false (bindF (nmS (mS hpN) (lS hNE2 105)) (mS hpN) (lS hNE2 105))
theorem bNE2_ok : okS 0 200 bNE2 (nmS (mS hpN) (lS hNE2 105)) (mS hpN) (lS hNE2 105) = true := by kernel_rfl
theorem bNE2_g : bNE2.ge 200 = true := by kernel_rfl
theorem bNE2_i : lassoc 200 bNE2.i = some (.op .add .i64 (.var 200) (.lit 1)) := by kernel_rfl
theorem bNE2_z : lassoc 901 bNE2.b = some (.lit true) := by kernel_rfl
theorem bNE2_l : lassoc 902 bNE2.b = some (.lit false) := by kernel_rfl
theorem bNE2_c : cfgIs bNE2 fA0 (.cl 0 15 (.var 200)) = true := by kernel_rfl
theorem bNE2_223 : lassoc 223 bNE2.i = some (.var 223) := by kernel_rfl
theorem bNE2_224 : lassoc 224 bNE2.i = some (.lit 0) := by kernel_rfl
theorem bNE2_225 : lassoc 225 bNE2.i = some (.lit 0) := by kernel_rfl
theorem bNE2_226 : lassoc 226 bNE2.i = some (.ite zFBb_6 (.var 226) (.ite zFBb_7 (.lit 0) (.op .max .i64 (.var 226) (.lit 0)))) := by kernel_rfl
theorem bNE2_229 : lassoc 229 bNE2.i = some (.ite zFBb_8 (.var 229) (.ite zFBb_7 (.lit 0) (.op .max .i64 (.var 229) (.lit 0)))) := by kernel_rfl
noncomputable def bNE4 : Bind := wB true false (bindF (nmS (mS hpN) (lS hNE4 88)) (mS hpN) (lS hNE4 88))
theorem bNE4_ok : okS 0 200 bNE4 (nmS (mS hpN) (lS hNE4 88)) (mS hpN) (lS hNE4 88) = true := by kernel_rfl
theorem bNE4_g : bNE4.ge 200 = true := by kernel_rfl
theorem bNE4_i : lassoc 200 bNE4.i = some (.op .add .i64 (.var 200) (.lit 1)) := by kernel_rfl
theorem bNE4_z : lassoc 901 bNE4.b = some (.lit true) := by kernel_rfl
theorem bNE4_l : lassoc 902 bNE4.b = some (.lit false) := by kernel_rfl
theorem bNE4_c : cfgIs bNE4 fA0 (.cl 0 15 (.var 200)) = true := by kernel_rfl
theorem bNE4_223 : lassoc 223 bNE4.i = some (.var 306) := by kernel_rfl
theorem bNE4_224 : lassoc 224 bNE4.i = some (.lit 0) := by kernel_rfl
theorem bNE4_225 : lassoc 225 bNE4.i = some (.lit 0) := by kernel_rfl
theorem bNE4_226 : lassoc 226 bNE4.i = some (.lit 0) := by kernel_rfl
theorem bNE4_229 : lassoc 229 bNE4.i = some (.lit 0) := by kernel_rfl
noncomputable def bNT6 : Bind := wB true true (bindF (nmS (mS hpL) (lS hNT6 105)) (mS hpL) (lS hNT6 105))
theorem bNT6_ok : okS 0 200 bNT6 (nmS (mS hpL) (lS hNT6 105)) (mS hpL) (lS hNT6 105) = true := by kernel_rfl
theorem bNT6_g : bNT6.ge 200 = true := by kernel_rfl
theorem bNT6_i : lassoc 200 bNT6.i = some (.op .add .i64 (.var 200) (.lit 1)) := by kernel_rfl
theorem bNT6_z : lassoc 901 bNT6.b = some (.lit true) := by kernel_rfl
theorem bNT6_l : lassoc 902 bNT6.b = some (.lit true) := by kernel_rfl
theorem bNT6_c : cfgIs bNT6 fC0 (.var 220) = true := by kernel_rfl
theorem bNT6_223 : lassoc 223 bNT6.i = some (.var 223) := by kernel_rfl
theorem bNT6_224 : lassoc 224 bNT6.i = some (.var 224) := by kernel_rfl
theorem bNT6_225 : lassoc 225 bNT6.i = some (.var 225) := by kernel_rfl
theorem bNT6_226 : lassoc 226 bNT6.i = some (.ite zFBb_1 (.var 226) (.ite zFBb_2 (.var 225) zFBb_3)) := by kernel_rfl
theorem bNT6_229 : lassoc 229 bNT6.i = some (.var 229) := by kernel_rfl
theorem bNT6_r : lassoc 201 bNT6.r = some (.lit 1, .one (scsOf (aggOf eI))) := by kernel_rfl
noncomputable def bNH3 : Bind := wB true false (bindF (nmS (mS hpN) (lS hNH3 105)) (mS hpN) (lS hNH3 105))
theorem bNH3_ok : okS 0 200 bNH3 (nmS (mS hpN) (lS hNH3 105)) (mS hpN) (lS hNH3 105) = true := by kernel_rfl
theorem bNH3_g : bNH3.ge 200 = true := by kernel_rfl
theorem bNH3_i : lassoc 200 bNH3.i = some (.op .add .i64 (.var 200) (.lit 1)) := by kernel_rfl
theorem bNH3_z : lassoc 901 bNH3.b = some (.lit true) := by kernel_rfl
theorem bNH3_l : lassoc 902 bNH3.b = some (.lit false) := by kernel_rfl
theorem bNH3_c : cfgIs bNH3 fC0 (.var 220) = true := by kernel_rfl
theorem bNH3_223 : lassoc 223 bNH3.i = some (.var 223) := by kernel_rfl
theorem bNH3_224 : lassoc 224 bNH3.i = some (.var 224) := by kernel_rfl
theorem bNH3_225 : lassoc 225 bNH3.i = some (.var 225) := by kernel_rfl
theorem bNH3_226 : lassoc 226 bNH3.i = some (.ite zFBb_1 zFBb_11 (.ite zFBb_2 (.var 225) (.op .max .i64 zFBb_11 (.var 224)))) := by kernel_rfl
theorem bNH3_229 : lassoc 229 bNH3.i = some (.ite zFBb_4 zFBb_12 (.ite zFBb_2 (.var 225) (.op .max .i64 zFBb_12 (.var 224)))) := by kernel_rfl
noncomputable def bNJ1 : Bind := wB true false (bindF (nmS (mS hpN) (lS hNJ1 105)) (mS hpN) (lS hNJ1 105))
theorem bNJ1_ok : okS 0 200 bNJ1 (nmS (mS hpN) (lS hNJ1 105)) (mS hpN) (lS hNJ1 105) = true := by kernel_rfl
theorem bNJ1_g : bNJ1.ge 200 = true := by kernel_rfl
theorem bNJ1_i : lassoc 200 bNJ1.i = some (.op .add .i64 (.var 200) (.lit 1)) := by kernel_rfl
theorem bNJ1_z : lassoc 901 bNJ1.b = some (.lit true) := by kernel_rfl
theorem bNJ1_l : lassoc 902 bNJ1.b = some (.lit false) := by kernel_rfl
theorem bNJ1_c : cfgIs bNJ1 fC0 (.var 220) = true := by kernel_rfl
theorem bNJ1_223 : lassoc 223 bNJ1.i = some (.var 223) := by kernel_rfl
theorem bNJ1_224 : lassoc 224 bNJ1.i = some (.var 224) := by kernel_rfl
theorem bNJ1_225 : lassoc 225 bNJ1.i = some (.var 225) := by kernel_rfl
theorem bNJ1_226 : lassoc 226 bNJ1.i = some (.ite zFBb_1 zFBb_13 (.ite zFBb_2 (.var 225) (.op .max .i64 zFBb_13 (.var 224)))) := by kernel_rfl
theorem bNJ1_229 : lassoc 229 bNJ1.i = some (.ite zFBb_4 zFBb_14 (.ite zFBb_2 (.var 225) (.op .max .i64 zFBb_14 (.var 224)))) := by kernel_rfl
noncomputable def bNP6 : Bind := wB true true (bindF (nmS (mS hpL) (lS hNP6 105)) (mS hpL) (lS hNP6 105))
theorem bNP6_ok : okS 0 200 bNP6 (nmS (mS hpL) (lS hNP6 105)) (mS hpL) (lS hNP6 105) = true := by kernel_rfl
theorem bNP6_g : bNP6.ge 200 = true := by kernel_rfl
theorem bNP6_i : lassoc 200 bNP6.i = some (.op .add .i64 (.var 200) (.lit 1)) := by kernel_rfl
theorem bNP6_z : lassoc 901 bNP6.b = some (.lit true) := by kernel_rfl
theorem bNP6_l : lassoc 902 bNP6.b = some (.lit true) := by kernel_rfl
theorem bNP6_c : cfgIs bNP6 fC0 (.var 220) = true := by kernel_rfl
theorem bNP6_223 : lassoc 223 bNP6.i = some (.var 223) := by kernel_rfl
theorem bNP6_224 : lassoc 224 bNP6.i = some (.var 224) := by kernel_rfl
theorem bNP6_225 : lassoc 225 bNP6.i = some (.var 225) := by kernel_rfl
theorem bNP6_226 : lassoc 226 bNP6.i = some (.ite zFBb_4 (.var 226) (.ite zFBb_2 (.var 225) zFBb_3)) := by kernel_rfl
theorem bNP6_229 : lassoc 229 bNP6.i = some (.var 229) := by kernel_rfl
theorem bNP6_r : lassoc 201 bNP6.r = some (.lit 1, .one (scsOf (aggOf eN))) := by kernel_rfl
noncomputable def bNI8 : Bind := wB true true (bindF (nmS (mS hpL) (lS hNI8 105)) (mS hpL) (lS hNI8 105))
theorem bNI8_ok : okS 0 200 bNI8 (nmS (mS hpL) (lS hNI8 105)) (mS hpL) (lS hNI8 105) = true := by kernel_rfl
theorem bNI8_g : bNI8.ge 200 = true := by kernel_rfl
theorem bNI8_i : lassoc 200 bNI8.i = some (.op .add .i64 (.var 200) (.lit 1)) := by kernel_rfl
theorem bNI8_z : lassoc 901 bNI8.b = some (.lit true) := by kernel_rfl
theorem bNI8_l : lassoc 902 bNI8.b = some (.lit true) := by kernel_rfl
theorem bNI8_c : cfgIs bNI8 fC0 (.var 220) = true := by kernel_rfl
theorem bNI8_223 : lassoc 223 bNI8.i = some (.var 223) := by kernel_rfl
theorem bNI8_224 : lassoc 224 bNI8.i = some (.var 224) := by kernel_rfl
theorem bNI8_225 : lassoc 225 bNI8.i = some (.var 225) := by kernel_rfl
theorem bNI8_226 : lassoc 226 bNI8.i = some (.ite zFBb_4 (.var 226) (.ite zFBb_2 (.var 225) zFBb_3)) := by kernel_rfl
theorem bNI8_229 : lassoc 229 bNI8.i = some (.var 229) := by kernel_rfl
theorem bNI8_r : lassoc 201 bNI8.r = some (.lit 1, .one (scsOf (aggOf eI))) := by kernel_rfl
noncomputable def bZX : Bind := wB false false (bindF (nmS (mS hpZ) (lS hZX 101)) (mS hpZ) (lS hZX 101))
theorem bZX_ok : okS 0 200 bZX (nmS (mS hpZ) (lS hZX 101)) (mS hpZ) (lS hZX 101) = true := by kernel_rfl
theorem bZX_g : bZX.ge 200 = true := by kernel_rfl
theorem bZX_i : lassoc 200 bZX.i = some (.op .add .i64 (.var 200) (.lit 1)) := by kernel_rfl
theorem bZX_z : lassoc 901 bZX.b = some (.lit false) := by kernel_rfl
theorem bZX_l : lassoc 902 bZX.b = some (.lit false) := by kernel_rfl
noncomputable def bZE2 : Bind := wB true false (bindF (nmS (mS hpN) (lS hZE2 101)) (mS hpN) (lS hZE2 101))
theorem bZE2_ok : okS 0 200 bZE2 (nmS (mS hpN) (lS hZE2 101)) (mS hpN) (lS hZE2 101) = true := by kernel_rfl
theorem bZE2_g : bZE2.ge 200 = true := by kernel_rfl
theorem bZE2_i : lassoc 200 bZE2.i = some (.op .add .i64 (.var 200) (.lit 1)) := by kernel_rfl
theorem bZE2_z : lassoc 901 bZE2.b = some (.lit true) := by kernel_rfl
theorem bZE2_l : lassoc 902 bZE2.b = some (.lit false) := by kernel_rfl
theorem bZE2_c : cfgIs bZE2 fA0 (.cl 0 15 (.var 200)) = true := by kernel_rfl
theorem bZE2_223 : lassoc 223 bZE2.i = some (.lit 0) := by kernel_rfl
theorem bZE2_224 : lassoc 224 bZE2.i = some (.lit 0) := by kernel_rfl
theorem bZE2_225 : lassoc 225 bZE2.i = some (.lit 0) := by kernel_rfl
theorem bZE2_226 : lassoc 226 bZE2.i = some (.lit 0) := by kernel_rfl
theorem bZE2_229 : lassoc 229 bZE2.i = some (.lit 0) := by kernel_rfl
noncomputable def bZE4 : Bind := wB true false (bindF (nmS (mS hpN) (lS hZE4 84)) (mS hpN) (lS hZE4 84))
theorem bZE4_ok : okS 0 200 bZE4 (nmS (mS hpN) (lS hZE4 84)) (mS hpN) (lS hZE4 84) = true := by kernel_rfl
theorem bZE4_g : bZE4.ge 200 = true := by kernel_rfl
theorem bZE4_i : lassoc 200 bZE4.i = some (.op .add .i64 (.var 200) (.lit 1)) := by kernel_rfl
theorem bZE4_z : lassoc 901 bZE4.b = some (.lit true) := by kernel_rfl
theorem bZE4_l : lassoc 902 bZE4.b = some (.lit false) := by kernel_rfl
theorem bZE4_c : cfgIs bZE4 fA0 (.cl 0 15 (.var 200)) = true := by kernel_rfl
theorem bZE4_223 : lassoc 223 bZE4.i = some (.var 306) := by kernel_rfl
theorem bZE4_224 : lassoc 224 bZE4.i = some (.lit 0) := by kernel_rfl
theorem bZE4_225 : lassoc 225 bZE4.i = some (.lit 0) := by kernel_rfl
theorem bZE4_226 : lassoc 226 bZE4.i = some (.lit 0) := by kernel_rfl
theorem bZE4_229 : lassoc 229 bZE4.i = some (.lit 0) := by kernel_rfl
noncomputable def mN : Nat := Try.f6.ntmps
theorem m_fits : fitsC mN mC = true := by kernel_rfl
end Go.Proofs.Ytonefailiekemaa
