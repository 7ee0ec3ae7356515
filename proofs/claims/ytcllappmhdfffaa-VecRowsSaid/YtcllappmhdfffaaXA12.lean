/- The loops over writes, over parts of the row too, in closed form. -/
import Derived.Test.YtcllappmhdfffaaXL10
import Derived.Test.YtcllappmhdfffaaXQ1
namespace Go.Proofs.Ytcllappmhdfffaa
open Go Go.Proofs.Aw Go.Proofs.Xw
set_option linter.unusedSimpArgs false
set_option linter.unusedVariables false
set_option maxRecDepth 100000
theorem wA_s0 (p : Rho) : (wA_b.ap p).i 201 = Max.max (Max.max 0 (p.i 201)) (p.ci 0 9 (p.i 200).toNat) := by kernel_rfl
theorem wA_s1 (p : Rho) : (wA_b.ap p).i 202 = Max.max (Max.max 0 (p.i 202)) (p.ci 0 10 (p.i 200).toNat) := by kernel_rfl
theorem wA_s2 (p : Rho) : (wA_b.ap p).i 203 = Max.max (Max.max 0 (p.i 203)) (p.ci 0 11 (p.i 200).toNat) := by kernel_rfl
theorem wA_s3 (p : Rho) : (wA_b.ap p).i 204 = Max.max (Max.max 0 (p.i 204)) (p.ci 0 12 (p.i 200).toNat) := by kernel_rfl
theorem wA_s4 (p : Rho) : (wA_b.ap p).i 205 = Max.max (Max.max 0 (p.i 205)) (p.ci 0 13 (p.i 200).toNat) := by kernel_rfl
theorem wA_s5 (p : Rho) : (wA_b.ap p).i 206 = Max.max (Max.max 0 (p.i 206)) (p.ci 0 14 (p.i 200).toNat) := by kernel_rfl
theorem wA_s6 (p : Rho) : (wA_b.ap p).i 207 = Max.max (Max.max 0 (p.i 207)) (p.ci 0 15 (p.i 200).toNat) := by kernel_rfl
theorem wA_s7 (p : Rho) : (wA_b.ap p).i 208 = Max.max (Max.max 0 (p.i 208)) (p.ci 0 16 (p.i 200).toNat) := by kernel_rfl
theorem wA_s8 (p : Rho) : (wA_b.ap p).i 209 = Max.max (Max.max 0 (p.i 209)) (p.ci 0 17 (p.i 200).toNat) := by kernel_rfl
def wB_e0 : IE := (.ite (.and (.and (.and (.not (.lt (.cl 0 0 (.var 220)) (.lit (0 : Int)))) (.lt (.cl 0 0 (.var 220)) (.lit (3 : Int)))) (.not (.lt (.cl 0 1 (.var 220)) (.lit (0 : Int))))) (.lt (.cl 0 1 (.var 220)) (.lit (3 : Int)))) (.ite (.and (.eq (.cl 0 0 (.var 220)) (.lit (0 : Int))) (.eq (.cl 0 1 (.var 220)) (.lit (0 : Int)))) (.op .max .i64 (.ite (.and (.eq (.cl 0 0 (.var 220)) (.lit (0 : Int))) (.eq (.cl 0 1 (.var 220)) (.lit (0 : Int)))) (.var 221) (.ite (.and (.eq (.cl 0 0 (.var 220)) (.lit (0 : Int))) (.eq (.cl 0 1 (.var 220)) (.lit (1 : Int)))) (.var 222) (.ite (.eq (.cl 0 0 (.var 220)) (.lit (0 : Int))) (.var 223) (.ite (.and (.eq (.cl 0 0 (.var 220)) (.lit (1 : Int))) (.eq (.cl 0 1 (.var 220)) (.lit (0 : Int)))) (.var 224) (.ite (.and (.eq (.cl 0 0 (.var 220)) (.lit (1 : Int))) (.eq (.cl 0 1 (.var 220)) (.lit (1 : Int)))) (.var 225) (.ite (.eq (.cl 0 0 (.var 220)) (.lit (1 : Int))) (.var 226) (.ite (.eq (.cl 0 1 (.var 220)) (.lit (0 : Int))) (.var 227) (.ite (.eq (.cl 0 1 (.var 220)) (.lit (1 : Int))) (.var 228) (.var 229))))))))) (.cl 0 2 (.var 220))) (.var 221)) (.var 221))
theorem wB_a0 (p : Rho) : (wB_b.ap p).i 221 = wB_e0.den p := by kernel_rfl
theorem wB_s0 (p : Rho) : (wB_b.ap p).i 221 = if p.ci 0 0 (p.i 220).toNat = 0 ∧ p.ci 0 1 (p.i 220).toNat = 0 then Max.max (p.i 221) (p.ci 0 2 (p.i 220).toNat) else (p.i 221) := by
  rw [wB_a0]
  unfold wB_e0
  by_cases hc : (0 ≤ p.ci 0 0 (p.i 220).toNat ∧ p.ci 0 0 (p.i 220).toNat < 3) ∧ 0 ≤ p.ci 0 1 (p.i 220).toNat ∧ p.ci 0 1 (p.i 220).toNat < 3
  · rcases (by omega : p.ci 0 0 (p.i 220).toNat = 0 ∨ p.ci 0 0 (p.i 220).toNat = 1 ∨ p.ci 0 0 (p.i 220).toNat = 2) with h | h | h <;> rcases (by omega : p.ci 0 1 (p.i 220).toNat = 0 ∨ p.ci 0 1 (p.i 220).toNat = 1 ∨ p.ci 0 1 (p.i 220).toNat = 2) with g | g | g <;> simp [IE.den, BE.den, IOp.den, h, g]
  · rw [if_neg (show ¬ (p.ci 0 0 (p.i 220).toNat = 0 ∧ p.ci 0 1 (p.i 220).toNat = 0) by omega)]
    rcases (by omega : p.ci 0 0 (p.i 220).toNat < 0 ∨ 3 ≤ p.ci 0 0 (p.i 220).toNat ∨ p.ci 0 1 (p.i 220).toNat < 0 ∨ 3 ≤ p.ci 0 1 (p.i 220).toNat) with h | h | h | h
    · have := Int.not_le.2 h
      simp [IE.den, BE.den, IOp.den, h, this]
    · have := Int.not_lt.2 h
      simp [IE.den, BE.den, IOp.den, h, this]
    · have := Int.not_le.2 h
      simp [IE.den, BE.den, IOp.den, h, this]
    · have := Int.not_lt.2 h
      simp [IE.den, BE.den, IOp.den, h, this]
def wB_e1 : IE := (.ite (.and (.and (.and (.not (.lt (.cl 0 0 (.var 220)) (.lit (0 : Int)))) (.lt (.cl 0 0 (.var 220)) (.lit (3 : Int)))) (.not (.lt (.cl 0 1 (.var 220)) (.lit (0 : Int))))) (.lt (.cl 0 1 (.var 220)) (.lit (3 : Int)))) (.ite (.and (.eq (.cl 0 0 (.var 220)) (.lit (0 : Int))) (.eq (.cl 0 1 (.var 220)) (.lit (0 : Int)))) (.var 222) (.ite (.and (.eq (.cl 0 0 (.var 220)) (.lit (0 : Int))) (.eq (.cl 0 1 (.var 220)) (.lit (1 : Int)))) (.op .max .i64 (.ite (.and (.eq (.cl 0 0 (.var 220)) (.lit (0 : Int))) (.eq (.cl 0 1 (.var 220)) (.lit (0 : Int)))) (.var 221) (.ite (.and (.eq (.cl 0 0 (.var 220)) (.lit (0 : Int))) (.eq (.cl 0 1 (.var 220)) (.lit (1 : Int)))) (.var 222) (.ite (.eq (.cl 0 0 (.var 220)) (.lit (0 : Int))) (.var 223) (.ite (.and (.eq (.cl 0 0 (.var 220)) (.lit (1 : Int))) (.eq (.cl 0 1 (.var 220)) (.lit (0 : Int)))) (.var 224) (.ite (.and (.eq (.cl 0 0 (.var 220)) (.lit (1 : Int))) (.eq (.cl 0 1 (.var 220)) (.lit (1 : Int)))) (.var 225) (.ite (.eq (.cl 0 0 (.var 220)) (.lit (1 : Int))) (.var 226) (.ite (.eq (.cl 0 1 (.var 220)) (.lit (0 : Int))) (.var 227) (.ite (.eq (.cl 0 1 (.var 220)) (.lit (1 : Int))) (.var 228) (.var 229))))))))) (.cl 0 2 (.var 220))) (.var 222))) (.var 222))
theorem wB_a1 (p : Rho) : (wB_b.ap p).i 222 = wB_e1.den p := by kernel_rfl
theorem wB_s1 (p : Rho) : (wB_b.ap p).i 222 = if p.ci 0 0 (p.i 220).toNat = 0 ∧ p.ci 0 1 (p.i 220).toNat = 1 then Max.max (p.i 222) (p.ci 0 2 (p.i 220).toNat) else (p.i 222) := by
  rw [wB_a1]
  unfold wB_e1
  by_cases hc : (0 ≤ p.ci 0 0 (p.i 220).toNat ∧ p.ci 0 0 (p.i 220).toNat < 3) ∧ 0 ≤ p.ci 0 1 (p.i 220).toNat ∧ p.ci 0 1 (p.i 220).toNat < 3
  · rcases (by omega : p.ci 0 0 (p.i 220).toNat = 0 ∨ p.ci 0 0 (p.i 220).toNat = 1 ∨ p.ci 0 0 (p.i 220).toNat = 2) with h | h | h <;> rcases (by omega : p.ci 0 1 (p.i 220).toNat = 0 ∨ p.ci 0 1 (p.i 220).toNat = 1 ∨ p.ci 0 1 (p.i 220).toNat = 2) with g | g | g <;> simp [IE.den, BE.den, IOp.den, h, g]
  · rw [if_neg (show ¬ (p.ci 0 0 (p.i 220).toNat = 0 ∧ p.ci 0 1 (p.i 220).toNat = 1) by omega)]
    rcases (by omega : p.ci 0 0 (p.i 220).toNat < 0 ∨ 3 ≤ p.ci 0 0 (p.i 220).toNat ∨ p.ci 0 1 (p.i 220).toNat < 0 ∨ 3 ≤ p.ci 0 1 (p.i 220).toNat) with h | h | h | h
    · have := Int.not_le.2 h
      simp [IE.den, BE.den, IOp.den, h, this]
    · have := Int.not_lt.2 h
      simp [IE.den, BE.den, IOp.den, h, this]
    · have := Int.not_le.2 h
      simp [IE.den, BE.den, IOp.den, h, this]
    · have := Int.not_lt.2 h
      simp [IE.den, BE.den, IOp.den, h, this]
def wB_e2 : IE := (.ite (.and (.and (.and (.not (.lt (.cl 0 0 (.var 220)) (.lit (0 : Int)))) (.lt (.cl 0 0 (.var 220)) (.lit (3 : Int)))) (.not (.lt (.cl 0 1 (.var 220)) (.lit (0 : Int))))) (.lt (.cl 0 1 (.var 220)) (.lit (3 : Int)))) (.ite (.and (.eq (.cl 0 0 (.var 220)) (.lit (0 : Int))) (.eq (.cl 0 1 (.var 220)) (.lit (0 : Int)))) (.var 223) (.ite (.and (.eq (.cl 0 0 (.var 220)) (.lit (0 : Int))) (.eq (.cl 0 1 (.var 220)) (.lit (1 : Int)))) (.var 223) (.ite (.eq (.cl 0 0 (.var 220)) (.lit (0 : Int))) (.op .max .i64 (.ite (.and (.eq (.cl 0 0 (.var 220)) (.lit (0 : Int))) (.eq (.cl 0 1 (.var 220)) (.lit (0 : Int)))) (.var 221) (.ite (.and (.eq (.cl 0 0 (.var 220)) (.lit (0 : Int))) (.eq (.cl 0 1 (.var 220)) (.lit (1 : Int)))) (.var 222) (.ite (.eq (.cl 0 0 (.var 220)) (.lit (0 : Int))) (.var 223) (.ite (.and (.eq (.cl 0 0 (.var 220)) (.lit (1 : Int))) (.eq (.cl 0 1 (.var 220)) (.lit (0 : Int)))) (.var 224) (.ite (.and (.eq (.cl 0 0 (.var 220)) (.lit (1 : Int))) (.eq (.cl 0 1 (.var 220)) (.lit (1 : Int)))) (.var 225) (.ite (.eq (.cl 0 0 (.var 220)) (.lit (1 : Int))) (.var 226) (.ite (.eq (.cl 0 1 (.var 220)) (.lit (0 : Int))) (.var 227) (.ite (.eq (.cl 0 1 (.var 220)) (.lit (1 : Int))) (.var 228) (.var 229))))))))) (.cl 0 2 (.var 220))) (.var 223)))) (.var 223))
theorem wB_a2 (p : Rho) : (wB_b.ap p).i 223 = wB_e2.den p := by kernel_rfl
theorem wB_s2 (p : Rho) : (wB_b.ap p).i 223 = if p.ci 0 0 (p.i 220).toNat = 0 ∧ p.ci 0 1 (p.i 220).toNat = 2 then Max.max (p.i 223) (p.ci 0 2 (p.i 220).toNat) else (p.i 223) := by
  rw [wB_a2]
  unfold wB_e2
  by_cases hc : (0 ≤ p.ci 0 0 (p.i 220).toNat ∧ p.ci 0 0 (p.i 220).toNat < 3) ∧ 0 ≤ p.ci 0 1 (p.i 220).toNat ∧ p.ci 0 1 (p.i 220).toNat < 3
  · rcases (by omega : p.ci 0 0 (p.i 220).toNat = 0 ∨ p.ci 0 0 (p.i 220).toNat = 1 ∨ p.ci 0 0 (p.i 220).toNat = 2) with h | h | h <;> rcases (by omega : p.ci 0 1 (p.i 220).toNat = 0 ∨ p.ci 0 1 (p.i 220).toNat = 1 ∨ p.ci 0 1 (p.i 220).toNat = 2) with g | g | g <;> simp [IE.den, BE.den, IOp.den, h, g]
  · rw [if_neg (show ¬ (p.ci 0 0 (p.i 220).toNat = 0 ∧ p.ci 0 1 (p.i 220).toNat = 2) by omega)]
    rcases (by omega : p.ci 0 0 (p.i 220).toNat < 0 ∨ 3 ≤ p.ci 0 0 (p.i 220).toNat ∨ p.ci 0 1 (p.i 220).toNat < 0 ∨ 3 ≤ p.ci 0 1 (p.i 220).toNat) with h | h | h | h
    · have := Int.not_le.2 h
      simp [IE.den, BE.den, IOp.den, h, this]
    · have := Int.not_lt.2 h
      simp [IE.den, BE.den, IOp.den, h, this]
    · have := Int.not_le.2 h
      simp [IE.den, BE.den, IOp.den, h, this]
    · have := Int.not_lt.2 h
      simp [IE.den, BE.den, IOp.den, h, this]
def wB_e3 : IE := (.ite (.and (.and (.and (.not (.lt (.cl 0 0 (.var 220)) (.lit (0 : Int)))) (.lt (.cl 0 0 (.var 220)) (.lit (3 : Int)))) (.not (.lt (.cl 0 1 (.var 220)) (.lit (0 : Int))))) (.lt (.cl 0 1 (.var 220)) (.lit (3 : Int)))) (.ite (.and (.eq (.cl 0 0 (.var 220)) (.lit (0 : Int))) (.eq (.cl 0 1 (.var 220)) (.lit (0 : Int)))) (.var 224) (.ite (.and (.eq (.cl 0 0 (.var 220)) (.lit (0 : Int))) (.eq (.cl 0 1 (.var 220)) (.lit (1 : Int)))) (.var 224) (.ite (.eq (.cl 0 0 (.var 220)) (.lit (0 : Int))) (.var 224) (.ite (.and (.eq (.cl 0 0 (.var 220)) (.lit (1 : Int))) (.eq (.cl 0 1 (.var 220)) (.lit (0 : Int)))) (.op .max .i64 (.ite (.and (.eq (.cl 0 0 (.var 220)) (.lit (0 : Int))) (.eq (.cl 0 1 (.var 220)) (.lit (0 : Int)))) (.var 221) (.ite (.and (.eq (.cl 0 0 (.var 220)) (.lit (0 : Int))) (.eq (.cl 0 1 (.var 220)) (.lit (1 : Int)))) (.var 222) (.ite (.eq (.cl 0 0 (.var 220)) (.lit (0 : Int))) (.var 223) (.ite (.and (.eq (.cl 0 0 (.var 220)) (.lit (1 : Int))) (.eq (.cl 0 1 (.var 220)) (.lit (0 : Int)))) (.var 224) (.ite (.and (.eq (.cl 0 0 (.var 220)) (.lit (1 : Int))) (.eq (.cl 0 1 (.var 220)) (.lit (1 : Int)))) (.var 225) (.ite (.eq (.cl 0 0 (.var 220)) (.lit (1 : Int))) (.var 226) (.ite (.eq (.cl 0 1 (.var 220)) (.lit (0 : Int))) (.var 227) (.ite (.eq (.cl 0 1 (.var 220)) (.lit (1 : Int))) (.var 228) (.var 229))))))))) (.cl 0 2 (.var 220))) (.var 224))))) (.var 224))
theorem wB_a3 (p : Rho) : (wB_b.ap p).i 224 = wB_e3.den p := by kernel_rfl
theorem wB_s3 (p : Rho) : (wB_b.ap p).i 224 = if p.ci 0 0 (p.i 220).toNat = 1 ∧ p.ci 0 1 (p.i 220).toNat = 0 then Max.max (p.i 224) (p.ci 0 2 (p.i 220).toNat) else (p.i 224) := by
  rw [wB_a3]
  unfold wB_e3
  by_cases hc : (0 ≤ p.ci 0 0 (p.i 220).toNat ∧ p.ci 0 0 (p.i 220).toNat < 3) ∧ 0 ≤ p.ci 0 1 (p.i 220).toNat ∧ p.ci 0 1 (p.i 220).toNat < 3
  · rcases (by omega : p.ci 0 0 (p.i 220).toNat = 0 ∨ p.ci 0 0 (p.i 220).toNat = 1 ∨ p.ci 0 0 (p.i 220).toNat = 2) with h | h | h <;> rcases (by omega : p.ci 0 1 (p.i 220).toNat = 0 ∨ p.ci 0 1 (p.i 220).toNat = 1 ∨ p.ci 0 1 (p.i 220).toNat = 2) with g | g | g <;> simp [IE.den, BE.den, IOp.den, h, g]
  · rw [if_neg (show ¬ (p.ci 0 0 (p.i 220).toNat = 1 ∧ p.ci 0 1 (p.i 220).toNat = 0) by omega)]
    rcases (by omega : p.ci 0 0 (p.i 220).toNat < 0 ∨ 3 ≤ p.ci 0 0 (p.i 220).toNat ∨ p.ci 0 1 (p.i 220).toNat < 0 ∨ 3 ≤ p.ci 0 1 (p.i 220).toNat) with h | h | h | h
    · have := Int.not_le.2 h
      simp [IE.den, BE.den, IOp.den, h, this]
    · have := Int.not_lt.2 h
      simp [IE.den, BE.den, IOp.den, h, this]
    · have := Int.not_le.2 h
      simp [IE.den, BE.den, IOp.den, h, this]
    · have := Int.not_lt.2 h
      simp [IE.den, BE.den, IOp.den, h, this]
def wB_e4 : IE := (.ite (.and (.and (.and (.not (.lt (.cl 0 0 (.var 220)) (.lit (0 : Int)))) (.lt (.cl 0 0 (.var 220)) (.lit (3 : Int)))) (.not (.lt (.cl 0 1 (.var 220)) (.lit (0 : Int))))) (.lt (.cl 0 1 (.var 220)) (.lit (3 : Int)))) (.ite (.and (.eq (.cl 0 0 (.var 220)) (.lit (0 : Int))) (.eq (.cl 0 1 (.var 220)) (.lit (0 : Int)))) (.var 225) (.ite (.and (.eq (.cl 0 0 (.var 220)) (.lit (0 : Int))) (.eq (.cl 0 1 (.var 220)) (.lit (1 : Int)))) (.var 225) (.ite (.eq (.cl 0 0 (.var 220)) (.lit (0 : Int))) (.var 225) (.ite (.and (.eq (.cl 0 0 (.var 220)) (.lit (1 : Int))) (.eq (.cl 0 1 (.var 220)) (.lit (0 : Int)))) (.var 225) (.ite (.and (.eq (.cl 0 0 (.var 220)) (.lit (1 : Int))) (.eq (.cl 0 1 (.var 220)) (.lit (1 : Int)))) (.op .max .i64 (.ite (.and (.eq (.cl 0 0 (.var 220)) (.lit (0 : Int))) (.eq (.cl 0 1 (.var 220)) (.lit (0 : Int)))) (.var 221) (.ite (.and (.eq (.cl 0 0 (.var 220)) (.lit (0 : Int))) (.eq (.cl 0 1 (.var 220)) (.lit (1 : Int)))) (.var 222) (.ite (.eq (.cl 0 0 (.var 220)) (.lit (0 : Int))) (.var 223) (.ite (.and (.eq (.cl 0 0 (.var 220)) (.lit (1 : Int))) (.eq (.cl 0 1 (.var 220)) (.lit (0 : Int)))) (.var 224) (.ite (.and (.eq (.cl 0 0 (.var 220)) (.lit (1 : Int))) (.eq (.cl 0 1 (.var 220)) (.lit (1 : Int)))) (.var 225) (.ite (.eq (.cl 0 0 (.var 220)) (.lit (1 : Int))) (.var 226) (.ite (.eq (.cl 0 1 (.var 220)) (.lit (0 : Int))) (.var 227) (.ite (.eq (.cl 0 1 (.var 220)) (.lit (1 : Int))) (.var 228) (.var 229))))))))) (.cl 0 2 (.var 220))) (.var 225)))))) (.var 225))
theorem wB_a4 (p : Rho) : (wB_b.ap p).i 225 = wB_e4.den p := by kernel_rfl
theorem wB_s4 (p : Rho) : (wB_b.ap p).i 225 = if p.ci 0 0 (p.i 220).toNat = 1 ∧ p.ci 0 1 (p.i 220).toNat = 1 then Max.max (p.i 225) (p.ci 0 2 (p.i 220).toNat) else (p.i 225) := by
  rw [wB_a4]
  unfold wB_e4
  by_cases hc : (0 ≤ p.ci 0 0 (p.i 220).toNat ∧ p.ci 0 0 (p.i 220).toNat < 3) ∧ 0 ≤ p.ci 0 1 (p.i 220).toNat ∧ p.ci 0 1 (p.i 220).toNat < 3
  · rcases (by omega : p.ci 0 0 (p.i 220).toNat = 0 ∨ p.ci 0 0 (p.i 220).toNat = 1 ∨ p.ci 0 0 (p.i 220).toNat = 2) with h | h | h <;> rcases (by omega : p.ci 0 1 (p.i 220).toNat = 0 ∨ p.ci 0 1 (p.i 220).toNat = 1 ∨ p.ci 0 1 (p.i 220).toNat = 2) with g | g | g <;> simp [IE.den, BE.den, IOp.den, h, g]
  · rw [if_neg (show ¬ (p.ci 0 0 (p.i 220).toNat = 1 ∧ p.ci 0 1 (p.i 220).toNat = 1) by omega)]
    rcases (by omega : p.ci 0 0 (p.i 220).toNat < 0 ∨ 3 ≤ p.ci 0 0 (p.i 220).toNat ∨ p.ci 0 1 (p.i 220).toNat < 0 ∨ 3 ≤ p.ci 0 1 (p.i 220).toNat) with h | h | h | h
    · have := Int.not_le.2 h
      simp [IE.den, BE.den, IOp.den, h, this]
    · have := Int.not_lt.2 h
      simp [IE.den, BE.den, IOp.den, h, this]
    · have := Int.not_le.2 h
      simp [IE.den, BE.den, IOp.den, h, this]
    · have := Int.not_lt.2 h
      simp [IE.den, BE.den, IOp.den, h, this]
def wB_e5 : IE := (.ite (.and (.and (.and (.not (.lt (.cl 0 0 (.var 220)) (.lit (0 : Int)))) (.lt (.cl 0 0 (.var 220)) (.lit (3 : Int)))) (.not (.lt (.cl 0 1 (.var 220)) (.lit (0 : Int))))) (.lt (.cl 0 1 (.var 220)) (.lit (3 : Int)))) (.ite (.and (.eq (.cl 0 0 (.var 220)) (.lit (0 : Int))) (.eq (.cl 0 1 (.var 220)) (.lit (0 : Int)))) (.var 226) (.ite (.and (.eq (.cl 0 0 (.var 220)) (.lit (0 : Int))) (.eq (.cl 0 1 (.var 220)) (.lit (1 : Int)))) (.var 226) (.ite (.eq (.cl 0 0 (.var 220)) (.lit (0 : Int))) (.var 226) (.ite (.and (.eq (.cl 0 0 (.var 220)) (.lit (1 : Int))) (.eq (.cl 0 1 (.var 220)) (.lit (0 : Int)))) (.var 226) (.ite (.and (.eq (.cl 0 0 (.var 220)) (.lit (1 : Int))) (.eq (.cl 0 1 (.var 220)) (.lit (1 : Int)))) (.var 226) (.ite (.eq (.cl 0 0 (.var 220)) (.lit (1 : Int))) (.op .max .i64 (.ite (.and (.eq (.cl 0 0 (.var 220)) (.lit (0 : Int))) (.eq (.cl 0 1 (.var 220)) (.lit (0 : Int)))) (.var 221) (.ite (.and (.eq (.cl 0 0 (.var 220)) (.lit (0 : Int))) (.eq (.cl 0 1 (.var 220)) (.lit (1 : Int)))) (.var 222) (.ite (.eq (.cl 0 0 (.var 220)) (.lit (0 : Int))) (.var 223) (.ite (.and (.eq (.cl 0 0 (.var 220)) (.lit (1 : Int))) (.eq (.cl 0 1 (.var 220)) (.lit (0 : Int)))) (.var 224) (.ite (.and (.eq (.cl 0 0 (.var 220)) (.lit (1 : Int))) (.eq (.cl 0 1 (.var 220)) (.lit (1 : Int)))) (.var 225) (.ite (.eq (.cl 0 0 (.var 220)) (.lit (1 : Int))) (.var 226) (.ite (.eq (.cl 0 1 (.var 220)) (.lit (0 : Int))) (.var 227) (.ite (.eq (.cl 0 1 (.var 220)) (.lit (1 : Int))) (.var 228) (.var 229))))))))) (.cl 0 2 (.var 220))) (.var 226))))))) (.var 226))
theorem wB_a5 (p : Rho) : (wB_b.ap p).i 226 = wB_e5.den p := by kernel_rfl
theorem wB_s5 (p : Rho) : (wB_b.ap p).i 226 = if p.ci 0 0 (p.i 220).toNat = 1 ∧ p.ci 0 1 (p.i 220).toNat = 2 then Max.max (p.i 226) (p.ci 0 2 (p.i 220).toNat) else (p.i 226) := by
  rw [wB_a5]
  unfold wB_e5
  by_cases hc : (0 ≤ p.ci 0 0 (p.i 220).toNat ∧ p.ci 0 0 (p.i 220).toNat < 3) ∧ 0 ≤ p.ci 0 1 (p.i 220).toNat ∧ p.ci 0 1 (p.i 220).toNat < 3
  · rcases (by omega : p.ci 0 0 (p.i 220).toNat = 0 ∨ p.ci 0 0 (p.i 220).toNat = 1 ∨ p.ci 0 0 (p.i 220).toNat = 2) with h | h | h <;> rcases (by omega : p.ci 0 1 (p.i 220).toNat = 0 ∨ p.ci 0 1 (p.i 220).toNat = 1 ∨ p.ci 0 1 (p.i 220).toNat = 2) with g | g | g <;> simp [IE.den, BE.den, IOp.den, h, g]
  · rw [if_neg (show ¬ (p.ci 0 0 (p.i 220).toNat = 1 ∧ p.ci 0 1 (p.i 220).toNat = 2) by omega)]
    rcases (by omega : p.ci 0 0 (p.i 220).toNat < 0 ∨ 3 ≤ p.ci 0 0 (p.i 220).toNat ∨ p.ci 0 1 (p.i 220).toNat < 0 ∨ 3 ≤ p.ci 0 1 (p.i 220).toNat) with h | h | h | h
    · have := Int.not_le.2 h
      simp [IE.den, BE.den, IOp.den, h, this]
    · have := Int.not_lt.2 h
      simp [IE.den, BE.den, IOp.den, h, this]
    · have := Int.not_le.2 h
      simp [IE.den, BE.den, IOp.den, h, this]
    · have := Int.not_lt.2 h
      simp [IE.den, BE.den, IOp.den, h, this]
def wB_e6 : IE := (.ite (.and (.and (.and (.not (.lt (.cl 0 0 (.var 220)) (.lit (0 : Int)))) (.lt (.cl 0 0 (.var 220)) (.lit (3 : Int)))) (.not (.lt (.cl 0 1 (.var 220)) (.lit (0 : Int))))) (.lt (.cl 0 1 (.var 220)) (.lit (3 : Int)))) (.ite (.and (.eq (.cl 0 0 (.var 220)) (.lit (0 : Int))) (.eq (.cl 0 1 (.var 220)) (.lit (0 : Int)))) (.var 227) (.ite (.and (.eq (.cl 0 0 (.var 220)) (.lit (0 : Int))) (.eq (.cl 0 1 (.var 220)) (.lit (1 : Int)))) (.var 227) (.ite (.eq (.cl 0 0 (.var 220)) (.lit (0 : Int))) (.var 227) (.ite (.and (.eq (.cl 0 0 (.var 220)) (.lit (1 : Int))) (.eq (.cl 0 1 (.var 220)) (.lit (0 : Int)))) (.var 227) (.ite (.and (.eq (.cl 0 0 (.var 220)) (.lit (1 : Int))) (.eq (.cl 0 1 (.var 220)) (.lit (1 : Int)))) (.var 227) (.ite (.eq (.cl 0 0 (.var 220)) (.lit (1 : Int))) (.var 227) (.ite (.eq (.cl 0 1 (.var 220)) (.lit (0 : Int))) (.op .max .i64 (.ite (.and (.eq (.cl 0 0 (.var 220)) (.lit (0 : Int))) (.eq (.cl 0 1 (.var 220)) (.lit (0 : Int)))) (.var 221) (.ite (.and (.eq (.cl 0 0 (.var 220)) (.lit (0 : Int))) (.eq (.cl 0 1 (.var 220)) (.lit (1 : Int)))) (.var 222) (.ite (.eq (.cl 0 0 (.var 220)) (.lit (0 : Int))) (.var 223) (.ite (.and (.eq (.cl 0 0 (.var 220)) (.lit (1 : Int))) (.eq (.cl 0 1 (.var 220)) (.lit (0 : Int)))) (.var 224) (.ite (.and (.eq (.cl 0 0 (.var 220)) (.lit (1 : Int))) (.eq (.cl 0 1 (.var 220)) (.lit (1 : Int)))) (.var 225) (.ite (.eq (.cl 0 0 (.var 220)) (.lit (1 : Int))) (.var 226) (.ite (.eq (.cl 0 1 (.var 220)) (.lit (0 : Int))) (.var 227) (.ite (.eq (.cl 0 1 (.var 220)) (.lit (1 : Int))) (.var 228) (.var 229))))))))) (.cl 0 2 (.var 220))) (.var 227)))))))) (.var 227))
theorem wB_a6 (p : Rho) : (wB_b.ap p).i 227 = wB_e6.den p := by kernel_rfl
theorem wB_s6 (p : Rho) : (wB_b.ap p).i 227 = if p.ci 0 0 (p.i 220).toNat = 2 ∧ p.ci 0 1 (p.i 220).toNat = 0 then Max.max (p.i 227) (p.ci 0 2 (p.i 220).toNat) else (p.i 227) := by
  rw [wB_a6]
  unfold wB_e6
  by_cases hc : (0 ≤ p.ci 0 0 (p.i 220).toNat ∧ p.ci 0 0 (p.i 220).toNat < 3) ∧ 0 ≤ p.ci 0 1 (p.i 220).toNat ∧ p.ci 0 1 (p.i 220).toNat < 3
  · rcases (by omega : p.ci 0 0 (p.i 220).toNat = 0 ∨ p.ci 0 0 (p.i 220).toNat = 1 ∨ p.ci 0 0 (p.i 220).toNat = 2) with h | h | h <;> rcases (by omega : p.ci 0 1 (p.i 220).toNat = 0 ∨ p.ci 0 1 (p.i 220).toNat = 1 ∨ p.ci 0 1 (p.i 220).toNat = 2) with g | g | g <;> simp [IE.den, BE.den, IOp.den, h, g]
  · rw [if_neg (show ¬ (p.ci 0 0 (p.i 220).toNat = 2 ∧ p.ci 0 1 (p.i 220).toNat = 0) by omega)]
    rcases (by omega : p.ci 0 0 (p.i 220).toNat < 0 ∨ 3 ≤ p.ci 0 0 (p.i 220).toNat ∨ p.ci 0 1 (p.i 220).toNat < 0 ∨ 3 ≤ p.ci 0 1 (p.i 220).toNat) with h | h | h | h
    · have := Int.not_le.2 h
      simp [IE.den, BE.den, IOp.den, h, this]
    · have := Int.not_lt.2 h
      simp [IE.den, BE.den, IOp.den, h, this]
    · have := Int.not_le.2 h
      simp [IE.den, BE.den, IOp.den, h, this]
    · have := Int.not_lt.2 h
      simp [IE.den, BE.den, IOp.den, h, this]
def wB_e7 : IE := (.ite (.and (.and (.and (.not (.lt (.cl 0 0 (.var 220)) (.lit (0 : Int)))) (.lt (.cl 0 0 (.var 220)) (.lit (3 : Int)))) (.not (.lt (.cl 0 1 (.var 220)) (.lit (0 : Int))))) (.lt (.cl 0 1 (.var 220)) (.lit (3 : Int)))) (.ite (.and (.eq (.cl 0 0 (.var 220)) (.lit (0 : Int))) (.eq (.cl 0 1 (.var 220)) (.lit (0 : Int)))) (.var 228) (.ite (.and (.eq (.cl 0 0 (.var 220)) (.lit (0 : Int))) (.eq (.cl 0 1 (.var 220)) (.lit (1 : Int)))) (.var 228) (.ite (.eq (.cl 0 0 (.var 220)) (.lit (0 : Int))) (.var 228) (.ite (.and (.eq (.cl 0 0 (.var 220)) (.lit (1 : Int))) (.eq (.cl 0 1 (.var 220)) (.lit (0 : Int)))) (.var 228) (.ite (.and (.eq (.cl 0 0 (.var 220)) (.lit (1 : Int))) (.eq (.cl 0 1 (.var 220)) (.lit (1 : Int)))) (.var 228) (.ite (.eq (.cl 0 0 (.var 220)) (.lit (1 : Int))) (.var 228) (.ite (.eq (.cl 0 1 (.var 220)) (.lit (0 : Int))) (.var 228) (.ite (.eq (.cl 0 1 (.var 220)) (.lit (1 : Int))) (.op .max .i64 (.ite (.and (.eq (.cl 0 0 (.var 220)) (.lit (0 : Int))) (.eq (.cl 0 1 (.var 220)) (.lit (0 : Int)))) (.var 221) (.ite (.and (.eq (.cl 0 0 (.var 220)) (.lit (0 : Int))) (.eq (.cl 0 1 (.var 220)) (.lit (1 : Int)))) (.var 222) (.ite (.eq (.cl 0 0 (.var 220)) (.lit (0 : Int))) (.var 223) (.ite (.and (.eq (.cl 0 0 (.var 220)) (.lit (1 : Int))) (.eq (.cl 0 1 (.var 220)) (.lit (0 : Int)))) (.var 224) (.ite (.and (.eq (.cl 0 0 (.var 220)) (.lit (1 : Int))) (.eq (.cl 0 1 (.var 220)) (.lit (1 : Int)))) (.var 225) (.ite (.eq (.cl 0 0 (.var 220)) (.lit (1 : Int))) (.var 226) (.ite (.eq (.cl 0 1 (.var 220)) (.lit (0 : Int))) (.var 227) (.ite (.eq (.cl 0 1 (.var 220)) (.lit (1 : Int))) (.var 228) (.var 229))))))))) (.cl 0 2 (.var 220))) (.var 228))))))))) (.var 228))
theorem wB_a7 (p : Rho) : (wB_b.ap p).i 228 = wB_e7.den p := by kernel_rfl
theorem wB_s7 (p : Rho) : (wB_b.ap p).i 228 = if p.ci 0 0 (p.i 220).toNat = 2 ∧ p.ci 0 1 (p.i 220).toNat = 1 then Max.max (p.i 228) (p.ci 0 2 (p.i 220).toNat) else (p.i 228) := by
  rw [wB_a7]
  unfold wB_e7
  by_cases hc : (0 ≤ p.ci 0 0 (p.i 220).toNat ∧ p.ci 0 0 (p.i 220).toNat < 3) ∧ 0 ≤ p.ci 0 1 (p.i 220).toNat ∧ p.ci 0 1 (p.i 220).toNat < 3
  · rcases (by omega : p.ci 0 0 (p.i 220).toNat = 0 ∨ p.ci 0 0 (p.i 220).toNat = 1 ∨ p.ci 0 0 (p.i 220).toNat = 2) with h | h | h <;> rcases (by omega : p.ci 0 1 (p.i 220).toNat = 0 ∨ p.ci 0 1 (p.i 220).toNat = 1 ∨ p.ci 0 1 (p.i 220).toNat = 2) with g | g | g <;> simp [IE.den, BE.den, IOp.den, h, g]
  · rw [if_neg (show ¬ (p.ci 0 0 (p.i 220).toNat = 2 ∧ p.ci 0 1 (p.i 220).toNat = 1) by omega)]
    rcases (by omega : p.ci 0 0 (p.i 220).toNat < 0 ∨ 3 ≤ p.ci 0 0 (p.i 220).toNat ∨ p.ci 0 1 (p.i 220).toNat < 0 ∨ 3 ≤ p.ci 0 1 (p.i 220).toNat) with h | h | h | h
    · have := Int.not_le.2 h
      simp [IE.den, BE.den, IOp.den, h, this]
    · have := Int.not_lt.2 h
      simp [IE.den, BE.den, IOp.den, h, this]
    · have := Int.not_le.2 h
      simp [IE.den, BE.den, IOp.den, h, this]
    · have := Int.not_lt.2 h
      simp [IE.den, BE.den, IOp.den, h, this]
def wB_e8 : IE := (.ite (.and (.and (.and (.not (.lt (.cl 0 0 (.var 220)) (.lit (0 : Int)))) (.lt (.cl 0 0 (.var 220)) (.lit (3 : Int)))) (.not (.lt (.cl 0 1 (.var 220)) (.lit (0 : Int))))) (.lt (.cl 0 1 (.var 220)) (.lit (3 : Int)))) (.ite (.and (.eq (.cl 0 0 (.var 220)) (.lit (0 : Int))) (.eq (.cl 0 1 (.var 220)) (.lit (0 : Int)))) (.var 229) (.ite (.and (.eq (.cl 0 0 (.var 220)) (.lit (0 : Int))) (.eq (.cl 0 1 (.var 220)) (.lit (1 : Int)))) (.var 229) (.ite (.eq (.cl 0 0 (.var 220)) (.lit (0 : Int))) (.var 229) (.ite (.and (.eq (.cl 0 0 (.var 220)) (.lit (1 : Int))) (.eq (.cl 0 1 (.var 220)) (.lit (0 : Int)))) (.var 229) (.ite (.and (.eq (.cl 0 0 (.var 220)) (.lit (1 : Int))) (.eq (.cl 0 1 (.var 220)) (.lit (1 : Int)))) (.var 229) (.ite (.eq (.cl 0 0 (.var 220)) (.lit (1 : Int))) (.var 229) (.ite (.eq (.cl 0 1 (.var 220)) (.lit (0 : Int))) (.var 229) (.ite (.eq (.cl 0 1 (.var 220)) (.lit (1 : Int))) (.var 229) (.op .max .i64 (.ite (.and (.eq (.cl 0 0 (.var 220)) (.lit (0 : Int))) (.eq (.cl 0 1 (.var 220)) (.lit (0 : Int)))) (.var 221) (.ite (.and (.eq (.cl 0 0 (.var 220)) (.lit (0 : Int))) (.eq (.cl 0 1 (.var 220)) (.lit (1 : Int)))) (.var 222) (.ite (.eq (.cl 0 0 (.var 220)) (.lit (0 : Int))) (.var 223) (.ite (.and (.eq (.cl 0 0 (.var 220)) (.lit (1 : Int))) (.eq (.cl 0 1 (.var 220)) (.lit (0 : Int)))) (.var 224) (.ite (.and (.eq (.cl 0 0 (.var 220)) (.lit (1 : Int))) (.eq (.cl 0 1 (.var 220)) (.lit (1 : Int)))) (.var 225) (.ite (.eq (.cl 0 0 (.var 220)) (.lit (1 : Int))) (.var 226) (.ite (.eq (.cl 0 1 (.var 220)) (.lit (0 : Int))) (.var 227) (.ite (.eq (.cl 0 1 (.var 220)) (.lit (1 : Int))) (.var 228) (.var 229))))))))) (.cl 0 2 (.var 220))))))))))) (.var 229))
theorem wB_a8 (p : Rho) : (wB_b.ap p).i 229 = wB_e8.den p := by kernel_rfl
theorem wB_s8 (p : Rho) : (wB_b.ap p).i 229 = if p.ci 0 0 (p.i 220).toNat = 2 ∧ p.ci 0 1 (p.i 220).toNat = 2 then Max.max (p.i 229) (p.ci 0 2 (p.i 220).toNat) else (p.i 229) := by
  rw [wB_a8]
  unfold wB_e8
  by_cases hc : (0 ≤ p.ci 0 0 (p.i 220).toNat ∧ p.ci 0 0 (p.i 220).toNat < 3) ∧ 0 ≤ p.ci 0 1 (p.i 220).toNat ∧ p.ci 0 1 (p.i 220).toNat < 3
  · rcases (by omega : p.ci 0 0 (p.i 220).toNat = 0 ∨ p.ci 0 0 (p.i 220).toNat = 1 ∨ p.ci 0 0 (p.i 220).toNat = 2) with h | h | h <;> rcases (by omega : p.ci 0 1 (p.i 220).toNat = 0 ∨ p.ci 0 1 (p.i 220).toNat = 1 ∨ p.ci 0 1 (p.i 220).toNat = 2) with g | g | g <;> simp [IE.den, BE.den, IOp.den, h, g]
  · rw [if_neg (show ¬ (p.ci 0 0 (p.i 220).toNat = 2 ∧ p.ci 0 1 (p.i 220).toNat = 2) by omega)]
    rcases (by omega : p.ci 0 0 (p.i 220).toNat < 0 ∨ 3 ≤ p.ci 0 0 (p.i 220).toNat ∨ p.ci 0 1 (p.i 220).toNat < 0 ∨ 3 ≤ p.ci 0 1 (p.i 220).toNat) with h | h | h | h
    · have := Int.not_le.2 h
      simp [IE.den, BE.den, IOp.den, h, this]
    · have := Int.not_lt.2 h
      simp [IE.den, BE.den, IOp.den, h, this]
    · have := Int.not_le.2 h
      simp [IE.den, BE.den, IOp.den, h, this]
    · have := Int.not_lt.2 h
      simp [IE.den, BE.den, IOp.den, h, this]
theorem wC_s0 (p : Rho) : (wC_b.ap p).i 241 = Max.max (Max.max 0 (p.i 241)) (p.ci 0 9 (p.i 240).toNat) := by kernel_rfl
theorem wC_s1 (p : Rho) : (wC_b.ap p).i 242 = Max.max (Max.max 0 (p.i 242)) (p.ci 0 10 (p.i 240).toNat) := by kernel_rfl
theorem wC_s2 (p : Rho) : (wC_b.ap p).i 243 = Max.max (Max.max 0 (p.i 243)) (p.ci 0 11 (p.i 240).toNat) := by kernel_rfl
theorem wC_s3 (p : Rho) : (wC_b.ap p).i 244 = Max.max (Max.max 0 (p.i 244)) (p.ci 0 12 (p.i 240).toNat) := by kernel_rfl
theorem wC_s4 (p : Rho) : (wC_b.ap p).i 245 = Max.max (Max.max 0 (p.i 245)) (p.ci 0 13 (p.i 240).toNat) := by kernel_rfl
theorem wC_s5 (p : Rho) : (wC_b.ap p).i 246 = Max.max (Max.max 0 (p.i 246)) (p.ci 0 14 (p.i 240).toNat) := by kernel_rfl
theorem wC_s6 (p : Rho) : (wC_b.ap p).i 247 = Max.max (Max.max 0 (p.i 247)) (p.ci 0 15 (p.i 240).toNat) := by kernel_rfl
theorem wC_s7 (p : Rho) : (wC_b.ap p).i 248 = Max.max (Max.max 0 (p.i 248)) (p.ci 0 16 (p.i 240).toNat) := by kernel_rfl
theorem wC_s8 (p : Rho) : (wC_b.ap p).i 249 = Max.max (Max.max 0 (p.i 249)) (p.ci 0 17 (p.i 240).toNat) := by kernel_rfl
def wD_e0 : IE := (.ite (.and (.and (.and (.not (.lt (.cl 0 0 (.var 260)) (.lit (0 : Int)))) (.lt (.cl 0 0 (.var 260)) (.lit (3 : Int)))) (.not (.lt (.cl 0 1 (.var 260)) (.lit (0 : Int))))) (.lt (.cl 0 1 (.var 260)) (.lit (3 : Int)))) (.ite (.and (.eq (.cl 0 0 (.var 260)) (.lit (0 : Int))) (.eq (.cl 0 1 (.var 260)) (.lit (0 : Int)))) (.op .max .i64 (.ite (.and (.eq (.cl 0 0 (.var 260)) (.lit (0 : Int))) (.eq (.cl 0 1 (.var 260)) (.lit (0 : Int)))) (.var 261) (.ite (.and (.eq (.cl 0 0 (.var 260)) (.lit (0 : Int))) (.eq (.cl 0 1 (.var 260)) (.lit (1 : Int)))) (.var 262) (.ite (.eq (.cl 0 0 (.var 260)) (.lit (0 : Int))) (.var 263) (.ite (.and (.eq (.cl 0 0 (.var 260)) (.lit (1 : Int))) (.eq (.cl 0 1 (.var 260)) (.lit (0 : Int)))) (.var 264) (.ite (.and (.eq (.cl 0 0 (.var 260)) (.lit (1 : Int))) (.eq (.cl 0 1 (.var 260)) (.lit (1 : Int)))) (.var 265) (.ite (.eq (.cl 0 0 (.var 260)) (.lit (1 : Int))) (.var 266) (.ite (.eq (.cl 0 1 (.var 260)) (.lit (0 : Int))) (.var 267) (.ite (.eq (.cl 0 1 (.var 260)) (.lit (1 : Int))) (.var 268) (.var 269))))))))) (.cl 0 2 (.var 260))) (.var 261)) (.var 261))
theorem wD_a0 (p : Rho) : (wD_b.ap p).i 261 = wD_e0.den p := by kernel_rfl
theorem wD_s0 (p : Rho) : (wD_b.ap p).i 261 = if p.ci 0 0 (p.i 260).toNat = 0 ∧ p.ci 0 1 (p.i 260).toNat = 0 then Max.max (p.i 261) (p.ci 0 2 (p.i 260).toNat) else (p.i 261) := by
  rw [wD_a0]
  unfold wD_e0
  by_cases hc : (0 ≤ p.ci 0 0 (p.i 260).toNat ∧ p.ci 0 0 (p.i 260).toNat < 3) ∧ 0 ≤ p.ci 0 1 (p.i 260).toNat ∧ p.ci 0 1 (p.i 260).toNat < 3
  · rcases (by omega : p.ci 0 0 (p.i 260).toNat = 0 ∨ p.ci 0 0 (p.i 260).toNat = 1 ∨ p.ci 0 0 (p.i 260).toNat = 2) with h | h | h <;> rcases (by omega : p.ci 0 1 (p.i 260).toNat = 0 ∨ p.ci 0 1 (p.i 260).toNat = 1 ∨ p.ci 0 1 (p.i 260).toNat = 2) with g | g | g <;> simp [IE.den, BE.den, IOp.den, h, g]
  · rw [if_neg (show ¬ (p.ci 0 0 (p.i 260).toNat = 0 ∧ p.ci 0 1 (p.i 260).toNat = 0) by omega)]
    rcases (by omega : p.ci 0 0 (p.i 260).toNat < 0 ∨ 3 ≤ p.ci 0 0 (p.i 260).toNat ∨ p.ci 0 1 (p.i 260).toNat < 0 ∨ 3 ≤ p.ci 0 1 (p.i 260).toNat) with h | h | h | h
    · have := Int.not_le.2 h
      simp [IE.den, BE.den, IOp.den, h, this]
    · have := Int.not_lt.2 h
      simp [IE.den, BE.den, IOp.den, h, this]
    · have := Int.not_le.2 h
      simp [IE.den, BE.den, IOp.den, h, this]
    · have := Int.not_lt.2 h
      simp [IE.den, BE.den, IOp.den, h, this]
def wD_e1 : IE := (.ite (.and (.and (.and (.not (.lt (.cl 0 0 (.var 260)) (.lit (0 : Int)))) (.lt (.cl 0 0 (.var 260)) (.lit (3 : Int)))) (.not (.lt (.cl 0 1 (.var 260)) (.lit (0 : Int))))) (.lt (.cl 0 1 (.var 260)) (.lit (3 : Int)))) (.ite (.and (.eq (.cl 0 0 (.var 260)) (.lit (0 : Int))) (.eq (.cl 0 1 (.var 260)) (.lit (0 : Int)))) (.var 262) (.ite (.and (.eq (.cl 0 0 (.var 260)) (.lit (0 : Int))) (.eq (.cl 0 1 (.var 260)) (.lit (1 : Int)))) (.op .max .i64 (.ite (.and (.eq (.cl 0 0 (.var 260)) (.lit (0 : Int))) (.eq (.cl 0 1 (.var 260)) (.lit (0 : Int)))) (.var 261) (.ite (.and (.eq (.cl 0 0 (.var 260)) (.lit (0 : Int))) (.eq (.cl 0 1 (.var 260)) (.lit (1 : Int)))) (.var 262) (.ite (.eq (.cl 0 0 (.var 260)) (.lit (0 : Int))) (.var 263) (.ite (.and (.eq (.cl 0 0 (.var 260)) (.lit (1 : Int))) (.eq (.cl 0 1 (.var 260)) (.lit (0 : Int)))) (.var 264) (.ite (.and (.eq (.cl 0 0 (.var 260)) (.lit (1 : Int))) (.eq (.cl 0 1 (.var 260)) (.lit (1 : Int)))) (.var 265) (.ite (.eq (.cl 0 0 (.var 260)) (.lit (1 : Int))) (.var 266) (.ite (.eq (.cl 0 1 (.var 260)) (.lit (0 : Int))) (.var 267) (.ite (.eq (.cl 0 1 (.var 260)) (.lit (1 : Int))) (.var 268) (.var 269))))))))) (.cl 0 2 (.var 260))) (.var 262))) (.var 262))
theorem wD_a1 (p : Rho) : (wD_b.ap p).i 262 = wD_e1.den p := by kernel_rfl
theorem wD_s1 (p : Rho) : (wD_b.ap p).i 262 = if p.ci 0 0 (p.i 260).toNat = 0 ∧ p.ci 0 1 (p.i 260).toNat = 1 then Max.max (p.i 262) (p.ci 0 2 (p.i 260).toNat) else (p.i 262) := by
  rw [wD_a1]
  unfold wD_e1
  by_cases hc : (0 ≤ p.ci 0 0 (p.i 260).toNat ∧ p.ci 0 0 (p.i 260).toNat < 3) ∧ 0 ≤ p.ci 0 1 (p.i 260).toNat ∧ p.ci 0 1 (p.i 260).toNat < 3
  · rcases (by omega : p.ci 0 0 (p.i 260).toNat = 0 ∨ p.ci 0 0 (p.i 260).toNat = 1 ∨ p.ci 0 0 (p.i 260).toNat = 2) with h | h | h <;> rcases (by omega : p.ci 0 1 (p.i 260).toNat = 0 ∨ p.ci 0 1 (p.i 260).toNat = 1 ∨ p.ci 0 1 (p.i 260).toNat = 2) with g | g | g <;> simp [IE.den, BE.den, IOp.den, h, g]
  · rw [if_neg (show ¬ (p.ci 0 0 (p.i 260).toNat = 0 ∧ p.ci 0 1 (p.i 260).toNat = 1) by omega)]
    rcases (by omega : p.ci 0 0 (p.i 260).toNat < 0 ∨ 3 ≤ p.ci 0 0 (p.i 260).toNat ∨ p.ci 0 1 (p.i 260).toNat < 0 ∨ 3 ≤ p.ci 0 1 (p.i 260).toNat) with h | h | h | h
    · have := Int.not_le.2 h
      simp [IE.den, BE.den, IOp.den, h, this]
    · have := Int.not_lt.2 h
      simp [IE.den, BE.den, IOp.den, h, this]
    · have := Int.not_le.2 h
      simp [IE.den, BE.den, IOp.den, h, this]
    · have := Int.not_lt.2 h
      simp [IE.den, BE.den, IOp.den, h, this]
def wD_e2 : IE := (.ite (.and (.and (.and (.not (.lt (.cl 0 0 (.var 260)) (.lit (0 : Int)))) (.lt (.cl 0 0 (.var 260)) (.lit (3 : Int)))) (.not (.lt (.cl 0 1 (.var 260)) (.lit (0 : Int))))) (.lt (.cl 0 1 (.var 260)) (.lit (3 : Int)))) (.ite (.and (.eq (.cl 0 0 (.var 260)) (.lit (0 : Int))) (.eq (.cl 0 1 (.var 260)) (.lit (0 : Int)))) (.var 263) (.ite (.and (.eq (.cl 0 0 (.var 260)) (.lit (0 : Int))) (.eq (.cl 0 1 (.var 260)) (.lit (1 : Int)))) (.var 263) (.ite (.eq (.cl 0 0 (.var 260)) (.lit (0 : Int))) (.op .max .i64 (.ite (.and (.eq (.cl 0 0 (.var 260)) (.lit (0 : Int))) (.eq (.cl 0 1 (.var 260)) (.lit (0 : Int)))) (.var 261) (.ite (.and (.eq (.cl 0 0 (.var 260)) (.lit (0 : Int))) (.eq (.cl 0 1 (.var 260)) (.lit (1 : Int)))) (.var 262) (.ite (.eq (.cl 0 0 (.var 260)) (.lit (0 : Int))) (.var 263) (.ite (.and (.eq (.cl 0 0 (.var 260)) (.lit (1 : Int))) (.eq (.cl 0 1 (.var 260)) (.lit (0 : Int)))) (.var 264) (.ite (.and (.eq (.cl 0 0 (.var 260)) (.lit (1 : Int))) (.eq (.cl 0 1 (.var 260)) (.lit (1 : Int)))) (.var 265) (.ite (.eq (.cl 0 0 (.var 260)) (.lit (1 : Int))) (.var 266) (.ite (.eq (.cl 0 1 (.var 260)) (.lit (0 : Int))) (.var 267) (.ite (.eq (.cl 0 1 (.var 260)) (.lit (1 : Int))) (.var 268) (.var 269))))))))) (.cl 0 2 (.var 260))) (.var 263)))) (.var 263))
theorem wD_a2 (p : Rho) : (wD_b.ap p).i 263 = wD_e2.den p := by kernel_rfl
theorem wD_s2 (p : Rho) : (wD_b.ap p).i 263 = if p.ci 0 0 (p.i 260).toNat = 0 ∧ p.ci 0 1 (p.i 260).toNat = 2 then Max.max (p.i 263) (p.ci 0 2 (p.i 260).toNat) else (p.i 263) := by
  rw [wD_a2]
  unfold wD_e2
  by_cases hc : (0 ≤ p.ci 0 0 (p.i 260).toNat ∧ p.ci 0 0 (p.i 260).toNat < 3) ∧ 0 ≤ p.ci 0 1 (p.i 260).toNat ∧ p.ci 0 1 (p.i 260).toNat < 3
  · rcases (by omega : p.ci 0 0 (p.i 260).toNat = 0 ∨ p.ci 0 0 (p.i 260).toNat = 1 ∨ p.ci 0 0 (p.i 260).toNat = 2) with h | h | h <;> rcases (by omega : p.ci 0 1 (p.i 260).toNat = 0 ∨ p.ci 0 1 (p.i 260).toNat = 1 ∨ p.ci 0 1 (p.i 260).toNat = 2) with g | g | g <;> simp [IE.den, BE.den, IOp.den, h, g]
  · rw [if_neg (show ¬ (p.ci 0 0 (p.i 260).toNat = 0 ∧ p.ci 0 1 (p.i 260).toNat = 2) by omega)]
    rcases (by omega : p.ci 0 0 (p.i 260).toNat < 0 ∨ 3 ≤ p.ci 0 0 (p.i 260).toNat ∨ p.ci 0 1 (p.i 260).toNat < 0 ∨ 3 ≤ p.ci 0 1 (p.i 260).toNat) with h | h | h | h
    · have := Int.not_le.2 h
      simp [IE.den, BE.den, IOp.den, h, this]
    · have := Int.not_lt.2 h
      simp [IE.den, BE.den, IOp.den, h, this]
    · have := Int.not_le.2 h
      simp [IE.den, BE.den, IOp.den, h, this]
    · have := Int.not_lt.2 h
      simp [IE.den, BE.den, IOp.den, h, this]
def wD_e3 : IE := (.ite (.and (.and (.and (.not (.lt (.cl 0 0 (.var 260)) (.lit (0 : Int)))) (.lt (.cl 0 0 (.var 260)) (.lit (3 : Int)))) (.not (.lt (.cl 0 1 (.var 260)) (.lit (0 : Int))))) (.lt (.cl 0 1 (.var 260)) (.lit (3 : Int)))) (.ite (.and (.eq (.cl 0 0 (.var 260)) (.lit (0 : Int))) (.eq (.cl 0 1 (.var 260)) (.lit (0 : Int)))) (.var 264) (.ite (.and (.eq (.cl 0 0 (.var 260)) (.lit (0 : Int))) (.eq (.cl 0 1 (.var 260)) (.lit (1 : Int)))) (.var 264) (.ite (.eq (.cl 0 0 (.var 260)) (.lit (0 : Int))) (.var 264) (.ite (.and (.eq (.cl 0 0 (.var 260)) (.lit (1 : Int))) (.eq (.cl 0 1 (.var 260)) (.lit (0 : Int)))) (.op .max .i64 (.ite (.and (.eq (.cl 0 0 (.var 260)) (.lit (0 : Int))) (.eq (.cl 0 1 (.var 260)) (.lit (0 : Int)))) (.var 261) (.ite (.and (.eq (.cl 0 0 (.var 260)) (.lit (0 : Int))) (.eq (.cl 0 1 (.var 260)) (.lit (1 : Int)))) (.var 262) (.ite (.eq (.cl 0 0 (.var 260)) (.lit (0 : Int))) (.var 263) (.ite (.and (.eq (.cl 0 0 (.var 260)) (.lit (1 : Int))) (.eq (.cl 0 1 (.var 260)) (.lit (0 : Int)))) (.var 264) (.ite (.and (.eq (.cl 0 0 (.var 260)) (.lit (1 : Int))) (.eq (.cl 0 1 (.var 260)) (.lit (1 : Int)))) (.var 265) (.ite (.eq (.cl 0 0 (.var 260)) (.lit (1 : Int))) (.var 266) (.ite (.eq (.cl 0 1 (.var 260)) (.lit (0 : Int))) (.var 267) (.ite (.eq (.cl 0 1 (.var 260)) (.lit (1 : Int))) (.var 268) (.var 269))))))))) (.cl 0 2 (.var 260))) (.var 264))))) (.var 264))
theorem wD_a3 (p : Rho) : (wD_b.ap p).i 264 = wD_e3.den p := by kernel_rfl
theorem wD_s3 (p : Rho) : (wD_b.ap p).i 264 = if p.ci 0 0 (p.i 260).toNat = 1 ∧ p.ci 0 1 (p.i 260).toNat = 0 then Max.max (p.i 264) (p.ci 0 2 (p.i 260).toNat) else (p.i 264) := by
  rw [wD_a3]
  unfold wD_e3
  by_cases hc : (0 ≤ p.ci 0 0 (p.i 260).toNat ∧ p.ci 0 0 (p.i 260).toNat < 3) ∧ 0 ≤ p.ci 0 1 (p.i 260).toNat ∧ p.ci 0 1 (p.i 260).toNat < 3
  · rcases (by omega : p.ci 0 0 (p.i 260).toNat = 0 ∨ p.ci 0 0 (p.i 260).toNat = 1 ∨ p.ci 0 0 (p.i 260).toNat = 2) with h | h | h <;> rcases (by omega : p.ci 0 1 (p.i 260).toNat = 0 ∨ p.ci 0 1 (p.i 260).toNat = 1 ∨ p.ci 0 1 (p.i 260).toNat = 2) with g | g | g <;> simp [IE.den, BE.den, IOp.den, h, g]
  · rw [if_neg (show ¬ (p.ci 0 0 (p.i 260).toNat = 1 ∧ p.ci 0 1 (p.i 260).toNat = 0) by omega)]
    rcases (by omega : p.ci 0 0 (p.i 260).toNat < 0 ∨ 3 ≤ p.ci 0 0 (p.i 260).toNat ∨ p.ci 0 1 (p.i 260).toNat < 0 ∨ 3 ≤ p.ci 0 1 (p.i 260).toNat) with h | h | h | h
    · have := Int.not_le.2 h
      simp [IE.den, BE.den, IOp.den, h, this]
    · have := Int.not_lt.2 h
      simp [IE.den, BE.den, IOp.den, h, this]
    · have := Int.not_le.2 h
      simp [IE.den, BE.den, IOp.den, h, this]
    · have := Int.not_lt.2 h
      simp [IE.den, BE.den, IOp.den, h, this]
def wD_e4 : IE := (.ite (.and (.and (.and (.not (.lt (.cl 0 0 (.var 260)) (.lit (0 : Int)))) (.lt (.cl 0 0 (.var 260)) (.lit (3 : Int)))) (.not (.lt (.cl 0 1 (.var 260)) (.lit (0 : Int))))) (.lt (.cl 0 1 (.var 260)) (.lit (3 : Int)))) (.ite (.and (.eq (.cl 0 0 (.var 260)) (.lit (0 : Int))) (.eq (.cl 0 1 (.var 260)) (.lit (0 : Int)))) (.var 265) (.ite (.and (.eq (.cl 0 0 (.var 260)) (.lit (0 : Int))) (.eq (.cl 0 1 (.var 260)) (.lit (1 : Int)))) (.var 265) (.ite (.eq (.cl 0 0 (.var 260)) (.lit (0 : Int))) (.var 265) (.ite (.and (.eq (.cl 0 0 (.var 260)) (.lit (1 : Int))) (.eq (.cl 0 1 (.var 260)) (.lit (0 : Int)))) (.var 265) (.ite (.and (.eq (.cl 0 0 (.var 260)) (.lit (1 : Int))) (.eq (.cl 0 1 (.var 260)) (.lit (1 : Int)))) (.op .max .i64 (.ite (.and (.eq (.cl 0 0 (.var 260)) (.lit (0 : Int))) (.eq (.cl 0 1 (.var 260)) (.lit (0 : Int)))) (.var 261) (.ite (.and (.eq (.cl 0 0 (.var 260)) (.lit (0 : Int))) (.eq (.cl 0 1 (.var 260)) (.lit (1 : Int)))) (.var 262) (.ite (.eq (.cl 0 0 (.var 260)) (.lit (0 : Int))) (.var 263) (.ite (.and (.eq (.cl 0 0 (.var 260)) (.lit (1 : Int))) (.eq (.cl 0 1 (.var 260)) (.lit (0 : Int)))) (.var 264) (.ite (.and (.eq (.cl 0 0 (.var 260)) (.lit (1 : Int))) (.eq (.cl 0 1 (.var 260)) (.lit (1 : Int)))) (.var 265) (.ite (.eq (.cl 0 0 (.var 260)) (.lit (1 : Int))) (.var 266) (.ite (.eq (.cl 0 1 (.var 260)) (.lit (0 : Int))) (.var 267) (.ite (.eq (.cl 0 1 (.var 260)) (.lit (1 : Int))) (.var 268) (.var 269))))))))) (.cl 0 2 (.var 260))) (.var 265)))))) (.var 265))
theorem wD_a4 (p : Rho) : (wD_b.ap p).i 265 = wD_e4.den p := by kernel_rfl
theorem wD_s4 (p : Rho) : (wD_b.ap p).i 265 = if p.ci 0 0 (p.i 260).toNat = 1 ∧ p.ci 0 1 (p.i 260).toNat = 1 then Max.max (p.i 265) (p.ci 0 2 (p.i 260).toNat) else (p.i 265) := by
  rw [wD_a4]
  unfold wD_e4
  by_cases hc : (0 ≤ p.ci 0 0 (p.i 260).toNat ∧ p.ci 0 0 (p.i 260).toNat < 3) ∧ 0 ≤ p.ci 0 1 (p.i 260).toNat ∧ p.ci 0 1 (p.i 260).toNat < 3
  · rcases (by omega : p.ci 0 0 (p.i 260).toNat = 0 ∨ p.ci 0 0 (p.i 260).toNat = 1 ∨ p.ci 0 0 (p.i 260).toNat = 2) with h | h | h <;> rcases (by omega : p.ci 0 1 (p.i 260).toNat = 0 ∨ p.ci 0 1 (p.i 260).toNat = 1 ∨ p.ci 0 1 (p.i 260).toNat = 2) with g | g | g <;> simp [IE.den, BE.den, IOp.den, h, g]
  · rw [if_neg (show ¬ (p.ci 0 0 (p.i 260).toNat = 1 ∧ p.ci 0 1 (p.i 260).toNat = 1) by omega)]
    rcases (by omega : p.ci 0 0 (p.i 260).toNat < 0 ∨ 3 ≤ p.ci 0 0 (p.i 260).toNat ∨ p.ci 0 1 (p.i 260).toNat < 0 ∨ 3 ≤ p.ci 0 1 (p.i 260).toNat) with h | h | h | h
    · have := Int.not_le.2 h
      simp [IE.den, BE.den, IOp.den, h, this]
    · have := Int.not_lt.2 h
      simp [IE.den, BE.den, IOp.den, h, this]
    · have := Int.not_le.2 h
      simp [IE.den, BE.den, IOp.den, h, this]
    · have := Int.not_lt.2 h
      simp [IE.den, BE.den, IOp.den, h, this]
def wD_e5 : IE := (.ite (.and (.and (.and (.not (.lt (.cl 0 0 (.var 260)) (.lit (0 : Int)))) (.lt (.cl 0 0 (.var 260)) (.lit (3 : Int)))) (.not (.lt (.cl 0 1 (.var 260)) (.lit (0 : Int))))) (.lt (.cl 0 1 (.var 260)) (.lit (3 : Int)))) (.ite (.and (.eq (.cl 0 0 (.var 260)) (.lit (0 : Int))) (.eq (.cl 0 1 (.var 260)) (.lit (0 : Int)))) (.var 266) (.ite (.and (.eq (.cl 0 0 (.var 260)) (.lit (0 : Int))) (.eq (.cl 0 1 (.var 260)) (.lit (1 : Int)))) (.var 266) (.ite (.eq (.cl 0 0 (.var 260)) (.lit (0 : Int))) (.var 266) (.ite (.and (.eq (.cl 0 0 (.var 260)) (.lit (1 : Int))) (.eq (.cl 0 1 (.var 260)) (.lit (0 : Int)))) (.var 266) (.ite (.and (.eq (.cl 0 0 (.var 260)) (.lit (1 : Int))) (.eq (.cl 0 1 (.var 260)) (.lit (1 : Int)))) (.var 266) (.ite (.eq (.cl 0 0 (.var 260)) (.lit (1 : Int))) (.op .max .i64 (.ite (.and (.eq (.cl 0 0 (.var 260)) (.lit (0 : Int))) (.eq (.cl 0 1 (.var 260)) (.lit (0 : Int)))) (.var 261) (.ite (.and (.eq (.cl 0 0 (.var 260)) (.lit (0 : Int))) (.eq (.cl 0 1 (.var 260)) (.lit (1 : Int)))) (.var 262) (.ite (.eq (.cl 0 0 (.var 260)) (.lit (0 : Int))) (.var 263) (.ite (.and (.eq (.cl 0 0 (.var 260)) (.lit (1 : Int))) (.eq (.cl 0 1 (.var 260)) (.lit (0 : Int)))) (.var 264) (.ite (.and (.eq (.cl 0 0 (.var 260)) (.lit (1 : Int))) (.eq (.cl 0 1 (.var 260)) (.lit (1 : Int)))) (.var 265) (.ite (.eq (.cl 0 0 (.var 260)) (.lit (1 : Int))) (.var 266) (.ite (.eq (.cl 0 1 (.var 260)) (.lit (0 : Int))) (.var 267) (.ite (.eq (.cl 0 1 (.var 260)) (.lit (1 : Int))) (.var 268) (.var 269))))))))) (.cl 0 2 (.var 260))) (.var 266))))))) (.var 266))
theorem wD_a5 (p : Rho) : (wD_b.ap p).i 266 = wD_e5.den p := by kernel_rfl
theorem wD_s5 (p : Rho) : (wD_b.ap p).i 266 = if p.ci 0 0 (p.i 260).toNat = 1 ∧ p.ci 0 1 (p.i 260).toNat = 2 then Max.max (p.i 266) (p.ci 0 2 (p.i 260).toNat) else (p.i 266) := by
  rw [wD_a5]
  unfold wD_e5
  by_cases hc : (0 ≤ p.ci 0 0 (p.i 260).toNat ∧ p.ci 0 0 (p.i 260).toNat < 3) ∧ 0 ≤ p.ci 0 1 (p.i 260).toNat ∧ p.ci 0 1 (p.i 260).toNat < 3
  · rcases (by omega : p.ci 0 0 (p.i 260).toNat = 0 ∨ p.ci 0 0 (p.i 260).toNat = 1 ∨ p.ci 0 0 (p.i 260).toNat = 2) with h | h | h <;> rcases (by omega : p.ci 0 1 (p.i 260).toNat = 0 ∨ p.ci 0 1 (p.i 260).toNat = 1 ∨ p.ci 0 1 (p.i 260).toNat = 2) with g | g | g <;> simp [IE.den, BE.den, IOp.den, h, g]
  · rw [if_neg (show ¬ (p.ci 0 0 (p.i 260).toNat = 1 ∧ p.ci 0 1 (p.i 260).toNat = 2) by omega)]
    rcases (by omega : p.ci 0 0 (p.i 260).toNat < 0 ∨ 3 ≤ p.ci 0 0 (p.i 260).toNat ∨ p.ci 0 1 (p.i 260).toNat < 0 ∨ 3 ≤ p.ci 0 1 (p.i 260).toNat) with h | h | h | h
    · have := Int.not_le.2 h
      simp [IE.den, BE.den, IOp.den, h, this]
    · have := Int.not_lt.2 h
      simp [IE.den, BE.den, IOp.den, h, this]
    · have := Int.not_le.2 h
      simp [IE.den, BE.den, IOp.den, h, this]
    · have := Int.not_lt.2 h
      simp [IE.den, BE.den, IOp.den, h, this]
def wD_e6 : IE := (.ite (.and (.and (.and (.not (.lt (.cl 0 0 (.var 260)) (.lit (0 : Int)))) (.lt (.cl 0 0 (.var 260)) (.lit (3 : Int)))) (.not (.lt (.cl 0 1 (.var 260)) (.lit (0 : Int))))) (.lt (.cl 0 1 (.var 260)) (.lit (3 : Int)))) (.ite (.and (.eq (.cl 0 0 (.var 260)) (.lit (0 : Int))) (.eq (.cl 0 1 (.var 260)) (.lit (0 : Int)))) (.var 267) (.ite (.and (.eq (.cl 0 0 (.var 260)) (.lit (0 : Int))) (.eq (.cl 0 1 (.var 260)) (.lit (1 : Int)))) (.var 267) (.ite (.eq (.cl 0 0 (.var 260)) (.lit (0 : Int))) (.var 267) (.ite (.and (.eq (.cl 0 0 (.var 260)) (.lit (1 : Int))) (.eq (.cl 0 1 (.var 260)) (.lit (0 : Int)))) (.var 267) (.ite (.and (.eq (.cl 0 0 (.var 260)) (.lit (1 : Int))) (.eq (.cl 0 1 (.var 260)) (.lit (1 : Int)))) (.var 267) (.ite (.eq (.cl 0 0 (.var 260)) (.lit (1 : Int))) (.var 267) (.ite (.eq (.cl 0 1 (.var 260)) (.lit (0 : Int))) (.op .max .i64 (.ite (.and (.eq (.cl 0 0 (.var 260)) (.lit (0 : Int))) (.eq (.cl 0 1 (.var 260)) (.lit (0 : Int)))) (.var 261) (.ite (.and (.eq (.cl 0 0 (.var 260)) (.lit (0 : Int))) (.eq (.cl 0 1 (.var 260)) (.lit (1 : Int)))) (.var 262) (.ite (.eq (.cl 0 0 (.var 260)) (.lit (0 : Int))) (.var 263) (.ite (.and (.eq (.cl 0 0 (.var 260)) (.lit (1 : Int))) (.eq (.cl 0 1 (.var 260)) (.lit (0 : Int)))) (.var 264) (.ite (.and (.eq (.cl 0 0 (.var 260)) (.lit (1 : Int))) (.eq (.cl 0 1 (.var 260)) (.lit (1 : Int)))) (.var 265) (.ite (.eq (.cl 0 0 (.var 260)) (.lit (1 : Int))) (.var 266) (.ite (.eq (.cl 0 1 (.var 260)) (.lit (0 : Int))) (.var 267) (.ite (.eq (.cl 0 1 (.var 260)) (.lit (1 : Int))) (.var 268) (.var 269))))))))) (.cl 0 2 (.var 260))) (.var 267)))))))) (.var 267))
theorem wD_a6 (p : Rho) : (wD_b.ap p).i 267 = wD_e6.den p := by kernel_rfl
theorem wD_s6 (p : Rho) : (wD_b.ap p).i 267 = if p.ci 0 0 (p.i 260).toNat = 2 ∧ p.ci 0 1 (p.i 260).toNat = 0 then Max.max (p.i 267) (p.ci 0 2 (p.i 260).toNat) else (p.i 267) := by
  rw [wD_a6]
  unfold wD_e6
  by_cases hc : (0 ≤ p.ci 0 0 (p.i 260).toNat ∧ p.ci 0 0 (p.i 260).toNat < 3) ∧ 0 ≤ p.ci 0 1 (p.i 260).toNat ∧ p.ci 0 1 (p.i 260).toNat < 3
  · rcases (by omega : p.ci 0 0 (p.i 260).toNat = 0 ∨ p.ci 0 0 (p.i 260).toNat = 1 ∨ p.ci 0 0 (p.i 260).toNat = 2) with h | h | h <;> rcases (by omega : p.ci 0 1 (p.i 260).toNat = 0 ∨ p.ci 0 1 (p.i 260).toNat = 1 ∨ p.ci 0 1 (p.i 260).toNat = 2) with g | g | g <;> simp [IE.den, BE.den, IOp.den, h, g]
  · rw [if_neg (show ¬ (p.ci 0 0 (p.i 260).toNat = 2 ∧ p.ci 0 1 (p.i 260).toNat = 0) by omega)]
    rcases (by omega : p.ci 0 0 (p.i 260).toNat < 0 ∨ 3 ≤ p.ci 0 0 (p.i 260).toNat ∨ p.ci 0 1 (p.i 260).toNat < 0 ∨ 3 ≤ p.ci 0 1 (p.i 260).toNat) with h | h | h | h
    · have := Int.not_le.2 h
      simp [IE.den, BE.den, IOp.den, h, this]
    · have := Int.not_lt.2 h
      simp [IE.den, BE.den, IOp.den, h, this]
    · have := Int.not_le.2 h
      simp [IE.den, BE.den, IOp.den, h, this]
    · have := Int.not_lt.2 h
      simp [IE.den, BE.den, IOp.den, h, this]
def wD_e7 : IE := (.ite (.and (.and (.and (.not (.lt (.cl 0 0 (.var 260)) (.lit (0 : Int)))) (.lt (.cl 0 0 (.var 260)) (.lit (3 : Int)))) (.not (.lt (.cl 0 1 (.var 260)) (.lit (0 : Int))))) (.lt (.cl 0 1 (.var 260)) (.lit (3 : Int)))) (.ite (.and (.eq (.cl 0 0 (.var 260)) (.lit (0 : Int))) (.eq (.cl 0 1 (.var 260)) (.lit (0 : Int)))) (.var 268) (.ite (.and (.eq (.cl 0 0 (.var 260)) (.lit (0 : Int))) (.eq (.cl 0 1 (.var 260)) (.lit (1 : Int)))) (.var 268) (.ite (.eq (.cl 0 0 (.var 260)) (.lit (0 : Int))) (.var 268) (.ite (.and (.eq (.cl 0 0 (.var 260)) (.lit (1 : Int))) (.eq (.cl 0 1 (.var 260)) (.lit (0 : Int)))) (.var 268) (.ite (.and (.eq (.cl 0 0 (.var 260)) (.lit (1 : Int))) (.eq (.cl 0 1 (.var 260)) (.lit (1 : Int)))) (.var 268) (.ite (.eq (.cl 0 0 (.var 260)) (.lit (1 : Int))) (.var 268) (.ite (.eq (.cl 0 1 (.var 260)) (.lit (0 : Int))) (.var 268) (.ite (.eq (.cl 0 1 (.var 260)) (.lit (1 : Int))) (.op .max .i64 (.ite (.and (.eq (.cl 0 0 (.var 260)) (.lit (0 : Int))) (.eq (.cl 0 1 (.var 260)) (.lit (0 : Int)))) (.var 261) (.ite (.and (.eq (.cl 0 0 (.var 260)) (.lit (0 : Int))) (.eq (.cl 0 1 (.var 260)) (.lit (1 : Int)))) (.var 262) (.ite (.eq (.cl 0 0 (.var 260)) (.lit (0 : Int))) (.var 263) (.ite (.and (.eq (.cl 0 0 (.var 260)) (.lit (1 : Int))) (.eq (.cl 0 1 (.var 260)) (.lit (0 : Int)))) (.var 264) (.ite (.and (.eq (.cl 0 0 (.var 260)) (.lit (1 : Int))) (.eq (.cl 0 1 (.var 260)) (.lit (1 : Int)))) (.var 265) (.ite (.eq (.cl 0 0 (.var 260)) (.lit (1 : Int))) (.var 266) (.ite (.eq (.cl 0 1 (.var 260)) (.lit (0 : Int))) (.var 267) (.ite (.eq (.cl 0 1 (.var 260)) (.lit (1 : Int))) (.var 268) (.var 269))))))))) (.cl 0 2 (.var 260))) (.var 268))))))))) (.var 268))
theorem wD_a7 (p : Rho) : (wD_b.ap p).i 268 = wD_e7.den p := by kernel_rfl
theorem wD_s7 (p : Rho) : (wD_b.ap p).i 268 = if p.ci 0 0 (p.i 260).toNat = 2 ∧ p.ci 0 1 (p.i 260).toNat = 1 then Max.max (p.i 268) (p.ci 0 2 (p.i 260).toNat) else (p.i 268) := by
  rw [wD_a7]
  unfold wD_e7
  by_cases hc : (0 ≤ p.ci 0 0 (p.i 260).toNat ∧ p.ci 0 0 (p.i 260).toNat < 3) ∧ 0 ≤ p.ci 0 1 (p.i 260).toNat ∧ p.ci 0 1 (p.i 260).toNat < 3
  · rcases (by omega : p.ci 0 0 (p.i 260).toNat = 0 ∨ p.ci 0 0 (p.i 260).toNat = 1 ∨ p.ci 0 0 (p.i 260).toNat = 2) with h | h | h <;> rcases (by omega : p.ci 0 1 (p.i 260).toNat = 0 ∨ p.ci 0 1 (p.i 260).toNat = 1 ∨ p.ci 0 1 (p.i 260).toNat = 2) with g | g | g <;> simp [IE.den, BE.den, IOp.den, h, g]
  · rw [if_neg (show ¬ (p.ci 0 0 (p.i 260).toNat = 2 ∧ p.ci 0 1 (p.i 260).toNat = 1) by omega)]
    rcases (by omega : p.ci 0 0 (p.i 260).toNat < 0 ∨ 3 ≤ p.ci 0 0 (p.i 260).toNat ∨ p.ci 0 1 (p.i 260).toNat < 0 ∨ 3 ≤ p.ci 0 1 (p.i 260).toNat) with h | h | h | h
    · have := Int.not_le.2 h
      simp [IE.den, BE.den, IOp.den, h, this]
    · have := Int.not_lt.2 h
      simp [IE.den, BE.den, IOp.den, h, this]
    · have := Int.not_le.2 h
      simp [IE.den, BE.den, IOp.den, h, this]
    · have := Int.not_lt.2 h
      simp [IE.den, BE.den, IOp.den, h, this]
def wD_e8 : IE := (.ite (.and (.and (.and (.not (.lt (.cl 0 0 (.var 260)) (.lit (0 : Int)))) (.lt (.cl 0 0 (.var 260)) (.lit (3 : Int)))) (.not (.lt (.cl 0 1 (.var 260)) (.lit (0 : Int))))) (.lt (.cl 0 1 (.var 260)) (.lit (3 : Int)))) (.ite (.and (.eq (.cl 0 0 (.var 260)) (.lit (0 : Int))) (.eq (.cl 0 1 (.var 260)) (.lit (0 : Int)))) (.var 269) (.ite (.and (.eq (.cl 0 0 (.var 260)) (.lit (0 : Int))) (.eq (.cl 0 1 (.var 260)) (.lit (1 : Int)))) (.var 269) (.ite (.eq (.cl 0 0 (.var 260)) (.lit (0 : Int))) (.var 269) (.ite (.and (.eq (.cl 0 0 (.var 260)) (.lit (1 : Int))) (.eq (.cl 0 1 (.var 260)) (.lit (0 : Int)))) (.var 269) (.ite (.and (.eq (.cl 0 0 (.var 260)) (.lit (1 : Int))) (.eq (.cl 0 1 (.var 260)) (.lit (1 : Int)))) (.var 269) (.ite (.eq (.cl 0 0 (.var 260)) (.lit (1 : Int))) (.var 269) (.ite (.eq (.cl 0 1 (.var 260)) (.lit (0 : Int))) (.var 269) (.ite (.eq (.cl 0 1 (.var 260)) (.lit (1 : Int))) (.var 269) (.op .max .i64 (.ite (.and (.eq (.cl 0 0 (.var 260)) (.lit (0 : Int))) (.eq (.cl 0 1 (.var 260)) (.lit (0 : Int)))) (.var 261) (.ite (.and (.eq (.cl 0 0 (.var 260)) (.lit (0 : Int))) (.eq (.cl 0 1 (.var 260)) (.lit (1 : Int)))) (.var 262) (.ite (.eq (.cl 0 0 (.var 260)) (.lit (0 : Int))) (.var 263) (.ite (.and (.eq (.cl 0 0 (.var 260)) (.lit (1 : Int))) (.eq (.cl 0 1 (.var 260)) (.lit (0 : Int)))) (.var 264) (.ite (.and (.eq (.cl 0 0 (.var 260)) (.lit (1 : Int))) (.eq (.cl 0 1 (.var 260)) (.lit (1 : Int)))) (.var 265) (.ite (.eq (.cl 0 0 (.var 260)) (.lit (1 : Int))) (.var 266) (.ite (.eq (.cl 0 1 (.var 260)) (.lit (0 : Int))) (.var 267) (.ite (.eq (.cl 0 1 (.var 260)) (.lit (1 : Int))) (.var 268) (.var 269))))))))) (.cl 0 2 (.var 260))))))))))) (.var 269))
theorem wD_a8 (p : Rho) : (wD_b.ap p).i 269 = wD_e8.den p := by kernel_rfl
theorem wD_s8 (p : Rho) : (wD_b.ap p).i 269 = if p.ci 0 0 (p.i 260).toNat = 2 ∧ p.ci 0 1 (p.i 260).toNat = 2 then Max.max (p.i 269) (p.ci 0 2 (p.i 260).toNat) else (p.i 269) := by
  rw [wD_a8]
  unfold wD_e8
  by_cases hc : (0 ≤ p.ci 0 0 (p.i 260).toNat ∧ p.ci 0 0 (p.i 260).toNat < 3) ∧ 0 ≤ p.ci 0 1 (p.i 260).toNat ∧ p.ci 0 1 (p.i 260).toNat < 3
  · rcases (by omega : p.ci 0 0 (p.i 260).toNat = 0 ∨ p.ci 0 0 (p.i 260).toNat = 1 ∨ p.ci 0 0 (p.i 260).toNat = 2) with h | h | h <;> rcases (by omega : p.ci 0 1 (p.i 260).toNat = 0 ∨ p.ci 0 1 (p.i 260).toNat = 1 ∨ p.ci 0 1 (p.i 260).toNat = 2) with g | g | g <;> simp [IE.den, BE.den, IOp.den, h, g]
  · rw [if_neg (show ¬ (p.ci 0 0 (p.i 260).toNat = 2 ∧ p.ci 0 1 (p.i 260).toNat = 2) by omega)]
    rcases (by omega : p.ci 0 0 (p.i 260).toNat < 0 ∨ 3 ≤ p.ci 0 0 (p.i 260).toNat ∨ p.ci 0 1 (p.i 260).toNat < 0 ∨ 3 ≤ p.ci 0 1 (p.i 260).toNat) with h | h | h | h
    · have := Int.not_le.2 h
      simp [IE.den, BE.den, IOp.den, h, this]
    · have := Int.not_lt.2 h
      simp [IE.den, BE.den, IOp.den, h, this]
    · have := Int.not_le.2 h
      simp [IE.den, BE.den, IOp.den, h, this]
    · have := Int.not_lt.2 h
      simp [IE.den, BE.den, IOp.den, h, this]
theorem wE_s0 (p : Rho) : (wE_b.ap p).i 281 = Max.max (Max.max 0 (p.i 281)) (p.ci 0 9 (IE.den p (.op .padd .i64 (.var 280) nI)).toNat) := by kernel_rfl
theorem wE_s1 (p : Rho) : (wE_b.ap p).i 282 = Max.max (Max.max 0 (p.i 282)) (p.ci 0 10 (IE.den p (.op .padd .i64 (.var 280) nI)).toNat) := by kernel_rfl
theorem wE_s2 (p : Rho) : (wE_b.ap p).i 283 = Max.max (Max.max 0 (p.i 283)) (p.ci 0 11 (IE.den p (.op .padd .i64 (.var 280) nI)).toNat) := by kernel_rfl
theorem wE_s3 (p : Rho) : (wE_b.ap p).i 284 = Max.max (Max.max 0 (p.i 284)) (p.ci 0 12 (IE.den p (.op .padd .i64 (.var 280) nI)).toNat) := by kernel_rfl
theorem wE_s4 (p : Rho) : (wE_b.ap p).i 285 = Max.max (Max.max 0 (p.i 285)) (p.ci 0 13 (IE.den p (.op .padd .i64 (.var 280) nI)).toNat) := by kernel_rfl
theorem wE_s5 (p : Rho) : (wE_b.ap p).i 286 = Max.max (Max.max 0 (p.i 286)) (p.ci 0 14 (IE.den p (.op .padd .i64 (.var 280) nI)).toNat) := by kernel_rfl
theorem wE_s6 (p : Rho) : (wE_b.ap p).i 287 = Max.max (Max.max 0 (p.i 287)) (p.ci 0 15 (IE.den p (.op .padd .i64 (.var 280) nI)).toNat) := by kernel_rfl
theorem wE_s7 (p : Rho) : (wE_b.ap p).i 288 = Max.max (Max.max 0 (p.i 288)) (p.ci 0 16 (IE.den p (.op .padd .i64 (.var 280) nI)).toNat) := by kernel_rfl
theorem wE_s8 (p : Rho) : (wE_b.ap p).i 289 = Max.max (Max.max 0 (p.i 289)) (p.ci 0 17 (IE.den p (.op .padd .i64 (.var 280) nI)).toNat) := by kernel_rfl
def wF_e0 : IE := (.ite (.and (.and (.and (.not (.lt (.var 0) (.lit (0 : Int)))) (.lt (.var 0) (.lit (3 : Int)))) (.not (.lt (.var 1) (.lit (0 : Int))))) (.lt (.var 1) (.lit (3 : Int)))) (.ite (.and (.eq (.var 0) (.lit (0 : Int))) (.eq (.var 1) (.lit (0 : Int)))) (.op .max .i64 (.ite (.and (.eq (.var 0) (.lit (0 : Int))) (.eq (.var 1) (.lit (0 : Int)))) (.var 3) (.ite (.and (.eq (.var 0) (.lit (0 : Int))) (.eq (.var 1) (.lit (1 : Int)))) (.var 4) (.ite (.eq (.var 0) (.lit (0 : Int))) (.var 5) (.ite (.and (.eq (.var 0) (.lit (1 : Int))) (.eq (.var 1) (.lit (0 : Int)))) (.var 6) (.ite (.and (.eq (.var 0) (.lit (1 : Int))) (.eq (.var 1) (.lit (1 : Int)))) (.var 7) (.ite (.eq (.var 0) (.lit (1 : Int))) (.var 8) (.ite (.eq (.var 1) (.lit (0 : Int))) (.var 9) (.ite (.eq (.var 1) (.lit (1 : Int))) (.var 10) (.var 11))))))))) (.var 2)) (.var 3)) (.var 3))
theorem wF_a0 (p : Rho) : (wF_b.ap p).i 301 = wF_e0.den { p with i := fun x => if Nat.beq x 0 = true then p.ci 0 0 (IE.den p (.op .padd .i64 (.var 300) nI)).toNat else if Nat.beq x 1 = true then p.ci 0 1 (IE.den p (.op .padd .i64 (.var 300) nI)).toNat else if Nat.beq x 2 = true then p.ci 0 2 (IE.den p (.op .padd .i64 (.var 300) nI)).toNat else p.i (x + 298) } := by kernel_rfl
theorem wF_d0 (p : Rho) : wF_e0.den p = if p.i 0 = 0 ∧ p.i 1 = 0 then Max.max (p.i 3) (p.i 2) else p.i 3 := by
  unfold wF_e0
  by_cases hc : (0 ≤ p.i 0 ∧ p.i 0 < 3) ∧ 0 ≤ p.i 1 ∧ p.i 1 < 3
  · rcases (by omega : p.i 0 = 0 ∨ p.i 0 = 1 ∨ p.i 0 = 2) with h | h | h <;> rcases (by omega : p.i 1 = 0 ∨ p.i 1 = 1 ∨ p.i 1 = 2) with g | g | g <;> simp [IE.den, BE.den, IOp.den, h, g]
  · rw [if_neg (show ¬ (p.i 0 = 0 ∧ p.i 1 = 0) by omega)]
    rcases (by omega : p.i 0 < 0 ∨ 3 ≤ p.i 0 ∨ p.i 1 < 0 ∨ 3 ≤ p.i 1) with h | h | h | h
    · have := Int.not_le.2 h
      simp [IE.den, BE.den, IOp.den, h, this]
    · have := Int.not_lt.2 h
      simp [IE.den, BE.den, IOp.den, h, this]
    · have := Int.not_le.2 h
      simp [IE.den, BE.den, IOp.den, h, this]
    · have := Int.not_lt.2 h
      simp [IE.den, BE.den, IOp.den, h, this]
theorem wF_s0 (p : Rho) : (wF_b.ap p).i 301 = if p.ci 0 0 (IE.den p (.op .padd .i64 (.var 300) nI)).toNat = 0 ∧ p.ci 0 1 (IE.den p (.op .padd .i64 (.var 300) nI)).toNat = 0 then Max.max (p.i 301) (p.ci 0 2 (IE.den p (.op .padd .i64 (.var 300) nI)).toNat) else p.i 301 := by
  rw [wF_a0, wF_d0]
  rfl
def wF_e1 : IE := (.ite (.and (.and (.and (.not (.lt (.var 0) (.lit (0 : Int)))) (.lt (.var 0) (.lit (3 : Int)))) (.not (.lt (.var 1) (.lit (0 : Int))))) (.lt (.var 1) (.lit (3 : Int)))) (.ite (.and (.eq (.var 0) (.lit (0 : Int))) (.eq (.var 1) (.lit (0 : Int)))) (.var 4) (.ite (.and (.eq (.var 0) (.lit (0 : Int))) (.eq (.var 1) (.lit (1 : Int)))) (.op .max .i64 (.ite (.and (.eq (.var 0) (.lit (0 : Int))) (.eq (.var 1) (.lit (0 : Int)))) (.var 3) (.ite (.and (.eq (.var 0) (.lit (0 : Int))) (.eq (.var 1) (.lit (1 : Int)))) (.var 4) (.ite (.eq (.var 0) (.lit (0 : Int))) (.var 5) (.ite (.and (.eq (.var 0) (.lit (1 : Int))) (.eq (.var 1) (.lit (0 : Int)))) (.var 6) (.ite (.and (.eq (.var 0) (.lit (1 : Int))) (.eq (.var 1) (.lit (1 : Int)))) (.var 7) (.ite (.eq (.var 0) (.lit (1 : Int))) (.var 8) (.ite (.eq (.var 1) (.lit (0 : Int))) (.var 9) (.ite (.eq (.var 1) (.lit (1 : Int))) (.var 10) (.var 11))))))))) (.var 2)) (.var 4))) (.var 4))
theorem wF_a1 (p : Rho) : (wF_b.ap p).i 302 = wF_e1.den { p with i := fun x => if Nat.beq x 0 = true then p.ci 0 0 (IE.den p (.op .padd .i64 (.var 300) nI)).toNat else if Nat.beq x 1 = true then p.ci 0 1 (IE.den p (.op .padd .i64 (.var 300) nI)).toNat else if Nat.beq x 2 = true then p.ci 0 2 (IE.den p (.op .padd .i64 (.var 300) nI)).toNat else p.i (x + 298) } := by kernel_rfl
theorem wF_d1 (p : Rho) : wF_e1.den p = if p.i 0 = 0 ∧ p.i 1 = 1 then Max.max (p.i 4) (p.i 2) else p.i 4 := by
  unfold wF_e1
  by_cases hc : (0 ≤ p.i 0 ∧ p.i 0 < 3) ∧ 0 ≤ p.i 1 ∧ p.i 1 < 3
  · rcases (by omega : p.i 0 = 0 ∨ p.i 0 = 1 ∨ p.i 0 = 2) with h | h | h <;> rcases (by omega : p.i 1 = 0 ∨ p.i 1 = 1 ∨ p.i 1 = 2) with g | g | g <;> simp [IE.den, BE.den, IOp.den, h, g]
  · rw [if_neg (show ¬ (p.i 0 = 0 ∧ p.i 1 = 1) by omega)]
    rcases (by omega : p.i 0 < 0 ∨ 3 ≤ p.i 0 ∨ p.i 1 < 0 ∨ 3 ≤ p.i 1) with h | h | h | h
    · have := Int.not_le.2 h
      simp [IE.den, BE.den, IOp.den, h, this]
    · have := Int.not_lt.2 h
      simp [IE.den, BE.den, IOp.den, h, this]
    · have := Int.not_le.2 h
      simp [IE.den, BE.den, IOp.den, h, this]
    · have := Int.not_lt.2 h
      simp [IE.den, BE.den, IOp.den, h, this]
theorem wF_s1 (p : Rho) : (wF_b.ap p).i 302 = if p.ci 0 0 (IE.den p (.op .padd .i64 (.var 300) nI)).toNat = 0 ∧ p.ci 0 1 (IE.den p (.op .padd .i64 (.var 300) nI)).toNat = 1 then Max.max (p.i 302) (p.ci 0 2 (IE.den p (.op .padd .i64 (.var 300) nI)).toNat) else p.i 302 := by
  rw [wF_a1, wF_d1]
  rfl
def wF_e2 : IE := (.ite (.and (.and (.and (.not (.lt (.var 0) (.lit (0 : Int)))) (.lt (.var 0) (.lit (3 : Int)))) (.not (.lt (.var 1) (.lit (0 : Int))))) (.lt (.var 1) (.lit (3 : Int)))) (.ite (.and (.eq (.var 0) (.lit (0 : Int))) (.eq (.var 1) (.lit (0 : Int)))) (.var 5) (.ite (.and (.eq (.var 0) (.lit (0 : Int))) (.eq (.var 1) (.lit (1 : Int)))) (.var 5) (.ite (.eq (.var 0) (.lit (0 : Int))) (.op .max .i64 (.ite (.and (.eq (.var 0) (.lit (0 : Int))) (.eq (.var 1) (.lit (0 : Int)))) (.var 3) (.ite (.and (.eq (.var 0) (.lit (0 : Int))) (.eq (.var 1) (.lit (1 : Int)))) (.var 4) (.ite (.eq (.var 0) (.lit (0 : Int))) (.var 5) (.ite (.and (.eq (.var 0) (.lit (1 : Int))) (.eq (.var 1) (.lit (0 : Int)))) (.var 6) (.ite (.and (.eq (.var 0) (.lit (1 : Int))) (.eq (.var 1) (.lit (1 : Int)))) (.var 7) (.ite (.eq (.var 0) (.lit (1 : Int))) (.var 8) (.ite (.eq (.var 1) (.lit (0 : Int))) (.var 9) (.ite (.eq (.var 1) (.lit (1 : Int))) (.var 10) (.var 11))))))))) (.var 2)) (.var 5)))) (.var 5))
theorem wF_a2 (p : Rho) : (wF_b.ap p).i 303 = wF_e2.den { p with i := fun x => if Nat.beq x 0 = true then p.ci 0 0 (IE.den p (.op .padd .i64 (.var 300) nI)).toNat else if Nat.beq x 1 = true then p.ci 0 1 (IE.den p (.op .padd .i64 (.var 300) nI)).toNat else if Nat.beq x 2 = true then p.ci 0 2 (IE.den p (.op .padd .i64 (.var 300) nI)).toNat else p.i (x + 298) } := by kernel_rfl
theorem wF_d2 (p : Rho) : wF_e2.den p = if p.i 0 = 0 ∧ p.i 1 = 2 then Max.max (p.i 5) (p.i 2) else p.i 5 := by
  unfold wF_e2
  by_cases hc : (0 ≤ p.i 0 ∧ p.i 0 < 3) ∧ 0 ≤ p.i 1 ∧ p.i 1 < 3
  · rcases (by omega : p.i 0 = 0 ∨ p.i 0 = 1 ∨ p.i 0 = 2) with h | h | h <;> rcases (by omega : p.i 1 = 0 ∨ p.i 1 = 1 ∨ p.i 1 = 2) with g | g | g <;> simp [IE.den, BE.den, IOp.den, h, g]
  · rw [if_neg (show ¬ (p.i 0 = 0 ∧ p.i 1 = 2) by omega)]
    rcases (by omega : p.i 0 < 0 ∨ 3 ≤ p.i 0 ∨ p.i 1 < 0 ∨ 3 ≤ p.i 1) with h | h | h | h
    · have := Int.not_le.2 h
      simp [IE.den, BE.den, IOp.den, h, this]
    · have := Int.not_lt.2 h
      simp [IE.den, BE.den, IOp.den, h, this]
    · have := Int.not_le.2 h
      simp [IE.den, BE.den, IOp.den, h, this]
    · have := Int.not_lt.2 h
      simp [IE.den, BE.den, IOp.den, h, this]
theorem wF_s2 (p : Rho) : (wF_b.ap p).i 303 = if p.ci 0 0 (IE.den p (.op .padd .i64 (.var 300) nI)).toNat = 0 ∧ p.ci 0 1 (IE.den p (.op .padd .i64 (.var 300) nI)).toNat = 2 then Max.max (p.i 303) (p.ci 0 2 (IE.den p (.op .padd .i64 (.var 300) nI)).toNat) else p.i 303 := by
  rw [wF_a2, wF_d2]
  rfl
def wF_e3 : IE := (.ite (.and (.and (.and (.not (.lt (.var 0) (.lit (0 : Int)))) (.lt (.var 0) (.lit (3 : Int)))) (.not (.lt (.var 1) (.lit (0 : Int))))) (.lt (.var 1) (.lit (3 : Int)))) (.ite (.and (.eq (.var 0) (.lit (0 : Int))) (.eq (.var 1) (.lit (0 : Int)))) (.var 6) (.ite (.and (.eq (.var 0) (.lit (0 : Int))) (.eq (.var 1) (.lit (1 : Int)))) (.var 6) (.ite (.eq (.var 0) (.lit (0 : Int))) (.var 6) (.ite (.and (.eq (.var 0) (.lit (1 : Int))) (.eq (.var 1) (.lit (0 : Int)))) (.op .max .i64 (.ite (.and (.eq (.var 0) (.lit (0 : Int))) (.eq (.var 1) (.lit (0 : Int)))) (.var 3) (.ite (.and (.eq (.var 0) (.lit (0 : Int))) (.eq (.var 1) (.lit (1 : Int)))) (.var 4) (.ite (.eq (.var 0) (.lit (0 : Int))) (.var 5) (.ite (.and (.eq (.var 0) (.lit (1 : Int))) (.eq (.var 1) (.lit (0 : Int)))) (.var 6) (.ite (.and (.eq (.var 0) (.lit (1 : Int))) (.eq (.var 1) (.lit (1 : Int)))) (.var 7) (.ite (.eq (.var 0) (.lit (1 : Int))) (.var 8) (.ite (.eq (.var 1) (.lit (0 : Int))) (.var 9) (.ite (.eq (.var 1) (.lit (1 : Int))) (.var 10) (.var 11))))))))) (.var 2)) (.var 6))))) (.var 6))
theorem wF_a3 (p : Rho) : (wF_b.ap p).i 304 = wF_e3.den { p with i := fun x => if Nat.beq x 0 = true then p.ci 0 0 (IE.den p (.op .padd .i64 (.var 300) nI)).toNat else if Nat.beq x 1 = true then p.ci 0 1 (IE.den p (.op .padd .i64 (.var 300) nI)).toNat else if Nat.beq x 2 = true then p.ci 0 2 (IE.den p (.op .padd .i64 (.var 300) nI)).toNat else p.i (x + 298) } := by kernel_rfl
theorem wF_d3 (p : Rho) : wF_e3.den p = if p.i 0 = 1 ∧ p.i 1 = 0 then Max.max (p.i 6) (p.i 2) else p.i 6 := by
  unfold wF_e3
  by_cases hc : (0 ≤ p.i 0 ∧ p.i 0 < 3) ∧ 0 ≤ p.i 1 ∧ p.i 1 < 3
  · rcases (by omega : p.i 0 = 0 ∨ p.i 0 = 1 ∨ p.i 0 = 2) with h | h | h <;> rcases (by omega : p.i 1 = 0 ∨ p.i 1 = 1 ∨ p.i 1 = 2) with g | g | g <;> simp [IE.den, BE.den, IOp.den, h, g]
  · rw [if_neg (show ¬ (p.i 0 = 1 ∧ p.i 1 = 0) by omega)]
    rcases (by omega : p.i 0 < 0 ∨ 3 ≤ p.i 0 ∨ p.i 1 < 0 ∨ 3 ≤ p.i 1) with h | h | h | h
    · have := Int.not_le.2 h
      simp [IE.den, BE.den, IOp.den, h, this]
    · have := Int.not_lt.2 h
      simp [IE.den, BE.den, IOp.den, h, this]
    · have := Int.not_le.2 h
      simp [IE.den, BE.den, IOp.den, h, this]
    · have := Int.not_lt.2 h
      simp [IE.den, BE.den, IOp.den, h, this]
theorem wF_s3 (p : Rho) : (wF_b.ap p).i 304 = if p.ci 0 0 (IE.den p (.op .padd .i64 (.var 300) nI)).toNat = 1 ∧ p.ci 0 1 (IE.den p (.op .padd .i64 (.var 300) nI)).toNat = 0 then Max.max (p.i 304) (p.ci 0 2 (IE.den p (.op .padd .i64 (.var 300) nI)).toNat) else p.i 304 := by
  rw [wF_a3, wF_d3]
  rfl
def wF_e4 : IE := (.ite (.and (.and (.and (.not (.lt (.var 0) (.lit (0 : Int)))) (.lt (.var 0) (.lit (3 : Int)))) (.not (.lt (.var 1) (.lit (0 : Int))))) (.lt (.var 1) (.lit (3 : Int)))) (.ite (.and (.eq (.var 0) (.lit (0 : Int))) (.eq (.var 1) (.lit (0 : Int)))) (.var 7) (.ite (.and (.eq (.var 0) (.lit (0 : Int))) (.eq (.var 1) (.lit (1 : Int)))) (.var 7) (.ite (.eq (.var 0) (.lit (0 : Int))) (.var 7) (.ite (.and (.eq (.var 0) (.lit (1 : Int))) (.eq (.var 1) (.lit (0 : Int)))) (.var 7) (.ite (.and (.eq (.var 0) (.lit (1 : Int))) (.eq (.var 1) (.lit (1 : Int)))) (.op .max .i64 (.ite (.and (.eq (.var 0) (.lit (0 : Int))) (.eq (.var 1) (.lit (0 : Int)))) (.var 3) (.ite (.and (.eq (.var 0) (.lit (0 : Int))) (.eq (.var 1) (.lit (1 : Int)))) (.var 4) (.ite (.eq (.var 0) (.lit (0 : Int))) (.var 5) (.ite (.and (.eq (.var 0) (.lit (1 : Int))) (.eq (.var 1) (.lit (0 : Int)))) (.var 6) (.ite (.and (.eq (.var 0) (.lit (1 : Int))) (.eq (.var 1) (.lit (1 : Int)))) (.var 7) (.ite (.eq (.var 0) (.lit (1 : Int))) (.var 8) (.ite (.eq (.var 1) (.lit (0 : Int))) (.var 9) (.ite (.eq (.var 1) (.lit (1 : Int))) (.var 10) (.var 11))))))))) (.var 2)) (.var 7)))))) (.var 7))
theorem wF_a4 (p : Rho) : (wF_b.ap p).i 305 = wF_e4.den { p with i := fun x => if Nat.beq x 0 = true then p.ci 0 0 (IE.den p (.op .padd .i64 (.var 300) nI)).toNat else if Nat.beq x 1 = true then p.ci 0 1 (IE.den p (.op .padd .i64 (.var 300) nI)).toNat else if Nat.beq x 2 = true then p.ci 0 2 (IE.den p (.op .padd .i64 (.var 300) nI)).toNat else p.i (x + 298) } := by kernel_rfl
theorem wF_d4 (p : Rho) : wF_e4.den p = if p.i 0 = 1 ∧ p.i 1 = 1 then Max.max (p.i 7) (p.i 2) else p.i 7 := by
  unfold wF_e4
  by_cases hc : (0 ≤ p.i 0 ∧ p.i 0 < 3) ∧ 0 ≤ p.i 1 ∧ p.i 1 < 3
  · rcases (by omega : p.i 0 = 0 ∨ p.i 0 = 1 ∨ p.i 0 = 2) with h | h | h <;> rcases (by omega : p.i 1 = 0 ∨ p.i 1 = 1 ∨ p.i 1 = 2) with g | g | g <;> simp [IE.den, BE.den, IOp.den, h, g]
  · rw [if_neg (show ¬ (p.i 0 = 1 ∧ p.i 1 = 1) by omega)]
    rcases (by omega : p.i 0 < 0 ∨ 3 ≤ p.i 0 ∨ p.i 1 < 0 ∨ 3 ≤ p.i 1) with h | h | h | h
    · have := Int.not_le.2 h
      simp [IE.den, BE.den, IOp.den, h, this]
    · have := Int.not_lt.2 h
      simp [IE.den, BE.den, IOp.den, h, this]
    · have := Int.not_le.2 h
      simp [IE.den, BE.den, IOp.den, h, this]
    · have := Int.not_lt.2 h
      simp [IE.den, BE.den, IOp.den, h, this]
theorem wF_s4 (p : Rho) : (wF_b.ap p).i 305 = if p.ci 0 0 (IE.den p (.op .padd .i64 (.var 300) nI)).toNat = 1 ∧ p.ci 0 1 (IE.den p (.op .padd .i64 (.var 300) nI)).toNat = 1 then Max.max (p.i 305) (p.ci 0 2 (IE.den p (.op .padd .i64 (.var 300) nI)).toNat) else p.i 305 := by
  rw [wF_a4, wF_d4]
  rfl
def wF_e5 : IE := (.ite (.and (.and (.and (.not (.lt (.var 0) (.lit (0 : Int)))) (.lt (.var 0) (.lit (3 : Int)))) (.not (.lt (.var 1) (.lit (0 : Int))))) (.lt (.var 1) (.lit (3 : Int)))) (.ite (.and (.eq (.var 0) (.lit (0 : Int))) (.eq (.var 1) (.lit (0 : Int)))) (.var 8) (.ite (.and (.eq (.var 0) (.lit (0 : Int))) (.eq (.var 1) (.lit (1 : Int)))) (.var 8) (.ite (.eq (.var 0) (.lit (0 : Int))) (.var 8) (.ite (.and (.eq (.var 0) (.lit (1 : Int))) (.eq (.var 1) (.lit (0 : Int)))) (.var 8) (.ite (.and (.eq (.var 0) (.lit (1 : Int))) (.eq (.var 1) (.lit (1 : Int)))) (.var 8) (.ite (.eq (.var 0) (.lit (1 : Int))) (.op .max .i64 (.ite (.and (.eq (.var 0) (.lit (0 : Int))) (.eq (.var 1) (.lit (0 : Int)))) (.var 3) (.ite (.and (.eq (.var 0) (.lit (0 : Int))) (.eq (.var 1) (.lit (1 : Int)))) (.var 4) (.ite (.eq (.var 0) (.lit (0 : Int))) (.var 5) (.ite (.and (.eq (.var 0) (.lit (1 : Int))) (.eq (.var 1) (.lit (0 : Int)))) (.var 6) (.ite (.and (.eq (.var 0) (.lit (1 : Int))) (.eq (.var 1) (.lit (1 : Int)))) (.var 7) (.ite (.eq (.var 0) (.lit (1 : Int))) (.var 8) (.ite (.eq (.var 1) (.lit (0 : Int))) (.var 9) (.ite (.eq (.var 1) (.lit (1 : Int))) (.var 10) (.var 11))))))))) (.var 2)) (.var 8))))))) (.var 8))
theorem wF_a5 (p : Rho) : (wF_b.ap p).i 306 = wF_e5.den { p with i := fun x => if Nat.beq x 0 = true then p.ci 0 0 (IE.den p (.op .padd .i64 (.var 300) nI)).toNat else if Nat.beq x 1 = true then p.ci 0 1 (IE.den p (.op .padd .i64 (.var 300) nI)).toNat else if Nat.beq x 2 = true then p.ci 0 2 (IE.den p (.op .padd .i64 (.var 300) nI)).toNat else p.i (x + 298) } := by kernel_rfl
theorem wF_d5 (p : Rho) : wF_e5.den p = if p.i 0 = 1 ∧ p.i 1 = 2 then Max.max (p.i 8) (p.i 2) else p.i 8 := by
  unfold wF_e5
  by_cases hc : (0 ≤ p.i 0 ∧ p.i 0 < 3) ∧ 0 ≤ p.i 1 ∧ p.i 1 < 3
  · rcases (by omega : p.i 0 = 0 ∨ p.i 0 = 1 ∨ p.i 0 = 2) with h | h | h <;> rcases (by omega : p.i 1 = 0 ∨ p.i 1 = 1 ∨ p.i 1 = 2) with g | g | g <;> simp [IE.den, BE.den, IOp.den, h, g]
  · rw [if_neg (show ¬ (p.i 0 = 1 ∧ p.i 1 = 2) by omega)]
    rcases (by omega : p.i 0 < 0 ∨ 3 ≤ p.i 0 ∨ p.i 1 < 0 ∨ 3 ≤ p.i 1) with h | h | h | h
    · have := Int.not_le.2 h
      simp [IE.den, BE.den, IOp.den, h, this]
    · have := Int.not_lt.2 h
      simp [IE.den, BE.den, IOp.den, h, this]
    · have := Int.not_le.2 h
      simp [IE.den, BE.den, IOp.den, h, this]
    · have := Int.not_lt.2 h
      simp [IE.den, BE.den, IOp.den, h, this]
theorem wF_s5 (p : Rho) : (wF_b.ap p).i 306 = if p.ci 0 0 (IE.den p (.op .padd .i64 (.var 300) nI)).toNat = 1 ∧ p.ci 0 1 (IE.den p (.op .padd .i64 (.var 300) nI)).toNat = 2 then Max.max (p.i 306) (p.ci 0 2 (IE.den p (.op .padd .i64 (.var 300) nI)).toNat) else p.i 306 := by
  rw [wF_a5, wF_d5]
  rfl
def wF_e6 : IE := (.ite (.and (.and (.and (.not (.lt (.var 0) (.lit (0 : Int)))) (.lt (.var 0) (.lit (3 : Int)))) (.not (.lt (.var 1) (.lit (0 : Int))))) (.lt (.var 1) (.lit (3 : Int)))) (.ite (.and (.eq (.var 0) (.lit (0 : Int))) (.eq (.var 1) (.lit (0 : Int)))) (.var 9) (.ite (.and (.eq (.var 0) (.lit (0 : Int))) (.eq (.var 1) (.lit (1 : Int)))) (.var 9) (.ite (.eq (.var 0) (.lit (0 : Int))) (.var 9) (.ite (.and (.eq (.var 0) (.lit (1 : Int))) (.eq (.var 1) (.lit (0 : Int)))) (.var 9) (.ite (.and (.eq (.var 0) (.lit (1 : Int))) (.eq (.var 1) (.lit (1 : Int)))) (.var 9) (.ite (.eq (.var 0) (.lit (1 : Int))) (.var 9) (.ite (.eq (.var 1) (.lit (0 : Int))) (.op .max .i64 (.ite (.and (.eq (.var 0) (.lit (0 : Int))) (.eq (.var 1) (.lit (0 : Int)))) (.var 3) (.ite (.and (.eq (.var 0) (.lit (0 : Int))) (.eq (.var 1) (.lit (1 : Int)))) (.var 4) (.ite (.eq (.var 0) (.lit (0 : Int))) (.var 5) (.ite (.and (.eq (.var 0) (.lit (1 : Int))) (.eq (.var 1) (.lit (0 : Int)))) (.var 6) (.ite (.and (.eq (.var 0) (.lit (1 : Int))) (.eq (.var 1) (.lit (1 : Int)))) (.var 7) (.ite (.eq (.var 0) (.lit (1 : Int))) (.var 8) (.ite (.eq (.var 1) (.lit (0 : Int))) (.var 9) (.ite (.eq (.var 1) (.lit (1 : Int))) (.var 10) (.var 11))))))))) (.var 2)) (.var 9)))))))) (.var 9))
theorem wF_a6 (p : Rho) : (wF_b.ap p).i 307 = wF_e6.den { p with i := fun x => if Nat.beq x 0 = true then p.ci 0 0 (IE.den p (.op .padd .i64 (.var 300) nI)).toNat else if Nat.beq x 1 = true then p.ci 0 1 (IE.den p (.op .padd .i64 (.var 300) nI)).toNat else if Nat.beq x 2 = true then p.ci 0 2 (IE.den p (.op .padd .i64 (.var 300) nI)).toNat else p.i (x + 298) } := by kernel_rfl
theorem wF_d6 (p : Rho) : wF_e6.den p = if p.i 0 = 2 ∧ p.i 1 = 0 then Max.max (p.i 9) (p.i 2) else p.i 9 := by
  unfold wF_e6
  by_cases hc : (0 ≤ p.i 0 ∧ p.i 0 < 3) ∧ 0 ≤ p.i 1 ∧ p.i 1 < 3
  · rcases (by omega : p.i 0 = 0 ∨ p.i 0 = 1 ∨ p.i 0 = 2) with h | h | h <;> rcases (by omega : p.i 1 = 0 ∨ p.i 1 = 1 ∨ p.i 1 = 2) with g | g | g <;> simp [IE.den, BE.den, IOp.den, h, g]
  · rw [if_neg (show ¬ (p.i 0 = 2 ∧ p.i 1 = 0) by omega)]
    rcases (by omega : p.i 0 < 0 ∨ 3 ≤ p.i 0 ∨ p.i 1 < 0 ∨ 3 ≤ p.i 1) with h | h | h | h
    · have := Int.not_le.2 h
      simp [IE.den, BE.den, IOp.den, h, this]
    · have := Int.not_lt.2 h
      simp [IE.den, BE.den, IOp.den, h, this]
    · have := Int.not_le.2 h
      simp [IE.den, BE.den, IOp.den, h, this]
    · have := Int.not_lt.2 h
      simp [IE.den, BE.den, IOp.den, h, this]
theorem wF_s6 (p : Rho) : (wF_b.ap p).i 307 = if p.ci 0 0 (IE.den p (.op .padd .i64 (.var 300) nI)).toNat = 2 ∧ p.ci 0 1 (IE.den p (.op .padd .i64 (.var 300) nI)).toNat = 0 then Max.max (p.i 307) (p.ci 0 2 (IE.den p (.op .padd .i64 (.var 300) nI)).toNat) else p.i 307 := by
  rw [wF_a6, wF_d6]
  rfl
def wF_e7 : IE := (.ite (.and (.and (.and (.not (.lt (.var 0) (.lit (0 : Int)))) (.lt (.var 0) (.lit (3 : Int)))) (.not (.lt (.var 1) (.lit (0 : Int))))) (.lt (.var 1) (.lit (3 : Int)))) (.ite (.and (.eq (.var 0) (.lit (0 : Int))) (.eq (.var 1) (.lit (0 : Int)))) (.var 10) (.ite (.and (.eq (.var 0) (.lit (0 : Int))) (.eq (.var 1) (.lit (1 : Int)))) (.var 10) (.ite (.eq (.var 0) (.lit (0 : Int))) (.var 10) (.ite (.and (.eq (.var 0) (.lit (1 : Int))) (.eq (.var 1) (.lit (0 : Int)))) (.var 10) (.ite (.and (.eq (.var 0) (.lit (1 : Int))) (.eq (.var 1) (.lit (1 : Int)))) (.var 10) (.ite (.eq (.var 0) (.lit (1 : Int))) (.var 10) (.ite (.eq (.var 1) (.lit (0 : Int))) (.var 10) (.ite (.eq (.var 1) (.lit (1 : Int))) (.op .max .i64 (.ite (.and (.eq (.var 0) (.lit (0 : Int))) (.eq (.var 1) (.lit (0 : Int)))) (.var 3) (.ite (.and (.eq (.var 0) (.lit (0 : Int))) (.eq (.var 1) (.lit (1 : Int)))) (.var 4) (.ite (.eq (.var 0) (.lit (0 : Int))) (.var 5) (.ite (.and (.eq (.var 0) (.lit (1 : Int))) (.eq (.var 1) (.lit (0 : Int)))) (.var 6) (.ite (.and (.eq (.var 0) (.lit (1 : Int))) (.eq (.var 1) (.lit (1 : Int)))) (.var 7) (.ite (.eq (.var 0) (.lit (1 : Int))) (.var 8) (.ite (.eq (.var 1) (.lit (0 : Int))) (.var 9) (.ite (.eq (.var 1) (.lit (1 : Int))) (.var 10) (.var 11))))))))) (.var 2)) (.var 10))))))))) (.var 10))
theorem wF_a7 (p : Rho) : (wF_b.ap p).i 308 = wF_e7.den { p with i := fun x => if Nat.beq x 0 = true then p.ci 0 0 (IE.den p (.op .padd .i64 (.var 300) nI)).toNat else if Nat.beq x 1 = true then p.ci 0 1 (IE.den p (.op .padd .i64 (.var 300) nI)).toNat else if Nat.beq x 2 = true then p.ci 0 2 (IE.den p (.op .padd .i64 (.var 300) nI)).toNat else p.i (x + 298) } := by kernel_rfl
theorem wF_d7 (p : Rho) : wF_e7.den p = if p.i 0 = 2 ∧ p.i 1 = 1 then Max.max (p.i 10) (p.i 2) else p.i 10 := by
  unfold wF_e7
  by_cases hc : (0 ≤ p.i 0 ∧ p.i 0 < 3) ∧ 0 ≤ p.i 1 ∧ p.i 1 < 3
  · rcases (by omega : p.i 0 = 0 ∨ p.i 0 = 1 ∨ p.i 0 = 2) with h | h | h <;> rcases (by omega : p.i 1 = 0 ∨ p.i 1 = 1 ∨ p.i 1 = 2) with g | g | g <;> simp [IE.den, BE.den, IOp.den, h, g]
  · rw [if_neg (show ¬ (p.i 0 = 2 ∧ p.i 1 = 1) by omega)]
    rcases (by omega : p.i 0 < 0 ∨ 3 ≤ p.i 0 ∨ p.i 1 < 0 ∨ 3 ≤ p.i 1) with h | h | h | h
    · have := Int.not_le.2 h
      simp [IE.den, BE.den, IOp.den, h, this]
    · have := Int.not_lt.2 h
      simp [IE.den, BE.den, IOp.den, h, this]
    · have := Int.not_le.2 h
      simp [IE.den, BE.den, IOp.den, h, this]
    · have := Int.not_lt.2 h
      simp [IE.den, BE.den, IOp.den, h, this]
theorem wF_s7 (p : Rho) : (wF_b.ap p).i 308 = if p.ci 0 0 (IE.den p (.op .padd .i64 (.var 300) nI)).toNat = 2 ∧ p.ci 0 1 (IE.den p (.op .padd .i64 (.var 300) nI)).toNat = 1 then Max.max (p.i 308) (p.ci 0 2 (IE.den p (.op .padd .i64 (.var 300) nI)).toNat) else p.i 308 := by
  rw [wF_a7, wF_d7]
  rfl
def wF_e8 : IE := (.ite (.and (.and (.and (.not (.lt (.var 0) (.lit (0 : Int)))) (.lt (.var 0) (.lit (3 : Int)))) (.not (.lt (.var 1) (.lit (0 : Int))))) (.lt (.var 1) (.lit (3 : Int)))) (.ite (.and (.eq (.var 0) (.lit (0 : Int))) (.eq (.var 1) (.lit (0 : Int)))) (.var 11) (.ite (.and (.eq (.var 0) (.lit (0 : Int))) (.eq (.var 1) (.lit (1 : Int)))) (.var 11) (.ite (.eq (.var 0) (.lit (0 : Int))) (.var 11) (.ite (.and (.eq (.var 0) (.lit (1 : Int))) (.eq (.var 1) (.lit (0 : Int)))) (.var 11) (.ite (.and (.eq (.var 0) (.lit (1 : Int))) (.eq (.var 1) (.lit (1 : Int)))) (.var 11) (.ite (.eq (.var 0) (.lit (1 : Int))) (.var 11) (.ite (.eq (.var 1) (.lit (0 : Int))) (.var 11) (.ite (.eq (.var 1) (.lit (1 : Int))) (.var 11) (.op .max .i64 (.ite (.and (.eq (.var 0) (.lit (0 : Int))) (.eq (.var 1) (.lit (0 : Int)))) (.var 3) (.ite (.and (.eq (.var 0) (.lit (0 : Int))) (.eq (.var 1) (.lit (1 : Int)))) (.var 4) (.ite (.eq (.var 0) (.lit (0 : Int))) (.var 5) (.ite (.and (.eq (.var 0) (.lit (1 : Int))) (.eq (.var 1) (.lit (0 : Int)))) (.var 6) (.ite (.and (.eq (.var 0) (.lit (1 : Int))) (.eq (.var 1) (.lit (1 : Int)))) (.var 7) (.ite (.eq (.var 0) (.lit (1 : Int))) (.var 8) (.ite (.eq (.var 1) (.lit (0 : Int))) (.var 9) (.ite (.eq (.var 1) (.lit (1 : Int))) (.var 10) (.var 11))))))))) (.var 2)))))))))) (.var 11))
theorem wF_a8 (p : Rho) : (wF_b.ap p).i 309 = wF_e8.den { p with i := fun x => if Nat.beq x 0 = true then p.ci 0 0 (IE.den p (.op .padd .i64 (.var 300) nI)).toNat else if Nat.beq x 1 = true then p.ci 0 1 (IE.den p (.op .padd .i64 (.var 300) nI)).toNat else if Nat.beq x 2 = true then p.ci 0 2 (IE.den p (.op .padd .i64 (.var 300) nI)).toNat else p.i (x + 298) } := by kernel_rfl
theorem wF_d8 (p : Rho) : wF_e8.den p = if p.i 0 = 2 ∧ p.i 1 = 2 then Max.max (p.i 11) (p.i 2) else p.i 11 := by
  unfold wF_e8
  by_cases hc : (0 ≤ p.i 0 ∧ p.i 0 < 3) ∧ 0 ≤ p.i 1 ∧ p.i 1 < 3
  · rcases (by omega : p.i 0 = 0 ∨ p.i 0 = 1 ∨ p.i 0 = 2) with h | h | h <;> rcases (by omega : p.i 1 = 0 ∨ p.i 1 = 1 ∨ p.i 1 = 2) with g | g | g <;> simp [IE.den, BE.den, IOp.den, h, g]
  · rw [if_neg (show ¬ (p.i 0 = 2 ∧ p.i 1 = 2) by omega)]
    rcases (by omega : p.i 0 < 0 ∨ 3 ≤ p.i 0 ∨ p.i 1 < 0 ∨ 3 ≤ p.i 1) with h | h | h | h
    · have := Int.not_le.2 h
      simp [IE.den, BE.den, IOp.den, h, this]
    · have := Int.not_lt.2 h
      simp [IE.den, BE.den, IOp.den, h, this]
    · have := Int.not_le.2 h
      simp [IE.den, BE.den, IOp.den, h, this]
    · have := Int.not_lt.2 h
      simp [IE.den, BE.den, IOp.den, h, this]
theorem wF_s8 (p : Rho) : (wF_b.ap p).i 309 = if p.ci 0 0 (IE.den p (.op .padd .i64 (.var 300) nI)).toNat = 2 ∧ p.ci 0 1 (IE.den p (.op .padd .i64 (.var 300) nI)).toNat = 2 then Max.max (p.i 309) (p.ci 0 2 (IE.den p (.op .padd .i64 (.var 300) nI)).toNat) else p.i 309 := by
  rw [wF_a8, wF_d8]
  rfl
def wG_e0 : IE := (.ite (.and (.eq (.cl 0 1 (.var 320)) (.var 1)) (.and (.and (.and (.not (.lt (.cl 0 0 (.var 320)) (.lit (0 : Int)))) (.lt (.cl 0 0 (.var 320)) (.lit (3 : Int)))) (.not (.lt (.var 1) (.lit (0 : Int))))) (.lt (.var 1) (.lit (3 : Int))))) (.ite (.eq (.cl 0 0 (.var 320)) (.lit (0 : Int))) (.op .max .i64 (.ite (.eq (.cl 0 0 (.var 320)) (.lit (0 : Int))) (.var 321) (.ite (.eq (.cl 0 0 (.var 320)) (.lit (1 : Int))) (.var 322) (.var 323))) (.cl 0 2 (.var 320))) (.var 321)) (.var 321))
theorem wG_a0 (p : Rho) : (wG_b.ap p).i 321 = wG_e0.den p := by kernel_rfl
theorem wG_s0 (p : Rho) : (wG_b.ap p).i 321 = if p.ci 0 1 (p.i 320).toNat = p.i 1 ∧ 0 ≤ p.i 1 ∧ p.i 1 < 3 ∧ p.ci 0 0 (p.i 320).toNat = 0 then Max.max (p.i 321) (p.ci 0 2 (p.i 320).toNat) else p.i 321 := by
  rw [wG_a0]
  unfold wG_e0
  by_cases he : p.ci 0 1 (p.i 320).toNat = p.i 1
  · by_cases hc : (0 ≤ p.ci 0 0 (p.i 320).toNat ∧ p.ci 0 0 (p.i 320).toNat < 3) ∧ 0 ≤ p.i 1 ∧ p.i 1 < 3
    · have h1 := Int.not_lt.2 hc.2.1
      rcases (by omega : p.ci 0 0 (p.i 320).toNat = 0 ∨ p.ci 0 0 (p.i 320).toNat = 1 ∨ p.ci 0 0 (p.i 320).toNat = 2) with h | h | h <;> simp [IE.den, BE.den, IOp.den, h, he, hc.2.1, hc.2.2, h1]
    · rw [if_neg (show ¬ (p.ci 0 1 (p.i 320).toNat = p.i 1 ∧ 0 ≤ p.i 1 ∧ p.i 1 < 3 ∧ p.ci 0 0 (p.i 320).toNat = 0) by omega)]
      rcases (by omega : p.ci 0 0 (p.i 320).toNat < 0 ∨ 3 ≤ p.ci 0 0 (p.i 320).toNat ∨ p.i 1 < 0 ∨ 3 ≤ p.i 1) with h | h | h | h
      · have := Int.not_le.2 h
        simp [IE.den, BE.den, IOp.den, h, he, this]
      · have := Int.not_lt.2 h
        simp [IE.den, BE.den, IOp.den, h, he, this]
      · have := Int.not_le.2 h
        simp [IE.den, BE.den, IOp.den, h, he, this]
      · have := Int.not_lt.2 h
        simp [IE.den, BE.den, IOp.den, h, he, this]
  · simp [IE.den, BE.den, IOp.den, he]
def wG_e1 : IE := (.ite (.and (.eq (.cl 0 1 (.var 320)) (.var 1)) (.and (.and (.and (.not (.lt (.cl 0 0 (.var 320)) (.lit (0 : Int)))) (.lt (.cl 0 0 (.var 320)) (.lit (3 : Int)))) (.not (.lt (.var 1) (.lit (0 : Int))))) (.lt (.var 1) (.lit (3 : Int))))) (.ite (.eq (.cl 0 0 (.var 320)) (.lit (0 : Int))) (.var 322) (.ite (.eq (.cl 0 0 (.var 320)) (.lit (1 : Int))) (.op .max .i64 (.ite (.eq (.cl 0 0 (.var 320)) (.lit (0 : Int))) (.var 321) (.ite (.eq (.cl 0 0 (.var 320)) (.lit (1 : Int))) (.var 322) (.var 323))) (.cl 0 2 (.var 320))) (.var 322))) (.var 322))
theorem wG_a1 (p : Rho) : (wG_b.ap p).i 322 = wG_e1.den p := by kernel_rfl
theorem wG_s1 (p : Rho) : (wG_b.ap p).i 322 = if p.ci 0 1 (p.i 320).toNat = p.i 1 ∧ 0 ≤ p.i 1 ∧ p.i 1 < 3 ∧ p.ci 0 0 (p.i 320).toNat = 1 then Max.max (p.i 322) (p.ci 0 2 (p.i 320).toNat) else p.i 322 := by
  rw [wG_a1]
  unfold wG_e1
  by_cases he : p.ci 0 1 (p.i 320).toNat = p.i 1
  · by_cases hc : (0 ≤ p.ci 0 0 (p.i 320).toNat ∧ p.ci 0 0 (p.i 320).toNat < 3) ∧ 0 ≤ p.i 1 ∧ p.i 1 < 3
    · have h1 := Int.not_lt.2 hc.2.1
      rcases (by omega : p.ci 0 0 (p.i 320).toNat = 0 ∨ p.ci 0 0 (p.i 320).toNat = 1 ∨ p.ci 0 0 (p.i 320).toNat = 2) with h | h | h <;> simp [IE.den, BE.den, IOp.den, h, he, hc.2.1, hc.2.2, h1]
    · rw [if_neg (show ¬ (p.ci 0 1 (p.i 320).toNat = p.i 1 ∧ 0 ≤ p.i 1 ∧ p.i 1 < 3 ∧ p.ci 0 0 (p.i 320).toNat = 1) by omega)]
      rcases (by omega : p.ci 0 0 (p.i 320).toNat < 0 ∨ 3 ≤ p.ci 0 0 (p.i 320).toNat ∨ p.i 1 < 0 ∨ 3 ≤ p.i 1) with h | h | h | h
      · have := Int.not_le.2 h
        simp [IE.den, BE.den, IOp.den, h, he, this]
      · have := Int.not_lt.2 h
        simp [IE.den, BE.den, IOp.den, h, he, this]
      · have := Int.not_le.2 h
        simp [IE.den, BE.den, IOp.den, h, he, this]
      · have := Int.not_lt.2 h
        simp [IE.den, BE.den, IOp.den, h, he, this]
  · simp [IE.den, BE.den, IOp.den, he]
def wG_e2 : IE := (.ite (.and (.eq (.cl 0 1 (.var 320)) (.var 1)) (.and (.and (.and (.not (.lt (.cl 0 0 (.var 320)) (.lit (0 : Int)))) (.lt (.cl 0 0 (.var 320)) (.lit (3 : Int)))) (.not (.lt (.var 1) (.lit (0 : Int))))) (.lt (.var 1) (.lit (3 : Int))))) (.ite (.eq (.cl 0 0 (.var 320)) (.lit (0 : Int))) (.var 323) (.ite (.eq (.cl 0 0 (.var 320)) (.lit (1 : Int))) (.var 323) (.op .max .i64 (.ite (.eq (.cl 0 0 (.var 320)) (.lit (0 : Int))) (.var 321) (.ite (.eq (.cl 0 0 (.var 320)) (.lit (1 : Int))) (.var 322) (.var 323))) (.cl 0 2 (.var 320))))) (.var 323))
theorem wG_a2 (p : Rho) : (wG_b.ap p).i 323 = wG_e2.den p := by kernel_rfl
theorem wG_s2 (p : Rho) : (wG_b.ap p).i 323 = if p.ci 0 1 (p.i 320).toNat = p.i 1 ∧ 0 ≤ p.i 1 ∧ p.i 1 < 3 ∧ p.ci 0 0 (p.i 320).toNat = 2 then Max.max (p.i 323) (p.ci 0 2 (p.i 320).toNat) else p.i 323 := by
  rw [wG_a2]
  unfold wG_e2
  by_cases he : p.ci 0 1 (p.i 320).toNat = p.i 1
  · by_cases hc : (0 ≤ p.ci 0 0 (p.i 320).toNat ∧ p.ci 0 0 (p.i 320).toNat < 3) ∧ 0 ≤ p.i 1 ∧ p.i 1 < 3
    · have h1 := Int.not_lt.2 hc.2.1
      rcases (by omega : p.ci 0 0 (p.i 320).toNat = 0 ∨ p.ci 0 0 (p.i 320).toNat = 1 ∨ p.ci 0 0 (p.i 320).toNat = 2) with h | h | h <;> simp [IE.den, BE.den, IOp.den, h, he, hc.2.1, hc.2.2, h1]
    · rw [if_neg (show ¬ (p.ci 0 1 (p.i 320).toNat = p.i 1 ∧ 0 ≤ p.i 1 ∧ p.i 1 < 3 ∧ p.ci 0 0 (p.i 320).toNat = 2) by omega)]
      rcases (by omega : p.ci 0 0 (p.i 320).toNat < 0 ∨ 3 ≤ p.ci 0 0 (p.i 320).toNat ∨ p.i 1 < 0 ∨ 3 ≤ p.i 1) with h | h | h | h
      · have := Int.not_le.2 h
        simp [IE.den, BE.den, IOp.den, h, he, this]
      · have := Int.not_lt.2 h
        simp [IE.den, BE.den, IOp.den, h, he, this]
      · have := Int.not_le.2 h
        simp [IE.den, BE.den, IOp.den, h, he, this]
      · have := Int.not_lt.2 h
        simp [IE.den, BE.den, IOp.den, h, he, this]
  · simp [IE.den, BE.den, IOp.den, he]
theorem wA_cnt (ρ : Rho) (j : Nat) (h : j < 4611686018427387904) : (wA_b.it (wA_i.ap ρ) j).i 200 = j := it_count (e := .lit 0) rfl rfl j h
theorem wA_f (ρ ρ2 : Rho) (hc : ∀ k r, ρ2.ci 0 k r = ρ.ci 0 k r)   : ∀ j : Nat, j < 4611686018427387904 → (wA_b.it (wA_i.ap ρ2) j).i 201 = mxF (fun j => ρ.ci 0 9 j) j ∧ (wA_b.it (wA_i.ap ρ2) j).i 202 = mxF (fun j => ρ.ci 0 10 j) j ∧ (wA_b.it (wA_i.ap ρ2) j).i 203 = mxF (fun j => ρ.ci 0 11 j) j ∧ (wA_b.it (wA_i.ap ρ2) j).i 204 = mxF (fun j => ρ.ci 0 12 j) j ∧ (wA_b.it (wA_i.ap ρ2) j).i 205 = mxF (fun j => ρ.ci 0 13 j) j ∧ (wA_b.it (wA_i.ap ρ2) j).i 206 = mxF (fun j => ρ.ci 0 14 j) j ∧ (wA_b.it (wA_i.ap ρ2) j).i 207 = mxF (fun j => ρ.ci 0 15 j) j ∧ (wA_b.it (wA_i.ap ρ2) j).i 208 = mxF (fun j => ρ.ci 0 16 j) j ∧ (wA_b.it (wA_i.ap ρ2) j).i 209 = mxF (fun j => ρ.ci 0 17 j) j
  | 0, _ => ⟨rfl, rfl, rfl, rfl, rfl, rfl, rfl, rfl, rfl⟩
  | j + 1, hj => by
    have ih := wA_f ρ ρ2 hc  j (by omega)
    have cn := wA_cnt ρ2 j (by omega)
    have hb : ∀ k r, (wA_b.it (wA_i.ap ρ2) j).ci 0 k r = ρ.ci 0 k r := fun k r => by rw [← (Bind.it_agree wA_bg _ j).ci 0 (by omega), ← (Bind.agree wA_ig ρ2).ci 0 (by omega)]; exact hc k r
    simp only [Bind.it]
    generalize wA_b.it (wA_i.ap ρ2) j = q at ih cn hb ⊢
    obtain ⟨i0, i1, i2, i3, i4, i5, i6, i7, i8⟩ := ih
    refine ⟨?_, ?_, ?_, ?_, ?_, ?_, ?_, ?_, ?_⟩
    · rw [wA_s0, cn, i0]
      simp only [hb, Int.toNat_natCast]
      rw [Int.max_eq_right (mxF_nn _ _)]; rfl
    · rw [wA_s1, cn, i1]
      simp only [hb, Int.toNat_natCast]
      rw [Int.max_eq_right (mxF_nn _ _)]; rfl
    · rw [wA_s2, cn, i2]
      simp only [hb, Int.toNat_natCast]
      rw [Int.max_eq_right (mxF_nn _ _)]; rfl
    · rw [wA_s3, cn, i3]
      simp only [hb, Int.toNat_natCast]
      rw [Int.max_eq_right (mxF_nn _ _)]; rfl
    · rw [wA_s4, cn, i4]
      simp only [hb, Int.toNat_natCast]
      rw [Int.max_eq_right (mxF_nn _ _)]; rfl
    · rw [wA_s5, cn, i5]
      simp only [hb, Int.toNat_natCast]
      rw [Int.max_eq_right (mxF_nn _ _)]; rfl
    · rw [wA_s6, cn, i6]
      simp only [hb, Int.toNat_natCast]
      rw [Int.max_eq_right (mxF_nn _ _)]; rfl
    · rw [wA_s7, cn, i7]
      simp only [hb, Int.toNat_natCast]
      rw [Int.max_eq_right (mxF_nn _ _)]; rfl
    · rw [wA_s8, cn, i8]
      simp only [hb, Int.toNat_natCast]
      rw [Int.max_eq_right (mxF_nn _ _)]; rfl
theorem wB_cnt (ρ : Rho) (j : Nat) (h : j < 4611686018427387904) : (wB_b.it (wB_i.ap ρ) j).i 220 = j := it_count (e := .lit 0) rfl rfl j h
theorem wB_f (ρ ρ2 : Rho) (hc : ∀ k r, ρ2.ci 0 k r = ρ.ci 0 k r) (n0 : 0 ≤ ρ2.i 201) (n1 : 0 ≤ ρ2.i 202) (n2 : 0 ≤ ρ2.i 203) (n3 : 0 ≤ ρ2.i 204) (n4 : 0 ≤ ρ2.i 205) (n5 : 0 ≤ ρ2.i 206) (n6 : 0 ≤ ρ2.i 207) (n7 : 0 ≤ ρ2.i 208) (n8 : 0 ≤ ρ2.i 209)  : ∀ j : Nat, j < 4611686018427387904 → (wB_b.it (wB_i.ap ρ2) j).i 221 = Max.max (ρ2.i 201) (dtF (fun j => decide (ρ.ci 0 0 j = 0 ∧ ρ.ci 0 1 j = 0)) (fun j => ρ.ci 0 2 j) j) ∧ (wB_b.it (wB_i.ap ρ2) j).i 222 = Max.max (ρ2.i 202) (dtF (fun j => decide (ρ.ci 0 0 j = 0 ∧ ρ.ci 0 1 j = 1)) (fun j => ρ.ci 0 2 j) j) ∧ (wB_b.it (wB_i.ap ρ2) j).i 223 = Max.max (ρ2.i 203) (dtF (fun j => decide (ρ.ci 0 0 j = 0 ∧ ρ.ci 0 1 j = 2)) (fun j => ρ.ci 0 2 j) j) ∧ (wB_b.it (wB_i.ap ρ2) j).i 224 = Max.max (ρ2.i 204) (dtF (fun j => decide (ρ.ci 0 0 j = 1 ∧ ρ.ci 0 1 j = 0)) (fun j => ρ.ci 0 2 j) j) ∧ (wB_b.it (wB_i.ap ρ2) j).i 225 = Max.max (ρ2.i 205) (dtF (fun j => decide (ρ.ci 0 0 j = 1 ∧ ρ.ci 0 1 j = 1)) (fun j => ρ.ci 0 2 j) j) ∧ (wB_b.it (wB_i.ap ρ2) j).i 226 = Max.max (ρ2.i 206) (dtF (fun j => decide (ρ.ci 0 0 j = 1 ∧ ρ.ci 0 1 j = 2)) (fun j => ρ.ci 0 2 j) j) ∧ (wB_b.it (wB_i.ap ρ2) j).i 227 = Max.max (ρ2.i 207) (dtF (fun j => decide (ρ.ci 0 0 j = 2 ∧ ρ.ci 0 1 j = 0)) (fun j => ρ.ci 0 2 j) j) ∧ (wB_b.it (wB_i.ap ρ2) j).i 228 = Max.max (ρ2.i 208) (dtF (fun j => decide (ρ.ci 0 0 j = 2 ∧ ρ.ci 0 1 j = 1)) (fun j => ρ.ci 0 2 j) j) ∧ (wB_b.it (wB_i.ap ρ2) j).i 229 = Max.max (ρ2.i 209) (dtF (fun j => decide (ρ.ci 0 0 j = 2 ∧ ρ.ci 0 1 j = 2)) (fun j => ρ.ci 0 2 j) j)
  | 0, _ => ⟨(Int.max_eq_left n0).symm, (Int.max_eq_left n1).symm, (Int.max_eq_left n2).symm, (Int.max_eq_left n3).symm, (Int.max_eq_left n4).symm, (Int.max_eq_left n5).symm, (Int.max_eq_left n6).symm, (Int.max_eq_left n7).symm, (Int.max_eq_left n8).symm⟩
  | j + 1, hj => by
    have ih := wB_f ρ ρ2 hc n0 n1 n2 n3 n4 n5 n6 n7 n8 j (by omega)
    have cn := wB_cnt ρ2 j (by omega)
    have hb : ∀ k r, (wB_b.it (wB_i.ap ρ2) j).ci 0 k r = ρ.ci 0 k r := fun k r => by rw [← (Bind.it_agree wB_bg _ j).ci 0 (by omega), ← (Bind.agree wB_ig ρ2).ci 0 (by omega)]; exact hc k r
    simp only [Bind.it]
    generalize wB_b.it (wB_i.ap ρ2) j = q at ih cn hb ⊢
    obtain ⟨i0, i1, i2, i3, i4, i5, i6, i7, i8⟩ := ih
    refine ⟨?_, ?_, ?_, ?_, ?_, ?_, ?_, ?_, ?_⟩
    · rw [wB_s0, cn, i0]
      simp only [hb, Int.toNat_natCast]
      simp only [dtF, decide_eq_true_eq]
      exact mx_step _ _ _ _
    · rw [wB_s1, cn, i1]
      simp only [hb, Int.toNat_natCast]
      simp only [dtF, decide_eq_true_eq]
      exact mx_step _ _ _ _
    · rw [wB_s2, cn, i2]
      simp only [hb, Int.toNat_natCast]
      simp only [dtF, decide_eq_true_eq]
      exact mx_step _ _ _ _
    · rw [wB_s3, cn, i3]
      simp only [hb, Int.toNat_natCast]
      simp only [dtF, decide_eq_true_eq]
      exact mx_step _ _ _ _
    · rw [wB_s4, cn, i4]
      simp only [hb, Int.toNat_natCast]
      simp only [dtF, decide_eq_true_eq]
      exact mx_step _ _ _ _
    · rw [wB_s5, cn, i5]
      simp only [hb, Int.toNat_natCast]
      simp only [dtF, decide_eq_true_eq]
      exact mx_step _ _ _ _
    · rw [wB_s6, cn, i6]
      simp only [hb, Int.toNat_natCast]
      simp only [dtF, decide_eq_true_eq]
      exact mx_step _ _ _ _
    · rw [wB_s7, cn, i7]
      simp only [hb, Int.toNat_natCast]
      simp only [dtF, decide_eq_true_eq]
      exact mx_step _ _ _ _
    · rw [wB_s8, cn, i8]
      simp only [hb, Int.toNat_natCast]
      simp only [dtF, decide_eq_true_eq]
      exact mx_step _ _ _ _
theorem wC_cnt (ρ : Rho) (j : Nat) (h : j < 4611686018427387904) : (wC_b.it (wC_i.ap ρ) j).i 240 = j := it_count (e := .lit 0) rfl rfl j h
theorem wC_f (ρ ρ2 : Rho) (hc : ∀ k r, ρ2.ci 0 k r = ρ.ci 0 k r)   : ∀ j : Nat, j < 4611686018427387904 → (wC_b.it (wC_i.ap ρ2) j).i 241 = mxF (fun j => ρ.ci 0 9 j) j ∧ (wC_b.it (wC_i.ap ρ2) j).i 242 = mxF (fun j => ρ.ci 0 10 j) j ∧ (wC_b.it (wC_i.ap ρ2) j).i 243 = mxF (fun j => ρ.ci 0 11 j) j ∧ (wC_b.it (wC_i.ap ρ2) j).i 244 = mxF (fun j => ρ.ci 0 12 j) j ∧ (wC_b.it (wC_i.ap ρ2) j).i 245 = mxF (fun j => ρ.ci 0 13 j) j ∧ (wC_b.it (wC_i.ap ρ2) j).i 246 = mxF (fun j => ρ.ci 0 14 j) j ∧ (wC_b.it (wC_i.ap ρ2) j).i 247 = mxF (fun j => ρ.ci 0 15 j) j ∧ (wC_b.it (wC_i.ap ρ2) j).i 248 = mxF (fun j => ρ.ci 0 16 j) j ∧ (wC_b.it (wC_i.ap ρ2) j).i 249 = mxF (fun j => ρ.ci 0 17 j) j
  | 0, _ => ⟨rfl, rfl, rfl, rfl, rfl, rfl, rfl, rfl, rfl⟩
  | j + 1, hj => by
    have ih := wC_f ρ ρ2 hc  j (by omega)
    have cn := wC_cnt ρ2 j (by omega)
    have hb : ∀ k r, (wC_b.it (wC_i.ap ρ2) j).ci 0 k r = ρ.ci 0 k r := fun k r => by rw [← (Bind.it_agree wC_bg _ j).ci 0 (by omega), ← (Bind.agree wC_ig ρ2).ci 0 (by omega)]; exact hc k r
    simp only [Bind.it]
    generalize wC_b.it (wC_i.ap ρ2) j = q at ih cn hb ⊢
    obtain ⟨i0, i1, i2, i3, i4, i5, i6, i7, i8⟩ := ih
    refine ⟨?_, ?_, ?_, ?_, ?_, ?_, ?_, ?_, ?_⟩
    · rw [wC_s0, cn, i0]
      simp only [hb, Int.toNat_natCast]
      rw [Int.max_eq_right (mxF_nn _ _)]; rfl
    · rw [wC_s1, cn, i1]
      simp only [hb, Int.toNat_natCast]
      rw [Int.max_eq_right (mxF_nn _ _)]; rfl
    · rw [wC_s2, cn, i2]
      simp only [hb, Int.toNat_natCast]
      rw [Int.max_eq_right (mxF_nn _ _)]; rfl
    · rw [wC_s3, cn, i3]
      simp only [hb, Int.toNat_natCast]
      rw [Int.max_eq_right (mxF_nn _ _)]; rfl
    · rw [wC_s4, cn, i4]
      simp only [hb, Int.toNat_natCast]
      rw [Int.max_eq_right (mxF_nn _ _)]; rfl
    · rw [wC_s5, cn, i5]
      simp only [hb, Int.toNat_natCast]
      rw [Int.max_eq_right (mxF_nn _ _)]; rfl
    · rw [wC_s6, cn, i6]
      simp only [hb, Int.toNat_natCast]
      rw [Int.max_eq_right (mxF_nn _ _)]; rfl
    · rw [wC_s7, cn, i7]
      simp only [hb, Int.toNat_natCast]
      rw [Int.max_eq_right (mxF_nn _ _)]; rfl
    · rw [wC_s8, cn, i8]
      simp only [hb, Int.toNat_natCast]
      rw [Int.max_eq_right (mxF_nn _ _)]; rfl
theorem wD_cnt (ρ : Rho) (j : Nat) (h : j < 4611686018427387904) : (wD_b.it (wD_i.ap ρ) j).i 260 = j := it_count (e := .lit 0) rfl rfl j h
theorem wD_f (ρ ρ2 : Rho) (hc : ∀ k r, ρ2.ci 0 k r = ρ.ci 0 k r) (n0 : 0 ≤ ρ2.i 241) (n1 : 0 ≤ ρ2.i 242) (n2 : 0 ≤ ρ2.i 243) (n3 : 0 ≤ ρ2.i 244) (n4 : 0 ≤ ρ2.i 245) (n5 : 0 ≤ ρ2.i 246) (n6 : 0 ≤ ρ2.i 247) (n7 : 0 ≤ ρ2.i 248) (n8 : 0 ≤ ρ2.i 249)  : ∀ j : Nat, j < 4611686018427387904 → (wD_b.it (wD_i.ap ρ2) j).i 261 = Max.max (ρ2.i 241) (dtF (fun j => decide (ρ.ci 0 0 j = 0 ∧ ρ.ci 0 1 j = 0)) (fun j => ρ.ci 0 2 j) j) ∧ (wD_b.it (wD_i.ap ρ2) j).i 262 = Max.max (ρ2.i 242) (dtF (fun j => decide (ρ.ci 0 0 j = 0 ∧ ρ.ci 0 1 j = 1)) (fun j => ρ.ci 0 2 j) j) ∧ (wD_b.it (wD_i.ap ρ2) j).i 263 = Max.max (ρ2.i 243) (dtF (fun j => decide (ρ.ci 0 0 j = 0 ∧ ρ.ci 0 1 j = 2)) (fun j => ρ.ci 0 2 j) j) ∧ (wD_b.it (wD_i.ap ρ2) j).i 264 = Max.max (ρ2.i 244) (dtF (fun j => decide (ρ.ci 0 0 j = 1 ∧ ρ.ci 0 1 j = 0)) (fun j => ρ.ci 0 2 j) j) ∧ (wD_b.it (wD_i.ap ρ2) j).i 265 = Max.max (ρ2.i 245) (dtF (fun j => decide (ρ.ci 0 0 j = 1 ∧ ρ.ci 0 1 j = 1)) (fun j => ρ.ci 0 2 j) j) ∧ (wD_b.it (wD_i.ap ρ2) j).i 266 = Max.max (ρ2.i 246) (dtF (fun j => decide (ρ.ci 0 0 j = 1 ∧ ρ.ci 0 1 j = 2)) (fun j => ρ.ci 0 2 j) j) ∧ (wD_b.it (wD_i.ap ρ2) j).i 267 = Max.max (ρ2.i 247) (dtF (fun j => decide (ρ.ci 0 0 j = 2 ∧ ρ.ci 0 1 j = 0)) (fun j => ρ.ci 0 2 j) j) ∧ (wD_b.it (wD_i.ap ρ2) j).i 268 = Max.max (ρ2.i 248) (dtF (fun j => decide (ρ.ci 0 0 j = 2 ∧ ρ.ci 0 1 j = 1)) (fun j => ρ.ci 0 2 j) j) ∧ (wD_b.it (wD_i.ap ρ2) j).i 269 = Max.max (ρ2.i 249) (dtF (fun j => decide (ρ.ci 0 0 j = 2 ∧ ρ.ci 0 1 j = 2)) (fun j => ρ.ci 0 2 j) j)
  | 0, _ => ⟨(Int.max_eq_left n0).symm, (Int.max_eq_left n1).symm, (Int.max_eq_left n2).symm, (Int.max_eq_left n3).symm, (Int.max_eq_left n4).symm, (Int.max_eq_left n5).symm, (Int.max_eq_left n6).symm, (Int.max_eq_left n7).symm, (Int.max_eq_left n8).symm⟩
  | j + 1, hj => by
    have ih := wD_f ρ ρ2 hc n0 n1 n2 n3 n4 n5 n6 n7 n8 j (by omega)
    have cn := wD_cnt ρ2 j (by omega)
    have hb : ∀ k r, (wD_b.it (wD_i.ap ρ2) j).ci 0 k r = ρ.ci 0 k r := fun k r => by rw [← (Bind.it_agree wD_bg _ j).ci 0 (by omega), ← (Bind.agree wD_ig ρ2).ci 0 (by omega)]; exact hc k r
    simp only [Bind.it]
    generalize wD_b.it (wD_i.ap ρ2) j = q at ih cn hb ⊢
    obtain ⟨i0, i1, i2, i3, i4, i5, i6, i7, i8⟩ := ih
    refine ⟨?_, ?_, ?_, ?_, ?_, ?_, ?_, ?_, ?_⟩
    · rw [wD_s0, cn, i0]
      simp only [hb, Int.toNat_natCast]
      simp only [dtF, decide_eq_true_eq]
      exact mx_step _ _ _ _
    · rw [wD_s1, cn, i1]
      simp only [hb, Int.toNat_natCast]
      simp only [dtF, decide_eq_true_eq]
      exact mx_step _ _ _ _
    · rw [wD_s2, cn, i2]
      simp only [hb, Int.toNat_natCast]
      simp only [dtF, decide_eq_true_eq]
      exact mx_step _ _ _ _
    · rw [wD_s3, cn, i3]
      simp only [hb, Int.toNat_natCast]
      simp only [dtF, decide_eq_true_eq]
      exact mx_step _ _ _ _
    · rw [wD_s4, cn, i4]
      simp only [hb, Int.toNat_natCast]
      simp only [dtF, decide_eq_true_eq]
      exact mx_step _ _ _ _
    · rw [wD_s5, cn, i5]
      simp only [hb, Int.toNat_natCast]
      simp only [dtF, decide_eq_true_eq]
      exact mx_step _ _ _ _
    · rw [wD_s6, cn, i6]
      simp only [hb, Int.toNat_natCast]
      simp only [dtF, decide_eq_true_eq]
      exact mx_step _ _ _ _
    · rw [wD_s7, cn, i7]
      simp only [hb, Int.toNat_natCast]
      simp only [dtF, decide_eq_true_eq]
      exact mx_step _ _ _ _
    · rw [wD_s8, cn, i8]
      simp only [hb, Int.toNat_natCast]
      simp only [dtF, decide_eq_true_eq]
      exact mx_step _ _ _ _
theorem wE_cnt (ρ : Rho) (j : Nat) (h : j < 4611686018427387904) : (wE_b.it (wE_i.ap ρ) j).i 280 = j := it_count (e := .lit 0) rfl rfl j h
theorem wE_f (ρ ρ2 : Rho) (o0 : Nat) (hn : IE.den ρ2 nI = o0) (hc : ∀ k r, ρ2.ci 0 k r = ρ.ci 0 k r)  : ∀ j : Nat, j < 4611686018427387904 → (wE_b.it (wE_i.ap ρ2) j).i 281 = mxF (fun j => ρ.ci 0 9 (o0 + j)) j ∧ (wE_b.it (wE_i.ap ρ2) j).i 282 = mxF (fun j => ρ.ci 0 10 (o0 + j)) j ∧ (wE_b.it (wE_i.ap ρ2) j).i 283 = mxF (fun j => ρ.ci 0 11 (o0 + j)) j ∧ (wE_b.it (wE_i.ap ρ2) j).i 284 = mxF (fun j => ρ.ci 0 12 (o0 + j)) j ∧ (wE_b.it (wE_i.ap ρ2) j).i 285 = mxF (fun j => ρ.ci 0 13 (o0 + j)) j ∧ (wE_b.it (wE_i.ap ρ2) j).i 286 = mxF (fun j => ρ.ci 0 14 (o0 + j)) j ∧ (wE_b.it (wE_i.ap ρ2) j).i 287 = mxF (fun j => ρ.ci 0 15 (o0 + j)) j ∧ (wE_b.it (wE_i.ap ρ2) j).i 288 = mxF (fun j => ρ.ci 0 16 (o0 + j)) j ∧ (wE_b.it (wE_i.ap ρ2) j).i 289 = mxF (fun j => ρ.ci 0 17 (o0 + j)) j
  | 0, _ => ⟨rfl, rfl, rfl, rfl, rfl, rfl, rfl, rfl, rfl⟩
  | j + 1, hj => by
    have ih := wE_f ρ ρ2 o0 hn hc  j (by omega)
    have cn := wE_cnt ρ2 j (by omega)
    have hb : ∀ k r, (wE_b.it (wE_i.ap ρ2) j).ci 0 k r = ρ.ci 0 k r := fun k r => by rw [← (Bind.it_agree wE_bg _ j).ci 0 (by omega), ← (Bind.agree wE_ig ρ2).ci 0 (by omega)]; exact hc k r
    have hx : (IE.den (wE_b.it (wE_i.ap ρ2) j) (.op .padd .i64 (.var 280) nI)).toNat = o0 + j := by
      show ((wE_b.it (wE_i.ap ρ2) j).i 280 + IE.den (wE_b.it (wE_i.ap ρ2) j) nI).toNat = o0 + j
      rw [cn, ← IE.bel_den (Bind.it_agree wE_bg _ j) nI (by kernel_rfl), ← IE.bel_den (Bind.agree wE_ig ρ2) nI (by kernel_rfl), hn]
      omega
    simp only [Bind.it]
    generalize wE_b.it (wE_i.ap ρ2) j = q at ih cn hb hx ⊢
    obtain ⟨i0, i1, i2, i3, i4, i5, i6, i7, i8⟩ := ih
    refine ⟨?_, ?_, ?_, ?_, ?_, ?_, ?_, ?_, ?_⟩
    · rw [wE_s0, hx, i0]
      simp only [hb]
      rw [Int.max_eq_right (mxF_nn _ _)]; rfl
    · rw [wE_s1, hx, i1]
      simp only [hb]
      rw [Int.max_eq_right (mxF_nn _ _)]; rfl
    · rw [wE_s2, hx, i2]
      simp only [hb]
      rw [Int.max_eq_right (mxF_nn _ _)]; rfl
    · rw [wE_s3, hx, i3]
      simp only [hb]
      rw [Int.max_eq_right (mxF_nn _ _)]; rfl
    · rw [wE_s4, hx, i4]
      simp only [hb]
      rw [Int.max_eq_right (mxF_nn _ _)]; rfl
    · rw [wE_s5, hx, i5]
      simp only [hb]
      rw [Int.max_eq_right (mxF_nn _ _)]; rfl
    · rw [wE_s6, hx, i6]
      simp only [hb]
      rw [Int.max_eq_right (mxF_nn _ _)]; rfl
    · rw [wE_s7, hx, i7]
      simp only [hb]
      rw [Int.max_eq_right (mxF_nn _ _)]; rfl
    · rw [wE_s8, hx, i8]
      simp only [hb]
      rw [Int.max_eq_right (mxF_nn _ _)]; rfl
theorem wF_cnt (ρ : Rho) (j : Nat) (h : j < 4611686018427387904) : (wF_b.it (wF_i.ap ρ) j).i 300 = j := it_count (e := .lit 0) rfl rfl j h
theorem wF_f (ρ ρ2 : Rho) (o0 : Nat) (hn : IE.den ρ2 nI = o0) (hc : ∀ k r, ρ2.ci 0 k r = ρ.ci 0 k r) (n0 : 0 ≤ ρ2.i 281) (n1 : 0 ≤ ρ2.i 282) (n2 : 0 ≤ ρ2.i 283) (n3 : 0 ≤ ρ2.i 284) (n4 : 0 ≤ ρ2.i 285) (n5 : 0 ≤ ρ2.i 286) (n6 : 0 ≤ ρ2.i 287) (n7 : 0 ≤ ρ2.i 288) (n8 : 0 ≤ ρ2.i 289) : ∀ j : Nat, j < 4611686018427387904 → (wF_b.it (wF_i.ap ρ2) j).i 301 = Max.max (ρ2.i 281) (dtF (fun j => decide (ρ.ci 0 0 (o0 + j) = 0 ∧ ρ.ci 0 1 (o0 + j) = 0)) (fun j => ρ.ci 0 2 (o0 + j)) j) ∧ (wF_b.it (wF_i.ap ρ2) j).i 302 = Max.max (ρ2.i 282) (dtF (fun j => decide (ρ.ci 0 0 (o0 + j) = 0 ∧ ρ.ci 0 1 (o0 + j) = 1)) (fun j => ρ.ci 0 2 (o0 + j)) j) ∧ (wF_b.it (wF_i.ap ρ2) j).i 303 = Max.max (ρ2.i 283) (dtF (fun j => decide (ρ.ci 0 0 (o0 + j) = 0 ∧ ρ.ci 0 1 (o0 + j) = 2)) (fun j => ρ.ci 0 2 (o0 + j)) j) ∧ (wF_b.it (wF_i.ap ρ2) j).i 304 = Max.max (ρ2.i 284) (dtF (fun j => decide (ρ.ci 0 0 (o0 + j) = 1 ∧ ρ.ci 0 1 (o0 + j) = 0)) (fun j => ρ.ci 0 2 (o0 + j)) j) ∧ (wF_b.it (wF_i.ap ρ2) j).i 305 = Max.max (ρ2.i 285) (dtF (fun j => decide (ρ.ci 0 0 (o0 + j) = 1 ∧ ρ.ci 0 1 (o0 + j) = 1)) (fun j => ρ.ci 0 2 (o0 + j)) j) ∧ (wF_b.it (wF_i.ap ρ2) j).i 306 = Max.max (ρ2.i 286) (dtF (fun j => decide (ρ.ci 0 0 (o0 + j) = 1 ∧ ρ.ci 0 1 (o0 + j) = 2)) (fun j => ρ.ci 0 2 (o0 + j)) j) ∧ (wF_b.it (wF_i.ap ρ2) j).i 307 = Max.max (ρ2.i 287) (dtF (fun j => decide (ρ.ci 0 0 (o0 + j) = 2 ∧ ρ.ci 0 1 (o0 + j) = 0)) (fun j => ρ.ci 0 2 (o0 + j)) j) ∧ (wF_b.it (wF_i.ap ρ2) j).i 308 = Max.max (ρ2.i 288) (dtF (fun j => decide (ρ.ci 0 0 (o0 + j) = 2 ∧ ρ.ci 0 1 (o0 + j) = 1)) (fun j => ρ.ci 0 2 (o0 + j)) j) ∧ (wF_b.it (wF_i.ap ρ2) j).i 309 = Max.max (ρ2.i 289) (dtF (fun j => decide (ρ.ci 0 0 (o0 + j) = 2 ∧ ρ.ci 0 1 (o0 + j) = 2)) (fun j => ρ.ci 0 2 (o0 + j)) j)
  | 0, _ => ⟨(Int.max_eq_left n0).symm, (Int.max_eq_left n1).symm, (Int.max_eq_left n2).symm, (Int.max_eq_left n3).symm, (Int.max_eq_left n4).symm, (Int.max_eq_left n5).symm, (Int.max_eq_left n6).symm, (Int.max_eq_left n7).symm, (Int.max_eq_left n8).symm⟩
  | j + 1, hj => by
    have ih := wF_f ρ ρ2 o0 hn hc n0 n1 n2 n3 n4 n5 n6 n7 n8 j (by omega)
    have cn := wF_cnt ρ2 j (by omega)
    have hb : ∀ k r, (wF_b.it (wF_i.ap ρ2) j).ci 0 k r = ρ.ci 0 k r := fun k r => by rw [← (Bind.it_agree wF_bg _ j).ci 0 (by omega), ← (Bind.agree wF_ig ρ2).ci 0 (by omega)]; exact hc k r
    have hx : (IE.den (wF_b.it (wF_i.ap ρ2) j) (.op .padd .i64 (.var 300) nI)).toNat = o0 + j := by
      show ((wF_b.it (wF_i.ap ρ2) j).i 300 + IE.den (wF_b.it (wF_i.ap ρ2) j) nI).toNat = o0 + j
      rw [cn, ← IE.bel_den (Bind.it_agree wF_bg _ j) nI (by kernel_rfl), ← IE.bel_den (Bind.agree wF_ig ρ2) nI (by kernel_rfl), hn]
      omega
    simp only [Bind.it]
    generalize wF_b.it (wF_i.ap ρ2) j = q at ih cn hb hx ⊢
    obtain ⟨i0, i1, i2, i3, i4, i5, i6, i7, i8⟩ := ih
    refine ⟨?_, ?_, ?_, ?_, ?_, ?_, ?_, ?_, ?_⟩
    · rw [wF_s0, hx, i0]
      simp only [hb]
      simp only [dtF, decide_eq_true_eq]
      exact mx_step _ _ _ _
    · rw [wF_s1, hx, i1]
      simp only [hb]
      simp only [dtF, decide_eq_true_eq]
      exact mx_step _ _ _ _
    · rw [wF_s2, hx, i2]
      simp only [hb]
      simp only [dtF, decide_eq_true_eq]
      exact mx_step _ _ _ _
    · rw [wF_s3, hx, i3]
      simp only [hb]
      simp only [dtF, decide_eq_true_eq]
      exact mx_step _ _ _ _
    · rw [wF_s4, hx, i4]
      simp only [hb]
      simp only [dtF, decide_eq_true_eq]
      exact mx_step _ _ _ _
    · rw [wF_s5, hx, i5]
      simp only [hb]
      simp only [dtF, decide_eq_true_eq]
      exact mx_step _ _ _ _
    · rw [wF_s6, hx, i6]
      simp only [hb]
      simp only [dtF, decide_eq_true_eq]
      exact mx_step _ _ _ _
    · rw [wF_s7, hx, i7]
      simp only [hb]
      simp only [dtF, decide_eq_true_eq]
      exact mx_step _ _ _ _
    · rw [wF_s8, hx, i8]
      simp only [hb]
      simp only [dtF, decide_eq_true_eq]
      exact mx_step _ _ _ _
theorem wG_cnt (ρ : Rho) (j : Nat) (h : j < 4611686018427387904) : (wG_b.it (wG_i.ap ρ) j).i 320 = j := it_count (e := .lit 0) rfl rfl j h
theorem wG_f (ρ ρ2 : Rho) (hc : ∀ k r, ρ2.ci 0 k r = ρ.ci 0 k r)  (hr : ρ2.i 1 = ρ.i 1) : ∀ j : Nat, j < 4611686018427387904 → (wG_b.it (wG_i.ap ρ2) j).i 321 = dtF (fun j => decide (ρ.ci 0 1 j = ρ.i 1 ∧ 0 ≤ ρ.i 1 ∧ ρ.i 1 < 3 ∧ ρ.ci 0 0 j = 0)) (fun j => ρ.ci 0 2 j) j ∧ (wG_b.it (wG_i.ap ρ2) j).i 322 = dtF (fun j => decide (ρ.ci 0 1 j = ρ.i 1 ∧ 0 ≤ ρ.i 1 ∧ ρ.i 1 < 3 ∧ ρ.ci 0 0 j = 1)) (fun j => ρ.ci 0 2 j) j ∧ (wG_b.it (wG_i.ap ρ2) j).i 323 = dtF (fun j => decide (ρ.ci 0 1 j = ρ.i 1 ∧ 0 ≤ ρ.i 1 ∧ ρ.i 1 < 3 ∧ ρ.ci 0 0 j = 2)) (fun j => ρ.ci 0 2 j) j
  | 0, _ => ⟨rfl, rfl, rfl⟩
  | j + 1, hj => by
    have ih := wG_f ρ ρ2 hc hr j (by omega)
    have cn := wG_cnt ρ2 j (by omega)
    have hb : ∀ k r, (wG_b.it (wG_i.ap ρ2) j).ci 0 k r = ρ.ci 0 k r := fun k r => by rw [← (Bind.it_agree wG_bg _ j).ci 0 (by omega), ← (Bind.agree wG_ig ρ2).ci 0 (by omega)]; exact hc k r
    have hr2 : (wG_b.it (wG_i.ap ρ2) j).i 1 = ρ.i 1 := by rw [← (Bind.it_agree wG_bg _ j).i 1 (by omega), ← (Bind.agree wG_ig ρ2).i 1 (by omega)]; exact hr
    simp only [Bind.it]
    generalize wG_b.it (wG_i.ap ρ2) j = q at ih cn hb hr2 ⊢
    obtain ⟨i0, i1, i2⟩ := ih
    refine ⟨?_, ?_, ?_⟩
    · rw [wG_s0, cn, i0, hr2]
      simp only [hb, Int.toNat_natCast]
      simp only [dtF, decide_eq_true_eq]
    · rw [wG_s1, cn, i1, hr2]
      simp only [hb, Int.toNat_natCast]
      simp only [dtF, decide_eq_true_eq]
    · rw [wG_s2, cn, i2, hr2]
      simp only [hb, Int.toNat_natCast]
      simp only [dtF, decide_eq_true_eq]
end Go.Proofs.Ytcllappmhdfffaa
