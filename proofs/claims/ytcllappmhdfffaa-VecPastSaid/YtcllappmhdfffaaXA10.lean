/- The loops over writes, in closed form. -/
import Derived.Test.YtcllappmhdfffaaXL7
import Derived.Test.YtcllappmhdfffaaXQ1
namespace Go.Proofs.Ytcllappmhdfffaa
open Go Go.Proofs.Aw Go.Proofs.Xw
set_option linter.unusedSimpArgs false
set_option linter.unusedVariables false
set_option maxRecDepth 100000
theorem pA_s0 (p : Rho) : (pA_b.ap p).i 201 = Max.max (Max.max 0 (p.i 201)) (p.ci 0 9 (p.i 200).toNat) := by kernel_rfl
theorem pA_s1 (p : Rho) : (pA_b.ap p).i 202 = Max.max (Max.max 0 (p.i 202)) (p.ci 0 10 (p.i 200).toNat) := by kernel_rfl
theorem pA_s2 (p : Rho) : (pA_b.ap p).i 203 = Max.max (Max.max 0 (p.i 203)) (p.ci 0 11 (p.i 200).toNat) := by kernel_rfl
theorem pA_s3 (p : Rho) : (pA_b.ap p).i 204 = Max.max (Max.max 0 (p.i 204)) (p.ci 0 12 (p.i 200).toNat) := by kernel_rfl
theorem pA_s4 (p : Rho) : (pA_b.ap p).i 205 = Max.max (Max.max 0 (p.i 205)) (p.ci 0 13 (p.i 200).toNat) := by kernel_rfl
theorem pA_s5 (p : Rho) : (pA_b.ap p).i 206 = Max.max (Max.max 0 (p.i 206)) (p.ci 0 14 (p.i 200).toNat) := by kernel_rfl
theorem pA_s6 (p : Rho) : (pA_b.ap p).i 207 = Max.max (Max.max 0 (p.i 207)) (p.ci 0 15 (p.i 200).toNat) := by kernel_rfl
theorem pA_s7 (p : Rho) : (pA_b.ap p).i 208 = Max.max (Max.max 0 (p.i 208)) (p.ci 0 16 (p.i 200).toNat) := by kernel_rfl
theorem pA_s8 (p : Rho) : (pA_b.ap p).i 209 = Max.max (Max.max 0 (p.i 209)) (p.ci 0 17 (p.i 200).toNat) := by kernel_rfl
def pB_e0 : IE := (.ite (.and (.and (.and (.not (.lt (.cl 0 0 (.var 220)) (.lit (0 : Int)))) (.lt (.cl 0 0 (.var 220)) (.lit (3 : Int)))) (.not (.lt (.cl 0 1 (.var 220)) (.lit (0 : Int))))) (.lt (.cl 0 1 (.var 220)) (.lit (3 : Int)))) (.ite (.and (.eq (.cl 0 0 (.var 220)) (.lit (0 : Int))) (.eq (.cl 0 1 (.var 220)) (.lit (0 : Int)))) (.op .max .i64 (.ite (.and (.eq (.cl 0 0 (.var 220)) (.lit (0 : Int))) (.eq (.cl 0 1 (.var 220)) (.lit (0 : Int)))) (.var 221) (.ite (.and (.eq (.cl 0 0 (.var 220)) (.lit (0 : Int))) (.eq (.cl 0 1 (.var 220)) (.lit (1 : Int)))) (.var 222) (.ite (.eq (.cl 0 0 (.var 220)) (.lit (0 : Int))) (.var 223) (.ite (.and (.eq (.cl 0 0 (.var 220)) (.lit (1 : Int))) (.eq (.cl 0 1 (.var 220)) (.lit (0 : Int)))) (.var 224) (.ite (.and (.eq (.cl 0 0 (.var 220)) (.lit (1 : Int))) (.eq (.cl 0 1 (.var 220)) (.lit (1 : Int)))) (.var 225) (.ite (.eq (.cl 0 0 (.var 220)) (.lit (1 : Int))) (.var 226) (.ite (.eq (.cl 0 1 (.var 220)) (.lit (0 : Int))) (.var 227) (.ite (.eq (.cl 0 1 (.var 220)) (.lit (1 : Int))) (.var 228) (.var 229))))))))) (.cl 0 2 (.var 220))) (.var 221)) (.var 221))
theorem pB_a0 (p : Rho) : (pB_b.ap p).i 221 = pB_e0.den p := by kernel_rfl
theorem pB_s0 (p : Rho) : (pB_b.ap p).i 221 = if p.ci 0 0 (p.i 220).toNat = 0 ∧ p.ci 0 1 (p.i 220).toNat = 0 then Max.max (p.i 221) (p.ci 0 2 (p.i 220).toNat) else (p.i 221) := by
  rw [pB_a0]
  unfold pB_e0
  by_cases hc : (0 ≤ p.ci 0 0 (p.i 220).toNat ∧ p.ci 0 0 (p.i 220).toNat < 3) ∧ 0 ≤ p.ci 0 1 (p.i 220).toNat ∧ p.ci 0 1 (p.i 220).toNat < 3
  · rcases (by omega : p.ci 0 0 (p.i 220).toNat = 0 ∨ p.ci 0 0 (p.i 220).toNat = 1 ∨ p.ci 0 0 (p.i 220).toNat = 2) with h | h | h <;> rcases (by omega : p.ci 0 1 (p.i 220).toNat = 0 ∨ p.ci 0 1 (p.i 220).toNat = 1 ∨ p.ci 0 1 (p.i 220).toNat = 2) with g | g | g <;> simp [IE.den, BE.den, IOp.den, h, g]
  · rw [if_neg (show ¬ (p.ci 0 0 (p.i 220).toNat = 0 ∧ p.ci 0 1 (p.i 220).toNat = 0) by omega)]
    rcases (by omega : p.ci 0 0 (p.i 220).toNat < 0 ∨ 3 ≤ p.ci 0 0 (p.i 220).toNat ∨ p.ci 0 1 (p.i 220).toNat < 0 ∨ 3 ≤ p.ci 0 1 (p.i 220).toNat) with h | h | h | h
    · have := Int.not_le.2 h
      simp [IE.den, BE.den, IOp.den, h, this]
    · have := Int.not_lt.2 h
      simp [IE.den, BE.den, IOp.den, h, this]
    · have := Int.not_le.2 h
      simp [IE.den, BE.den, IOp.den, h, this]
    · have := Int.not_lt.2 h
      simp [IE.den, BE.den, IOp.den, h, this]
def pB_e1 : IE := (.ite (.and (.and (.and (.not (.lt (.cl 0 0 (.var 220)) (.lit (0 : Int)))) (.lt (.cl 0 0 (.var 220)) (.lit (3 : Int)))) (.not (.lt (.cl 0 1 (.var 220)) (.lit (0 : Int))))) (.lt (.cl 0 1 (.var 220)) (.lit (3 : Int)))) (.ite (.and (.eq (.cl 0 0 (.var 220)) (.lit (0 : Int))) (.eq (.cl 0 1 (.var 220)) (.lit (0 : Int)))) (.var 222) (.ite (.and (.eq (.cl 0 0 (.var 220)) (.lit (0 : Int))) (.eq (.cl 0 1 (.var 220)) (.lit (1 : Int)))) (.op .max .i64 (.ite (.and (.eq (.cl 0 0 (.var 220)) (.lit (0 : Int))) (.eq (.cl 0 1 (.var 220)) (.lit (0 : Int)))) (.var 221) (.ite (.and (.eq (.cl 0 0 (.var 220)) (.lit (0 : Int))) (.eq (.cl 0 1 (.var 220)) (.lit (1 : Int)))) (.var 222) (.ite (.eq (.cl 0 0 (.var 220)) (.lit (0 : Int))) (.var 223) (.ite (.and (.eq (.cl 0 0 (.var 220)) (.lit (1 : Int))) (.eq (.cl 0 1 (.var 220)) (.lit (0 : Int)))) (.var 224) (.ite (.and (.eq (.cl 0 0 (.var 220)) (.lit (1 : Int))) (.eq (.cl 0 1 (.var 220)) (.lit (1 : Int)))) (.var 225) (.ite (.eq (.cl 0 0 (.var 220)) (.lit (1 : Int))) (.var 226) (.ite (.eq (.cl 0 1 (.var 220)) (.lit (0 : Int))) (.var 227) (.ite (.eq (.cl 0 1 (.var 220)) (.lit (1 : Int))) (.var 228) (.var 229))))))))) (.cl 0 2 (.var 220))) (.var 222))) (.var 222))
theorem pB_a1 (p : Rho) : (pB_b.ap p).i 222 = pB_e1.den p := by kernel_rfl
theorem pB_s1 (p : Rho) : (pB_b.ap p).i 222 = if p.ci 0 0 (p.i 220).toNat = 0 ∧ p.ci 0 1 (p.i 220).toNat = 1 then Max.max (p.i 222) (p.ci 0 2 (p.i 220).toNat) else (p.i 222) := by
  rw [pB_a1]
  unfold pB_e1
  by_cases hc : (0 ≤ p.ci 0 0 (p.i 220).toNat ∧ p.ci 0 0 (p.i 220).toNat < 3) ∧ 0 ≤ p.ci 0 1 (p.i 220).toNat ∧ p.ci 0 1 (p.i 220).toNat < 3
  · rcases (by omega : p.ci 0 0 (p.i 220).toNat = 0 ∨ p.ci 0 0 (p.i 220).toNat = 1 ∨ p.ci 0 0 (p.i 220).toNat = 2) with h | h | h <;> rcases (by omega : p.ci 0 1 (p.i 220).toNat = 0 ∨ p.ci 0 1 (p.i 220).toNat = 1 ∨ p.ci 0 1 (p.i 220).toNat = 2) with g | g | g <;> simp [IE.den, BE.den, IOp.den, h, g]
  · rw [if_neg (show ¬ (p.ci 0 0 (p.i 220).toNat = 0 ∧ p.ci 0 1 (p.i 220).toNat = 1) by omega)]
    rcases (by omega : p.ci 0 0 (p.i 220).toNat < 0 ∨ 3 ≤ p.ci 0 0 (p.i 220).toNat ∨ p.ci 0 1 (p.i 220).toNat < 0 ∨ 3 ≤ p.ci 0 1 (p.i 220).toNat) with h | h | h | h
    · have := Int.not_le.2 h
      simp [IE.den, BE.den, IOp.den, h, this]
    · have := Int.not_lt.2 h
      simp [IE.den, BE.den, IOp.den, h, this]
    · have := Int.not_le.2 h
      simp [IE.den, BE.den, IOp.den, h, this]
    · have := Int.not_lt.2 h
      simp [IE.den, BE.den, IOp.den, h, this]
def pB_e2 : IE := (.ite (.and (.and (.and (.not (.lt (.cl 0 0 (.var 220)) (.lit (0 : Int)))) (.lt (.cl 0 0 (.var 220)) (.lit (3 : Int)))) (.not (.lt (.cl 0 1 (.var 220)) (.lit (0 : Int))))) (.lt (.cl 0 1 (.var 220)) (.lit (3 : Int)))) (.ite (.and (.eq (.cl 0 0 (.var 220)) (.lit (0 : Int))) (.eq (.cl 0 1 (.var 220)) (.lit (0 : Int)))) (.var 223) (.ite (.and (.eq (.cl 0 0 (.var 220)) (.lit (0 : Int))) (.eq (.cl 0 1 (.var 220)) (.lit (1 : Int)))) (.var 223) (.ite (.eq (.cl 0 0 (.var 220)) (.lit (0 : Int))) (.op .max .i64 (.ite (.and (.eq (.cl 0 0 (.var 220)) (.lit (0 : Int))) (.eq (.cl 0 1 (.var 220)) (.lit (0 : Int)))) (.var 221) (.ite (.and (.eq (.cl 0 0 (.var 220)) (.lit (0 : Int))) (.eq (.cl 0 1 (.var 220)) (.lit (1 : Int)))) (.var 222) (.ite (.eq (.cl 0 0 (.var 220)) (.lit (0 : Int))) (.var 223) (.ite (.and (.eq (.cl 0 0 (.var 220)) (.lit (1 : Int))) (.eq (.cl 0 1 (.var 220)) (.lit (0 : Int)))) (.var 224) (.ite (.and (.eq (.cl 0 0 (.var 220)) (.lit (1 : Int))) (.eq (.cl 0 1 (.var 220)) (.lit (1 : Int)))) (.var 225) (.ite (.eq (.cl 0 0 (.var 220)) (.lit (1 : Int))) (.var 226) (.ite (.eq (.cl 0 1 (.var 220)) (.lit (0 : Int))) (.var 227) (.ite (.eq (.cl 0 1 (.var 220)) (.lit (1 : Int))) (.var 228) (.var 229))))))))) (.cl 0 2 (.var 220))) (.var 223)))) (.var 223))
theorem pB_a2 (p : Rho) : (pB_b.ap p).i 223 = pB_e2.den p := by kernel_rfl
theorem pB_s2 (p : Rho) : (pB_b.ap p).i 223 = if p.ci 0 0 (p.i 220).toNat = 0 ∧ p.ci 0 1 (p.i 220).toNat = 2 then Max.max (p.i 223) (p.ci 0 2 (p.i 220).toNat) else (p.i 223) := by
  rw [pB_a2]
  unfold pB_e2
  by_cases hc : (0 ≤ p.ci 0 0 (p.i 220).toNat ∧ p.ci 0 0 (p.i 220).toNat < 3) ∧ 0 ≤ p.ci 0 1 (p.i 220).toNat ∧ p.ci 0 1 (p.i 220).toNat < 3
  · rcases (by omega : p.ci 0 0 (p.i 220).toNat = 0 ∨ p.ci 0 0 (p.i 220).toNat = 1 ∨ p.ci 0 0 (p.i 220).toNat = 2) with h | h | h <;> rcases (by omega : p.ci 0 1 (p.i 220).toNat = 0 ∨ p.ci 0 1 (p.i 220).toNat = 1 ∨ p.ci 0 1 (p.i 220).toNat = 2) with g | g | g <;> simp [IE.den, BE.den, IOp.den, h, g]
  · rw [if_neg (show ¬ (p.ci 0 0 (p.i 220).toNat = 0 ∧ p.ci 0 1 (p.i 220).toNat = 2) by omega)]
    rcases (by omega : p.ci 0 0 (p.i 220).toNat < 0 ∨ 3 ≤ p.ci 0 0 (p.i 220).toNat ∨ p.ci 0 1 (p.i 220).toNat < 0 ∨ 3 ≤ p.ci 0 1 (p.i 220).toNat) with h | h | h | h
    · have := Int.not_le.2 h
      simp [IE.den, BE.den, IOp.den, h, this]
    · have := Int.not_lt.2 h
      simp [IE.den, BE.den, IOp.den, h, this]
    · have := Int.not_le.2 h
      simp [IE.den, BE.den, IOp.den, h, this]
    · have := Int.not_lt.2 h
      simp [IE.den, BE.den, IOp.den, h, this]
def pB_e3 : IE := (.ite (.and (.and (.and (.not (.lt (.cl 0 0 (.var 220)) (.lit (0 : Int)))) (.lt (.cl 0 0 (.var 220)) (.lit (3 : Int)))) (.not (.lt (.cl 0 1 (.var 220)) (.lit (0 : Int))))) (.lt (.cl 0 1 (.var 220)) (.lit (3 : Int)))) (.ite (.and (.eq (.cl 0 0 (.var 220)) (.lit (0 : Int))) (.eq (.cl 0 1 (.var 220)) (.lit (0 : Int)))) (.var 224) (.ite (.and (.eq (.cl 0 0 (.var 220)) (.lit (0 : Int))) (.eq (.cl 0 1 (.var 220)) (.lit (1 : Int)))) (.var 224) (.ite (.eq (.cl 0 0 (.var 220)) (.lit (0 : Int))) (.var 224) (.ite (.and (.eq (.cl 0 0 (.var 220)) (.lit (1 : Int))) (.eq (.cl 0 1 (.var 220)) (.lit (0 : Int)))) (.op .max .i64 (.ite (.and (.eq (.cl 0 0 (.var 220)) (.lit (0 : Int))) (.eq (.cl 0 1 (.var 220)) (.lit (0 : Int)))) (.var 221) (.ite (.and (.eq (.cl 0 0 (.var 220)) (.lit (0 : Int))) (.eq (.cl 0 1 (.var 220)) (.lit (1 : Int)))) (.var 222) (.ite (.eq (.cl 0 0 (.var 220)) (.lit (0 : Int))) (.var 223) (.ite (.and (.eq (.cl 0 0 (.var 220)) (.lit (1 : Int))) (.eq (.cl 0 1 (.var 220)) (.lit (0 : Int)))) (.var 224) (.ite (.and (.eq (.cl 0 0 (.var 220)) (.lit (1 : Int))) (.eq (.cl 0 1 (.var 220)) (.lit (1 : Int)))) (.var 225) (.ite (.eq (.cl 0 0 (.var 220)) (.lit (1 : Int))) (.var 226) (.ite (.eq (.cl 0 1 (.var 220)) (.lit (0 : Int))) (.var 227) (.ite (.eq (.cl 0 1 (.var 220)) (.lit (1 : Int))) (.var 228) (.var 229))))))))) (.cl 0 2 (.var 220))) (.var 224))))) (.var 224))
theorem pB_a3 (p : Rho) : (pB_b.ap p).i 224 = pB_e3.den p := by kernel_rfl
theorem pB_s3 (p : Rho) : (pB_b.ap p).i 224 = if p.ci 0 0 (p.i 220).toNat = 1 ∧ p.ci 0 1 (p.i 220).toNat = 0 then Max.max (p.i 224) (p.ci 0 2 (p.i 220).toNat) else (p.i 224) := by
  rw [pB_a3]
  unfold pB_e3
  by_cases hc : (0 ≤ p.ci 0 0 (p.i 220).toNat ∧ p.ci 0 0 (p.i 220).toNat < 3) ∧ 0 ≤ p.ci 0 1 (p.i 220).toNat ∧ p.ci 0 1 (p.i 220).toNat < 3
  · rcases (by omega : p.ci 0 0 (p.i 220).toNat = 0 ∨ p.ci 0 0 (p.i 220).toNat = 1 ∨ p.ci 0 0 (p.i 220).toNat = 2) with h | h | h <;> rcases (by omega : p.ci 0 1 (p.i 220).toNat = 0 ∨ p.ci 0 1 (p.i 220).toNat = 1 ∨ p.ci 0 1 (p.i 220).toNat = 2) with g | g | g <;> simp [IE.den, BE.den, IOp.den, h, g]
  · rw [if_neg (show ¬ (p.ci 0 0 (p.i 220).toNat = 1 ∧ p.ci 0 1 (p.i 220).toNat = 0) by omega)]
    rcases (by omega : p.ci 0 0 (p.i 220).toNat < 0 ∨ 3 ≤ p.ci 0 0 (p.i 220).toNat ∨ p.ci 0 1 (p.i 220).toNat < 0 ∨ 3 ≤ p.ci 0 1 (p.i 220).toNat) with h | h | h | h
    · have := Int.not_le.2 h
      simp [IE.den, BE.den, IOp.den, h, this]
    · have := Int.not_lt.2 h
      simp [IE.den, BE.den, IOp.den, h, this]
    · have := Int.not_le.2 h
      simp [IE.den, BE.den, IOp.den, h, this]
    · have := Int.not_lt.2 h
      simp [IE.den, BE.den, IOp.den, h, this]
def pB_e4 : IE := (.ite (.and (.and (.and (.not (.lt (.cl 0 0 (.var 220)) (.lit (0 : Int)))) (.lt (.cl 0 0 (.var 220)) (.lit (3 : Int)))) (.not (.lt (.cl 0 1 (.var 220)) (.lit (0 : Int))))) (.lt (.cl 0 1 (.var 220)) (.lit (3 : Int)))) (.ite (.and (.eq (.cl 0 0 (.var 220)) (.lit (0 : Int))) (.eq (.cl 0 1 (.var 220)) (.lit (0 : Int)))) (.var 225) (.ite (.and (.eq (.cl 0 0 (.var 220)) (.lit (0 : Int))) (.eq (.cl 0 1 (.var 220)) (.lit (1 : Int)))) (.var 225) (.ite (.eq (.cl 0 0 (.var 220)) (.lit (0 : Int))) (.var 225) (.ite (.and (.eq (.cl 0 0 (.var 220)) (.lit (1 : Int))) (.eq (.cl 0 1 (.var 220)) (.lit (0 : Int)))) (.var 225) (.ite (.and (.eq (.cl 0 0 (.var 220)) (.lit (1 : Int))) (.eq (.cl 0 1 (.var 220)) (.lit (1 : Int)))) (.op .max .i64 (.ite (.and (.eq (.cl 0 0 (.var 220)) (.lit (0 : Int))) (.eq (.cl 0 1 (.var 220)) (.lit (0 : Int)))) (.var 221) (.ite (.and (.eq (.cl 0 0 (.var 220)) (.lit (0 : Int))) (.eq (.cl 0 1 (.var 220)) (.lit (1 : Int)))) (.var 222) (.ite (.eq (.cl 0 0 (.var 220)) (.lit (0 : Int))) (.var 223) (.ite (.and (.eq (.cl 0 0 (.var 220)) (.lit (1 : Int))) (.eq (.cl 0 1 (.var 220)) (.lit (0 : Int)))) (.var 224) (.ite (.and (.eq (.cl 0 0 (.var 220)) (.lit (1 : Int))) (.eq (.cl 0 1 (.var 220)) (.lit (1 : Int)))) (.var 225) (.ite (.eq (.cl 0 0 (.var 220)) (.lit (1 : Int))) (.var 226) (.ite (.eq (.cl 0 1 (.var 220)) (.lit (0 : Int))) (.var 227) (.ite (.eq (.cl 0 1 (.var 220)) (.lit (1 : Int))) (.var 228) (.var 229))))))))) (.cl 0 2 (.var 220))) (.var 225)))))) (.var 225))
theorem pB_a4 (p : Rho) : (pB_b.ap p).i 225 = pB_e4.den p := by kernel_rfl
theorem pB_s4 (p : Rho) : (pB_b.ap p).i 225 = if p.ci 0 0 (p.i 220).toNat = 1 ∧ p.ci 0 1 (p.i 220).toNat = 1 then Max.max (p.i 225) (p.ci 0 2 (p.i 220).toNat) else (p.i 225) := by
  rw [pB_a4]
  unfold pB_e4
  by_cases hc : (0 ≤ p.ci 0 0 (p.i 220).toNat ∧ p.ci 0 0 (p.i 220).toNat < 3) ∧ 0 ≤ p.ci 0 1 (p.i 220).toNat ∧ p.ci 0 1 (p.i 220).toNat < 3
  · rcases (by omega : p.ci 0 0 (p.i 220).toNat = 0 ∨ p.ci 0 0 (p.i 220).toNat = 1 ∨ p.ci 0 0 (p.i 220).toNat = 2) with h | h | h <;> rcases (by omega : p.ci 0 1 (p.i 220).toNat = 0 ∨ p.ci 0 1 (p.i 220).toNat = 1 ∨ p.ci 0 1 (p.i 220).toNat = 2) with g | g | g <;> simp [IE.den, BE.den, IOp.den, h, g]
  · rw [if_neg (show ¬ (p.ci 0 0 (p.i 220).toNat = 1 ∧ p.ci 0 1 (p.i 220).toNat = 1) by omega)]
    rcases (by omega : p.ci 0 0 (p.i 220).toNat < 0 ∨ 3 ≤ p.ci 0 0 (p.i 220).toNat ∨ p.ci 0 1 (p.i 220).toNat < 0 ∨ 3 ≤ p.ci 0 1 (p.i 220).toNat) with h | h | h | h
    · have := Int.not_le.2 h
      simp [IE.den, BE.den, IOp.den, h, this]
    · have := Int.not_lt.2 h
      simp [IE.den, BE.den, IOp.den, h, this]
    · have := Int.not_le.2 h
      simp [IE.den, BE.den, IOp.den, h, this]
    · have := Int.not_lt.2 h
      simp [IE.den, BE.den, IOp.den, h, this]
def pB_e5 : IE := (.ite (.and (.and (.and (.not (.lt (.cl 0 0 (.var 220)) (.lit (0 : Int)))) (.lt (.cl 0 0 (.var 220)) (.lit (3 : Int)))) (.not (.lt (.cl 0 1 (.var 220)) (.lit (0 : Int))))) (.lt (.cl 0 1 (.var 220)) (.lit (3 : Int)))) (.ite (.and (.eq (.cl 0 0 (.var 220)) (.lit (0 : Int))) (.eq (.cl 0 1 (.var 220)) (.lit (0 : Int)))) (.var 226) (.ite (.and (.eq (.cl 0 0 (.var 220)) (.lit (0 : Int))) (.eq (.cl 0 1 (.var 220)) (.lit (1 : Int)))) (.var 226) (.ite (.eq (.cl 0 0 (.var 220)) (.lit (0 : Int))) (.var 226) (.ite (.and (.eq (.cl 0 0 (.var 220)) (.lit (1 : Int))) (.eq (.cl 0 1 (.var 220)) (.lit (0 : Int)))) (.var 226) (.ite (.and (.eq (.cl 0 0 (.var 220)) (.lit (1 : Int))) (.eq (.cl 0 1 (.var 220)) (.lit (1 : Int)))) (.var 226) (.ite (.eq (.cl 0 0 (.var 220)) (.lit (1 : Int))) (.op .max .i64 (.ite (.and (.eq (.cl 0 0 (.var 220)) (.lit (0 : Int))) (.eq (.cl 0 1 (.var 220)) (.lit (0 : Int)))) (.var 221) (.ite (.and (.eq (.cl 0 0 (.var 220)) (.lit (0 : Int))) (.eq (.cl 0 1 (.var 220)) (.lit (1 : Int)))) (.var 222) (.ite (.eq (.cl 0 0 (.var 220)) (.lit (0 : Int))) (.var 223) (.ite (.and (.eq (.cl 0 0 (.var 220)) (.lit (1 : Int))) (.eq (.cl 0 1 (.var 220)) (.lit (0 : Int)))) (.var 224) (.ite (.and (.eq (.cl 0 0 (.var 220)) (.lit (1 : Int))) (.eq (.cl 0 1 (.var 220)) (.lit (1 : Int)))) (.var 225) (.ite (.eq (.cl 0 0 (.var 220)) (.lit (1 : Int))) (.var 226) (.ite (.eq (.cl 0 1 (.var 220)) (.lit (0 : Int))) (.var 227) (.ite (.eq (.cl 0 1 (.var 220)) (.lit (1 : Int))) (.var 228) (.var 229))))))))) (.cl 0 2 (.var 220))) (.var 226))))))) (.var 226))
theorem pB_a5 (p : Rho) : (pB_b.ap p).i 226 = pB_e5.den p := by kernel_rfl
theorem pB_s5 (p : Rho) : (pB_b.ap p).i 226 = if p.ci 0 0 (p.i 220).toNat = 1 ∧ p.ci 0 1 (p.i 220).toNat = 2 then Max.max (p.i 226) (p.ci 0 2 (p.i 220).toNat) else (p.i 226) := by
  rw [pB_a5]
  unfold pB_e5
  by_cases hc : (0 ≤ p.ci 0 0 (p.i 220).toNat ∧ p.ci 0 0 (p.i 220).toNat < 3) ∧ 0 ≤ p.ci 0 1 (p.i 220).toNat ∧ p.ci 0 1 (p.i 220).toNat < 3
  · rcases (by omega : p.ci 0 0 (p.i 220).toNat = 0 ∨ p.ci 0 0 (p.i 220).toNat = 1 ∨ p.ci 0 0 (p.i 220).toNat = 2) with h | h | h <;> rcases (by omega : p.ci 0 1 (p.i 220).toNat = 0 ∨ p.ci 0 1 (p.i 220).toNat = 1 ∨ p.ci 0 1 (p.i 220).toNat = 2) with g | g | g <;> simp [IE.den, BE.den, IOp.den, h, g]
  · rw [if_neg (show ¬ (p.ci 0 0 (p.i 220).toNat = 1 ∧ p.ci 0 1 (p.i 220).toNat = 2) by omega)]
    rcases (by omega : p.ci 0 0 (p.i 220).toNat < 0 ∨ 3 ≤ p.ci 0 0 (p.i 220).toNat ∨ p.ci 0 1 (p.i 220).toNat < 0 ∨ 3 ≤ p.ci 0 1 (p.i 220).toNat) with h | h | h | h
    · have := Int.not_le.2 h
      simp [IE.den, BE.den, IOp.den, h, this]
    · have := Int.not_lt.2 h
      simp [IE.den, BE.den, IOp.den, h, this]
    · have := Int.not_le.2 h
      simp [IE.den, BE.den, IOp.den, h, this]
    · have := Int.not_lt.2 h
      simp [IE.den, BE.den, IOp.den, h, this]
def pB_e6 : IE := (.ite (.and (.and (.and (.not (.lt (.cl 0 0 (.var 220)) (.lit (0 : Int)))) (.lt (.cl 0 0 (.var 220)) (.lit (3 : Int)))) (.not (.lt (.cl 0 1 (.var 220)) (.lit (0 : Int))))) (.lt (.cl 0 1 (.var 220)) (.lit (3 : Int)))) (.ite (.and (.eq (.cl 0 0 (.var 220)) (.lit (0 : Int))) (.eq (.cl 0 1 (.var 220)) (.lit (0 : Int)))) (.var 227) (.ite (.and (.eq (.cl 0 0 (.var 220)) (.lit (0 : Int))) (.eq (.cl 0 1 (.var 220)) (.lit (1 : Int)))) (.var 227) (.ite (.eq (.cl 0 0 (.var 220)) (.lit (0 : Int))) (.var 227) (.ite (.and (.eq (.cl 0 0 (.var 220)) (.lit (1 : Int))) (.eq (.cl 0 1 (.var 220)) (.lit (0 : Int)))) (.var 227) (.ite (.and (.eq (.cl 0 0 (.var 220)) (.lit (1 : Int))) (.eq (.cl 0 1 (.var 220)) (.lit (1 : Int)))) (.var 227) (.ite (.eq (.cl 0 0 (.var 220)) (.lit (1 : Int))) (.var 227) (.ite (.eq (.cl 0 1 (.var 220)) (.lit (0 : Int))) (.op .max .i64 (.ite (.and (.eq (.cl 0 0 (.var 220)) (.lit (0 : Int))) (.eq (.cl 0 1 (.var 220)) (.lit (0 : Int)))) (.var 221) (.ite (.and (.eq (.cl 0 0 (.var 220)) (.lit (0 : Int))) (.eq (.cl 0 1 (.var 220)) (.lit (1 : Int)))) (.var 222) (.ite (.eq (.cl 0 0 (.var 220)) (.lit (0 : Int))) (.var 223) (.ite (.and (.eq (.cl 0 0 (.var 220)) (.lit (1 : Int))) (.eq (.cl 0 1 (.var 220)) (.lit (0 : Int)))) (.var 224) (.ite (.and (.eq (.cl 0 0 (.var 220)) (.lit (1 : Int))) (.eq (.cl 0 1 (.var 220)) (.lit (1 : Int)))) (.var 225) (.ite (.eq (.cl 0 0 (.var 220)) (.lit (1 : Int))) (.var 226) (.ite (.eq (.cl 0 1 (.var 220)) (.lit (0 : Int))) (.var 227) (.ite (.eq (.cl 0 1 (.var 220)) (.lit (1 : Int))) (.var 228) (.var 229))))))))) (.cl 0 2 (.var 220))) (.var 227)))))))) (.var 227))
theorem pB_a6 (p : Rho) : (pB_b.ap p).i 227 = pB_e6.den p := by kernel_rfl
theorem pB_s6 (p : Rho) : (pB_b.ap p).i 227 = if p.ci 0 0 (p.i 220).toNat = 2 ∧ p.ci 0 1 (p.i 220).toNat = 0 then Max.max (p.i 227) (p.ci 0 2 (p.i 220).toNat) else (p.i 227) := by
  rw [pB_a6]
  unfold pB_e6
  by_cases hc : (0 ≤ p.ci 0 0 (p.i 220).toNat ∧ p.ci 0 0 (p.i 220).toNat < 3) ∧ 0 ≤ p.ci 0 1 (p.i 220).toNat ∧ p.ci 0 1 (p.i 220).toNat < 3
  · rcases (by omega : p.ci 0 0 (p.i 220).toNat = 0 ∨ p.ci 0 0 (p.i 220).toNat = 1 ∨ p.ci 0 0 (p.i 220).toNat = 2) with h | h | h <;> rcases (by omega : p.ci 0 1 (p.i 220).toNat = 0 ∨ p.ci 0 1 (p.i 220).toNat = 1 ∨ p.ci 0 1 (p.i 220).toNat = 2) with g | g | g <;> simp [IE.den, BE.den, IOp.den, h, g]
  · rw [if_neg (show ¬ (p.ci 0 0 (p.i 220).toNat = 2 ∧ p.ci 0 1 (p.i 220).toNat = 0) by omega)]
    rcases (by omega : p.ci 0 0 (p.i 220).toNat < 0 ∨ 3 ≤ p.ci 0 0 (p.i 220).toNat ∨ p.ci 0 1 (p.i 220).toNat < 0 ∨ 3 ≤ p.ci 0 1 (p.i 220).toNat) with h | h | h | h
    · have := Int.not_le.2 h
      simp [IE.den, BE.den, IOp.den, h, this]
    · have := Int.not_lt.2 h
      simp [IE.den, BE.den, IOp.den, h, this]
    · have := Int.not_le.2 h
      simp [IE.den, BE.den, IOp.den, h, this]
    · have := Int.not_lt.2 h
      simp [IE.den, BE.den, IOp.den, h, this]
def pB_e7 : IE := (.ite (.and (.and (.and (.not (.lt (.cl 0 0 (.var 220)) (.lit (0 : Int)))) (.lt (.cl 0 0 (.var 220)) (.lit (3 : Int)))) (.not (.lt (.cl 0 1 (.var 220)) (.lit (0 : Int))))) (.lt (.cl 0 1 (.var 220)) (.lit (3 : Int)))) (.ite (.and (.eq (.cl 0 0 (.var 220)) (.lit (0 : Int))) (.eq (.cl 0 1 (.var 220)) (.lit (0 : Int)))) (.var 228) (.ite (.and (.eq (.cl 0 0 (.var 220)) (.lit (0 : Int))) (.eq (.cl 0 1 (.var 220)) (.lit (1 : Int)))) (.var 228) (.ite (.eq (.cl 0 0 (.var 220)) (.lit (0 : Int))) (.var 228) (.ite (.and (.eq (.cl 0 0 (.var 220)) (.lit (1 : Int))) (.eq (.cl 0 1 (.var 220)) (.lit (0 : Int)))) (.var 228) (.ite (.and (.eq (.cl 0 0 (.var 220)) (.lit (1 : Int))) (.eq (.cl 0 1 (.var 220)) (.lit (1 : Int)))) (.var 228) (.ite (.eq (.cl 0 0 (.var 220)) (.lit (1 : Int))) (.var 228) (.ite (.eq (.cl 0 1 (.var 220)) (.lit (0 : Int))) (.var 228) (.ite (.eq (.cl 0 1 (.var 220)) (.lit (1 : Int))) (.op .max .i64 (.ite (.and (.eq (.cl 0 0 (.var 220)) (.lit (0 : Int))) (.eq (.cl 0 1 (.var 220)) (.lit (0 : Int)))) (.var 221) (.ite (.and (.eq (.cl 0 0 (.var 220)) (.lit (0 : Int))) (.eq (.cl 0 1 (.var 220)) (.lit (1 : Int)))) (.var 222) (.ite (.eq (.cl 0 0 (.var 220)) (.lit (0 : Int))) (.var 223) (.ite (.and (.eq (.cl 0 0 (.var 220)) (.lit (1 : Int))) (.eq (.cl 0 1 (.var 220)) (.lit (0 : Int)))) (.var 224) (.ite (.and (.eq (.cl 0 0 (.var 220)) (.lit (1 : Int))) (.eq (.cl 0 1 (.var 220)) (.lit (1 : Int)))) (.var 225) (.ite (.eq (.cl 0 0 (.var 220)) (.lit (1 : Int))) (.var 226) (.ite (.eq (.cl 0 1 (.var 220)) (.lit (0 : Int))) (.var 227) (.ite (.eq (.cl 0 1 (.var 220)) (.lit (1 : Int))) (.var 228) (.var 229))))))))) (.cl 0 2 (.var 220))) (.var 228))))))))) (.var 228))
theorem pB_a7 (p : Rho) : (pB_b.ap p).i 228 = pB_e7.den p := by kernel_rfl
theorem pB_s7 (p : Rho) : (pB_b.ap p).i 228 = if p.ci 0 0 (p.i 220).toNat = 2 ∧ p.ci 0 1 (p.i 220).toNat = 1 then Max.max (p.i 228) (p.ci 0 2 (p.i 220).toNat) else (p.i 228) := by
  rw [pB_a7]
  unfold pB_e7
  by_cases hc : (0 ≤ p.ci 0 0 (p.i 220).toNat ∧ p.ci 0 0 (p.i 220).toNat < 3) ∧ 0 ≤ p.ci 0 1 (p.i 220).toNat ∧ p.ci 0 1 (p.i 220).toNat < 3
  · rcases (by omega : p.ci 0 0 (p.i 220).toNat = 0 ∨ p.ci 0 0 (p.i 220).toNat = 1 ∨ p.ci 0 0 (p.i 220).toNat = 2) with h | h | h <;> rcases (by omega : p.ci 0 1 (p.i 220).toNat = 0 ∨ p.ci 0 1 (p.i 220).toNat = 1 ∨ p.ci 0 1 (p.i 220).toNat = 2) with g | g | g <;> simp [IE.den, BE.den, IOp.den, h, g]
  · rw [if_neg (show ¬ (p.ci 0 0 (p.i 220).toNat = 2 ∧ p.ci 0 1 (p.i 220).toNat = 1) by omega)]
    rcases (by omega : p.ci 0 0 (p.i 220).toNat < 0 ∨ 3 ≤ p.ci 0 0 (p.i 220).toNat ∨ p.ci 0 1 (p.i 220).toNat < 0 ∨ 3 ≤ p.ci 0 1 (p.i 220).toNat) with h | h | h | h
    · have := Int.not_le.2 h
      simp [IE.den, BE.den, IOp.den, h, this]
    · have := Int.not_lt.2 h
      simp [IE.den, BE.den, IOp.den, h, this]
    · have := Int.not_le.2 h
      simp [IE.den, BE.den, IOp.den, h, this]
    · have := Int.not_lt.2 h
      simp [IE.den, BE.den, IOp.den, h, this]
def pB_e8 : IE := (.ite (.and (.and (.and (.not (.lt (.cl 0 0 (.var 220)) (.lit (0 : Int)))) (.lt (.cl 0 0 (.var 220)) (.lit (3 : Int)))) (.not (.lt (.cl 0 1 (.var 220)) (.lit (0 : Int))))) (.lt (.cl 0 1 (.var 220)) (.lit (3 : Int)))) (.ite (.and (.eq (.cl 0 0 (.var 220)) (.lit (0 : Int))) (.eq (.cl 0 1 (.var 220)) (.lit (0 : Int)))) (.var 229) (.ite (.and (.eq (.cl 0 0 (.var 220)) (.lit (0 : Int))) (.eq (.cl 0 1 (.var 220)) (.lit (1 : Int)))) (.var 229) (.ite (.eq (.cl 0 0 (.var 220)) (.lit (0 : Int))) (.var 229) (.ite (.and (.eq (.cl 0 0 (.var 220)) (.lit (1 : Int))) (.eq (.cl 0 1 (.var 220)) (.lit (0 : Int)))) (.var 229) (.ite (.and (.eq (.cl 0 0 (.var 220)) (.lit (1 : Int))) (.eq (.cl 0 1 (.var 220)) (.lit (1 : Int)))) (.var 229) (.ite (.eq (.cl 0 0 (.var 220)) (.lit (1 : Int))) (.var 229) (.ite (.eq (.cl 0 1 (.var 220)) (.lit (0 : Int))) (.var 229) (.ite (.eq (.cl 0 1 (.var 220)) (.lit (1 : Int))) (.var 229) (.op .max .i64 (.ite (.and (.eq (.cl 0 0 (.var 220)) (.lit (0 : Int))) (.eq (.cl 0 1 (.var 220)) (.lit (0 : Int)))) (.var 221) (.ite (.and (.eq (.cl 0 0 (.var 220)) (.lit (0 : Int))) (.eq (.cl 0 1 (.var 220)) (.lit (1 : Int)))) (.var 222) (.ite (.eq (.cl 0 0 (.var 220)) (.lit (0 : Int))) (.var 223) (.ite (.and (.eq (.cl 0 0 (.var 220)) (.lit (1 : Int))) (.eq (.cl 0 1 (.var 220)) (.lit (0 : Int)))) (.var 224) (.ite (.and (.eq (.cl 0 0 (.var 220)) (.lit (1 : Int))) (.eq (.cl 0 1 (.var 220)) (.lit (1 : Int)))) (.var 225) (.ite (.eq (.cl 0 0 (.var 220)) (.lit (1 : Int))) (.var 226) (.ite (.eq (.cl 0 1 (.var 220)) (.lit (0 : Int))) (.var 227) (.ite (.eq (.cl 0 1 (.var 220)) (.lit (1 : Int))) (.var 228) (.var 229))))))))) (.cl 0 2 (.var 220))))))))))) (.var 229))
theorem pB_a8 (p : Rho) : (pB_b.ap p).i 229 = pB_e8.den p := by kernel_rfl
theorem pB_s8 (p : Rho) : (pB_b.ap p).i 229 = if p.ci 0 0 (p.i 220).toNat = 2 ∧ p.ci 0 1 (p.i 220).toNat = 2 then Max.max (p.i 229) (p.ci 0 2 (p.i 220).toNat) else (p.i 229) := by
  rw [pB_a8]
  unfold pB_e8
  by_cases hc : (0 ≤ p.ci 0 0 (p.i 220).toNat ∧ p.ci 0 0 (p.i 220).toNat < 3) ∧ 0 ≤ p.ci 0 1 (p.i 220).toNat ∧ p.ci 0 1 (p.i 220).toNat < 3
  · rcases (by omega : p.ci 0 0 (p.i 220).toNat = 0 ∨ p.ci 0 0 (p.i 220).toNat = 1 ∨ p.ci 0 0 (p.i 220).toNat = 2) with h | h | h <;> rcases (by omega : p.ci 0 1 (p.i 220).toNat = 0 ∨ p.ci 0 1 (p.i 220).toNat = 1 ∨ p.ci 0 1 (p.i 220).toNat = 2) with g | g | g <;> simp [IE.den, BE.den, IOp.den, h, g]
  · rw [if_neg (show ¬ (p.ci 0 0 (p.i 220).toNat = 2 ∧ p.ci 0 1 (p.i 220).toNat = 2) by omega)]
    rcases (by omega : p.ci 0 0 (p.i 220).toNat < 0 ∨ 3 ≤ p.ci 0 0 (p.i 220).toNat ∨ p.ci 0 1 (p.i 220).toNat < 0 ∨ 3 ≤ p.ci 0 1 (p.i 220).toNat) with h | h | h | h
    · have := Int.not_le.2 h
      simp [IE.den, BE.den, IOp.den, h, this]
    · have := Int.not_lt.2 h
      simp [IE.den, BE.den, IOp.den, h, this]
    · have := Int.not_le.2 h
      simp [IE.den, BE.den, IOp.den, h, this]
    · have := Int.not_lt.2 h
      simp [IE.den, BE.den, IOp.den, h, this]
def pC_e0 : IE := (.ite (.and (.and (.and (.not (.lt (.cl 0 0 (.var 260)) (.lit (0 : Int)))) (.lt (.cl 0 0 (.var 260)) (.lit (3 : Int)))) (.not (.lt (.cl 0 1 (.var 260)) (.lit (0 : Int))))) (.lt (.cl 0 1 (.var 260)) (.lit (3 : Int)))) (.ite (.and (.eq (.cl 0 0 (.var 260)) (.lit (0 : Int))) (.eq (.cl 0 1 (.var 260)) (.lit (0 : Int)))) (.op .max .i64 (.ite (.and (.eq (.cl 0 0 (.var 260)) (.lit (0 : Int))) (.eq (.cl 0 1 (.var 260)) (.lit (0 : Int)))) (.op .max .i64 (.op .max .i64 (.lit (0 : Int)) (.var 261)) (.cl 0 9 (.var 260))) (.ite (.and (.eq (.cl 0 0 (.var 260)) (.lit (0 : Int))) (.eq (.cl 0 1 (.var 260)) (.lit (1 : Int)))) (.op .max .i64 (.op .max .i64 (.lit (0 : Int)) (.var 262)) (.cl 0 10 (.var 260))) (.ite (.eq (.cl 0 0 (.var 260)) (.lit (0 : Int))) (.op .max .i64 (.op .max .i64 (.lit (0 : Int)) (.var 263)) (.cl 0 11 (.var 260))) (.ite (.and (.eq (.cl 0 0 (.var 260)) (.lit (1 : Int))) (.eq (.cl 0 1 (.var 260)) (.lit (0 : Int)))) (.op .max .i64 (.op .max .i64 (.lit (0 : Int)) (.var 264)) (.cl 0 12 (.var 260))) (.ite (.and (.eq (.cl 0 0 (.var 260)) (.lit (1 : Int))) (.eq (.cl 0 1 (.var 260)) (.lit (1 : Int)))) (.op .max .i64 (.op .max .i64 (.lit (0 : Int)) (.var 265)) (.cl 0 13 (.var 260))) (.ite (.eq (.cl 0 0 (.var 260)) (.lit (1 : Int))) (.op .max .i64 (.op .max .i64 (.lit (0 : Int)) (.var 266)) (.cl 0 14 (.var 260))) (.ite (.eq (.cl 0 1 (.var 260)) (.lit (0 : Int))) (.op .max .i64 (.op .max .i64 (.lit (0 : Int)) (.var 267)) (.cl 0 15 (.var 260))) (.ite (.eq (.cl 0 1 (.var 260)) (.lit (1 : Int))) (.op .max .i64 (.op .max .i64 (.lit (0 : Int)) (.var 268)) (.cl 0 16 (.var 260))) (.op .max .i64 (.op .max .i64 (.lit (0 : Int)) (.var 269)) (.cl 0 17 (.var 260))))))))))) (.cl 0 2 (.var 260))) (.op .max .i64 (.op .max .i64 (.lit (0 : Int)) (.var 261)) (.cl 0 9 (.var 260)))) (.op .max .i64 (.op .max .i64 (.lit (0 : Int)) (.var 261)) (.cl 0 9 (.var 260))))
theorem pC_a0 (p : Rho) : (pC_b.ap p).i 261 = pC_e0.den p := by kernel_rfl
theorem pC_s0 (p : Rho) : (pC_b.ap p).i 261 = if p.ci 0 0 (p.i 260).toNat = 0 ∧ p.ci 0 1 (p.i 260).toNat = 0 then Max.max (Max.max (Max.max 0 (p.i 261)) (p.ci 0 9 (p.i 260).toNat)) (p.ci 0 2 (p.i 260).toNat) else (Max.max (Max.max 0 (p.i 261)) (p.ci 0 9 (p.i 260).toNat)) := by
  rw [pC_a0]
  unfold pC_e0
  by_cases hc : (0 ≤ p.ci 0 0 (p.i 260).toNat ∧ p.ci 0 0 (p.i 260).toNat < 3) ∧ 0 ≤ p.ci 0 1 (p.i 260).toNat ∧ p.ci 0 1 (p.i 260).toNat < 3
  · rcases (by omega : p.ci 0 0 (p.i 260).toNat = 0 ∨ p.ci 0 0 (p.i 260).toNat = 1 ∨ p.ci 0 0 (p.i 260).toNat = 2) with h | h | h <;> rcases (by omega : p.ci 0 1 (p.i 260).toNat = 0 ∨ p.ci 0 1 (p.i 260).toNat = 1 ∨ p.ci 0 1 (p.i 260).toNat = 2) with g | g | g <;> simp [IE.den, BE.den, IOp.den, h, g]
  · rw [if_neg (show ¬ (p.ci 0 0 (p.i 260).toNat = 0 ∧ p.ci 0 1 (p.i 260).toNat = 0) by omega)]
    rcases (by omega : p.ci 0 0 (p.i 260).toNat < 0 ∨ 3 ≤ p.ci 0 0 (p.i 260).toNat ∨ p.ci 0 1 (p.i 260).toNat < 0 ∨ 3 ≤ p.ci 0 1 (p.i 260).toNat) with h | h | h | h
    · have := Int.not_le.2 h
      simp [IE.den, BE.den, IOp.den, h, this]
    · have := Int.not_lt.2 h
      simp [IE.den, BE.den, IOp.den, h, this]
    · have := Int.not_le.2 h
      simp [IE.den, BE.den, IOp.den, h, this]
    · have := Int.not_lt.2 h
      simp [IE.den, BE.den, IOp.den, h, this]
def pC_e1 : IE := (.ite (.and (.and (.and (.not (.lt (.cl 0 0 (.var 260)) (.lit (0 : Int)))) (.lt (.cl 0 0 (.var 260)) (.lit (3 : Int)))) (.not (.lt (.cl 0 1 (.var 260)) (.lit (0 : Int))))) (.lt (.cl 0 1 (.var 260)) (.lit (3 : Int)))) (.ite (.and (.eq (.cl 0 0 (.var 260)) (.lit (0 : Int))) (.eq (.cl 0 1 (.var 260)) (.lit (0 : Int)))) (.op .max .i64 (.op .max .i64 (.lit (0 : Int)) (.var 262)) (.cl 0 10 (.var 260))) (.ite (.and (.eq (.cl 0 0 (.var 260)) (.lit (0 : Int))) (.eq (.cl 0 1 (.var 260)) (.lit (1 : Int)))) (.op .max .i64 (.ite (.and (.eq (.cl 0 0 (.var 260)) (.lit (0 : Int))) (.eq (.cl 0 1 (.var 260)) (.lit (0 : Int)))) (.op .max .i64 (.op .max .i64 (.lit (0 : Int)) (.var 261)) (.cl 0 9 (.var 260))) (.ite (.and (.eq (.cl 0 0 (.var 260)) (.lit (0 : Int))) (.eq (.cl 0 1 (.var 260)) (.lit (1 : Int)))) (.op .max .i64 (.op .max .i64 (.lit (0 : Int)) (.var 262)) (.cl 0 10 (.var 260))) (.ite (.eq (.cl 0 0 (.var 260)) (.lit (0 : Int))) (.op .max .i64 (.op .max .i64 (.lit (0 : Int)) (.var 263)) (.cl 0 11 (.var 260))) (.ite (.and (.eq (.cl 0 0 (.var 260)) (.lit (1 : Int))) (.eq (.cl 0 1 (.var 260)) (.lit (0 : Int)))) (.op .max .i64 (.op .max .i64 (.lit (0 : Int)) (.var 264)) (.cl 0 12 (.var 260))) (.ite (.and (.eq (.cl 0 0 (.var 260)) (.lit (1 : Int))) (.eq (.cl 0 1 (.var 260)) (.lit (1 : Int)))) (.op .max .i64 (.op .max .i64 (.lit (0 : Int)) (.var 265)) (.cl 0 13 (.var 260))) (.ite (.eq (.cl 0 0 (.var 260)) (.lit (1 : Int))) (.op .max .i64 (.op .max .i64 (.lit (0 : Int)) (.var 266)) (.cl 0 14 (.var 260))) (.ite (.eq (.cl 0 1 (.var 260)) (.lit (0 : Int))) (.op .max .i64 (.op .max .i64 (.lit (0 : Int)) (.var 267)) (.cl 0 15 (.var 260))) (.ite (.eq (.cl 0 1 (.var 260)) (.lit (1 : Int))) (.op .max .i64 (.op .max .i64 (.lit (0 : Int)) (.var 268)) (.cl 0 16 (.var 260))) (.op .max .i64 (.op .max .i64 (.lit (0 : Int)) (.var 269)) (.cl 0 17 (.var 260))))))))))) (.cl 0 2 (.var 260))) (.op .max .i64 (.op .max .i64 (.lit (0 : Int)) (.var 262)) (.cl 0 10 (.var 260))))) (.op .max .i64 (.op .max .i64 (.lit (0 : Int)) (.var 262)) (.cl 0 10 (.var 260))))
theorem pC_a1 (p : Rho) : (pC_b.ap p).i 262 = pC_e1.den p := by kernel_rfl
theorem pC_s1 (p : Rho) : (pC_b.ap p).i 262 = if p.ci 0 0 (p.i 260).toNat = 0 ∧ p.ci 0 1 (p.i 260).toNat = 1 then Max.max (Max.max (Max.max 0 (p.i 262)) (p.ci 0 10 (p.i 260).toNat)) (p.ci 0 2 (p.i 260).toNat) else (Max.max (Max.max 0 (p.i 262)) (p.ci 0 10 (p.i 260).toNat)) := by
  rw [pC_a1]
  unfold pC_e1
  by_cases hc : (0 ≤ p.ci 0 0 (p.i 260).toNat ∧ p.ci 0 0 (p.i 260).toNat < 3) ∧ 0 ≤ p.ci 0 1 (p.i 260).toNat ∧ p.ci 0 1 (p.i 260).toNat < 3
  · rcases (by omega : p.ci 0 0 (p.i 260).toNat = 0 ∨ p.ci 0 0 (p.i 260).toNat = 1 ∨ p.ci 0 0 (p.i 260).toNat = 2) with h | h | h <;> rcases (by omega : p.ci 0 1 (p.i 260).toNat = 0 ∨ p.ci 0 1 (p.i 260).toNat = 1 ∨ p.ci 0 1 (p.i 260).toNat = 2) with g | g | g <;> simp [IE.den, BE.den, IOp.den, h, g]
  · rw [if_neg (show ¬ (p.ci 0 0 (p.i 260).toNat = 0 ∧ p.ci 0 1 (p.i 260).toNat = 1) by omega)]
    rcases (by omega : p.ci 0 0 (p.i 260).toNat < 0 ∨ 3 ≤ p.ci 0 0 (p.i 260).toNat ∨ p.ci 0 1 (p.i 260).toNat < 0 ∨ 3 ≤ p.ci 0 1 (p.i 260).toNat) with h | h | h | h
    · have := Int.not_le.2 h
      simp [IE.den, BE.den, IOp.den, h, this]
    · have := Int.not_lt.2 h
      simp [IE.den, BE.den, IOp.den, h, this]
    · have := Int.not_le.2 h
      simp [IE.den, BE.den, IOp.den, h, this]
    · have := Int.not_lt.2 h
      simp [IE.den, BE.den, IOp.den, h, this]
def pC_e2 : IE := (.ite (.and (.and (.and (.not (.lt (.cl 0 0 (.var 260)) (.lit (0 : Int)))) (.lt (.cl 0 0 (.var 260)) (.lit (3 : Int)))) (.not (.lt (.cl 0 1 (.var 260)) (.lit (0 : Int))))) (.lt (.cl 0 1 (.var 260)) (.lit (3 : Int)))) (.ite (.and (.eq (.cl 0 0 (.var 260)) (.lit (0 : Int))) (.eq (.cl 0 1 (.var 260)) (.lit (0 : Int)))) (.op .max .i64 (.op .max .i64 (.lit (0 : Int)) (.var 263)) (.cl 0 11 (.var 260))) (.ite (.and (.eq (.cl 0 0 (.var 260)) (.lit (0 : Int))) (.eq (.cl 0 1 (.var 260)) (.lit (1 : Int)))) (.op .max .i64 (.op .max .i64 (.lit (0 : Int)) (.var 263)) (.cl 0 11 (.var 260))) (.ite (.eq (.cl 0 0 (.var 260)) (.lit (0 : Int))) (.op .max .i64 (.ite (.and (.eq (.cl 0 0 (.var 260)) (.lit (0 : Int))) (.eq (.cl 0 1 (.var 260)) (.lit (0 : Int)))) (.op .max .i64 (.op .max .i64 (.lit (0 : Int)) (.var 261)) (.cl 0 9 (.var 260))) (.ite (.and (.eq (.cl 0 0 (.var 260)) (.lit (0 : Int))) (.eq (.cl 0 1 (.var 260)) (.lit (1 : Int)))) (.op .max .i64 (.op .max .i64 (.lit (0 : Int)) (.var 262)) (.cl 0 10 (.var 260))) (.ite (.eq (.cl 0 0 (.var 260)) (.lit (0 : Int))) (.op .max .i64 (.op .max .i64 (.lit (0 : Int)) (.var 263)) (.cl 0 11 (.var 260))) (.ite (.and (.eq (.cl 0 0 (.var 260)) (.lit (1 : Int))) (.eq (.cl 0 1 (.var 260)) (.lit (0 : Int)))) (.op .max .i64 (.op .max .i64 (.lit (0 : Int)) (.var 264)) (.cl 0 12 (.var 260))) (.ite (.and (.eq (.cl 0 0 (.var 260)) (.lit (1 : Int))) (.eq (.cl 0 1 (.var 260)) (.lit (1 : Int)))) (.op .max .i64 (.op .max .i64 (.lit (0 : Int)) (.var 265)) (.cl 0 13 (.var 260))) (.ite (.eq (.cl 0 0 (.var 260)) (.lit (1 : Int))) (.op .max .i64 (.op .max .i64 (.lit (0 : Int)) (.var 266)) (.cl 0 14 (.var 260))) (.ite (.eq (.cl 0 1 (.var 260)) (.lit (0 : Int))) (.op .max .i64 (.op .max .i64 (.lit (0 : Int)) (.var 267)) (.cl 0 15 (.var 260))) (.ite (.eq (.cl 0 1 (.var 260)) (.lit (1 : Int))) (.op .max .i64 (.op .max .i64 (.lit (0 : Int)) (.var 268)) (.cl 0 16 (.var 260))) (.op .max .i64 (.op .max .i64 (.lit (0 : Int)) (.var 269)) (.cl 0 17 (.var 260))))))))))) (.cl 0 2 (.var 260))) (.op .max .i64 (.op .max .i64 (.lit (0 : Int)) (.var 263)) (.cl 0 11 (.var 260)))))) (.op .max .i64 (.op .max .i64 (.lit (0 : Int)) (.var 263)) (.cl 0 11 (.var 260))))
theorem pC_a2 (p : Rho) : (pC_b.ap p).i 263 = pC_e2.den p := by kernel_rfl
theorem pC_s2 (p : Rho) : (pC_b.ap p).i 263 = if p.ci 0 0 (p.i 260).toNat = 0 ∧ p.ci 0 1 (p.i 260).toNat = 2 then Max.max (Max.max (Max.max 0 (p.i 263)) (p.ci 0 11 (p.i 260).toNat)) (p.ci 0 2 (p.i 260).toNat) else (Max.max (Max.max 0 (p.i 263)) (p.ci 0 11 (p.i 260).toNat)) := by
  rw [pC_a2]
  unfold pC_e2
  by_cases hc : (0 ≤ p.ci 0 0 (p.i 260).toNat ∧ p.ci 0 0 (p.i 260).toNat < 3) ∧ 0 ≤ p.ci 0 1 (p.i 260).toNat ∧ p.ci 0 1 (p.i 260).toNat < 3
  · rcases (by omega : p.ci 0 0 (p.i 260).toNat = 0 ∨ p.ci 0 0 (p.i 260).toNat = 1 ∨ p.ci 0 0 (p.i 260).toNat = 2) with h | h | h <;> rcases (by omega : p.ci 0 1 (p.i 260).toNat = 0 ∨ p.ci 0 1 (p.i 260).toNat = 1 ∨ p.ci 0 1 (p.i 260).toNat = 2) with g | g | g <;> simp [IE.den, BE.den, IOp.den, h, g]
  · rw [if_neg (show ¬ (p.ci 0 0 (p.i 260).toNat = 0 ∧ p.ci 0 1 (p.i 260).toNat = 2) by omega)]
    rcases (by omega : p.ci 0 0 (p.i 260).toNat < 0 ∨ 3 ≤ p.ci 0 0 (p.i 260).toNat ∨ p.ci 0 1 (p.i 260).toNat < 0 ∨ 3 ≤ p.ci 0 1 (p.i 260).toNat) with h | h | h | h
    · have := Int.not_le.2 h
      simp [IE.den, BE.den, IOp.den, h, this]
    · have := Int.not_lt.2 h
      simp [IE.den, BE.den, IOp.den, h, this]
    · have := Int.not_le.2 h
      simp [IE.den, BE.den, IOp.den, h, this]
    · have := Int.not_lt.2 h
      simp [IE.den, BE.den, IOp.den, h, this]
def pC_e3 : IE := (.ite (.and (.and (.and (.not (.lt (.cl 0 0 (.var 260)) (.lit (0 : Int)))) (.lt (.cl 0 0 (.var 260)) (.lit (3 : Int)))) (.not (.lt (.cl 0 1 (.var 260)) (.lit (0 : Int))))) (.lt (.cl 0 1 (.var 260)) (.lit (3 : Int)))) (.ite (.and (.eq (.cl 0 0 (.var 260)) (.lit (0 : Int))) (.eq (.cl 0 1 (.var 260)) (.lit (0 : Int)))) (.op .max .i64 (.op .max .i64 (.lit (0 : Int)) (.var 264)) (.cl 0 12 (.var 260))) (.ite (.and (.eq (.cl 0 0 (.var 260)) (.lit (0 : Int))) (.eq (.cl 0 1 (.var 260)) (.lit (1 : Int)))) (.op .max .i64 (.op .max .i64 (.lit (0 : Int)) (.var 264)) (.cl 0 12 (.var 260))) (.ite (.eq (.cl 0 0 (.var 260)) (.lit (0 : Int))) (.op .max .i64 (.op .max .i64 (.lit (0 : Int)) (.var 264)) (.cl 0 12 (.var 260))) (.ite (.and (.eq (.cl 0 0 (.var 260)) (.lit (1 : Int))) (.eq (.cl 0 1 (.var 260)) (.lit (0 : Int)))) (.op .max .i64 (.ite (.and (.eq (.cl 0 0 (.var 260)) (.lit (0 : Int))) (.eq (.cl 0 1 (.var 260)) (.lit (0 : Int)))) (.op .max .i64 (.op .max .i64 (.lit (0 : Int)) (.var 261)) (.cl 0 9 (.var 260))) (.ite (.and (.eq (.cl 0 0 (.var 260)) (.lit (0 : Int))) (.eq (.cl 0 1 (.var 260)) (.lit (1 : Int)))) (.op .max .i64 (.op .max .i64 (.lit (0 : Int)) (.var 262)) (.cl 0 10 (.var 260))) (.ite (.eq (.cl 0 0 (.var 260)) (.lit (0 : Int))) (.op .max .i64 (.op .max .i64 (.lit (0 : Int)) (.var 263)) (.cl 0 11 (.var 260))) (.ite (.and (.eq (.cl 0 0 (.var 260)) (.lit (1 : Int))) (.eq (.cl 0 1 (.var 260)) (.lit (0 : Int)))) (.op .max .i64 (.op .max .i64 (.lit (0 : Int)) (.var 264)) (.cl 0 12 (.var 260))) (.ite (.and (.eq (.cl 0 0 (.var 260)) (.lit (1 : Int))) (.eq (.cl 0 1 (.var 260)) (.lit (1 : Int)))) (.op .max .i64 (.op .max .i64 (.lit (0 : Int)) (.var 265)) (.cl 0 13 (.var 260))) (.ite (.eq (.cl 0 0 (.var 260)) (.lit (1 : Int))) (.op .max .i64 (.op .max .i64 (.lit (0 : Int)) (.var 266)) (.cl 0 14 (.var 260))) (.ite (.eq (.cl 0 1 (.var 260)) (.lit (0 : Int))) (.op .max .i64 (.op .max .i64 (.lit (0 : Int)) (.var 267)) (.cl 0 15 (.var 260))) (.ite (.eq (.cl 0 1 (.var 260)) (.lit (1 : Int))) (.op .max .i64 (.op .max .i64 (.lit (0 : Int)) (.var 268)) (.cl 0 16 (.var 260))) (.op .max .i64 (.op .max .i64 (.lit (0 : Int)) (.var 269)) (.cl 0 17 (.var 260))))))))))) (.cl 0 2 (.var 260))) (.op .max .i64 (.op .max .i64 (.lit (0 : Int)) (.var 264)) (.cl 0 12 (.var 260))))))) (.op .max .i64 (.op .max .i64 (.lit (0 : Int)) (.var 264)) (.cl 0 12 (.var 260))))
theorem pC_a3 (p : Rho) : (pC_b.ap p).i 264 = pC_e3.den p := by kernel_rfl
theorem pC_s3 (p : Rho) : (pC_b.ap p).i 264 = if p.ci 0 0 (p.i 260).toNat = 1 ∧ p.ci 0 1 (p.i 260).toNat = 0 then Max.max (Max.max (Max.max 0 (p.i 264)) (p.ci 0 12 (p.i 260).toNat)) (p.ci 0 2 (p.i 260).toNat) else (Max.max (Max.max 0 (p.i 264)) (p.ci 0 12 (p.i 260).toNat)) := by
  rw [pC_a3]
  unfold pC_e3
  by_cases hc : (0 ≤ p.ci 0 0 (p.i 260).toNat ∧ p.ci 0 0 (p.i 260).toNat < 3) ∧ 0 ≤ p.ci 0 1 (p.i 260).toNat ∧ p.ci 0 1 (p.i 260).toNat < 3
  · rcases (by omega : p.ci 0 0 (p.i 260).toNat = 0 ∨ p.ci 0 0 (p.i 260).toNat = 1 ∨ p.ci 0 0 (p.i 260).toNat = 2) with h | h | h <;> rcases (by omega : p.ci 0 1 (p.i 260).toNat = 0 ∨ p.ci 0 1 (p.i 260).toNat = 1 ∨ p.ci 0 1 (p.i 260).toNat = 2) with g | g | g <;> simp [IE.den, BE.den, IOp.den, h, g]
  · rw [if_neg (show ¬ (p.ci 0 0 (p.i 260).toNat = 1 ∧ p.ci 0 1 (p.i 260).toNat = 0) by omega)]
    rcases (by omega : p.ci 0 0 (p.i 260).toNat < 0 ∨ 3 ≤ p.ci 0 0 (p.i 260).toNat ∨ p.ci 0 1 (p.i 260).toNat < 0 ∨ 3 ≤ p.ci 0 1 (p.i 260).toNat) with h | h | h | h
    · have := Int.not_le.2 h
      simp [IE.den, BE.den, IOp.den, h, this]
    · have := Int.not_lt.2 h
      simp [IE.den, BE.den, IOp.den, h, this]
    · have := Int.not_le.2 h
      simp [IE.den, BE.den, IOp.den, h, this]
    · have := Int.not_lt.2 h
      simp [IE.den, BE.den, IOp.den, h, this]
def pC_e4 : IE := (.ite (.and (.and (.and (.not (.lt (.cl 0 0 (.var 260)) (.lit (0 : Int)))) (.lt (.cl 0 0 (.var 260)) (.lit (3 : Int)))) (.not (.lt (.cl 0 1 (.var 260)) (.lit (0 : Int))))) (.lt (.cl 0 1 (.var 260)) (.lit (3 : Int)))) (.ite (.and (.eq (.cl 0 0 (.var 260)) (.lit (0 : Int))) (.eq (.cl 0 1 (.var 260)) (.lit (0 : Int)))) (.op .max .i64 (.op .max .i64 (.lit (0 : Int)) (.var 265)) (.cl 0 13 (.var 260))) (.ite (.and (.eq (.cl 0 0 (.var 260)) (.lit (0 : Int))) (.eq (.cl 0 1 (.var 260)) (.lit (1 : Int)))) (.op .max .i64 (.op .max .i64 (.lit (0 : Int)) (.var 265)) (.cl 0 13 (.var 260))) (.ite (.eq (.cl 0 0 (.var 260)) (.lit (0 : Int))) (.op .max .i64 (.op .max .i64 (.lit (0 : Int)) (.var 265)) (.cl 0 13 (.var 260))) (.ite (.and (.eq (.cl 0 0 (.var 260)) (.lit (1 : Int))) (.eq (.cl 0 1 (.var 260)) (.lit (0 : Int)))) (.op .max .i64 (.op .max .i64 (.lit (0 : Int)) (.var 265)) (.cl 0 13 (.var 260))) (.ite (.and (.eq (.cl 0 0 (.var 260)) (.lit (1 : Int))) (.eq (.cl 0 1 (.var 260)) (.lit (1 : Int)))) (.op .max .i64 (.ite (.and (.eq (.cl 0 0 (.var 260)) (.lit (0 : Int))) (.eq (.cl 0 1 (.var 260)) (.lit (0 : Int)))) (.op .max .i64 (.op .max .i64 (.lit (0 : Int)) (.var 261)) (.cl 0 9 (.var 260))) (.ite (.and (.eq (.cl 0 0 (.var 260)) (.lit (0 : Int))) (.eq (.cl 0 1 (.var 260)) (.lit (1 : Int)))) (.op .max .i64 (.op .max .i64 (.lit (0 : Int)) (.var 262)) (.cl 0 10 (.var 260))) (.ite (.eq (.cl 0 0 (.var 260)) (.lit (0 : Int))) (.op .max .i64 (.op .max .i64 (.lit (0 : Int)) (.var 263)) (.cl 0 11 (.var 260))) (.ite (.and (.eq (.cl 0 0 (.var 260)) (.lit (1 : Int))) (.eq (.cl 0 1 (.var 260)) (.lit (0 : Int)))) (.op .max .i64 (.op .max .i64 (.lit (0 : Int)) (.var 264)) (.cl 0 12 (.var 260))) (.ite (.and (.eq (.cl 0 0 (.var 260)) (.lit (1 : Int))) (.eq (.cl 0 1 (.var 260)) (.lit (1 : Int)))) (.op .max .i64 (.op .max .i64 (.lit (0 : Int)) (.var 265)) (.cl 0 13 (.var 260))) (.ite (.eq (.cl 0 0 (.var 260)) (.lit (1 : Int))) (.op .max .i64 (.op .max .i64 (.lit (0 : Int)) (.var 266)) (.cl 0 14 (.var 260))) (.ite (.eq (.cl 0 1 (.var 260)) (.lit (0 : Int))) (.op .max .i64 (.op .max .i64 (.lit (0 : Int)) (.var 267)) (.cl 0 15 (.var 260))) (.ite (.eq (.cl 0 1 (.var 260)) (.lit (1 : Int))) (.op .max .i64 (.op .max .i64 (.lit (0 : Int)) (.var 268)) (.cl 0 16 (.var 260))) (.op .max .i64 (.op .max .i64 (.lit (0 : Int)) (.var 269)) (.cl 0 17 (.var 260))))))))))) (.cl 0 2 (.var 260))) (.op .max .i64 (.op .max .i64 (.lit (0 : Int)) (.var 265)) (.cl 0 13 (.var 260)))))))) (.op .max .i64 (.op .max .i64 (.lit (0 : Int)) (.var 265)) (.cl 0 13 (.var 260))))
theorem pC_a4 (p : Rho) : (pC_b.ap p).i 265 = pC_e4.den p := by kernel_rfl
theorem pC_s4 (p : Rho) : (pC_b.ap p).i 265 = if p.ci 0 0 (p.i 260).toNat = 1 ∧ p.ci 0 1 (p.i 260).toNat = 1 then Max.max (Max.max (Max.max 0 (p.i 265)) (p.ci 0 13 (p.i 260).toNat)) (p.ci 0 2 (p.i 260).toNat) else (Max.max (Max.max 0 (p.i 265)) (p.ci 0 13 (p.i 260).toNat)) := by
  rw [pC_a4]
  unfold pC_e4
  by_cases hc : (0 ≤ p.ci 0 0 (p.i 260).toNat ∧ p.ci 0 0 (p.i 260).toNat < 3) ∧ 0 ≤ p.ci 0 1 (p.i 260).toNat ∧ p.ci 0 1 (p.i 260).toNat < 3
  · rcases (by omega : p.ci 0 0 (p.i 260).toNat = 0 ∨ p.ci 0 0 (p.i 260).toNat = 1 ∨ p.ci 0 0 (p.i 260).toNat = 2) with h | h | h <;> rcases (by omega : p.ci 0 1 (p.i 260).toNat = 0 ∨ p.ci 0 1 (p.i 260).toNat = 1 ∨ p.ci 0 1 (p.i 260).toNat = 2) with g | g | g <;> simp [IE.den, BE.den, IOp.den, h, g]
  · rw [if_neg (show ¬ (p.ci 0 0 (p.i 260).toNat = 1 ∧ p.ci 0 1 (p.i 260).toNat = 1) by omega)]
    rcases (by omega : p.ci 0 0 (p.i 260).toNat < 0 ∨ 3 ≤ p.ci 0 0 (p.i 260).toNat ∨ p.ci 0 1 (p.i 260).toNat < 0 ∨ 3 ≤ p.ci 0 1 (p.i 260).toNat) with h | h | h | h
    · have := Int.not_le.2 h
      simp [IE.den, BE.den, IOp.den, h, this]
    · have := Int.not_lt.2 h
      simp [IE.den, BE.den, IOp.den, h, this]
    · have := Int.not_le.2 h
      simp [IE.den, BE.den, IOp.den, h, this]
    · have := Int.not_lt.2 h
      simp [IE.den, BE.den, IOp.den, h, this]
def pC_e5 : IE := (.ite (.and (.and (.and (.not (.lt (.cl 0 0 (.var 260)) (.lit (0 : Int)))) (.lt (.cl 0 0 (.var 260)) (.lit (3 : Int)))) (.not (.lt (.cl 0 1 (.var 260)) (.lit (0 : Int))))) (.lt (.cl 0 1 (.var 260)) (.lit (3 : Int)))) (.ite (.and (.eq (.cl 0 0 (.var 260)) (.lit (0 : Int))) (.eq (.cl 0 1 (.var 260)) (.lit (0 : Int)))) (.op .max .i64 (.op .max .i64 (.lit (0 : Int)) (.var 266)) (.cl 0 14 (.var 260))) (.ite (.and (.eq (.cl 0 0 (.var 260)) (.lit (0 : Int))) (.eq (.cl 0 1 (.var 260)) (.lit (1 : Int)))) (.op .max .i64 (.op .max .i64 (.lit (0 : Int)) (.var 266)) (.cl 0 14 (.var 260))) (.ite (.eq (.cl 0 0 (.var 260)) (.lit (0 : Int))) (.op .max .i64 (.op .max .i64 (.lit (0 : Int)) (.var 266)) (.cl 0 14 (.var 260))) (.ite (.and (.eq (.cl 0 0 (.var 260)) (.lit (1 : Int))) (.eq (.cl 0 1 (.var 260)) (.lit (0 : Int)))) (.op .max .i64 (.op .max .i64 (.lit (0 : Int)) (.var 266)) (.cl 0 14 (.var 260))) (.ite (.and (.eq (.cl 0 0 (.var 260)) (.lit (1 : Int))) (.eq (.cl 0 1 (.var 260)) (.lit (1 : Int)))) (.op .max .i64 (.op .max .i64 (.lit (0 : Int)) (.var 266)) (.cl 0 14 (.var 260))) (.ite (.eq (.cl 0 0 (.var 260)) (.lit (1 : Int))) (.op .max .i64 (.ite (.and (.eq (.cl 0 0 (.var 260)) (.lit (0 : Int))) (.eq (.cl 0 1 (.var 260)) (.lit (0 : Int)))) (.op .max .i64 (.op .max .i64 (.lit (0 : Int)) (.var 261)) (.cl 0 9 (.var 260))) (.ite (.and (.eq (.cl 0 0 (.var 260)) (.lit (0 : Int))) (.eq (.cl 0 1 (.var 260)) (.lit (1 : Int)))) (.op .max .i64 (.op .max .i64 (.lit (0 : Int)) (.var 262)) (.cl 0 10 (.var 260))) (.ite (.eq (.cl 0 0 (.var 260)) (.lit (0 : Int))) (.op .max .i64 (.op .max .i64 (.lit (0 : Int)) (.var 263)) (.cl 0 11 (.var 260))) (.ite (.and (.eq (.cl 0 0 (.var 260)) (.lit (1 : Int))) (.eq (.cl 0 1 (.var 260)) (.lit (0 : Int)))) (.op .max .i64 (.op .max .i64 (.lit (0 : Int)) (.var 264)) (.cl 0 12 (.var 260))) (.ite (.and (.eq (.cl 0 0 (.var 260)) (.lit (1 : Int))) (.eq (.cl 0 1 (.var 260)) (.lit (1 : Int)))) (.op .max .i64 (.op .max .i64 (.lit (0 : Int)) (.var 265)) (.cl 0 13 (.var 260))) (.ite (.eq (.cl 0 0 (.var 260)) (.lit (1 : Int))) (.op .max .i64 (.op .max .i64 (.lit (0 : Int)) (.var 266)) (.cl 0 14 (.var 260))) (.ite (.eq (.cl 0 1 (.var 260)) (.lit (0 : Int))) (.op .max .i64 (.op .max .i64 (.lit (0 : Int)) (.var 267)) (.cl 0 15 (.var 260))) (.ite (.eq (.cl 0 1 (.var 260)) (.lit (1 : Int))) (.op .max .i64 (.op .max .i64 (.lit (0 : Int)) (.var 268)) (.cl 0 16 (.var 260))) (.op .max .i64 (.op .max .i64 (.lit (0 : Int)) (.var 269)) (.cl 0 17 (.var 260))))))))))) (.cl 0 2 (.var 260))) (.op .max .i64 (.op .max .i64 (.lit (0 : Int)) (.var 266)) (.cl 0 14 (.var 260))))))))) (.op .max .i64 (.op .max .i64 (.lit (0 : Int)) (.var 266)) (.cl 0 14 (.var 260))))
theorem pC_a5 (p : Rho) : (pC_b.ap p).i 266 = pC_e5.den p := by kernel_rfl
theorem pC_s5 (p : Rho) : (pC_b.ap p).i 266 = if p.ci 0 0 (p.i 260).toNat = 1 ∧ p.ci 0 1 (p.i 260).toNat = 2 then Max.max (Max.max (Max.max 0 (p.i 266)) (p.ci 0 14 (p.i 260).toNat)) (p.ci 0 2 (p.i 260).toNat) else (Max.max (Max.max 0 (p.i 266)) (p.ci 0 14 (p.i 260).toNat)) := by
  rw [pC_a5]
  unfold pC_e5
  by_cases hc : (0 ≤ p.ci 0 0 (p.i 260).toNat ∧ p.ci 0 0 (p.i 260).toNat < 3) ∧ 0 ≤ p.ci 0 1 (p.i 260).toNat ∧ p.ci 0 1 (p.i 260).toNat < 3
  · rcases (by omega : p.ci 0 0 (p.i 260).toNat = 0 ∨ p.ci 0 0 (p.i 260).toNat = 1 ∨ p.ci 0 0 (p.i 260).toNat = 2) with h | h | h <;> rcases (by omega : p.ci 0 1 (p.i 260).toNat = 0 ∨ p.ci 0 1 (p.i 260).toNat = 1 ∨ p.ci 0 1 (p.i 260).toNat = 2) with g | g | g <;> simp [IE.den, BE.den, IOp.den, h, g]
  · rw [if_neg (show ¬ (p.ci 0 0 (p.i 260).toNat = 1 ∧ p.ci 0 1 (p.i 260).toNat = 2) by omega)]
    rcases (by omega : p.ci 0 0 (p.i 260).toNat < 0 ∨ 3 ≤ p.ci 0 0 (p.i 260).toNat ∨ p.ci 0 1 (p.i 260).toNat < 0 ∨ 3 ≤ p.ci 0 1 (p.i 260).toNat) with h | h | h | h
    · have := Int.not_le.2 h
      simp [IE.den, BE.den, IOp.den, h, this]
    · have := Int.not_lt.2 h
      simp [IE.den, BE.den, IOp.den, h, this]
    · have := Int.not_le.2 h
      simp [IE.den, BE.den, IOp.den, h, this]
    · have := Int.not_lt.2 h
      simp [IE.den, BE.den, IOp.den, h, this]
def pC_e6 : IE := (.ite (.and (.and (.and (.not (.lt (.cl 0 0 (.var 260)) (.lit (0 : Int)))) (.lt (.cl 0 0 (.var 260)) (.lit (3 : Int)))) (.not (.lt (.cl 0 1 (.var 260)) (.lit (0 : Int))))) (.lt (.cl 0 1 (.var 260)) (.lit (3 : Int)))) (.ite (.and (.eq (.cl 0 0 (.var 260)) (.lit (0 : Int))) (.eq (.cl 0 1 (.var 260)) (.lit (0 : Int)))) (.op .max .i64 (.op .max .i64 (.lit (0 : Int)) (.var 267)) (.cl 0 15 (.var 260))) (.ite (.and (.eq (.cl 0 0 (.var 260)) (.lit (0 : Int))) (.eq (.cl 0 1 (.var 260)) (.lit (1 : Int)))) (.op .max .i64 (.op .max .i64 (.lit (0 : Int)) (.var 267)) (.cl 0 15 (.var 260))) (.ite (.eq (.cl 0 0 (.var 260)) (.lit (0 : Int))) (.op .max .i64 (.op .max .i64 (.lit (0 : Int)) (.var 267)) (.cl 0 15 (.var 260))) (.ite (.and (.eq (.cl 0 0 (.var 260)) (.lit (1 : Int))) (.eq (.cl 0 1 (.var 260)) (.lit (0 : Int)))) (.op .max .i64 (.op .max .i64 (.lit (0 : Int)) (.var 267)) (.cl 0 15 (.var 260))) (.ite (.and (.eq (.cl 0 0 (.var 260)) (.lit (1 : Int))) (.eq (.cl 0 1 (.var 260)) (.lit (1 : Int)))) (.op .max .i64 (.op .max .i64 (.lit (0 : Int)) (.var 267)) (.cl 0 15 (.var 260))) (.ite (.eq (.cl 0 0 (.var 260)) (.lit (1 : Int))) (.op .max .i64 (.op .max .i64 (.lit (0 : Int)) (.var 267)) (.cl 0 15 (.var 260))) (.ite (.eq (.cl 0 1 (.var 260)) (.lit (0 : Int))) (.op .max .i64 (.ite (.and (.eq (.cl 0 0 (.var 260)) (.lit (0 : Int))) (.eq (.cl 0 1 (.var 260)) (.lit (0 : Int)))) (.op .max .i64 (.op .max .i64 (.lit (0 : Int)) (.var 261)) (.cl 0 9 (.var 260))) (.ite (.and (.eq (.cl 0 0 (.var 260)) (.lit (0 : Int))) (.eq (.cl 0 1 (.var 260)) (.lit (1 : Int)))) (.op .max .i64 (.op .max .i64 (.lit (0 : Int)) (.var 262)) (.cl 0 10 (.var 260))) (.ite (.eq (.cl 0 0 (.var 260)) (.lit (0 : Int))) (.op .max .i64 (.op .max .i64 (.lit (0 : Int)) (.var 263)) (.cl 0 11 (.var 260))) (.ite (.and (.eq (.cl 0 0 (.var 260)) (.lit (1 : Int))) (.eq (.cl 0 1 (.var 260)) (.lit (0 : Int)))) (.op .max .i64 (.op .max .i64 (.lit (0 : Int)) (.var 264)) (.cl 0 12 (.var 260))) (.ite (.and (.eq (.cl 0 0 (.var 260)) (.lit (1 : Int))) (.eq (.cl 0 1 (.var 260)) (.lit (1 : Int)))) (.op .max .i64 (.op .max .i64 (.lit (0 : Int)) (.var 265)) (.cl 0 13 (.var 260))) (.ite (.eq (.cl 0 0 (.var 260)) (.lit (1 : Int))) (.op .max .i64 (.op .max .i64 (.lit (0 : Int)) (.var 266)) (.cl 0 14 (.var 260))) (.ite (.eq (.cl 0 1 (.var 260)) (.lit (0 : Int))) (.op .max .i64 (.op .max .i64 (.lit (0 : Int)) (.var 267)) (.cl 0 15 (.var 260))) (.ite (.eq (.cl 0 1 (.var 260)) (.lit (1 : Int))) (.op .max .i64 (.op .max .i64 (.lit (0 : Int)) (.var 268)) (.cl 0 16 (.var 260))) (.op .max .i64 (.op .max .i64 (.lit (0 : Int)) (.var 269)) (.cl 0 17 (.var 260))))))))))) (.cl 0 2 (.var 260))) (.op .max .i64 (.op .max .i64 (.lit (0 : Int)) (.var 267)) (.cl 0 15 (.var 260)))))))))) (.op .max .i64 (.op .max .i64 (.lit (0 : Int)) (.var 267)) (.cl 0 15 (.var 260))))
theorem pC_a6 (p : Rho) : (pC_b.ap p).i 267 = pC_e6.den p := by kernel_rfl
theorem pC_s6 (p : Rho) : (pC_b.ap p).i 267 = if p.ci 0 0 (p.i 260).toNat = 2 ∧ p.ci 0 1 (p.i 260).toNat = 0 then Max.max (Max.max (Max.max 0 (p.i 267)) (p.ci 0 15 (p.i 260).toNat)) (p.ci 0 2 (p.i 260).toNat) else (Max.max (Max.max 0 (p.i 267)) (p.ci 0 15 (p.i 260).toNat)) := by
  rw [pC_a6]
  unfold pC_e6
  by_cases hc : (0 ≤ p.ci 0 0 (p.i 260).toNat ∧ p.ci 0 0 (p.i 260).toNat < 3) ∧ 0 ≤ p.ci 0 1 (p.i 260).toNat ∧ p.ci 0 1 (p.i 260).toNat < 3
  · rcases (by omega : p.ci 0 0 (p.i 260).toNat = 0 ∨ p.ci 0 0 (p.i 260).toNat = 1 ∨ p.ci 0 0 (p.i 260).toNat = 2) with h | h | h <;> rcases (by omega : p.ci 0 1 (p.i 260).toNat = 0 ∨ p.ci 0 1 (p.i 260).toNat = 1 ∨ p.ci 0 1 (p.i 260).toNat = 2) with g | g | g <;> simp [IE.den, BE.den, IOp.den, h, g]
  · rw [if_neg (show ¬ (p.ci 0 0 (p.i 260).toNat = 2 ∧ p.ci 0 1 (p.i 260).toNat = 0) by omega)]
    rcases (by omega : p.ci 0 0 (p.i 260).toNat < 0 ∨ 3 ≤ p.ci 0 0 (p.i 260).toNat ∨ p.ci 0 1 (p.i 260).toNat < 0 ∨ 3 ≤ p.ci 0 1 (p.i 260).toNat) with h | h | h | h
    · have := Int.not_le.2 h
      simp [IE.den, BE.den, IOp.den, h, this]
    · have := Int.not_lt.2 h
      simp [IE.den, BE.den, IOp.den, h, this]
    · have := Int.not_le.2 h
      simp [IE.den, BE.den, IOp.den, h, this]
    · have := Int.not_lt.2 h
      simp [IE.den, BE.den, IOp.den, h, this]
def pC_e7 : IE := (.ite (.and (.and (.and (.not (.lt (.cl 0 0 (.var 260)) (.lit (0 : Int)))) (.lt (.cl 0 0 (.var 260)) (.lit (3 : Int)))) (.not (.lt (.cl 0 1 (.var 260)) (.lit (0 : Int))))) (.lt (.cl 0 1 (.var 260)) (.lit (3 : Int)))) (.ite (.and (.eq (.cl 0 0 (.var 260)) (.lit (0 : Int))) (.eq (.cl 0 1 (.var 260)) (.lit (0 : Int)))) (.op .max .i64 (.op .max .i64 (.lit (0 : Int)) (.var 268)) (.cl 0 16 (.var 260))) (.ite (.and (.eq (.cl 0 0 (.var 260)) (.lit (0 : Int))) (.eq (.cl 0 1 (.var 260)) (.lit (1 : Int)))) (.op .max .i64 (.op .max .i64 (.lit (0 : Int)) (.var 268)) (.cl 0 16 (.var 260))) (.ite (.eq (.cl 0 0 (.var 260)) (.lit (0 : Int))) (.op .max .i64 (.op .max .i64 (.lit (0 : Int)) (.var 268)) (.cl 0 16 (.var 260))) (.ite (.and (.eq (.cl 0 0 (.var 260)) (.lit (1 : Int))) (.eq (.cl 0 1 (.var 260)) (.lit (0 : Int)))) (.op .max .i64 (.op .max .i64 (.lit (0 : Int)) (.var 268)) (.cl 0 16 (.var 260))) (.ite (.and (.eq (.cl 0 0 (.var 260)) (.lit (1 : Int))) (.eq (.cl 0 1 (.var 260)) (.lit (1 : Int)))) (.op .max .i64 (.op .max .i64 (.lit (0 : Int)) (.var 268)) (.cl 0 16 (.var 260))) (.ite (.eq (.cl 0 0 (.var 260)) (.lit (1 : Int))) (.op .max .i64 (.op .max .i64 (.lit (0 : Int)) (.var 268)) (.cl 0 16 (.var 260))) (.ite (.eq (.cl 0 1 (.var 260)) (.lit (0 : Int))) (.op .max .i64 (.op .max .i64 (.lit (0 : Int)) (.var 268)) (.cl 0 16 (.var 260))) (.ite (.eq (.cl 0 1 (.var 260)) (.lit (1 : Int))) (.op .max .i64 (.ite (.and (.eq (.cl 0 0 (.var 260)) (.lit (0 : Int))) (.eq (.cl 0 1 (.var 260)) (.lit (0 : Int)))) (.op .max .i64 (.op .max .i64 (.lit (0 : Int)) (.var 261)) (.cl 0 9 (.var 260))) (.ite (.and (.eq (.cl 0 0 (.var 260)) (.lit (0 : Int))) (.eq (.cl 0 1 (.var 260)) (.lit (1 : Int)))) (.op .max .i64 (.op .max .i64 (.lit (0 : Int)) (.var 262)) (.cl 0 10 (.var 260))) (.ite (.eq (.cl 0 0 (.var 260)) (.lit (0 : Int))) (.op .max .i64 (.op .max .i64 (.lit (0 : Int)) (.var 263)) (.cl 0 11 (.var 260))) (.ite (.and (.eq (.cl 0 0 (.var 260)) (.lit (1 : Int))) (.eq (.cl 0 1 (.var 260)) (.lit (0 : Int)))) (.op .max .i64 (.op .max .i64 (.lit (0 : Int)) (.var 264)) (.cl 0 12 (.var 260))) (.ite (.and (.eq (.cl 0 0 (.var 260)) (.lit (1 : Int))) (.eq (.cl 0 1 (.var 260)) (.lit (1 : Int)))) (.op .max .i64 (.op .max .i64 (.lit (0 : Int)) (.var 265)) (.cl 0 13 (.var 260))) (.ite (.eq (.cl 0 0 (.var 260)) (.lit (1 : Int))) (.op .max .i64 (.op .max .i64 (.lit (0 : Int)) (.var 266)) (.cl 0 14 (.var 260))) (.ite (.eq (.cl 0 1 (.var 260)) (.lit (0 : Int))) (.op .max .i64 (.op .max .i64 (.lit (0 : Int)) (.var 267)) (.cl 0 15 (.var 260))) (.ite (.eq (.cl 0 1 (.var 260)) (.lit (1 : Int))) (.op .max .i64 (.op .max .i64 (.lit (0 : Int)) (.var 268)) (.cl 0 16 (.var 260))) (.op .max .i64 (.op .max .i64 (.lit (0 : Int)) (.var 269)) (.cl 0 17 (.var 260))))))))))) (.cl 0 2 (.var 260))) (.op .max .i64 (.op .max .i64 (.lit (0 : Int)) (.var 268)) (.cl 0 16 (.var 260))))))))))) (.op .max .i64 (.op .max .i64 (.lit (0 : Int)) (.var 268)) (.cl 0 16 (.var 260))))
theorem pC_a7 (p : Rho) : (pC_b.ap p).i 268 = pC_e7.den p := by kernel_rfl
theorem pC_s7 (p : Rho) : (pC_b.ap p).i 268 = if p.ci 0 0 (p.i 260).toNat = 2 ∧ p.ci 0 1 (p.i 260).toNat = 1 then Max.max (Max.max (Max.max 0 (p.i 268)) (p.ci 0 16 (p.i 260).toNat)) (p.ci 0 2 (p.i 260).toNat) else (Max.max (Max.max 0 (p.i 268)) (p.ci 0 16 (p.i 260).toNat)) := by
  rw [pC_a7]
  unfold pC_e7
  by_cases hc : (0 ≤ p.ci 0 0 (p.i 260).toNat ∧ p.ci 0 0 (p.i 260).toNat < 3) ∧ 0 ≤ p.ci 0 1 (p.i 260).toNat ∧ p.ci 0 1 (p.i 260).toNat < 3
  · rcases (by omega : p.ci 0 0 (p.i 260).toNat = 0 ∨ p.ci 0 0 (p.i 260).toNat = 1 ∨ p.ci 0 0 (p.i 260).toNat = 2) with h | h | h <;> rcases (by omega : p.ci 0 1 (p.i 260).toNat = 0 ∨ p.ci 0 1 (p.i 260).toNat = 1 ∨ p.ci 0 1 (p.i 260).toNat = 2) with g | g | g <;> simp [IE.den, BE.den, IOp.den, h, g]
  · rw [if_neg (show ¬ (p.ci 0 0 (p.i 260).toNat = 2 ∧ p.ci 0 1 (p.i 260).toNat = 1) by omega)]
    rcases (by omega : p.ci 0 0 (p.i 260).toNat < 0 ∨ 3 ≤ p.ci 0 0 (p.i 260).toNat ∨ p.ci 0 1 (p.i 260).toNat < 0 ∨ 3 ≤ p.ci 0 1 (p.i 260).toNat) with h | h | h | h
    · have := Int.not_le.2 h
      simp [IE.den, BE.den, IOp.den, h, this]
    · have := Int.not_lt.2 h
      simp [IE.den, BE.den, IOp.den, h, this]
    · have := Int.not_le.2 h
      simp [IE.den, BE.den, IOp.den, h, this]
    · have := Int.not_lt.2 h
      simp [IE.den, BE.den, IOp.den, h, this]
def pC_e8 : IE := (.ite (.and (.and (.and (.not (.lt (.cl 0 0 (.var 260)) (.lit (0 : Int)))) (.lt (.cl 0 0 (.var 260)) (.lit (3 : Int)))) (.not (.lt (.cl 0 1 (.var 260)) (.lit (0 : Int))))) (.lt (.cl 0 1 (.var 260)) (.lit (3 : Int)))) (.ite (.and (.eq (.cl 0 0 (.var 260)) (.lit (0 : Int))) (.eq (.cl 0 1 (.var 260)) (.lit (0 : Int)))) (.op .max .i64 (.op .max .i64 (.lit (0 : Int)) (.var 269)) (.cl 0 17 (.var 260))) (.ite (.and (.eq (.cl 0 0 (.var 260)) (.lit (0 : Int))) (.eq (.cl 0 1 (.var 260)) (.lit (1 : Int)))) (.op .max .i64 (.op .max .i64 (.lit (0 : Int)) (.var 269)) (.cl 0 17 (.var 260))) (.ite (.eq (.cl 0 0 (.var 260)) (.lit (0 : Int))) (.op .max .i64 (.op .max .i64 (.lit (0 : Int)) (.var 269)) (.cl 0 17 (.var 260))) (.ite (.and (.eq (.cl 0 0 (.var 260)) (.lit (1 : Int))) (.eq (.cl 0 1 (.var 260)) (.lit (0 : Int)))) (.op .max .i64 (.op .max .i64 (.lit (0 : Int)) (.var 269)) (.cl 0 17 (.var 260))) (.ite (.and (.eq (.cl 0 0 (.var 260)) (.lit (1 : Int))) (.eq (.cl 0 1 (.var 260)) (.lit (1 : Int)))) (.op .max .i64 (.op .max .i64 (.lit (0 : Int)) (.var 269)) (.cl 0 17 (.var 260))) (.ite (.eq (.cl 0 0 (.var 260)) (.lit (1 : Int))) (.op .max .i64 (.op .max .i64 (.lit (0 : Int)) (.var 269)) (.cl 0 17 (.var 260))) (.ite (.eq (.cl 0 1 (.var 260)) (.lit (0 : Int))) (.op .max .i64 (.op .max .i64 (.lit (0 : Int)) (.var 269)) (.cl 0 17 (.var 260))) (.ite (.eq (.cl 0 1 (.var 260)) (.lit (1 : Int))) (.op .max .i64 (.op .max .i64 (.lit (0 : Int)) (.var 269)) (.cl 0 17 (.var 260))) (.op .max .i64 (.ite (.and (.eq (.cl 0 0 (.var 260)) (.lit (0 : Int))) (.eq (.cl 0 1 (.var 260)) (.lit (0 : Int)))) (.op .max .i64 (.op .max .i64 (.lit (0 : Int)) (.var 261)) (.cl 0 9 (.var 260))) (.ite (.and (.eq (.cl 0 0 (.var 260)) (.lit (0 : Int))) (.eq (.cl 0 1 (.var 260)) (.lit (1 : Int)))) (.op .max .i64 (.op .max .i64 (.lit (0 : Int)) (.var 262)) (.cl 0 10 (.var 260))) (.ite (.eq (.cl 0 0 (.var 260)) (.lit (0 : Int))) (.op .max .i64 (.op .max .i64 (.lit (0 : Int)) (.var 263)) (.cl 0 11 (.var 260))) (.ite (.and (.eq (.cl 0 0 (.var 260)) (.lit (1 : Int))) (.eq (.cl 0 1 (.var 260)) (.lit (0 : Int)))) (.op .max .i64 (.op .max .i64 (.lit (0 : Int)) (.var 264)) (.cl 0 12 (.var 260))) (.ite (.and (.eq (.cl 0 0 (.var 260)) (.lit (1 : Int))) (.eq (.cl 0 1 (.var 260)) (.lit (1 : Int)))) (.op .max .i64 (.op .max .i64 (.lit (0 : Int)) (.var 265)) (.cl 0 13 (.var 260))) (.ite (.eq (.cl 0 0 (.var 260)) (.lit (1 : Int))) (.op .max .i64 (.op .max .i64 (.lit (0 : Int)) (.var 266)) (.cl 0 14 (.var 260))) (.ite (.eq (.cl 0 1 (.var 260)) (.lit (0 : Int))) (.op .max .i64 (.op .max .i64 (.lit (0 : Int)) (.var 267)) (.cl 0 15 (.var 260))) (.ite (.eq (.cl 0 1 (.var 260)) (.lit (1 : Int))) (.op .max .i64 (.op .max .i64 (.lit (0 : Int)) (.var 268)) (.cl 0 16 (.var 260))) (.op .max .i64 (.op .max .i64 (.lit (0 : Int)) (.var 269)) (.cl 0 17 (.var 260))))))))))) (.cl 0 2 (.var 260))))))))))) (.op .max .i64 (.op .max .i64 (.lit (0 : Int)) (.var 269)) (.cl 0 17 (.var 260))))
theorem pC_a8 (p : Rho) : (pC_b.ap p).i 269 = pC_e8.den p := by kernel_rfl
theorem pC_s8 (p : Rho) : (pC_b.ap p).i 269 = if p.ci 0 0 (p.i 260).toNat = 2 ∧ p.ci 0 1 (p.i 260).toNat = 2 then Max.max (Max.max (Max.max 0 (p.i 269)) (p.ci 0 17 (p.i 260).toNat)) (p.ci 0 2 (p.i 260).toNat) else (Max.max (Max.max 0 (p.i 269)) (p.ci 0 17 (p.i 260).toNat)) := by
  rw [pC_a8]
  unfold pC_e8
  by_cases hc : (0 ≤ p.ci 0 0 (p.i 260).toNat ∧ p.ci 0 0 (p.i 260).toNat < 3) ∧ 0 ≤ p.ci 0 1 (p.i 260).toNat ∧ p.ci 0 1 (p.i 260).toNat < 3
  · rcases (by omega : p.ci 0 0 (p.i 260).toNat = 0 ∨ p.ci 0 0 (p.i 260).toNat = 1 ∨ p.ci 0 0 (p.i 260).toNat = 2) with h | h | h <;> rcases (by omega : p.ci 0 1 (p.i 260).toNat = 0 ∨ p.ci 0 1 (p.i 260).toNat = 1 ∨ p.ci 0 1 (p.i 260).toNat = 2) with g | g | g <;> simp [IE.den, BE.den, IOp.den, h, g]
  · rw [if_neg (show ¬ (p.ci 0 0 (p.i 260).toNat = 2 ∧ p.ci 0 1 (p.i 260).toNat = 2) by omega)]
    rcases (by omega : p.ci 0 0 (p.i 260).toNat < 0 ∨ 3 ≤ p.ci 0 0 (p.i 260).toNat ∨ p.ci 0 1 (p.i 260).toNat < 0 ∨ 3 ≤ p.ci 0 1 (p.i 260).toNat) with h | h | h | h
    · have := Int.not_le.2 h
      simp [IE.den, BE.den, IOp.den, h, this]
    · have := Int.not_lt.2 h
      simp [IE.den, BE.den, IOp.den, h, this]
    · have := Int.not_le.2 h
      simp [IE.den, BE.den, IOp.den, h, this]
    · have := Int.not_lt.2 h
      simp [IE.den, BE.den, IOp.den, h, this]
def qA_e0 : IE := (.ite (.and (.eq (.cl 0 1 (.var 240)) (.var 0)) (.and (.and (.and (.not (.lt (.cl 0 0 (.var 240)) (.lit (0 : Int)))) (.lt (.cl 0 0 (.var 240)) (.lit (3 : Int)))) (.not (.lt (.var 0) (.lit (0 : Int))))) (.lt (.var 0) (.lit (3 : Int))))) (.ite (.eq (.cl 0 0 (.var 240)) (.lit (0 : Int))) (.op .max .i64 (.ite (.eq (.cl 0 0 (.var 240)) (.lit (0 : Int))) (.var 241) (.ite (.eq (.cl 0 0 (.var 240)) (.lit (1 : Int))) (.var 242) (.var 243))) (.cl 0 2 (.var 240))) (.var 241)) (.var 241))
theorem qA_a0 (p : Rho) : (qA_b.ap p).i 241 = qA_e0.den p := by kernel_rfl
theorem qA_s0 (p : Rho) : (qA_b.ap p).i 241 = if p.ci 0 1 (p.i 240).toNat = p.i 0 ∧ 0 ≤ p.i 0 ∧ p.i 0 < 3 ∧ p.ci 0 0 (p.i 240).toNat = 0 then Max.max (p.i 241) (p.ci 0 2 (p.i 240).toNat) else p.i 241 := by
  rw [qA_a0]
  unfold qA_e0
  by_cases he : p.ci 0 1 (p.i 240).toNat = p.i 0
  · by_cases hc : (0 ≤ p.ci 0 0 (p.i 240).toNat ∧ p.ci 0 0 (p.i 240).toNat < 3) ∧ 0 ≤ p.i 0 ∧ p.i 0 < 3
    · have h1 := Int.not_lt.2 hc.2.1
      rcases (by omega : p.ci 0 0 (p.i 240).toNat = 0 ∨ p.ci 0 0 (p.i 240).toNat = 1 ∨ p.ci 0 0 (p.i 240).toNat = 2) with h | h | h <;> simp [IE.den, BE.den, IOp.den, h, he, hc.2.1, hc.2.2, h1]
    · rw [if_neg (show ¬ (p.ci 0 1 (p.i 240).toNat = p.i 0 ∧ 0 ≤ p.i 0 ∧ p.i 0 < 3 ∧ p.ci 0 0 (p.i 240).toNat = 0) by omega)]
      rcases (by omega : p.ci 0 0 (p.i 240).toNat < 0 ∨ 3 ≤ p.ci 0 0 (p.i 240).toNat ∨ p.i 0 < 0 ∨ 3 ≤ p.i 0) with h | h | h | h
      · have := Int.not_le.2 h
        simp [IE.den, BE.den, IOp.den, h, he, this]
      · have := Int.not_lt.2 h
        simp [IE.den, BE.den, IOp.den, h, he, this]
      · have := Int.not_le.2 h
        simp [IE.den, BE.den, IOp.den, h, he, this]
      · have := Int.not_lt.2 h
        simp [IE.den, BE.den, IOp.den, h, he, this]
  · simp [IE.den, BE.den, IOp.den, he]
def qA_e1 : IE := (.ite (.and (.eq (.cl 0 1 (.var 240)) (.var 0)) (.and (.and (.and (.not (.lt (.cl 0 0 (.var 240)) (.lit (0 : Int)))) (.lt (.cl 0 0 (.var 240)) (.lit (3 : Int)))) (.not (.lt (.var 0) (.lit (0 : Int))))) (.lt (.var 0) (.lit (3 : Int))))) (.ite (.eq (.cl 0 0 (.var 240)) (.lit (0 : Int))) (.var 242) (.ite (.eq (.cl 0 0 (.var 240)) (.lit (1 : Int))) (.op .max .i64 (.ite (.eq (.cl 0 0 (.var 240)) (.lit (0 : Int))) (.var 241) (.ite (.eq (.cl 0 0 (.var 240)) (.lit (1 : Int))) (.var 242) (.var 243))) (.cl 0 2 (.var 240))) (.var 242))) (.var 242))
theorem qA_a1 (p : Rho) : (qA_b.ap p).i 242 = qA_e1.den p := by kernel_rfl
theorem qA_s1 (p : Rho) : (qA_b.ap p).i 242 = if p.ci 0 1 (p.i 240).toNat = p.i 0 ∧ 0 ≤ p.i 0 ∧ p.i 0 < 3 ∧ p.ci 0 0 (p.i 240).toNat = 1 then Max.max (p.i 242) (p.ci 0 2 (p.i 240).toNat) else p.i 242 := by
  rw [qA_a1]
  unfold qA_e1
  by_cases he : p.ci 0 1 (p.i 240).toNat = p.i 0
  · by_cases hc : (0 ≤ p.ci 0 0 (p.i 240).toNat ∧ p.ci 0 0 (p.i 240).toNat < 3) ∧ 0 ≤ p.i 0 ∧ p.i 0 < 3
    · have h1 := Int.not_lt.2 hc.2.1
      rcases (by omega : p.ci 0 0 (p.i 240).toNat = 0 ∨ p.ci 0 0 (p.i 240).toNat = 1 ∨ p.ci 0 0 (p.i 240).toNat = 2) with h | h | h <;> simp [IE.den, BE.den, IOp.den, h, he, hc.2.1, hc.2.2, h1]
    · rw [if_neg (show ¬ (p.ci 0 1 (p.i 240).toNat = p.i 0 ∧ 0 ≤ p.i 0 ∧ p.i 0 < 3 ∧ p.ci 0 0 (p.i 240).toNat = 1) by omega)]
      rcases (by omega : p.ci 0 0 (p.i 240).toNat < 0 ∨ 3 ≤ p.ci 0 0 (p.i 240).toNat ∨ p.i 0 < 0 ∨ 3 ≤ p.i 0) with h | h | h | h
      · have := Int.not_le.2 h
        simp [IE.den, BE.den, IOp.den, h, he, this]
      · have := Int.not_lt.2 h
        simp [IE.den, BE.den, IOp.den, h, he, this]
      · have := Int.not_le.2 h
        simp [IE.den, BE.den, IOp.den, h, he, this]
      · have := Int.not_lt.2 h
        simp [IE.den, BE.den, IOp.den, h, he, this]
  · simp [IE.den, BE.den, IOp.den, he]
def qA_e2 : IE := (.ite (.and (.eq (.cl 0 1 (.var 240)) (.var 0)) (.and (.and (.and (.not (.lt (.cl 0 0 (.var 240)) (.lit (0 : Int)))) (.lt (.cl 0 0 (.var 240)) (.lit (3 : Int)))) (.not (.lt (.var 0) (.lit (0 : Int))))) (.lt (.var 0) (.lit (3 : Int))))) (.ite (.eq (.cl 0 0 (.var 240)) (.lit (0 : Int))) (.var 243) (.ite (.eq (.cl 0 0 (.var 240)) (.lit (1 : Int))) (.var 243) (.op .max .i64 (.ite (.eq (.cl 0 0 (.var 240)) (.lit (0 : Int))) (.var 241) (.ite (.eq (.cl 0 0 (.var 240)) (.lit (1 : Int))) (.var 242) (.var 243))) (.cl 0 2 (.var 240))))) (.var 243))
theorem qA_a2 (p : Rho) : (qA_b.ap p).i 243 = qA_e2.den p := by kernel_rfl
theorem qA_s2 (p : Rho) : (qA_b.ap p).i 243 = if p.ci 0 1 (p.i 240).toNat = p.i 0 ∧ 0 ≤ p.i 0 ∧ p.i 0 < 3 ∧ p.ci 0 0 (p.i 240).toNat = 2 then Max.max (p.i 243) (p.ci 0 2 (p.i 240).toNat) else p.i 243 := by
  rw [qA_a2]
  unfold qA_e2
  by_cases he : p.ci 0 1 (p.i 240).toNat = p.i 0
  · by_cases hc : (0 ≤ p.ci 0 0 (p.i 240).toNat ∧ p.ci 0 0 (p.i 240).toNat < 3) ∧ 0 ≤ p.i 0 ∧ p.i 0 < 3
    · have h1 := Int.not_lt.2 hc.2.1
      rcases (by omega : p.ci 0 0 (p.i 240).toNat = 0 ∨ p.ci 0 0 (p.i 240).toNat = 1 ∨ p.ci 0 0 (p.i 240).toNat = 2) with h | h | h <;> simp [IE.den, BE.den, IOp.den, h, he, hc.2.1, hc.2.2, h1]
    · rw [if_neg (show ¬ (p.ci 0 1 (p.i 240).toNat = p.i 0 ∧ 0 ≤ p.i 0 ∧ p.i 0 < 3 ∧ p.ci 0 0 (p.i 240).toNat = 2) by omega)]
      rcases (by omega : p.ci 0 0 (p.i 240).toNat < 0 ∨ 3 ≤ p.ci 0 0 (p.i 240).toNat ∨ p.i 0 < 0 ∨ 3 ≤ p.i 0) with h | h | h | h
      · have := Int.not_le.2 h
        simp [IE.den, BE.den, IOp.den, h, he, this]
      · have := Int.not_lt.2 h
        simp [IE.den, BE.den, IOp.den, h, he, this]
      · have := Int.not_le.2 h
        simp [IE.den, BE.den, IOp.den, h, he, this]
      · have := Int.not_lt.2 h
        simp [IE.den, BE.den, IOp.den, h, he, this]
  · simp [IE.den, BE.den, IOp.den, he]
def qC_e0 : IE := (.ite (.and (.eq (.cl 0 1 (.var 280)) (.var 0)) (.and (.and (.and (.not (.lt (.cl 0 0 (.var 280)) (.lit (0 : Int)))) (.lt (.cl 0 0 (.var 280)) (.lit (3 : Int)))) (.not (.lt (.cl 0 1 (.var 280)) (.lit (0 : Int))))) (.lt (.cl 0 1 (.var 280)) (.lit (3 : Int))))) (.ite (.eq (.cl 0 0 (.var 280)) (.lit (0 : Int))) (.op .max .i64 (.ite (.eq (.cl 0 0 (.var 280)) (.lit (0 : Int))) (.var 281) (.ite (.eq (.cl 0 0 (.var 280)) (.lit (1 : Int))) (.var 282) (.var 283))) (.cl 0 2 (.var 280))) (.var 281)) (.var 281))
theorem qC_a0 (p : Rho) : (qC_b.ap p).i 281 = qC_e0.den p := by kernel_rfl
theorem qC_s0 (p : Rho) : (qC_b.ap p).i 281 = if p.ci 0 1 (p.i 280).toNat = p.i 0 ∧ 0 ≤ p.i 0 ∧ p.i 0 < 3 ∧ p.ci 0 0 (p.i 280).toNat = 0 then Max.max (p.i 281) (p.ci 0 2 (p.i 280).toNat) else p.i 281 := by
  rw [qC_a0]
  unfold qC_e0
  by_cases he : p.ci 0 1 (p.i 280).toNat = p.i 0
  · by_cases hc : (0 ≤ p.ci 0 0 (p.i 280).toNat ∧ p.ci 0 0 (p.i 280).toNat < 3) ∧ 0 ≤ p.i 0 ∧ p.i 0 < 3
    · have h1 := Int.not_lt.2 hc.2.1
      rcases (by omega : p.ci 0 0 (p.i 280).toNat = 0 ∨ p.ci 0 0 (p.i 280).toNat = 1 ∨ p.ci 0 0 (p.i 280).toNat = 2) with h | h | h <;> simp [IE.den, BE.den, IOp.den, h, he, hc.2.1, hc.2.2, h1]
    · rw [if_neg (show ¬ (p.ci 0 1 (p.i 280).toNat = p.i 0 ∧ 0 ≤ p.i 0 ∧ p.i 0 < 3 ∧ p.ci 0 0 (p.i 280).toNat = 0) by omega)]
      rcases (by omega : p.ci 0 0 (p.i 280).toNat < 0 ∨ 3 ≤ p.ci 0 0 (p.i 280).toNat ∨ p.i 0 < 0 ∨ 3 ≤ p.i 0) with h | h | h | h
      · have := Int.not_le.2 h
        simp [IE.den, BE.den, IOp.den, h, he, this]
      · have := Int.not_lt.2 h
        simp [IE.den, BE.den, IOp.den, h, he, this]
      · have := Int.not_le.2 h
        simp [IE.den, BE.den, IOp.den, h, he, this]
      · have := Int.not_lt.2 h
        simp [IE.den, BE.den, IOp.den, h, he, this]
  · simp [IE.den, BE.den, IOp.den, he]
def qC_e1 : IE := (.ite (.and (.eq (.cl 0 1 (.var 280)) (.var 0)) (.and (.and (.and (.not (.lt (.cl 0 0 (.var 280)) (.lit (0 : Int)))) (.lt (.cl 0 0 (.var 280)) (.lit (3 : Int)))) (.not (.lt (.cl 0 1 (.var 280)) (.lit (0 : Int))))) (.lt (.cl 0 1 (.var 280)) (.lit (3 : Int))))) (.ite (.eq (.cl 0 0 (.var 280)) (.lit (0 : Int))) (.var 282) (.ite (.eq (.cl 0 0 (.var 280)) (.lit (1 : Int))) (.op .max .i64 (.ite (.eq (.cl 0 0 (.var 280)) (.lit (0 : Int))) (.var 281) (.ite (.eq (.cl 0 0 (.var 280)) (.lit (1 : Int))) (.var 282) (.var 283))) (.cl 0 2 (.var 280))) (.var 282))) (.var 282))
theorem qC_a1 (p : Rho) : (qC_b.ap p).i 282 = qC_e1.den p := by kernel_rfl
theorem qC_s1 (p : Rho) : (qC_b.ap p).i 282 = if p.ci 0 1 (p.i 280).toNat = p.i 0 ∧ 0 ≤ p.i 0 ∧ p.i 0 < 3 ∧ p.ci 0 0 (p.i 280).toNat = 1 then Max.max (p.i 282) (p.ci 0 2 (p.i 280).toNat) else p.i 282 := by
  rw [qC_a1]
  unfold qC_e1
  by_cases he : p.ci 0 1 (p.i 280).toNat = p.i 0
  · by_cases hc : (0 ≤ p.ci 0 0 (p.i 280).toNat ∧ p.ci 0 0 (p.i 280).toNat < 3) ∧ 0 ≤ p.i 0 ∧ p.i 0 < 3
    · have h1 := Int.not_lt.2 hc.2.1
      rcases (by omega : p.ci 0 0 (p.i 280).toNat = 0 ∨ p.ci 0 0 (p.i 280).toNat = 1 ∨ p.ci 0 0 (p.i 280).toNat = 2) with h | h | h <;> simp [IE.den, BE.den, IOp.den, h, he, hc.2.1, hc.2.2, h1]
    · rw [if_neg (show ¬ (p.ci 0 1 (p.i 280).toNat = p.i 0 ∧ 0 ≤ p.i 0 ∧ p.i 0 < 3 ∧ p.ci 0 0 (p.i 280).toNat = 1) by omega)]
      rcases (by omega : p.ci 0 0 (p.i 280).toNat < 0 ∨ 3 ≤ p.ci 0 0 (p.i 280).toNat ∨ p.i 0 < 0 ∨ 3 ≤ p.i 0) with h | h | h | h
      · have := Int.not_le.2 h
        simp [IE.den, BE.den, IOp.den, h, he, this]
      · have := Int.not_lt.2 h
        simp [IE.den, BE.den, IOp.den, h, he, this]
      · have := Int.not_le.2 h
        simp [IE.den, BE.den, IOp.den, h, he, this]
      · have := Int.not_lt.2 h
        simp [IE.den, BE.den, IOp.den, h, he, this]
  · simp [IE.den, BE.den, IOp.den, he]
def qC_e2 : IE := (.ite (.and (.eq (.cl 0 1 (.var 280)) (.var 0)) (.and (.and (.and (.not (.lt (.cl 0 0 (.var 280)) (.lit (0 : Int)))) (.lt (.cl 0 0 (.var 280)) (.lit (3 : Int)))) (.not (.lt (.cl 0 1 (.var 280)) (.lit (0 : Int))))) (.lt (.cl 0 1 (.var 280)) (.lit (3 : Int))))) (.ite (.eq (.cl 0 0 (.var 280)) (.lit (0 : Int))) (.var 283) (.ite (.eq (.cl 0 0 (.var 280)) (.lit (1 : Int))) (.var 283) (.op .max .i64 (.ite (.eq (.cl 0 0 (.var 280)) (.lit (0 : Int))) (.var 281) (.ite (.eq (.cl 0 0 (.var 280)) (.lit (1 : Int))) (.var 282) (.var 283))) (.cl 0 2 (.var 280))))) (.var 283))
theorem qC_a2 (p : Rho) : (qC_b.ap p).i 283 = qC_e2.den p := by kernel_rfl
theorem qC_s2 (p : Rho) : (qC_b.ap p).i 283 = if p.ci 0 1 (p.i 280).toNat = p.i 0 ∧ 0 ≤ p.i 0 ∧ p.i 0 < 3 ∧ p.ci 0 0 (p.i 280).toNat = 2 then Max.max (p.i 283) (p.ci 0 2 (p.i 280).toNat) else p.i 283 := by
  rw [qC_a2]
  unfold qC_e2
  by_cases he : p.ci 0 1 (p.i 280).toNat = p.i 0
  · by_cases hc : (0 ≤ p.ci 0 0 (p.i 280).toNat ∧ p.ci 0 0 (p.i 280).toNat < 3) ∧ 0 ≤ p.i 0 ∧ p.i 0 < 3
    · have h1 := Int.not_lt.2 hc.2.1
      rcases (by omega : p.ci 0 0 (p.i 280).toNat = 0 ∨ p.ci 0 0 (p.i 280).toNat = 1 ∨ p.ci 0 0 (p.i 280).toNat = 2) with h | h | h <;> simp [IE.den, BE.den, IOp.den, h, he, hc.2.1, hc.2.2, h1]
    · rw [if_neg (show ¬ (p.ci 0 1 (p.i 280).toNat = p.i 0 ∧ 0 ≤ p.i 0 ∧ p.i 0 < 3 ∧ p.ci 0 0 (p.i 280).toNat = 2) by omega)]
      rcases (by omega : p.ci 0 0 (p.i 280).toNat < 0 ∨ 3 ≤ p.ci 0 0 (p.i 280).toNat ∨ p.i 0 < 0 ∨ 3 ≤ p.i 0) with h | h | h | h
      · have := Int.not_le.2 h
        simp [IE.den, BE.den, IOp.den, h, he, this]
      · have := Int.not_lt.2 h
        simp [IE.den, BE.den, IOp.den, h, he, this]
      · have := Int.not_le.2 h
        simp [IE.den, BE.den, IOp.den, h, he, this]
      · have := Int.not_lt.2 h
        simp [IE.den, BE.den, IOp.den, h, he, this]
  · simp [IE.den, BE.den, IOp.den, he]
theorem pA_cnt (ρ : Rho) (j : Nat) (h : j < 4611686018427387904) : (pA_b.it (pA_i.ap ρ) j).i 200 = j := it_count (e := .lit 0) rfl rfl j h
theorem pA_f (ρ ρ2 : Rho) (hc : ∀ k r, ρ2.ci 0 k r = ρ.ci 0 k r)   : ∀ j : Nat, j < 4611686018427387904 → (pA_b.it (pA_i.ap ρ2) j).i 201 = mxF (fun j => ρ.ci 0 9 j) j ∧ (pA_b.it (pA_i.ap ρ2) j).i 202 = mxF (fun j => ρ.ci 0 10 j) j ∧ (pA_b.it (pA_i.ap ρ2) j).i 203 = mxF (fun j => ρ.ci 0 11 j) j ∧ (pA_b.it (pA_i.ap ρ2) j).i 204 = mxF (fun j => ρ.ci 0 12 j) j ∧ (pA_b.it (pA_i.ap ρ2) j).i 205 = mxF (fun j => ρ.ci 0 13 j) j ∧ (pA_b.it (pA_i.ap ρ2) j).i 206 = mxF (fun j => ρ.ci 0 14 j) j ∧ (pA_b.it (pA_i.ap ρ2) j).i 207 = mxF (fun j => ρ.ci 0 15 j) j ∧ (pA_b.it (pA_i.ap ρ2) j).i 208 = mxF (fun j => ρ.ci 0 16 j) j ∧ (pA_b.it (pA_i.ap ρ2) j).i 209 = mxF (fun j => ρ.ci 0 17 j) j
  | 0, _ => ⟨rfl, rfl, rfl, rfl, rfl, rfl, rfl, rfl, rfl⟩
  | j + 1, hj => by
    have ih := pA_f ρ ρ2 hc  j (by omega)
    have cn := pA_cnt ρ2 j (by omega)
    have hb : ∀ k r, (pA_b.it (pA_i.ap ρ2) j).ci 0 k r = ρ.ci 0 k r := fun k r => by rw [← (Bind.it_agree pA_bg _ j).ci 0 (by omega), ← (Bind.agree pA_ig ρ2).ci 0 (by omega)]; exact hc k r
    simp only [Bind.it]
    generalize pA_b.it (pA_i.ap ρ2) j = q at ih cn hb ⊢
    obtain ⟨i0, i1, i2, i3, i4, i5, i6, i7, i8⟩ := ih
    refine ⟨?_, ?_, ?_, ?_, ?_, ?_, ?_, ?_, ?_⟩
    · rw [pA_s0, cn, i0]
      simp only [hb, Int.toNat_natCast]
      rw [Int.max_eq_right (mxF_nn _ _)]; rfl
    · rw [pA_s1, cn, i1]
      simp only [hb, Int.toNat_natCast]
      rw [Int.max_eq_right (mxF_nn _ _)]; rfl
    · rw [pA_s2, cn, i2]
      simp only [hb, Int.toNat_natCast]
      rw [Int.max_eq_right (mxF_nn _ _)]; rfl
    · rw [pA_s3, cn, i3]
      simp only [hb, Int.toNat_natCast]
      rw [Int.max_eq_right (mxF_nn _ _)]; rfl
    · rw [pA_s4, cn, i4]
      simp only [hb, Int.toNat_natCast]
      rw [Int.max_eq_right (mxF_nn _ _)]; rfl
    · rw [pA_s5, cn, i5]
      simp only [hb, Int.toNat_natCast]
      rw [Int.max_eq_right (mxF_nn _ _)]; rfl
    · rw [pA_s6, cn, i6]
      simp only [hb, Int.toNat_natCast]
      rw [Int.max_eq_right (mxF_nn _ _)]; rfl
    · rw [pA_s7, cn, i7]
      simp only [hb, Int.toNat_natCast]
      rw [Int.max_eq_right (mxF_nn _ _)]; rfl
    · rw [pA_s8, cn, i8]
      simp only [hb, Int.toNat_natCast]
      rw [Int.max_eq_right (mxF_nn _ _)]; rfl
theorem pB_cnt (ρ : Rho) (j : Nat) (h : j < 4611686018427387904) : (pB_b.it (pB_i.ap ρ) j).i 220 = j := it_count (e := .lit 0) rfl rfl j h
theorem pB_f (ρ ρ2 : Rho) (hc : ∀ k r, ρ2.ci 0 k r = ρ.ci 0 k r) (n0 : 0 ≤ ρ2.i 201) (n1 : 0 ≤ ρ2.i 202) (n2 : 0 ≤ ρ2.i 203) (n3 : 0 ≤ ρ2.i 204) (n4 : 0 ≤ ρ2.i 205) (n5 : 0 ≤ ρ2.i 206) (n6 : 0 ≤ ρ2.i 207) (n7 : 0 ≤ ρ2.i 208) (n8 : 0 ≤ ρ2.i 209)  : ∀ j : Nat, j < 4611686018427387904 → (pB_b.it (pB_i.ap ρ2) j).i 221 = Max.max (ρ2.i 201) (dtF (fun j => decide (ρ.ci 0 0 j = 0 ∧ ρ.ci 0 1 j = 0)) (fun j => ρ.ci 0 2 j) j) ∧ (pB_b.it (pB_i.ap ρ2) j).i 222 = Max.max (ρ2.i 202) (dtF (fun j => decide (ρ.ci 0 0 j = 0 ∧ ρ.ci 0 1 j = 1)) (fun j => ρ.ci 0 2 j) j) ∧ (pB_b.it (pB_i.ap ρ2) j).i 223 = Max.max (ρ2.i 203) (dtF (fun j => decide (ρ.ci 0 0 j = 0 ∧ ρ.ci 0 1 j = 2)) (fun j => ρ.ci 0 2 j) j) ∧ (pB_b.it (pB_i.ap ρ2) j).i 224 = Max.max (ρ2.i 204) (dtF (fun j => decide (ρ.ci 0 0 j = 1 ∧ ρ.ci 0 1 j = 0)) (fun j => ρ.ci 0 2 j) j) ∧ (pB_b.it (pB_i.ap ρ2) j).i 225 = Max.max (ρ2.i 205) (dtF (fun j => decide (ρ.ci 0 0 j = 1 ∧ ρ.ci 0 1 j = 1)) (fun j => ρ.ci 0 2 j) j) ∧ (pB_b.it (pB_i.ap ρ2) j).i 226 = Max.max (ρ2.i 206) (dtF (fun j => decide (ρ.ci 0 0 j = 1 ∧ ρ.ci 0 1 j = 2)) (fun j => ρ.ci 0 2 j) j) ∧ (pB_b.it (pB_i.ap ρ2) j).i 227 = Max.max (ρ2.i 207) (dtF (fun j => decide (ρ.ci 0 0 j = 2 ∧ ρ.ci 0 1 j = 0)) (fun j => ρ.ci 0 2 j) j) ∧ (pB_b.it (pB_i.ap ρ2) j).i 228 = Max.max (ρ2.i 208) (dtF (fun j => decide (ρ.ci 0 0 j = 2 ∧ ρ.ci 0 1 j = 1)) (fun j => ρ.ci 0 2 j) j) ∧ (pB_b.it (pB_i.ap ρ2) j).i 229 = Max.max (ρ2.i 209) (dtF (fun j => decide (ρ.ci 0 0 j = 2 ∧ ρ.ci 0 1 j = 2)) (fun j => ρ.ci 0 2 j) j)
  | 0, _ => ⟨(Int.max_eq_left n0).symm, (Int.max_eq_left n1).symm, (Int.max_eq_left n2).symm, (Int.max_eq_left n3).symm, (Int.max_eq_left n4).symm, (Int.max_eq_left n5).symm, (Int.max_eq_left n6).symm, (Int.max_eq_left n7).symm, (Int.max_eq_left n8).symm⟩
  | j + 1, hj => by
    have ih := pB_f ρ ρ2 hc n0 n1 n2 n3 n4 n5 n6 n7 n8 j (by omega)
    have cn := pB_cnt ρ2 j (by omega)
    have hb : ∀ k r, (pB_b.it (pB_i.ap ρ2) j).ci 0 k r = ρ.ci 0 k r := fun k r => by rw [← (Bind.it_agree pB_bg _ j).ci 0 (by omega), ← (Bind.agree pB_ig ρ2).ci 0 (by omega)]; exact hc k r
    simp only [Bind.it]
    generalize pB_b.it (pB_i.ap ρ2) j = q at ih cn hb ⊢
    obtain ⟨i0, i1, i2, i3, i4, i5, i6, i7, i8⟩ := ih
    refine ⟨?_, ?_, ?_, ?_, ?_, ?_, ?_, ?_, ?_⟩
    · rw [pB_s0, cn, i0]
      simp only [hb, Int.toNat_natCast]
      simp only [dtF, decide_eq_true_eq]
      exact mx_step _ _ _ _
    · rw [pB_s1, cn, i1]
      simp only [hb, Int.toNat_natCast]
      simp only [dtF, decide_eq_true_eq]
      exact mx_step _ _ _ _
    · rw [pB_s2, cn, i2]
      simp only [hb, Int.toNat_natCast]
      simp only [dtF, decide_eq_true_eq]
      exact mx_step _ _ _ _
    · rw [pB_s3, cn, i3]
      simp only [hb, Int.toNat_natCast]
      simp only [dtF, decide_eq_true_eq]
      exact mx_step _ _ _ _
    · rw [pB_s4, cn, i4]
      simp only [hb, Int.toNat_natCast]
      simp only [dtF, decide_eq_true_eq]
      exact mx_step _ _ _ _
    · rw [pB_s5, cn, i5]
      simp only [hb, Int.toNat_natCast]
      simp only [dtF, decide_eq_true_eq]
      exact mx_step _ _ _ _
    · rw [pB_s6, cn, i6]
      simp only [hb, Int.toNat_natCast]
      simp only [dtF, decide_eq_true_eq]
      exact mx_step _ _ _ _
    · rw [pB_s7, cn, i7]
      simp only [hb, Int.toNat_natCast]
      simp only [dtF, decide_eq_true_eq]
      exact mx_step _ _ _ _
    · rw [pB_s8, cn, i8]
      simp only [hb, Int.toNat_natCast]
      simp only [dtF, decide_eq_true_eq]
      exact mx_step _ _ _ _
theorem pC_cnt (ρ : Rho) (j : Nat) (h : j < 4611686018427387904) : (pC_b.it (pC_i.ap ρ) j).i 260 = j := it_count (e := .lit 0) rfl rfl j h
theorem pC_f (ρ ρ2 : Rho) (hc : ∀ k r, ρ2.ci 0 k r = ρ.ci 0 k r)   : ∀ j : Nat, j < 4611686018427387904 → (pC_b.it (pC_i.ap ρ2) j).i 261 = Max.max (mxF (fun j => ρ.ci 0 9 j) j) (dtF (fun j => decide (ρ.ci 0 0 j = 0 ∧ ρ.ci 0 1 j = 0)) (fun j => ρ.ci 0 2 j) j) ∧ (pC_b.it (pC_i.ap ρ2) j).i 262 = Max.max (mxF (fun j => ρ.ci 0 10 j) j) (dtF (fun j => decide (ρ.ci 0 0 j = 0 ∧ ρ.ci 0 1 j = 1)) (fun j => ρ.ci 0 2 j) j) ∧ (pC_b.it (pC_i.ap ρ2) j).i 263 = Max.max (mxF (fun j => ρ.ci 0 11 j) j) (dtF (fun j => decide (ρ.ci 0 0 j = 0 ∧ ρ.ci 0 1 j = 2)) (fun j => ρ.ci 0 2 j) j) ∧ (pC_b.it (pC_i.ap ρ2) j).i 264 = Max.max (mxF (fun j => ρ.ci 0 12 j) j) (dtF (fun j => decide (ρ.ci 0 0 j = 1 ∧ ρ.ci 0 1 j = 0)) (fun j => ρ.ci 0 2 j) j) ∧ (pC_b.it (pC_i.ap ρ2) j).i 265 = Max.max (mxF (fun j => ρ.ci 0 13 j) j) (dtF (fun j => decide (ρ.ci 0 0 j = 1 ∧ ρ.ci 0 1 j = 1)) (fun j => ρ.ci 0 2 j) j) ∧ (pC_b.it (pC_i.ap ρ2) j).i 266 = Max.max (mxF (fun j => ρ.ci 0 14 j) j) (dtF (fun j => decide (ρ.ci 0 0 j = 1 ∧ ρ.ci 0 1 j = 2)) (fun j => ρ.ci 0 2 j) j) ∧ (pC_b.it (pC_i.ap ρ2) j).i 267 = Max.max (mxF (fun j => ρ.ci 0 15 j) j) (dtF (fun j => decide (ρ.ci 0 0 j = 2 ∧ ρ.ci 0 1 j = 0)) (fun j => ρ.ci 0 2 j) j) ∧ (pC_b.it (pC_i.ap ρ2) j).i 268 = Max.max (mxF (fun j => ρ.ci 0 16 j) j) (dtF (fun j => decide (ρ.ci 0 0 j = 2 ∧ ρ.ci 0 1 j = 1)) (fun j => ρ.ci 0 2 j) j) ∧ (pC_b.it (pC_i.ap ρ2) j).i 269 = Max.max (mxF (fun j => ρ.ci 0 17 j) j) (dtF (fun j => decide (ρ.ci 0 0 j = 2 ∧ ρ.ci 0 1 j = 2)) (fun j => ρ.ci 0 2 j) j)
  | 0, _ => ⟨(Int.max_self 0).symm, (Int.max_self 0).symm, (Int.max_self 0).symm, (Int.max_self 0).symm, (Int.max_self 0).symm, (Int.max_self 0).symm, (Int.max_self 0).symm, (Int.max_self 0).symm, (Int.max_self 0).symm⟩
  | j + 1, hj => by
    have ih := pC_f ρ ρ2 hc  j (by omega)
    have cn := pC_cnt ρ2 j (by omega)
    have hb : ∀ k r, (pC_b.it (pC_i.ap ρ2) j).ci 0 k r = ρ.ci 0 k r := fun k r => by rw [← (Bind.it_agree pC_bg _ j).ci 0 (by omega), ← (Bind.agree pC_ig ρ2).ci 0 (by omega)]; exact hc k r
    simp only [Bind.it]
    generalize pC_b.it (pC_i.ap ρ2) j = q at ih cn hb ⊢
    obtain ⟨i0, i1, i2, i3, i4, i5, i6, i7, i8⟩ := ih
    refine ⟨?_, ?_, ?_, ?_, ?_, ?_, ?_, ?_, ?_⟩
    · rw [pC_s0, cn, i0]
      simp only [hb, Int.toNat_natCast]
      simp only [mxF, dtF, decide_eq_true_eq]
      exact both_step _ _ _ _ _ (mxF_nn _ _)
    · rw [pC_s1, cn, i1]
      simp only [hb, Int.toNat_natCast]
      simp only [mxF, dtF, decide_eq_true_eq]
      exact both_step _ _ _ _ _ (mxF_nn _ _)
    · rw [pC_s2, cn, i2]
      simp only [hb, Int.toNat_natCast]
      simp only [mxF, dtF, decide_eq_true_eq]
      exact both_step _ _ _ _ _ (mxF_nn _ _)
    · rw [pC_s3, cn, i3]
      simp only [hb, Int.toNat_natCast]
      simp only [mxF, dtF, decide_eq_true_eq]
      exact both_step _ _ _ _ _ (mxF_nn _ _)
    · rw [pC_s4, cn, i4]
      simp only [hb, Int.toNat_natCast]
      simp only [mxF, dtF, decide_eq_true_eq]
      exact both_step _ _ _ _ _ (mxF_nn _ _)
    · rw [pC_s5, cn, i5]
      simp only [hb, Int.toNat_natCast]
      simp only [mxF, dtF, decide_eq_true_eq]
      exact both_step _ _ _ _ _ (mxF_nn _ _)
    · rw [pC_s6, cn, i6]
      simp only [hb, Int.toNat_natCast]
      simp only [mxF, dtF, decide_eq_true_eq]
      exact both_step _ _ _ _ _ (mxF_nn _ _)
    · rw [pC_s7, cn, i7]
      simp only [hb, Int.toNat_natCast]
      simp only [mxF, dtF, decide_eq_true_eq]
      exact both_step _ _ _ _ _ (mxF_nn _ _)
    · rw [pC_s8, cn, i8]
      simp only [hb, Int.toNat_natCast]
      simp only [mxF, dtF, decide_eq_true_eq]
      exact both_step _ _ _ _ _ (mxF_nn _ _)
theorem qA_cnt (ρ : Rho) (j : Nat) (h : j < 4611686018427387904) : (qA_b.it (qA_i.ap ρ) j).i 240 = j := it_count (e := .lit 0) rfl rfl j h
theorem qA_f (ρ ρ2 : Rho) (hc : ∀ k r, ρ2.ci 0 k r = ρ.ci 0 k r)  (hr : ρ2.i 0 = ρ.i 0) : ∀ j : Nat, j < 4611686018427387904 → (qA_b.it (qA_i.ap ρ2) j).i 241 = dtF (fun j => decide (ρ.ci 0 1 j = ρ.i 0 ∧ 0 ≤ ρ.i 0 ∧ ρ.i 0 < 3 ∧ ρ.ci 0 0 j = 0)) (fun j => ρ.ci 0 2 j) j ∧ (qA_b.it (qA_i.ap ρ2) j).i 242 = dtF (fun j => decide (ρ.ci 0 1 j = ρ.i 0 ∧ 0 ≤ ρ.i 0 ∧ ρ.i 0 < 3 ∧ ρ.ci 0 0 j = 1)) (fun j => ρ.ci 0 2 j) j ∧ (qA_b.it (qA_i.ap ρ2) j).i 243 = dtF (fun j => decide (ρ.ci 0 1 j = ρ.i 0 ∧ 0 ≤ ρ.i 0 ∧ ρ.i 0 < 3 ∧ ρ.ci 0 0 j = 2)) (fun j => ρ.ci 0 2 j) j
  | 0, _ => ⟨rfl, rfl, rfl⟩
  | j + 1, hj => by
    have ih := qA_f ρ ρ2 hc hr j (by omega)
    have cn := qA_cnt ρ2 j (by omega)
    have hb : ∀ k r, (qA_b.it (qA_i.ap ρ2) j).ci 0 k r = ρ.ci 0 k r := fun k r => by rw [← (Bind.it_agree qA_bg _ j).ci 0 (by omega), ← (Bind.agree qA_ig ρ2).ci 0 (by omega)]; exact hc k r
    have hr2 : (qA_b.it (qA_i.ap ρ2) j).i 0 = ρ.i 0 := by rw [← (Bind.it_agree qA_bg _ j).i 0 (by omega), ← (Bind.agree qA_ig ρ2).i 0 (by omega)]; exact hr
    simp only [Bind.it]
    generalize qA_b.it (qA_i.ap ρ2) j = q at ih cn hb hr2 ⊢
    obtain ⟨i0, i1, i2⟩ := ih
    refine ⟨?_, ?_, ?_⟩
    · rw [qA_s0, cn, i0, hr2]
      simp only [hb, Int.toNat_natCast]
      simp only [dtF, decide_eq_true_eq]
    · rw [qA_s1, cn, i1, hr2]
      simp only [hb, Int.toNat_natCast]
      simp only [dtF, decide_eq_true_eq]
    · rw [qA_s2, cn, i2, hr2]
      simp only [hb, Int.toNat_natCast]
      simp only [dtF, decide_eq_true_eq]
theorem qC_cnt (ρ : Rho) (j : Nat) (h : j < 4611686018427387904) : (qC_b.it (qC_i.ap ρ) j).i 280 = j := it_count (e := .lit 0) rfl rfl j h
theorem qC_f (ρ ρ2 : Rho) (hc : ∀ k r, ρ2.ci 0 k r = ρ.ci 0 k r)  (hr : ρ2.i 0 = ρ.i 0) : ∀ j : Nat, j < 4611686018427387904 → (qC_b.it (qC_i.ap ρ2) j).i 281 = dtF (fun j => decide (ρ.ci 0 1 j = ρ.i 0 ∧ 0 ≤ ρ.i 0 ∧ ρ.i 0 < 3 ∧ ρ.ci 0 0 j = 0)) (fun j => ρ.ci 0 2 j) j ∧ (qC_b.it (qC_i.ap ρ2) j).i 282 = dtF (fun j => decide (ρ.ci 0 1 j = ρ.i 0 ∧ 0 ≤ ρ.i 0 ∧ ρ.i 0 < 3 ∧ ρ.ci 0 0 j = 1)) (fun j => ρ.ci 0 2 j) j ∧ (qC_b.it (qC_i.ap ρ2) j).i 283 = dtF (fun j => decide (ρ.ci 0 1 j = ρ.i 0 ∧ 0 ≤ ρ.i 0 ∧ ρ.i 0 < 3 ∧ ρ.ci 0 0 j = 2)) (fun j => ρ.ci 0 2 j) j
  | 0, _ => ⟨rfl, rfl, rfl⟩
  | j + 1, hj => by
    have ih := qC_f ρ ρ2 hc hr j (by omega)
    have cn := qC_cnt ρ2 j (by omega)
    have hb : ∀ k r, (qC_b.it (qC_i.ap ρ2) j).ci 0 k r = ρ.ci 0 k r := fun k r => by rw [← (Bind.it_agree qC_bg _ j).ci 0 (by omega), ← (Bind.agree qC_ig ρ2).ci 0 (by omega)]; exact hc k r
    have hr2 : (qC_b.it (qC_i.ap ρ2) j).i 0 = ρ.i 0 := by rw [← (Bind.it_agree qC_bg _ j).i 0 (by omega), ← (Bind.agree qC_ig ρ2).i 0 (by omega)]; exact hr
    simp only [Bind.it]
    generalize qC_b.it (qC_i.ap ρ2) j = q at ih cn hb hr2 ⊢
    obtain ⟨i0, i1, i2⟩ := ih
    refine ⟨?_, ?_, ?_⟩
    · rw [qC_s0, cn, i0, hr2]
      simp only [hb, Int.toNat_natCast]
      simp only [dtF, decide_eq_true_eq]
    · rw [qC_s1, cn, i1, hr2]
      simp only [hb, Int.toNat_natCast]
      simp only [dtF, decide_eq_true_eq]
    · rw [qC_s2, cn, i2, hr2]
      simp only [hb, Int.toNat_natCast]
      simp only [dtF, decide_eq_true_eq]
end Go.Proofs.Ytcllappmhdfffaa
