/- VecRows: whatever the list, the law's call returns true. -/
import Derived.Test.YtcllappmhdfffaaXA12
import Derived.Test.YtcllappmhdfffaaXP
import Derived.Test.YtcllappmhdfffaaXwM2
namespace Go.Proofs.Ytcllappmhdfffaa
open Go Go.Proofs.Aw Go.Proofs.Xw
set_option linter.unusedSimpArgs false
set_option linter.unusedVariables false
set_option maxRecDepth 100000
noncomputable def nN (ρ : Rho) : Nat := (IE.den ρ nI).toNat
theorem nN_ok (ρ : Rho) (h0 : 0 < ρ.len 0) (h1 : ρ.len 0 ≤ 20000) : IE.den ρ nI = nN ρ ∧ nN ρ ≤ ρ.len 0 := by
  have e : IE.den ρ nI = (IntKind.i64.wrap ((ρ.i 0).tmod (ρ.len 0) + ρ.len 0)).tmod (ρ.len 0) := rfl
  have hp : (0 : Int) < ρ.len 0 := by omega
  have a1 : (ρ.i 0).tmod (ρ.len 0) < ρ.len 0 := Int.tmod_lt_of_pos _ hp
  have a2 : -(ρ.len 0 : Int) < (ρ.i 0).tmod (ρ.len 0) := by
    have := Int.tmod_lt_of_pos (-(ρ.i 0)) hp
    rw [Int.neg_tmod] at this; omega
  rw [wrap_id _ (by omega) (by omega)] at e
  have b1 : 0 ≤ ((ρ.i 0).tmod (ρ.len 0) + ρ.len 0).tmod (ρ.len 0) := Int.tmod_nonneg _ (by omega)
  have b2 : ((ρ.i 0).tmod (ρ.len 0) + ρ.len 0).tmod (ρ.len 0) < ρ.len 0 := Int.tmod_lt_of_pos _ hp
  unfold nN
  rw [e]
  omega
theorem sel_br2 {α : Type} {ρ : Rho} {c b : BE} {x z : T α} {n : α} (hc : c.den ρ = true) (hb : b.den ρ = false) : (T.br c (.br b x (.ret n)) z).sel ρ = some n := by
  simp only [T.sel, hc, hb, if_true, Bool.false_eq_true, if_false]
theorem sel_brE {α : Type} {ρ : Rho} {c : BE} {x : T α} {n : α} (hc : c.den ρ = false) : (T.br c x (.ret n)).sel ρ = some n := by
  simp only [T.sel, hc, Bool.false_eq_true, if_false]
theorem bad_shape {ρ : Rho} {CH S1 S2 RE Y M C : BE} (hC : C.den ρ = false) (hM : CH.den ρ = true → S1.den ρ = false → M.den ρ = false) : (BE.or (.and (.and (.not (.or (.or (.or (.not CH) S1) S2) RE)) Y) (.not (.and (.and CH (.not S1)) (.not M)))) C).den ρ = false := by
  simp only [BE.den, hC]
  cases h1 : CH.den ρ <;> cases h2 : S1.den ρ <;> simp_all
theorem notin {x : Int} (h : ¬ (0 ≤ x ∧ x < 3)) : x < 0 ∨ 2 < x := by omega
theorem three {x : Int} (h : 0 ≤ x) (k : x < 3) : x = 0 ∨ x = 1 ∨ x = 2 := by omega
def wH_bad : BE := (.or (.and (.and (.not (.or (.or (.or (.not (.and (.and (.and (.not (.lt (.cl 0 0 (.var 340)) (.lit (0 : Int)))) (.lt (.cl 0 0 (.var 340)) (.lit (3 : Int)))) (.not (.lt (.cl 0 1 (.var 340)) (.lit (0 : Int))))) (.lt (.cl 0 1 (.var 340)) (.lit (3 : Int))))) (.lt (.cl 0 2 (.var 340)) (.lit (1 : Int)))) (.lt (.lit (1099511627776 : Int)) (.cl 0 2 (.var 340)))) (.or (.or (.or (.not (.and (.and (.and (.and (.and (.not (.lt (.cl 0 3 (.var 340)) (.lit (1 : Int)))) (.not (.lt (.lit (1099511627776 : Int)) (.cl 0 3 (.var 340))))) (.not (.lt (.cl 0 4 (.var 340)) (.lit (0 : Int))))) (.lt (.cl 0 4 (.var 340)) (.lit (3 : Int)))) (.not (.lt (.cl 0 5 (.var 340)) (.lit (0 : Int))))) (.lt (.cl 0 5 (.var 340)) (.lit (3 : Int))))) (.not (.eq (.cl 0 4 (.var 340)) (.cl 0 0 (.var 340))))) (.not (.eq (.cl 0 5 (.var 340)) (.cl 0 1 (.var 340))))) (.or (.or (.or (.or (.lt (.slen (.cl 0 6 (.var 340))) (.lit (1 : Int))) (.lt (.lit (16 : Int)) (.slen (.cl 0 6 (.var 340))))) (.lt (.lit (32 : Int)) (.slen (.cl 0 7 (.var 340))))) (.and (.cl 0 8 (.var 340)) (.not (.seq (.cl 0 7 (.var 340)) (.lit ⟨#[]⟩))))) (.or (.or (.or (.or (.lt (.cl 0 9 (.var 340)) (.lit (0 : Int))) (.lt (.lit (1099511627776 : Int)) (.cl 0 9 (.var 340)))) (.or (.or (.lt (.cl 0 10 (.var 340)) (.lit (0 : Int))) (.lt (.lit (1099511627776 : Int)) (.cl 0 10 (.var 340)))) (.or (.lt (.cl 0 11 (.var 340)) (.lit (0 : Int))) (.lt (.lit (1099511627776 : Int)) (.cl 0 11 (.var 340)))))) (.or (.or (.or (.lt (.cl 0 12 (.var 340)) (.lit (0 : Int))) (.lt (.lit (1099511627776 : Int)) (.cl 0 12 (.var 340)))) (.or (.or (.lt (.cl 0 13 (.var 340)) (.lit (0 : Int))) (.lt (.lit (1099511627776 : Int)) (.cl 0 13 (.var 340)))) (.or (.lt (.cl 0 14 (.var 340)) (.lit (0 : Int))) (.lt (.lit (1099511627776 : Int)) (.cl 0 14 (.var 340)))))) (.or (.or (.lt (.cl 0 15 (.var 340)) (.lit (0 : Int))) (.lt (.lit (1099511627776 : Int)) (.cl 0 15 (.var 340)))) (.or (.or (.lt (.cl 0 16 (.var 340)) (.lit (0 : Int))) (.lt (.lit (1099511627776 : Int)) (.cl 0 16 (.var 340)))) (.or (.lt (.cl 0 17 (.var 340)) (.lit (0 : Int))) (.lt (.lit (1099511627776 : Int)) (.cl 0 17 (.var 340)))))))) (.not (.eq (.ite (.and (.eq (.cl 0 0 (.var 340)) (.lit (0 : Int))) (.eq (.cl 0 1 (.var 340)) (.lit (0 : Int)))) (.cl 0 9 (.var 340)) (.ite (.and (.eq (.cl 0 0 (.var 340)) (.lit (0 : Int))) (.eq (.cl 0 1 (.var 340)) (.lit (1 : Int)))) (.cl 0 10 (.var 340)) (.ite (.eq (.cl 0 0 (.var 340)) (.lit (0 : Int))) (.cl 0 11 (.var 340)) (.ite (.and (.eq (.cl 0 0 (.var 340)) (.lit (1 : Int))) (.eq (.cl 0 1 (.var 340)) (.lit (0 : Int)))) (.cl 0 12 (.var 340)) (.ite (.and (.eq (.cl 0 0 (.var 340)) (.lit (1 : Int))) (.eq (.cl 0 1 (.var 340)) (.lit (1 : Int)))) (.cl 0 13 (.var 340)) (.ite (.eq (.cl 0 0 (.var 340)) (.lit (1 : Int))) (.cl 0 14 (.var 340)) (.ite (.eq (.cl 0 1 (.var 340)) (.lit (0 : Int))) (.cl 0 15 (.var 340)) (.ite (.eq (.cl 0 1 (.var 340)) (.lit (1 : Int))) (.cl 0 16 (.var 340)) (.cl 0 17 (.var 340)))))))))) (.op .sub .i64 (.cl 0 2 (.var 340)) (.lit (1 : Int)))))))))) (.and (.and (.and (.not (.lt (.cl 0 18 (.var 340)) (.lit (0 : Int)))) (.lt (.cl 0 18 (.var 340)) (.lit (4 : Int)))) (.not (.lt (.cl 0 19 (.var 340)) (.lit (1 : Int))))) (.not (.lt (.lit (1099511627776 : Int)) (.cl 0 19 (.var 340)))))) (.not (.and (.and (.and (.and (.and (.not (.lt (.cl 0 0 (.var 340)) (.lit (0 : Int)))) (.lt (.cl 0 0 (.var 340)) (.lit (3 : Int)))) (.not (.lt (.cl 0 1 (.var 340)) (.lit (0 : Int))))) (.lt (.cl 0 1 (.var 340)) (.lit (3 : Int)))) (.not (.lt (.cl 0 2 (.var 340)) (.lit (1 : Int))))) (.not (.lt (.ite (.and (.eq (.cl 0 0 (.var 340)) (.lit (0 : Int))) (.eq (.cl 0 1 (.var 340)) (.lit (0 : Int)))) (.var 221) (.ite (.and (.eq (.cl 0 0 (.var 340)) (.lit (0 : Int))) (.eq (.cl 0 1 (.var 340)) (.lit (1 : Int)))) (.var 222) (.ite (.eq (.cl 0 0 (.var 340)) (.lit (0 : Int))) (.var 223) (.ite (.and (.eq (.cl 0 0 (.var 340)) (.lit (1 : Int))) (.eq (.cl 0 1 (.var 340)) (.lit (0 : Int)))) (.var 224) (.ite (.and (.eq (.cl 0 0 (.var 340)) (.lit (1 : Int))) (.eq (.cl 0 1 (.var 340)) (.lit (1 : Int)))) (.var 225) (.ite (.eq (.cl 0 0 (.var 340)) (.lit (1 : Int))) (.var 226) (.ite (.eq (.cl 0 1 (.var 340)) (.lit (0 : Int))) (.var 227) (.ite (.eq (.cl 0 1 (.var 340)) (.lit (1 : Int))) (.var 228) (.var 229))))))))) (.cl 0 2 (.var 340))))))) (.or (.or (.lt (.var 221) (.op .max .i64 (.lit (0 : Int)) (.cl 0 9 (.var 340)))) (.or (.lt (.var 222) (.op .max .i64 (.lit (0 : Int)) (.cl 0 10 (.var 340)))) (.lt (.var 223) (.op .max .i64 (.lit (0 : Int)) (.cl 0 11 (.var 340)))))) (.or (.or (.lt (.var 224) (.op .max .i64 (.lit (0 : Int)) (.cl 0 12 (.var 340)))) (.or (.lt (.var 225) (.op .max .i64 (.lit (0 : Int)) (.cl 0 13 (.var 340)))) (.lt (.var 226) (.op .max .i64 (.lit (0 : Int)) (.cl 0 14 (.var 340)))))) (.or (.lt (.var 227) (.op .max .i64 (.lit (0 : Int)) (.cl 0 15 (.var 340)))) (.or (.lt (.var 228) (.op .max .i64 (.lit (0 : Int)) (.cl 0 16 (.var 340)))) (.lt (.var 229) (.op .max .i64 (.lit (0 : Int)) (.cl 0 17 (.var 340)))))))))
theorem bad_no (p : Rho) (j : Nat) (hj : p.i 340 = j) (v0 : Max.max 0 (p.ci 0 9 j) ≤ p.i 221) (w0 : p.ci 0 0 j = 0 → p.ci 0 1 j = 0 → p.ci 0 2 j ≤ p.i 221) (v1 : Max.max 0 (p.ci 0 10 j) ≤ p.i 222) (w1 : p.ci 0 0 j = 0 → p.ci 0 1 j = 1 → p.ci 0 2 j ≤ p.i 222) (v2 : Max.max 0 (p.ci 0 11 j) ≤ p.i 223) (w2 : p.ci 0 0 j = 0 → p.ci 0 1 j = 2 → p.ci 0 2 j ≤ p.i 223) (v3 : Max.max 0 (p.ci 0 12 j) ≤ p.i 224) (w3 : p.ci 0 0 j = 1 → p.ci 0 1 j = 0 → p.ci 0 2 j ≤ p.i 224) (v4 : Max.max 0 (p.ci 0 13 j) ≤ p.i 225) (w4 : p.ci 0 0 j = 1 → p.ci 0 1 j = 1 → p.ci 0 2 j ≤ p.i 225) (v5 : Max.max 0 (p.ci 0 14 j) ≤ p.i 226) (w5 : p.ci 0 0 j = 1 → p.ci 0 1 j = 2 → p.ci 0 2 j ≤ p.i 226) (v6 : Max.max 0 (p.ci 0 15 j) ≤ p.i 227) (w6 : p.ci 0 0 j = 2 → p.ci 0 1 j = 0 → p.ci 0 2 j ≤ p.i 227) (v7 : Max.max 0 (p.ci 0 16 j) ≤ p.i 228) (w7 : p.ci 0 0 j = 2 → p.ci 0 1 j = 1 → p.ci 0 2 j ≤ p.i 228) (v8 : Max.max 0 (p.ci 0 17 j) ≤ p.i 229) (w8 : p.ci 0 0 j = 2 → p.ci 0 1 j = 2 → p.ci 0 2 j ≤ p.i 229) : wH_bad.den p = false := by
  have hx : (p.i 340).toNat = j := by rw [hj]; exact Int.toNat_natCast j
  refine bad_shape ?_ (fun hc hs => ?_)
  · simp only [dor_f, dlt_f, IE.den, IOp.den, hx]
    exact ⟨⟨v0, v1, v2⟩, ⟨v3, v4, v5⟩, v6, v7, v8⟩
  · simp only [dand_t, dnot_t, dlt_f, dlt_t, IE.den, hx] at hc
    obtain ⟨⟨⟨c1, c2⟩, c3⟩, c4⟩ := hc
    rcases three c1 c2 with h | h | h <;> rcases three c3 c4 with g | g | g
    · have := w0 h g
      simp only [dlt_f, IE.den, BE.den, hx, h, g]
      simpa using this
    · have := w1 h g
      simp only [dlt_f, IE.den, BE.den, hx, h, g]
      simpa using this
    · have := w2 h g
      simp only [dlt_f, IE.den, BE.den, hx, h, g]
      simpa using this
    · have := w3 h g
      simp only [dlt_f, IE.den, BE.den, hx, h, g]
      simpa using this
    · have := w4 h g
      simp only [dlt_f, IE.den, BE.den, hx, h, g]
      simpa using this
    · have := w5 h g
      simp only [dlt_f, IE.den, BE.den, hx, h, g]
      simpa using this
    · have := w6 h g
      simp only [dlt_f, IE.den, BE.den, hx, h, g]
      simpa using this
    · have := w7 h g
      simp only [dlt_f, IE.den, BE.den, hx, h, g]
      simpa using this
    · have := w8 h g
      simp only [dlt_f, IE.den, BE.den, hx, h, g]
      simpa using this
theorem part_step (a : Nat → Int) (M : Nat → Bool) (s : Nat → Int) (n l : Nat) (h : n ≤ l) : Max.max (mxF a l) (dtF M s l) = Max.max (Max.max 0 (Max.max (mxF a n) (dtF M s n))) (Max.max (mxF (fun j => a (n + j)) (l - n)) (dtF (fun j => M (n + j)) (fun j => s (n + j)) (l - n))) := by
  have h1 := mxF_add a n (l - n)
  have h2 := dtF_add M s n (l - n)
  have h3 := mxF_nn a n
  rw [show n + (l - n) = l from by omega] at h1 h2
  rw [h1, h2]; omega
theorem dep_step (a : Nat → Int) (M : Nat → Bool) (s : Nat → Int) (j l : Nat) (h : j < l) : Max.max 0 (a j) ≤ Max.max (mxF a l) (dtF M s l) := by
  have h1 := mxF_le a h
  have h2 := mxF_nn a l
  omega
theorem seq_step (a : Nat → Int) (M : Nat → Bool) (s : Nat → Int) (j l : Nat) (h : j < l) (hM : M j = true) : s j ≤ Max.max (mxF a l) (dtF M s l) := by
  have h1 := dtF_le M s h hM
  omega
theorem dtF_mono {M M' : Nat → Bool} (s : Nat → Int) (h : ∀ j, M j = true → M' j = true) : ∀ n, dtF M s n ≤ dtF M' s n
  | 0 => Int.le_refl _
  | n + 1 => by
    have ih := dtF_mono s h n
    simp only [dtF]
    by_cases h1 : M n = true
    · rw [if_pos h1, if_pos (h n h1)]; omega
    · rw [if_neg h1]; split <;> omega
theorem col_step (M M' : Nat → Bool) (s a : Nat → Int) (l : Nat) (h : ∀ j, M j = true → M' j = true) : dtF M s l ≤ Max.max (mxF a l) (dtF M' s l) := by
  have := dtF_mono s h l
  omega
theorem rowsNeed (p : Rho) (n : Nat) (hn : IE.den p nI = n) (h1 : n ≤ p.len 0) (h2 : p.len 0 ≤ 20000) {l : Nat} (c1 : p.i 200 = l) (c2 : p.i 220 = l) (c3 : p.i 240 = n) (c4 : p.i 260 = n) (c5 : p.i 280 = (l - n : Nat)) (c6 : p.i 300 = (l - n : Nat)) (c7 : p.i 320 = l) (c8 : p.i 340 = l) (hl : p.len 0 = l) : BE.den p (.and (.and (.not (.lt (.var 200) (.len 0))) (.not (.lt (.var 220) (.len 0)))) (.and (.and (.not (.lt (.op .rem .i64 (.op .add .i64 (.op .rem .i64 (.var 0) (.len 0)) (.len 0)) (.len 0)) (.lit (0 : Int)))) (.and (.not (.lt (.len 0) (.op .rem .i64 (.op .add .i64 (.op .rem .i64 (.var 0) (.len 0)) (.len 0)) (.len 0)))) (.and (.not (.lt (.lit (799644820200 : Int)) (.op .rem .i64 (.op .add .i64 (.op .rem .i64 (.var 0) (.len 0)) (.len 0)) (.len 0)))) (.and (.and (.not (.lt (.var 240) (.op .rem .i64 (.op .add .i64 (.op .rem .i64 (.var 0) (.len 0)) (.len 0)) (.len 0)))) (.not (.lt (.var 260) (.op .rem .i64 (.op .add .i64 (.op .rem .i64 (.var 0) (.len 0)) (.len 0)) (.len 0))))) (.and (.not (.lt (.op .psub .i64 (.len 0) (.op .rem .i64 (.op .add .i64 (.op .rem .i64 (.var 0) (.len 0)) (.len 0)) (.len 0))) (.lit (0 : Int)))) (.and (.not (.lt (.lit (799644820200 : Int)) (.op .psub .i64 (.len 0) (.op .rem .i64 (.op .add .i64 (.op .rem .i64 (.var 0) (.len 0)) (.len 0)) (.len 0))))) (.and (.not (.lt (.var 280) (.op .psub .i64 (.len 0) (.op .rem .i64 (.op .add .i64 (.op .rem .i64 (.var 0) (.len 0)) (.len 0)) (.len 0))))) (.not (.lt (.var 300) (.op .psub .i64 (.len 0) (.op .rem .i64 (.op .add .i64 (.op .rem .i64 (.var 0) (.len 0)) (.len 0)) (.len 0)))))))))))) (.or (.not (.and (.eq (.var 221) (.op .max .i64 (.op .max .i64 (.lit (0 : Int)) (.var 261)) (.var 301))) (.and (.eq (.var 222) (.op .max .i64 (.op .max .i64 (.lit (0 : Int)) (.var 262)) (.var 302))) (.and (.eq (.var 223) (.op .max .i64 (.op .max .i64 (.lit (0 : Int)) (.var 263)) (.var 303))) (.and (.eq (.var 224) (.op .max .i64 (.op .max .i64 (.lit (0 : Int)) (.var 264)) (.var 304))) (.and (.eq (.var 225) (.op .max .i64 (.op .max .i64 (.lit (0 : Int)) (.var 265)) (.var 305))) (.and (.eq (.var 226) (.op .max .i64 (.op .max .i64 (.lit (0 : Int)) (.var 266)) (.var 306))) (.and (.eq (.var 227) (.op .max .i64 (.op .max .i64 (.lit (0 : Int)) (.var 267)) (.var 307))) (.and (.eq (.var 228) (.op .max .i64 (.op .max .i64 (.lit (0 : Int)) (.var 268)) (.var 308))) (.eq (.var 229) (.op .max .i64 (.op .max .i64 (.lit (0 : Int)) (.var 269)) (.var 309)))))))))))) (.and (.or (.not (.lt (.var 340) (.len 0))) (.or (.and (.and (.not (.or (.or (.or (.not (.and (.and (.and (.not (.lt (.cl 0 0 (.var 340)) (.lit (0 : Int)))) (.lt (.cl 0 0 (.var 340)) (.lit (3 : Int)))) (.not (.lt (.cl 0 1 (.var 340)) (.lit (0 : Int))))) (.lt (.cl 0 1 (.var 340)) (.lit (3 : Int))))) (.lt (.cl 0 2 (.var 340)) (.lit (1 : Int)))) (.lt (.lit (1099511627776 : Int)) (.cl 0 2 (.var 340)))) (.or (.or (.or (.not (.and (.and (.and (.and (.and (.not (.lt (.cl 0 3 (.var 340)) (.lit (1 : Int)))) (.not (.lt (.lit (1099511627776 : Int)) (.cl 0 3 (.var 340))))) (.not (.lt (.cl 0 4 (.var 340)) (.lit (0 : Int))))) (.lt (.cl 0 4 (.var 340)) (.lit (3 : Int)))) (.not (.lt (.cl 0 5 (.var 340)) (.lit (0 : Int))))) (.lt (.cl 0 5 (.var 340)) (.lit (3 : Int))))) (.not (.eq (.cl 0 4 (.var 340)) (.cl 0 0 (.var 340))))) (.not (.eq (.cl 0 5 (.var 340)) (.cl 0 1 (.var 340))))) (.or (.or (.or (.or (.lt (.slen (.cl 0 6 (.var 340))) (.lit (1 : Int))) (.lt (.lit (16 : Int)) (.slen (.cl 0 6 (.var 340))))) (.lt (.lit (32 : Int)) (.slen (.cl 0 7 (.var 340))))) (.and (.cl 0 8 (.var 340)) (.not (.seq (.cl 0 7 (.var 340)) (.lit ⟨#[]⟩))))) (.or (.or (.or (.or (.lt (.cl 0 9 (.var 340)) (.lit (0 : Int))) (.lt (.lit (1099511627776 : Int)) (.cl 0 9 (.var 340)))) (.or (.or (.lt (.cl 0 10 (.var 340)) (.lit (0 : Int))) (.lt (.lit (1099511627776 : Int)) (.cl 0 10 (.var 340)))) (.or (.lt (.cl 0 11 (.var 340)) (.lit (0 : Int))) (.lt (.lit (1099511627776 : Int)) (.cl 0 11 (.var 340)))))) (.or (.or (.or (.lt (.cl 0 12 (.var 340)) (.lit (0 : Int))) (.lt (.lit (1099511627776 : Int)) (.cl 0 12 (.var 340)))) (.or (.or (.lt (.cl 0 13 (.var 340)) (.lit (0 : Int))) (.lt (.lit (1099511627776 : Int)) (.cl 0 13 (.var 340)))) (.or (.lt (.cl 0 14 (.var 340)) (.lit (0 : Int))) (.lt (.lit (1099511627776 : Int)) (.cl 0 14 (.var 340)))))) (.or (.or (.lt (.cl 0 15 (.var 340)) (.lit (0 : Int))) (.lt (.lit (1099511627776 : Int)) (.cl 0 15 (.var 340)))) (.or (.or (.lt (.cl 0 16 (.var 340)) (.lit (0 : Int))) (.lt (.lit (1099511627776 : Int)) (.cl 0 16 (.var 340)))) (.or (.lt (.cl 0 17 (.var 340)) (.lit (0 : Int))) (.lt (.lit (1099511627776 : Int)) (.cl 0 17 (.var 340)))))))) (.not (.eq (.ite (.and (.eq (.cl 0 0 (.var 340)) (.lit (0 : Int))) (.eq (.cl 0 1 (.var 340)) (.lit (0 : Int)))) (.cl 0 9 (.var 340)) (.ite (.and (.eq (.cl 0 0 (.var 340)) (.lit (0 : Int))) (.eq (.cl 0 1 (.var 340)) (.lit (1 : Int)))) (.cl 0 10 (.var 340)) (.ite (.eq (.cl 0 0 (.var 340)) (.lit (0 : Int))) (.cl 0 11 (.var 340)) (.ite (.and (.eq (.cl 0 0 (.var 340)) (.lit (1 : Int))) (.eq (.cl 0 1 (.var 340)) (.lit (0 : Int)))) (.cl 0 12 (.var 340)) (.ite (.and (.eq (.cl 0 0 (.var 340)) (.lit (1 : Int))) (.eq (.cl 0 1 (.var 340)) (.lit (1 : Int)))) (.cl 0 13 (.var 340)) (.ite (.eq (.cl 0 0 (.var 340)) (.lit (1 : Int))) (.cl 0 14 (.var 340)) (.ite (.eq (.cl 0 1 (.var 340)) (.lit (0 : Int))) (.cl 0 15 (.var 340)) (.ite (.eq (.cl 0 1 (.var 340)) (.lit (1 : Int))) (.cl 0 16 (.var 340)) (.cl 0 17 (.var 340)))))))))) (.op .sub .i64 (.cl 0 2 (.var 340)) (.lit (1 : Int)))))))))) (.and (.and (.and (.not (.lt (.cl 0 18 (.var 340)) (.lit (0 : Int)))) (.lt (.cl 0 18 (.var 340)) (.lit (4 : Int)))) (.not (.lt (.cl 0 19 (.var 340)) (.lit (1 : Int))))) (.not (.lt (.lit (1099511627776 : Int)) (.cl 0 19 (.var 340)))))) (.not (.and (.and (.and (.and (.and (.not (.lt (.cl 0 0 (.var 340)) (.lit (0 : Int)))) (.lt (.cl 0 0 (.var 340)) (.lit (3 : Int)))) (.not (.lt (.cl 0 1 (.var 340)) (.lit (0 : Int))))) (.lt (.cl 0 1 (.var 340)) (.lit (3 : Int)))) (.not (.lt (.cl 0 2 (.var 340)) (.lit (1 : Int))))) (.not (.lt (.ite (.and (.eq (.cl 0 0 (.var 340)) (.lit (0 : Int))) (.eq (.cl 0 1 (.var 340)) (.lit (0 : Int)))) (.var 221) (.ite (.and (.eq (.cl 0 0 (.var 340)) (.lit (0 : Int))) (.eq (.cl 0 1 (.var 340)) (.lit (1 : Int)))) (.var 222) (.ite (.eq (.cl 0 0 (.var 340)) (.lit (0 : Int))) (.var 223) (.ite (.and (.eq (.cl 0 0 (.var 340)) (.lit (1 : Int))) (.eq (.cl 0 1 (.var 340)) (.lit (0 : Int)))) (.var 224) (.ite (.and (.eq (.cl 0 0 (.var 340)) (.lit (1 : Int))) (.eq (.cl 0 1 (.var 340)) (.lit (1 : Int)))) (.var 225) (.ite (.eq (.cl 0 0 (.var 340)) (.lit (1 : Int))) (.var 226) (.ite (.eq (.cl 0 1 (.var 340)) (.lit (0 : Int))) (.var 227) (.ite (.eq (.cl 0 1 (.var 340)) (.lit (1 : Int))) (.var 228) (.var 229))))))))) (.cl 0 2 (.var 340))))))) (.or (.or (.lt (.var 221) (.op .max .i64 (.lit (0 : Int)) (.cl 0 9 (.var 340)))) (.or (.lt (.var 222) (.op .max .i64 (.lit (0 : Int)) (.cl 0 10 (.var 340)))) (.lt (.var 223) (.op .max .i64 (.lit (0 : Int)) (.cl 0 11 (.var 340)))))) (.or (.or (.lt (.var 224) (.op .max .i64 (.lit (0 : Int)) (.cl 0 12 (.var 340)))) (.or (.lt (.var 225) (.op .max .i64 (.lit (0 : Int)) (.cl 0 13 (.var 340)))) (.lt (.var 226) (.op .max .i64 (.lit (0 : Int)) (.cl 0 14 (.var 340)))))) (.or (.lt (.var 227) (.op .max .i64 (.lit (0 : Int)) (.cl 0 15 (.var 340)))) (.or (.lt (.var 228) (.op .max .i64 (.lit (0 : Int)) (.cl 0 16 (.var 340)))) (.lt (.var 229) (.op .max .i64 (.lit (0 : Int)) (.cl 0 17 (.var 340)))))))))) (.or (.lt (.var 340) (.len 0)) (.or (.or (.lt (.var 1) (.lit (0 : Int))) (.lt (.lit (2 : Int)) (.var 1))) (.not (.lt (.var 320) (.len 0))))))))) = true := by
  have hn' : IE.den p (.op .rem .i64 (.op .add .i64 (.op .rem .i64 (.var 0) (.len 0)) (.len 0)) (.len 0)) = n := hn
  generalize (IE.op .rem .i64 (.op .add .i64 (.op .rem .i64 (.var 0) (.len 0)) (.len 0)) (.len 0)) = ee at hn' ⊢
  have hs : IE.den p (.op .psub .i64 (.len 0) ee) = (l - n : Nat) := by
    show ((p.len 0 : Nat) : Int) - IE.den p ee = _
    rw [hn', hl]; omega
  generalize (IE.op .psub .i64 (.len 0) ee) = es at hs ⊢
  have q1 : BE.den p (.lt (.var 340) (.len 0)) = false := by simp only [dlt_f, IE.den, c8, hl]; omega
  have q2 : BE.den p (.lt (.var 320) (.len 0)) = false := by simp only [dlt_f, IE.den, c7, hl]; omega
  rw [dand_t]
  refine ⟨?_, ?_⟩
  · simp only [dand_t, dnot_t, dlt_f, IE.den, c1, c2, hl]; omega
  · rw [dand_t]
    refine ⟨?_, ?_⟩
    · have k1 : IE.den p (.len 0) = l := by show ((p.len 0 : Nat) : Int) = _; rw [hl]
      have k2 : IE.den p (.lit 0) = 0 := rfl
      have k3 : IE.den p (.lit 799644820200) = 799644820200 := rfl
      have d3 : IE.den p (.var 240) = n := c3
      have d4 : IE.den p (.var 260) = n := c4
      have d5 : IE.den p (.var 280) = (l - n : Nat) := c5
      have d6 : IE.den p (.var 300) = (l - n : Nat) := c6
      simp only [dand_t, dnot_t, dlt_f, hn', hs, k1, k2, k3, d3, d4, d5, d6]
      omega
    · rw [dor_t]
      right
      rw [dand_t]
      refine ⟨?_, ?_⟩
      · rw [dor_t]; left; rw [dnot_t]; exact q1
      · rw [dor_t]; right; rw [dor_t]; right; rw [dnot_t]; exact q2
theorem rowsTruth (p ρ : Rho) {l : Nat} (c8 : p.i 340 = l) (hl : p.len 0 = l) (lr : p.i 1 = ρ.i 1) (p0 : p.i 221 = Max.max (Max.max 0 (p.i 261)) (p.i 301)) (p1 : p.i 222 = Max.max (Max.max 0 (p.i 262)) (p.i 302)) (p2 : p.i 223 = Max.max (Max.max 0 (p.i 263)) (p.i 303)) (p3 : p.i 224 = Max.max (Max.max 0 (p.i 264)) (p.i 304)) (p4 : p.i 225 = Max.max (Max.max 0 (p.i 265)) (p.i 305)) (p5 : p.i 226 = Max.max (Max.max 0 (p.i 266)) (p.i 306)) (p6 : p.i 227 = Max.max (Max.max 0 (p.i 267)) (p.i 307)) (p7 : p.i 228 = Max.max (Max.max 0 (p.i 268)) (p.i 308)) (p8 : p.i 229 = Max.max (Max.max 0 (p.i 269)) (p.i 309)) (t0 : ρ.i 1 = 0 → p.i 321 ≤ p.i 221) (t1 : ρ.i 1 = 1 → p.i 321 ≤ p.i 222) (t2 : ρ.i 1 = 2 → p.i 321 ≤ p.i 223) (t3 : ρ.i 1 = 0 → p.i 322 ≤ p.i 224) (t4 : ρ.i 1 = 1 → p.i 322 ≤ p.i 225) (t5 : ρ.i 1 = 2 → p.i 322 ≤ p.i 226) (t6 : ρ.i 1 = 0 → p.i 323 ≤ p.i 227) (t7 : ρ.i 1 = 1 → p.i 323 ≤ p.i 228) (t8 : ρ.i 1 = 2 → p.i 323 ≤ p.i 229) : BE.den p (.and (.and (.eq (.var 221) (.op .max .i64 (.op .max .i64 (.lit (0 : Int)) (.var 261)) (.var 301))) (.and (.eq (.var 222) (.op .max .i64 (.op .max .i64 (.lit (0 : Int)) (.var 262)) (.var 302))) (.and (.eq (.var 223) (.op .max .i64 (.op .max .i64 (.lit (0 : Int)) (.var 263)) (.var 303))) (.and (.eq (.var 224) (.op .max .i64 (.op .max .i64 (.lit (0 : Int)) (.var 264)) (.var 304))) (.and (.eq (.var 225) (.op .max .i64 (.op .max .i64 (.lit (0 : Int)) (.var 265)) (.var 305))) (.and (.eq (.var 226) (.op .max .i64 (.op .max .i64 (.lit (0 : Int)) (.var 266)) (.var 306))) (.and (.eq (.var 227) (.op .max .i64 (.op .max .i64 (.lit (0 : Int)) (.var 267)) (.var 307))) (.and (.eq (.var 228) (.op .max .i64 (.op .max .i64 (.lit (0 : Int)) (.var 268)) (.var 308))) (.eq (.var 229) (.op .max .i64 (.op .max .i64 (.lit (0 : Int)) (.var 269)) (.var 309))))))))))) (.and (.not (.lt (.var 340) (.len 0))) (.or (.or (.lt (.var 1) (.lit (0 : Int))) (.lt (.lit (2 : Int)) (.var 1))) (.not (.or (.lt (.ite (.and (.not (.lt (.var 1) (.lit (0 : Int)))) (.lt (.var 1) (.lit (3 : Int)))) (.ite (.eq (.var 1) (.lit (0 : Int))) (.var 221) (.ite (.eq (.var 1) (.lit (1 : Int))) (.var 222) (.var 223))) (.lit (0 : Int))) (.var 321)) (.or (.lt (.ite (.and (.not (.lt (.var 1) (.lit (0 : Int)))) (.lt (.var 1) (.lit (3 : Int)))) (.ite (.eq (.var 1) (.lit (0 : Int))) (.var 224) (.ite (.eq (.var 1) (.lit (1 : Int))) (.var 225) (.var 226))) (.lit (0 : Int))) (.var 322)) (.lt (.ite (.and (.not (.lt (.var 1) (.lit (0 : Int)))) (.lt (.var 1) (.lit (3 : Int)))) (.ite (.eq (.var 1) (.lit (0 : Int))) (.var 227) (.ite (.eq (.var 1) (.lit (1 : Int))) (.var 228) (.var 229))) (.lit (0 : Int))) (.var 323)))))))) = true := by
  have k2 : IE.den p (.lit 0) = 0 := rfl
  rw [dand_t]
  refine ⟨?_, ?_⟩
  · simp only [dand_t, deq_t, IE.den, IOp.den]
    exact ⟨p0, p1, p2, p3, p4, p5, p6, p7, p8⟩
  · rw [dand_t]
    refine ⟨by simp only [dnot_t, dlt_f, IE.den, c8, hl]; exact Int.le_refl _, ?_⟩
    by_cases hr : 0 ≤ ρ.i 1 ∧ ρ.i 1 < 3
    · rw [dor_t]; right
      rcases three hr.1 hr.2 with h | h | h
      all_goals
        rw [h] at lr
        simp only [dnot_t, dor_f, dlt_f]
        simp only [IE.den, BE.den, lr]
        simp only [show ((0:Int) == 0) = true from rfl, show ((1:Int) == 0) = false from rfl, show ((1:Int) == 1) = true from rfl, show ((2:Int) == 0) = false from rfl, show ((2:Int) == 1) = false from rfl, show decide ((0:Int) < 0) = false from rfl, show decide ((0:Int) < 3) = true from rfl, show decide ((1:Int) < 0) = false from rfl, show decide ((1:Int) < 3) = true from rfl, show decide ((2:Int) < 0) = false from rfl, show decide ((2:Int) < 3) = true from rfl, Bool.not_false, Bool.and_self, if_true, Bool.false_eq_true, if_false]
      · exact ⟨t0 h, t3 h, t6 h⟩
      · exact ⟨t1 h, t4 h, t7 h⟩
      · exact ⟨t2 h, t5 h, t8 h⟩
    · rw [dor_t]; left
      simp only [dor_t, dlt_t, IE.den, lr]
      exact notin hr
theorem vrcall (ρ' : Rho) : CallOk Try.prog ρ' (callS ⟨cfgL [] (fun _ => []), l_able14, []⟩ 12) := callS_ok (cfg_ok (List.forall_mem_nil _)) l_able14_ok 12
noncomputable def vrA (ρ : Rho) : Rho := wA_b.it (wA_i.ap ρ) (ρ.len 0)
theorem vrokA (ρ : Rho) (n : Nat) (hn : n < 4611686018427387904) (he : IE.den ρ (.len 0) = n) : LoopOk Try.prog (wA_b.it (wA_i.ap ρ) n) Try.f32.ntmps wA_c wA :=
  loopOk_cntE mixed tis_ok wA_run wA_fits wA_back rfl 210 wA_bel wA_ib wA_bg wA_same (I := 200) (e := (.len 0)) rfl (by intro h; cases h) rfl rfl (by kernel_rfl) (Φ0 := []) rfl (by kernel_rfl) (Facts.ok_nil _) wA_ig vrcall (fun _ => LpsOk.nil _ _ _ _) n hn he
theorem vragA (ρ : Rho) : Agree 200 ρ (vrA ρ) := (Bind.agree wA_ig _).trans (Bind.it_agree wA_bg _ _)
noncomputable def vrB (ρ : Rho) : Rho := wB_b.it (wB_i.ap (vrA ρ)) (ρ.len 0)
theorem vrokB (ρ : Rho) (n : Nat) (hn : n < 4611686018427387904) (he : IE.den ρ (.len 0) = n) : LoopOk Try.prog (wB_b.it (wB_i.ap ρ) n) Try.f32.ntmps wB_c wB :=
  loopOk_cntE mixed tis_ok wB_run wB_fits wB_back rfl 230 wB_bel wB_ib wB_bg wB_same (I := 220) (e := (.len 0)) rfl (by intro h; cases h) rfl rfl (by kernel_rfl) (Φ0 := []) rfl (by kernel_rfl) (Facts.ok_nil _) wB_ig vrcall (fun _ => LpsOk.nil _ _ _ _) n hn he
theorem vragB (ρ : Rho) : Agree 220 (vrA ρ) (vrB ρ) := (Bind.agree wB_ig _).trans (Bind.it_agree wB_bg _ _)
noncomputable def vrC (ρ : Rho) : Rho := wC_b.it (wC_i.ap (vrB ρ)) (nN ρ)
theorem vrokC (ρ : Rho) (n : Nat) (hn : n < 4611686018427387904) (he : IE.den ρ nI = n) : LoopOk Try.prog (wC_b.it (wC_i.ap ρ) n) Try.f32.ntmps wC_c wC :=
  loopOk_cntE mixed tis_ok wC_run wC_fits wC_back rfl 250 wC_bel wC_ib wC_bg wC_same (I := 240) (e := nI) rfl (by intro h; cases h) rfl rfl (by kernel_rfl) (Φ0 := []) rfl (by kernel_rfl) (Facts.ok_nil _) wC_ig vrcall (fun _ => LpsOk.nil _ _ _ _) n hn he
theorem vragC (ρ : Rho) : Agree 240 (vrB ρ) (vrC ρ) := (Bind.agree wC_ig _).trans (Bind.it_agree wC_bg _ _)
noncomputable def vrD (ρ : Rho) : Rho := wD_b.it (wD_i.ap (vrC ρ)) (nN ρ)
theorem vrokD (ρ : Rho) (n : Nat) (hn : n < 4611686018427387904) (he : IE.den ρ nI = n) : LoopOk Try.prog (wD_b.it (wD_i.ap ρ) n) Try.f32.ntmps wD_c wD :=
  loopOk_cntE mixed tis_ok wD_run wD_fits wD_back rfl 270 wD_bel wD_ib wD_bg wD_same (I := 260) (e := nI) rfl (by intro h; cases h) rfl rfl (by kernel_rfl) (Φ0 := []) rfl (by kernel_rfl) (Facts.ok_nil _) wD_ig vrcall (fun _ => LpsOk.nil _ _ _ _) n hn he
theorem vragD (ρ : Rho) : Agree 260 (vrC ρ) (vrD ρ) := (Bind.agree wD_ig _).trans (Bind.it_agree wD_bg _ _)
noncomputable def vrE (ρ : Rho) : Rho := wE_b.it (wE_i.ap (vrD ρ)) (ρ.len 0 - nN ρ)
theorem vrokE (ρ : Rho) (n : Nat) (hn : n < 4611686018427387904) (he : IE.den ρ (.op .psub .i64 (.len 0) nI) = n) : LoopOk Try.prog (wE_b.it (wE_i.ap ρ) n) Try.f32.ntmps wE_c wE :=
  loopOk_cntE mixed tis_ok wE_run wE_fits wE_back rfl 290 wE_bel wE_ib wE_bg wE_same (I := 280) (e := (.op .psub .i64 (.len 0) nI)) rfl (by intro h; cases h) rfl rfl (by kernel_rfl) (Φ0 := []) rfl (by kernel_rfl) (Facts.ok_nil _) wE_ig vrcall (fun _ => LpsOk.nil _ _ _ _) n hn he
theorem vragE (ρ : Rho) : Agree 280 (vrD ρ) (vrE ρ) := (Bind.agree wE_ig _).trans (Bind.it_agree wE_bg _ _)
noncomputable def vrF (ρ : Rho) : Rho := wF_b.it (wF_i.ap (vrE ρ)) (ρ.len 0 - nN ρ)
theorem vrokF (ρ : Rho) (n : Nat) (hn : n < 4611686018427387904) (he : IE.den ρ (.op .psub .i64 (.len 0) nI) = n) : LoopOk Try.prog (wF_b.it (wF_i.ap ρ) n) Try.f32.ntmps wF_c wF :=
  loopOk_cntE mixed tis_ok wF_run wF_fits wF_back rfl 310 wF_bel wF_ib wF_bg wF_same (I := 300) (e := (.op .psub .i64 (.len 0) nI)) rfl (by intro h; cases h) rfl rfl (by kernel_rfl) (Φ0 := []) rfl (by kernel_rfl) (Facts.ok_nil _) wF_ig vrcall (fun _ => LpsOk.nil _ _ _ _) n hn he
theorem vragF (ρ : Rho) : Agree 300 (vrE ρ) (vrF ρ) := (Bind.agree wF_ig _).trans (Bind.it_agree wF_bg _ _)
noncomputable def vrG (ρ : Rho) : Rho := wG_b.it (wG_i.ap (vrF ρ)) (ρ.len 0)
theorem vrokG (ρ : Rho) (n : Nat) (hn : n < 4611686018427387904) (he : IE.den ρ (.len 0) = n) : LoopOk Try.prog (wG_b.it (wG_i.ap ρ) n) Try.f33.ntmps wG_c wG :=
  loopOk_cntE mixed tis_ok wG_run wG_fits wG_back rfl 324 wG_bel wG_ib wG_bg wG_same (I := 320) (e := (.len 0)) rfl (by intro h; cases h) rfl rfl (by kernel_rfl) (Φ0 := []) rfl (by kernel_rfl) (Facts.ok_nil _) wG_ig vrcall (fun _ => LpsOk.nil _ _ _ _) n hn he
theorem vragG (ρ : Rho) : Agree 320 (vrF ρ) (vrG ρ) := (Bind.agree wG_ig _).trans (Bind.it_agree wG_bg _ _)
noncomputable def vrH (ρ : Rho) : Rho := wH_b.it (wH_i.ap (vrG ρ)) (ρ.len 0)
theorem vrokH (ρ : Rho) (hn : ρ.len 0 < 4611686018427387904) (hk : Facts.ok ρ limR) (v0 : ∀ j, j < ρ.len 0 → Max.max 0 (ρ.ci 0 9 j) ≤ ρ.i 221) (w0 : ∀ j, j < ρ.len 0 → ρ.ci 0 0 j = 0 → ρ.ci 0 1 j = 0 → ρ.ci 0 2 j ≤ ρ.i 221) (v1 : ∀ j, j < ρ.len 0 → Max.max 0 (ρ.ci 0 10 j) ≤ ρ.i 222) (w1 : ∀ j, j < ρ.len 0 → ρ.ci 0 0 j = 0 → ρ.ci 0 1 j = 1 → ρ.ci 0 2 j ≤ ρ.i 222) (v2 : ∀ j, j < ρ.len 0 → Max.max 0 (ρ.ci 0 11 j) ≤ ρ.i 223) (w2 : ∀ j, j < ρ.len 0 → ρ.ci 0 0 j = 0 → ρ.ci 0 1 j = 2 → ρ.ci 0 2 j ≤ ρ.i 223) (v3 : ∀ j, j < ρ.len 0 → Max.max 0 (ρ.ci 0 12 j) ≤ ρ.i 224) (w3 : ∀ j, j < ρ.len 0 → ρ.ci 0 0 j = 1 → ρ.ci 0 1 j = 0 → ρ.ci 0 2 j ≤ ρ.i 224) (v4 : ∀ j, j < ρ.len 0 → Max.max 0 (ρ.ci 0 13 j) ≤ ρ.i 225) (w4 : ∀ j, j < ρ.len 0 → ρ.ci 0 0 j = 1 → ρ.ci 0 1 j = 1 → ρ.ci 0 2 j ≤ ρ.i 225) (v5 : ∀ j, j < ρ.len 0 → Max.max 0 (ρ.ci 0 14 j) ≤ ρ.i 226) (w5 : ∀ j, j < ρ.len 0 → ρ.ci 0 0 j = 1 → ρ.ci 0 1 j = 2 → ρ.ci 0 2 j ≤ ρ.i 226) (v6 : ∀ j, j < ρ.len 0 → Max.max 0 (ρ.ci 0 15 j) ≤ ρ.i 227) (w6 : ∀ j, j < ρ.len 0 → ρ.ci 0 0 j = 2 → ρ.ci 0 1 j = 0 → ρ.ci 0 2 j ≤ ρ.i 227) (v7 : ∀ j, j < ρ.len 0 → Max.max 0 (ρ.ci 0 16 j) ≤ ρ.i 228) (w7 : ∀ j, j < ρ.len 0 → ρ.ci 0 0 j = 2 → ρ.ci 0 1 j = 1 → ρ.ci 0 2 j ≤ ρ.i 228) (v8 : ∀ j, j < ρ.len 0 → Max.max 0 (ρ.ci 0 17 j) ≤ ρ.i 229) (w8 : ∀ j, j < ρ.len 0 → ρ.ci 0 0 j = 2 → ρ.ci 0 1 j = 2 → ρ.ci 0 2 j ≤ ρ.i 229) : LoopOk Try.prog (wH_b.it (wH_i.ap ρ) (ρ.len 0)) Try.f13.ntmps wH_c wH := by
  refine loopOk_cntG mixed tis_ok wH_run wH_fits wH_back rfl 341 wH_bel wH_ib wH_bg wH_same (I := 340) rfl rfl (Φ0 := limR) rfl (by kernel_rfl) hk wH_ig vrcall (fun _ => LpsOk.nil _ _ _ _) (ρ.len 0) hn (fun j hj hc ha => ?_) (fun hc ha => ?_)
  · have hl := ha.len 0 (show 0 < 340 by omega)
    have hcc := ha.ci 0 (show 0 < 340 by omega)
    exact ⟨_, sel_br2 (c := .lt (.var 340) (.len 0)) (b := wH_bad) (by simp only [dlt_t, IE.den, hc]; rw [← hl]; omega) (bad_no _ j hc (by rw [← hcc, ← ha.i 221 (show 221 < 340 by omega)]; exact v0 j hj) (by rw [← hcc, ← ha.i 221 (show 221 < 340 by omega)]; exact w0 j hj) (by rw [← hcc, ← ha.i 222 (show 222 < 340 by omega)]; exact v1 j hj) (by rw [← hcc, ← ha.i 222 (show 222 < 340 by omega)]; exact w1 j hj) (by rw [← hcc, ← ha.i 223 (show 223 < 340 by omega)]; exact v2 j hj) (by rw [← hcc, ← ha.i 223 (show 223 < 340 by omega)]; exact w2 j hj) (by rw [← hcc, ← ha.i 224 (show 224 < 340 by omega)]; exact v3 j hj) (by rw [← hcc, ← ha.i 224 (show 224 < 340 by omega)]; exact w3 j hj) (by rw [← hcc, ← ha.i 225 (show 225 < 340 by omega)]; exact v4 j hj) (by rw [← hcc, ← ha.i 225 (show 225 < 340 by omega)]; exact w4 j hj) (by rw [← hcc, ← ha.i 226 (show 226 < 340 by omega)]; exact v5 j hj) (by rw [← hcc, ← ha.i 226 (show 226 < 340 by omega)]; exact w5 j hj) (by rw [← hcc, ← ha.i 227 (show 227 < 340 by omega)]; exact v6 j hj) (by rw [← hcc, ← ha.i 227 (show 227 < 340 by omega)]; exact w6 j hj) (by rw [← hcc, ← ha.i 228 (show 228 < 340 by omega)]; exact v7 j hj) (by rw [← hcc, ← ha.i 228 (show 228 < 340 by omega)]; exact w7 j hj) (by rw [← hcc, ← ha.i 229 (show 229 < 340 by omega)]; exact v8 j hj) (by rw [← hcc, ← ha.i 229 (show 229 < 340 by omega)]; exact w8 j hj))⟩
  · have hl := ha.len 0 (show 0 < 340 by omega)
    exact ⟨.exit 0, _, (fun h => nomatch h), sel_brE (c := .lt (.var 340) (.len 0)) (by simp only [dlt_f, IE.den, hc]; rw [← hl]; omega)⟩
theorem vragH (ρ : Rho) : Agree 340 (vrG ρ) (vrH ρ) := (Bind.agree wH_ig _).trans (Bind.it_agree wH_bg _ _)
theorem vrzA (ρ : Rho) : Agree 100 ρ (vrA ρ) := (vragA ρ).le (by omega)
theorem vrzB (ρ : Rho) : Agree 100 ρ (vrB ρ) := (vrzA ρ).trans ((vragB ρ).le (by omega))
theorem vrzC (ρ : Rho) : Agree 100 ρ (vrC ρ) := (vrzB ρ).trans ((vragC ρ).le (by omega))
theorem vrzD (ρ : Rho) : Agree 100 ρ (vrD ρ) := (vrzC ρ).trans ((vragD ρ).le (by omega))
theorem vrzE (ρ : Rho) : Agree 100 ρ (vrE ρ) := (vrzD ρ).trans ((vragE ρ).le (by omega))
theorem vrzF (ρ : Rho) : Agree 100 ρ (vrF ρ) := (vrzE ρ).trans ((vragF ρ).le (by omega))
theorem vrzG (ρ : Rho) : Agree 100 ρ (vrG ρ) := (vrzF ρ).trans ((vragG ρ).le (by omega))
theorem vrzH (ρ : Rho) : Agree 100 ρ (vrH ρ) := (vrzG ρ).trans ((vragH ρ).le (by omega))
theorem vreG (ρ : Rho) : Agree 340 (vrG ρ) (vrH ρ) := vragH ρ
theorem vreF (ρ : Rho) : Agree 320 (vrF ρ) (vrH ρ) := (vragG ρ).trans ((vreG ρ).le (by omega))
theorem vreE (ρ : Rho) : Agree 300 (vrE ρ) (vrH ρ) := (vragF ρ).trans ((vreF ρ).le (by omega))
theorem vreD (ρ : Rho) : Agree 280 (vrD ρ) (vrH ρ) := (vragE ρ).trans ((vreE ρ).le (by omega))
theorem vreC (ρ : Rho) : Agree 260 (vrC ρ) (vrH ρ) := (vragD ρ).trans ((vreD ρ).le (by omega))
theorem vreB (ρ : Rho) : Agree 240 (vrB ρ) (vrH ρ) := (vragC ρ).trans ((vreC ρ).le (by omega))
theorem vreA (ρ : Rho) : Agree 220 (vrA ρ) (vrH ρ) := (vragB ρ).trans ((vreB ρ).le (by omega))
theorem vreH (ρ : Rho) : Agree 341 (vrH ρ) (vrH ρ) := Agree.refl _ _
set_option maxHeartbeats 1000000 in
theorem rows_lim (ρ : Rho) (hk : Facts.ok ρ limR) : CY Try.prog 0 13 (X.denL ρ [esR, iv 0, iv 1]) [] (.sc (.bool true)) [] := by
  have h0 : ρ.len 0 ≤ 20000 := by
    have : decide ((20000 : Int) < (ρ.len 0 : Nat)) = false := hk (.lt (.lit 20000) (.len 0), false) (by simp [limR])
    have := of_decide_eq_false this
    omega
  have hp : 0 < ρ.len 0 := by
    have : decide ((0 : Int) < (ρ.len 0 : Nat)) = true := hk (.lt (.lit 0) (.len 0), true) (by simp [limR])
    have := of_decide_eq_true this
    omega
  obtain ⟨hn, hnl⟩ := nN_ok ρ hp h0
  have hb0 : ρ.len 0 < 4611686018427387904 := by omega
  have hbn : nN ρ < 4611686018427387904 := by omega
  have hbm : ρ.len 0 - nN ρ < 4611686018427387904 := by omega
  have l0 : ∀ {σ : Rho}, Agree 100 ρ σ → σ.len 0 = ρ.len 0 := fun h => (h.len 0 (by decide)).symm
  have ln : ∀ {σ : Rho}, Agree 100 ρ σ → IE.den σ nI = nN ρ := fun h => by rw [← IE.bel_den h nI (by kernel_rfl)]; exact hn
  have le : ∀ {σ : Rho}, Agree 100 ρ σ → IE.den σ (.len 0) = ρ.len 0 := fun {σ} h => by show ((σ.len 0 : Nat) : Int) = _; rw [l0 h]
  have lm : ∀ {σ : Rho}, Agree 100 ρ σ → IE.den σ (.op .psub .i64 (.len 0) nI) = ((ρ.len 0 - nN ρ : Nat) : Int) := fun {σ} h => by
    show ((σ.len 0 : Nat) : Int) - IE.den σ nI = _
    rw [l0 h, ln h]; omega
  have kk : ∀ {σ : Rho}, Agree 100 ρ σ → Facts.ok σ limR := fun h => Facts.bel_ok h (by kernel_rfl) hk
  have g_wA : LoopOk Try.prog (vrH ρ) Try.f32.ntmps wA_c wA := LoopOk.agree wA_Sb (B := 210) (by kernel_rfl) wA_bel ((vreA ρ).le (by decide)) (vrokA ρ (ρ.len 0) hb0 (le (Agree.refl 100 ρ)))
  have c_wA : (vrH ρ).i 200 = (((ρ.len 0) : Nat) : Int) := by rw [← (vreA ρ).i 200 (by decide)]; exact it_count (e := .lit 0) rfl (by rfl) _ (by assumption)
  have g_wB : LoopOk Try.prog (vrH ρ) Try.f32.ntmps wB_c wB := LoopOk.agree wB_Sb (B := 230) (by kernel_rfl) wB_bel ((vreB ρ).le (by decide)) (vrokB (vrA ρ) (ρ.len 0) hb0 (le (vrzA ρ)))
  have c_wB : (vrH ρ).i 220 = (((ρ.len 0) : Nat) : Int) := by rw [← (vreB ρ).i 220 (by decide)]; exact it_count (e := .lit 0) rfl (by rfl) _ (by assumption)
  have g_wC : LoopOk Try.prog (vrH ρ) Try.f32.ntmps wC_c wC := LoopOk.agree wC_Sb (B := 250) (by kernel_rfl) wC_bel ((vreC ρ).le (by decide)) (vrokC (vrB ρ) (nN ρ) hbn (ln (vrzB ρ)))
  have c_wC : (vrH ρ).i 240 = (((nN ρ) : Nat) : Int) := by rw [← (vreC ρ).i 240 (by decide)]; exact it_count (e := .lit 0) rfl (by rfl) _ (by assumption)
  have g_wD : LoopOk Try.prog (vrH ρ) Try.f32.ntmps wD_c wD := LoopOk.agree wD_Sb (B := 270) (by kernel_rfl) wD_bel ((vreD ρ).le (by decide)) (vrokD (vrC ρ) (nN ρ) hbn (ln (vrzC ρ)))
  have c_wD : (vrH ρ).i 260 = (((nN ρ) : Nat) : Int) := by rw [← (vreD ρ).i 260 (by decide)]; exact it_count (e := .lit 0) rfl (by rfl) _ (by assumption)
  have g_wE : LoopOk Try.prog (vrH ρ) Try.f32.ntmps wE_c wE := LoopOk.agree wE_Sb (B := 290) (by kernel_rfl) wE_bel ((vreE ρ).le (by decide)) (vrokE (vrD ρ) (ρ.len 0 - nN ρ) hbm (lm (vrzD ρ)))
  have c_wE : (vrH ρ).i 280 = (((ρ.len 0 - nN ρ) : Nat) : Int) := by rw [← (vreE ρ).i 280 (by decide)]; exact it_count (e := .lit 0) rfl (by rfl) _ (by assumption)
  have g_wF : LoopOk Try.prog (vrH ρ) Try.f32.ntmps wF_c wF := LoopOk.agree wF_Sb (B := 310) (by kernel_rfl) wF_bel ((vreF ρ).le (by decide)) (vrokF (vrE ρ) (ρ.len 0 - nN ρ) hbm (lm (vrzE ρ)))
  have c_wF : (vrH ρ).i 300 = (((ρ.len 0 - nN ρ) : Nat) : Int) := by rw [← (vreF ρ).i 300 (by decide)]; exact it_count (e := .lit 0) rfl (by rfl) _ (by assumption)
  have g_wG : LoopOk Try.prog (vrH ρ) Try.f33.ntmps wG_c wG := LoopOk.agree wG_Sb (B := 324) (by kernel_rfl) wG_bel ((vreG ρ).le (by decide)) (vrokG (vrF ρ) (ρ.len 0) hb0 (le (vrzF ρ)))
  have c_wG : (vrH ρ).i 320 = (((ρ.len 0) : Nat) : Int) := by rw [← (vreG ρ).i 320 (by decide)]; exact it_count (e := .lit 0) rfl (by rfl) _ (by assumption)
  have c_wH : (vrH ρ).i 340 = (((ρ.len 0) : Nat) : Int) := by rw [← (vreH ρ).i 340 (by decide)]; exact it_count (e := .lit 0) rfl (by rfl) _ (by assumption)
  obtain ⟨a0, a1, a2, a3, a4, a5, a6, a7, a8⟩ := wA_f ρ ρ (fun _ _ => rfl) (ρ.len 0) hb0
  have a0' : (vrA ρ).i 201 = mxF (fun j => ρ.ci 0 9 j) (ρ.len 0) := a0
  have a1' : (vrA ρ).i 202 = mxF (fun j => ρ.ci 0 10 j) (ρ.len 0) := a1
  have a2' : (vrA ρ).i 203 = mxF (fun j => ρ.ci 0 11 j) (ρ.len 0) := a2
  have a3' : (vrA ρ).i 204 = mxF (fun j => ρ.ci 0 12 j) (ρ.len 0) := a3
  have a4' : (vrA ρ).i 205 = mxF (fun j => ρ.ci 0 13 j) (ρ.len 0) := a4
  have a5' : (vrA ρ).i 206 = mxF (fun j => ρ.ci 0 14 j) (ρ.len 0) := a5
  have a6' : (vrA ρ).i 207 = mxF (fun j => ρ.ci 0 15 j) (ρ.len 0) := a6
  have a7' : (vrA ρ).i 208 = mxF (fun j => ρ.ci 0 16 j) (ρ.len 0) := a7
  have a8' : (vrA ρ).i 209 = mxF (fun j => ρ.ci 0 17 j) (ρ.len 0) := a8
  obtain ⟨b0, b1, b2, b3, b4, b5, b6, b7, b8⟩ := wB_f ρ (vrA ρ) (fun k r => by rw [← (vrzA ρ).ci 0 (by decide)]) (by rw [a0']; exact mxF_nn _ _) (by rw [a1']; exact mxF_nn _ _) (by rw [a2']; exact mxF_nn _ _) (by rw [a3']; exact mxF_nn _ _) (by rw [a4']; exact mxF_nn _ _) (by rw [a5']; exact mxF_nn _ _) (by rw [a6']; exact mxF_nn _ _) (by rw [a7']; exact mxF_nn _ _) (by rw [a8']; exact mxF_nn _ _) (ρ.len 0) hb0
  obtain ⟨c0, c1, c2, c3, c4, c5, c6, c7, c8⟩ := wC_f ρ (vrB ρ) (fun k r => by rw [← (vrzB ρ).ci 0 (by decide)]) (nN ρ) hbn
  have c0' : (vrC ρ).i 241 = mxF (fun j => ρ.ci 0 9 j) (nN ρ) := c0
  have c1' : (vrC ρ).i 242 = mxF (fun j => ρ.ci 0 10 j) (nN ρ) := c1
  have c2' : (vrC ρ).i 243 = mxF (fun j => ρ.ci 0 11 j) (nN ρ) := c2
  have c3' : (vrC ρ).i 244 = mxF (fun j => ρ.ci 0 12 j) (nN ρ) := c3
  have c4' : (vrC ρ).i 245 = mxF (fun j => ρ.ci 0 13 j) (nN ρ) := c4
  have c5' : (vrC ρ).i 246 = mxF (fun j => ρ.ci 0 14 j) (nN ρ) := c5
  have c6' : (vrC ρ).i 247 = mxF (fun j => ρ.ci 0 15 j) (nN ρ) := c6
  have c7' : (vrC ρ).i 248 = mxF (fun j => ρ.ci 0 16 j) (nN ρ) := c7
  have c8' : (vrC ρ).i 249 = mxF (fun j => ρ.ci 0 17 j) (nN ρ) := c8
  obtain ⟨d0, d1, d2, d3, d4, d5, d6, d7, d8⟩ := wD_f ρ (vrC ρ) (fun k r => by rw [← (vrzC ρ).ci 0 (by decide)]) (by rw [c0']; exact mxF_nn _ _) (by rw [c1']; exact mxF_nn _ _) (by rw [c2']; exact mxF_nn _ _) (by rw [c3']; exact mxF_nn _ _) (by rw [c4']; exact mxF_nn _ _) (by rw [c5']; exact mxF_nn _ _) (by rw [c6']; exact mxF_nn _ _) (by rw [c7']; exact mxF_nn _ _) (by rw [c8']; exact mxF_nn _ _) (nN ρ) hbn
  obtain ⟨f0, f1, f2, f3, f4, f5, f6, f7, f8⟩ := wE_f ρ (vrD ρ) (nN ρ) (ln (vrzD ρ)) (fun k r => by rw [← (vrzD ρ).ci 0 (by decide)]) (ρ.len 0 - nN ρ) hbm
  have f0' : (vrE ρ).i 281 = mxF (fun j => ρ.ci 0 9 (nN ρ + j)) (ρ.len 0 - nN ρ) := f0
  have f1' : (vrE ρ).i 282 = mxF (fun j => ρ.ci 0 10 (nN ρ + j)) (ρ.len 0 - nN ρ) := f1
  have f2' : (vrE ρ).i 283 = mxF (fun j => ρ.ci 0 11 (nN ρ + j)) (ρ.len 0 - nN ρ) := f2
  have f3' : (vrE ρ).i 284 = mxF (fun j => ρ.ci 0 12 (nN ρ + j)) (ρ.len 0 - nN ρ) := f3
  have f4' : (vrE ρ).i 285 = mxF (fun j => ρ.ci 0 13 (nN ρ + j)) (ρ.len 0 - nN ρ) := f4
  have f5' : (vrE ρ).i 286 = mxF (fun j => ρ.ci 0 14 (nN ρ + j)) (ρ.len 0 - nN ρ) := f5
  have f6' : (vrE ρ).i 287 = mxF (fun j => ρ.ci 0 15 (nN ρ + j)) (ρ.len 0 - nN ρ) := f6
  have f7' : (vrE ρ).i 288 = mxF (fun j => ρ.ci 0 16 (nN ρ + j)) (ρ.len 0 - nN ρ) := f7
  have f8' : (vrE ρ).i 289 = mxF (fun j => ρ.ci 0 17 (nN ρ + j)) (ρ.len 0 - nN ρ) := f8
  obtain ⟨g0, g1, g2, g3, g4, g5, g6, g7, g8⟩ := wF_f ρ (vrE ρ) (nN ρ) (ln (vrzE ρ)) (fun k r => by rw [← (vrzE ρ).ci 0 (by decide)]) (by rw [f0']; exact mxF_nn _ _) (by rw [f1']; exact mxF_nn _ _) (by rw [f2']; exact mxF_nn _ _) (by rw [f3']; exact mxF_nn _ _) (by rw [f4']; exact mxF_nn _ _) (by rw [f5']; exact mxF_nn _ _) (by rw [f6']; exact mxF_nn _ _) (by rw [f7']; exact mxF_nn _ _) (by rw [f8']; exact mxF_nn _ _) (ρ.len 0 - nN ρ) hbm
  obtain ⟨m0, m1, m2⟩ := wG_f ρ (vrF ρ) (fun k r => by rw [← (vrzF ρ).ci 0 (by decide)]) (by rw [← (vrzF ρ).i 1 (by decide)]) (ρ.len 0) hb0
  have V0 : (vrB ρ).i 221 = Max.max (mxF (fun j => ρ.ci 0 9 j) (ρ.len 0)) (dtF (fun j => decide (ρ.ci 0 0 j = 0 ∧ ρ.ci 0 1 j = 0)) (fun j => ρ.ci 0 2 j) (ρ.len 0)) := by rw [← a0']; exact b0
  have W0 : (vrD ρ).i 261 = Max.max (mxF (fun j => ρ.ci 0 9 j) (nN ρ)) (dtF (fun j => decide (ρ.ci 0 0 j = 0 ∧ ρ.ci 0 1 j = 0)) (fun j => ρ.ci 0 2 j) (nN ρ)) := by rw [← c0']; exact d0
  have U0 : (vrF ρ).i 301 = Max.max (mxF (fun j => ρ.ci 0 9 (nN ρ + j)) (ρ.len 0 - nN ρ)) (dtF (fun j => decide (ρ.ci 0 0 (nN ρ + j) = 0 ∧ ρ.ci 0 1 (nN ρ + j) = 0)) (fun j => ρ.ci 0 2 (nN ρ + j)) (ρ.len 0 - nN ρ)) := by rw [← f0']; exact g0
  have V1 : (vrB ρ).i 222 = Max.max (mxF (fun j => ρ.ci 0 10 j) (ρ.len 0)) (dtF (fun j => decide (ρ.ci 0 0 j = 0 ∧ ρ.ci 0 1 j = 1)) (fun j => ρ.ci 0 2 j) (ρ.len 0)) := by rw [← a1']; exact b1
  have W1 : (vrD ρ).i 262 = Max.max (mxF (fun j => ρ.ci 0 10 j) (nN ρ)) (dtF (fun j => decide (ρ.ci 0 0 j = 0 ∧ ρ.ci 0 1 j = 1)) (fun j => ρ.ci 0 2 j) (nN ρ)) := by rw [← c1']; exact d1
  have U1 : (vrF ρ).i 302 = Max.max (mxF (fun j => ρ.ci 0 10 (nN ρ + j)) (ρ.len 0 - nN ρ)) (dtF (fun j => decide (ρ.ci 0 0 (nN ρ + j) = 0 ∧ ρ.ci 0 1 (nN ρ + j) = 1)) (fun j => ρ.ci 0 2 (nN ρ + j)) (ρ.len 0 - nN ρ)) := by rw [← f1']; exact g1
  have V2 : (vrB ρ).i 223 = Max.max (mxF (fun j => ρ.ci 0 11 j) (ρ.len 0)) (dtF (fun j => decide (ρ.ci 0 0 j = 0 ∧ ρ.ci 0 1 j = 2)) (fun j => ρ.ci 0 2 j) (ρ.len 0)) := by rw [← a2']; exact b2
  have W2 : (vrD ρ).i 263 = Max.max (mxF (fun j => ρ.ci 0 11 j) (nN ρ)) (dtF (fun j => decide (ρ.ci 0 0 j = 0 ∧ ρ.ci 0 1 j = 2)) (fun j => ρ.ci 0 2 j) (nN ρ)) := by rw [← c2']; exact d2
  have U2 : (vrF ρ).i 303 = Max.max (mxF (fun j => ρ.ci 0 11 (nN ρ + j)) (ρ.len 0 - nN ρ)) (dtF (fun j => decide (ρ.ci 0 0 (nN ρ + j) = 0 ∧ ρ.ci 0 1 (nN ρ + j) = 2)) (fun j => ρ.ci 0 2 (nN ρ + j)) (ρ.len 0 - nN ρ)) := by rw [← f2']; exact g2
  have V3 : (vrB ρ).i 224 = Max.max (mxF (fun j => ρ.ci 0 12 j) (ρ.len 0)) (dtF (fun j => decide (ρ.ci 0 0 j = 1 ∧ ρ.ci 0 1 j = 0)) (fun j => ρ.ci 0 2 j) (ρ.len 0)) := by rw [← a3']; exact b3
  have W3 : (vrD ρ).i 264 = Max.max (mxF (fun j => ρ.ci 0 12 j) (nN ρ)) (dtF (fun j => decide (ρ.ci 0 0 j = 1 ∧ ρ.ci 0 1 j = 0)) (fun j => ρ.ci 0 2 j) (nN ρ)) := by rw [← c3']; exact d3
  have U3 : (vrF ρ).i 304 = Max.max (mxF (fun j => ρ.ci 0 12 (nN ρ + j)) (ρ.len 0 - nN ρ)) (dtF (fun j => decide (ρ.ci 0 0 (nN ρ + j) = 1 ∧ ρ.ci 0 1 (nN ρ + j) = 0)) (fun j => ρ.ci 0 2 (nN ρ + j)) (ρ.len 0 - nN ρ)) := by rw [← f3']; exact g3
  have V4 : (vrB ρ).i 225 = Max.max (mxF (fun j => ρ.ci 0 13 j) (ρ.len 0)) (dtF (fun j => decide (ρ.ci 0 0 j = 1 ∧ ρ.ci 0 1 j = 1)) (fun j => ρ.ci 0 2 j) (ρ.len 0)) := by rw [← a4']; exact b4
  have W4 : (vrD ρ).i 265 = Max.max (mxF (fun j => ρ.ci 0 13 j) (nN ρ)) (dtF (fun j => decide (ρ.ci 0 0 j = 1 ∧ ρ.ci 0 1 j = 1)) (fun j => ρ.ci 0 2 j) (nN ρ)) := by rw [← c4']; exact d4
  have U4 : (vrF ρ).i 305 = Max.max (mxF (fun j => ρ.ci 0 13 (nN ρ + j)) (ρ.len 0 - nN ρ)) (dtF (fun j => decide (ρ.ci 0 0 (nN ρ + j) = 1 ∧ ρ.ci 0 1 (nN ρ + j) = 1)) (fun j => ρ.ci 0 2 (nN ρ + j)) (ρ.len 0 - nN ρ)) := by rw [← f4']; exact g4
  have V5 : (vrB ρ).i 226 = Max.max (mxF (fun j => ρ.ci 0 14 j) (ρ.len 0)) (dtF (fun j => decide (ρ.ci 0 0 j = 1 ∧ ρ.ci 0 1 j = 2)) (fun j => ρ.ci 0 2 j) (ρ.len 0)) := by rw [← a5']; exact b5
  have W5 : (vrD ρ).i 266 = Max.max (mxF (fun j => ρ.ci 0 14 j) (nN ρ)) (dtF (fun j => decide (ρ.ci 0 0 j = 1 ∧ ρ.ci 0 1 j = 2)) (fun j => ρ.ci 0 2 j) (nN ρ)) := by rw [← c5']; exact d5
  have U5 : (vrF ρ).i 306 = Max.max (mxF (fun j => ρ.ci 0 14 (nN ρ + j)) (ρ.len 0 - nN ρ)) (dtF (fun j => decide (ρ.ci 0 0 (nN ρ + j) = 1 ∧ ρ.ci 0 1 (nN ρ + j) = 2)) (fun j => ρ.ci 0 2 (nN ρ + j)) (ρ.len 0 - nN ρ)) := by rw [← f5']; exact g5
  have V6 : (vrB ρ).i 227 = Max.max (mxF (fun j => ρ.ci 0 15 j) (ρ.len 0)) (dtF (fun j => decide (ρ.ci 0 0 j = 2 ∧ ρ.ci 0 1 j = 0)) (fun j => ρ.ci 0 2 j) (ρ.len 0)) := by rw [← a6']; exact b6
  have W6 : (vrD ρ).i 267 = Max.max (mxF (fun j => ρ.ci 0 15 j) (nN ρ)) (dtF (fun j => decide (ρ.ci 0 0 j = 2 ∧ ρ.ci 0 1 j = 0)) (fun j => ρ.ci 0 2 j) (nN ρ)) := by rw [← c6']; exact d6
  have U6 : (vrF ρ).i 307 = Max.max (mxF (fun j => ρ.ci 0 15 (nN ρ + j)) (ρ.len 0 - nN ρ)) (dtF (fun j => decide (ρ.ci 0 0 (nN ρ + j) = 2 ∧ ρ.ci 0 1 (nN ρ + j) = 0)) (fun j => ρ.ci 0 2 (nN ρ + j)) (ρ.len 0 - nN ρ)) := by rw [← f6']; exact g6
  have V7 : (vrB ρ).i 228 = Max.max (mxF (fun j => ρ.ci 0 16 j) (ρ.len 0)) (dtF (fun j => decide (ρ.ci 0 0 j = 2 ∧ ρ.ci 0 1 j = 1)) (fun j => ρ.ci 0 2 j) (ρ.len 0)) := by rw [← a7']; exact b7
  have W7 : (vrD ρ).i 268 = Max.max (mxF (fun j => ρ.ci 0 16 j) (nN ρ)) (dtF (fun j => decide (ρ.ci 0 0 j = 2 ∧ ρ.ci 0 1 j = 1)) (fun j => ρ.ci 0 2 j) (nN ρ)) := by rw [← c7']; exact d7
  have U7 : (vrF ρ).i 308 = Max.max (mxF (fun j => ρ.ci 0 16 (nN ρ + j)) (ρ.len 0 - nN ρ)) (dtF (fun j => decide (ρ.ci 0 0 (nN ρ + j) = 2 ∧ ρ.ci 0 1 (nN ρ + j) = 1)) (fun j => ρ.ci 0 2 (nN ρ + j)) (ρ.len 0 - nN ρ)) := by rw [← f7']; exact g7
  have V8 : (vrB ρ).i 229 = Max.max (mxF (fun j => ρ.ci 0 17 j) (ρ.len 0)) (dtF (fun j => decide (ρ.ci 0 0 j = 2 ∧ ρ.ci 0 1 j = 2)) (fun j => ρ.ci 0 2 j) (ρ.len 0)) := by rw [← a8']; exact b8
  have W8 : (vrD ρ).i 269 = Max.max (mxF (fun j => ρ.ci 0 17 j) (nN ρ)) (dtF (fun j => decide (ρ.ci 0 0 j = 2 ∧ ρ.ci 0 1 j = 2)) (fun j => ρ.ci 0 2 j) (nN ρ)) := by rw [← c8']; exact d8
  have U8 : (vrF ρ).i 309 = Max.max (mxF (fun j => ρ.ci 0 17 (nN ρ + j)) (ρ.len 0 - nN ρ)) (dtF (fun j => decide (ρ.ci 0 0 (nN ρ + j) = 2 ∧ ρ.ci 0 1 (nN ρ + j) = 2)) (fun j => ρ.ci 0 2 (nN ρ + j)) (ρ.len 0 - nN ρ)) := by rw [← f8']; exact g8
  clear a0 b0 c0 d0 f0 g0 a1 b1 c1 d1 f1 g1 a2 b2 c2 d2 f2 g2 a3 b3 c3 d3 f3 g3 a4 b4 c4 d4 f4 g4 a5 b5 c5 d5 f5 g5 a6 b6 c6 d6 f6 g6 a7 b7 c7 d7 f7 g7 a8 b8 c8 d8 f8 g8
  have S0 : (vrB ρ).i 221 = Max.max (Max.max 0 ((vrD ρ).i 261)) ((vrF ρ).i 301) := by
    rw [V0, W0, U0]
    exact part_step (fun j => ρ.ci 0 9 j) (fun j => decide (ρ.ci 0 0 j = 0 ∧ ρ.ci 0 1 j = 0)) (fun j => ρ.ci 0 2 j) (nN ρ) (ρ.len 0) hnl
  have S1 : (vrB ρ).i 222 = Max.max (Max.max 0 ((vrD ρ).i 262)) ((vrF ρ).i 302) := by
    rw [V1, W1, U1]
    exact part_step (fun j => ρ.ci 0 10 j) (fun j => decide (ρ.ci 0 0 j = 0 ∧ ρ.ci 0 1 j = 1)) (fun j => ρ.ci 0 2 j) (nN ρ) (ρ.len 0) hnl
  have S2 : (vrB ρ).i 223 = Max.max (Max.max 0 ((vrD ρ).i 263)) ((vrF ρ).i 303) := by
    rw [V2, W2, U2]
    exact part_step (fun j => ρ.ci 0 11 j) (fun j => decide (ρ.ci 0 0 j = 0 ∧ ρ.ci 0 1 j = 2)) (fun j => ρ.ci 0 2 j) (nN ρ) (ρ.len 0) hnl
  have S3 : (vrB ρ).i 224 = Max.max (Max.max 0 ((vrD ρ).i 264)) ((vrF ρ).i 304) := by
    rw [V3, W3, U3]
    exact part_step (fun j => ρ.ci 0 12 j) (fun j => decide (ρ.ci 0 0 j = 1 ∧ ρ.ci 0 1 j = 0)) (fun j => ρ.ci 0 2 j) (nN ρ) (ρ.len 0) hnl
  have S4 : (vrB ρ).i 225 = Max.max (Max.max 0 ((vrD ρ).i 265)) ((vrF ρ).i 305) := by
    rw [V4, W4, U4]
    exact part_step (fun j => ρ.ci 0 13 j) (fun j => decide (ρ.ci 0 0 j = 1 ∧ ρ.ci 0 1 j = 1)) (fun j => ρ.ci 0 2 j) (nN ρ) (ρ.len 0) hnl
  have S5 : (vrB ρ).i 226 = Max.max (Max.max 0 ((vrD ρ).i 266)) ((vrF ρ).i 306) := by
    rw [V5, W5, U5]
    exact part_step (fun j => ρ.ci 0 14 j) (fun j => decide (ρ.ci 0 0 j = 1 ∧ ρ.ci 0 1 j = 2)) (fun j => ρ.ci 0 2 j) (nN ρ) (ρ.len 0) hnl
  have S6 : (vrB ρ).i 227 = Max.max (Max.max 0 ((vrD ρ).i 267)) ((vrF ρ).i 307) := by
    rw [V6, W6, U6]
    exact part_step (fun j => ρ.ci 0 15 j) (fun j => decide (ρ.ci 0 0 j = 2 ∧ ρ.ci 0 1 j = 0)) (fun j => ρ.ci 0 2 j) (nN ρ) (ρ.len 0) hnl
  have S7 : (vrB ρ).i 228 = Max.max (Max.max 0 ((vrD ρ).i 268)) ((vrF ρ).i 308) := by
    rw [V7, W7, U7]
    exact part_step (fun j => ρ.ci 0 16 j) (fun j => decide (ρ.ci 0 0 j = 2 ∧ ρ.ci 0 1 j = 1)) (fun j => ρ.ci 0 2 j) (nN ρ) (ρ.len 0) hnl
  have S8 : (vrB ρ).i 229 = Max.max (Max.max 0 ((vrD ρ).i 269)) ((vrF ρ).i 309) := by
    rw [V8, W8, U8]
    exact part_step (fun j => ρ.ci 0 17 j) (fun j => decide (ρ.ci 0 0 j = 2 ∧ ρ.ci 0 1 j = 2)) (fun j => ρ.ci 0 2 j) (nN ρ) (ρ.len 0) hnl
  have p0 : (vrH ρ).i 221 = Max.max (Max.max 0 ((vrH ρ).i 261)) ((vrH ρ).i 301) := by rw [← (vreB ρ).i 221 (by decide), ← (vreD ρ).i 261 (by decide), ← (vreF ρ).i 301 (by decide)]; exact S0
  have p1 : (vrH ρ).i 222 = Max.max (Max.max 0 ((vrH ρ).i 262)) ((vrH ρ).i 302) := by rw [← (vreB ρ).i 222 (by decide), ← (vreD ρ).i 262 (by decide), ← (vreF ρ).i 302 (by decide)]; exact S1
  have p2 : (vrH ρ).i 223 = Max.max (Max.max 0 ((vrH ρ).i 263)) ((vrH ρ).i 303) := by rw [← (vreB ρ).i 223 (by decide), ← (vreD ρ).i 263 (by decide), ← (vreF ρ).i 303 (by decide)]; exact S2
  have p3 : (vrH ρ).i 224 = Max.max (Max.max 0 ((vrH ρ).i 264)) ((vrH ρ).i 304) := by rw [← (vreB ρ).i 224 (by decide), ← (vreD ρ).i 264 (by decide), ← (vreF ρ).i 304 (by decide)]; exact S3
  have p4 : (vrH ρ).i 225 = Max.max (Max.max 0 ((vrH ρ).i 265)) ((vrH ρ).i 305) := by rw [← (vreB ρ).i 225 (by decide), ← (vreD ρ).i 265 (by decide), ← (vreF ρ).i 305 (by decide)]; exact S4
  have p5 : (vrH ρ).i 226 = Max.max (Max.max 0 ((vrH ρ).i 266)) ((vrH ρ).i 306) := by rw [← (vreB ρ).i 226 (by decide), ← (vreD ρ).i 266 (by decide), ← (vreF ρ).i 306 (by decide)]; exact S5
  have p6 : (vrH ρ).i 227 = Max.max (Max.max 0 ((vrH ρ).i 267)) ((vrH ρ).i 307) := by rw [← (vreB ρ).i 227 (by decide), ← (vreD ρ).i 267 (by decide), ← (vreF ρ).i 307 (by decide)]; exact S6
  have p7 : (vrH ρ).i 228 = Max.max (Max.max 0 ((vrH ρ).i 268)) ((vrH ρ).i 308) := by rw [← (vreB ρ).i 228 (by decide), ← (vreD ρ).i 268 (by decide), ← (vreF ρ).i 308 (by decide)]; exact S7
  have p8 : (vrH ρ).i 229 = Max.max (Max.max 0 ((vrH ρ).i 269)) ((vrH ρ).i 309) := by rw [← (vreB ρ).i 229 (by decide), ← (vreD ρ).i 269 (by decide), ← (vreF ρ).i 309 (by decide)]; exact S8
  have agBG : Agree 240 (vrB ρ) (vrG ρ) := (vragC ρ).trans (((vragD ρ).le (by decide)).trans (((vragE ρ).le (by decide)).trans (((vragF ρ).le (by decide)).trans ((vragG ρ).le (by decide)))))
  have g_wH : LoopOk Try.prog (vrH ρ) Try.f13.ntmps wH_c wH := by
    have hl := l0 (vrzG ρ)
    have := vrokH (vrG ρ) (by rw [hl]; exact hb0) (kk (vrzG ρ)) 
      (fun j hj => by rw [← agBG.i 221 (by decide), V0, ← (vrzG ρ).ci 0 (by decide)]; exact dep_step (fun j => ρ.ci 0 9 j) (fun j => decide (ρ.ci 0 0 j = 0 ∧ ρ.ci 0 1 j = 0)) (fun j => ρ.ci 0 2 j) j _ (by rw [← hl]; exact hj))
      (fun j hj h1 h2 => by rw [← agBG.i 221 (by decide), V0]; rw [← (vrzG ρ).ci 0 (by decide)] at h1 h2 ⊢; exact seq_step (fun j => ρ.ci 0 9 j) (fun j => decide (ρ.ci 0 0 j = 0 ∧ ρ.ci 0 1 j = 0)) (fun j => ρ.ci 0 2 j) j _ (by rw [← hl]; exact hj) (decide_eq_true ⟨h1, h2⟩))
      (fun j hj => by rw [← agBG.i 222 (by decide), V1, ← (vrzG ρ).ci 0 (by decide)]; exact dep_step (fun j => ρ.ci 0 10 j) (fun j => decide (ρ.ci 0 0 j = 0 ∧ ρ.ci 0 1 j = 1)) (fun j => ρ.ci 0 2 j) j _ (by rw [← hl]; exact hj))
      (fun j hj h1 h2 => by rw [← agBG.i 222 (by decide), V1]; rw [← (vrzG ρ).ci 0 (by decide)] at h1 h2 ⊢; exact seq_step (fun j => ρ.ci 0 10 j) (fun j => decide (ρ.ci 0 0 j = 0 ∧ ρ.ci 0 1 j = 1)) (fun j => ρ.ci 0 2 j) j _ (by rw [← hl]; exact hj) (decide_eq_true ⟨h1, h2⟩))
      (fun j hj => by rw [← agBG.i 223 (by decide), V2, ← (vrzG ρ).ci 0 (by decide)]; exact dep_step (fun j => ρ.ci 0 11 j) (fun j => decide (ρ.ci 0 0 j = 0 ∧ ρ.ci 0 1 j = 2)) (fun j => ρ.ci 0 2 j) j _ (by rw [← hl]; exact hj))
      (fun j hj h1 h2 => by rw [← agBG.i 223 (by decide), V2]; rw [← (vrzG ρ).ci 0 (by decide)] at h1 h2 ⊢; exact seq_step (fun j => ρ.ci 0 11 j) (fun j => decide (ρ.ci 0 0 j = 0 ∧ ρ.ci 0 1 j = 2)) (fun j => ρ.ci 0 2 j) j _ (by rw [← hl]; exact hj) (decide_eq_true ⟨h1, h2⟩))
      (fun j hj => by rw [← agBG.i 224 (by decide), V3, ← (vrzG ρ).ci 0 (by decide)]; exact dep_step (fun j => ρ.ci 0 12 j) (fun j => decide (ρ.ci 0 0 j = 1 ∧ ρ.ci 0 1 j = 0)) (fun j => ρ.ci 0 2 j) j _ (by rw [← hl]; exact hj))
      (fun j hj h1 h2 => by rw [← agBG.i 224 (by decide), V3]; rw [← (vrzG ρ).ci 0 (by decide)] at h1 h2 ⊢; exact seq_step (fun j => ρ.ci 0 12 j) (fun j => decide (ρ.ci 0 0 j = 1 ∧ ρ.ci 0 1 j = 0)) (fun j => ρ.ci 0 2 j) j _ (by rw [← hl]; exact hj) (decide_eq_true ⟨h1, h2⟩))
      (fun j hj => by rw [← agBG.i 225 (by decide), V4, ← (vrzG ρ).ci 0 (by decide)]; exact dep_step (fun j => ρ.ci 0 13 j) (fun j => decide (ρ.ci 0 0 j = 1 ∧ ρ.ci 0 1 j = 1)) (fun j => ρ.ci 0 2 j) j _ (by rw [← hl]; exact hj))
      (fun j hj h1 h2 => by rw [← agBG.i 225 (by decide), V4]; rw [← (vrzG ρ).ci 0 (by decide)] at h1 h2 ⊢; exact seq_step (fun j => ρ.ci 0 13 j) (fun j => decide (ρ.ci 0 0 j = 1 ∧ ρ.ci 0 1 j = 1)) (fun j => ρ.ci 0 2 j) j _ (by rw [← hl]; exact hj) (decide_eq_true ⟨h1, h2⟩))
      (fun j hj => by rw [← agBG.i 226 (by decide), V5, ← (vrzG ρ).ci 0 (by decide)]; exact dep_step (fun j => ρ.ci 0 14 j) (fun j => decide (ρ.ci 0 0 j = 1 ∧ ρ.ci 0 1 j = 2)) (fun j => ρ.ci 0 2 j) j _ (by rw [← hl]; exact hj))
      (fun j hj h1 h2 => by rw [← agBG.i 226 (by decide), V5]; rw [← (vrzG ρ).ci 0 (by decide)] at h1 h2 ⊢; exact seq_step (fun j => ρ.ci 0 14 j) (fun j => decide (ρ.ci 0 0 j = 1 ∧ ρ.ci 0 1 j = 2)) (fun j => ρ.ci 0 2 j) j _ (by rw [← hl]; exact hj) (decide_eq_true ⟨h1, h2⟩))
      (fun j hj => by rw [← agBG.i 227 (by decide), V6, ← (vrzG ρ).ci 0 (by decide)]; exact dep_step (fun j => ρ.ci 0 15 j) (fun j => decide (ρ.ci 0 0 j = 2 ∧ ρ.ci 0 1 j = 0)) (fun j => ρ.ci 0 2 j) j _ (by rw [← hl]; exact hj))
      (fun j hj h1 h2 => by rw [← agBG.i 227 (by decide), V6]; rw [← (vrzG ρ).ci 0 (by decide)] at h1 h2 ⊢; exact seq_step (fun j => ρ.ci 0 15 j) (fun j => decide (ρ.ci 0 0 j = 2 ∧ ρ.ci 0 1 j = 0)) (fun j => ρ.ci 0 2 j) j _ (by rw [← hl]; exact hj) (decide_eq_true ⟨h1, h2⟩))
      (fun j hj => by rw [← agBG.i 228 (by decide), V7, ← (vrzG ρ).ci 0 (by decide)]; exact dep_step (fun j => ρ.ci 0 16 j) (fun j => decide (ρ.ci 0 0 j = 2 ∧ ρ.ci 0 1 j = 1)) (fun j => ρ.ci 0 2 j) j _ (by rw [← hl]; exact hj))
      (fun j hj h1 h2 => by rw [← agBG.i 228 (by decide), V7]; rw [← (vrzG ρ).ci 0 (by decide)] at h1 h2 ⊢; exact seq_step (fun j => ρ.ci 0 16 j) (fun j => decide (ρ.ci 0 0 j = 2 ∧ ρ.ci 0 1 j = 1)) (fun j => ρ.ci 0 2 j) j _ (by rw [← hl]; exact hj) (decide_eq_true ⟨h1, h2⟩))
      (fun j hj => by rw [← agBG.i 229 (by decide), V8, ← (vrzG ρ).ci 0 (by decide)]; exact dep_step (fun j => ρ.ci 0 17 j) (fun j => decide (ρ.ci 0 0 j = 2 ∧ ρ.ci 0 1 j = 2)) (fun j => ρ.ci 0 2 j) j _ (by rw [← hl]; exact hj))
      (fun j hj h1 h2 => by rw [← agBG.i 229 (by decide), V8]; rw [← (vrzG ρ).ci 0 (by decide)] at h1 h2 ⊢; exact seq_step (fun j => ρ.ci 0 17 j) (fun j => decide (ρ.ci 0 0 j = 2 ∧ ρ.ci 0 1 j = 2)) (fun j => ρ.ci 0 2 j) j _ (by rw [← hl]; exact hj) (decide_eq_true ⟨h1, h2⟩))
    rw [hl] at this
    exact this
  have q0 : (vrH ρ).i 321 = dtF (fun j => decide (ρ.ci 0 1 j = ρ.i 1 ∧ 0 ≤ ρ.i 1 ∧ ρ.i 1 < 3 ∧ ρ.ci 0 0 j = 0)) (fun j => ρ.ci 0 2 j) (ρ.len 0) := by rw [← (vreG ρ).i 321 (by decide)]; exact m0
  have t0 : ρ.i 1 = 0 → (vrH ρ).i 321 ≤ (vrH ρ).i 221 := fun hr => by
    rw [q0, ← (vreB ρ).i 221 (by decide), V0]
    exact col_step _ (fun j => decide (ρ.ci 0 0 j = 0 ∧ ρ.ci 0 1 j = 0)) (fun j => ρ.ci 0 2 j) (fun j => ρ.ci 0 9 j) _ (fun j hj => by simp only [decide_eq_true_eq] at hj ⊢; exact ⟨hj.2.2.2, hj.1.trans hr⟩)
  have t1 : ρ.i 1 = 1 → (vrH ρ).i 321 ≤ (vrH ρ).i 222 := fun hr => by
    rw [q0, ← (vreB ρ).i 222 (by decide), V1]
    exact col_step _ (fun j => decide (ρ.ci 0 0 j = 0 ∧ ρ.ci 0 1 j = 1)) (fun j => ρ.ci 0 2 j) (fun j => ρ.ci 0 10 j) _ (fun j hj => by simp only [decide_eq_true_eq] at hj ⊢; exact ⟨hj.2.2.2, hj.1.trans hr⟩)
  have t2 : ρ.i 1 = 2 → (vrH ρ).i 321 ≤ (vrH ρ).i 223 := fun hr => by
    rw [q0, ← (vreB ρ).i 223 (by decide), V2]
    exact col_step _ (fun j => decide (ρ.ci 0 0 j = 0 ∧ ρ.ci 0 1 j = 2)) (fun j => ρ.ci 0 2 j) (fun j => ρ.ci 0 11 j) _ (fun j hj => by simp only [decide_eq_true_eq] at hj ⊢; exact ⟨hj.2.2.2, hj.1.trans hr⟩)
  have q1 : (vrH ρ).i 322 = dtF (fun j => decide (ρ.ci 0 1 j = ρ.i 1 ∧ 0 ≤ ρ.i 1 ∧ ρ.i 1 < 3 ∧ ρ.ci 0 0 j = 1)) (fun j => ρ.ci 0 2 j) (ρ.len 0) := by rw [← (vreG ρ).i 322 (by decide)]; exact m1
  have t3 : ρ.i 1 = 0 → (vrH ρ).i 322 ≤ (vrH ρ).i 224 := fun hr => by
    rw [q1, ← (vreB ρ).i 224 (by decide), V3]
    exact col_step _ (fun j => decide (ρ.ci 0 0 j = 1 ∧ ρ.ci 0 1 j = 0)) (fun j => ρ.ci 0 2 j) (fun j => ρ.ci 0 12 j) _ (fun j hj => by simp only [decide_eq_true_eq] at hj ⊢; exact ⟨hj.2.2.2, hj.1.trans hr⟩)
  have t4 : ρ.i 1 = 1 → (vrH ρ).i 322 ≤ (vrH ρ).i 225 := fun hr => by
    rw [q1, ← (vreB ρ).i 225 (by decide), V4]
    exact col_step _ (fun j => decide (ρ.ci 0 0 j = 1 ∧ ρ.ci 0 1 j = 1)) (fun j => ρ.ci 0 2 j) (fun j => ρ.ci 0 13 j) _ (fun j hj => by simp only [decide_eq_true_eq] at hj ⊢; exact ⟨hj.2.2.2, hj.1.trans hr⟩)
  have t5 : ρ.i 1 = 2 → (vrH ρ).i 322 ≤ (vrH ρ).i 226 := fun hr => by
    rw [q1, ← (vreB ρ).i 226 (by decide), V5]
    exact col_step _ (fun j => decide (ρ.ci 0 0 j = 1 ∧ ρ.ci 0 1 j = 2)) (fun j => ρ.ci 0 2 j) (fun j => ρ.ci 0 14 j) _ (fun j hj => by simp only [decide_eq_true_eq] at hj ⊢; exact ⟨hj.2.2.2, hj.1.trans hr⟩)
  have q2 : (vrH ρ).i 323 = dtF (fun j => decide (ρ.ci 0 1 j = ρ.i 1 ∧ 0 ≤ ρ.i 1 ∧ ρ.i 1 < 3 ∧ ρ.ci 0 0 j = 2)) (fun j => ρ.ci 0 2 j) (ρ.len 0) := by rw [← (vreG ρ).i 323 (by decide)]; exact m2
  have t6 : ρ.i 1 = 0 → (vrH ρ).i 323 ≤ (vrH ρ).i 227 := fun hr => by
    rw [q2, ← (vreB ρ).i 227 (by decide), V6]
    exact col_step _ (fun j => decide (ρ.ci 0 0 j = 2 ∧ ρ.ci 0 1 j = 0)) (fun j => ρ.ci 0 2 j) (fun j => ρ.ci 0 15 j) _ (fun j hj => by simp only [decide_eq_true_eq] at hj ⊢; exact ⟨hj.2.2.2, hj.1.trans hr⟩)
  have t7 : ρ.i 1 = 1 → (vrH ρ).i 323 ≤ (vrH ρ).i 228 := fun hr => by
    rw [q2, ← (vreB ρ).i 228 (by decide), V7]
    exact col_step _ (fun j => decide (ρ.ci 0 0 j = 2 ∧ ρ.ci 0 1 j = 1)) (fun j => ρ.ci 0 2 j) (fun j => ρ.ci 0 16 j) _ (fun j hj => by simp only [decide_eq_true_eq] at hj ⊢; exact ⟨hj.2.2.2, hj.1.trans hr⟩)
  have t8 : ρ.i 1 = 2 → (vrH ρ).i 323 ≤ (vrH ρ).i 229 := fun hr => by
    rw [q2, ← (vreB ρ).i 229 (by decide), V8]
    exact col_step _ (fun j => decide (ρ.ci 0 0 j = 2 ∧ ρ.ci 0 1 j = 2)) (fun j => ρ.ci 0 2 j) (fun j => ρ.ci 0 17 j) _ (fun j hj => by simp only [decide_eq_true_eq] at hj ⊢; exact ⟨hj.2.2.2, hj.1.trans hr⟩)
  have le0 := l0 (vrzH ρ)
  have lr : (vrH ρ).i 1 = ρ.i 1 := ((vrzH ρ).i 1 (by decide)).symm
  have leH := le (vrzH ρ)
  have lnH := ln (vrzH ρ)
  have lmH := lm (vrzH ρ)
  have hsel : ∃ e : BE, (askF ⟨cfgL [] lpy, l_able14, []⟩ 13 [esR, iv 0, iv 1] limR).sel (vrH ρ) = some (.sc (.b e)) ∧ e.den (vrH ρ) = true := by
    rw [rowsL_run]
    unfold rowsL
    refine sel_need_b ?_ ?_
    · refine rowsNeed (vrH ρ) (nN ρ) lnH (by rw [le0]; exact hnl) (by rw [le0]; exact h0) c_wA c_wB c_wC c_wD c_wE c_wF c_wG c_wH le0
    · refine rowsTruth (vrH ρ) ρ c_wH le0 lr p0 p1 p2 p3 p4 p5 p6 p7 p8 t0 t1 t2 t3 t4 t5 t6 t7 t8
  obtain ⟨e, hs, he⟩ := hsel
  have := (askF_ok (cfgL_ok (List.forall_mem_nil _) (lpy_ok g_wH g_wA g_wC g_wE g_wB g_wD g_wF g_wG)) l_able14_ok (kk (vrzH ρ)) hs).2 0 []
  rw [show X.den (vrH ρ) (.sc (.b e)) = .sc (.bool true) from by simp only [X.den, Sc.den, he]] at this
  rw [X.belL_den (vrzH ρ) _ (by kernel_rfl)]
  exact this
theorem ask_retR {ρ : Rho} {c : Cfg2} {f : Nat} {args : List X} {Φ : Facts} {t : T X} {e : BE} (hc : CfgOk Try.prog ρ c.c) (hs : ∀ s ∈ c.sm, SmOk Try.prog s) (hr : askF c f args Φ = t) (ht : t = .ret (.sc (.b e))) (he : e.den ρ = true) (hk : Facts.ok ρ Φ) : CY Try.prog 0 f (X.denL ρ args) [] (.sc (.bool true)) [] := by
  have h := (askF_ok hc hs hk (r := .sc (.b e)) (by rw [hr, ht]; rfl)).2 0 []
  rw [show X.den ρ (.sc (.b e)) = .sc (.bool true) from by simp only [X.den, Sc.den, he]] at h
  exact h
def rowsSh : List Sh := [.sl ke, .flat [.i .i64] false, .flat [.i .i64] false]
theorem rows_cy (ρ : Rho) : CY Try.prog 0 13 (X.denL ρ [esR, iv 0, iv 1]) [] (.sc (.bool true)) [] := by
  by_cases h0 : (20000 : Int) < ρ.len 0
  · exact ask_retR (cfg_ok (List.forall_mem_nil _)) l_able14_ok rowsB_run rfl rfl (Facts.ok_cons (decide_eq_true h0) (Facts.ok_nil _))
  · by_cases h1 : (0 : Int) < ρ.len 0
    · exact rows_lim ρ (Facts.ok_cons (decide_eq_false h0) (Facts.ok_cons (decide_eq_true h1) (Facts.ok_nil _)))
    · exact ask_retR (cfg_ok (List.forall_mem_nil _)) l_able14_ok rowsN_run rfl rfl (Facts.ok_cons (decide_eq_false h0) (Facts.ok_cons (decide_eq_false h1) (Facts.ok_nil _)))
end Go.Proofs.Ytcllappmhdfffaa
