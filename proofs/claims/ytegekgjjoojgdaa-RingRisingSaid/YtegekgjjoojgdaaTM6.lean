/- Parts of the proof, one behind the other. -/
import Derived.Test.YtegekgjjoojgdaaTM1
import Derived.Test.YtegekgjjoojgdaaTM5
import Derived.Test.YtegekgjjoojgdaaXwM3
import Derived.Test.YtegekgjjoojgdaaXwM2
import Derived.Lib.Bytealg
import Derived.Lib.Strings
import Derived.Lib.Slices
import Derived.Lib.Walk
/- What functions answer, run over letters, where something is known; each shown by running it. -/
namespace Go.Proofs.Ytegekgjjoojgdaa
open Go Go.Proofs.Aw Go.Proofs.Xw
noncomputable def lpyP (f : Nat) : List LoopX := if Nat.beq f 17 = true then [wP] else []
theorem lpyP_17o : othersB [wP] [0] 0 (loopsOf (Try.f17.body.getD .skip)) = true := by kernel_rfl
theorem lpyP_17 {ρ : Rho} (h_wP : LoopOk Try.prog ρ Try.f17.ntmps wP_c wP) : LpsOk Try.prog ρ Try.f17.ntmps [wP] (Try.f17.body.getD .skip) :=
  lps_idx [0] lpyP_17o (List.forall_mem_cons.2 ⟨look_list (c := wP_c) (Ls := [wP]) (by kernel_rfl) (List.forall_mem_cons.2 ⟨h_wP, List.forall_mem_nil _⟩), List.forall_mem_nil _⟩)
theorem lpyP_ok {ρ : Rho} (h_wP : LoopOk Try.prog ρ Try.f17.ntmps wP_c wP) : ∀ f i, btLook f ftsT = some i → LpsOk Try.prog ρ i.ntmps (lpyP f) i.body := by
  intro f i h
  have hi := fts_ok (f, i) (bt_of_mem _ _ (btLook_mem h))
  unfold lpyP
  split
  · rename_i hf
    have hf := Nat.eq_of_beq_eq_true hf
    subst hf
    exact lps_row hi Try.func17 (lpyP_17 h_wP)
  · exact LpsOk.nil _ _ _ _
noncomputable def lpyQ (f : Nat) : List LoopX := if Nat.beq f 26 = true then [wQ] else []
theorem lpyQ_26o : othersB [wQ] [0] 0 (loopsOf (Try.f26.body.getD .skip)) = true := by kernel_rfl
theorem lpyQ_26 {ρ : Rho} (h_wQ : LoopOk Try.prog ρ Try.f26.ntmps wQ_c wQ) : LpsOk Try.prog ρ Try.f26.ntmps [wQ] (Try.f26.body.getD .skip) :=
  lps_idx [0] lpyQ_26o (List.forall_mem_cons.2 ⟨look_list (c := wQ_c) (Ls := [wQ]) (by kernel_rfl) (List.forall_mem_cons.2 ⟨h_wQ, List.forall_mem_nil _⟩), List.forall_mem_nil _⟩)
theorem lpyQ_ok {ρ : Rho} (h_wQ : LoopOk Try.prog ρ Try.f26.ntmps wQ_c wQ) : ∀ f i, btLook f ftsT = some i → LpsOk Try.prog ρ i.ntmps (lpyQ f) i.body := by
  intro f i h
  have hi := fts_ok (f, i) (bt_of_mem _ _ (btLook_mem h))
  unfold lpyQ
  split
  · rename_i hf
    have hf := Nat.eq_of_beq_eq_true hf
    subst hf
    exact lps_row hi Try.func26 (lpyQ_26 h_wQ)
  · exact LpsOk.nil _ _ _ _

def pnt : T X := (.need (.not (.lt (.var 100) (.slen (.var 0)))) (.ret (.sc (.c (.ite (.and (.eq (.op .padd .i64 (.op .and .u64 (.op .xor .u64 (.op .mul .u64 (.op .xor .u64 (.var 101) (.op .shr .u64 (.var 101) (.lit (32 : Int)))) (.lit (11400714819323198485 : Int))) (.op .shr .u64 (.op .mul .u64 (.op .xor .u64 (.var 101) (.op .shr .u64 (.var 101) (.lit (32 : Int)))) (.lit (11400714819323198485 : Int))) (.lit (29 : Int)))) (.lit (1048575 : Int))) (.lit (-524288 : Int))) (.lit (0 : Int))) (.eq (.op .padd .i64 (.op .and .u64 (.op .shr .u64 (.op .xor .u64 (.op .mul .u64 (.op .xor .u64 (.var 101) (.op .shr .u64 (.var 101) (.lit (32 : Int)))) (.lit (11400714819323198485 : Int))) (.op .shr .u64 (.op .mul .u64 (.op .xor .u64 (.var 101) (.op .shr .u64 (.var 101) (.lit (32 : Int)))) (.lit (11400714819323198485 : Int))) (.lit (29 : Int)))) (.lit (20 : Int))) (.lit (1048575 : Int))) (.lit (-524288 : Int))) (.lit (0 : Int)))) (.lit (1 : Int)) (.op .padd .i64 (.op .and .u64 (.op .xor .u64 (.op .mul .u64 (.op .xor .u64 (.var 101) (.op .shr .u64 (.var 101) (.lit (32 : Int)))) (.lit (11400714819323198485 : Int))) (.op .shr .u64 (.op .mul .u64 (.op .xor .u64 (.var 101) (.op .shr .u64 (.var 101) (.lit (32 : Int)))) (.lit (11400714819323198485 : Int))) (.lit (29 : Int)))) (.lit (1048575 : Int))) (.lit (-524288 : Int)))) (.lit false) (.ite (.and (.eq (.op .padd .i64 (.op .and .u64 (.op .xor .u64 (.op .mul .u64 (.op .xor .u64 (.var 101) (.op .shr .u64 (.var 101) (.lit (32 : Int)))) (.lit (11400714819323198485 : Int))) (.op .shr .u64 (.op .mul .u64 (.op .xor .u64 (.var 101) (.op .shr .u64 (.var 101) (.lit (32 : Int)))) (.lit (11400714819323198485 : Int))) (.lit (29 : Int)))) (.lit (1048575 : Int))) (.lit (-524288 : Int))) (.lit (0 : Int))) (.eq (.op .padd .i64 (.op .and .u64 (.op .shr .u64 (.op .xor .u64 (.op .mul .u64 (.op .xor .u64 (.var 101) (.op .shr .u64 (.var 101) (.lit (32 : Int)))) (.lit (11400714819323198485 : Int))) (.op .shr .u64 (.op .mul .u64 (.op .xor .u64 (.var 101) (.op .shr .u64 (.var 101) (.lit (32 : Int)))) (.lit (11400714819323198485 : Int))) (.lit (29 : Int)))) (.lit (20 : Int))) (.lit (1048575 : Int))) (.lit (-524288 : Int))) (.lit (0 : Int)))) (.lit (0 : Int)) (.op .padd .i64 (.op .and .u64 (.op .shr .u64 (.op .xor .u64 (.op .mul .u64 (.op .xor .u64 (.var 101) (.op .shr .u64 (.var 101) (.lit (32 : Int)))) (.lit (11400714819323198485 : Int))) (.op .shr .u64 (.op .mul .u64 (.op .xor .u64 (.var 101) (.op .shr .u64 (.var 101) (.lit (32 : Int)))) (.lit (11400714819323198485 : Int))) (.lit (29 : Int)))) (.lit (20 : Int))) (.lit (1048575 : Int))) (.lit (-524288 : Int)))) (.lit false)))))
set_option maxRecDepth 100000 in
theorem pnt_run : askF ⟨cfgL [] lpyP, l_able, []⟩ 17 ([keyX]) [] = pnt := by kernel_rfl
def rpt : T X := (.need (.not (.lt (.var 140) (.slen (.var 0)))) (.ret (.tup [(.sc (.i .i64 (.ite (.and (.eq (.op .sub .i64 (.op .conv .i64 (.op .and .u64 (.op .xor .u64 (.op .mul .u64 (.op .xor .u64 (.var 141) (.op .shr .u64 (.var 141) (.lit (32 : Int)))) (.lit (11400714819323198485 : Int))) (.op .shr .u64 (.op .mul .u64 (.op .xor .u64 (.var 141) (.op .shr .u64 (.var 141) (.lit (32 : Int)))) (.lit (11400714819323198485 : Int))) (.lit (29 : Int)))) (.lit (1048575 : Int))) (.lit (0 : Int))) (.lit (524288 : Int))) (.lit (0 : Int))) (.eq (.op .sub .i64 (.op .conv .i64 (.op .and .u64 (.op .shr .u64 (.op .xor .u64 (.op .mul .u64 (.op .xor .u64 (.var 141) (.op .shr .u64 (.var 141) (.lit (32 : Int)))) (.lit (11400714819323198485 : Int))) (.op .shr .u64 (.op .mul .u64 (.op .xor .u64 (.var 141) (.op .shr .u64 (.var 141) (.lit (32 : Int)))) (.lit (11400714819323198485 : Int))) (.lit (29 : Int)))) (.lit (20 : Int))) (.lit (1048575 : Int))) (.lit (0 : Int))) (.lit (524288 : Int))) (.lit (0 : Int)))) (.lit (1 : Int)) (.op .sub .i64 (.op .conv .i64 (.op .and .u64 (.op .xor .u64 (.op .mul .u64 (.op .xor .u64 (.var 141) (.op .shr .u64 (.var 141) (.lit (32 : Int)))) (.lit (11400714819323198485 : Int))) (.op .shr .u64 (.op .mul .u64 (.op .xor .u64 (.var 141) (.op .shr .u64 (.var 141) (.lit (32 : Int)))) (.lit (11400714819323198485 : Int))) (.lit (29 : Int)))) (.lit (1048575 : Int))) (.lit (0 : Int))) (.lit (524288 : Int)))))), (.sc (.i .i64 (.op .sub .i64 (.op .conv .i64 (.op .and .u64 (.op .shr .u64 (.op .xor .u64 (.op .mul .u64 (.op .xor .u64 (.var 141) (.op .shr .u64 (.var 141) (.lit (32 : Int)))) (.lit (11400714819323198485 : Int))) (.op .shr .u64 (.op .mul .u64 (.op .xor .u64 (.var 141) (.op .shr .u64 (.var 141) (.lit (32 : Int)))) (.lit (11400714819323198485 : Int))) (.lit (29 : Int)))) (.lit (20 : Int))) (.lit (1048575 : Int))) (.lit (0 : Int))) (.lit (524288 : Int)))))])))
set_option maxRecDepth 100000 in
theorem rpt_run : askF ⟨cfgL [] lpyQ, l_able, []⟩ 26 ([keyX]) [] = rpt := by kernel_rfl
end Go.Proofs.Ytegekgjjoojgdaa

/- Ring: where a key stands: two whole numbers, the program's and the document's alike. -/
namespace Go.Proofs.Ytegekgjjoojgdaa
open Go Go.Proofs.Aw Go.Proofs.Xw
set_option maxRecDepth 100000
theorem wP_ok (ρ : Rho) (h : (ρ.s 0).size < 9223372036854775808) : LoopOk Try.prog (wP_b.it (wP_i.ap ρ) (ρ.s 0).size) Try.f17.ntmps wP_c wP :=
  loopOk_cntE mixed tis_ok wP_run wP_fits wP_back rfl 102 wP_bel wP_ib wP_bg wP_same (I := 100) (e := .slen (.var 0)) rfl (by intro h; cases h) rfl rfl (by kernel_rfl) (Φ0 := []) rfl (by kernel_rfl) (Facts.ok_nil _) wP_ig call0 (fun _ => LpsOk.nil _ _ _ _) _ h rfl
theorem wQ_ok (ρ : Rho) (h : (ρ.s 0).size < 9223372036854775808) : LoopOk Try.prog (wQ_b.it (wQ_i.ap ρ) (ρ.s 0).size) Try.f26.ntmps wQ_c wQ :=
  loopOk_cntE mixed tis_ok wQ_run wQ_fits wQ_back rfl 142 wQ_bel wQ_ib wQ_bg wQ_same (I := 140) (e := .slen (.var 0)) rfl (by intro h; cases h) rfl rfl (by kernel_rfl) (Φ0 := []) rfl (by kernel_rfl) (Facts.ok_nil _) wQ_ig call0 (fun _ => LpsOk.nil _ _ _ _) _ h rfl
/-- The program's hash and the document's, byte by byte. -/
theorem same (ρ : Rho) : ∀ j : Nat, (wP_b.it (wP_i.ap ρ) j).i 100 = (wQ_b.it (wQ_i.ap ρ) j).i 140 ∧ (wP_b.it (wP_i.ap ρ) j).i 101 = (wQ_b.it (wQ_i.ap ρ) j).i 141
  | 0 => ⟨rfl, rfl⟩
  | j + 1 => by
    obtain ⟨h1, h2⟩ := same ρ j
    have s1 : (wP_b.it (wP_i.ap ρ) j).s 0 = ρ.s 0 := (((Bind.agree wP_ig ρ).trans (Bind.it_agree wP_bg (wP_i.ap ρ) j)).s 0 (by decide)).symm
    have s2 : (wQ_b.it (wQ_i.ap ρ) j).s 0 = ρ.s 0 := (((Bind.agree wQ_ig ρ).trans (Bind.it_agree wQ_bg (wQ_i.ap ρ) j)).s 0 (by decide)).symm
    have e1 : (wP_b.it (wP_i.ap ρ) (j + 1)).i 100 = IOp.den .add .i64 ((wP_b.it (wP_i.ap ρ) j).i 100) 1 := by kernel_rfl
    have e2 : (wQ_b.it (wQ_i.ap ρ) (j + 1)).i 140 = IOp.den .add .i64 ((wQ_b.it (wQ_i.ap ρ) j).i 140) 1 := by kernel_rfl
    have e3 : (wP_b.it (wP_i.ap ρ) (j + 1)).i 101 = IOp.den .mul .u64 (IOp.den .xor .u64 ((wP_b.it (wP_i.ap ρ) j).i 101) (IOp.den .conv .u64 (((((wP_b.it (wP_i.ap ρ) j).s 0)[((wP_b.it (wP_i.ap ρ) j).i 100).toNat]?).getD 0).toNat : Int) 0)) 1099511628211 := by kernel_rfl
    have e4 : (wQ_b.it (wQ_i.ap ρ) (j + 1)).i 141 = IOp.den .mul .u64 (IOp.den .xor .u64 ((wQ_b.it (wQ_i.ap ρ) j).i 141) (IOp.den .conv .u64 (((((wQ_b.it (wQ_i.ap ρ) j).s 0)[((wQ_b.it (wQ_i.ap ρ) j).i 140).toNat]?).getD 0).toNat : Int) 0)) 1099511628211 := by kernel_rfl
    rw [e1, e2, e3, e4, s1, s2, h1, h2]
    exact ⟨rfl, rfl⟩
def mxI (h : Int) : Int := IOp.den .xor .u64 (IOp.den .mul .u64 (IOp.den .xor .u64 h (IOp.den .shr .u64 h 32)) 11400714819323198485) (IOp.den .shr .u64 (IOp.den .mul .u64 (IOp.den .xor .u64 h (IOp.den .shr .u64 h 32)) 11400714819323198485) 29)
def axI (h : Int) : Int := bits .and .u64 (mxI h) 1048575 + -524288
def ayI (h : Int) : Int := bits .and .u64 (IOp.den .shr .u64 (mxI h) 20) 1048575 + -524288
theorem axI_b (h : Int) : -524288 ≤ axI h ∧ axI h ≤ 524287 := by
  have := mask_le .u64 (.inr rfl) (mxI h) 1048575 (by decide) (by decide)
  unfold axI; omega
theorem ayI_b (h : Int) : -524288 ≤ ayI h ∧ ayI h ≤ 524287 := by
  have := mask_le .u64 (.inr rfl) (IOp.den .shr .u64 (mxI h) 20) 1048575 (by decide) (by decide)
  unfold ayI; omega
theorem sub_w (m : Int) (h : 0 ≤ m ∧ m ≤ 1048575) : IOp.den .sub .i64 (IOp.den .conv .i64 m 0) 524288 = m + -524288 := by
  simp only [IOp.den]
  rw [wrap_id m (by omega) (by omega), wrap_id _ (by omega) (by omega)]
  omega
theorem pnt_cy (ρ : Rho) (h : (ρ.s 0).size < 9223372036854775808) : ∃ x y : Int, (-524288 ≤ x ∧ x ≤ 524287) ∧ (-524288 ≤ y ∧ y ≤ 524287) ∧ ¬ (x = 0 ∧ y = 0) ∧
    (hasBody Try.prog 17 = true ∧ ∀ n h, CY Try.prog n 17 (X.denL ρ [keyX]) h (.sc (.complex .f64 (fv x false) (fv y false))) []) ∧
    (hasBody Try.prog 26 = true ∧ ∀ n h, CY Try.prog n 26 (X.denL ρ [keyX]) h (.tup [.sc (.int .i64 x), .sc (.int .i64 y)]) []) := by
  -- the letters behind the loops
  generalize e1 : wP_b.it (wP_i.ap ρ) (ρ.s 0).size = ρ1
  generalize e2 : wQ_b.it (wQ_i.ap ρ) (ρ.s 0).size = ρ2
  have l1 := wP_ok ρ h
  have l2 := wQ_ok ρ h
  have ag1 : Agree 100 ρ ρ1 := by rw [← e1]; exact (Bind.agree wP_ig ρ).trans (Bind.it_agree wP_bg (wP_i.ap ρ) _)
  have ag2 : Agree 140 ρ ρ2 := by rw [← e2]; exact (Bind.agree wQ_ig ρ).trans (Bind.it_agree wQ_bg (wQ_i.ap ρ) _)
  have c1 : ρ1.i 100 = (ρ.s 0).size := by rw [← e1]; exact it_count (e := .lit 0) rfl (by rfl) _ h
  have c2 : ρ2.i 140 = (ρ.s 0).size := by rw [← e2]; exact it_count (e := .lit 0) rfl (by rfl) _ h
  have sm : ρ1.i 101 = ρ2.i 141 := by rw [← e1, ← e2]; exact (same ρ _).2
  rw [e1] at l1
  rw [e2] at l2
  have n1 : (BE.not (.lt (.var 100) (.slen (.var 0)))).den ρ1 = true := by
    rw [dnot_t, dlt_f]
    simp only [IE.den, TE.den, c1, ← ag1.s 0 (by decide)]
    omega
  have n2 : (BE.not (.lt (.var 140) (.slen (.var 0)))).den ρ2 = true := by
    rw [dnot_t, dlt_f]
    simp only [IE.den, TE.den, c2, ← ag2.s 0 (by decide)]
    omega
  have g1 := fun r (hr : pnt.sel ρ1 = some r) => askF_ok (c := ⟨cfgL [] lpyP, l_able, []⟩) (cfgL_ok (List.forall_mem_nil _) (lpyP_ok l1)) l_able_ok (Facts.ok_nil ρ1) (by rw [pnt_run]; exact hr)
  have g2 := fun r (hr : rpt.sel ρ2 = some r) => askF_ok (c := ⟨cfgL [] lpyQ, l_able, []⟩) (cfgL_ok (List.forall_mem_nil _) (lpyQ_ok l2)) l_able_ok (Facts.ok_nil ρ2) (by rw [rpt_run]; exact hr)
  have g1 := g1 _ (by unfold pnt; rw [T.sel, if_pos n1]; rfl)
  have g2 := g2 _ (by unfold rpt; rw [T.sel, if_pos n2]; rfl)
  rw [← X.belL_den ag1 [keyX] (by kernel_rfl)] at g1
  rw [← X.belL_den ag2 [keyX] (by kernel_rfl)] at g2
  have ax := axI_b (ρ1.i 101)
  have ay := ayI_b (ρ1.i 101)
  generalize hh : ρ1.i 101 = hv at ax ay sm
  refine ⟨if axI hv = 0 ∧ ayI hv = 0 then 1 else axI hv, ayI hv, ?_, ay, ?_, ?_, ?_⟩
  · split <;> omega
  · split <;> omega
  · refine ⟨g1.1, fun n hp => ?_⟩
    have g := g1.2 n hp
    simp only [X.den, Sc.den, IE.den, BE.den, IOp.den, hh] at g
    have a1 : bits .and .u64 (mxI hv) 1048575 + -524288 = axI hv := rfl
    have a2 : bits .and .u64 (IOp.den .shr .u64 (mxI hv) 20) 1048575 + -524288 = ayI hv := rfl
    simp only [mxI, IOp.den] at a1 a2
    rw [a1, a2] at g
    have b : (axI hv == 0 && ayI hv == 0) = decide (axI hv = 0 ∧ ayI hv = 0) := by rw [Bool.eq_iff_iff]; simp
    rw [b] at g
    by_cases hc : axI hv = 0 ∧ ayI hv = 0
    · simp only [hc, and_self, decide_true, if_true] at g ⊢
      exact g
    · simp only [hc, decide_false, Bool.false_eq_true, if_false] at g ⊢
      exact g
  · refine ⟨g2.1, fun n hp => ?_⟩
    have g := g2.2 n hp
    have a1 := sub_w _ (mask_le .u64 (.inr rfl) (mxI hv) 1048575 (by decide) (by decide))
    have a2 := sub_w _ (mask_le .u64 (.inr rfl) (IOp.den .shr .u64 (mxI hv) 20) 1048575 (by decide) (by decide))
    simp only [X.den, X.denL, Sc.den, IE.den, BE.den, IOp.den, ← sm] at g
    have a3 : bits .and .u64 (mxI hv) 1048575 + -524288 = axI hv := rfl
    have a4 : bits .and .u64 (IOp.den .shr .u64 (mxI hv) 20) 1048575 + -524288 = ayI hv := rfl
    rw [a3] at a1
    rw [a4] at a2
    simp only [mxI, IOp.den] at a1 a2
    rw [a1, a2] at g
    have b : (axI hv == 0 && ayI hv == 0) = decide (axI hv = 0 ∧ ayI hv = 0) := by rw [Bool.eq_iff_iff]; simp
    rw [b] at g
    by_cases hc : axI hv = 0 ∧ ayI hv = 0
    · simp only [hc, and_self, decide_true, if_true] at g ⊢
      exact g
    · simp only [hc, decide_false, Bool.false_eq_true, if_false] at g ⊢
      exact g
end Go.Proofs.Ytegekgjjoojgdaa

/- Directions in their order around the circle, in plain Lean. -/
namespace Go.Proofs.Sr
abbrev Pt := Int × Int
def half (p : Pt) : Bool := decide (0 < p.2) || (decide (p.2 = 0) && decide (0 < p.1))
def cross (p q : Pt) : Int := p.1 * q.2 - p.2 * q.1
def neg (p : Pt) : Pt := (-p.1, -p.2)
theorem cross_neg (p q : Pt) : cross (neg p) (neg q) = cross p q := by simp [cross, neg, Int.neg_mul_neg]
theorem cross_swap (p q : Pt) : cross q p = - cross p q := by
  simp only [cross]; rw [Int.mul_comm q.1, Int.mul_comm q.2]; omega
theorem cross_three (p q r : Pt) : q.2 * cross p r = r.2 * cross p q + p.2 * cross q r := by
  simp only [cross, Int.mul_sub]
  have e1 : q.2 * (p.1 * r.2) = r.2 * (p.1 * q.2) := by ac_rfl
  have e2 : p.2 * (q.1 * r.2) = r.2 * (p.2 * q.1) := by ac_rfl
  have e3 : p.2 * (q.2 * r.1) = q.2 * (p.2 * r.1) := by ac_rfl
  omega
/-- Of the upper half. -/
def Up (p : Pt) : Prop := 0 < p.2 ∨ (p.2 = 0 ∧ 0 < p.1)
theorem half_t {p : Pt} : half p = true ↔ Up p := by simp [half, Up]
theorem half_f {p : Pt} (h : p ≠ (0, 0)) : half p = false ↔ Up (neg p) := by
  have : p.1 ≠ 0 ∨ p.2 ≠ 0 := by
    by_cases h1 : p.1 = 0
    · exact .inr fun h2 => h (Prod.ext h1 h2)
    · exact .inl h1
  simp only [half, Up, neg, Bool.or_eq_false_iff, Bool.and_eq_false_iff, decide_eq_false_iff_not]
  omega
theorem mpos {a b : Int} (ha : 0 < a) (hb : 0 < b) : 0 < a * b := Int.mul_pos ha hb
theorem mnn {a b : Int} (ha : 0 ≤ a) (hb : 0 ≤ b) : 0 ≤ a * b := Int.mul_nonneg ha hb
theorem pos_of {a b : Int} (ha : 0 < a) (h : 0 < a * b) : 0 < b := by
  rcases Int.lt_or_le 0 b with h1 | h1
  · exact h1
  · have := Int.mul_nonneg (Int.le_of_lt ha) (show 0 ≤ -b by omega)
    rw [Int.mul_neg] at this
    omega
theorem zero_of {a b : Int} (ha : 0 < a) (h : a * b = 0) : b = 0 := by
  rcases Int.mul_eq_zero.1 h with h1 | h1
  · omega
  · exact h1
theorem up_tr {p q r : Pt} (hp : Up p) (hq : Up q) (hr : Up r) (h1 : 0 ≤ cross p q) (h2 : 0 ≤ cross q r) : 0 ≤ cross p r ∧ (0 < cross p q ∨ 0 < cross q r → 0 < cross p r) ∧ (cross p q = 0 → cross q r = 0 → cross p r = 0) := by
  have e := cross_three p q r
  rcases hq with hq | ⟨hq, hq1⟩
  · -- q above the line
    have py : 0 ≤ p.2 := by rcases hp with h | h <;> omega
    have ry : 0 ≤ r.2 := by rcases hr with h | h <;> omega
    have a1 := mnn ry h1
    have a2 := mnn py h2
    have key : 0 < cross p q ∨ 0 < cross q r → 0 < q.2 * cross p r := fun h => by
      rw [e]
      rcases h with h | h
      · by_cases hr2 : 0 < r.2
        · have := mpos hr2 h; omega
        · have r0 : r.2 = 0 := by omega
          have rx : 0 < r.1 := by rcases hr with h | h <;> omega
          -- cross q r = - q.2 * r.1 < 0
          have : cross q r = -(q.2 * r.1) := by simp [cross, r0]
          have := mpos hq rx
          omega
      · by_cases hp2 : 0 < p.2
        · have := mpos hp2 h; omega
        · have p0 : p.2 = 0 := by omega
          have px : 0 < p.1 := by rcases hp with h | h <;> omega
          by_cases hr2 : 0 < r.2
          · have c1 : cross p q = p.1 * q.2 := by simp [cross, p0]
            have := mpos px hq
            have := mpos hr2 (show 0 < cross p q by omega)
            omega
          · have r0 : r.2 = 0 := by omega
            have rx : 0 < r.1 := by rcases hr with h | h <;> omega
            have : cross q r = -(q.2 * r.1) := by simp [cross, r0]
            have := mpos hq rx
            omega
    refine ⟨?_, fun h => pos_of hq (key h), fun z1 z2 => zero_of hq (by rw [e, z1, z2]; simp)⟩
    by_cases h : 0 < cross p q ∨ 0 < cross q r
    · exact Int.le_of_lt (pos_of hq (key h))
    · have z1 : cross p q = 0 := by omega
      have z2 : cross q r = 0 := by omega
      rw [zero_of (b := cross p r) hq (by rw [e, z1, z2]; simp)]
      exact Int.le_refl _
  · -- q on the line
    have c1 : cross p q = -(p.2 * q.1) := by simp [cross, hq]
    have c2 : cross q r = q.1 * r.2 := by simp [cross, hq]
    have p0 : p.2 = 0 := by
      rcases hp with h | h
      · have := mpos h hq1; omega
      · exact h.1
    have px : 0 < p.1 := by rcases hp with h | h <;> omega
    have c3 : cross p r = p.1 * r.2 := by simp [cross, p0]
    have z1 : cross p q = 0 := by rw [c1, p0]; simp
    have ry : 0 ≤ r.2 := by rcases hr with h | h <;> omega
    refine ⟨by rw [c3]; exact mnn (Int.le_of_lt px) ry, fun h => ?_, fun _ z2 => ?_⟩
    · rw [c3]
      refine mpos px ?_
      rw [c2] at h
      exact pos_of hq1 (by omega)
    · rw [c3, zero_of (b := r.2) hq1 (by rw [← c2]; exact z2)]; simp
/-- How two directions stand, going round from 1: less than 0, 0, more. -/
def cmpP (p q : Pt) : Int := if half p = half q then - cross p q else if half p = true then -1 else 1
theorem half_tr {p q r : Pt} (np : p ≠ (0, 0)) (nq : q ≠ (0, 0)) (nr : r ≠ (0, 0)) (e1 : half p = half q) (e2 : half q = half r) (h1 : 0 ≤ cross p q) (h2 : 0 ≤ cross q r) : 0 ≤ cross p r ∧ (0 < cross p q ∨ 0 < cross q r → 0 < cross p r) ∧ (cross p q = 0 → cross q r = 0 → cross p r = 0) := by
  cases hq : half q with
  | true => exact up_tr (half_t.1 (e1.trans hq)) (half_t.1 hq) (half_t.1 (e2.symm.trans hq)) h1 h2
  | false =>
    have := up_tr (p := neg p) (q := neg q) (r := neg r) ((half_f np).1 (e1.trans hq)) ((half_f nq).1 hq) ((half_f nr).1 (e2.symm.trans hq)) (by rw [cross_neg]; exact h1) (by rw [cross_neg]; exact h2)
    rw [cross_neg, cross_neg, cross_neg] at this
    exact this
/-- An order by direction, and by something else where that is the same. -/
def ltK {β : Type} (pt : β → Pt) (lt : β → β → Prop) (a b : β) : Prop := cmpP (pt a) (pt b) < 0 ∨ (cmpP (pt a) (pt b) = 0 ∧ lt a b)
theorem cmp_lt {p q : Pt} : cmpP p q < 0 ↔ (half p = true ∧ half q = false) ∨ (half p = half q ∧ 0 < cross p q) := by
  unfold cmpP
  split
  · rename_i h; rw [h]; cases half q <;> simp
  · rename_i h
    cases hp : half p <;> cases hq : half q <;> simp_all
theorem cmp_eq {p q : Pt} : cmpP p q = 0 ↔ half p = half q ∧ cross p q = 0 := by
  unfold cmpP
  split
  · rename_i h; simp [h]
  · rename_i h
    cases hp : half p <;> simp_all
theorem cmp_gt {p q : Pt} : 0 < cmpP p q ↔ cmpP q p < 0 := by
  rw [cmp_lt]
  unfold cmpP
  split
  · rename_i h; rw [h, cross_swap p q]; cases half q <;> simp
  · rename_i h
    cases hp : half p <;> cases hq : half q <;> simp_all
theorem cmp_tr {p q r : Pt} (np : p ≠ (0, 0)) (nq : q ≠ (0, 0)) (nr : r ≠ (0, 0)) (h1 : cmpP p q ≤ 0) (h2 : cmpP q r ≤ 0) : cmpP p r ≤ 0 ∧ (cmpP p q < 0 ∨ cmpP q r < 0 → cmpP p r < 0) ∧ (cmpP p q = 0 → cmpP q r = 0 → cmpP p r = 0) := by
  have c1 : cmpP p q < 0 ∨ cmpP p q = 0 := by omega
  have c2 : cmpP q r < 0 ∨ cmpP q r = 0 := by omega
  have key : (cmpP p q < 0 ∨ cmpP q r < 0 → cmpP p r < 0) ∧ (cmpP p q = 0 → cmpP q r = 0 → cmpP p r = 0) := by
    rw [cmp_lt, cmp_eq] at c1
    rw [cmp_lt, cmp_eq] at c2
    rw [cmp_lt, cmp_lt, cmp_lt, cmp_eq, cmp_eq, cmp_eq]
    by_cases e1 : half p = half q
    · by_cases e2 : half q = half r
      · have a1 : 0 ≤ cross p q := by rcases c1 with (h | h) | h <;> first | omega | (exfalso; simp_all)
        have a2 : 0 ≤ cross q r := by rcases c2 with (h | h) | h <;> first | omega | (exfalso; simp_all)
        obtain ⟨_, g2, g3⟩ := half_tr np nq nr e1 e2 a1 a2
        refine ⟨fun h => .inr ⟨e1.trans e2, g2 ?_⟩, fun x y => ⟨e1.trans e2, g3 x.2 y.2⟩⟩
        rcases h with (h | h) | (h | h)
        · exfalso; simp_all
        · exact .inl h.2
        · exfalso; simp_all
        · exact .inr h.2
      · have q1 : half q = true ∧ half r = false := by rcases c2 with (h | h) | h <;> first | exact h | exact absurd h.1 e2
        exact ⟨fun _ => .inl ⟨e1.trans q1.1, q1.2⟩, fun _ y => absurd y.1 e2⟩
    · have q1 : half p = true ∧ half q = false := by rcases c1 with (h | h) | h <;> first | exact h | exact absurd h.1 e1
      have q2 : half r = false := by
        rcases c2 with (h | h) | h
        · rw [q1.2] at h; exact absurd h.1 (by simp)
        · rw [← h.1]; exact q1.2
        · rw [← h.1]; exact q1.2
      exact ⟨fun _ => .inl ⟨q1.1, q2⟩, fun x _ => absurd x.1 e1⟩
  refine ⟨?_, key⟩
  rcases c1 with h | h
  · exact Int.le_of_lt (key.1 (.inl h))
  · rcases c2 with h' | h'
    · exact Int.le_of_lt (key.1 (.inr h'))
    · exact Int.le_of_eq (key.2 h h')
theorem ltK_ord {β : Type} {pt : β → Pt} {lt : β → β → Prop} (o : Ord lt) (hn : ∀ b, pt b ≠ (0, 0)) : Ord (ltK pt lt) := by
  have self : ∀ p : Pt, cmpP p p = 0 := fun p => cmp_eq.2 ⟨rfl, by simp only [cross]; rw [Int.mul_comm]; omega⟩
  refine ⟨fun a h => ?_, fun a b c h1 h2 => ?_, fun a b => ?_⟩
  · rcases h with h | h
    · rw [self] at h; omega
    · exact o.irr _ h.2
  · have le1 : cmpP (pt a) (pt b) ≤ 0 := by rcases h1 with h | h <;> omega
    have le2 : cmpP (pt b) (pt c) ≤ 0 := by rcases h2 with h | h <;> omega
    obtain ⟨_, g2, g3⟩ := cmp_tr (hn a) (hn b) (hn c) le1 le2
    rcases h1 with h1 | h1
    · exact .inl (g2 (.inl h1))
    · rcases h2 with h2 | h2
      · exact .inl (g2 (.inr h2))
      · exact .inr ⟨g3 h1.1 h2.1, o.tr _ _ _ h1.2 h2.2⟩
  · rcases Int.lt_trichotomy (cmpP (pt a) (pt b)) 0 with h | h | h
    · exact .inl (.inl h)
    · have h' : cmpP (pt b) (pt a) = 0 := by
        obtain ⟨h1, h2⟩ := cmp_eq.1 h
        exact cmp_eq.2 ⟨h1.symm, by rw [cross_swap]; omega⟩
      rcases o.tot a b with k | k | k
      · exact .inl (.inr ⟨h, k⟩)
      · exact .inr (.inl k)
      · exact .inr (.inr (.inr ⟨h', k⟩))
    · exact .inr (.inr (.inl (cmp_gt.1 h)))
end Go.Proofs.Sr

/- Strings in their order, byte by byte, in plain Lean. -/
namespace Go.Proofs.Sr
open Go Go.Lib
theorem cmpB_self : ∀ a : List UInt8, compareBytes a a = 0
  | [] => rfl
  | a :: zs => by
    have : ¬ a < a := by simp
    simp only [compareBytes, if_neg this]; exact cmpB_self zs
theorem cmpB_zero : ∀ a b : List UInt8, compareBytes a b = 0 → a = b
  | [], [], _ => rfl
  | [], _ :: _, h => by simp [compareBytes] at h
  | _ :: _, [], h => by simp [compareBytes] at h
  | a :: zs, b :: bs, h => by
    simp only [compareBytes] at h
    by_cases h1 : a < b
    · rw [if_pos h1] at h; omega
    · rw [if_neg h1] at h
      by_cases h2 : b < a
      · rw [if_pos h2] at h; omega
      · rw [if_neg h2] at h
        have : a = b := by
          have h1 : ¬ a.toNat < b.toNat := fun q => h1 (UInt8.lt_iff_toNat_lt.2 q)
          have h2 : ¬ b.toNat < a.toNat := fun q => h2 (UInt8.lt_iff_toNat_lt.2 q)
          exact UInt8.toNat_inj.1 (by omega)
        rw [this, cmpB_zero zs bs h]
theorem cmpB_swap : ∀ a b : List UInt8, compareBytes b a = - compareBytes a b
  | [], [] => rfl
  | [], _ :: _ => rfl
  | _ :: _, [] => rfl
  | a :: zs, b :: bs => by
    simp only [compareBytes]
    by_cases h1 : a < b
    · have h2 : ¬ b < a := fun q => by rw [UInt8.lt_iff_toNat_lt] at h1 q; omega
      rw [if_neg h2, if_pos h1, if_pos h1]; decide
    · by_cases h2 : b < a
      · rw [if_pos h2, if_neg h1, if_pos h2]
      · rw [if_neg h2, if_neg h1, if_neg h1, if_neg h2]; exact cmpB_swap zs bs
theorem cmpB_tr : ∀ a b c : List UInt8, compareBytes a b < 0 → compareBytes b c < 0 → compareBytes a c < 0
  | [], [], c, h, _ => by simp [compareBytes] at h
  | [], _ :: _, [], _, h => by simp [compareBytes] at h
  | [], _ :: _, _ :: _, _, _ => by simp [compareBytes]
  | _ :: _, [], _, h, _ => by simp [compareBytes] at h
  | _ :: _, _ :: _, [], _, h => by simp [compareBytes] at h
  | a :: zs, b :: bs, c :: cs, h1, h2 => by
    simp only [compareBytes] at h1 h2 ⊢
    simp only [UInt8.lt_iff_toNat_lt] at h1 h2 ⊢
    by_cases p : a.toNat < b.toNat
    · by_cases q : b.toNat < c.toNat
      · rw [if_pos (by omega)]; decide
      · rw [if_neg q] at h2
        by_cases q2 : c.toNat < b.toNat
        · rw [if_pos q2] at h2; omega
        · rw [if_pos (by omega)]; decide
    · rw [if_neg p] at h1
      by_cases p2 : b.toNat < a.toNat
      · rw [if_pos p2] at h1; omega
      · rw [if_neg p2] at h1
        by_cases q : b.toNat < c.toNat
        · rw [if_pos (by omega)]; decide
        · rw [if_neg q] at h2
          by_cases q2 : c.toNat < b.toNat
          · rw [if_pos q2] at h2; omega
          · rw [if_neg q2] at h2
            rw [if_neg (by omega), if_neg (by omega)]
            exact cmpB_tr zs bs cs h1 h2
/-- One string stands ahead of another one. -/
def ltB (a b : ByteArray) : Prop := compareBytes a.data.toList b.data.toList < 0
theorem ltB_ord : Ord ltB := by
  refine ⟨fun a h => ?_, fun a b c => cmpB_tr _ _ _, fun a b => ?_⟩
  · unfold ltB at h; rw [cmpB_self] at h; omega
  · unfold ltB
    rcases Int.lt_trichotomy (compareBytes a.data.toList b.data.toList) 0 with h | h | h
    · exact .inl h
    · refine .inr (.inl ?_)
      have := cmpB_zero _ _ h
      cases a; cases b
      simp only [ByteArray.mk.injEq]
      exact Array.toList_inj.1 this
    · refine .inr (.inr ?_)
      rw [cmpB_swap a.data.toList]; omega
theorem less_cmp : ∀ a b : List UInt8, Op.bytesLess a b = true ↔ compareBytes a b < 0
  | [], [] => by simp [Op.bytesLess, compareBytes]
  | [], _ :: _ => by simp [Op.bytesLess, compareBytes]
  | _ :: _, [] => by simp [Op.bytesLess, compareBytes]
  | a :: zs, b :: bs => by
    have ih := less_cmp zs bs
    simp only [Op.bytesLess, compareBytes, Bool.or_eq_true, Bool.and_eq_true, decide_eq_true_eq, beq_iff_eq, ih]
    by_cases h1 : a < b
    · rw [if_pos h1]; exact ⟨fun _ => by decide, fun _ => .inl h1⟩
    · rw [if_neg h1]
      by_cases h2 : b < a
      · rw [if_pos h2]
        refine ⟨fun h => ?_, fun h => absurd h (by decide)⟩
        rcases h with h | h
        · exact absurd h h1
        · rw [h.1] at h2; exact absurd h2 (by simp)
      · rw [if_neg h2]
        have : a = b := by
          have h1 : ¬ a.toNat < b.toNat := fun q => h1 (UInt8.lt_iff_toNat_lt.2 q)
          have h2 : ¬ b.toNat < a.toNat := fun q => h2 (UInt8.lt_iff_toNat_lt.2 q)
          exact UInt8.toNat_inj.1 (by omega)
        exact ⟨fun h => h.elim (fun q => absurd q h1) (fun q => q.2), fun h => .inr ⟨this, h⟩⟩
end Go.Proofs.Sr

/- Ring: strings.Compare tells which of two strings stands ahead. -/
namespace Go.Proofs.Ytegekgjjoojgdaa
open Go Go.Proofs.Aw Go.Proofs.Xw Go.Proofs.Sr
set_option maxRecDepth 100000
theorem cmpS (a b : ByteArray) (w : World) :
    Calls Try.prog 25 #[.string a, .string b] w fun e w' => e = .returned (.int .i64 (Lib.compareBytes a.data.toList b.data.toList)) ∧ w' = w := by
  go_enter Try.func25, Try.ntmps25
  go_wp2
  rw [run_callFunc_extern Try.func32 (by kernel_rfl) (by kernel_rfl) (by kernel_rfl) (e := Extern.BytealgCompare.compare) (by kernel_rfl), Lib.run_compareString]
  simp only [Result.andThen]
  rw [Oper.upon_value]
  go_wp2
  go_ret
  exact ⟨rfl, rfl⟩
theorem cmp18 (a b : ByteArray) (w : World) :
    Calls Try.prog 18 #[.string a, .string b] w fun e w' => e = .returned (.int .i64 (Lib.compareBytes a.data.toList b.data.toList)) ∧ w' = w := by
  have e25 : ∀ args w, (callFunc 25 args).run Try.prog w = .ok (.enter 25 args) w := fun args w => Aw.run_callFunc (by kernel_rfl) args w
  go_enter Try.func18, Try.ntmps18
  go_wp2_with (go_at_call 25; refine (cmpS _ _ _).mono ?_; rintro e w' ⟨rfl, rfl⟩)
  go_ret
  exact ⟨rfl, rfl⟩
end Go.Proofs.Ytegekgjjoojgdaa

/- Ring: the comparison that Around hands in is the order of directions, and of strings where these are the same. -/
namespace Go.Proofs.Ytegekgjjoojgdaa
open Go Go.Proofs.Aw Go.Proofs.Xw Go.Proofs.Sr
set_option maxRecDepth 100000
theorem cy18 (a b : ByteArray) : hasBody Try.prog 18 = true ∧ ∀ n h, CY Try.prog n 18 [.sc (.string a), .sc (.string b)] h (.sc (.int .i64 (Lib.compareBytes a.data.toList b.data.toList))) [] := by
  refine ⟨by kernel_rfl, fun n h C vs hh hL hn => ?_⟩
  obtain ⟨u1, vs1, rfl, h1, u2, vs2, rfl, h2, h3⟩ := hL
  have h1 : u1 = .string a := h1
  have h2 : u2 = .string b := h2
  have h3 : vs2 = [] := h3
  subst h1 h2 h3
  refine (cmp18 a b C.w).mono ?_
  rintro e w' ⟨rfl, rfl⟩
  exact ⟨_, C.same n C.w, rfl, rfl, Post.pure hh (by simp only [Conc]) rfl rfl rfl rfl⟩
theorem pt_ex (b : ByteArray) (h : b.size < 9223372036854775808) : ∃ p : Pt, (-524288 ≤ p.1 ∧ p.1 ≤ 524287) ∧ (-524288 ≤ p.2 ∧ p.2 ≤ 524287) ∧ p ≠ (0, 0) ∧
    (hasBody Try.prog 17 = true ∧ ∀ n h, CY Try.prog n 17 [.sc (.string b)] h (.sc (.complex .f64 (fv p.1 false) (fv p.2 false))) []) ∧
    (hasBody Try.prog 26 = true ∧ ∀ n h, CY Try.prog n 26 [.sc (.string b)] h (.tup [.sc (.int .i64 p.1), .sc (.int .i64 p.2)]) []) := by
  obtain ⟨x, y, hx, hy, hz, k1, k2⟩ := pnt_cy ⟨fun _ => 0, fun _ => false, fun _ => b, fun _ => 0, fun _ _ _ => 0, fun _ _ _ => false, fun _ _ _ => ⟨#[]⟩⟩ h
  exact ⟨(x, y), hx, hy, fun e => hz ⟨congrArg Prod.fst e, congrArg Prod.snd e⟩, k1, k2⟩
/-- Where a key stands. -/
noncomputable def pt (b : ByteArray) : Pt := if h : b.size < 9223372036854775808 then Classical.choose (pt_ex b h) else (1, 0)
theorem pt_ok {b : ByteArray} (h : b.size < 9223372036854775808) : (-524288 ≤ (pt b).1 ∧ (pt b).1 ≤ 524287) ∧ (-524288 ≤ (pt b).2 ∧ (pt b).2 ≤ 524287) ∧ pt b ≠ (0, 0) ∧
    (hasBody Try.prog 17 = true ∧ ∀ n h, CY Try.prog n 17 [.sc (.string b)] h (.sc (.complex .f64 (fv (pt b).1 false) (fv (pt b).2 false))) []) ∧
    (hasBody Try.prog 26 = true ∧ ∀ n h, CY Try.prog n 26 [.sc (.string b)] h (.tup [.sc (.int .i64 (pt b).1), .sc (.int .i64 (pt b).2)]) []) := by
  have e : pt b = Classical.choose (pt_ex b h) := by unfold pt; rw [dif_pos h]
  rw [e]; exact Classical.choose_spec (pt_ex b h)
theorem pt_nz (b : ByteArray) : pt b ≠ (0, 0) := by
  by_cases h : b.size < 9223372036854775808
  · exact (pt_ok h).2.2.1
  · unfold pt; rw [dif_neg h]; decide
/-- Around's order. -/
def ltR : ByteArray → ByteArray → Prop := ltK pt ltB
theorem ltR_ord : Ord ltR := ltK_ord ltB_ord pt_nz
def lY (x y : Nat) : IE := .op .sub .i64 (.op .mul .i64 (.lit 1) (.var y)) (.op .mul .i64 (.lit 0) (.var x))
def lateE (x y : Nat) : IE := .ite (.or (.and (.or (.eq (lY x y) (.lit 0)) (.lt (.lit 0) (lY x y))) (.not (.eq (lY x y) (.lit 0)))) (.and (.and (.or (.eq (lY x y) (.lit 0)) (.lt (.lit 0) (lY x y))) (.eq (lY x y) (.lit 0))) (.lt (.lit 0) (.var x)))) (.lit 0) (.lit 1)
def crE : IE := .op .sub .i64 (.op .mul .i64 (.var 300) (.var 303)) (.op .mul .i64 (.var 301) (.var 302))
def sdE : IE := .ite (.or (.eq crE (.lit 0)) (.lt (.lit 0) crE)) (.ite (.eq crE (.lit 0)) (.lit 0) (.lit 1)) (.lit (-1))
def dfE : IE := .op .sub .i64 (lateE 300 301) (lateE 302 303)
def odE : IE := .ite (.not (.ite (.not (.eq dfE (.lit 0))) (.eq dfE (.lit 0)) (.eq (.op .sub .i64 (.lit 0) sdE) (.lit 0)))) (.ite (.not (.eq dfE (.lit 0))) dfE (.op .sub .i64 (.lit 0) sdE)) (.var 304)
theorem od_is : od = .ret (.sc (.i .i64 odE)) := rfl
def Bd (z : Int) : Prop := -524288 ≤ z ∧ z ≤ 524288
theorem mul_bd {a b : Int} (ha : Bd a) (hb : Bd b) : -274877906944 ≤ a * b ∧ a * b ≤ 274877906944 := by
  have h1 : (a * b).natAbs = a.natAbs * b.natAbs := Int.natAbs_mul a b
  have h2 : a.natAbs * b.natAbs ≤ 524288 * 524288 := Nat.mul_le_mul (by have := ha.1; have := ha.2; omega) (by have := hb.1; have := hb.2; omega)
  omega
theorem lY_den {ρ : Rho} {x y : Nat} (hy : Bd (ρ.i y)) : (lY x y).den ρ = ρ.i y := by
  have := hy.1; have := hy.2
  show IOp.den .sub .i64 (IOp.den .mul .i64 1 (ρ.i y)) (IOp.den .mul .i64 0 (ρ.i x)) = _
  simp only [IOp.den, Int.one_mul, Int.zero_mul]
  rw [wrap_id (ρ.i y) (by omega) (by omega), wrap_id 0 (by decide) (by decide), Int.sub_zero, wrap_id _ (by omega) (by omega)]
theorem late_den {ρ : Rho} {x y : Nat} (hy : Bd (ρ.i y)) : (lateE x y).den ρ = if half (ρ.i x, ρ.i y) = true then 0 else 1 := by
  have e : ∀ c : BE, (IE.ite c (.lit 0) (.lit 1)).den ρ = if c.den ρ = true then 0 else 1 := fun _ => rfl
  unfold lateE
  rw [e]
  have q : ((BE.or (.and (.or (.eq (lY x y) (.lit 0)) (.lt (.lit 0) (lY x y))) (.not (.eq (lY x y) (.lit 0)))) (.and (.and (.or (.eq (lY x y) (.lit 0)) (.lt (.lit 0) (lY x y))) (.eq (lY x y) (.lit 0))) (.lt (.lit 0) (.var x)))).den ρ = true) ↔ half (ρ.i x, ρ.i y) = true := by
    rw [half_t]
    simp only [dor_t, dand_t, dnot_t, deq_t, deq_f, dlt_t, lY_den hy, IE.den, Up]
    omega
  by_cases c : half (ρ.i x, ρ.i y) = true
  · rw [if_pos c, if_pos (q.2 c)]
  · rw [if_neg c, if_neg fun h => c (q.1 h)]
theorem cr_den {ρ : Rho} (h0 : Bd (ρ.i 300)) (h1 : Bd (ρ.i 301)) (h2 : Bd (ρ.i 302)) (h3 : Bd (ρ.i 303)) : crE.den ρ = cross (ρ.i 300, ρ.i 301) (ρ.i 302, ρ.i 303) := by
  have a := mul_bd h0 h3
  have b := mul_bd h1 h2
  show IOp.den .sub .i64 (IOp.den .mul .i64 (ρ.i 300) (ρ.i 303)) (IOp.den .mul .i64 (ρ.i 301) (ρ.i 302)) = ρ.i 300 * ρ.i 303 - ρ.i 301 * ρ.i 302
  simp only [IOp.den]
  rw [wrap_id (ρ.i 300 * ρ.i 303) (by omega) (by omega), wrap_id (ρ.i 301 * ρ.i 302) (by omega) (by omega), wrap_id _ (by omega) (by omega)]
theorem od_den {ρ : Rho} (h0 : Bd (ρ.i 300)) (h1 : Bd (ρ.i 301)) (h2 : Bd (ρ.i 302)) (h3 : Bd (ρ.i 303)) : odE.den ρ < 0 ↔ cmpP (ρ.i 300, ρ.i 301) (ρ.i 302, ρ.i 303) < 0 ∨ (cmpP (ρ.i 300, ρ.i 301) (ρ.i 302, ρ.i 303) = 0 ∧ ρ.i 304 < 0) := by
  have hc := cr_den h0 h1 h2 h3
  have l1 := late_den (x := 300) h1
  have l2 := late_den (x := 302) h3
  generalize hC : cross (ρ.i 300, ρ.i 301) (ρ.i 302, ρ.i 303) = C at hc
  have hs : (IE.op .sub .i64 (.lit 0) sdE).den ρ = if C = 0 then 0 else if 0 < C then -1 else 1 := by
    have e1 : sdE.den ρ = if ((BE.or (.eq crE (.lit 0)) (.lt (.lit 0) crE)).den ρ = true) then (if ((BE.eq crE (.lit 0)).den ρ = true) then 0 else 1) else -1 := rfl
    show IOp.den .sub .i64 0 (sdE.den ρ) = _
    rw [e1]
    simp only [dor_t, deq_t, dlt_t, hc, IE.den]
    by_cases c1 : C = 0
    · rw [if_pos (.inl c1), if_pos c1, if_pos c1]; decide
    · by_cases c2 : 0 < C
      · rw [if_pos (.inr c2), if_neg c1, if_neg c1, if_pos c2]; decide
      · rw [if_neg (by omega), if_neg c1, if_neg c2]; decide
  have hd : dfE.den ρ = (if half (ρ.i 300, ρ.i 301) = true then 0 else 1) - (if half (ρ.i 302, ρ.i 303) = true then (0 : Int) else 1) := by
    show IOp.den .sub .i64 ((lateE 300 301).den ρ) ((lateE 302 303).den ρ) = _
    rw [l1, l2]
    cases half (ρ.i 300, ρ.i 301) <;> cases half (ρ.i 302, ρ.i 303) <;> decide
  have ho : odE.den ρ = if dfE.den ρ = 0 then (if (IE.op .sub .i64 (.lit 0) sdE).den ρ = 0 then ρ.i 304 else (IE.op .sub .i64 (.lit 0) sdE).den ρ) else dfE.den ρ := by
    have e1 : odE.den ρ = if ((BE.not (.ite (.not (.eq dfE (.lit 0))) (.eq dfE (.lit 0)) (.eq (.op .sub .i64 (.lit 0) sdE) (.lit 0)))).den ρ = true) then (if ((BE.not (.eq dfE (.lit 0))).den ρ = true) then dfE.den ρ else (IE.op .sub .i64 (.lit 0) sdE).den ρ) else ρ.i 304 := rfl
    rw [e1]
    have z : ∀ e : IE, ((BE.eq e (.lit 0)).den ρ = true) = (e.den ρ = 0) := fun e => deq_t ρ e (.lit 0)
    have z' : ∀ e : IE, ((BE.eq e (.lit 0)).den ρ = false) = ¬ (e.den ρ = 0) := fun e => deq_f ρ e (.lit 0)
    by_cases c1 : dfE.den ρ = 0
    · rw [if_pos c1]
      by_cases c2 : (IE.op .sub .i64 (.lit 0) sdE).den ρ = 0
      · rw [if_pos c2, if_neg]
        rw [dnot_t, dite_f, dnot_t, dnot_f, z, z', z']
        exact fun h => h.2 c1 c2
      · rw [if_neg c2, if_pos, if_neg]
        · rw [dnot_t, z']; exact fun h => h c1
        · rw [dnot_t, dite_f, dnot_t, dnot_f, z, z', z']
          exact ⟨fun h => absurd c1 h, fun _ => c2⟩
    · rw [if_neg c1, if_pos, if_pos]
      · rw [dnot_t, z']; exact c1
      · rw [dnot_t, dite_f, dnot_t, dnot_f, z, z', z']
        exact ⟨fun _ => c1, fun h => absurd h c1⟩
  rw [ho, hs, hd, Sr.cmp_lt, Sr.cmp_eq, hC]
  cases half (ρ.i 300, ρ.i 301) <;> cases half (ρ.i 302, ρ.i 303)
  · by_cases c1 : C = 0
    · simp [c1]
    · by_cases c2 : 0 < C
      · simp [c1, c2]
      · simp [c1, c2]
  · simp
  · simp
  · by_cases c1 : C = 0
    · simp [c1]
    · by_cases c2 : 0 < C
      · simp [c1, c2]
      · simp [c1, c2]
/-- The comparison is Around's order. -/
theorem ltR_ck : CK ltR := fun x y hx hy => by
  obtain ⟨x1, x2, x3, x4, _⟩ := pt_ok hx
  obtain ⟨y1, y2, y3, y4, _⟩ := pt_ok hy
  let ρ : Rho := ⟨fun k => if k = 300 then (pt x).1 else if k = 301 then (pt x).2 else if k = 302 then (pt y).1 else if k = 303 then (pt y).2 else Lib.compareBytes x.data.toList y.data.toList, fun _ => false, fun k => if k = 0 then x else y, fun _ => 0, fun _ _ _ => 0, fun _ _ _ => false, fun _ _ _ => ⟨#[]⟩⟩
  have b0 : Bd (ρ.i 300) := ⟨x1.1, by show (pt x).1 ≤ _; omega⟩
  have b1 : Bd (ρ.i 301) := ⟨x2.1, by show (pt x).2 ≤ _; omega⟩
  have b2 : Bd (ρ.i 302) := ⟨y1.1, by show (pt y).1 ≤ _; omega⟩
  have b3 : Bd (ρ.i 303) := ⟨y2.1, by show (pt y).2 ≤ _; omega⟩
  have bk : ∀ k, Bd (ρ.i k) → Facts.ok ρ (bnd k) := fun k h => Facts.ok_cons (by rw [dlt_f]; exact h.1) (Facts.ok_cons (by rw [dlt_f]; exact h.2) (Facts.ok_nil _))
  have nz : ∀ a b : Nat, ¬ (ρ.i a = 0 ∧ ρ.i b = 0) → (BE.and (.eq (.var a) (.lit 0)) (.eq (.var b) (.lit 0))).den ρ = false := fun a b h => by
    rw [dand_f, deq_f, deq_f]; simp only [IE.den]; omega
  have fk : Facts.ok ρ fO := all_ok (all_ok (all_ok (all_ok (bk 300 b0) (bk 301 b1)) (bk 302 b2)) (bk 303 b3)) (Facts.ok_cons (nz 300 301 fun h => x3 (Prod.ext h.1 h.2)) (Facts.ok_cons (nz 302 303 fun h => y3 (Prod.ext h.1 h.2)) (Facts.ok_nil _)))
  have a1 : X.denL ρ [sX 0] = [.sc (.string x)] := by simp [X.denL, X.den, sX, Sc.den, TE.den, ρ]
  have a2 : X.denL ρ [sX 1] = [.sc (.string y)] := by simp [X.denL, X.den, sX, Sc.den, TE.den, ρ]
  have a3 : X.denL ρ [sX 0, sX 1] = [.sc (.string x), .sc (.string y)] := by simp [X.denL, X.den, sX, Sc.den, TE.den, ρ]
  have k1 : hasBody Try.prog 17 = true ∧ ∀ n h, CY Try.prog n 17 (X.denL ρ [sX 0]) h (X.den ρ (cpX 300 301)) [] := by rw [a1]; exact x4
  have k2 : hasBody Try.prog 17 = true ∧ ∀ n h, CY Try.prog n 17 (X.denL ρ [sX 1]) h (X.den ρ (cpX 302 303)) [] := by rw [a2]; exact y4
  have k3 : hasBody Try.prog 18 = true ∧ ∀ n h, CY Try.prog n 18 (X.denL ρ [sX 0, sX 1]) h (X.den ρ (iV 304)) [] := by rw [a3]; exact cy18 x y
  have g := askF_ok (c := ⟨cfgL ksO (fun _ => []), l_able, []⟩) (f := 15) (args := [sX 0, sX 1]) (cfgL_ok (List.forall_mem_cons.2 ⟨k1, List.forall_mem_cons.2 ⟨k2, List.forall_mem_cons.2 ⟨k3, List.forall_mem_nil _⟩⟩⟩) (fun _ _ _ => LpsOk.nil _ _ _ _)) l_able_ok fk (r := .sc (.i .i64 odE)) ((congrArg (T.sel ρ) (od_run.trans od_is)).trans rfl)
  rw [a3] at g
  exact ⟨odE.den ρ, od_den b0 b1 b2 b3, g⟩
end Go.Proofs.Ytegekgjjoojgdaa

/- What is shown of loops, each by one run of its body over letters. -/
namespace Go.Proofs.Ytegekgjjoojgdaa
open Go Go.Proofs.Aw Go.Proofs.Xw
def wdA : List X := [.rl 1 (.len 0) (.var 0 [.s]) false, .rl 1 (.var 0) (.var 1 [.s]) false]
def wdF : Facts := [(.eq (.var 0) (.len 0), true)]
def kyR (l : Nat) : X := .rl 1 (.len 0) (.var l [.s]) false

/-! wd: letters [400] [] [] [] -/
noncomputable def wd_c : Code := (loopsOf (Try.f8.body.getD .skip))[0]?.getD .skip
def wd_S : XS := ⟨[(5, (.sc (.i .i64 (.var 400)))), (10, (.sc (.b (.not (.eq (.len 0) (.var 0)))))), (9, (.sc (.i .i64 (.var 0)))), (8, (.rl 1 (.var 0) (.var 1 [.s]) false)), (7, (.sc (.i .i64 (.len 0)))), (6, (.rl 1 (.len 0) (.var 0 [.s]) false)), (4, (.sc (.b (.lit false)))), (0, (.rl 1 (.len 0) (.var 0 [.s]) false)), (1, (.rl 1 (.var 0) (.var 1 [.s]) false))], [], 7⟩
def wd_Φ : Facts := ((.lt (.var 400) (.lit 0), false) :: wdF)
def wd_b : Bind := ⟨[(400, (.op .add .i64 (.var 400) (.lit (1 : Int))))], [], [], []⟩
def wd_i : Bind := ⟨[(400, (.lit (0 : Int)))], [], [], []⟩
def wd_t : T (XE × XS) := (.br (.lt (.var 400) (.len 0)) (.need (.lt (.var 400) (.var 0)) (.br (.not (.seq (.cl 0 0 (.var 400)) (.cl 1 0 (.var 400)))) (.ret (.ret, ⟨[(5, (.sc (.i .i64 (.var 400)))), (10, (.sc (.b (.not (.eq (.len 0) (.var 0)))))), (9, (.sc (.i .i64 (.var 0)))), (8, (.rl 1 (.var 0) (.var 1 [.s]) false)), (7, (.sc (.i .i64 (.len 0)))), (6, (.rl 1 (.len 0) (.var 0 [.s]) false)), (4, (.sc (.b (.lit false)))), (0, (.rl 1 (.len 0) (.var 0 [.s]) false)), (1, (.rl 1 (.var 0) (.var 1 [.s]) false))], [], 21⟩)) (.ret (.normal, ⟨[(5, (.sc (.i .i64 (.op .add .i64 (.var 400) (.lit (1 : Int)))))), (10, (.sc (.b (.not (.eq (.len 0) (.var 0)))))), (9, (.sc (.i .i64 (.var 0)))), (8, (.rl 1 (.var 0) (.var 1 [.s]) false)), (7, (.sc (.i .i64 (.len 0)))), (6, (.rl 1 (.len 0) (.var 0 [.s]) false)), (4, (.sc (.b (.lit false)))), (0, (.rl 1 (.len 0) (.var 0 [.s]) false)), (1, (.rl 1 (.var 0) (.var 1 [.s]) false))], [], 23⟩)))) (.ret ((.exit 0), ⟨[(5, (.sc (.i .i64 (.var 400)))), (10, (.sc (.b (.not (.eq (.len 0) (.var 0)))))), (9, (.sc (.i .i64 (.var 0)))), (8, (.rl 1 (.var 0) (.var 1 [.s]) false)), (7, (.sc (.i .i64 (.len 0)))), (6, (.rl 1 (.len 0) (.var 0 [.s]) false)), (4, (.sc (.b (.lit false)))), (0, (.rl 1 (.len 0) (.var 0 [.s]) false)), (1, (.rl 1 (.var 0) (.var 1 [.s]) false))], [], 11⟩)))
noncomputable def wd : LoopX := ⟨((codeKey wd_c).getD 0), 0, 400, wd_S, wd_i, [], wd_t.outs⟩
set_option maxRecDepth 100000 in
theorem wd_run : (codeX (cfgL ([]) (fun _ => [])).ti (callS ⟨(cfgL ([]) (fun _ => [])), l_able, []⟩ 12) (((cfgL ([]) (fun _ => [])).ft 8).elim [] (·.ms)) wd.k0 ((fun _ => []) 8) 1000 wd_c wd_Φ wd.S).map (sqz (wd_S.t.map (·.1))) = wd_t := by kernel_rfl
theorem wd_back : wd_t.nrm (okS wd.k0 wd.n wd_b [] wd.S) = true := by kernel_rfl
theorem wd_bel : wd_t.outs.belX 401 = true := by kernel_rfl
theorem wd_ib : wd_i.bel 400 = true := by kernel_rfl
theorem wd_ig : wd_i.ge 400 = true := by kernel_rfl
theorem wd_bg : wd_b.ge 400 = true := by kernel_rfl
theorem wd_same : wd_i.same wd_b = true := by kernel_rfl
theorem wd_Sb : wd_S.bel 401 = true := by kernel_rfl
theorem wd_fits : fitsC Try.f8.ntmps wd_c = true := by kernel_rfl
/-! mu: letters [410, 411] [] [] [] -/
noncomputable def mu_c : Code := (loopsOf (Try.f6.body.getD .skip))[0]?.getD .skip
def mu_S : XS := ⟨[(4, (.sc (.i .i64 (.var 410)))), (3, (.sc (.i .i64 (.var 411)))), (6, (.sc (.i .i64 (.len 0)))), (5, (.rl 1 (.len 0) (.var 0 [.s]) false)), (2, (.sc (.b (.lit false)))), (0, (.rl 1 (.len 0) (.var 0 [.s]) false))], [], 5⟩
def mu_Φ : Facts := [(.lt (.var 410) (.lit 0), false)]
def mu_b : Bind := ⟨[(410, (.op .add .i64 (.var 410) (.lit (1 : Int)))), (411, (.op .add .i64 (.var 411) (.slen (.cl 0 0 (.var 410)))))], [], [], []⟩
def mu_i : Bind := ⟨[(410, (.lit (0 : Int))), (411, (.len 0))], [], [], []⟩
def mu_t : T (XE × XS) := (.br (.and (.lt (.var 410) (.len 0)) (.not (.lt (.lit (200000 : Int)) (.var 411)))) (.ret (.normal, ⟨[(4, (.sc (.i .i64 (.op .add .i64 (.var 410) (.lit (1 : Int)))))), (3, (.sc (.i .i64 (.op .add .i64 (.var 411) (.slen (.cl 0 0 (.var 410))))))), (6, (.sc (.i .i64 (.len 0)))), (5, (.rl 1 (.len 0) (.var 0 [.s]) false)), (2, (.sc (.b (.lit false)))), (0, (.rl 1 (.len 0) (.var 0 [.s]) false))], [], 24⟩)) (.ret ((.exit 0), ⟨[(4, (.sc (.i .i64 (.var 410)))), (3, (.sc (.i .i64 (.var 411)))), (6, (.sc (.i .i64 (.len 0)))), (5, (.rl 1 (.len 0) (.var 0 [.s]) false)), (2, (.sc (.b (.lit false)))), (0, (.rl 1 (.len 0) (.var 0 [.s]) false))], [], 13⟩)))
noncomputable def mu : LoopX := ⟨((codeKey mu_c).getD 0), 0, 410, mu_S, mu_i, [], mu_t.outs⟩
set_option maxRecDepth 100000 in
theorem mu_run : (codeX (cfgL ([]) (fun _ => [])).ti (callS ⟨(cfgL ([]) (fun _ => [])), l_able, []⟩ 12) (((cfgL ([]) (fun _ => [])).ft 6).elim [] (·.ms)) mu.k0 ((fun _ => []) 6) 1000 mu_c mu_Φ mu.S).map (sqz (mu_S.t.map (·.1))) = mu_t := by kernel_rfl
theorem mu_back : mu_t.nrm (okS mu.k0 mu.n mu_b [] mu.S) = true := by kernel_rfl
theorem mu_bel : mu_t.outs.belX 412 = true := by kernel_rfl
theorem mu_ib : mu_i.bel 410 = true := by kernel_rfl
theorem mu_ig : mu_i.ge 410 = true := by kernel_rfl
theorem mu_bg : mu_b.ge 410 = true := by kernel_rfl
theorem mu_same : mu_i.same mu_b = true := by kernel_rfl
theorem mu_Sb : mu_S.bel 412 = true := by kernel_rfl
theorem mu_fits : fitsC Try.f6.ntmps mu_c = true := by kernel_rfl
end Go.Proofs.Ytegekgjjoojgdaa

/- What functions answer, run over letters, where something is known; each shown by running it. -/
namespace Go.Proofs.Ytegekgjjoojgdaa
open Go Go.Proofs.Aw Go.Proofs.Xw
noncomputable def lpWd (f : Nat) : List LoopX := if Nat.beq f 8 = true then [wd] else []
theorem lpWd_8o : othersB [wd] [0] 0 (loopsOf (Try.f8.body.getD .skip)) = true := by kernel_rfl
theorem lpWd_8 {ρ : Rho} (h_wd : LoopOk Try.prog ρ Try.f8.ntmps wd_c wd) : LpsOk Try.prog ρ Try.f8.ntmps [wd] (Try.f8.body.getD .skip) :=
  lps_idx [0] lpWd_8o (List.forall_mem_cons.2 ⟨look_list (c := wd_c) (Ls := [wd]) (by kernel_rfl) (List.forall_mem_cons.2 ⟨h_wd, List.forall_mem_nil _⟩), List.forall_mem_nil _⟩)
theorem lpWd_ok {ρ : Rho} (h_wd : LoopOk Try.prog ρ Try.f8.ntmps wd_c wd) : ∀ f i, btLook f ftsT = some i → LpsOk Try.prog ρ i.ntmps (lpWd f) i.body := by
  intro f i h
  have hi := fts_ok (f, i) (bt_of_mem _ _ (btLook_mem h))
  unfold lpWd
  split
  · rename_i hf
    have hf := Nat.eq_of_beq_eq_true hf
    subst hf
    exact lps_row hi Try.func8 (lpWd_8 h_wd)
  · exact LpsOk.nil _ _ _ _
noncomputable def lpMu (f : Nat) : List LoopX := if Nat.beq f 6 = true then [mu] else []
theorem lpMu_6o : othersB [mu] [0] 0 (loopsOf (Try.f6.body.getD .skip)) = true := by kernel_rfl
theorem lpMu_6 {ρ : Rho} (h_mu : LoopOk Try.prog ρ Try.f6.ntmps mu_c mu) : LpsOk Try.prog ρ Try.f6.ntmps [mu] (Try.f6.body.getD .skip) :=
  lps_idx [0] lpMu_6o (List.forall_mem_cons.2 ⟨look_list (c := mu_c) (Ls := [mu]) (by kernel_rfl) (List.forall_mem_cons.2 ⟨h_mu, List.forall_mem_nil _⟩), List.forall_mem_nil _⟩)
theorem lpMu_ok {ρ : Rho} (h_mu : LoopOk Try.prog ρ Try.f6.ntmps mu_c mu) : ∀ f i, btLook f ftsT = some i → LpsOk Try.prog ρ i.ntmps (lpMu f) i.body := by
  intro f i h
  have hi := fts_ok (f, i) (bt_of_mem _ _ (btLook_mem h))
  unfold lpMu
  split
  · rename_i hf
    have hf := Nat.eq_of_beq_eq_true hf
    subst hf
    exact lps_row hi Try.func6 (lpMu_6 h_mu)
  · exact LpsOk.nil _ _ _ _

def wdR : T X := (.need (.and (.not (.lt (.var 0) (.lit (0 : Int)))) (.or (.not (.lt (.var 400) (.len 0))) (.and (.lt (.var 400) (.var 0)) (.not (.seq (.cl 0 0 (.var 400)) (.cl 1 0 (.var 400))))))) (.ret (.sc (.b (.not (.lt (.var 400) (.len 0)))))))
set_option maxRecDepth 100000 in
theorem wdR_run : askF ⟨cfgL [] lpWd, l_able, []⟩ 8 (wdA) wdF = wdR := by kernel_rfl
def muR : T X := (.need (.not (.and (.lt (.var 410) (.len 0)) (.not (.lt (.lit (200000 : Int)) (.var 411))))) (.ret (.sc (.b (.or (.lt (.lit (200000 : Int)) (.var 411)) (.lt (.lit (600 : Int)) (.len 0)))))))
set_option maxRecDepth 100000 in
theorem muR_run : askF ⟨cfgL [] lpMu, l_able, []⟩ 6 ([kyR 0]) [] = muR := by kernel_rfl
end Go.Proofs.Ytegekgjjoojgdaa

/- Ring: words of like rows are alike; what much lets by is small. -/
namespace Go.Proofs.Ytegekgjjoojgdaa
open Go Go.Proofs.Aw Go.Proofs.Xw Go.Proofs.Sr
set_option maxRecDepth 100000
/-- A row of strings, as it is handed to a function that only reads. -/
def roV (n : Nat) (g : Nat → ByteArray) : AV := .ro 1 ((List.range n).map fun j => [AV.sc (.string (g j))]) false
theorem ky_den (ρ : Rho) (l : Nat) : X.den ρ (kyR l) = roV (ρ.len 0) (stR ρ l) := by
  show AV.ro 1 (rowsD ρ (.len 0) (.var l [.s])) false = _
  unfold roV rowsD
  simp only [IE.den, Int.toNat_natCast]
  congr 1
theorem roV_congr {n : Nat} {g h : Nat → ByteArray} (e : ∀ k, k < n → g k = h k) : roV n g = roV n h := by
  unfold roV
  congr 1
  exact List.map_congr_left fun j hj => by rw [e j (List.mem_range.1 hj)]
theorem wd_tree : ∃ c s1 s2 s3, wd_t = .br (.lt (.var 400) (.len 0)) (.need (.lt (.var 400) (.var 0)) (.br (.not (.seq (.cl 0 0 (.var 400)) (.cl 1 0 (.var 400)))) s1 (.ret (.normal, s2)))) (.ret (.exit c, s3)) := ⟨_, _, _, _, rfl⟩
theorem wd_at (ρ : Rho) (hl : ρ.len 0 < 1000000) (h0 : ρ.i 0 = ρ.len 0) (h : ∀ j, j < ρ.len 0 → stR ρ 0 j = stR ρ 1 j) : hasBody Try.prog 8 = true ∧ ∀ n hp, CY Try.prog n 8 (X.denL ρ wdA) hp (.sc (.bool true)) [] := by
  have cnt := fun j => it_count (e := .lit 0) (I := 400) (β := wd_b) rfl (ρ := wd_i.ap ρ) (by rfl) j
  have ag := fun j => (Bind.agree wd_ig ρ).trans (Bind.it_agree wd_bg (wd_i.ap ρ) j)
  have fk : Facts.ok ρ wdF := Facts.ok_cons (by rw [deq_t]; exact h0) (Facts.ok_nil _)
  obtain ⟨c, s1, s2, s3, ht⟩ := wd_tree
  have l1 : LoopOk Try.prog (wd_b.it (wd_i.ap ρ) (ρ.len 0)) Try.f8.ntmps wd_c wd := by
    refine loopOk_cntG mixed tis_ok wd_run wd_fits wd_back rfl 401 wd_bel wd_ib wd_bg wd_same (I := 400) rfl rfl (Φ0 := wdF) rfl (by kernel_rfl) fk wd_ig call0 (fun _ => LpsOk.nil _ _ _ _) (ρ.len 0) (by omega) (fun j hj hc ha => ⟨s2, ?_⟩) (fun hc ha => ⟨.exit c, s3, (fun h => nomatch h), ?_⟩)
    · have hl0 : (wd_b.it (wd.init.ap ρ) j).len 0 = ρ.len 0 := (ha.len 0 (by decide)).symm
      have hi0 : (wd_b.it (wd.init.ap ρ) j).i 0 = ρ.i 0 := (ha.i 0 (by decide)).symm
      have e0 : stR (wd_b.it (wd.init.ap ρ) j) 0 = stR ρ 0 := agree_st ha (by decide)
      have e1 : stR (wd_b.it (wd.init.ap ρ) j) 1 = stR ρ 1 := agree_st ha (by decide)
      generalize wd_b.it (wd.init.ap ρ) j = ρ1 at *
      have es : (BE.not (.seq (.cl 0 0 (.var 400)) (.cl 1 0 (.var 400)))).den ρ1 = false := by
        rw [dnot_f]
        show ((ρ1.cs 0 0 (ρ1.i 400).toNat).toList == (ρ1.cs 1 0 (ρ1.i 400).toNat).toList) = true
        rw [hc, Int.toNat_natCast, show ρ1.cs 0 0 j = stR ρ1 0 j from rfl, show ρ1.cs 1 0 j = stR ρ1 1 j from rfl, e0, e1, h j hj]
        exact beq_self_eq_true _
      rw [ht, T.sel, if_pos (by rw [dlt_t]; simp only [IE.den, hc, hl0]; omega), T.sel, if_pos (by rw [dlt_t]; simp only [IE.den, hc, hi0]; omega), T.sel, if_neg (by rw [es]; decide)]
      rfl
    · have hl0 : (wd_b.it (wd.init.ap ρ) (ρ.len 0)).len 0 = ρ.len 0 := (ha.len 0 (by decide)).symm
      rw [ht, T.sel, if_neg (by rw [dlt_t]; simp only [IE.den, hc, hl0]; omega)]
      rfl
  have ag := ag (ρ.len 0)
  have cnt := cnt (ρ.len 0) (by omega)
  generalize wd_b.it (wd_i.ap ρ) (ρ.len 0) = ρ1 at l1 ag cnt
  have hl1 : ρ1.len 0 = ρ.len 0 := (ag.len 0 (by decide)).symm
  have hi1 : ρ1.i 0 = ρ.i 0 := (ag.i 0 (by decide)).symm
  have fk1 : Facts.ok ρ1 wdF := Facts.ok_cons (by rw [deq_t]; simp only [IE.den]; omega) (Facts.ok_nil _)
  obtain ⟨r, x, hr⟩ : ∃ r x, wdR = .need (.and (.not (.lt (.var 0) (.lit 0))) (.or (.not (.lt (.var 400) (.len 0))) r)) (.ret x) ∧ x = .sc (.b (.not (.lt (.var 400) (.len 0)))) := ⟨_, _, rfl, rfl⟩
  have n1 : (BE.and (.not (.lt (.var 0) (.lit 0))) (.or (.not (.lt (.var 400) (.len 0))) r)).den ρ1 = true := by
    rw [dand_t, dnot_t, dlt_f, dor_t, dnot_t, dlt_f]
    simp only [IE.den]
    exact ⟨by omega, .inl (by omega)⟩
  have g := askF_ok (c := ⟨cfgL [] lpWd, l_able, []⟩) (f := 8) (args := wdA) (cfgL_ok (List.forall_mem_nil _) (lpWd_ok l1)) l_able_ok fk1 (r := x) (by rw [wdR_run, hr.1]; exact sel_need n1 rfl)
  have ha : X.den ρ1 x = .sc (.bool true) := by
    have : (BE.not (.lt (.var 400) (.len 0))).den ρ1 = true := by rw [dnot_t, dlt_f]; simp only [IE.den]; omega
    rw [hr.2]
    simp only [X.den, Sc.den, this]
  rw [ha] at g
  rw [← X.belL_den ag wdA (by kernel_rfl)] at g
  exact g
/-- words, of two rows that are alike. -/
theorem wd_cy {n : Nat} {g h : Nat → ByteArray} (hn : n < 1000000) (e : ∀ k, k < n → g k = h k) : hasBody Try.prog 8 = true ∧ ∀ k hp, CY Try.prog k 8 [roV n g, roV n h] hp (.sc (.bool true)) [] := by
  have q := wd_at (putR (rho0 [(n : Int)] n g) 1 h) hn rfl (fun j hj => by rw [putR_ne _ _ _ (by decide), putR_st]; exact e j hj)
  have a0 : X.den (putR (rho0 [(n : Int)] n g) 1 h) (.rl 1 (.len 0) (.var 0 [.s]) false) = roV n g := by
    have := ky_den (putR (rho0 [(n : Int)] n g) 1 h) 0
    rw [putR_ne _ _ _ (by decide)] at this; exact this
  have a1 : X.den (putR (rho0 [(n : Int)] n g) 1 h) (.rl 1 (.var 0) (.var 1 [.s]) false) = roV n h := by
    have := ky_den (putR (rho0 [(n : Int)] n g) 1 h) 1
    rw [putR_st] at this; exact this
  simp only [wdA, X.denL, a0, a1] at q
  exact q
end Go.Proofs.Ytegekgjjoojgdaa
