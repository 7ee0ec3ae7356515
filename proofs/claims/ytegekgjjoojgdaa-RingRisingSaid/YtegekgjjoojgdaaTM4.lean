/- Parts of the proof, one behind the other. -/
import Derived.Test.YtegekgjjoojgdaaTM1
import Derived.Test.YtegekgjjoojgdaaTM3
import Derived.Test.YtegekgjjoojgdaaXwM3
/- What functions answer, run over letters, where something is known; each shown by running it. -/
namespace Go.Proofs.Ytegekgjjoojgdaa
open Go Go.Proofs.Aw Go.Proofs.Xw
noncomputable def lpMc (f : Nat) : List LoopX := if Nat.beq f 30 = true then [m4] else []
theorem lpMc_30o : othersB [m4] [4] 0 (loopsOf (Try.f30.body.getD .skip)) = true := by kernel_rfl
theorem lpMc_30 {ρ : Rho} (h_m4 : LoopOk Try.prog ρ Try.f30.ntmps m4_c m4) : LpsOk Try.prog ρ Try.f30.ntmps [m4] (Try.f30.body.getD .skip) :=
  lps_idx [4] lpMc_30o (List.forall_mem_cons.2 ⟨look_list (c := m4_c) (Ls := [m4]) (by kernel_rfl) (List.forall_mem_cons.2 ⟨h_m4, List.forall_mem_nil _⟩), List.forall_mem_nil _⟩)
theorem lpMc_ok {ρ : Rho} (h_m4 : LoopOk Try.prog ρ Try.f30.ntmps m4_c m4) : ∀ f i, btLook f ftsT = some i → LpsOk Try.prog ρ i.ntmps (lpMc f) i.body := by
  intro f i h
  have hi := fts_ok (f, i) (bt_of_mem _ _ (btLook_mem h))
  unfold lpMc
  split
  · rename_i hf
    have hf := Nat.eq_of_beq_eq_true hf
    subst hf
    exact lps_row hi Try.func30 (lpMc_30 h_m4)
  · exact LpsOk.nil _ _ _ _
def eE : IE := .op .sub .i64 (.var 133) (.var 130)
def two (c1 c2 : BE) : Nat → Facts
  | 0 => [(c1, true), (c2, true)]
  | 1 => [(c1, false)]
  | _ => [(c1, true), (c2, false)]
def fR : Nat → Facts := two (.lt (.var 130) (.var 2)) (.lt (.var 2) eE)
def fA : Nat → Facts := two (.lt (.var 1) (.var 130)) (.lt (.var 130) (.var 132))
def fB : Nat → Facts := two (.lt (.var 132) eE) (.lt eE (.var 3))
def rowR : Nat → Nat
  | 0 => 140
  | _ => 0
def rowA (r : Nat) : Nat → Nat
  | 0 => 141
  | _ => rowR r
def rowB (r a : Nat) : Nat → Nat
  | 0 => 142
  | _ => rowA r a
def kR : HK := ⟨34, [slD, iV 130, iV 2, .sc (.i .i64 eE), cmpX], rwS 0, rwS 140, .tup []⟩
def kA (r : Nat) : HK := ⟨30, [slD, iV 1, iV 130, iV 132, cmpX], rwS (rowR r), rwS 141, .tup []⟩
def kC (r a : Nat) : HK := ⟨30, [slD, iV 132, .sc (.i .i64 eE), iV 3, cmpX], rwS (rowA r a), rwS 142, .tup []⟩
def if0 (k : HK) : Nat → List HK
  | 0 => [k]
  | _ => []
def khL (r a b : Nat) : List HK := if0 kR r ++ (if0 (kA r) a ++ if0 (kC r a) b)

def sm000 : T (X × XDl) := (.ret ((.tup []), [((0, 0), some [(.rows 1 (.len 0) (.var 142 [.s]))])]))
set_option maxRecDepth 100000 in
theorem sm000_run : askH ⟨cfgH [] lpMc (khL 0 0 0), l_able, []⟩ 30 (smA) (rwS 0) (one4 ++ (fR 0 ++ (fA 0 ++ fB 0))) = sm000 := by kernel_rfl
def sm001 : T (X × XDl) := (.ret ((.tup []), [((0, 0), some [(.rows 1 (.len 0) (.var 141 [.s]))])]))
set_option maxRecDepth 100000 in
theorem sm001_run : askH ⟨cfgH [] lpMc (khL 0 0 1), l_able, []⟩ 30 (smA) (rwS 0) (one4 ++ (fR 0 ++ (fA 0 ++ fB 1))) = sm001 := by kernel_rfl
def sm002 : T (X × XDl) := (.ret ((.tup []), [((0, 0), some [(.rows 1 (.len 0) (.var 141 [.s]))])]))
set_option maxRecDepth 100000 in
theorem sm002_run : askH ⟨cfgH [] lpMc (khL 0 0 2), l_able, []⟩ 30 (smA) (rwS 0) (one4 ++ (fR 0 ++ (fA 0 ++ fB 2))) = sm002 := by kernel_rfl
def sm010 : T (X × XDl) := (.ret ((.tup []), [((0, 0), some [(.rows 1 (.len 0) (.var 142 [.s]))])]))
set_option maxRecDepth 100000 in
theorem sm010_run : askH ⟨cfgH [] lpMc (khL 0 1 0), l_able, []⟩ 30 (smA) (rwS 0) (one4 ++ (fR 0 ++ (fA 1 ++ fB 0))) = sm010 := by kernel_rfl
def sm011 : T (X × XDl) := (.ret ((.tup []), [((0, 0), some [(.rows 1 (.len 0) (.var 140 [.s]))])]))
set_option maxRecDepth 100000 in
theorem sm011_run : askH ⟨cfgH [] lpMc (khL 0 1 1), l_able, []⟩ 30 (smA) (rwS 0) (one4 ++ (fR 0 ++ (fA 1 ++ fB 1))) = sm011 := by kernel_rfl
def sm012 : T (X × XDl) := (.ret ((.tup []), [((0, 0), some [(.rows 1 (.len 0) (.var 140 [.s]))])]))
set_option maxRecDepth 100000 in
theorem sm012_run : askH ⟨cfgH [] lpMc (khL 0 1 2), l_able, []⟩ 30 (smA) (rwS 0) (one4 ++ (fR 0 ++ (fA 1 ++ fB 2))) = sm012 := by kernel_rfl
def sm020 : T (X × XDl) := (.ret ((.tup []), [((0, 0), some [(.rows 1 (.len 0) (.var 142 [.s]))])]))
set_option maxRecDepth 100000 in
theorem sm020_run : askH ⟨cfgH [] lpMc (khL 0 2 0), l_able, []⟩ 30 (smA) (rwS 0) (one4 ++ (fR 0 ++ (fA 2 ++ fB 0))) = sm020 := by kernel_rfl
def sm021 : T (X × XDl) := (.ret ((.tup []), [((0, 0), some [(.rows 1 (.len 0) (.var 140 [.s]))])]))
set_option maxRecDepth 100000 in
theorem sm021_run : askH ⟨cfgH [] lpMc (khL 0 2 1), l_able, []⟩ 30 (smA) (rwS 0) (one4 ++ (fR 0 ++ (fA 2 ++ fB 1))) = sm021 := by kernel_rfl
def sm022 : T (X × XDl) := (.ret ((.tup []), [((0, 0), some [(.rows 1 (.len 0) (.var 140 [.s]))])]))
set_option maxRecDepth 100000 in
theorem sm022_run : askH ⟨cfgH [] lpMc (khL 0 2 2), l_able, []⟩ 30 (smA) (rwS 0) (one4 ++ (fR 0 ++ (fA 2 ++ fB 2))) = sm022 := by kernel_rfl
def sm100 : T (X × XDl) := (.ret ((.tup []), [((0, 0), some [(.rows 1 (.len 0) (.var 142 [.s]))])]))
set_option maxRecDepth 100000 in
theorem sm100_run : askH ⟨cfgH [] lpMc (khL 1 0 0), l_able, []⟩ 30 (smA) (rwS 0) (one4 ++ (fR 1 ++ (fA 0 ++ fB 0))) = sm100 := by kernel_rfl
def sm101 : T (X × XDl) := (.ret ((.tup []), [((0, 0), some [(.rows 1 (.len 0) (.var 141 [.s]))])]))
set_option maxRecDepth 100000 in
theorem sm101_run : askH ⟨cfgH [] lpMc (khL 1 0 1), l_able, []⟩ 30 (smA) (rwS 0) (one4 ++ (fR 1 ++ (fA 0 ++ fB 1))) = sm101 := by kernel_rfl
def sm102 : T (X × XDl) := (.ret ((.tup []), [((0, 0), some [(.rows 1 (.len 0) (.var 141 [.s]))])]))
set_option maxRecDepth 100000 in
theorem sm102_run : askH ⟨cfgH [] lpMc (khL 1 0 2), l_able, []⟩ 30 (smA) (rwS 0) (one4 ++ (fR 1 ++ (fA 0 ++ fB 2))) = sm102 := by kernel_rfl
def sm110 : T (X × XDl) := (.ret ((.tup []), [((0, 0), some [(.rows 1 (.len 0) (.var 142 [.s]))])]))
set_option maxRecDepth 100000 in
theorem sm110_run : askH ⟨cfgH [] lpMc (khL 1 1 0), l_able, []⟩ 30 (smA) (rwS 0) (one4 ++ (fR 1 ++ (fA 1 ++ fB 0))) = sm110 := by kernel_rfl
def sm111 : T (X × XDl) := (.ret ((.tup []), [((0, 0), some [(.rows 1 (.len 0) (.var 0 [.s]))])]))
set_option maxRecDepth 100000 in
theorem sm111_run : askH ⟨cfgH [] lpMc (khL 1 1 1), l_able, []⟩ 30 (smA) (rwS 0) (one4 ++ (fR 1 ++ (fA 1 ++ fB 1))) = sm111 := by kernel_rfl
def sm112 : T (X × XDl) := (.ret ((.tup []), [((0, 0), some [(.rows 1 (.len 0) (.var 0 [.s]))])]))
set_option maxRecDepth 100000 in
theorem sm112_run : askH ⟨cfgH [] lpMc (khL 1 1 2), l_able, []⟩ 30 (smA) (rwS 0) (one4 ++ (fR 1 ++ (fA 1 ++ fB 2))) = sm112 := by kernel_rfl
def sm120 : T (X × XDl) := (.ret ((.tup []), [((0, 0), some [(.rows 1 (.len 0) (.var 142 [.s]))])]))
set_option maxRecDepth 100000 in
theorem sm120_run : askH ⟨cfgH [] lpMc (khL 1 2 0), l_able, []⟩ 30 (smA) (rwS 0) (one4 ++ (fR 1 ++ (fA 2 ++ fB 0))) = sm120 := by kernel_rfl
def sm121 : T (X × XDl) := (.ret ((.tup []), [((0, 0), some [(.rows 1 (.len 0) (.var 0 [.s]))])]))
set_option maxRecDepth 100000 in
theorem sm121_run : askH ⟨cfgH [] lpMc (khL 1 2 1), l_able, []⟩ 30 (smA) (rwS 0) (one4 ++ (fR 1 ++ (fA 2 ++ fB 1))) = sm121 := by kernel_rfl
def sm122 : T (X × XDl) := (.ret ((.tup []), [((0, 0), some [(.rows 1 (.len 0) (.var 0 [.s]))])]))
set_option maxRecDepth 100000 in
theorem sm122_run : askH ⟨cfgH [] lpMc (khL 1 2 2), l_able, []⟩ 30 (smA) (rwS 0) (one4 ++ (fR 1 ++ (fA 2 ++ fB 2))) = sm122 := by kernel_rfl
def sm200 : T (X × XDl) := (.ret ((.tup []), [((0, 0), some [(.rows 1 (.len 0) (.var 142 [.s]))])]))
set_option maxRecDepth 100000 in
theorem sm200_run : askH ⟨cfgH [] lpMc (khL 2 0 0), l_able, []⟩ 30 (smA) (rwS 0) (one4 ++ (fR 2 ++ (fA 0 ++ fB 0))) = sm200 := by kernel_rfl
def sm201 : T (X × XDl) := (.ret ((.tup []), [((0, 0), some [(.rows 1 (.len 0) (.var 141 [.s]))])]))
set_option maxRecDepth 100000 in
theorem sm201_run : askH ⟨cfgH [] lpMc (khL 2 0 1), l_able, []⟩ 30 (smA) (rwS 0) (one4 ++ (fR 2 ++ (fA 0 ++ fB 1))) = sm201 := by kernel_rfl
def sm202 : T (X × XDl) := (.ret ((.tup []), [((0, 0), some [(.rows 1 (.len 0) (.var 141 [.s]))])]))
set_option maxRecDepth 100000 in
theorem sm202_run : askH ⟨cfgH [] lpMc (khL 2 0 2), l_able, []⟩ 30 (smA) (rwS 0) (one4 ++ (fR 2 ++ (fA 0 ++ fB 2))) = sm202 := by kernel_rfl
def sm210 : T (X × XDl) := (.ret ((.tup []), [((0, 0), some [(.rows 1 (.len 0) (.var 142 [.s]))])]))
set_option maxRecDepth 100000 in
theorem sm210_run : askH ⟨cfgH [] lpMc (khL 2 1 0), l_able, []⟩ 30 (smA) (rwS 0) (one4 ++ (fR 2 ++ (fA 1 ++ fB 0))) = sm210 := by kernel_rfl
def sm211 : T (X × XDl) := (.ret ((.tup []), [((0, 0), some [(.rows 1 (.len 0) (.var 0 [.s]))])]))
set_option maxRecDepth 100000 in
theorem sm211_run : askH ⟨cfgH [] lpMc (khL 2 1 1), l_able, []⟩ 30 (smA) (rwS 0) (one4 ++ (fR 2 ++ (fA 1 ++ fB 1))) = sm211 := by kernel_rfl
def sm212 : T (X × XDl) := (.ret ((.tup []), [((0, 0), some [(.rows 1 (.len 0) (.var 0 [.s]))])]))
set_option maxRecDepth 100000 in
theorem sm212_run : askH ⟨cfgH [] lpMc (khL 2 1 2), l_able, []⟩ 30 (smA) (rwS 0) (one4 ++ (fR 2 ++ (fA 1 ++ fB 2))) = sm212 := by kernel_rfl
def sm220 : T (X × XDl) := (.ret ((.tup []), [((0, 0), some [(.rows 1 (.len 0) (.var 142 [.s]))])]))
set_option maxRecDepth 100000 in
theorem sm220_run : askH ⟨cfgH [] lpMc (khL 2 2 0), l_able, []⟩ 30 (smA) (rwS 0) (one4 ++ (fR 2 ++ (fA 2 ++ fB 0))) = sm220 := by kernel_rfl
def sm221 : T (X × XDl) := (.ret ((.tup []), [((0, 0), some [(.rows 1 (.len 0) (.var 0 [.s]))])]))
set_option maxRecDepth 100000 in
theorem sm221_run : askH ⟨cfgH [] lpMc (khL 2 2 1), l_able, []⟩ 30 (smA) (rwS 0) (one4 ++ (fR 2 ++ (fA 2 ++ fB 1))) = sm221 := by kernel_rfl
def sm222 : T (X × XDl) := (.ret ((.tup []), [((0, 0), some [(.rows 1 (.len 0) (.var 0 [.s]))])]))
set_option maxRecDepth 100000 in
theorem sm222_run : askH ⟨cfgH [] lpMc (khL 2 2 2), l_able, []⟩ 30 (smA) (rwS 0) (one4 ++ (fR 2 ++ (fA 2 ++ fB 2))) = sm222 := by kernel_rfl
end Go.Proofs.Ytegekgjjoojgdaa

/- Ring: a contract of symMerge: two sorted rows become one. -/
namespace Go.Proofs.Ytegekgjjoojgdaa
open Go Go.Proofs.Aw Go.Proofs.Xw Go.Proofs.Sr
set_option maxRecDepth 100000
theorem sm_all : ∀ r a b : Nat, r < 3 → a < 3 → b < 3 → askH ⟨cfgH [] lpMc (khL r a b), l_able, []⟩ 30 smA (rwS 0) (one4 ++ (fR r ++ (fA a ++ fB b))) = .ret (.tup [], [((0, 0), some (rwS (rowB r a b)))])
  | 0, 0, 0, _, _, _ => sm000_run
  | 0, 0, 1, _, _, _ => sm001_run
  | 0, 0, 2, _, _, _ => sm002_run
  | 0, 1, 0, _, _, _ => sm010_run
  | 0, 1, 1, _, _, _ => sm011_run
  | 0, 1, 2, _, _, _ => sm012_run
  | 0, 2, 0, _, _, _ => sm020_run
  | 0, 2, 1, _, _, _ => sm021_run
  | 0, 2, 2, _, _, _ => sm022_run
  | 1, 0, 0, _, _, _ => sm100_run
  | 1, 0, 1, _, _, _ => sm101_run
  | 1, 0, 2, _, _, _ => sm102_run
  | 1, 1, 0, _, _, _ => sm110_run
  | 1, 1, 1, _, _, _ => sm111_run
  | 1, 1, 2, _, _, _ => sm112_run
  | 1, 2, 0, _, _, _ => sm120_run
  | 1, 2, 1, _, _, _ => sm121_run
  | 1, 2, 2, _, _, _ => sm122_run
  | 2, 0, 0, _, _, _ => sm200_run
  | 2, 0, 1, _, _, _ => sm201_run
  | 2, 0, 2, _, _, _ => sm202_run
  | 2, 1, 0, _, _, _ => sm210_run
  | 2, 1, 1, _, _, _ => sm211_run
  | 2, 1, 2, _, _, _ => sm212_run
  | 2, 2, 0, _, _, _ => sm220_run
  | 2, 2, 1, _, _, _ => sm221_run
  | 2, 2, 2, _, _, _ => sm222_run
  | r + 3, _, _, h, _, _ => absurd h (by omega)
  | _, a + 3, _, _, h, _ => absurd h (by omega)
  | _, _, b + 3, _, _, h => absurd h (by omega)
/-- Which of the three ways two conditions go. -/
def way (p q : Prop) [Decidable p] [Decidable q] : Nat := if p then (if q then 0 else 2) else 1
theorem way_lt (p q : Prop) [Decidable p] [Decidable q] : way p q < 3 := by unfold way; split <;> (try split) <;> omega
theorem way_0 {p q : Prop} [Decidable p] [Decidable q] : way p q = 0 ↔ p ∧ q := by
  unfold way
  by_cases hp : p
  · by_cases hq : q
    · simp [hp, hq]
    · simp [hp, hq]
  · simp [hp]
theorem two_ok {ρ : Rho} {c1 c2 : BE} {p q : Prop} [Decidable p] [Decidable q] (h1 : c1.den ρ = decide p) (h2 : c2.den ρ = decide q) : Facts.ok ρ (two c1 c2 (way p q)) := by
  unfold way
  by_cases hp : p
  · by_cases hq : q
    · rw [if_pos hp, if_pos hq]
      exact Facts.ok_cons (by rw [h1]; exact decide_eq_true hp) (Facts.ok_cons (by rw [h2]; exact decide_eq_true hq) (Facts.ok_nil _))
    · rw [if_pos hp, if_neg hq]
      exact Facts.ok_cons (by rw [h1]; exact decide_eq_true hp) (Facts.ok_cons (by rw [h2]; exact decide_eq_false hq) (Facts.ok_nil _))
  · rw [if_neg hp]
    exact Facts.ok_cons (by rw [h1]; exact decide_eq_false hp) (Facts.ok_nil _)
theorem if0_ok {ρ : Rho} {k : HK} {n : Nat} (h : n = 0 → HKOk Try.prog ρ k) : ∀ q ∈ if0 k n, HKOk Try.prog ρ q := by
  match n, h with
  | 0, h => exact List.forall_mem_cons.2 ⟨h rfl, List.forall_mem_nil _⟩
  | n + 1, _ => exact List.forall_mem_nil _
theorem lt_dec {ρ : Rho} {x y : IE} {i j : Nat} (hx : x.den ρ = i) (hy : y.den ρ = j) : (BE.lt x y).den ρ = decide (i < j) := by
  show decide (x.den ρ < y.den ρ) = _
  rw [hx, hy]; exact decide_eq_decide.2 (by omega)
theorem eq_dec {ρ : Rho} {x y : IE} {i j : Nat} (hx : x.den ρ = i) (hy : y.den ρ = j) : (BE.eq x y).den ρ = decide (i = j) := by
  show (x.den ρ == y.den ρ) = _
  rw [hx, hy, Bool.eq_iff_iff, beq_iff_eq, decide_eq_true_iff]; omega
theorem rot_m (f : Nat → ByteArray) (s m e : Nat) (h : s = m ∨ e = m) : rot f s m e = f := by
  funext k
  unfold rot
  rcases h with h | h
  · subst h
    by_cases c : s ≤ k ∧ k < s + (e - s)
    · rw [if_pos c]; congr 1; omega
    · rw [if_neg c]
      by_cases c2 : s + (e - s) ≤ k ∧ k < e
      · omega
      · rw [if_neg c2]
  · subst h
    rw [if_neg (by omega)]
    by_cases c2 : s + (e - e) ≤ k ∧ k < e
    · rw [if_pos c2]; congr 1; omega
    · rw [if_neg c2]
section
variable {lt : ByteArray → ByteArray → Prop}
theorem szs_sw {g h : Nat → ByteArray} {a b n : Nat} (w : Sw a b g h) (hb : b ≤ n) (hz : Szs g n) : Szs h n := fun k hk => by
  by_cases c : a ≤ k ∧ k < b
  · exact w.all (Q := fun x => x.size < 9223372036854775808) (fun k h1 h2 => hz k (by omega)) k c.1 c.2
  · rw [w.out (by omega)]; exact hz k hk
theorem rho_sm {a m b len : Nat} {g : Nat → ByteArray} (h1 : a < m) (h2 : m < b) (h3 : b ≤ len) (hl : len < 1000000) (hz : Szs g len) : SmA (rho0 [0, a, m, b] len g) a m b := ⟨rfl, rfl, rfl, h1, h2, h3, hl, hz⟩
/-- Where the left row is one string. -/
theorem sym_a (o : Ord lt) (ck : CK lt) {a b len : Nat} {g : Nat → ByteArray} (h2 : a + 1 < b) (h3 : b ≤ len) (hl : len < 1000000) (hz : Szs g len) (hs : Srt lt g (a + 1) b) :
    ∃ h, Sw a b g h ∧ Srt lt h a b ∧ HS 30 [slV len, nV a, nV (a + 1), nV b, cmpV] len g h := by
  have h := rho_sm (a := a) (m := a + 1) (b := b) (len := len) (g := g) (by omega) h2 h3 hl hz
  generalize hρ : rho0 [0, (a : Int), ((a + 1 : Nat) : Int), (b : Int)] len g = ρ at h
  have hg : stR ρ 0 = g := by rw [← hρ]; rfl
  have hlen : ρ.len 0 = len := by rw [← hρ]; rfl
  obtain ⟨ρ1, ag1, ⟨hA, hf, i, j, hi, hj, hI⟩, he, L0⟩ := m0_ok ck ρ h (fun k x q1 q2 q3 q4 => by
    rw [hg] at q4 ⊢
    rcases o.tot (g k) (g a) with c | c | c
    · exact c
    · exact absurd (c ▸ q4 : lt (g x) (g k)) (hs k x q1 q2 q3)
    · exact absurd (o.tr _ _ _ q4 c) (hs k x q1 q2 q3))
  have hij : i = j := by rw [hi, hj] at he; omega
  subst hij
  have i1 := hI.h1; have i2 := hI.h3
  obtain ⟨ρ2, ag2, ⟨hA2, hi2, k, hk, k1, k2, hsh⟩, hk2, L1⟩ := m1_ok ρ1 hA hi ⟨by omega, i2⟩
  have hki : k = i - 1 := by rw [hk] at hk2; omega
  subst hki
  have L0' : LoopOk Try.prog ρ2 Try.f30.ntmps m0_c m0 := LoopOk.agree (B := 126) (show m0.S.bel 126 = true by kernel_rfl) rfl (show m0.out.belX 126 = true by kernel_rfl) ag2 L0
  rw [hf, hg] at hsh
  refine ⟨shl g a (i - 1), shl_sw g (Nat.le_refl _) (i - 1 - a) _ (by omega) (by omega), shl_srt o hs ⟨by omega, by omega⟩ (fun q => ?_) (fun q => ?_), ?_⟩
  · have := hI.up (i - 1) (by omega) (by omega)
    rw [hg] at this; exact this
  · have := hI.dn i (Nat.le_refl _) (by omega)
    rw [hg] at this
    rw [show i - 1 + 1 = i by omega]; exact this
  · have hk := askH_ok (c := ⟨cfgL [] lpMa, l_able, []⟩) (f := 30) (args := smA) (inn := rwS 0) (out := rwS 127) (Φ := one1) (r := .tup []) (cfgL_ok (List.forall_mem_nil _) (lpMa_ok L0' L1)) l_able_ok
      (Facts.ok_cons (by rw [deq_t]; show IOp.den .sub .i64 (ρ2.i 2) (ρ2.i 1) = 1; rw [hA2.em, hA2.ea, sub_nat (by omega) (by omega)]; omega) (Facts.ok_nil _)) (by rw [smHa_run]; rfl) (by kernel_rfl)
    have q := HS.of hk
    have ag : Agree 120 ρ ρ2 := ag1.trans (ag2.le (by decide))
    rw [hsh, agree_st ag (by decide), hg, ← ag.len 0 (by decide), hlen, ← X.belL_den ag smA (by kernel_rfl)] at q
    rw [← hρ] at q
    exact q
/-- Where the right row is one string. -/
theorem sym_b (o : Ord lt) (ck : CK lt) {a m len : Nat} {g : Nat → ByteArray} (h1 : a + 1 < m) (h3 : m + 1 ≤ len) (hl : len < 1000000) (hz : Szs g len) (hs : Srt lt g a m) :
    ∃ h, Sw a (m + 1) g h ∧ Srt lt h a (m + 1) ∧ HS 30 [slV len, nV a, nV m, nV (m + 1), cmpV] len g h := by
  have h := rho_sm (a := a) (m := m) (b := m + 1) (len := len) (g := g) (by omega) (by omega) h3 hl hz
  generalize hρ : rho0 [0, (a : Int), (m : Int), ((m + 1 : Nat) : Int)] len g = ρ at h
  have hg : stR ρ 0 = g := by rw [← hρ]; rfl
  have hlen : ρ.len 0 = len := by rw [← hρ]; rfl
  obtain ⟨ρ1, ag1, ⟨hA, hf, i, j, hi, hj, hI⟩, he, L0⟩ := m2_ok ck ρ h (fun k x q1 q2 q3 q4 => by
    rw [hg] at q4 ⊢
    exact o.le_trans (hs k x q1 q2 q3) q4)
  have hij : i = j := by rw [hi, hj] at he; omega
  subst hij
  have i1 := hI.h1; have i2 := hI.h3
  obtain ⟨ρ2, ag2, ⟨hA2, hi2, k, hk, k1, k2, hsh⟩, hk2, L1⟩ := m3_ok ρ1 hA hi ⟨i1, i2⟩
  have hki : k = i := by rw [hk] at hk2; omega
  subst hki
  have L0' : LoopOk Try.prog ρ2 Try.f30.ntmps m2_c m2 := LoopOk.agree (B := 126) (show m2.S.bel 126 = true by kernel_rfl) rfl (show m2.out.belX 126 = true by kernel_rfl) ag2 L0
  rw [hf, hg] at hsh
  refine ⟨shr g m k, shr_sw g (by omega) (m - k) _ (by omega) i1, shr_srt o hs ⟨i1, i2⟩ (fun q => ?_) (fun q => ?_), ?_⟩
  · have := hI.up (k - 1) (by omega) (by omega)
    rw [hg] at this; exact this
  · have := hI.dn k (Nat.le_refl _) q
    rw [hg] at this; exact Classical.byContradiction this
  · have hk := askH_ok (c := ⟨cfgL [] lpMb, l_able, []⟩) (f := 30) (args := smA) (inn := rwS 0) (out := rwS 127) (Φ := one2) (r := .tup []) (cfgL_ok (List.forall_mem_nil _) (lpMb_ok L0' L1)) l_able_ok
      (Facts.ok_cons (by rw [deq_f]; show ¬ IOp.den .sub .i64 (ρ2.i 2) (ρ2.i 1) = 1; rw [hA2.em, hA2.ea, sub_nat (by omega) (by omega)]; omega) (Facts.ok_cons (by rw [deq_t]; show IOp.den .sub .i64 (ρ2.i 3) (ρ2.i 2) = 1; rw [hA2.em, hA2.eb, sub_nat (by omega) (by omega)]; omega) (Facts.ok_nil _))) (by rw [smHb_run]; rfl) (by kernel_rfl)
    have q := HS.of hk
    have ag : Agree 120 ρ ρ2 := ag1.trans (ag2.le (by decide))
    rw [hsh, agree_st ag (by decide), hg, ← ag.len 0 (by decide), hlen, ← X.belL_den ag smA (by kernel_rfl)] at q
    rw [← hρ] at q
    exact q
/-- One run of symMerge's body, whichever way it goes. -/
theorem sym_run {ρ2 : Rho} {a m b st mid e len : Nat} {g G H1 H2 : Nat → ByteArray} (hA2 : SmA ρ2 a m b) (ca : ¬ m = a + 1) (cb : ¬ b = m + 1) (h1 : a < m) (h2 : m < b) (hbig : b < 1000000) (y0 : stR ρ2 0 = g) (y1 : stR ρ2 140 = G) (y2 : stR ρ2 141 = H1) (y3 : stR ρ2 142 = H2) (yl : ρ2.len 0 = len)
    (z130 : ρ2.i 130 = st) (z132 : ρ2.i 132 = mid) (dE : eE.den ρ2 = e) (L4' : LoopOk Try.prog ρ2 Try.f30.ntmps m4_c m4)
    (hR : st < m ∧ m < e → HS 34 [slV len, nV st, nV m, nV e, cmpV] len g G) (eR : ¬ (st < m ∧ m < e) → G = g)
    (k1 : a < st ∧ st < mid → HS 30 [slV len, nV a, nV st, nV mid, cmpV] len G H1) (f1 : ¬ (a < st ∧ st < mid) → H1 = G)
    (k2 : mid < e ∧ e < b → HS 30 [slV len, nV mid, nV e, nV b, cmpV] len H1 H2) (f2 : ¬ (mid < e ∧ e < b) → H2 = H1) :
    HKOk Try.prog ρ2 ⟨30, smA, rwS 0, rwS (rowB (way (st < m) (m < e)) (way (a < st) (st < mid)) (way (mid < e) (e < b))), .tup []⟩ ∧ stR ρ2 (rowB (way (st < m) (m < e)) (way (a < st) (st < mid)) (way (mid < e) (e < b))) = H2 := by
  have s2 : ∀ r, (r = 0 ↔ st < m ∧ m < e) → stR ρ2 (rowR r) = G := fun r hr => by
    match r, hr with
    | 0, _ => exact y1
    | r + 1, hr => exact y0.trans (eR (fun q => absurd (hr.2 q) (by omega))).symm
  have s3 : ∀ r c, (r = 0 ↔ st < m ∧ m < e) → (c = 0 ↔ a < st ∧ st < mid) → stR ρ2 (rowA r c) = H1 := fun r c hr hc => by
    match c, hc with
    | 0, _ => exact y2
    | c + 1, hc => exact (s2 r hr).trans (f1 (fun q => absurd (hc.2 q) (by omega))).symm
  have s4 : ∀ r c d, (r = 0 ↔ st < m ∧ m < e) → (c = 0 ↔ a < st ∧ st < mid) → (d = 0 ↔ mid < e ∧ e < b) → stR ρ2 (rowB r c d) = H2 := fun r c d hr hc hd => by
    match d, hd with
    | 0, _ => exact y3
    | d + 1, hd => exact (s3 r c hr hc).trans (f2 (fun q => absurd (hd.2 q) (by omega))).symm
  have n1 : X.den ρ2 (iV 1) = nV a := i_den _ _ hA2.ea
  have n2 : X.den ρ2 (iV 2) = nV m := i_den _ _ hA2.em
  have n3 : X.den ρ2 (iV 3) = nV b := i_den _ _ hA2.eb
  have n4 : X.den ρ2 (iV 130) = nV st := i_den _ _ z130
  have n5 : X.den ρ2 (iV 132) = nV mid := i_den _ _ z132
  have n6 : X.den ρ2 (.sc (.i .i64 eE)) = nV e := i_den _ _ dE
  have wr : way (st < m) (m < e) = 0 ↔ st < m ∧ m < e := way_0
  have wa : way (a < st) (st < mid) = 0 ↔ a < st ∧ st < mid := way_0
  have wb : way (mid < e) (e < b) = 0 ↔ mid < e ∧ e < b := way_0
  refine ⟨?_, s4 _ _ _ wr wa wb⟩
  exact askH_ok (c := ⟨cfgH [] lpMc (khL (way (st < m) (m < e)) (way (a < st) (st < mid)) (way (mid < e) (e < b))), l_able, []⟩) (ρ := ρ2) (f := 30) (args := smA) (inn := rwS 0) (out := rwS (rowB (way (st < m) (m < e)) (way (a < st) (st < mid)) (way (mid < e) (e < b)))) (r := .tup [])
    (Φ := one4 ++ (fR (way (st < m) (m < e)) ++ (fA (way (a < st) (st < mid)) ++ fB (way (mid < e) (e < b)))))
    (cfgH_ok (List.forall_mem_nil _) (lpMc_ok L4') (by
      unfold khL
      intro q hq
      rcases List.mem_append.1 hq with hq | hq
      · refine if0_ok (fun h => HS.hk ?_) q hq
        rw [y0, y1, yl]; simp only [X.denL, slD_den, cmp_den, n4, n2, n6, yl]
        exact hR (wr.1 h)
      · rcases List.mem_append.1 hq with hq | hq
        · refine if0_ok (fun h => HS.hk ?_) q hq
          rw [s2 _ wr, y2, yl]; simp only [X.denL, slD_den, cmp_den, n1, n4, n5, yl]
          exact k1 (wa.1 h)
        · refine if0_ok (fun h => HS.hk ?_) q hq
          rw [s3 _ _ wr wa, y3, yl]; simp only [X.denL, slD_den, cmp_den, n5, n6, n3, yl]
          exact k2 (wb.1 h)))
    l_able_ok
    (all_ok (Facts.ok_cons (by rw [deq_f]; show ¬ IOp.den .sub .i64 (ρ2.i 2) (ρ2.i 1) = 1; rw [hA2.em, hA2.ea, sub_nat (by omega) (by omega)]; omega) (Facts.ok_cons (by rw [deq_f]; show ¬ IOp.den .sub .i64 (ρ2.i 3) (ρ2.i 2) = 1; rw [hA2.em, hA2.eb, sub_nat (by omega) (by omega)]; omega) (Facts.ok_nil _)))
      (all_ok (two_ok (lt_dec (i := st) (j := m) z130 hA2.em) (lt_dec (i := m) (j := e) hA2.em dE)) (all_ok (two_ok (lt_dec (i := a) (j := st) hA2.ea z130) (lt_dec (i := st) (j := mid) z130 z132)) (two_ok (lt_dec (i := mid) (j := e) z132 dE) (lt_dec (i := e) (j := b) dE hA2.eb)))))
    (by rw [sm_all _ _ _ (way_lt _ _) (way_lt _ _) (way_lt _ _)]; rfl) (show (X.nmsL nm00 smA && (true && (true && true))) = true by kernel_rfl)
/-- symMerge. -/
theorem sym_hs (o : Ord lt) (ck : CK lt) : ∀ (n a m b len : Nat) (g : Nat → ByteArray), b - a ≤ n → a < m → m < b → b ≤ len → len < 1000000 → Szs g len → Srt lt g a m → Srt lt g m b →
    ∃ h, Sw a b g h ∧ Srt lt h a b ∧ HS 30 [slV len, nV a, nV m, nV b, cmpV] len g h
  | 0, a, m, b, len, g, hn, h1, h2, _, _, _, _, _ => by omega
  | n + 1, a, m, b, len, g, hn, h1, h2, h3, hl, hz, sa, sb => by
    by_cases ca : m = a + 1
    · subst ca; exact sym_a o ck h2 h3 hl hz sb
    by_cases cb : b = m + 1
    · subst cb; exact sym_b o ck (by omega) h3 hl hz sa
    have hS := rho_sm (a := a) (m := m) (b := b) (len := len) (g := g) h1 h2 h3 hl hz
    generalize hρ : rho0 [0, (a : Int), (m : Int), (b : Int)] len g = ρ at hS
    have hg : stR ρ 0 = g := by rw [← hρ]; rfl
    have hlen : ρ.len 0 = len := by rw [← hρ]; rfl
    have q0 : ((a + b) / 2 < m ∧ st0 a m b = (a + b) / 2 + m - b ∧ r0 a m b = (a + b) / 2) ∨ (¬ (a + b) / 2 < m ∧ st0 a m b = a ∧ r0 a m b = m) := by
      unfold st0 r0
      by_cases c : (a + b) / 2 < m
      · exact .inl ⟨c, if_pos c, if_pos c⟩
      · exact .inr ⟨c, if_neg c, if_neg c⟩
    have s0 : a ≤ st0 a m b ∧ (a + b) / 2 + m ≤ b + st0 a m b := by omega
    have r1 : r0 a m b ≤ m ∧ r0 a m b ≤ (a + b) / 2 := by omega
    obtain ⟨ρ1, ag1, ⟨hA, hf, x132, x133, x134, st, j, hi, hj, hI⟩, he, L4⟩ := m4_ok ck ρ hS (fun k x q1 q2 q3 q4 => by
      rw [hg] at q4 ⊢
      refine o.le_trans (o.le_trans (sa k x (by omega) q2 (by omega)) q4) (sb _ _ (by omega) (by omega) (by omega)))
    have hij : st = j := by rw [hi, hj] at he; omega
    subst hij
    rw [hg] at hI
    have i1 := hI.h1; have i2 := hI.h3
    generalize hmid : (a + b) / 2 = mid at *
    generalize hE : mid + m - st = e
    have cut : Cut lt g a m b st := by
      refine ⟨by omega, by omega, by omega, by omega, by omega, fun q1 q2 => ?_, fun q1 q2 => ?_⟩
      · have : st0 a m b ≤ st - 1 := by omega
        have u := hI.up (st - 1) this (by omega)
        rw [hmid]
        rw [show mid + m - 1 - (st - 1) = mid + m - st by omega] at u
        exact u
      · have : st < r0 a m b := by omega
        have u := hI.dn st (Nat.le_refl _) this
        rw [hmid]
        rw [show mid + m - 1 - st = mid + m - st - 1 by omega] at u
        exact Classical.byContradiction u
    have e1 := cut.e1; have e2 := cut.e2; have c1 := cut.s1; have c2 := cut.s2
    rw [hmid] at e1 e2 c2
    rw [hE] at e1 e2
    obtain ⟨u1, u2, u3, u4, ul⟩ := Cut.halves o ⟨by omega, by omega⟩ sa sb cut (mid := mid) (e := e) hmid.symm hE.symm
    -- the turn
    have hR : st < m ∧ m < e → HS 34 [slV len, nV st, nV m, nV e, cmpV] len g (rot g st m e) := fun q => rot_hs q.1 q.2 (by omega) hl
    have wR : Sw a b g (rot g st m e) := by
      by_cases q : st < m ∧ m < e
      · exact (rot_swaps g q.1 q.2).wide (by omega) (by omega)
      · rw [rot_m g st m e (by omega)]; exact .refl _
    have eR : ¬ (st < m ∧ m < e) → rot g st m e = g := fun q => rot_m g st m e (by omega)
    generalize rot g st m e = G at *
    have zG := szs_sw wR h3 hz
    -- the left half
    obtain ⟨H1, w1, t1, k1, f1⟩ : ∃ H1, Sw a mid G H1 ∧ Srt lt H1 a mid ∧ (a < st ∧ st < mid → HS 30 [slV len, nV a, nV st, nV mid, cmpV] len G H1) ∧ (¬ (a < st ∧ st < mid) → H1 = G) := by
      by_cases q : a < st ∧ st < mid
      · obtain ⟨H1, w, t, k⟩ := sym_hs o ck n a st mid len G (by omega) q.1 q.2 (by omega) hl zG u1 u2
        exact ⟨H1, w, t, fun _ => k, fun h => absurd q h⟩
      · refine ⟨G, .refl _, ?_, fun h => absurd h q, fun _ => rfl⟩
        by_cases q2 : st = a
        · rw [q2] at u2; exact u2
        · rw [show st = mid by omega] at u1; exact u1
    have z1 := szs_sw w1 (by omega) zG
    have v3 : Srt lt H1 mid e := u3.congr fun k q1 q2 => w1.out (.inr q1)
    have v4 : Srt lt H1 e b := u4.congr fun k q1 q2 => w1.out (.inr (by omega))
    -- the right half
    obtain ⟨H2, w2, t2, k2, f2⟩ : ∃ H2, Sw mid b H1 H2 ∧ Srt lt H2 mid b ∧ (mid < e ∧ e < b → HS 30 [slV len, nV mid, nV e, nV b, cmpV] len H1 H2) ∧ (¬ (mid < e ∧ e < b) → H2 = H1) := by
      by_cases q : mid < e ∧ e < b
      · obtain ⟨H2, w, t, k⟩ := sym_hs o ck n mid e b len H1 (by omega) q.1 q.2 h3 hl z1 v3 v4
        exact ⟨H2, w, t, fun _ => k, fun h => absurd q h⟩
      · refine ⟨H1, .refl _, ?_, fun h => absurd h q, fun _ => rfl⟩
        by_cases q2 : e = mid
        · rw [q2] at v4; exact v4
        · rw [show e = b by omega] at v3; exact v3
    refine ⟨H2, (wR.trans (w1.wide (by omega) (by omega))).trans (w2.wide (by omega) (by omega)), halves_join ul w1 w2 t1 t2, ?_⟩
    -- the run
    have a2 : Agree 140 ρ1 (putR (putR (putR ρ1 140 G) 141 H1) 142 H2) := ((putR_agree _ _ _ (by decide)).trans (putR_agree _ _ _ (by decide))).trans (putR_agree _ _ _ (by decide))
    have y0 : stR (putR (putR (putR ρ1 140 G) 141 H1) 142 H2) 0 = g := by rw [agree_st a2 (by decide), hf, hg]
    have y1 : stR (putR (putR (putR ρ1 140 G) 141 H1) 142 H2) 140 = G := by rw [putR_ne _ _ _ (by decide), putR_ne _ _ _ (by decide), putR_st]
    have y2 : stR (putR (putR (putR ρ1 140 G) 141 H1) 142 H2) 141 = H1 := by rw [putR_ne _ _ _ (by decide), putR_st]
    have y3 : stR (putR (putR (putR ρ1 140 G) 141 H1) 142 H2) 142 = H2 := putR_st _ _ _
    have yl : (putR (putR (putR ρ1 140 G) 141 H1) 142 H2).len 0 = len := by rw [← a2.len 0 (by decide), ← ag1.len 0 (by decide)]; exact hlen
    have hA2 := hA.agree a2 (by decide)
    have z130 : (putR (putR (putR ρ1 140 G) 141 H1) 142 H2).i 130 = st := hi
    have z132 : (putR (putR (putR ρ1 140 G) 141 H1) 142 H2).i 132 = mid := x132
    have z133 : (putR (putR (putR ρ1 140 G) 141 H1) 142 H2).i 133 = ((mid + m : Nat) : Int) := x133
    have L4' : LoopOk Try.prog (putR (putR (putR ρ1 140 G) 141 H1) 142 H2) Try.f30.ntmps m4_c m4 := LoopOk.agree (B := 140) (show m4.S.bel 140 = true by kernel_rfl) rfl (show m4.out.belX 140 = true by kernel_rfl) a2 L4
    have ag : Agree 130 ρ (putR (putR (putR ρ1 140 G) 141 H1) 142 H2) := ag1.trans (a2.le (by decide))
    generalize putR (putR (putR ρ1 140 G) 141 H1) 142 H2 = ρ2 at *
    have dE : eE.den ρ2 = e := by show IOp.den .sub .i64 (ρ2.i 133) (ρ2.i 130) = _; rw [z133, z130, ← hE]; exact sub_nat (by omega) (by omega)
    obtain ⟨hk, hs4⟩ := sym_run hA2 ca cb h1 h2 (by omega) y0 y1 y2 y3 yl z130 z132 dE L4' hR eR k1 f1 k2 f2
    have q := HS.of hk
    rw [y0, hs4, yl, ← X.belL_den ag smA (by kernel_rfl)] at q
    rw [← hρ] at q
    exact q
end
end Go.Proofs.Ytegekgjjoojgdaa

/- Loops whose rounds have letters of their own: what is run once. -/
namespace Go.Proofs.Ytegekgjjoojgdaa
open Go Go.Proofs.Aw Go.Proofs.Xw
set_option maxRecDepth 100000
def isA : List X := [slD, iV 1, iV 2, cmpX]
def at3 (e : IE) : X := .sc (.s (.cl 153 0 e))
def ksJ : List (Nat × List X × X) := [(15, [at3 (.var 152), at3 (.op .sub .i64 (.var 152) (.lit 1))], iV 154)]

/-! ij: letters {9: 152} rows 153; entered under [] -/
noncomputable def ij_c : Code := (loopsOf (Try.f29.body.getD .skip))[1]?.getD .skip
def ij_E : XS := ⟨[(9, (.sc (.i .i64 (.var 150)))), (17, .top), (14, .top), (13, .top), (12, .top), (8, (.sc (.i .i64 (.var 150)))), (11, .top), (10, .top), (0, (.slv (0, 0) 1 (.lit (0 : Int)) (.len 0) true)), (1, (.sc (.i .i64 (.var 1)))), (2, (.sc (.i .i64 (.var 2)))), (3, (.fn (.func 15) [] []))], [((0, 0), [(.rows 1 (.len 0) (.var 151 [.s]))])], 10⟩
def ij_S : XS := ⟨[(9, (.sc (.i .i64 (.var 152)))), (17, .top), (14, .top), (13, .top), (12, .top), (8, (.sc (.i .i64 (.var 150)))), (11, .top), (10, .top), (0, (.slv (0, 0) 1 (.lit (0 : Int)) (.len 0) true)), (1, (.sc (.i .i64 (.var 1)))), (2, (.sc (.i .i64 (.var 2)))), (3, (.fn (.func 15) [] []))], [((0, 0), [(.rows 1 (.len 0) (.var 153 [.s]))])], 10⟩
def ij_I : Bind := ⟨[(152, (.var 150))], [], [], [(153, (.len 0), (.var 151 [.s]))]⟩
def ij_ks : List Nat := [9, 17, 14, 13, 12, 8, 11, 10, 0, 1, 2, 3]
theorem ij_Iok : okS 2 152 ij_I (nmS ij_S ij_E) ij_S ij_E = true := by kernel_rfl
theorem ij_Ig : ij_I.ge 152 = true := by kernel_rfl
theorem ij_Eb : ij_E.bel 152 = true := by kernel_rfl
theorem ij_fits : fitsC Try.f29.ntmps ij_c = true := by kernel_rfl
theorem ij_I152 : lassoc 152 ij_I.i = some (.var 150) := by kernel_rfl
theorem ij_Ir : lassoc 153 ij_I.r = some ((.len 0), (.var 151 [.s])) := by kernel_rfl
def ij_G_r : T (XE × XS) := (.need (.and (.not (.lt (.var 152) (.lit (0 : Int)))) (.and (.lt (.var 152) (.len 0)) (.and (.not (.lt (.op .sub .i64 (.var 152) (.lit (1 : Int))) (.lit (0 : Int)))) (.lt (.op .sub .i64 (.var 152) (.lit (1 : Int))) (.len 0))))) (.ret (.normal, ⟨[(9, (.sc (.i .i64 (.op .sub .i64 (.var 152) (.lit (1 : Int)))))), (17, .top), (14, .top), (13, .top), (12, .top), (8, (.sc (.i .i64 (.var 150)))), (11, .top), (10, .top), (0, (.slv (0, 0) 1 (.lit (0 : Int)) (.len 0) true)), (1, (.sc (.i .i64 (.var 1)))), (2, (.sc (.i .i64 (.var 2)))), (3, (.fn (.func 15) [] []))], [((0, 0), [(.rows 1 (.len 0) (.upd (.op .sub .i64 (.var 152) (.lit (1 : Int))) [(.s (.cl 153 0 (.var 152)))] (.upd (.var 152) [(.s (.cl 153 0 (.op .sub .i64 (.var 152) (.lit (1 : Int)))))] (.var 153 [.s]))))])], 48⟩)))
theorem ij_G_run : (codeX (cfgL ksJ (fun _ => [])).ti (callS ⟨(cfgL ksJ (fun _ => [])), l_able, []⟩ 12) (((cfgL ksJ (fun _ => [])).ft 29).elim [] (·.ms)) 2 ((cfgL ksJ (fun _ => [])).lp 29) 1000 ij_c ([(.lt (.var 1) (.var 152), true), (.lt (.var 154) (.lit 0), true)]) ij_S).map (sqz ij_ks) = ij_G_r := by kernel_rfl
def ij_G_s : XS := ⟨[(9, (.sc (.i .i64 (.op .sub .i64 (.var 152) (.lit (1 : Int)))))), (17, .top), (14, .top), (13, .top), (12, .top), (8, (.sc (.i .i64 (.var 150)))), (11, .top), (10, .top), (0, (.slv (0, 0) 1 (.lit (0 : Int)) (.len 0) true)), (1, (.sc (.i .i64 (.var 1)))), (2, (.sc (.i .i64 (.var 2)))), (3, (.fn (.func 15) [] []))], [((0, 0), [(.rows 1 (.len 0) (.upd (.op .sub .i64 (.var 152) (.lit (1 : Int))) [(.s (.cl 153 0 (.var 152)))] (.upd (.var 152) [(.s (.cl 153 0 (.op .sub .i64 (.var 152) (.lit (1 : Int)))))] (.var 153 [.s]))))])], 48⟩
def ij_G_b : Bind := ⟨[(152, (.op .sub .i64 (.var 152) (.lit (1 : Int))))], [], [], [(153, (.len 0), (.upd (.op .sub .i64 (.var 152) (.lit (1 : Int))) [(.s (.cl 153 0 (.var 152)))] (.upd (.var 152) [(.s (.cl 153 0 (.op .sub .i64 (.var 152) (.lit (1 : Int)))))] (.var 153 [.s]))))]⟩
theorem ij_G_ok : okS 2 152 ij_G_b (nmS ij_S ij_G_s) ij_S ij_G_s = true := by kernel_rfl
theorem ij_G_g : ij_G_b.ge 152 = true := by kernel_rfl
theorem ij_G_152 : lassoc 152 ij_G_b.i = some (.op .sub .i64 (.var 152) (.lit (1 : Int))) := by kernel_rfl
theorem ij_G_rw : lassoc 153 ij_G_b.r = some ((.len 0), (.upd (.op .sub .i64 (.var 152) (.lit (1 : Int))) [(.s (.cl 153 0 (.var 152)))] (.upd (.var 152) [(.s (.cl 153 0 (.op .sub .i64 (.var 152) (.lit (1 : Int)))))] (.var 153 [.s])))) := by kernel_rfl
def ij_Y_r : T (XE × XS) := (.need (.and (.not (.lt (.var 152) (.lit (0 : Int)))) (.and (.lt (.var 152) (.len 0)) (.and (.not (.lt (.op .sub .i64 (.var 152) (.lit (1 : Int))) (.lit (0 : Int)))) (.lt (.op .sub .i64 (.var 152) (.lit (1 : Int))) (.len 0))))) (.ret ((.exit 2), ⟨[(9, (.sc (.i .i64 (.var 152)))), (17, .top), (14, .top), (13, .top), (12, .top), (8, (.sc (.i .i64 (.var 150)))), (11, .top), (10, .top), (0, (.slv (0, 0) 1 (.lit (0 : Int)) (.len 0) true)), (1, (.sc (.i .i64 (.var 1)))), (2, (.sc (.i .i64 (.var 2)))), (3, (.fn (.func 15) [] []))], [((0, 0), [(.rows 1 (.len 0) (.var 153 [.s]))])], 27⟩)))
theorem ij_Y_run : (codeX (cfgL ksJ (fun _ => [])).ti (callS ⟨(cfgL ksJ (fun _ => [])), l_able, []⟩ 12) (((cfgL ksJ (fun _ => [])).ft 29).elim [] (·.ms)) 2 ((cfgL ksJ (fun _ => [])).lp 29) 1000 ij_c ([(.lt (.var 1) (.var 152), true), (.lt (.var 154) (.lit 0), false)]) ij_S).map (sqz ij_ks) = ij_Y_r := by kernel_rfl
def ij_Y_s : XS := ⟨[(9, (.sc (.i .i64 (.var 152)))), (17, .top), (14, .top), (13, .top), (12, .top), (8, (.sc (.i .i64 (.var 150)))), (11, .top), (10, .top), (0, (.slv (0, 0) 1 (.lit (0 : Int)) (.len 0) true)), (1, (.sc (.i .i64 (.var 1)))), (2, (.sc (.i .i64 (.var 2)))), (3, (.fn (.func 15) [] []))], [((0, 0), [(.rows 1 (.len 0) (.var 153 [.s]))])], 27⟩
def ij_X_r : T (XE × XS) := (.ret ((.exit 2), ⟨[(9, (.sc (.i .i64 (.var 152)))), (17, .top), (14, .top), (13, .top), (12, .top), (8, (.sc (.i .i64 (.var 150)))), (11, .top), (10, .top), (0, (.slv (0, 0) 1 (.lit (0 : Int)) (.len 0) true)), (1, (.sc (.i .i64 (.var 1)))), (2, (.sc (.i .i64 (.var 2)))), (3, (.fn (.func 15) [] []))], [((0, 0), [(.rows 1 (.len 0) (.var 153 [.s]))])], 27⟩))
theorem ij_X_run : (codeX (cfgL [] (fun _ => [])).ti (callS ⟨(cfgL [] (fun _ => [])), l_able, []⟩ 12) (((cfgL [] (fun _ => [])).ft 29).elim [] (·.ms)) 2 ((cfgL [] (fun _ => [])).lp 29) 1000 ij_c ([(.lt (.var 1) (.var 152), false)]) ij_S).map (sqz ij_ks) = ij_X_r := by kernel_rfl
def ij_X_s : XS := ⟨[(9, (.sc (.i .i64 (.var 152)))), (17, .top), (14, .top), (13, .top), (12, .top), (8, (.sc (.i .i64 (.var 150)))), (11, .top), (10, .top), (0, (.slv (0, 0) 1 (.lit (0 : Int)) (.len 0) true)), (1, (.sc (.i .i64 (.var 1)))), (2, (.sc (.i .i64 (.var 2)))), (3, (.fn (.func 15) [] []))], [((0, 0), [(.rows 1 (.len 0) (.var 153 [.s]))])], 27⟩
noncomputable def ij : LoopX := ⟨((codeKey ij_c).getD 0), 2, 152, ij_E, noB, [], .ret ((.exit 2), ij_X_s)⟩
theorem ij_ob : ij.out.belX 160 = true := by kernel_rfl
theorem ij_Y_end : okS 2 1000 noB [] ij_X_s ij_Y_s = true := by kernel_rfl
end Go.Proofs.Ytegekgjjoojgdaa

/- Ring: the inner loop of insertionSort: one is moved to its place. -/
namespace Go.Proofs.Ytegekgjjoojgdaa
open Go Go.Proofs.Aw Go.Proofs.Xw Go.Proofs.Sr
set_option maxRecDepth 100000
/-- The loop ends in another state than the one that is told. -/
theorem fam_endK {N k0 : Nat} {body : Code} {S : XS} {ks ms hf : List Nat} {ρ : Rho} {c : Cfg} {Φ : Facts} {t out : T (XE × XS)} {e : XE} {s s' : XS} (hfit : fitsC N body = true) (cok : CfgOk Try.prog ρ c) (hk : Facts.ok ρ Φ)
    (hrun : (codeX c.ti (callS ⟨c, l_able, hf⟩ 12) ms k0 [] 1000 body Φ S).map (sqz ks) = t) (hs : t.sel ρ = some (e, s)) (he : e ≠ .normal) (ho : out.sel ρ = some (e, s')) (hi : okS k0 1000 noB [] s' s = true) : EndL Try.prog N body k0 S out ρ :=
  endF_of mixed cok.ti (callS_ok (c := ⟨c, l_able, hf⟩) cok l_able_ok 12) (LpsOk.nil _ _ _ _) hfit hk rfl he (by rw [hrun]; exact hs) ⟨s', ho, fun E hb => okS_imp hb hi ρ⟩
/-- The letters of insertionSort's call, in a round for i; what has been sorted so far. -/
structure IsA (lt : ByteArray → ByteArray → Prop) (ρ : Rho) (a b i : Nat) : Prop where
  ea : ρ.i 1 = a
  eb : ρ.i 2 = b
  ei : ρ.i 150 = i
  h1 : a < i
  h2 : i < b
  h3 : b ≤ ρ.len 0
  l : ρ.len 0 < 1000000
  z : Szs (stR ρ 151) (ρ.len 0)
  s : Srt lt (stR ρ 151) a i
section
variable {lt : ByteArray → ByteArray → Prop}
theorem IsA.agree {ρ ρ' : Rho} {a b i n : Nat} (h : IsA lt ρ a b i) (ag : Agree n ρ ρ') (hn : 152 ≤ n) : IsA lt ρ' a b i :=
  ⟨by rw [← ag.i 1 (by omega)]; exact h.ea, by rw [← ag.i 2 (by omega)]; exact h.eb, by rw [← ag.i 150 (by omega)]; exact h.ei, h.h1, h.h2, by rw [← ag.len 0 (by omega)]; exact h.h3, by rw [← ag.len 0 (by omega)]; exact h.l,
    by rw [agree_st ag (by omega), ← ag.len 0 (by omega)]; exact h.z, by rw [agree_st ag (by omega)]; exact h.s⟩
def ijR (lt : ByteArray → ByteArray → Prop) (a b i : Nat) (f : Nat → ByteArray) (ρ : Rho) : Prop := IsA lt ρ a b i ∧ stR ρ 151 = f ∧ ∃ j : Nat, ρ.i 152 = j ∧ a ≤ j ∧ j ≤ i ∧ stR ρ 153 = shr f i j ∧ ∀ k, j ≤ k → k < i → lt (f i) (f k)
theorem ij_Sb : ij_S.bel 154 = true := by kernel_rfl
theorem at3_den {ρ : Rho} {e : IE} {n : Nat} (h : e.den ρ = n) : X.den ρ (at3 e) = .sc (.string (stR ρ 153 n)) := by
  simp only [at3, X.den, Sc.den, TE.den, h, Int.toNat_natCast]; rfl
/-- At the loop's end the row is sorted up to i. -/
theorem ij_ok (o : Ord lt) (ck : CK lt) (ρ : Rho) {a b i : Nat} (h : IsA lt ρ a b i) : ∃ ρf, Agree 152 ρ ρf ∧ Sw a (i + 1) (stR ρ 151) (stR ρf 153) ∧ Srt lt (stR ρf 153) a (i + 1) ∧ LoopOk Try.prog ρf Try.f29.ntmps ij_c ij := by
  suffices hh : ∃ (_ : Nat) (ρf : Rho), Agree ij.n ρ ρf ∧ (Sw a (i + 1) (stR ρ 151) (stR ρf 153) ∧ Srt lt (stR ρf 153) a (i + 1)) ∧ LoopOk Try.prog ρf Try.f29.ntmps ij_c ij by
    obtain ⟨_, ρf, h1, ⟨h2, h3⟩, h4⟩ := hh
    exact ⟨ρf, h1, h2, h3, h4⟩
  have a0 := Bind.agree ij_Ig ρ
  refine loopOk_famE (L := ij) (N := Try.f29.ntmps) (body := ij_c) (P := Try.prog) rfl ij_Eb (fun _ => ij_S) (fun _ => ijR lt a b i (stR ρ 151)) (fun _ ρ' => Sw a (i + 1) (stR ρ 151) (stR ρ' 153) ∧ Srt lt (stR ρ' 153) a (i + 1)) (fun _ ρ' => (ρ'.i 152).toNat) ?_
    ⟨0, ij_I.ap ρ, a0, ⟨h.agree a0 (Nat.le_refl _), agree_st a0 (by decide), i, (ap_i ij_I152).trans h.ei, Nat.le_of_lt h.h1, Nat.le_refl _, by rw [shr_self]; funext k; rw [ap_st ij_Ir]; exact row_var ρ 151 k, fun k h1 h2 => absurd h2 (by omega)⟩, fun E _ hE => okS_imp hE ij_Iok ρ⟩
  rintro _ ρ' ⟨hA, hf, j, hj, j1, j2, hs, hup⟩
  have := hA.h1; have := hA.h2; have := hA.h3; have hl := hA.l
  have fin : (a < j → ¬ lt (stR ρ 151 i) (stR ρ 151 (j - 1))) → Sw a (i + 1) (stR ρ 151) (stR ρ' 153) ∧ Srt lt (stR ρ' 153) a (i + 1) := fun hn => by
    rw [hs]
    exact ⟨shr_sw _ (by omega) (i - j) _ (by omega) j1, shr_srt o (by rw [← hf]; exact hA.s) ⟨j1, j2⟩ hn (fun q => hup j (Nat.le_refl _) q)⟩
  by_cases c : a < j
  · have e1 : ∀ v, IE.den (putI ρ' 154 v) (.op .sub .i64 (.var 152) (.lit 1)) = ((j - 1 : Nat) : Int) := fun v => by show IOp.den .sub .i64 (ρ'.i 152) 1 = _; rw [hj]; exact sub_nat (b := 1) (by omega) (by omega)
    have v1 : stR ρ' 153 j = stR ρ 151 i := by rw [hs]; unfold shr; rw [if_pos rfl]
    have v2 : stR ρ' 153 (j - 1) = stR ρ 151 (j - 1) := by rw [hs]; unfold shr; rw [if_neg (by omega), if_neg (by omega)]
    have hz := hA.z
    rw [hf] at hz
    obtain ⟨c0, hc, hb, hcy⟩ := ck (stR ρ 151 i) (stR ρ 151 (j - 1)) (hz _ (by omega)) (hz _ (by omega))
    have ag1 := putI_agree ρ' 154 c0 (n := 154) (Nat.le_refl _)
    have nd := four_t (ρ := putI ρ' 154 c0) (p := .var 152) (q := .op .sub .i64 (.var 152) (.lit 1)) (x := j) (y := j - 1) hj (e1 c0) (by show j < ρ'.len 0; omega) (by show j - 1 < ρ'.len 0; omega)
    have cok : CfgOk Try.prog (putI ρ' 154 c0) (cfgL ksJ (fun _ => [])) := cfgL_ok (List.forall_mem_cons.2 ⟨⟨hb, fun n hp => by
      show CY Try.prog n 15 (X.denL (putI ρ' 154 c0) [at3 (.var 152), at3 (.op .sub .i64 (.var 152) (.lit 1))]) hp (X.den (putI ρ' 154 c0) (iV 154)) []
      rw [show X.denL (putI ρ' 154 c0) [at3 (.var 152), at3 (.op .sub .i64 (.var 152) (.lit 1))] = [.sc (.string (stR ρ 151 i)), .sc (.string (stR ρ 151 (j - 1)))] from by
        simp only [X.denL]
        rw [at3_den (ρ := putI ρ' 154 c0) (e := .var 152) (n := j) hj, at3_den (e1 c0), show stR (putI ρ' 154 c0) 153 = stR ρ' 153 from rfl, v1, v2],
        show X.den (putI ρ' 154 c0) (iV 154) = .sc (.int .i64 c0) from by simp only [iV, X.den, Sc.den, IE.den, putI_at]]
      exact hcy n hp⟩, List.forall_mem_nil _⟩) (fun _ _ _ => LpsOk.nil _ _ _ _)
    have f1 : (BE.lt (.var 1) (.var 152)).den (putI ρ' 154 c0) = true := by rw [dlt_t]; show ρ'.i 1 < ρ'.i 152; rw [hA.ea, hj]; omega
    by_cases hlt : lt (stR ρ 151 i) (stR ρ 151 (j - 1))
    · refine .inr ⟨0, ij_G_b.ap (putI ρ' 154 c0), ?_, ?_⟩
      · exact fam_go (c := cfgL ksJ (fun _ => [])) (Φ := [(.lt (.var 1) (.var 152), true), (.lt (.var 154) (.lit 0), true)]) ij_fits (XS.bel_den ag1 ij_S ij_Sb) cok (Facts.ok_cons f1 (Facts.ok_cons (by rw [dlt_t]; show (putI ρ' 154 c0).i 154 < 0; rw [putI_at]; exact hc.2 hlt) (Facts.ok_nil _))) ij_G_run (sel_need nd rfl) ij_G_ok
      · have ag : Agree 152 ρ' (ij_G_b.ap (putI ρ' 154 c0)) := (putI_agree _ _ _ (by decide)).trans (Bind.agree ij_G_g _)
        have e2 : (ij_G_b.ap (putI ρ' 154 c0)).i 152 = ((j - 1 : Nat) : Int) := (ap_i ij_G_152).trans (e1 c0)
        refine ⟨⟨hA.agree ag (Nat.le_refl _), (agree_st ag (by decide)).trans hf, j - 1, e2, by omega, by omega, ?_, fun k q1 q2 => ?_⟩, ?_, ag⟩
        · rw [← shr_step (stR ρ 151) (show 0 < j by omega) j2, ← hs]
          funext x
          rw [ap_st ij_G_rw]
          exact row_swp (putI ρ' 154 c0) 153 (e1 := .var 152) hj (e1 c0) x
        · by_cases q : k = j - 1
          · rw [q]; exact hlt
          · exact hup k (by omega) q2
        · show (_ : Int).toNat < (_ : Int).toNat
          rw [e2, hj]; omega
    · refine .inl ⟨putI ρ' 154 c0, putI_agree _ _ _ (by decide), ?_, XS.bel_den ag1 ij_S ij_Sb, ?_⟩
      · show Sw a (i + 1) (stR ρ 151) (stR ρ' 153) ∧ Srt lt (stR ρ' 153) a (i + 1)
        exact fin fun _ => hlt
      · exact fam_endK (c := cfgL ksJ (fun _ => [])) (Φ := [(.lt (.var 1) (.var 152), true), (.lt (.var 154) (.lit 0), false)]) ij_fits cok (Facts.ok_cons f1 (Facts.ok_cons (by rw [dlt_f]; show 0 ≤ (putI ρ' 154 c0).i 154; rw [putI_at]; rcases Int.lt_or_le c0 0 with q | q; exact absurd (hc.1 q) hlt; exact q) (Facts.ok_nil _))) ij_Y_run (sel_need nd rfl) (fun h => nomatch h) rfl ij_Y_end
  · refine .inl ⟨ρ', Agree.refl _ _, fin fun q => absurd q c, rfl, ?_⟩
    exact fam_end (c := cfgL [] (fun _ => [])) (Φ := [(.lt (.var 1) (.var 152), false)]) ij_fits (cN_ok ρ') (Facts.ok_cons (by rw [dlt_f]; show ρ'.i 152 ≤ ρ'.i 1; rw [hA.ea, hj]; omega) (Facts.ok_nil _)) ij_X_run rfl (fun h => nomatch h) rfl
end
end Go.Proofs.Ytegekgjjoojgdaa

/- Loops whose rounds have letters of their own: what is run once. -/
namespace Go.Proofs.Ytegekgjjoojgdaa
open Go Go.Proofs.Aw Go.Proofs.Xw
set_option maxRecDepth 100000
noncomputable def lpIJ (f : Nat) : List LoopX := if Nat.beq f 29 = true then [ij] else []
theorem lpIJ_29o : othersB [ij] [1] 0 (loopsOf (Try.f29.body.getD .skip)) = true := by kernel_rfl
theorem lpIJ_29 {ρ : Rho} (h_ij : LoopOk Try.prog ρ Try.f29.ntmps ij_c ij) : LpsOk Try.prog ρ Try.f29.ntmps [ij] (Try.f29.body.getD .skip) :=
  lps_idx [1] lpIJ_29o (List.forall_mem_cons.2 ⟨look_list (c := ij_c) (Ls := [ij]) (by kernel_rfl) (List.forall_mem_cons.2 ⟨h_ij, List.forall_mem_nil _⟩), List.forall_mem_nil _⟩)
theorem lpIJ_ok {ρ : Rho} (h_ij : LoopOk Try.prog ρ Try.f29.ntmps ij_c ij) : ∀ f i, btLook f ftsT = some i → LpsOk Try.prog ρ i.ntmps (lpIJ f) i.body := by
  intro f i h
  have hi := fts_ok (f, i) (bt_of_mem _ _ (btLook_mem h))
  unfold lpIJ
  split
  · rename_i hf
    have hf := Nat.eq_of_beq_eq_true hf
    subst hf
    exact lps_row hi Try.func29 (lpIJ_29 h_ij)
  · exact LpsOk.nil _ _ _ _

/-! io: letters {8: 150} rows 151; entered under [] -/
noncomputable def io_c : Code := (loopsOf (Try.f29.body.getD .skip))[0]?.getD .skip
def io_E : XS := ⟨[(8, (.sc (.i .i64 (.op .add .i64 (.var 1) (.lit (1 : Int)))))), (11, .top), (10, .top), (0, (.slv (0, 0) 1 (.lit (0 : Int)) (.len 0) true)), (1, (.sc (.i .i64 (.var 1)))), (2, (.sc (.i .i64 (.var 2)))), (3, (.fn (.func 15) [] []))], [((0, 0), [(.rows 1 (.len 0) (.var 0 [.s]))])], 5⟩
def io_S : XS := ⟨[(8, (.sc (.i .i64 (.var 150)))), (11, .top), (10, .top), (0, (.slv (0, 0) 1 (.lit (0 : Int)) (.len 0) true)), (1, (.sc (.i .i64 (.var 1)))), (2, (.sc (.i .i64 (.var 2)))), (3, (.fn (.func 15) [] []))], [((0, 0), [(.rows 1 (.len 0) (.var 151 [.s]))])], 5⟩
def io_I : Bind := ⟨[(150, (.op .add .i64 (.var 1) (.lit (1 : Int))))], [], [], [(151, (.len 0), (.var 0 [.s]))]⟩
def io_ks : List Nat := [8, 11, 10, 0, 1, 2, 3]
theorem io_Iok : okS 2 150 io_I (nmS io_S io_E) io_S io_E = true := by kernel_rfl
theorem io_Ig : io_I.ge 150 = true := by kernel_rfl
theorem io_Eb : io_E.bel 150 = true := by kernel_rfl
theorem io_fits : fitsC Try.f29.ntmps io_c = true := by kernel_rfl
theorem io_I150 : lassoc 150 io_I.i = some (.op .add .i64 (.var 1) (.lit (1 : Int))) := by kernel_rfl
theorem io_Ir : lassoc 151 io_I.r = some ((.len 0), (.var 0 [.s])) := by kernel_rfl
def io_G_r : T (XE × XS) := (.ret (.normal, ⟨[(8, (.sc (.i .i64 (.op .add .i64 (.var 150) (.lit (1 : Int)))))), (11, .top), (10, .top), (0, (.slv (0, 0) 1 (.lit (0 : Int)) (.len 0) true)), (1, (.sc (.i .i64 (.var 1)))), (2, (.sc (.i .i64 (.var 2)))), (3, (.fn (.func 15) [] []))], [((0, 0), [(.rows 1 (.len 0) (.var 153 [.s]))])], 30⟩))
theorem io_G_run : (codeX (cfgL [] lpIJ).ti (callS ⟨(cfgL [] lpIJ), l_able, []⟩ 12) (((cfgL [] lpIJ).ft 29).elim [] (·.ms)) 2 ((cfgL [] lpIJ).lp 29) 1000 io_c ([(.lt (.var 150) (.var 2), true)]) io_S).map (sqz io_ks) = io_G_r := by kernel_rfl
def io_G_s : XS := ⟨[(8, (.sc (.i .i64 (.op .add .i64 (.var 150) (.lit (1 : Int)))))), (11, .top), (10, .top), (0, (.slv (0, 0) 1 (.lit (0 : Int)) (.len 0) true)), (1, (.sc (.i .i64 (.var 1)))), (2, (.sc (.i .i64 (.var 2)))), (3, (.fn (.func 15) [] []))], [((0, 0), [(.rows 1 (.len 0) (.var 153 [.s]))])], 30⟩
def io_G_b : Bind := ⟨[(150, (.op .add .i64 (.var 150) (.lit (1 : Int))))], [], [], [(151, (.len 0), (.var 153 [.s]))]⟩
theorem io_G_ok : okS 2 150 io_G_b (nmS io_S io_G_s) io_S io_G_s = true := by kernel_rfl
theorem io_G_g : io_G_b.ge 150 = true := by kernel_rfl
theorem io_G_150 : lassoc 150 io_G_b.i = some (.op .add .i64 (.var 150) (.lit (1 : Int))) := by kernel_rfl
theorem io_G_rw : lassoc 151 io_G_b.r = some ((.len 0), (.var 153 [.s])) := by kernel_rfl
def io_X_r : T (XE × XS) := (.ret ((.exit 0), ⟨[(8, (.sc (.i .i64 (.var 150)))), (11, .top), (10, .top), (0, (.slv (0, 0) 1 (.lit (0 : Int)) (.len 0) true)), (1, (.sc (.i .i64 (.var 1)))), (2, (.sc (.i .i64 (.var 2)))), (3, (.fn (.func 15) [] []))], [((0, 0), [(.rows 1 (.len 0) (.var 151 [.s]))])], 8⟩))
theorem io_X_run : (codeX (cfgL [] (fun _ => [])).ti (callS ⟨(cfgL [] (fun _ => [])), l_able, []⟩ 12) (((cfgL [] (fun _ => [])).ft 29).elim [] (·.ms)) 2 ((cfgL [] (fun _ => [])).lp 29) 1000 io_c ([(.lt (.var 150) (.var 2), false)]) io_S).map (sqz io_ks) = io_X_r := by kernel_rfl
def io_X_s : XS := ⟨[(8, (.sc (.i .i64 (.var 150)))), (11, .top), (10, .top), (0, (.slv (0, 0) 1 (.lit (0 : Int)) (.len 0) true)), (1, (.sc (.i .i64 (.var 1)))), (2, (.sc (.i .i64 (.var 2)))), (3, (.fn (.func 15) [] []))], [((0, 0), [(.rows 1 (.len 0) (.var 151 [.s]))])], 8⟩
noncomputable def io : LoopX := ⟨((codeKey io_c).getD 0), 2, 150, io_E, noB, [], .ret ((.exit 0), io_X_s)⟩
theorem io_ob : io.out.belX 160 = true := by kernel_rfl
end Go.Proofs.Ytegekgjjoojgdaa

/- Ring: a contract of insertionSort. -/
namespace Go.Proofs.Ytegekgjjoojgdaa
open Go Go.Proofs.Aw Go.Proofs.Xw Go.Proofs.Sr
set_option maxRecDepth 100000
/-- A round goes on, with loops in it that are shown. -/
theorem fam_goL {N k0 n : Nat} {body : Code} {S : XS} {ks ms hf : List Nat} {lps : List LoopX} {ρ ρ1 : Rho} {c : Cfg} {Φ : Facts} {t : T (XE × XS)} {s : XS} {β : Bind} {nm : List (Nm × Nm)} (hfit : fitsC N body = true) (hd : S.den ρ = S.den ρ1) (cok : CfgOk Try.prog ρ1 c) (hl : LpsOk Try.prog ρ1 N lps body) (hk : Facts.ok ρ1 Φ)
    (hrun : (codeX c.ti (callS ⟨c, l_able, hf⟩ 12) ms k0 lps 1000 body Φ S).map (sqz ks) = t) (hs : t.sel ρ1 = some (.normal, s)) (hok : okS k0 n β nm S s = true) : StepF Try.prog N body k0 S S ρ (β.ap ρ1) :=
  StepF.from hd (stepF_of mixed cok.ti (callS_ok (c := ⟨c, l_able, hf⟩) cok l_able_ok 12) hl hfit hk rfl (by rw [hrun]; exact hs) hok)
theorem io_o : othersB [ij] [0] 0 (loopsOf io_c) = true := by kernel_rfl
theorem io_l {ρ : Rho} (h : LoopOk Try.prog ρ Try.f29.ntmps ij_c ij) : LpsOk Try.prog ρ Try.f29.ntmps [ij] io_c :=
  lps_idx [0] io_o (List.forall_mem_cons.2 ⟨look_list (c := ij_c) (Ls := [ij]) (by kernel_rfl) (List.forall_mem_cons.2 ⟨h, List.forall_mem_nil _⟩), List.forall_mem_nil _⟩)
section
variable {lt : ByteArray → ByteArray → Prop}
/-- Between the rounds: the row is sorted from a to i. -/
def ioR (lt : ByteArray → ByteArray → Prop) (a b : Nat) (f : Nat → ByteArray) (ρ : Rho) : Prop :=
  ρ.i 1 = a ∧ ρ.i 2 = b ∧ b ≤ ρ.len 0 ∧ ρ.len 0 < 1000000 ∧ Szs (stR ρ 151) (ρ.len 0) ∧ ∃ i : Nat, ρ.i 150 = i ∧ a < i ∧ (i ≤ b ∨ (i = a + 1 ∧ b ≤ a)) ∧ Sw a b f (stR ρ 151) ∧ Srt lt (stR ρ 151) a i
theorem io_ok (o : Ord lt) (ck : CK lt) (ρ : Rho) {a b : Nat} (ea : ρ.i 1 = a) (eb : ρ.i 2 = b) (hb : b ≤ ρ.len 0) (ha : a ≤ b) (hl : ρ.len 0 < 1000000) (hz : Szs (stR ρ 0) (ρ.len 0)) :
    ∃ ρf, Agree 150 ρ ρf ∧ Sw a b (stR ρ 0) (stR ρf 151) ∧ Srt lt (stR ρf 151) a b ∧ LoopOk Try.prog ρf Try.f29.ntmps io_c io := by
  suffices hh : ∃ (_ : Nat) (ρf : Rho), Agree io.n ρ ρf ∧ (Sw a b (stR ρ 0) (stR ρf 151) ∧ Srt lt (stR ρf 151) a b) ∧ LoopOk Try.prog ρf Try.f29.ntmps io_c io by
    obtain ⟨_, ρf, h1, ⟨h2, h3⟩, h4⟩ := hh
    exact ⟨ρf, h1, h2, h3, h4⟩
  have a0 := Bind.agree io_Ig ρ
  have e0 : stR (io_I.ap ρ) 151 = stR ρ 0 := by funext k; rw [ap_st io_Ir]; exact row_var ρ 0 k
  refine loopOk_famE (L := io) (N := Try.f29.ntmps) (body := io_c) (P := Try.prog) rfl io_Eb (fun _ => io_S) (fun _ => ioR lt a b (stR ρ 0)) (fun _ ρ' => Sw a b (stR ρ 0) (stR ρ' 151) ∧ Srt lt (stR ρ' 151) a b) (fun _ ρ' => (ρ'.i 2 - ρ'.i 150).toNat) ?_
    ⟨0, io_I.ap ρ, a0, ⟨by rw [← a0.i 1 (by decide)]; exact ea, by rw [← a0.i 2 (by decide)]; exact eb, by rw [← a0.len 0 (by decide)]; exact hb, by rw [← a0.len 0 (by decide)]; exact hl, by rw [e0, ← a0.len 0 (by decide)]; exact hz, a + 1, (ap_i io_I150).trans (by show IOp.den .add .i64 (ρ.i 1) 1 = _; rw [ea]; exact add_nat (b := 1) (by omega)), by omega, by omega, by rw [e0]; exact .refl _, Srt.one o _ (Nat.le_refl _)⟩, fun E _ hE => okS_imp hE io_Iok ρ⟩
  rintro _ ρ' ⟨xa, xb, xl, xm, xz, i, xi, i1, i2, hw, hs⟩
  by_cases c : i < b
  · obtain ⟨ρ1, ag1, w, t, L⟩ := ij_ok o ck ρ' (a := a) (b := b) (i := i) ⟨xa, xb, xi, i1, c, xl, xm, xz, hs⟩
    refine .inr ⟨0, io_G_b.ap ρ1, ?_, ?_⟩
    · exact fam_goL (c := cfgL [] lpIJ) (Φ := [(.lt (.var 150) (.var 2), true)]) io_fits (XS.bel_den ag1 io_S (by kernel_rfl)) (cfgL_ok (List.forall_mem_nil _) (lpIJ_ok L)) (io_l L) (Facts.ok_cons (by rw [dlt_t]; show ρ1.i 150 < ρ1.i 2; rw [← ag1.i 150 (by decide), ← ag1.i 2 (by decide), xi, xb]; omega) (Facts.ok_nil _)) io_G_run rfl io_G_ok
    · have ag2 := Bind.agree io_G_g ρ1
      have ag : Agree 150 ρ' (io_G_b.ap ρ1) := (ag1.le (by decide)).trans ag2
      have e1 : (io_G_b.ap ρ1).i 150 = ((i + 1 : Nat) : Int) := (ap_i io_G_150).trans (by show IOp.den .add .i64 (ρ1.i 150) 1 = _; rw [← ag1.i 150 (by decide), xi]; exact add_nat (b := 1) (by omega))
      have e2 : stR (io_G_b.ap ρ1) 151 = stR ρ1 153 := by funext k; rw [ap_st io_G_rw]; exact row_var ρ1 153 k
      have e3 : (io_G_b.ap ρ1).i 2 = b := by rw [← ag.i 2 (by decide)]; exact xb
      refine ⟨⟨by rw [← ag.i 1 (by decide)]; exact xa, e3, by rw [← ag.len 0 (by decide)]; exact xl, by rw [← ag.len 0 (by decide)]; exact xm, ?_, i + 1, e1, by omega, by omega, ?_, by rw [e2]; exact t⟩, ?_, ag⟩
      · rw [e2, ← ag.len 0 (by decide)]; exact szs_sw w (by omega) xz
      · rw [e2]; exact hw.trans (w.wide (Nat.le_refl _) (by omega))
      · show (_ - _ : Int).toNat < (_ - _ : Int).toNat
        rw [e1, e3, xi, xb]; omega
  · refine .inl ⟨ρ', Agree.refl _ _, ⟨hw, ?_⟩, rfl, ?_⟩
    · rcases i2 with q | q
      · rw [show b = i by omega]; exact hs
      · exact Srt.one o _ (by omega)
    · exact fam_end (c := cfgL [] (fun _ => [])) (Φ := [(.lt (.var 150) (.var 2), false)]) io_fits (cN_ok ρ') (Facts.ok_cons (by rw [dlt_f]; show ρ'.i 2 ≤ ρ'.i 150; rw [xb, xi]; omega) (Facts.ok_nil _)) io_X_run rfl (fun h => nomatch h) rfl
end
end Go.Proofs.Ytegekgjjoojgdaa

/- What functions answer, run over letters, where something is known; each shown by running it. -/
namespace Go.Proofs.Ytegekgjjoojgdaa
open Go Go.Proofs.Aw Go.Proofs.Xw
noncomputable def lpIO (f : Nat) : List LoopX := if Nat.beq f 29 = true then [io] else []
theorem lpIO_29o : othersB [io] [0] 0 (loopsOf (Try.f29.body.getD .skip)) = true := by kernel_rfl
theorem lpIO_29 {ρ : Rho} (h_io : LoopOk Try.prog ρ Try.f29.ntmps io_c io) : LpsOk Try.prog ρ Try.f29.ntmps [io] (Try.f29.body.getD .skip) :=
  lps_idx [0] lpIO_29o (List.forall_mem_cons.2 ⟨look_list (c := io_c) (Ls := [io]) (by kernel_rfl) (List.forall_mem_cons.2 ⟨h_io, List.forall_mem_nil _⟩), List.forall_mem_nil _⟩)
theorem lpIO_ok {ρ : Rho} (h_io : LoopOk Try.prog ρ Try.f29.ntmps io_c io) : ∀ f i, btLook f ftsT = some i → LpsOk Try.prog ρ i.ntmps (lpIO f) i.body := by
  intro f i h
  have hi := fts_ok (f, i) (bt_of_mem _ _ (btLook_mem h))
  unfold lpIO
  split
  · rename_i hf
    have hf := Nat.eq_of_beq_eq_true hf
    subst hf
    exact lps_row hi Try.func29 (lpIO_29 h_io)
  · exact LpsOk.nil _ _ _ _

def isH : T (X × XDl) := (.ret ((.tup []), [((0, 0), some [(.rows 1 (.len 0) (.var 151 [.s]))])]))
set_option maxRecDepth 100000 in
theorem isH_run : askH ⟨cfgL [] lpIO, l_able, []⟩ 29 (isA) (rwS 0) [] = isH := by kernel_rfl
end Go.Proofs.Ytegekgjjoojgdaa

/- Ring: insertionSort sorts what it is told to. -/
namespace Go.Proofs.Ytegekgjjoojgdaa
open Go Go.Proofs.Aw Go.Proofs.Xw Go.Proofs.Sr
set_option maxRecDepth 100000
theorem ins_hs {lt : ByteArray → ByteArray → Prop} (o : Ord lt) (ck : CK lt) {a b len : Nat} {g : Nat → ByteArray} (ha : a ≤ b) (hb : b ≤ len) (hl : len < 1000000) (hz : Szs g len) :
    ∃ h, Sw a b g h ∧ Srt lt h a b ∧ HS 29 [slV len, nV a, nV b, cmpV] len g h := by
  generalize hρ : rho0 [0, (a : Int), (b : Int)] len g = ρ
  have hg : stR ρ 0 = g := by rw [← hρ]; rfl
  have hlen : ρ.len 0 = len := by rw [← hρ]; rfl
  obtain ⟨ρ1, ag, w, t, L⟩ := io_ok o ck ρ (a := a) (b := b) (by rw [← hρ]; rfl) (by rw [← hρ]; rfl) (by omega) ha (by omega) (by rw [hg, hlen]; exact hz)
  rw [hg] at w
  refine ⟨stR ρ1 151, w, t, ?_⟩
  have hk := askH_ok (c := ⟨cfgL [] lpIO, l_able, []⟩) (f := 29) (args := isA) (inn := rwS 0) (out := rwS 151) (Φ := []) (r := .tup []) (cfgL_ok (List.forall_mem_nil _) (lpIO_ok L)) l_able_ok (Facts.ok_nil _) (by rw [isH_run]; rfl) (by kernel_rfl)
  have q := HS.of hk
  rw [agree_st ag (by decide), hg, ← ag.len 0 (by decide), hlen, ← X.belL_den ag isA (by kernel_rfl)] at q
  rw [← hρ] at q
  exact q
end Go.Proofs.Ytegekgjjoojgdaa
