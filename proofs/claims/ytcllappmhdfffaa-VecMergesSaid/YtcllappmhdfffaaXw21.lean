/- Symbolic runs, part 21: when a state fits a pattern; what is shown of a loop once. -/
import Derived.Test.YtcllappmhdfffaaXw19
namespace Go.Proofs.Xw
open Go Go.Proofs.Aw

/-! ### A value fits a pattern -/
/-- The letters below n stay; those from n on are put by β. -/
def okI (n : Nat) (β : Bind) (p e : IE) : Bool :=
  match p with
  | .var v => if Nat.ble n v = true then (match lassoc v β.i with | some e' => e'.beq e | none => false) else e.beq (.var v)
  | .len l => if Nat.ble n l = true then (match lassoc l β.r with | some (m, _) => m.beq e && m.nn | none => false) else e.beq (.len l)
  | p => p.bel n && p.beq e
def okB (n : Nat) (β : Bind) (p e : BE) : Bool :=
  match p with
  | .var v => if Nat.ble n v = true then (match lassoc v β.b with | some e' => e'.beq e | none => false) else e.beq (.var v)
  | p => p.bel n && p.beq e
def okT (n : Nat) (β : Bind) (p e : TE) : Bool :=
  match p with
  | .var v => if Nat.ble n v = true then (match lassoc v β.s with | some e' => e'.beq e | none => false) else e.beq (.var v)
  | p => p.bel n && p.beq e
section
variable {n : Nat} {β : Bind} (hg : β.ge n = true) {ρ : Rho}
include hg
theorem okI_den {p e : IE} (h : okI n β p e = true) : p.den (β.ap ρ) = e.den ρ := by
  unfold okI at h
  split at h
  · rename_i v
    split at h
    · split at h
      · rename_i e' he
        rw [← IE.beq_eq _ _ h]
        simp only [IE.den, Bind.ap, he]
      · cases h
    · rename_i hv
      rw [IE.beq_eq _ _ h]
      exact ((Bind.agree hg ρ).i v (by simpa using hv)).symm
  · rename_i l
    split at h
    · split at h
      · rename_i m r he
        simp only [Bool.and_eq_true] at h
        rw [← IE.beq_eq _ _ h.1]
        have := IE.nn_den ρ m h.2
        simp only [IE.den, Bind.ap, he]
        omega
      · cases h
    · rename_i hv
      rw [IE.beq_eq _ _ h]
      simp only [IE.den, (Bind.agree hg ρ).len l (by simpa using hv)]
  · simp only [Bool.and_eq_true] at h
    rw [← IE.beq_eq _ _ h.2]
    exact (IE.bel_den (Bind.agree hg ρ) _ h.1).symm
theorem okB_den {p e : BE} (h : okB n β p e = true) : p.den (β.ap ρ) = e.den ρ := by
  unfold okB at h
  split at h
  · rename_i v
    split at h
    · split at h
      · rename_i e' he
        rw [← BE.beq_eq _ _ h]
        simp only [BE.den, Bind.ap, he]
      · cases h
    · rename_i hv
      rw [BE.beq_eq _ _ h]
      exact ((Bind.agree hg ρ).b v (by simpa using hv)).symm
  · simp only [Bool.and_eq_true] at h
    rw [← BE.beq_eq _ _ h.2]
    exact (BE.bel_den (Bind.agree hg ρ) _ h.1).symm
theorem okT_den {p e : TE} (h : okT n β p e = true) : p.den (β.ap ρ) = e.den ρ := by
  unfold okT at h
  split at h
  · rename_i v
    split at h
    · split at h
      · rename_i e' he
        rw [← TE.beq_eq _ _ h]
        simp only [TE.den, Bind.ap, he]
      · cases h
    · rename_i hv
      rw [TE.beq_eq _ _ h]
      exact ((Bind.agree hg ρ).s v (by simpa using hv)).symm
  · simp only [Bool.and_eq_true] at h
    rw [← TE.beq_eq _ _ h.2]
    exact (TE.bel_den (Bind.agree hg ρ) _ h.1).symm
end
def okC (n : Nat) (β : Bind) : Sc → Sc → Bool
  | .i k p, .i k' e => kbeq k k' && okI n β p e
  | .b p, .b e => okB n β p e
  | .s p, .s e => okT n β p e
  | _, _ => false
theorem okC_den {n : Nat} {β : Bind} (hg : β.ge n = true) {ρ : Rho} {p e : Sc} (h : okC n β p e = true) : p.den (β.ap ρ) = e.den ρ := by
  unfold okC at h
  split at h
  · simp only [Bool.and_eq_true] at h
    simp only [Sc.den, kbeq_eq h.1, okI_den hg h.2]
  · simp only [Sc.den, okB_den hg h]
  · simp only [Sc.den, okT_den hg h]
  · cases h
def okRL (n : Nat) (β : Bind) (p e : RL) : Bool :=
  match p with
  | .var l ks => if Nat.ble n l = true then (match lassoc l β.r with | some (_, r) => r.beq e && r.kd ks | none => false) else e.beq (.var l ks)
  | p => p.bel n && p.beq e
theorem okRL_row {n : Nat} {β : Bind} (hg : β.ge n = true) {ρ : Rho} {p e : RL} (h : okRL n β p e = true) (j : Nat) : p.row (β.ap ρ) j = e.row ρ j := by
  unfold okRL at h
  split at h
  · rename_i l ks
    split at h
    · split at h
      · rename_i m r he
        simp only [Bool.and_eq_true] at h
        rw [← RL.beq_eq h.1]
        simp only [RL.row, Int.toNat_natCast]
        exact Bind.rows he h.2 j
      · cases h
    · rename_i hv
      rw [RL.beq_eq h]
      exact (RL.bel_row (Bind.agree hg ρ) (.var l ks) j (by simp only [RL.bel]; simpa using hv)).symm
  · simp only [Bool.and_eq_true] at h
    rw [← RL.beq_eq h.2]
    exact (RL.bel_row (Bind.agree hg ρ) _ j h.1).symm
theorem okRows {n : Nat} {β : Bind} (hg : β.ge n = true) {ρ : Rho} {m m' : IE} {p e : RL} (hm : okI n β m m' = true) (h : okRL n β p e = true) : rowsD (β.ap ρ) m p = rowsD ρ m' e := by
  unfold rowsD
  rw [okI_den hg hm]
  congr 1
  funext j
  exact okRL_row hg h j
/-- Concrete rows under a pattern. -/
def okRws (n : Nat) (β : Bind) (m : IE) (p : RL) (es : List (List X)) : Bool :=
  okI n β m (.lit es.length) && match es with
    | [] => true
    | es => match toRL es with
      | some e => okRL n β p e
      | none => false
theorem okRws_den {n : Nat} {β : Bind} (hg : β.ge n = true) {ρ : Rho} {m : IE} {p : RL} {es : List (List X)} (h : okRws n β m p es = true) : rowsD (β.ap ρ) m p = X.denE ρ es := by
  unfold okRws at h
  simp only [Bool.and_eq_true] at h
  obtain ⟨h1, h2⟩ := h
  split at h2
  · have := okI_den hg (ρ := ρ) h1
    simp only [IE.den, List.length_nil] at this
    simp [rowsD, this, X.denE]
  · split at h2
    · rename_i e he
      rw [okRows hg h1 h2, toRL_den he]
    · cases h2
mutual
/-- The pattern p, with other names, says of the letters put anew what e says. -/
def okX (n : Nat) (β : Bind) (φ : Nm → Nm) : X → X → Bool
  | .sc p, .sc e => okC n β p e
  | .agg cs, .agg ds => okXL n β φ cs ds
  | .tup cs, .tup ds => okXL n β φ cs ds
  | .sl a z o l w, .sl a' z' o' l' w' => nmbeq (φ a) a' && (Nat.beq z z' && (Nat.beq o o' && (Nat.beq l l' && w == w')))
  | .slv a z o l w, .slv a' z' o' l' w' => nmbeq (φ a) a' && (Nat.beq z z' && (okI n β o o' && (okI n β l l' && w == w')))
  | .slv a z o l w, .sl a' z' o' l' w' => nmbeq (φ a) a' && (Nat.beq z z' && (o.beq (.lit 0) && (Nat.beq o' 0 && (okI n β l (.lit l') && w == w'))))
  | .ptr a as d, .ptr a' as' d' => nmbeq (φ a) a' && (Nat.beq d d' && (asBel n as && lbeq asbeq as as'))
  | .ptrv a z j o, .ptrv a' z' j' o' => nmbeq (φ a) a' && (Nat.beq z z' && (okI n β j j' && Nat.beq o o'))
  | .rl z m l f, .rl z' m' l' f' => Nat.beq z z' && (f == f' && (okI n β m m' && okRL n β l l'))
  | .rl z m l f, .ro z' es f' => Nat.beq z z' && (f == f' && okRws n β m l es)
  | .ro z es f, .ro z' es' f' => Nat.beq z z' && (f == f' && okXE n β φ es es')
  | .ip cs as d, .ip cs' as' d' => okXL n β φ cs cs' && (Nat.beq d d' && (asBel n as && lbeq asbeq as as'))
  | .fn f xs ys, .fn f' xs' ys' => fnbeq f f' && (okXL n β φ xs xs' && okXL n β φ ys ys')
  | .gd c x, .gd c' x' => okB n β c c' && okX n β φ x x'
  | .k v, .k v' => vbeq v v'
  | .top, .top => true
  | _, _ => false
def okXL (n : Nat) (β : Bind) (φ : Nm → Nm) : List X → List X → Bool
  | [], [] => true
  | a :: as, b :: bs => okX n β φ a b && okXL n β φ as bs
  | _, _ => false
def okXE (n : Nat) (β : Bind) (φ : Nm → Nm) : List (List X) → List (List X) → Bool
  | [], [] => true
  | a :: as, b :: bs => okXL n β φ a b && okXE n β φ as bs
  | _, _ => false
end
theorem renE_rows (φ : Nm → Nm) (ρ : Rho) (n : IE) (l : RL) : Aw.renE φ (rowsD ρ n l) = rowsD ρ n l := renE_none φ _ nms_rows
mutual
theorem okX_den {n : Nat} {β : Bind} (hg : β.ge n = true) {φ : Nm → Nm} {ρ : Rho} : ∀ (p e : X), okX n β φ p e = true → e.den ρ = Aw.ren φ (p.den (β.ap ρ))
  | .sc p, e, h => by
    cases e <;> simp only [okX, Bool.false_eq_true] at h
    simp only [X.den, Aw.ren, okC_den hg h]
  | .agg cs, e, h => by
    cases e <;> simp only [okX, Bool.false_eq_true] at h
    simp only [X.den, Aw.ren, okXL_den hg _ _ h]
  | .tup cs, e, h => by
    cases e <;> simp only [okX, Bool.false_eq_true] at h
    simp only [X.den, Aw.ren, okXL_den hg _ _ h]
  | .sl a z o l w, e, h => by
    cases e <;> simp only [okX, Bool.false_eq_true] at h
    simp only [Bool.and_eq_true, beq_iff_eq] at h
    obtain ⟨h1, h2, h3, h4, h5⟩ := h
    simp only [X.den, Aw.ren, nmbeq_eq h1, Nat.eq_of_beq_eq_true h2, Nat.eq_of_beq_eq_true h3, Nat.eq_of_beq_eq_true h4, h5]
  | .slv a z o l w, e, h => by
    cases e <;> simp only [okX, Bool.false_eq_true] at h
    · simp only [Bool.and_eq_true, beq_iff_eq] at h
      obtain ⟨h1, h2, h3, h4, h5, h6⟩ := h
      have h3 := IE.beq_eq _ _ h3
      have h5 := okI_den hg (ρ := ρ) h5
      subst h3
      simp only [IE.den] at h5
      simp only [X.den, Aw.ren, nmbeq_eq h1, Nat.eq_of_beq_eq_true h2, Nat.eq_of_beq_eq_true h4, h5, h6, IE.den, Int.toNat_zero, Nat.zero_mul, Int.toNat_natCast]
    · simp only [Bool.and_eq_true, beq_iff_eq] at h
      obtain ⟨h1, h2, h3, h4, h5⟩ := h
      simp only [X.den, Aw.ren, nmbeq_eq h1, Nat.eq_of_beq_eq_true h2, okI_den hg h3, okI_den hg h4, h5]
  | .ptr a as d, e, h => by
    cases e <;> simp only [okX, Bool.false_eq_true] at h
    simp only [Bool.and_eq_true] at h
    obtain ⟨h1, h2, h3, h4⟩ := h
    simp only [X.den, Aw.ren, nmbeq_eq h1, Nat.eq_of_beq_eq_true h2, lbeq_eq asbeq_eq h4]
    rw [← lbeq_eq asbeq_eq h4, choose_bel (Bind.agree hg ρ) _ as h3]
  | .ptrv a z j o, e, h => by
    cases e <;> simp only [okX, Bool.false_eq_true] at h
    simp only [Bool.and_eq_true] at h
    obtain ⟨h1, h2, h3, h4⟩ := h
    simp only [X.den, Aw.ren, nmbeq_eq h1, Nat.eq_of_beq_eq_true h2, okI_den hg h3, Nat.eq_of_beq_eq_true h4]
  | .rl z m l f, e, h => by
    cases e <;> simp only [okX, Bool.false_eq_true] at h
    · simp only [Bool.and_eq_true, beq_iff_eq] at h
      obtain ⟨h1, h2, h3⟩ := h
      simp only [X.den, Aw.ren, renE_rows, Nat.eq_of_beq_eq_true h1, h2]
      rw [okRws_den hg h3]
    · simp only [Bool.and_eq_true, beq_iff_eq] at h
      obtain ⟨h1, h2, h3, h4⟩ := h
      simp only [X.den, Aw.ren, renE_rows, okRows hg h3 h4, Nat.eq_of_beq_eq_true h1, h2]
  | .ro z es f, e, h => by
    cases e <;> simp only [okX, Bool.false_eq_true] at h
    simp only [Bool.and_eq_true, beq_iff_eq] at h
    obtain ⟨h1, h2, h3⟩ := h
    simp only [X.den, Aw.ren, Nat.eq_of_beq_eq_true h1, h2, okXE_den hg _ _ h3]
  | .ip cs as d, e, h => by
    cases e <;> simp only [okX, Bool.false_eq_true] at h
    simp only [Bool.and_eq_true] at h
    obtain ⟨h1, h2, h3, h4⟩ := h
    simp only [X.den, Aw.ren, okXL_den hg _ _ h1, Nat.eq_of_beq_eq_true h2]
    rw [← lbeq_eq asbeq_eq h4, choose_bel (Bind.agree hg ρ) _ as h3]
  | .fn f xs ys, e, h => by
    cases e <;> simp only [okX, Bool.false_eq_true] at h
    simp only [Bool.and_eq_true] at h
    obtain ⟨h1, h2, h3⟩ := h
    simp only [X.den, Aw.ren, fnbeq_eq h1, okXL_den hg _ _ h2, okXL_den hg _ _ h3]
  | .gd c x, e, h => by
    cases e <;> simp only [okX, Bool.false_eq_true] at h
    simp only [Bool.and_eq_true] at h
    obtain ⟨h1, h2⟩ := h
    simp only [X.den, okB_den hg h1, okX_den hg _ _ h2]
    split <;> rfl
  | .k v, e, h => by
    cases e <;> simp only [okX, Bool.false_eq_true] at h
    simp only [X.den, Aw.ren, vbeq_eq h]
  | .top, e, h => by
    cases e <;> simp only [okX, Bool.false_eq_true] at h
    rfl
  | .rows _ _ _, e, h => by cases e <;> simp only [okX, Bool.false_eq_true] at h
theorem okXL_den {n : Nat} {β : Bind} (hg : β.ge n = true) {φ : Nm → Nm} {ρ : Rho} : ∀ (p e : List X), okXL n β φ p e = true → X.denL ρ e = Aw.renL φ (X.denL (β.ap ρ) p)
  | [], [], _ => rfl
  | [], _ :: _, h => by simp [okXL] at h
  | _ :: _, [], h => by simp [okXL] at h
  | a :: as, b :: bs, h => by
    simp only [okXL, Bool.and_eq_true] at h
    simp only [X.denL, Aw.renL, okX_den hg a b h.1, okXL_den hg as bs h.2]
theorem okXE_den {n : Nat} {β : Bind} (hg : β.ge n = true) {φ : Nm → Nm} {ρ : Rho} : ∀ (p e : List (List X)), okXE n β φ p e = true → X.denE ρ e = Aw.renE φ (X.denE (β.ap ρ) p)
  | [], [], _ => rfl
  | [], _ :: _, h => by simp [okXE] at h
  | _ :: _, [], h => by simp [okXE] at h
  | a :: as, b :: bs, h => by
    simp only [okXE, Bool.and_eq_true] at h
    simp only [X.denE, Aw.renE, okXL_den hg a b h.1, okXE_den hg as bs h.2]
end
/-- An object under a pattern. -/
def okO (n : Nat) (β : Bind) (φ : Nm → Nm) (p e : List X) : Bool :=
  match p with
  | [.rows z m l] => l.wd z && match e with
    | [.rows z' m' l'] => Nat.beq z z' && (okI n β m m' && okRL n β l l')
    | e => !isRows e && (Nat.blt 0 z && (Nat.beq e.length (e.length / z * z) && okRws n β m l (chunkX z (e.length / z) e)))
  | p => !isRows e && (!isRows p && okXL n β φ p e)
theorem nmsL_rowsF {p : Nm → Bool} {ρ : Rho} {n : IE} {l : RL} : Aw.nmsL p (rowsD ρ n l).flatten = true := nmsL_flat nms_rows
theorem okO_den {n : Nat} {β : Bind} (hg : β.ge n = true) {φ : Nm → Nm} {ρ : Rho} {p e : List X} (h : okO n β φ p e = true) : denO ρ e = Aw.renL φ (denO (β.ap ρ) p) := by
  unfold okO at h
  split at h
  · rename_i z m l
    simp only [Bool.and_eq_true] at h
    obtain ⟨hw, h⟩ := h
    have e1 : Aw.renL φ (denO (β.ap ρ) [.rows z m l]) = (rowsD (β.ap ρ) m l).flatten := renL_none φ _ nmsL_rowsF
    rw [e1]
    split at h
    · simp only [Bool.and_eq_true] at h
      simp only [denO, okRows hg h.2.1 h.2.2]
    · simp only [Bool.and_eq_true, Bool.not_eq_true'] at h
      obtain ⟨h1, h2, h3, h4⟩ := h
      rw [denO_of h1, okRws_den hg h4, chunkX_den, chunk_flatten _ _ _ (by rw [X.denL_len]; exact Nat.eq_of_beq_eq_true h3)]
  · simp only [Bool.and_eq_true, Bool.not_eq_true'] at h
    rw [denO_of h.1, denO_of h.2.1]
    exact okXL_den hg _ _ h.2.2

/-! ### A state fits a pattern -/
def nmMap : List (Nm × Nm) → Nm → Nm
  | [], m => m
  | (a, b) :: r, m => if nmbeq a m = true then b else nmMap r m
def okTop (n : Nat) (β : Bind) (φ : Nm → Nm) (nx : Nat) (p e : X) : Bool := match p with
  | .top => true
  | p => X.nms (fun m => Nat.blt m.1 nx) p && okX n β φ p e
/-- The names that the pattern has are those of different objects. -/
def injB (φ : Nm → Nm) : List Nm → Bool
  | [] => true
  | m :: r => r.all (fun k => nmbeq m k || !nmbeq (φ m) (φ k)) && injB φ r
def lowB (k0 : Nat) : List (Nm × Nm) → Bool
  | [] => true
  | (a, b) :: r => (Nat.ble k0 a.1 || nmbeq a b) && lowB k0 r
structure Pat where
  n : Nat
  S : XS
def okS (k0 n : Nat) (β : Bind) (nm : List (Nm × Nm)) (S σ : XS) : Bool :=
  β.ge n && (Nat.ble k0 S.nx && (lowB k0 nm && (injB (nmMap nm) (S.h.map (·.1)) &&
  (S.t.all (fun p => okTop n β (nmMap nm) S.nx (tgetX S.t p.1) (tgetX σ.t p.1)) &&
   S.h.all (fun p => match hgetO S.h p.1 with
    | some cs => X.nmsL (fun m => Nat.blt m.1 S.nx) cs && (Nat.blt p.1.1 S.nx && (match hgetO σ.h (nmMap nm p.1) with
      | some es => okO n β (nmMap nm) cs es
      | none => false))
    | none => true)))))
theorem nmMap_low {k0 : Nat} : ∀ {nm : List (Nm × Nm)} {m : Nm}, lowB k0 nm = true → m.1 < k0 → nmMap nm m = m
  | [], _, _, _ => rfl
  | (a, b) :: r, m, h, hm => by
    simp only [lowB, Bool.and_eq_true, Bool.or_eq_true, Nat.ble_eq] at h
    simp only [nmMap]
    split
    · rename_i ha
      have := nmbeq_eq ha
      subst this
      rcases h.1 with h1 | h1
      · omega
      · exact (nmbeq_eq h1).symm
    · exact nmMap_low h.2 hm
theorem injB_ok {φ : Nm → Nm} : ∀ {l : List Nm}, injB φ l = true → ∀ m ∈ l, ∀ m' ∈ l, φ m = φ m' → m = m'
  | [], _, m, hm, _, _, _ => by cases hm
  | a :: r, h, m, hm, m', hm', he => by
    simp only [injB, Bool.and_eq_true, List.all_eq_true, Bool.or_eq_true, Bool.not_eq_true'] at h
    rcases List.mem_cons.1 hm with rfl | hm1
    · rcases List.mem_cons.1 hm' with rfl | hm2
      · rfl
      · rcases h.1 m' hm2 with h1 | h1
        · exact nmbeq_eq h1
        · rw [he] at h1; simp [nmbeq] at h1
    · rcases List.mem_cons.1 hm' with rfl | hm2
      · rcases h.1 m hm1 with h1 | h1
        · exact (nmbeq_eq h1).symm
        · rw [he] at h1; simp [nmbeq] at h1
      · exact injB_ok h.2 m hm1 m' hm2 he
theorem tgetX_key : ∀ (t : XTp) (i : Nat), tgetX t i = .top ∨ ∃ v, (i, v) ∈ t
  | [], i => .inl rfl
  | (j, v) :: l, i => by
    simp only [tgetX]
    split
    · rename_i h; have h := Nat.eq_of_beq_eq_true h; subst h; exact .inr ⟨v, List.mem_cons_self⟩
    · rcases tgetX_key l i with h | ⟨w, h⟩
      · exact .inl h
      · exact .inr ⟨w, List.mem_cons_of_mem _ h⟩
theorem hgetO_key : ∀ (h : XHp) (m : Nm) (cs : List X), hgetO h m = some cs → (m, cs) ∈ h
  | [], _, _, h => by cases h
  | (k, v) :: l, m, cs, h => by
    simp only [hgetO] at h
    split at h
    · rename_i e; have := nmbeq_eq e; subst this; cases h; exact List.mem_cons_self
    · exact List.mem_cons_of_mem _ (hgetO_key l m cs h)
theorem okS_imp {E : Aw.Env} {k0 n : Nat} (hb : ∀ m, E.c0.kn m → m.1 < k0) {β : Bind} {nm : List (Nm × Nm)} {S σ : XS} (h : okS k0 n β nm S σ = true) (ρ : Rho) : Imp E (σ.den ρ) (S.den (β.ap ρ)) := by
  simp only [okS, Bool.and_eq_true, Nat.ble_eq] at h
  obtain ⟨hg, hk, hlow, hinj, ht, hh⟩ := h
  have key : ∀ m cs, hget (denH (β.ap ρ) S.h) m = some cs → ∃ ds es, hgetO S.h m = some ds ∧ cs = denO (β.ap ρ) ds ∧ X.nmsL (fun m => Nat.blt m.1 S.nx) ds = true ∧ m.1 < S.nx ∧ hgetO σ.h (nmMap nm m) = some es ∧ okO n β (nmMap nm) ds es = true := fun m cs hcs => by
    rw [hget_denO] at hcs
    obtain ⟨ds, hd, rfl⟩ := Option.map_eq_some_iff.1 hcs
    have := List.all_eq_true.1 hh _ (hgetO_key _ _ _ hd)
    simp only [hd, Bool.and_eq_true, Nat.blt_eq] at this
    obtain ⟨h1, h2, h3⟩ := this
    split at h3
    · rename_i es he
      exact ⟨ds, es, hd, rfl, h1, h2, he, h3⟩
    · cases h3
  refine Imp_ren (σ' := S.den (β.ap ρ)) (nmMap nm) hb (fun m hm => nmMap_low hlow hm) hk (fun i => ?_) (fun m cs hcs => ?_) (fun m m' hm hm' he => ?_)
  · simp only [XS.den, tget_denT]
    rcases tgetX_key S.t i with h | ⟨v, hv⟩
    · rw [h]; exact .inl rfl
    · have := List.all_eq_true.1 ht _ hv
      simp only [okTop] at this
      split at this
      · rename_i hp; rw [hp]; exact .inl rfl
      · simp only [Bool.and_eq_true] at this
        exact .inr ⟨X.nms_den _ _ this.1, okX_den hg _ _ this.2⟩
  · obtain ⟨ds, es, h1, rfl, h3, h4, h5, h6⟩ := key m cs hcs
    refine ⟨X.nmsO_den _ _ h3, h4, ?_⟩
    simp only [XS.den]
    rw [hget_denO, h5, Option.map_some, okO_den hg h6]
  · obtain ⟨cs, hcs⟩ := Option.isSome_iff_exists.1 hm
    obtain ⟨cs', hcs'⟩ := Option.isSome_iff_exists.1 hm'
    obtain ⟨ds, _, h1, _⟩ := key m cs hcs
    obtain ⟨ds', _, h1', _⟩ := key m' cs' hcs'
    exact injB_ok hinj m (List.mem_map.2 ⟨_, hgetO_key _ _ _ h1, rfl⟩) m' (List.mem_map.2 ⟨_, hgetO_key _ _ _ h1', rfl⟩) he

/-! ### What is shown of a loop once -/
/-- The number of the first region. -/
def codeKey : Code → Option Nat
  | .region id _ _ => some id
  | .seq a b => match codeKey a with
    | some k => some k
    | none => codeKey b
  | .cond _ a b => match codeKey a with
    | some k => some k
    | none => codeKey b
  | .block _ c => codeKey c
  | .loop c => codeKey c
  | _ => none
structure LoopX where
  key : Nat
  k0 : Nat
  /-- The loop's letters are those from n on. -/
  n : Nat
  S : XS
  init : Bind
  nm : List (Nm × Nm)
  out : T (XE × XS)
/-- At the letters' last values: the loop, from its first state, ends as is told. -/
def LoopOk (P : Program) (ρ : Rho) (N : Nat) (c : Code) (L : LoopX) : Prop :=
  ∀ E : Aw.Env, E.N = N → (∀ m, E.c0.kn m → m.1 < L.k0) → AW P E (.loop c) (fun e σ => ∃ e' s, L.out.sel ρ = some (e', s) ∧ e = e'.to ∧ Imp E σ (s.den ρ)) (L.S.den (L.init.ap ρ))
def lookL (k : Option Nat) : List LoopX → List LoopX
  | [] => []
  | L :: r => match k with
    | some k => if Nat.beq L.key k = true then L :: lookL (some k) r else lookL (some k) r
    | none => []
def keysIn (b t : XTp) : Bool := b.all fun p => t.any fun q => Nat.beq q.1 p.1
/-- A way out, laid over the slots that were there. -/
def rebase (b : XTp) (p : XE × XS) : T (XE × XS) := if keysIn b p.2.t = true then .ret (p.1, ⟨sqK p.2.t (p.2.t.map (·.1)) [] b, p.2.h, p.2.nx⟩) else .fail ["keys"]
theorem rebase_ok {ρ : Rho} {b : XTp} {p : XE × XS} {e : XE} {s : XS} (h : (rebase b p).sel ρ = some (e, s)) : e = p.1 ∧ LeS (s.den ρ) (p.2.den ρ) ∧ Ext b s.t := by
  unfold rebase at h
  split at h
  · rename_i hk
    cases h
    refine ⟨rfl, ⟨fun i => ?_, fun m cs hcs => ⟨cs, hcs, LeC.refl cs⟩, Nat.le_refl _⟩, sqK_ext _ _ _ _⟩
    simp only [XS.den, tget_denT, tget_sqK]
    split
    · exact LeA.refl _
    · rename_i hn
      simp only [List.not_mem_nil, not_false_eq_true, and_true] at hn
      have h1 : tgetX b i = .top := by
        rcases tgetX_key b i with h | ⟨v, hv⟩
        · exact h
        · have := List.all_eq_true.1 hk _ hv
          obtain ⟨q, hq, he⟩ := List.any_eq_true.1 this
          have he := Nat.eq_of_beq_eq_true he
          exact absurd (List.mem_map.2 ⟨q, hq, he⟩) hn
      rw [h1]; exact LeA.top _
  · cases h
def loopX (k0 : Nat) (L : LoopX) (Φ : Facts) (σ : XS) : T (XE × XS) :=
  if (Nat.beq L.k0 k0 && okS k0 L.n L.init L.nm L.S σ) = true then L.out.bind Φ fun _ p => rebase σ.t p else .fail ["loop"]
/-- The first of them that fits. -/
def loopsX (k0 : Nat) (Φ : Facts) (σ : XS) : List LoopX → T (XE × XS)
  | [] => .fail ["loops"]
  | [L] => loopX k0 L Φ σ
  | L :: r => if (Nat.beq L.k0 k0 && okS k0 L.n L.init L.nm L.S σ) = true then loopX k0 L Φ σ else loopsX k0 Φ σ r
theorem T.sel_bind' {α β : Type} {ρ : Rho} {t : T α} {Φ : Facts} {f : Facts → α → T β} {b : β} (hk : Facts.ok ρ Φ) (h : (t.bind Φ f).sel ρ = some b) : ∃ Φ' a, Facts.ok ρ Φ' ∧ t.sel ρ = some a ∧ (f Φ' a).sel ρ = some b := T.sel_bind _ hk h
theorem loopX_ok {P : Program} {E : Aw.Env} {ρ : Rho} {k0 : Nat} {L : LoopX} {c : Code} (hb : ∀ m, E.c0.kn m → m.1 < k0) (hL : LoopOk P ρ E.N c L) {Φ : Facts} (hk : Facts.ok ρ Φ) {σ σ' : XS} {e : XE} (h : (loopX k0 L Φ σ).sel ρ = some (e, σ')) :
    AW P E (.loop c) (fun e' s => e' = e.to ∧ Imp E s (σ'.den ρ)) (σ.den ρ) := by
  unfold loopX at h
  split at h
  · rename_i hc
    simp only [Bool.and_eq_true] at hc
    have hk0 := Nat.eq_of_beq_eq_true hc.1
    subst hk0
    obtain ⟨_, p, _, h1, h2⟩ := T.sel_bind _ hk h
    obtain ⟨rfl, hle, _⟩ := rebase_ok h2
    refine AW_imp (okS_imp hb hc.2 ρ) (AW_mono (fun e' s hq => ?_) (hL E rfl hb))
    obtain ⟨e1, s1, g1, g2, g3⟩ := hq
    rw [h1] at g1
    cases g1
    exact ⟨g2, fun a w hr => Imp_le hle a w (g3 a w hr)⟩
  · cases h
theorem loopX_ext {k0 : Nat} {L : LoopX} {Φ : Facts} {σ : XS} : (loopX k0 L Φ σ).All fun p => Ext σ.t p.2.t := by
  unfold loopX
  split
  · refine T.All_bind (p := fun _ => True) (fun Φ p _ => ?_) (T.All_true _)
    unfold rebase
    split
    · exact sqK_ext _ _ _ _
    · trivial
  · trivial
theorem loopsX_mem {ρ : Rho} {k0 : Nat} {Φ : Facts} {σ σ' : XS} {e : XE} : ∀ {Ls : List LoopX}, (loopsX k0 Φ σ Ls).sel ρ = some (e, σ') → ∃ L ∈ Ls, (loopX k0 L Φ σ).sel ρ = some (e, σ')
  | [], h => by cases h
  | [L], h => ⟨L, List.mem_singleton.2 rfl, h⟩
  | L :: M :: r, h => by
    simp only [loopsX] at h
    split at h
    · exact ⟨L, List.mem_cons_self, h⟩
    · obtain ⟨K, hK, h2⟩ := loopsX_mem (Ls := M :: r) h
      exact ⟨K, List.mem_cons_of_mem _ hK, h2⟩
theorem loopsX_ext {k0 : Nat} {Φ : Facts} {σ : XS} : ∀ {Ls : List LoopX}, (loopsX k0 Φ σ Ls).All fun p => Ext σ.t p.2.t
  | [] => trivial
  | [L] => loopX_ext
  | L :: M :: r => by
    simp only [loopsX]
    split
    · exact loopX_ext
    · exact loopsX_ext (Ls := M :: r)
end Go.Proofs.Xw
