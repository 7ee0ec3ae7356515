/- Parts of the proof, one behind the other. -/
import Derived.Test.YtdlifdoglhhnfaaTM11
/- Txn: what TxnSettles' loop over the answers keeps. -/
namespace Go.Proofs.Ytdlifdoglhhnfaa
open Go Go.Proofs.Aw Go.Proofs.Xw Go.Proofs.Sr
set_option maxRecDepth 100000
theorem NC_congr {g : Nat → ByteArray} {r r' : Int} {a a' : Nat → (Nat → Int) × Bool} {c c' : Nat → Int} {k : Nat} (hr : r = r') (ha : a k = a' k) (hc : ∀ d, d < 9 → c d = c' d) : NC g r a c k ↔ NC g r' a' c' k := by
  unfold NC ncol
  rw [hr, ha, pc_congr (x := 0) (by decide) hc, pc_congr (x := 1) (by decide) hc, pc_congr (x := 2) (by decide) hc]
/-- The key is to be read again, at the cut. -/
def Nk (g : Nat → ByteArray) (ρ : Rho) (k : Nat) : Prop := NC g (ρ.i 9) (An ρ 506) (fun d => ρ.i (510 + d)) k
theorem Nk.agree {g : Nat → ByteArray} {ρ ρ' : Rho} {b : Nat} (ag : Agree b ρ ρ') (hb : 520 ≤ b) (k : Nat) : Nk g ρ' k ↔ Nk g ρ k :=
  NC_congr (ag.i 9 (by omega)).symm (An.agree ag (by omega) k) (fun d hd => (ag.i (510 + d) (by omega)).symm)
structure Bas (ρ : Rho) (n m : Nat) (g : Nat → ByteArray) (i off len : Nat) : Prop where
  f : EnF ρ n m g
  xi : ρ.i 500 = i
  im : i ≤ m
  o : ρ.i 502 = off
  l : ρ.i 503 = len
  t : Again ρ 505 n (off + len)
  on : off + len ≤ n
theorem Bas.agree {ρ ρ' : Rho} {b n m i off len : Nat} {g : Nat → ByteArray} (h : Bas ρ n m g i off len) (ag : Agree b ρ ρ') (hb : 520 ≤ b) : Bas ρ' n m g i off len :=
  ⟨h.f.agree ag (by omega), by rw [← ag.i 500 (by omega)]; exact h.xi, h.im, by rw [← ag.i 502 (by omega)]; exact h.o, by rw [← ag.i 503 (by omega)]; exact h.l, h.t.agree ag (by omega), h.on⟩
/-- The first round. -/
structure PhA (ρ : Rho) (n off len : Nat) : Prop where
  l0 : 0 < len
  r : ρ.i 519 = 1
  s : off + len = n
  c : ρ.i 501 = off
  t : ∀ j, j < n → ρ.ci 505 0 j = j
  cut : ∀ d, d < 9 → ρ.i (510 + d) = ρ.i d
  a : ∀ k, k < off → An ρ 506 k = An ρ 504 k
  tw : ∀ k, k < n → ρ.cb 507 0 k = false
/-- The cut covers what it began with, and all that was found. -/
def Setl (ρ : Rho) (n : Nat) : Prop := (∀ d, d < 9 → ρ.i d ≤ ρ.i (510 + d)) ∧ ∀ k, k < n → (An ρ 506 k).2 = true → ∀ d, d < 9 → pa (An ρ 506 k).1 d ≤ ρ.i (510 + d)
/-- Done behind the first round. -/
structure PhB (ρ : Rho) (n len : Nat) (g : Nat → ByteArray) : Prop where
  r : ρ.i 519 = 1
  l : len = 0
  st : Setl ρ n
  tw : ∀ k, k < n → ρ.cb 507 0 k = false
  nc : ∀ k, k < n → ¬ Nk g ρ k
/-- The second round. -/
structure PhC (ρ : Rho) (n off len : Nat) (g : Nat → ByteArray) : Prop where
  r : ρ.i 519 = 2
  st : Setl ρ n
  t : Lst ρ 505 (off + len) n (Nk g ρ)
  tw : ∀ k, k < n → (ρ.cb 507 0 k = true ↔ ∃ y, y < off ∧ ρ.ci 505 0 y = k)
def Ph (ρ : Rho) (n off len : Nat) (g : Nat → ByteArray) : Prop := PhA ρ n off len ∨ PhB ρ n len g ∨ PhC ρ n off len g
theorem Setl.agree {ρ ρ' : Rho} {b n : Nat} (h : Setl ρ n) (ag : Agree b ρ ρ') (hb : 520 ≤ b) : Setl ρ' n :=
  ⟨fun d hd => by rw [← ag.i d (by omega), ← ag.i (510 + d) (by omega)]; exact h.1 d hd, fun k hk hh d hd => by
    rw [An.agree ag (by omega)] at hh ⊢
    rw [← ag.i (510 + d) (by omega)]
    exact h.2 k hk hh d hd⟩
theorem PhA.agree {ρ ρ' : Rho} {b n off len : Nat} (h : PhA ρ n off len) (ag : Agree b ρ ρ') (hb : 520 ≤ b) : PhA ρ' n off len :=
  ⟨h.l0, by rw [← ag.i 519 (by omega)]; exact h.r, h.s, by rw [← ag.i 501 (by omega)]; exact h.c, by rw [← ag.ci 505 (by omega)]; exact h.t, fun d hd => by rw [← ag.i d (by omega), ← ag.i (510 + d) (by omega)]; exact h.cut d hd,
    fun k hk => by rw [An.agree ag (by omega), An.agree ag (by omega)]; exact h.a k hk, by rw [← ag.cb 507 (by omega)]; exact h.tw⟩
theorem PhB.agree {ρ ρ' : Rho} {b n len : Nat} {g : Nat → ByteArray} (h : PhB ρ n len g) (ag : Agree b ρ ρ') (hb : 520 ≤ b) : PhB ρ' n len g :=
  ⟨by rw [← ag.i 519 (by omega)]; exact h.r, h.l, h.st.agree ag hb, by rw [← ag.cb 507 (by omega)]; exact h.tw, fun k hk hn => h.nc k hk ((Nk.agree ag hb k).1 hn)⟩
theorem Lst.iff {ρ : Rho} {l c j : Nat} {P Q : Nat → Prop} (h : Lst ρ l c j P) (e : ∀ k, k < j → (P k ↔ Q k)) : Lst ρ l c j Q :=
  ⟨h.1, fun y hy => by
    obtain ⟨x, h1, h2, h3⟩ := h.2.1 y hy
    exact ⟨x, h1, h2, (e x h1).1 h3⟩, fun x hx hq => h.2.2 x hx ((e x hx).2 hq)⟩
theorem PhC.agree {ρ ρ' : Rho} {b n off len : Nat} {g : Nat → ByteArray} (h : PhC ρ n off len g) (ag : Agree b ρ ρ') (hb : 520 ≤ b) : PhC ρ' n off len g :=
  ⟨by rw [← ag.i 519 (by omega)]; exact h.r, h.st.agree ag hb, (h.t.agree ag (by omega)).iff fun k _ => (Nk.agree ag hb k).symm, by rw [← ag.cb 507 (by omega), ← ag.ci 505 (by omega)]; exact h.tw⟩
theorem Ph.agree {ρ ρ' : Rho} {b n off len : Nat} {g : Nat → ByteArray} (h : Ph ρ n off len g) (ag : Agree b ρ ρ') (hb : 520 ≤ b) : Ph ρ' n off len g := by
  rcases h with h | h | h
  · exact .inl (h.agree ag hb)
  · exact .inr (.inl (h.agree ag hb))
  · exact .inr (.inr (h.agree ag hb))
structure Gone (ρ : Rho) (n m : Nat) (g : Nat → ByteArray) (i : Nat) : Prop where
  f : EnF ρ n m g
  xi : ρ.i 500 = i
  im : i ≤ m
  c : ρ.i 520 = 60
theorem mnF_ok {ρ : Rho} {n m i : Nat} {g : Nat → ByteArray} (hf : EnF ρ n m g) (hi : ρ.i 500 = i) : Facts.ok ρ mnF := by
  have h1 := hf.en; have h2 := hf.n1; have h3 := hf.n6
  exact Facts.ok_cons (by rw [dlt_f]; simp only [IE.den]; omega) (Facts.ok_cons (by rw [dlt_f]; simp only [IE.den]; omega) (Facts.ok_cons (by rw [dlt_f]; simp only [IE.den]; omega) (Facts.ok_nil _)))
theorem inM_den {ρ : Rho} {n m i : Nat} {g : Nat → ByteArray} (hf : EnF ρ n m g) (hi : ρ.i 500 = i) : inM.den ρ = decide (i < m) := by
  show decide (ρ.i 500 < (ρ.len 3 : Int)) = _
  rw [hi, hf.em]
  exact decide_eq_decide.2 (by omega)
theorem Ph.r2 {ρ : Rho} {n off len : Nat} {g : Nat → ByteArray} (h : Ph ρ n off len g) : ρ.i 519 ≤ 2 := by
  rcases h with h | h | h <;> have := h.r <;> omega
theorem lvF_ok {ρ : Rho} {n m i off len : Nat} {g : Nat → ByteArray} (h : Bas ρ n m g i off len) (hr : ρ.i 519 ≤ 2) (hl : 0 < len) : Facts.ok ρ lvF := by
  have h1 := h.f.n6; have h2 := h.o; have h3 := h.l; have h4 := h.t.1; have h5 := h.t.2 off (by omega); have h6 := h.f.en; have hs := h.on
  have hc : (IE.cl 505 0 (.var 502)).den ρ = ρ.ci 505 0 off := cl_i h2
  refine Facts.ok_cons (by rw [dlt_f]; simp only [IE.den]; omega) (Facts.ok_cons (by rw [dlt_f]; simp only [IE.den]; omega) (Facts.ok_cons (by rw [dlt_t]; simp only [IE.den]; omega) (Facts.ok_cons (by rw [dlt_f]; simp only [IE.den]; omega) (Facts.ok_cons ?_ (Facts.ok_cons (by rw [dlt_f, hc]; exact h5.1) (Facts.ok_cons (by rw [dlt_t, hc]; simp only [IE.den]; omega) (Facts.ok_cons (by rw [dlt_f]; exact hr) (Facts.ok_cons (by rw [dlt_t]; simp only [IE.den]; omega) (Facts.ok_nil _)))))))))
  rw [deq_t]
  show (ρ.len 505 : Int) = ρ.i 502 + ρ.i 503
  omega
theorem n1_t {ρ : Rho} {n m i off len : Nat} {g : Nat → ByteArray} (h : Bas ρ n m g i off len) : (BE.not (.lt (.len 505) (.op .padd .i64 (.var 502) (.var 503)))).den ρ = true := by
  have h2 := h.o; have h3 := h.l; have h4 := h.t.1
  rw [dnot_t, dlt_f]
  show ρ.i 502 + ρ.i 503 ≤ (ρ.len 505 : Int)
  omega
theorem n2_t {ρ : Rho} {n m i off len : Nat} {g : Nat → ByteArray} (h : Bas ρ n m g i off len) : (BE.not (.lt (.len 505) (.op .padd .i64 (.op .padd .i64 (.var 502) (.lit 1)) (.op .psub .i64 (.var 503) (.lit 1))))).den ρ = true := by
  have h2 := h.o; have h3 := h.l; have h4 := h.t.1
  rw [dnot_t, dlt_f]
  show (ρ.i 502 + 1) + (ρ.i 503 - 1) ≤ (ρ.len 505 : Int)
  omega
/-! ### Letters that a round does not turn -/
def cutSame (β : Bind) : Prop := ∀ d, d < 9 → lassoc (510 + d) β.i = some (.var (510 + d))
def cutNew (β : Bind) : Prop := ∀ d, d < 9 → lassoc (510 + d) β.i = some (.var (532 + d))
theorem nine {P : Nat → Prop} (h0 : P 0) (h1 : P 1) (h2 : P 2) (h3 : P 3) (h4 : P 4) (h5 : P 5) (h6 : P 6) (h7 : P 7) (h8 : P 8) : ∀ d, d < 9 → P d := fun d hd =>
  match d, hd with
  | 0, _ => h0
  | 1, _ => h1
  | 2, _ => h2
  | 3, _ => h3
  | 4, _ => h4
  | 5, _ => h5
  | 6, _ => h6
  | 7, _ => h7
  | 8, _ => h8
theorem sameT {ρ : Rho} {β : Bind} {n c : Nat} (h : Again ρ 505 n c) (hr : lassoc 505 β.r = some (.len 505, .var 505 [.i .i64])) : Again (β.ap ρ) 505 n c :=
  ⟨by rw [ap_len hr]; show ((ρ.len 505 : Int)).toNat = _; rw [h.1]; omega, fun j hj => by rw [ap_ci hr, row_i]; exact h.2 j hj⟩
theorem same_ci {ρ : Rho} {β : Bind} (hr : lassoc 505 β.r = some (.len 505, .var 505 [.i .i64])) (j : Nat) : (β.ap ρ).ci 505 0 j = ρ.ci 505 0 j := by rw [ap_ci hr, row_i]
theorem same_cb {ρ : Rho} {β : Bind} (hr : lassoc 507 β.r = some (.len 2, .var 507 [.b])) (j : Nat) : (β.ap ρ).cb 507 0 j = ρ.cb 507 0 j := by rw [ap_cb hr, row_b]
/-- A round in which nothing comes of the answer. -/
theorem Ph.stay {ρ : Rho} {β : Bind} {n off len : Nat} {g : Nat → ByteArray} (h : Ph ρ n off len g) (ag : Agree 500 ρ (β.ap ρ)) (hc : cutSame β) (h1 : lassoc 501 β.i = some (.var 501)) (h19 : lassoc 519 β.i = some (.var 519)) (r4 : lassoc 504 β.r = some (.len 2, .var 504 ka)) (r5 : lassoc 505 β.r = some (.len 505, .var 505 [.i .i64])) (r6 : lassoc 506 β.r = some (.len 2, .var 506 ka)) (r7 : lassoc 507 β.r = some (.len 2, .var 507 [.b])) : Ph (β.ap ρ) n off len g := by
  have ec : ∀ d, d < 9 → (β.ap ρ).i (510 + d) = ρ.i (510 + d) := fun d hd => ap_i (hc d hd)
  have ep : ∀ d, d < 9 → (β.ap ρ).i d = ρ.i d := fun d hd => (ag.i d (by omega)).symm
  have e9 : (β.ap ρ).i 9 = ρ.i 9 := (ag.i 9 (by decide)).symm
  have enk : ∀ k, Nk g (β.ap ρ) k ↔ Nk g ρ k := fun k => NC_congr e9 (var_An r6 k) ec
  have est : Setl ρ n → Setl (β.ap ρ) n := fun hs => ⟨fun d hd => by rw [ec d hd, ep d hd]; exact hs.1 d hd, fun k hk hh d hd => by
    rw [var_An r6] at hh ⊢
    rw [ec d hd]; exact hs.2 k hk hh d hd⟩
  rcases h with h | h | h
  · exact .inl ⟨h.l0, (ap_i h19).trans h.r, h.s, (ap_i h1).trans h.c, fun j hj => by rw [same_ci r5]; exact h.t j hj, fun d hd => by rw [ec d hd, ep d hd]; exact h.cut d hd, fun k hk => by rw [var_An r6, var_An r4]; exact h.a k hk, fun k hk => by rw [same_cb r7]; exact h.tw k hk⟩
  · exact .inr (.inl ⟨(ap_i h19).trans h.r, h.l, est h.st, fun k hk => by rw [same_cb r7]; exact h.tw k hk, fun k hk hn => h.nc k hk ((enk k).1 hn)⟩)
  · refine .inr (.inr ⟨(ap_i h19).trans h.r, est h.st, ⟨?_, fun y hy => ?_, fun x hx hq => ?_⟩, fun k hk => ?_⟩)
    · rw [ap_len r5]; show ((ρ.len 505 : Int)).toNat = _; rw [h.t.1]; omega
    · obtain ⟨x, x1, x2, x3⟩ := h.t.2.1 y hy
      exact ⟨x, x1, by rw [same_ci r5]; exact x2, (enk x).2 x3⟩
    · obtain ⟨y, y1, y2⟩ := h.t.2.2 x hx ((enk x).1 hq)
      exact ⟨y, y1, by rw [same_ci r5]; exact y2⟩
    · rw [same_cb r7, h.tw k hk]
      constructor
      · rintro ⟨y, y1, y2⟩; exact ⟨y, y1, by rw [same_ci r5]; exact y2⟩
      · rintro ⟨y, y1, y2⟩; exact ⟨y, y1, by rw [same_ci r5] at y2; exact y2⟩
theorem tw_o : othersB [tw] [0] 0 (loopsOf mn_c) = true := by kernel_rfl
theorem tw_l {ρ : Rho} (h : LoopOk Try.prog ρ Try.f3.ntmps tw_c tw) : LpsOk Try.prog ρ Try.f3.ntmps [tw] mn_c :=
  lps_idx [0] tw_o (List.forall_mem_cons.2 ⟨look_list (c := tw_c) (Ls := [tw]) (by kernel_rfl) (List.forall_mem_cons.2 ⟨h, List.forall_mem_nil _⟩), List.forall_mem_nil _⟩)
def mnS : Nat → XS
  | 0 => mn_S0
  | _ => mn_S1
def mnR (n m : Nat) (g : Nat → ByteArray) (s : Nat) (ρ : Rho) : Prop := match s with
  | 0 => ∃ i off len : Nat, Bas ρ n m g i off len ∧ Ph ρ n off len g
  | _ => ∃ i : Nat, Gone ρ n m g i
/-- What the loop leaves. -/
def mnQ (n m : Nat) (g : Nat → ByteArray) (s : Nat) (ρ : Rho) : Prop := match s with
  | 0 => ρ.b 525 = true ∧ ∃ i off len : Nat, Bas ρ n m g i off len ∧ Ph ρ n off len g
  | _ => ρ.b 525 = false ∧ ∃ i : Nat, Gone ρ n m g i
/-- The second round: one more key is read. -/
theorem PhC.next {ρ ρ2 : Rho} {β : Bind} {n m i off len κ : Nat} {g : Nat → ByteArray} (hB : Bas ρ n m g i off len) (h : PhC ρ n off len g) (hl : 0 < len) (hκ : ρ.ci 505 0 off = κ) (hD : ∀ a b, a < n → b < n → g a = g b → a = b) (ag2 : Agree 560 ρ ρ2) (htw : ∀ k, k < n → ρ2.cb 561 0 k = (ρ.cb 507 0 k || decide (g k = g κ)))
    (ag : Agree 500 ρ (β.ap ρ2)) (hc : cutSame β) (h19 : lassoc 519 β.i = some (.var 519)) (r5 : lassoc 505 β.r = some (.len 505, .var 505 [.i .i64])) (r6 : lassoc 506 β.r = some (.len 2, .var 506 ka)) (r7 : lassoc 507 β.r = some (.len 2, .var 561 [.b])) : PhC (β.ap ρ2) n (off + 1) (len - 1) g := by
  have ec : ∀ d, d < 9 → (β.ap ρ2).i (510 + d) = ρ.i (510 + d) := fun d hd => (ap_i (hc d hd)).trans (ag2.i (510 + d) (by omega)).symm
  have ep : ∀ d, d < 9 → (β.ap ρ2).i d = ρ.i d := fun d hd => (ag.i d (by omega)).symm
  have e9 : (β.ap ρ2).i 9 = ρ.i 9 := (ag.i 9 (by decide)).symm
  have ea : ∀ k, An (β.ap ρ2) 506 k = An ρ 506 k := fun k => (var_An r6 k).trans (An.agree ag2 (by decide) k)
  have eci : ∀ j, (β.ap ρ2).ci 505 0 j = ρ.ci 505 0 j := fun j => by rw [same_ci r5, ← ag2.ci 505 (by decide)]
  have enk : ∀ k, Nk g (β.ap ρ2) k ↔ Nk g ρ k := fun k => NC_congr e9 (ea k) ec
  have hon := hB.on
  refine ⟨(ap_i h19).trans ((ag2.i 519 (by decide)).symm.trans h.r), ⟨fun d hd => by rw [ec d hd, ep d hd]; exact h.st.1 d hd, fun k hk hh d hd => by
    rw [ea] at hh ⊢
    rw [ec d hd]; exact h.st.2 k hk hh d hd⟩, ⟨?_, fun y hy => ?_, fun x hx hq => ?_⟩, fun k hk => ?_⟩
  · rw [ap_len r5]; show ((ρ2.len 505 : Int)).toNat = _; rw [← ag2.len 505 (by decide), h.t.1]; omega
  · obtain ⟨x, x1, x2, x3⟩ := h.t.2.1 y (by omega)
    exact ⟨x, x1, by rw [eci]; exact x2, (enk x).2 x3⟩
  · obtain ⟨y, y1, y2⟩ := h.t.2.2 x hx ((enk x).1 hq)
    exact ⟨y, by omega, by rw [eci]; exact y2⟩
  · rw [ap_cb r7, row_b, htw k hk, Bool.or_eq_true, h.tw k hk, decide_eq_true_eq]
    have hkn : κ < n := by
      have := (hB.t.2 off (by omega)).2
      omega
    constructor
    · rintro (⟨y, y1, y2⟩ | q)
      · exact ⟨y, by omega, by rw [eci]; exact y2⟩
      · exact ⟨off, by omega, by rw [eci, hκ, hD k κ hk hkn q]⟩
    · rintro ⟨y, y1, y2⟩
      rw [eci] at y2
      by_cases q : y = off
      · subst q
        right
        have : κ = k := by omega
        rw [this]
      · exact .inl ⟨y, by omega, y2⟩
theorem mn_ok (ρ : Rho) {n m : Nat} {g : Nat → ByteArray} (hf : EnF ρ n m g) (hD : ∀ a b, a < n → b < n → g a = g b → a = b) (h1 : ρ.len 461 = n) (h2 : ∀ j, j < n → ρ.ci 461 0 j = j) : ∃ s ρf, Agree 500 ρ ρf ∧ mnQ n m g s ρf ∧ LoopOk Try.prog ρf Try.f3.ntmps mn_c mn := by
  have a0 := Bind.agree mn_I0g ρ
  have hn := hf.n6; have hm := hf.mb; have hn1 := hf.n1
  have t0 : ∀ j, j < n → (mn_I0.ap ρ).ci 505 0 j = j := fun j hj => by rw [ap_ci mn_I0_r505, row_i, h2 j hj]
  refine loopOk_famE (L := mn) (N := Try.f3.ntmps) (body := mn_c) (P := Try.prog) rfl mn_Eb mnS (mnR n m g) (mnQ n m g) (fun _ ρ' => (m - ρ'.i 500).toNat) ?_
    ⟨0, mn_I0.ap ρ, a0, ⟨0, 0, n, ⟨hf.agree a0 (by decide), ap_i mn_I0_500, Nat.zero_le _, ap_i mn_I0_502, (ap_i mn_I0_503).trans (by show (ρ.len 461 : Int) = _; rw [h1]), ⟨by rw [ap_len mn_I0_r505]; show ((ρ.len 461 : Int)).toNat = _; rw [h1]; omega, fun j hj => by rw [t0 j (by omega)]; omega⟩, by omega⟩,
      .inl ⟨by omega, ap_i mn_I0_519, by omega, ap_i mn_I0_501, t0, fun d hd => by
        rw [ap_i (show lassoc (510 + d) mn_I0.i = some (.var d) from nine (P := fun d => lassoc (510 + d) mn_I0.i = some (.var d)) rfl rfl rfl rfl rfl rfl rfl rfl rfl d hd), ← a0.i d (by omega)]; rfl, fun k hk => absurd hk (by omega), fun k _ => by rw [ap_cb mn_I0_r507]; rfl⟩⟩, fun E _ hE => okS_imp hE mn_I0ok ρ⟩
  intro s ρ' hR
  match s, hR with
  | 0, ⟨i, off, len, h, hp⟩ =>
    have hon := h.on
    by_cases c : i < m
    · have down : ∀ {x : Rho}, x.i 500 = ((i + 1 : Nat) : Int) → (m - x.i 500).toNat < (m - ρ'.i 500).toNat := fun e => by rw [e, h.xi]; omega
      have up : ∀ {ρ1 : Rho} {β : Bind}, ρ1.i 500 = ρ'.i 500 → lassoc 500 β.i = some (.op .add .i64 (.var 500) (.lit 1)) → (β.ap ρ1).i 500 = ((i + 1 : Nat) : Int) := fun e hb => (ap_i hb).trans (inc (e.trans h.xi) (by omega))
      by_cases hl : len = 0
      · -- it is done
        have ag : Agree 525 ρ' (putB ρ' 525 true) := putB_agree ρ' (Nat.le_refl _)
        have h' : Bas (putB ρ' 525 true) n m g i off len := h.agree ag (by decide)
        refine .inl ⟨putB ρ' 525 true, ag.le (by decide), ⟨rfl, i, off, len, h', hp.agree ag (by decide)⟩, XS.bel_den ag mn_S0 (by kernel_rfl), ?_⟩
        refine mn_XD_end (cN_ok _) (LpsOk.nil _ _ _ _) (Facts.ok_cons (by rw [inM_den h'.f h'.xi]; exact decide_eq_true c) (Facts.ok_cons (by rw [dlt_f]; show (putB ρ' 525 true).i 503 ≤ 0; rw [h'.l]; omega) (Facts.ok_cons (by rw [dlt_f]; show 0 ≤ (putB ρ' 525 true).i 503; rw [h'.l]; omega) (mnF_ok h'.f h'.xi)))) ?_ rfl
        rw [dand_t, dnot_t, dlt_f]
        exact ⟨by show 0 ≤ (putB ρ' 525 true).i 502; rw [h'.o]; omega, n1_t h'⟩
      · have hl : 0 < len := by omega
        have hin : inM.den ρ' = true := by rw [inM_den h.f h.xi]; exact decide_eq_true c
        have fk : Facts.ok ρ' (mnF ++ lvF) := all_ok (mnF_ok h.f h.xi) (lvF_ok h hp.r2 hl)
        have hcd : cdE.den ρ' = ρ'.ci 3 0 i := cl_i h.xi
        by_cases c60 : ρ'.ci 3 0 i = 60
        · have ag := Bind.agree mn_G_g ρ'
          exact .inr ⟨1, mn_G_b.ap ρ', mn_G_step rfl (cN_ok _) (LpsOk.nil _ _ _ _) (Facts.ok_cons hin (Facts.ok_cons (by rw [deq_t, hcd]; exact c60) fk)) (n1_t h), ⟨i + 1, h.f.agree ag (by decide), up rfl mn_G_500, c, (ap_i mn_G_520).trans (hcd.trans c60)⟩, down (up rfl mn_G_500), ag⟩
        · by_cases c0 : ρ'.ci 3 0 i = 0
          · -- it is OK
            have f0 : (BE.eq cdE (.lit 0)).den ρ' = true := by rw [deq_t, hcd]; exact c0
            have eo : ∀ {ρ1 : Rho} {β : Bind}, ρ1.i 502 = off → lassoc 502 β.i = some (.op .padd .i64 (.var 502) (.lit 1)) → (β.ap ρ1).i 502 = ((off + 1 : Nat) : Int) := fun {ρ1 β} e hb => (ap_i hb).trans (by show ρ1.i 502 + 1 = _; rw [e]; omega)
            have el : ∀ {ρ1 : Rho} {β : Bind}, ρ1.i 503 = len → lassoc 503 β.i = some (.op .psub .i64 (.var 503) (.lit 1)) → (β.ap ρ1).i 503 = ((len - 1 : Nat) : Int) := fun {ρ1 β} e hb => (ap_i hb).trans (by show ρ1.i 503 - 1 = _; rw [e]; omega)
            have et : ∀ {ρ1 : Rho}, Again ρ1 505 n (off + len) → Again ρ1 505 n (off + 1 + (len - 1)) := fun h => by rw [show off + 1 + (len - 1) = off + len from by omega]; exact h
            rcases hp with hA | hB | hC
            · have e505 : (IE.cl 505 0 (.var 502)).den ρ' = off := (cl_i (e := .var 502) h.o).trans (hA.t off (by omega))
              have nf : ∀ {ρ1 : Rho} {Φ : Facts}, ρ1.i 501 = off → ρ1.len 2 = n → Facts.ok ρ1 Φ → Facts.ok ρ1 ((.lt (.var 501) (.lit 0), false) :: (.lt (.var 501) (.len 2), true) :: Φ) := fun e1 e2 h => Facts.ok_cons (by rw [dlt_f]; simp only [IE.den]; omega) (Facts.ok_cons (by rw [dlt_t]; simp only [IE.den]; omega) h)
              by_cases l1 : len = 1
              · -- the last one of the first round
                subst l1
                have hsn := hA.s
                have hLA : LastA ρ' n m g off := ⟨h.f, h.o, h.l, hA.r, h.t.1, hA.s, (h.t.2 off (by omega)).1, (h.t.2 off (by omega)).2⟩
                obtain ⟨ρ1, ag1, ⟨i531, hAn, hcut⟩, L1⟩ := t1_ok ρ' hLA (hA.t off (by omega)) h.xi
                obtain ⟨ρ2, ag2, hw, L2⟩ := t2_ok ρ1 (hLA.agree ag1 (Nat.le_refl _))
                have ag : Agree 530 ρ' ρ2 := ag1.trans (ag2.le (by decide))
                have L1' : LoopOk Try.prog ρ2 Try.f34.ntmps t1_c t1 := LoopOk.agree (B := 541) (by kernel_rfl) (by kernel_rfl) t1_bel (ag2.le (by decide)) L1
                have h' : Bas ρ2 n m g i off 1 := h.agree ag (by decide)
                have hA' : PhA ρ2 n off 1 := hA.agree ag (by decide)
                have hd : mn_S0.den ρ' = mn_S0.den ρ2 := XS.bel_den ag mn_S0 mn_S0b
                have hin' : inM.den ρ2 = true := by rw [inM_den h'.f h'.xi]; exact decide_eq_true c
                have f0' : (BE.eq cdE (.lit 0)).den ρ2 = true := by rw [deq_t, show cdE.den ρ2 = ρ2.ci 3 0 i from cl_i h'.xi, ← ag.ci 3 (by decide)]; exact c0
                have fk' : Facts.ok ρ2 (mnF ++ lvF) := all_ok (mnF_ok h'.f h'.xi) (lvF_ok h' (by have := hA'.r; omega) hl)
                have i531' : ρ2.i 531 = n := by rw [← ag2.i 531 (by decide)]; exact i531
                have f531 : (BE.lt (.var 531) (.len 2)).den ρ2 = false := by rw [dlt_f]; show (ρ2.len 2 : Int) ≤ ρ2.i 531; rw [i531', h'.f.en]; exact Int.le_refl _
                have fr : (BE.eq (.var 519) (.lit 1)).den ρ2 = true := by rw [deq_t]; exact hA'.r
                have fl : (BE.eq (.var 503) (.lit 1)).den ρ2 = true := by rw [deq_t]; exact h'.l
                have n531 : (BE.not (.lt (.var 531) (.len 2))).den ρ2 = true := by rw [dnot_t]; exact f531
                -- what all that comes to
                have fin : ∀ {β : Bind}, Agree 500 ρ' (β.ap ρ2) → cutNew β → lassoc 506 β.r = some (.len 2, .upd (.var 501) (anS 3 (.var 500)) (.var 506 ka)) → (∀ k, k < n → An (β.ap ρ2) 506 k = An ρ1 530 k) ∧ (∀ d, d < 9 → (β.ap ρ2).i (510 + d) = ρ1.i (532 + d)) ∧ Setl (β.ap ρ2) n ∧ ∀ k, k < n → (Nk g (β.ap ρ2) k ↔ NC g (ρ1.i 9) (An ρ1 530) (fun d => ρ1.i (532 + d)) k) := fun {β} a3 hc r6 => by
                  have ea : ∀ k, k < n → An (β.ap ρ2) 506 k = An ρ1 530 k := fun k hk => by
                    rw [upd_An r6 (x := off) (y := i) hA'.c h'.xi, hAn k]
                    by_cases q : k = off
                    · rw [if_pos q, if_pos q]; exact An.agree ag (by decide) i
                    · rw [if_neg q, if_neg q, An.agree ag (by decide), hA.a k (by omega)]
                  have ec : ∀ d, d < 9 → (β.ap ρ2).i (510 + d) = ρ1.i (532 + d) := fun d hd => (ap_i (hc d hd)).trans (ag2.i (532 + d) (by omega)).symm
                  refine ⟨ea, ec, ⟨fun d hd => ?_, fun k hk hh d hd => ?_⟩, fun k hk => NC_congr (by rw [← a3.i 9 (by decide), ag1.i 9 (by decide)]) (ea k hk) ec⟩
                  · rw [ec d hd, ← a3.i d (by omega), ← hA.cut d hd]; exact (hcut d hd).1
                  · rw [ea k hk] at hh ⊢
                    rw [ec d hd]; exact (hcut d hd).2 k hk hh
                rcases hw with ⟨hb, hnc⟩ | ⟨hb, k, k1, k2, hk⟩
                · have a3 : Agree 500 ρ' (mn_TP_b.ap ρ2) := (ag.le (by decide)).trans (Bind.agree mn_TP_g ρ2)
                  obtain ⟨_, _, q3, q4⟩ := fin a3 (nine rfl rfl rfl rfl rfl rfl rfl rfl rfl) mn_TP_r506
                  exact .inr ⟨0, mn_TP_b.ap ρ2, mn_TP_step hd (cfgL_ok (List.forall_mem_nil _) (lpTP_ok L1' (t2P_of L2 hb))) (LpsOk.nil _ _ _ _) (Facts.ok_cons hin' (Facts.ok_cons f0' (Facts.ok_cons fr (Facts.ok_cons fl (nf hA'.c h'.f.en (Facts.ok_cons f531 fk')))))) (n1_t h') n531,
                    ⟨i + 1, off + 1, 0, ⟨h.f.agree a3 (by decide), up (ag.i 500 (by decide)).symm mn_TP_500, c, eo h'.o mn_TP_502, el h'.l mn_TP_503, sameT (et h'.t) mn_TP_r505, by omega⟩, .inr (.inl ⟨(ap_i mn_TP_519).trans hA'.r, rfl, q3, fun k hk => by rw [same_cb mn_TP_r507]; exact hA'.tw k hk, fun k hk hq => hnc k hk ((q4 k hk).1 hq)⟩)⟩, down (up (ag.i 500 (by decide)).symm mn_TP_500), a3⟩
                · have a3 : Agree 500 ρ' (mn_TQ_b.ap ρ2) := (ag.le (by decide)).trans (Bind.agree mn_TQ_g ρ2)
                  obtain ⟨_, _, q3, q4⟩ := fin a3 (nine rfl rfl rfl rfl rfl rfl rfl rfl rfl) mn_TQ_r506
                  have eci : ∀ j, (mn_TQ_b.ap ρ2).ci 505 0 j = ρ2.ci 551 0 j := fun j => by rw [ap_ci mn_TQ_r505, row_i]
                  have elen : (mn_TQ_b.ap ρ2).len 505 = k := by rw [ap_len mn_TQ_r505]; show ((ρ2.len 551 : Int)).toNat = _; rw [hk.1]; rfl
                  refine .inr ⟨0, mn_TQ_b.ap ρ2, mn_TQ_step hd (cfgL_ok (List.forall_mem_nil _) (lpTQ_ok L1' (t2Q_of L2 hb))) (LpsOk.nil _ _ _ _) (Facts.ok_cons hin' (Facts.ok_cons f0' (Facts.ok_cons fr (Facts.ok_cons fl (nf hA'.c h'.f.en (Facts.ok_cons f531 (Facts.ok_cons (by rw [dlt_t]; show (0 : Int) < (ρ2.len 551 : Int); rw [hk.1]; omega) fk'))))))) (n1_t h') n531,
                    ⟨i + 1, 0, k, ⟨h.f.agree a3 (by decide), up (ag.i 500 (by decide)).symm mn_TQ_500, c, ap_i mn_TQ_502, (ap_i mn_TQ_503).trans (by show (ρ2.len 551 : Int) = _; rw [hk.1]), ⟨by rw [elen]; omega, fun j hj => ?_⟩, by omega⟩, .inr (.inr ⟨ap_i mn_TQ_519, q3, ⟨by rw [elen]; omega, fun y hy => ?_, fun x hx hq => ?_⟩, fun x hx => ?_⟩)⟩, down (up (ag.i 500 (by decide)).symm mn_TQ_500), a3⟩
                  · obtain ⟨x, x1, x2, _⟩ := hk.2.1 j (by omega)
                    rw [eci, x2]; omega
                  · obtain ⟨x, x1, x2, x3⟩ := hk.2.1 y (by omega)
                    exact ⟨x, x1, by rw [eci]; exact x2, (q4 x x1).2 x3⟩
                  · obtain ⟨y, y1, y2⟩ := hk.2.2 x hx ((q4 x hx).1 hq)
                    exact ⟨y, by omega, by rw [eci]; exact y2⟩
                  · rw [same_cb mn_TQ_r507, hA'.tw x hx]
                    constructor
                    · intro q; cases q
                    · rintro ⟨y, y1, _⟩; omega
              · have ag := Bind.agree mn_W1_g ρ'
                refine .inr ⟨0, mn_W1_b.ap ρ', mn_W1_step rfl (cN_ok _) (LpsOk.nil _ _ _ _) (Facts.ok_cons hin (Facts.ok_cons f0 (Facts.ok_cons (by rw [deq_t]; exact hA.r) (Facts.ok_cons (by rw [dlt_t]; show (1 : Int) < ρ'.i 503; rw [h.l]; omega) (nf hA.c h.f.en fk))))) (n1_t h),
                  ⟨i + 1, off + 1, len - 1, ⟨h.f.agree ag (by decide), up rfl mn_W1_500, c, eo h.o mn_W1_502, el h.l mn_W1_503, sameT (et h.t) mn_W1_r505, by omega⟩, .inl ⟨by omega, (ap_i mn_W1_519).trans hA.r, by have := hA.s; omega, (ap_i mn_W1_501).trans (inc hA.c (by omega)), fun j hj => by rw [same_ci mn_W1_r505]; exact hA.t j hj, fun d hd => by
                    rw [ap_i (show lassoc (510 + d) mn_W1_b.i = some (.var (510 + d)) from nine (P := fun d => lassoc (510 + d) mn_W1_b.i = some (.var (510 + d))) rfl rfl rfl rfl rfl rfl rfl rfl rfl d hd), ← ag.i d (by omega)]; exact hA.cut d hd, fun k hk => ?_, fun k hk => by rw [same_cb mn_W1_r507]; exact hA.tw k hk⟩⟩, down (up rfl mn_W1_500), ag⟩
                rw [upd_An mn_W1_r506 (x := off) (y := i) hA.c h.xi, upd_An mn_W1_r504 (x := off) (y := i) e505 h.xi]
                by_cases q : k = off
                · rw [if_pos q, if_pos q]
                · rw [if_neg q, if_neg q, hA.a k (by omega)]
            · exact absurd hB.l (by omega)
            · have hb : hasE.den ρ' = ρ'.cb 3 1 i := cl_b h.xi
              have fr : (BE.eq (.var 519) (.lit 2)).den ρ' = true := by rw [deq_t]; exact hC.r
              obtain ⟨κ, hκ⟩ : ∃ κ : Nat, ρ'.ci 505 0 off = κ := ⟨(ρ'.ci 505 0 off).toNat, by have := (h.t.2 off (by omega)).1; omega⟩
              have h5 := hC.t
              cases hh : ρ'.cb 3 1 i with
              | false =>
                obtain ⟨ρ2, ag2, htw, L⟩ := tw_ok ρ' h.f.en hn h.f.eg h.o hκ
                have h' : Bas ρ2 n m g i off len := h.agree ag2 (by decide)
                have hd : mn_S0.den ρ' = mn_S0.den ρ2 := XS.bel_den (ag2.le (by decide) : Agree 530 ρ' ρ2) mn_S0 mn_S0b
                have a3 : Agree 500 ρ' (mn_W2_b.ap ρ2) := (ag2.le (by decide)).trans (Bind.agree mn_W2_g ρ2)
                have fs : Facts.ok ρ2 ((inM, true) :: (.eq cdE (.lit 0), true) :: (.eq (.var 519) (.lit 2), true) :: (hasE, false) :: (mnF ++ lvF)) := Facts.ok_cons (by rw [inM_den h'.f h'.xi]; exact decide_eq_true c) (Facts.ok_cons (by rw [deq_t, show cdE.den ρ2 = ρ2.ci 3 0 i from cl_i h'.xi, ← ag2.ci 3 (by decide)]; exact c0) (Facts.ok_cons (by rw [deq_t]; show ρ2.i 519 = 2; rw [← ag2.i 519 (by decide)]; exact hC.r) (Facts.ok_cons (by rw [show hasE.den ρ2 = ρ2.cb 3 1 i from cl_b h'.xi, ← ag2.cb 3 (by decide)]; exact hh) (all_ok (mnF_ok h'.f h'.xi) (lvF_ok h' (by rw [← ag2.i 519 (by decide), hC.r]; omega) hl)))))
                exact .inr ⟨0, mn_W2_b.ap ρ2, mn_W2_step hd (cN_ok _) (tw_l L) fs (n1_t h') (n2_t h'), ⟨i + 1, off + 1, len - 1, ⟨h.f.agree a3 (by decide), up (ag2.i 500 (by decide)).symm mn_W2_500, c, eo h'.o mn_W2_502, el h'.l mn_W2_503, sameT (et h'.t) mn_W2_r505, by omega⟩, .inr (.inr (hC.next h hl hκ hD ag2 htw a3 (nine rfl rfl rfl rfl rfl rfl rfl rfl rfl) mn_W2_519 mn_W2_r505 mn_W2_r506 mn_W2_r507))⟩, down (up (ag2.i 500 (by decide)).symm mn_W2_500), a3⟩
              | true =>
                have hv := past_row ρ' 3 (.var 500)
                generalize pa (fun c => ρ'.ci 3 c ((IE.var 500).den ρ').toNat) = v at hv
                generalize e1 : putI ρ' [(540, v 0), (541, v 1), (542, v 2), (543, v 3), (544, v 4), (545, v 5), (546, v 6), (547, v 7), (548, v 8)] = ρ1
                have ag1 : Agree 540 ρ' ρ1 := by rw [← e1]; exact putI_agree ρ' rfl
                obtain ⟨b, hb2⟩ := cov_any ρ1 510 540
                generalize e2 : putB ρ1 549 b = ρ2
                have ag2 : Agree 549 ρ1 ρ2 := by rw [← e2]; exact putB_agree ρ1 (Nat.le_refl _)
                have ag : Agree 540 ρ' ρ2 := ag1.trans (ag2.le (by decide))
                have b549 : ρ2.b 549 = b := by rw [← e2]; show (if 549 = 549 then b else ρ1.b 549) = b; rw [if_pos rfl]
                have v1 : ∀ k hp, CY Try.prog k 16 (X.denL ρ2 [.ro 20 [enC 3 (.var 500)] true]) hp (X.den ρ2 (.agg (vi 540 9))) [] := fun k hp => by
                  rw [← X.belL_den ag [.ro 20 [enC 3 (.var 500)] true] (by kernel_rfl)]
                  have e3 : X.den ρ2 (.agg (vi 540 9)) = nineV v := by rw [← e2, ← e1]; rfl
                  rw [e3]; exact hv.2 k hp
                have v2 : ∀ k hp, CY Try.prog k 15 (X.denL ρ2 [.agg (vi 510 9), .agg (vi 540 9)]) hp (X.den ρ2 (.sc (.b (.var 549)))) [] := fun k hp => by
                  rw [← X.belL_den ag2 [.agg (vi 510 9), .agg (vi 540 9)] (by kernel_rfl), show X.den ρ2 (.sc (.b (.var 549))) = .sc (.bool b) from by rw [← b549]; rfl]
                  exact hb2.2 k hp
                have h2 : Bas ρ2 n m g i off len := h.agree ag (by decide)
                have hC2 : PhC ρ2 n off len g := hC.agree ag (by decide)
                have fs : ∀ {ρ3 : Rho}, Agree 550 ρ2 ρ3 → Facts.ok ρ3 ((inM, true) :: (.eq cdE (.lit 0), true) :: (.eq (.var 519) (.lit 2), true) :: (hasE, true) :: (.var 549, b) :: (mnF ++ lvF)) := fun {ρ3} a => by
                  have h' : Bas ρ3 n m g i off len := h2.agree a (by decide)
                  have a' : Agree 540 ρ' ρ3 := ag.trans (a.le (by decide))
                  exact Facts.ok_cons (by rw [inM_den h'.f h'.xi]; exact decide_eq_true c) (Facts.ok_cons (by rw [deq_t, show cdE.den ρ3 = ρ3.ci 3 0 i from cl_i h'.xi, ← a'.ci 3 (by decide)]; exact c0) (Facts.ok_cons (by rw [deq_t]; show ρ3.i 519 = 2; rw [← a'.i 519 (by decide)]; exact hC.r) (Facts.ok_cons (by rw [show hasE.den ρ3 = ρ3.cb 3 1 i from cl_b h'.xi, ← a'.cb 3 (by decide)]; exact hh) (Facts.ok_cons (by show ρ3.b 549 = b; rw [← a.b 549 (by decide)]; exact b549) (all_ok (mnF_ok h'.f h'.xi) (lvF_ok h' (by rw [← a'.i 519 (by decide), hC.r]; omega) hl))))))
                have ck : ∀ {ρ3 : Rho}, Agree 550 ρ2 ρ3 → CfgOk Try.prog ρ3 (cfgL ksP (fun _ => [])) := fun {ρ3} a => cK_ok (List.forall_mem_cons.2 ⟨⟨hv.1, fun k hp => by
                    show CY Try.prog k 16 (X.denL ρ3 [.ro 20 [enC 3 (.var 500)] true]) hp (X.den ρ3 (.agg (vi 540 9))) []
                    rw [← X.belL_den a [.ro 20 [enC 3 (.var 500)] true] (by kernel_rfl), ← X.bel_den a (.agg (vi 540 9)) (by kernel_rfl)]
                    exact v1 k hp⟩, List.forall_mem_cons.2 ⟨⟨hb2.1, fun k hp => by
                    show CY Try.prog k 15 (X.denL ρ3 [.agg (vi 510 9), .agg (vi 540 9)]) hp (X.den ρ3 (.sc (.b (.var 549)))) []
                    rw [← X.belL_den a [.agg (vi 510 9), .agg (vi 540 9)] (by kernel_rfl), ← X.bel_den a (.sc (.b (.var 549))) (by kernel_rfl)]
                    exact v2 k hp⟩, List.forall_mem_nil _⟩⟩)
                cases b with
                | true =>
                  obtain ⟨ρ3, ag3, htw, L⟩ := tw_ok ρ2 h2.f.en hn h2.f.eg h2.o (by rw [← ag.ci 505 (by decide)]; exact hκ)
                  have h' : Bas ρ3 n m g i off len := h2.agree ag3 (by decide)
                  have a23 : Agree 540 ρ' ρ3 := ag.trans (ag3.le (by decide))
                  have hd : mn_S0.den ρ' = mn_S0.den ρ3 := XS.bel_den (a23.le (by decide) : Agree 530 ρ' ρ3) mn_S0 mn_S0b
                  have a3 : Agree 500 ρ' (mn_W3_b.ap ρ3) := (a23.le (by decide)).trans (Bind.agree mn_W3_g ρ3)
                  have a4 : Agree 500 ρ2 (mn_W3_b.ap ρ3) := (ag3.le (by decide)).trans (Bind.agree mn_W3_g ρ3)
                  exact .inr ⟨0, mn_W3_b.ap ρ3, mn_W3_step hd (ck (ag3.le (by decide))) (tw_l L) (fs (ag3.le (by decide))) (n1_t h') (n2_t h'), ⟨i + 1, off + 1, len - 1, ⟨h.f.agree a3 (by decide), up (a23.i 500 (by decide)).symm mn_W3_500, c, eo h'.o mn_W3_502, el h'.l mn_W3_503, sameT (et h'.t) mn_W3_r505, by omega⟩, .inr (.inr (hC2.next h2 hl (by rw [← ag.ci 505 (by decide)]; exact hκ) hD ag3 htw a4 (nine rfl rfl rfl rfl rfl rfl rfl rfl rfl) mn_W3_519 mn_W3_r505 mn_W3_r506 mn_W3_r507))⟩, down (up (a23.i 500 (by decide)).symm mn_W3_500), a3⟩
                | false =>
                  have hd : mn_S0.den ρ' = mn_S0.den ρ2 := XS.bel_den (ag.le (by decide) : Agree 530 ρ' ρ2) mn_S0 mn_S0b
                  have a3 : Agree 500 ρ' (mn_W4_b.ap ρ2) := (ag.le (by decide)).trans (Bind.agree mn_W4_g ρ2)
                  have a4 : Agree 500 ρ2 (mn_W4_b.ap ρ2) := Bind.agree mn_W4_g ρ2
                  have hp2 : Ph ρ2 n off len g := .inr (.inr hC2)
                  exact .inr ⟨0, mn_W4_b.ap ρ2, mn_W4_step hd (ck (Agree.refl _ _)) (LpsOk.nil _ _ _ _) (fs (Agree.refl _ _)) (n1_t h2), ⟨i + 1, off, len, ⟨h.f.agree a3 (by decide), up (ag.i 500 (by decide)).symm mn_W4_500, c, (ap_i mn_W4_502).trans h2.o, (ap_i mn_W4_503).trans h2.l, sameT h2.t mn_W4_r505, hon⟩, hp2.stay a4 (nine rfl rfl rfl rfl rfl rfl rfl rfl rfl) mn_W4_501 mn_W4_519 mn_W4_r504 mn_W4_r505 mn_W4_r506 mn_W4_r507⟩, down (up (ag.i 500 (by decide)).symm mn_W4_500), a3⟩
          · have ag := Bind.agree mn_E_g ρ'
            exact .inr ⟨0, mn_E_b.ap ρ', mn_E_step rfl (cN_ok _) (LpsOk.nil _ _ _ _) (Facts.ok_cons hin (Facts.ok_cons (by rw [deq_f, hcd]; exact c60) (Facts.ok_cons (by rw [deq_f, hcd]; exact c0) fk))) (n1_t h), ⟨i + 1, off, len, ⟨h.f.agree ag (by decide), up rfl mn_E_500, c, (ap_i mn_E_502).trans h.o, (ap_i mn_E_503).trans h.l, sameT h.t mn_E_r505, hon⟩, hp.stay ag (nine rfl rfl rfl rfl rfl rfl rfl rfl rfl) mn_E_501 mn_E_519 mn_E_r504 mn_E_r505 mn_E_r506 mn_E_r507⟩, down (up rfl mn_E_500), ag⟩
    · have hi := h.im
      have ag : Agree 525 ρ' (putB ρ' 525 true) := putB_agree ρ' (Nat.le_refl _)
      have h' : Bas (putB ρ' 525 true) n m g i off len := h.agree ag (by decide)
      refine .inl ⟨putB ρ' 525 true, ag.le (by decide), ⟨rfl, i, off, len, h', hp.agree ag (by decide)⟩, XS.bel_den ag mn_S0 (by kernel_rfl), ?_⟩
      exact mn_X0_end (cN_ok _) (LpsOk.nil _ _ _ _) (Facts.ok_cons (by rw [inM_den h'.f h'.xi]; exact decide_eq_false (by omega)) (mnF_ok h'.f h'.xi)) rfl
  | s + 1, ⟨i, h⟩ =>
    have ag : Agree 525 ρ' (putB ρ' 525 false) := putB_agree ρ' (Nat.le_refl _)
    have h' : Gone (putB ρ' 525 false) n m g i := ⟨h.f.agree ag (by decide), h.xi, h.im, h.c⟩
    refine .inl ⟨putB ρ' 525 false, ag.le (by decide), ⟨rfl, i, h'⟩, XS.bel_den ag mn_S1 (by kernel_rfl), ?_⟩
    by_cases c : i < m
    · exact mn_YD_end (cN_ok _) (LpsOk.nil _ _ _ _) (Facts.ok_cons (by rw [inM_den h'.f h'.xi]; exact decide_eq_true c) (mnF_ok h'.f h'.xi)) rfl
    · exact mn_Y0_end (cN_ok _) (LpsOk.nil _ _ _ _) (Facts.ok_cons (by rw [inM_den h'.f h'.xi]; exact decide_eq_false c) (mnF_ok h'.f h'.xi)) rfl
end Go.Proofs.Ytdlifdoglhhnfaa

/- Txn: what TxnSettles' last loop keeps. -/
namespace Go.Proofs.Ytdlifdoglhhnfaa
open Go Go.Proofs.Aw Go.Proofs.Xw Go.Proofs.Sr
set_option maxRecDepth 100000
theorem fin_ok (ρ : Rho) {n m i off : Nat} {g : Nat → ByteArray} (hB : Bas ρ n m g i off 0) (hs : Setl ρ n) (ht : ∀ k, k < n → (ρ.cb 507 0 k = true ↔ Nk g ρ k)) : ∃ ρf, Agree 600 ρ ρf ∧ LoopOk Try.prog ρf Try.f3.ntmps fin_c fin := by
  suffices hh : ∃ (_ : Nat) (ρf : Rho), Agree fin.n ρ ρf ∧ True ∧ LoopOk Try.prog ρf Try.f3.ntmps fin_c fin by
    obtain ⟨_, ρf, h1, _, h3⟩ := hh
    exact ⟨ρf, h1, h3⟩
  have a0 := Bind.agree fin_I0g ρ
  have hn := hB.f.n6
  refine loopOk_famE (L := fin) (N := Try.f3.ntmps) (body := fin_c) (P := Try.prog) rfl fin_Eb (fun _ => fin_S0) (fun _ ρ' => Agree 600 ρ ρ' ∧ ∃ j : Nat, ρ'.i 600 = j ∧ j ≤ n) (fun _ _ => True) (fun _ ρ' => (n - ρ'.i 600).toNat) ?_
    ⟨0, fin_I0.ap ρ, a0, ⟨a0, 0, ap_i fin_I0_600, Nat.zero_le _⟩, fun E _ hE => okS_imp hE fin_I0ok ρ⟩
  rintro _ ρ' ⟨ag0, j, hj, hjn⟩
  have hB' : Bas ρ' n m g i off 0 := hB.agree ag0 (by decide)
  by_cases c : j < n
  · generalize hq : sec (ρ'.i 9) (pt (g j)) = q
    have hof := of_cy (g j) (hB'.f.z j c) (ρ'.i 9) ⟨hB'.f.r1, hB'.f.r3⟩
    unfold OfG at hof
    rw [hq] at hof
    have hv := past_row ρ' 506 (.var 600)
    generalize hV : pa (fun c => ρ'.ci 506 c ((IE.var 600).den ρ').toNat) = v at hv
    generalize hp : (fun x => pc (fun d => ρ.i (510 + d)) q x) = p
    generalize e1 : putI ρ' [(610, v 0), (611, v 1), (612, v 2), (613, v 3), (614, v 4), (615, v 5), (616, v 6), (617, v 7), (618, v 8), (620, q), (621, p 0), (622, p 1), (623, p 2)] = ρ1
    have ag : Agree 610 ρ' ρ1 := by rw [← e1]; exact putI_agree ρ' rfl
    have agA : Agree 600 ρ ρ1 := ag0.trans (ag.le (by decide))
    have i600 : ρ1.i 600 = j := by rw [← ag.i 600 (by decide)]; exact hj
    have i620 : ρ1.i 620 = q := by rw [← e1]; rfl
    have B1 : Bas ρ1 n m g i off 0 := hB.agree agA (by decide)
    have hin : inF.den ρ1 = true := by show (BE.lt (.var 600) (.len 2)).den ρ1 = true; rw [dlt_t]; simp only [IE.den, i600, B1.f.en]; omega
    have fk : Facts.ok ρ1 fnF := Facts.ok_cons (by rw [dlt_f]; simp only [IE.den, i600]; omega) (Facts.ok_cons (by rw [dlt_f]; simp only [IE.den, B1.f.en]; omega) (Facts.ok_nil _))
    have hd : fin_S0.den ρ' = fin_S0.den ρ1 := XS.bel_den ag fin_S0 (by kernel_rfl)
    have k17 : hasBody Try.prog 17 = true ∧ ∀ k hp, CY Try.prog k 17 (X.denL ρ1 [.sc (.s (.cl 2 0 (.var 600))), .sc (.i .i64 (.var 9))]) hp (X.den ρ1 (.sc (.i .i64 (.var 620)))) [] := ⟨hof.1, fun k hp => by
      have e : (TE.cl 2 0 (.var 600)).den ρ1 = g j := by rw [sl_den (ρ := ρ1) (e := .var 600) (n := j) i600, B1.f.eg]
      simp only [X.denL, X.den, Sc.den, e, IE.den, i620, ← ag.i 9 (by decide)]
      exact hof.2 k hp⟩
    have k19 : hasBody Try.prog 19 = true ∧ ∀ k hp, CY Try.prog k 19 (X.denL ρ1 [.agg (vi 510 9), .sc (.i .i64 (.var 620))]) hp (X.den ρ1 (.agg (vi 621 3))) [] := by
      have h := part_row ρ1 510 (.var 620)
      refine ⟨h.1, fun k hp' => ?_⟩
      have := h.2 k hp'
      have ep : ∀ x, x < 3 → pc (fun k => ρ1.i (510 + k)) ((IE.var 620).den ρ1) x = p x := fun x hx => by
        rw [← hp]
        show pc (fun k => ρ1.i (510 + k)) (ρ1.i 620) x = pc (fun d => ρ.i (510 + d)) q x
        rw [i620]
        exact pc_congr hx fun k hk => (agA.i (510 + k) (by omega)).symm
      rw [ep 0 (by decide), ep 1 (by decide), ep 2 (by decide)] at this
      have e3 : X.den ρ1 (.agg (vi 621 3)) = .agg [.sc (.int .i64 (p 0)), .sc (.int .i64 (p 1)), .sc (.int .i64 (p 2))] := by rw [← e1]; rfl
      rw [e3]; exact this
    have hnc : ncF.den ρ1 = true ↔ Nk g ρ j := by
      have c22 : ∀ k, k = 22 ∨ k = 23 ∨ k = 24 → (IE.cl 506 k (.var 600)).den ρ1 = (An ρ 506 j).1 k := fun k hk => by
        rw [cl_i (e := .var 600) (j := j) i600, ← agA.ci 506 (by decide)]
        rcases hk with rfl | rfl | rfl <;> rfl
      have e621 : ρ1.i 621 = p 0 := by rw [← e1]; rfl
      have e622 : ρ1.i 622 = p 1 := by rw [← e1]; rfl
      have e623 : ρ1.i 623 = p 2 := by rw [← e1]; rfl
      have q9 : sec (ρ.i 9) (pt (g j)) = q := by rw [ag0.i 9 (by decide)]; exact hq
      unfold Nk NC ncol
      rw [q9]
      unfold ncF
      rw [dor_t, dor_t, dlt_t, dlt_t, dlt_t, c22 22 (by omega), c22 23 (by omega), c22 24 (by omega)]
      simp only [IE.den, e621, e622, e623]
      rw [← hp]
    have htw : twK.den ρ1 = ncF.den ρ1 := by
      have : twK.den ρ1 = ρ.cb 507 0 j := by rw [show twK.den ρ1 = ρ1.cb 507 0 j from cl_b i600, ← agA.cb 507 (by decide)]
      rw [this, Bool.eq_iff_iff, ht j c, hnc]
    have hhs : hsK.den ρ1 = (An ρ 506 j).2 := by rw [show hsK.den ρ1 = ρ1.cb 506 1 j from cl_b i600, ← agA.cb 506 (by decide)]; rfl
    have up : ∀ {β : Bind}, lassoc 600 β.i = some (.op .add .i64 (.var 600) (.lit 1)) → (β.ap ρ1).i 600 = ((j + 1 : Nat) : Int) := fun hb => (ap_i hb).trans (inc i600 (by omega))
    have down : ∀ {x : Rho}, x.i 600 = ((j + 1 : Nat) : Int) → (n - x.i 600).toNat < (n - ρ'.i 600).toNat := fun e => by rw [e, hj]; omega
    have nd : (BE.and (.not (.lt (.var 502) (.lit 0))) (.and (.not (.lt (.var 503) (.lit 0))) (.not (.lt (.len 505) (.op .padd .i64 (.var 502) (.var 503)))))).den ρ1 = true := by
      rw [dand_t, dand_t, dnot_t, dnot_t, dlt_f, dlt_f]
      exact ⟨by show 0 ≤ ρ1.i 502; rw [B1.o]; omega, by show 0 ≤ ρ1.i 503; rw [B1.l]; omega, n1_t B1⟩
    have go : ∀ {β : Bind}, β.ge 600 = true → lassoc 600 β.i = some (.op .add .i64 (.var 600) (.lit 1)) → StepF Try.prog Try.f3.ntmps fin_c 0 fin_S0 fin_S0 ρ' (β.ap ρ1) → ∃ i' ρ'', StepF Try.prog Try.f3.ntmps fin_c 0 fin_S0 fin_S0 ρ' ρ'' ∧ (Agree 600 ρ ρ'' ∧ ∃ j : Nat, ρ''.i 600 = j ∧ j ≤ n) ∧ (fun (_ : Nat) (ρ' : Rho) => ((n : Int) - ρ'.i 600).toNat) i' ρ'' < ((n : Int) - ρ'.i 600).toNat ∧ Agree 600 ρ' ρ'' := fun {β} hg hb hst =>
      ⟨0, β.ap ρ1, hst, ⟨agA.trans (Bind.agree hg ρ1), j + 1, up hb, c⟩, down (up hb), (ag.le (by decide) : Agree 600 ρ' ρ1).trans (Bind.agree hg ρ1)⟩
    cases hh : (An ρ 506 j).2 with
    | true =>
      have k16 : hasBody Try.prog 16 = true ∧ ∀ k hp, CY Try.prog k 16 (X.denL ρ1 [.ro 20 [enC 506 (.var 600)] true]) hp (X.den ρ1 (.agg (vi 610 9))) [] := ⟨hv.1, fun k hp => by
        rw [← X.belL_den ag [.ro 20 [enC 506 (.var 600)] true] (by kernel_rfl)]
        have e3 : X.den ρ1 (.agg (vi 610 9)) = nineV v := by rw [← e1]; rfl
        rw [e3]; exact hv.2 k hp⟩
      have k15 := cov_row ρ1 510 610 (fun d hd => by
        have h1 := hs.2 j c hh d hd
        have h2 : ρ1.i (610 + d) = v d := nine (P := fun d => ρ1.i (610 + d) = v d) (by rw [← e1]; rfl) (by rw [← e1]; rfl) (by rw [← e1]; rfl) (by rw [← e1]; rfl) (by rw [← e1]; rfl) (by rw [← e1]; rfl) (by rw [← e1]; rfl) (by rw [← e1]; rfl) (by rw [← e1]; rfl) d hd
        rw [h2, ← agA.i (510 + d) (by omega), ← hV]
        have h3 : (fun c => ρ'.ci 506 c ((IE.var 600).den ρ').toNat) = fun c => ρ.ci 506 c j := by
          funext x
          show ρ'.ci 506 x (ρ'.i 600).toNat = _
          rw [hj, Int.toNat_natCast, ← ag0.ci 506 (by decide)]
        rw [h3, ← pa_norm _ d hd]
        exact h1)
      have cok : CfgOk Try.prog ρ1 (cfgL ksF1 (fun _ => [])) := cK_ok (List.forall_mem_cons.2 ⟨k16, List.forall_mem_cons.2 ⟨k15, List.forall_mem_cons.2 ⟨k17, List.forall_mem_cons.2 ⟨k19, List.forall_mem_nil _⟩⟩⟩⟩)
      rw [hh] at hhs
      cases hc : ncF.den ρ1 with
      | true => exact .inr (go fin_HN_g fin_HN_600 (fin_HN_step hd cok (LpsOk.nil _ _ _ _) (Facts.ok_cons hin (Facts.ok_cons hhs (Facts.ok_cons hc (Facts.ok_cons (htw.trans hc) fk)))) nd))
      | false => exact .inr (go fin_HC_g fin_HC_600 (fin_HC_step hd cok (LpsOk.nil _ _ _ _) (Facts.ok_cons hin (Facts.ok_cons hhs (Facts.ok_cons hc (Facts.ok_cons (htw.trans hc) fk)))) nd))
    | false =>
      have cok : CfgOk Try.prog ρ1 (cfgL ksF0 (fun _ => [])) := cK_ok (List.forall_mem_cons.2 ⟨k17, List.forall_mem_cons.2 ⟨k19, List.forall_mem_nil _⟩⟩)
      rw [hh] at hhs
      cases hc : ncF.den ρ1 with
      | true => exact .inr (go fin_EN_g fin_EN_600 (fin_EN_step hd cok (LpsOk.nil _ _ _ _) (Facts.ok_cons hin (Facts.ok_cons hhs (Facts.ok_cons hc (Facts.ok_cons (htw.trans hc) fk)))) nd))
      | false => exact .inr (go fin_EC_g fin_EC_600 (fin_EC_step hd cok (LpsOk.nil _ _ _ _) (Facts.ok_cons hin (Facts.ok_cons hhs (Facts.ok_cons hc (Facts.ok_cons (htw.trans hc) fk)))) nd))
  · refine .inl ⟨ρ', Agree.refl _ _, trivial, rfl, ?_⟩
    have f1 : inF.den ρ' = false := by show (BE.lt (.var 600) (.len 2)).den ρ' = false; rw [dlt_f]; simp only [IE.den, hj, hB'.f.en]; omega
    exact fin_X_end (cN_ok _) (LpsOk.nil _ _ _ _) (Facts.ok_cons f1 (Facts.ok_cons (by rw [dlt_f]; simp only [IE.den, hj]; omega) (Facts.ok_cons (by rw [dlt_f]; simp only [IE.den, hB'.f.en]; omega) (Facts.ok_nil _)))) rfl
end Go.Proofs.Ytdlifdoglhhnfaa

/- Txn: TxnSettles answers true. -/
namespace Go.Proofs.Ytdlifdoglhhnfaa
open Go Go.Proofs.Aw Go.Proofs.Xw Go.Proofs.Sr
set_option maxRecDepth 100000
theorem nrF_ok {ρ : Rho} {n : Nat} (hv : rightV ρ) (h1 : 1 ≤ ρ.i 9) (h3 : ρ.i 9 ≤ 3) (hn : ρ.len 2 = n) (n1 : 1 ≤ n) (n6 : n ≤ 6) : Facts.ok ρ nrF := by
  refine all_ok (fun p hp => ?_) (Facts.ok_cons (by rw [dlt_f]; exact h1) (Facts.ok_cons (by rw [dlt_f]; exact h3) (Facts.ok_cons (by rw [dlt_f]; simp only [IE.den]; omega) (Facts.ok_cons (by rw [dlt_f]; simp only [IE.den]; omega) (Facts.ok_nil _)))))
  obtain ⟨k, hk, hp⟩ := List.mem_flatMap.1 hp
  have hk := hv k (List.mem_range.1 hk)
  rcases List.mem_cons.1 hp with rfl | hp
  · show (BE.lt (.var k) (.lit 0)).den ρ = false
    rw [dlt_f]; exact hk.1
  · rcases List.mem_cons.1 hp with rfl | hp
    · show (BE.lt (.lit 1099511627776) (.var k)).den ρ = false
      rw [dlt_f]; exact hk.2
    · cases hp
theorem endF_ok {ρ : Rho} {n m i off len : Nat} {g : Nat → ByteArray} (h : Bas ρ n m g i off len) : Facts.ok ρ endF := by
  have h1 := h.f.n6; have h2 := h.o; have h3 := h.l; have h4 := h.t.1; have h6 := h.f.en; have h7 := h.f.n1; have hs := h.on
  refine Facts.ok_cons (by rw [dlt_f]; simp only [IE.den]; omega) (Facts.ok_cons (by rw [dlt_f]; simp only [IE.den]; omega) (Facts.ok_cons (by rw [dlt_f]; simp only [IE.den]; omega) (Facts.ok_cons (by rw [dlt_f]; simp only [IE.den]; omega) (Facts.ok_cons (by rw [dlt_f]; simp only [IE.den]; omega) (Facts.ok_cons (by rw [dlt_f]; simp only [IE.den]; omega) (Facts.ok_cons ?_ (Facts.ok_nil _)))))))
  rw [deq_t]
  show (ρ.len 505 : Int) = ρ.i 502 + ρ.i 503
  omega
theorem mnA_of {ρ : Rho} (h : LoopOk Try.prog ρ Try.f3.ntmps mn_c mn) (hb : ρ.b 525 = true) : LoopOk Try.prog ρ Try.f3.ntmps mnA_c mnA :=
  one_way h rfl rfl rfl fun e s hs => by
    have : mn_out.sel ρ = some (e, s) := hs
    unfold mn_out at this
    rw [T.sel, if_pos (show (BE.var 525).den ρ = true from hb)] at this
    exact this
theorem mnB_of {ρ : Rho} (h : LoopOk Try.prog ρ Try.f3.ntmps mn_c mn) (hb : ρ.b 525 = false) : LoopOk Try.prog ρ Try.f3.ntmps mnB_c mnB :=
  one_way h rfl rfl rfl fun e s hs => by
    have : mn_out.sel ρ = some (e, s) := hs
    unfold mn_out at this
    rw [T.sel, if_neg (show ¬ (BE.var 525).den ρ = true from by rw [show (BE.var 525).den ρ = ρ.b 525 from rfl, hb]; decide)] at this
    exact this
theorem en_cy (ρ : Rho) {n m : Nat} {g : Nat → ByteArray} (hn : ρ.len 2 = n) (hm : ρ.len 3 = m) (hg : stR ρ 2 = g) (bn : n ≤ 8796093022208) (bm : m ≤ 140737488355327) (hz : ∀ j, j < n → (g j).size < 9223372036854775808) : ∀ k hp, CY Try.prog k 3 (X.denL ρ enA) hp (.sc (.bool true)) [] := by
  obtain ⟨b, hb1, hb2⟩ := mu_cy ρ (by omega)
  have k8 : ∀ {b' : Bool}, b = b' → hasBody Try.prog 8 = true ∧ ∀ k hp, CY Try.prog k 8 (X.denL ρ [kyR, anR]) hp (X.den ρ (.sc (.b (.lit b')))) [] := fun e => ⟨hb1, fun k hp => by
    have := hb2 k hp; rw [e] at this; exact this⟩
  have cap : (BE.not (.lt (.lit 8796093022208) (.len 2))).den ρ = true := by rw [dnot_t, dlt_f]; simp only [IE.den]; omega
  cases b with
  | true => exact tru_cy (cK_ok (List.forall_mem_cons.2 ⟨k8 rfl, List.forall_mem_nil _⟩)) (Facts.ok_nil ρ) enM_run (x := .sc (.b (.lit true))) rfl rfl rfl
  | false =>
    obtain ⟨r, hr, hr1, hr2⟩ := right_cy ρ n g (by omega) hn hg
    have k32 : ∀ {r' : Bool}, r = r' → hasBody Try.prog 32 = true ∧ ∀ k hp, CY Try.prog k 32 (X.denL ρ [kyR]) hp (X.den ρ (.sc (.b (.lit r')))) [] := fun e => ⟨hr1, fun k hp => by
      have := hr2 k hp; rw [e] at this; rw [kys_den hn hg]; exact this⟩
    cases r with
    | false => exact tru_cy (cK_ok (List.forall_mem_cons.2 ⟨k8 rfl, List.forall_mem_cons.2 ⟨k32 rfl, List.forall_mem_nil _⟩⟩)) (Facts.ok_nil ρ) enR_run (x := .sc (.b (.lit true))) (sel_need cap rfl) rfl rfl
    | true =>
      obtain ⟨hfit, n1, n6⟩ := hr.1 rfl
      obtain ⟨v, hv, hv1, hv2⟩ := rv_cy ρ
      have k31 : ∀ {v' : Bool}, v = v' → hasBody Try.prog 31 = true ∧ ∀ k hp, CY Try.prog k 31 (X.denL ρ [.agg (vi 0 9)]) hp (X.den ρ (.sc (.b (.lit v')))) [] := fun e => ⟨hv1, fun k hp => by
        have := hv2 k hp; rw [e] at this; exact this⟩
      cases v with
      | false => exact tru_cy (cK_ok (List.forall_mem_cons.2 ⟨k8 rfl, List.forall_mem_cons.2 ⟨k31 rfl, List.forall_mem_nil _⟩⟩)) (Facts.ok_nil ρ) enN1_run (x := .sc (.b (.lit true))) (sel_need cap rfl) rfl rfl
      | true =>
        by_cases r1 : ρ.i 9 < 1
        · exact tru_cy (cK_ok (List.forall_mem_cons.2 ⟨k8 rfl, List.forall_mem_cons.2 ⟨k31 rfl, List.forall_mem_nil _⟩⟩)) (Facts.ok_cons (by rw [dlt_t]; exact r1) (Facts.ok_nil ρ)) enN2_run (x := .sc (.b (.lit true))) (sel_need cap rfl) rfl rfl
        · by_cases r3 : 3 < ρ.i 9
          · exact tru_cy (cK_ok (List.forall_mem_cons.2 ⟨k8 rfl, List.forall_mem_cons.2 ⟨k31 rfl, List.forall_mem_nil _⟩⟩)) (Facts.ok_cons (by rw [dlt_t]; exact r3) (Facts.ok_nil ρ)) enN3_run (x := .sc (.b (.lit true))) (sel_need cap rfl) rfl rfl
          · have hf : EnF ρ n m g := ⟨hn, hm, hg, n1, n6, by omega, by omega, by omega, hz⟩
            have hD : ∀ a b, a < n → b < n → g a = g b → a = b := fun a b ha hb e => by
              rcases Nat.lt_trichotomy a b with c | c | c
              · exact absurd e ((hfit b hb).2 a c)
              · exact c
              · exact absurd e.symm ((hfit a ha).2 b c)
            obtain ⟨ρ1, ag1, ⟨l1, c1⟩, L1⟩ := nw_ok ρ n hn n1 n6
            obtain ⟨s, ρ2, ag2, hQ, L2⟩ := mn_ok ρ1 (hf.agree ag1 (by decide)) hD l1 c1
            have ag : Agree 460 ρ ρ2 := ag1.trans (ag2.le (by decide))
            have L1' : LoopOk Try.prog ρ2 Try.f9.ntmps nw_c nw := LoopOk.agree (B := 500) (by kernel_rfl) (by kernel_rfl) (by kernel_rfl) ag2 L1
            have ha : X.denL ρ enA = X.denL ρ2 enA := X.belL_den ag enA (by kernel_rfl)
            have hks : ∀ {ρ3 : Rho}, Agree 460 ρ ρ3 → ∀ p ∈ ksN, hasBody Try.prog p.1 = true ∧ ∀ n h, CY Try.prog n p.1 (X.denL ρ3 p.2.1) h (p.2.2.den ρ3) [] := fun {ρ3} a =>
              List.forall_mem_cons.2 ⟨⟨(k8 rfl).1, fun k hp => by
                show CY Try.prog k 8 (X.denL ρ3 [kyR, anR]) hp _ []
                rw [← X.belL_den a [kyR, anR] (by kernel_rfl)]; exact (k8 rfl).2 k hp⟩, List.forall_mem_cons.2 ⟨⟨(k32 rfl).1, fun k hp => by
                show CY Try.prog k 32 (X.denL ρ3 [kyR]) hp _ []
                rw [← X.belL_den a [kyR] (by kernel_rfl)]; exact (k32 rfl).2 k hp⟩, List.forall_mem_nil _⟩⟩
            have fr : ∀ {ρ3 : Rho}, Agree 460 ρ ρ3 → Facts.ok ρ3 nrF := fun {ρ3} a => nrF_ok (fun k hk => by rw [← a.i k (by omega)]; exact hv rfl k hk) (by rw [← a.i 9 (by decide)]; omega) (by rw [← a.i 9 (by decide)]; omega) (by rw [← a.len 2 (by decide)]; exact hn) n1 n6
            match s, hQ with
            | 0, ⟨hb, i, off, len, h, hp⟩ =>
              by_cases hl : len = 0
              · subst hl
                have hst : Setl ρ2 n ∧ ∀ k, k < n → (ρ2.cb 507 0 k = true ↔ Nk g ρ2 k) := by
                  rcases hp with h1 | h1 | h1
                  · exact absurd h1.l0 (by decide)
                  · exact ⟨h1.st, fun k hk => by rw [h1.tw k hk]; exact ⟨fun q => (by cases q), fun q => absurd q (h1.nc k hk)⟩⟩
                  · refine ⟨h1.st, fun k hk => ?_⟩
                    rw [h1.tw k hk]
                    constructor
                    · rintro ⟨y, y1, y2⟩
                      obtain ⟨x, x1, x2, x3⟩ := h1.t.2.1 y (by omega)
                      have : x = k := by omega
                      rw [← this]; exact x3
                    · intro q
                      obtain ⟨y, y1, y2⟩ := h1.t.2.2 k hk q
                      exact ⟨y, by omega, y2⟩
                obtain ⟨ρ3, ag3, L3⟩ := fin_ok ρ2 h hst.1 hst.2
                have a3 : Agree 460 ρ ρ3 := ag.trans (ag3.le (by decide))
                have h3 : Bas ρ3 n m g i off 0 := h.agree ag3 (by decide)
                have s3 : Setl ρ3 n := hst.1.agree ag3 (by decide)
                have L1'' : LoopOk Try.prog ρ3 Try.f9.ntmps nw_c nw := LoopOk.agree (B := 500) (by kernel_rfl) (by kernel_rfl) (by kernel_rfl) (ag3.le (by decide)) L1'
                have L2' : LoopOk Try.prog ρ3 Try.f3.ntmps mnA_c mnA := LoopOk.agree (B := 530) (show mnA.S.bel 530 = true by kernel_rfl) rfl (show mnA.out.belX 530 = true by kernel_rfl) (ag3.le (by decide)) (mnA_of L2 hb)
                have k15 := cov_row ρ3 510 0 (fun d hd => by rw [Nat.zero_add]; exact s3.1 d hd)
                have cok := cfgL_ok (ks := ksN2) (List.forall_mem_cons.2 ⟨k15, hks a3⟩) (lpLF_ok L1'' L2' L3)
                have f1 : (BE.lt (.lit 0) (.var 503)).den ρ3 = false := by rw [dlt_f]; show ρ3.i 503 ≤ 0; rw [h3.l]; omega
                exact tru_cy cok (Facts.ok_cons f1 (all_ok (fr a3) (endF_ok h3))) enA2_run (x := .sc (.b (.lit true))) (sel_need (n1_t h3) rfl) rfl (X.belL_den a3 enA (by kernel_rfl))
              · exact tru_cy (cfgL_ok (hks ag) (lpLA_ok L1' (mnA_of L2 hb))) (Facts.ok_cons (by rw [dlt_t]; show 0 < ρ2.i 503; rw [h.l]; omega) (all_ok (fr ag) (endF_ok h))) enA1_run (x := .sc (.b (.lit true))) (sel_need (n1_t h) rfl) rfl ha
            | s + 1, ⟨hb, i, h⟩ =>
              exact tru_cy (cfgL_ok (hks ag) (lpLB_ok L1' (mnB_of L2 hb))) (Facts.ok_cons (by rw [deq_t]; exact h.c) (fr ag)) enB_run (x := .sc (.b (.lit true))) rfl rfl ha
/-! ### The law's arguments -/
def enSh : List Sh := [.flat (List.replicate 9 (.i .i64)) true, .flat [.i .i64] false, .sl [.s], .sl ka]
theorem en_law (W : World) (vs : List Value) (hl : enSh.length = vs.length) (hf : ∀ (i : Nat) (sh : Sh) (v : Value), enSh[i]? = some sh → vs[i]? = some v → Fits W sh v) (hs : Short Try.prog Try.f3.params.toList vs) : CY Try.prog 0 3 (X.denL (mkR W (plain enSh vs) vs (enSh.map shZ)) (pats 0 0 enSh)) [] (.sc (.bool true)) [] := by
  match vs, hl with
  | [v0, v1, v2, v3], _ =>
    have f2 := hf 2 (.sl [.s]) v2 rfl rfl
    have f3 := hf 3 (.sl ka) v3 rfl rfl
    have hz := sl_sizes (j := 2) f2 [v0, v1, v2, v3] (plain enSh [v0, v1, v2, v3]) (enSh.map shZ) rfl rfl
    obtain ⟨A2, n, c2, e2, l2⟩ := sl_len (j := 2) f2 [v0, v1, v2, v3] (plain enSh [v0, v1, v2, v3]) (enSh.map shZ) rfl
    obtain ⟨A3, m, c3, e3, l3⟩ := sl_len (j := 3) f3 [v0, v1, v2, v3] (plain enSh [v0, v1, v2, v3]) (enSh.map shZ) rfl
    have s2 := hs 2 25 9 A2 n c2 (by kernel_rfl) (by rw [e2]; rfl) (by kernel_rfl)
    have s3 := hs 3 26 47 A3 m c3 (by kernel_rfl) (by rw [e3]; rfl) (by kernel_rfl)
    have b2 : Try.prog.bytesOf 9 = 16 := by kernel_rfl
    have b3 : Try.prog.bytesOf 47 = 216 := by kernel_rfl
    have rb : reachBytes = 140737488351232 := rfl
    rw [b2, rb] at s2
    rw [b3, rb] at s3
    show CY Try.prog 0 3 (X.denL _ enA) [] _ []
    exact en_cy _ (n := n) (m := m) l2 l3 rfl (by omega) (by omega) (by rw [← l2]; exact hz) 0 []
end Go.Proofs.Ytdlifdoglhhnfaa
