/- Parts of the proof, one behind the other. -/
import Derived.Test.YtdlifdoglhhnfaaTM10
/- Txn: what TxnSettles' inner loops keep. -/
namespace Go.Proofs.Ytdlifdoglhhnfaa
open Go Go.Proofs.Aw Go.Proofs.Xw Go.Proofs.Sr
set_option maxRecDepth 100000
/-! ### New's loop -/
def nwS : Nat → XS
  | 0 => nw_S0
  | _ => nw_S1
def nwR (n : Nat) (s : Nat) (ρ : Rho) : Prop := ρ.len 2 = n ∧ match s with
  | 0 => True
  | _ => ∃ k : Nat, 1 ≤ k ∧ k ≤ n ∧ ρ.i 460 = k ∧ ρ.len 461 = k ∧ ∀ j, j < k → ρ.ci 461 0 j = j
theorem nwF_ok {ρ : Rho} {n : Nat} (h : ρ.len 2 = n) (h1 : 1 ≤ n) (h6 : n ≤ 6) : Facts.ok ρ nwF :=
  Facts.ok_cons (by rw [dlt_f]; simp only [IE.den]; omega) (Facts.ok_cons (by rw [dlt_f]; simp only [IE.den]; omega) (Facts.ok_nil _))
theorem nw_ok (ρ : Rho) (n : Nat) (h : ρ.len 2 = n) (h1 : 1 ≤ n) (h6 : n ≤ 6) : ∃ ρf, Agree 460 ρ ρf ∧ (ρf.len 461 = n ∧ ∀ j, j < n → ρf.ci 461 0 j = j) ∧ LoopOk Try.prog ρf Try.f9.ntmps nw_c nw := by
  suffices hh : ∃ (_ : Nat) (ρf : Rho), Agree nw.n ρ ρf ∧ (ρf.len 461 = n ∧ ∀ j, j < n → ρf.ci 461 0 j = j) ∧ LoopOk Try.prog ρf Try.f9.ntmps nw_c nw by
    obtain ⟨_, ρf, h1, h2, h3⟩ := hh
    exact ⟨ρf, h1, h2, h3⟩
  have a0 := Bind.agree nw_I0g ρ
  refine loopOk_famE (L := nw) (N := Try.f9.ntmps) (body := nw_c) (P := Try.prog) rfl nw_Eb nwS (nwR n) (fun _ ρ' => ρ'.len 461 = n ∧ ∀ j, j < n → ρ'.ci 461 0 j = j) (fun s ρ' => match s with
    | 0 => n + 1
    | _ => (n - ρ'.i 460).toNat) ?_
    ⟨0, nw_I0.ap ρ, a0, ⟨by rw [← a0.len 2 (by decide)]; exact h, trivial⟩, fun E _ hE => okS_imp hE nw_I0ok ρ⟩
  intro s ρ' hR
  match s, hR with
  | 0, ⟨hl, _⟩ =>
    have ag : Agree 460 ρ' (nw_A_b.ap ρ') := Bind.agree nw_A_g _
    refine .inr ⟨1, nw_A_b.ap ρ', nw_A_step rfl (cN_ok _) (LpsOk.nil _ _ _ _) (nwF_ok hl h1 h6), ?_, ?_, ag⟩
    · refine ⟨by rw [← ag.len 2 (by decide)]; exact hl, 1, Nat.le_refl _, h1, ap_i nw_A_460, ap_len nw_A_r461, fun j hj => ?_⟩
      obtain rfl : j = 0 := by omega
      rw [ap_ci nw_A_r461]
      exact row_one _ _ _
    · show (_ : Int).toNat < n + 1
      have : (nw_A_b.ap ρ').i 460 = 1 := ap_i nw_A_460
      rw [this]; omega
  | s + 1, ⟨hl, k, k1, k2, hi, hk, hc⟩ =>
    by_cases c : k < n
    · have ag : Agree 460 ρ' (nw_B_b.ap ρ') := Bind.agree nw_B_g _
      have e : (nw_B_b.ap ρ').i 460 = ((k + 1 : Nat) : Int) := (ap_i nw_B_460).trans (inc hi (by omega))
      refine .inr ⟨1, nw_B_b.ap ρ', nw_B_step rfl (cN_ok _) (LpsOk.nil _ _ _ _) (Facts.ok_cons (by rw [dlt_t]; simp only [IE.den]; omega) (Facts.ok_cons (by rw [dlt_f]; simp only [IE.den]; omega) (Facts.ok_cons (by rw [dlt_f]; simp only [IE.den]; omega) (nwF_ok hl h1 h6)))), ?_, ?_, ag⟩
      · refine ⟨by rw [← ag.len 2 (by decide)]; exact hl, k + 1, by omega, c, e, ?_, fun j hj => ?_⟩
        · rw [ap_len nw_B_r461]
          show ((ρ'.len 461 : Int) + 1).toNat = _
          rw [hk]; omega
        · rw [ap_ci nw_B_r461, row_app, hk]
          by_cases q : j < k
          · rw [if_pos q]; exact hc j q
          · rw [if_neg q]; show ρ'.i 460 = _; rw [hi]; omega
      · show (_ : Int).toNat < (_ : Int).toNat
        rw [e, hi]; omega
    · obtain rfl : k = n := by omega
      refine .inl ⟨ρ', Agree.refl _ _, ⟨hk, hc⟩, rfl, ?_⟩
      exact nw_X_end (cN_ok _) (LpsOk.nil _ _ _ _) (Facts.ok_cons (by rw [dlt_f]; simp only [IE.den]; omega) (nwF_ok hl h1 h6)) rfl
/-- The last key of the first round is asked for. -/
structure LastA (ρ : Rho) (n m : Nat) (g : Nat → ByteArray) (off : Nat) : Prop where
  f : EnF ρ n m g
  o : ρ.i 502 = off
  l : ρ.i 503 = 1
  r : ρ.i 519 = 1
  t : ρ.len 505 = off + 1
  on : off + 1 = n
  c0 : 0 ≤ ρ.ci 505 0 off
  c1 : ρ.ci 505 0 off < n
theorem LastA.agree {ρ ρ' : Rho} {n m k off : Nat} {g : Nat → ByteArray} (h : LastA ρ n m g off) (ag : Agree k ρ ρ') (hk : 530 ≤ k) : LastA ρ' n m g off :=
  ⟨h.f.agree ag (by omega), by rw [← ag.i 502 (by omega)]; exact h.o, by rw [← ag.i 503 (by omega)]; exact h.l, by rw [← ag.i 519 (by omega)]; exact h.r, by rw [← ag.len 505 (by omega)]; exact h.t, h.on, by rw [← ag.ci 505 (by omega)]; exact h.c0, by rw [← ag.ci 505 (by omega)]; exact h.c1⟩
theorem tnP_ok {ρ : Rho} {n m off : Nat} {g : Nat → ByteArray} (h : LastA ρ n m g off) : Facts.ok ρ tnP := by
  have h1 := h.f.en; have h2 := h.f.n1; have h3 := h.f.n6; have h4 := h.o; have h5 := h.l; have h6 := h.r; have h7 := h.t; have h8 := h.on; have h9 := h.c0; have ha := h.c1
  have hc : (IE.cl 505 0 (.var 502)).den ρ = ρ.ci 505 0 off := cl_i h4
  refine Facts.ok_cons (by rw [dlt_f]; simp only [IE.den]; omega) (Facts.ok_cons (by rw [dlt_f]; simp only [IE.den]; omega) (Facts.ok_cons (by rw [dlt_f, hc]; exact h9) (Facts.ok_cons (by rw [dlt_t, hc]; simp only [IE.den]; omega) (Facts.ok_cons (by rw [deq_t]; exact h6) (Facts.ok_cons (by rw [deq_t]; exact h5) (Facts.ok_cons (by rw [dlt_f]; simp only [IE.den]; omega) (Facts.ok_cons (by rw [dlt_f]; simp only [IE.den]; omega) (Facts.ok_cons ?_ (Facts.ok_nil _)))))))))
  rw [deq_t]
  show (ρ.len 505 : Int) = ρ.i 502 + ρ.i 503
  omega
/-! ### Answers -/
/-- The cells of an answer that are numbers. -/
def norm (f : Nat → Int) (c : Nat) : Int := if c = 1 ∨ c = 8 ∨ c = 9 ∨ c = 10 ∨ 25 ≤ c then 0 else f c
theorem norm_norm (f : Nat → Int) : norm (norm f) = norm f := by
  funext c
  unfold norm
  split <;> rfl
theorem pa_norm (f : Nat → Int) (d : Nat) (hd : d < 9) : pa (norm f) d = pa f d := by
  match d, hd with
  | 0, _ => rfl
  | 1, _ => rfl
  | 2, _ => rfl
  | 3, _ => rfl
  | 4, _ => rfl
  | 5, _ => rfl
  | 6, _ => rfl
  | 7, _ => rfl
  | 8, _ => rfl
/-- An answer of a row: its numbers, and whether something was found. -/
def An (ρ : Rho) (l j : Nat) : (Nat → Int) × Bool := (norm fun c => ρ.ci l c j, ρ.cb l 1 j)
theorem An.agree {ρ ρ' : Rho} {k l : Nat} (ag : Agree k ρ ρ') (hl : l < k) (j : Nat) : An ρ' l j = An ρ l j := by
  unfold An; rw [ag.ci l hl, ag.cb l hl]
theorem lt25 {c : Nat} (h : c < 25) : c = 0 ∨ c = 1 ∨ c = 2 ∨ c = 3 ∨ c = 4 ∨ c = 5 ∨ c = 6 ∨ c = 7 ∨ c = 8 ∨ c = 9 ∨ c = 10 ∨ c = 11 ∨ c = 12 ∨ c = 13 ∨ c = 14 ∨ c = 15 ∨ c = 16 ∨ c = 17 ∨ c = 18 ∨ c = 19 ∨ c = 20 ∨ c = 21 ∨ c = 22 ∨ c = 23 ∨ c = 24 := by omega
theorem var_ci (ρ : Rho) (l j c : Nat) : cellI ((RL.var l ka).row ρ j)[c]? = norm (fun c => ρ.ci l c j) c := by
  rcases Nat.lt_or_ge c 25 with h | h
  · rcases lt25 h with e | e | e | e | e | e | e | e | e | e | e | e | e | e | e | e | e | e | e | e | e | e | e | e | e <;> subst e <;> rfl
  · have h1 : ((RL.var l ka).row ρ j)[c]? = none := List.getElem?_eq_none (by
      have : ((RL.var l ka).row ρ j).length = 25 := rfl
      omega)
    rw [h1]
    unfold norm
    rw [if_pos (by omega)]; rfl
theorem var_An {β : Bind} {ρ : Rho} {l l' : Nat} {m : IE} (h : lassoc l β.r = some (m, .var l' ka)) (j : Nat) : An (β.ap ρ) l j = An ρ l' j := by
  unfold An
  congr 1
  · rw [show (fun c => (β.ap ρ).ci l c j) = norm (fun c => ρ.ci l' c j) from by
      funext c; rw [ap_ci h, var_ci], norm_norm]
  · rw [ap_cb h]; rfl
/-- The cells of an answer, as they are written into a row. -/
def anS (l : Nat) (i : IE) : List Sc := [.i .i64 (.cl l 0 i), .b (.cl l 1 i), .i .i64 (.cl l 2 i), .i .i64 (.cl l 3 i), .i .i64 (.cl l 4 i), .i .i64 (.cl l 5 i), .i .i64 (.cl l 6 i), .i .i64 (.cl l 7 i), .s (.cl l 8 i), .s (.cl l 9 i), .b (.cl l 10 i), .i .i64 (.cl l 11 i), .i .i64 (.cl l 12 i), .i .i64 (.cl l 13 i), .i .i64 (.cl l 14 i), .i .i64 (.cl l 15 i), .i .i64 (.cl l 16 i), .i .i64 (.cl l 17 i), .i .i64 (.cl l 18 i), .i .i64 (.cl l 19 i), .i .i64 (.cl l 20 i), .i .i64 (.cl l 21 i), .i .i64 (.cl l 22 i), .i .i64 (.cl l 23 i), .i .i64 (.cl l 24 i)]
theorem anS_ci (ρ : Rho) (l c : Nat) (i : IE) : cellI (scL ρ (anS l i))[c]? = norm (fun c => ρ.ci l c (i.den ρ).toNat) c := by
  rcases Nat.lt_or_ge c 25 with h | h
  · rcases lt25 h with e | e | e | e | e | e | e | e | e | e | e | e | e | e | e | e | e | e | e | e | e | e | e | e | e <;> subst e <;> rfl
  · have h1 : (scL ρ (anS l i))[c]? = none := List.getElem?_eq_none (by
      have : (scL ρ (anS l i)).length = 25 := rfl
      omega)
    rw [h1]
    unfold norm
    rw [if_pos (by omega)]; rfl
theorem upd_An {β : Bind} {ρ : Rho} {l l' l3 : Nat} {m e i : IE} (h : lassoc l β.r = some (m, .upd e (anS l3 i) (.var l' ka))) {x y : Nat} (he : e.den ρ = x) (hi : i.den ρ = y) (j : Nat) : An (β.ap ρ) l j = if j = x then An ρ l3 y else An ρ l' j := by
  have row : (RL.upd e (anS l3 i) (.var l' ka)).row ρ (j : Int) = if j = x then scL ρ (anS l3 i) else (RL.var l' ka).row ρ j := by
    simp only [RL.row]
    by_cases c : j = x
    · rw [if_pos (by rw [he]; omega), if_pos c]
    · rw [if_neg (by rw [he]; omega), if_neg c]
  unfold An
  rw [show (fun c => (β.ap ρ).ci l c j) = fun c => cellI ((RL.upd e (anS l3 i) (.var l' ka)).row ρ (j : Int))[c]? from by funext c; exact ap_ci h j, ap_cb h, row]
  by_cases c : j = x
  · simp only [if_pos c]
    congr 1
    · rw [show (fun c => cellI (scL ρ (anS l3 i))[c]?) = norm (fun c => ρ.ci l3 c y) from by funext c; rw [anS_ci, hi, Int.toNat_natCast], norm_norm]
    · show ρ.cb l3 1 (i.den ρ).toNat = _
      rw [hi, Int.toNat_natCast]
  · simp only [if_neg c]
    congr 1
    · rw [show (fun c => cellI ((RL.var l' ka).row ρ j)[c]?) = norm (fun c => ρ.ci l' c j) from by funext c; exact var_ci ρ l' j c, norm_norm]
/-! ### Turn's first loop -/
theorem t1_m (k : Nat) (hk : k < 9) : ∃ p, lassoc (532 + k) t1_b.i = some (.ite (.cl 530 1 (.var 531)) (.op .max .i64 (.op .max .i64 (.lit 0) (.var (532 + k))) p) (.var (532 + k))) ∧ ∀ ρ : Rho, p.den ρ = pa (fun c => ρ.ci 530 c (ρ.i 531).toNat) k := by
  match k, hk with
  | 0, _ => exact ⟨_, rfl, fun _ => rfl⟩
  | 1, _ => exact ⟨_, rfl, fun _ => rfl⟩
  | 2, _ => exact ⟨_, rfl, fun _ => rfl⟩
  | 3, _ => exact ⟨_, rfl, fun _ => rfl⟩
  | 4, _ => exact ⟨_, rfl, fun _ => rfl⟩
  | 5, _ => exact ⟨_, rfl, fun _ => rfl⟩
  | 6, _ => exact ⟨_, rfl, fun _ => rfl⟩
  | 7, _ => exact ⟨_, rfl, fun _ => rfl⟩
  | 8, _ => exact ⟨_, rfl, fun _ => rfl⟩
theorem t1_i0 (k : Nat) (hk : k < 9) : lassoc (532 + k) t1_i.i = some (.var (510 + k)) := by
  match k, hk with
  | 0, _ => rfl
  | 1, _ => rfl
  | 2, _ => rfl
  | 3, _ => rfl
  | 4, _ => rfl
  | 5, _ => rfl
  | 6, _ => rfl
  | 7, _ => rfl
  | 8, _ => rfl
theorem t1_ir : lassoc 530 t1_i.r = some (.len 2, .upd (.cl 505 0 (.var 502)) (anS 3 (.var 500)) (.var 504 ka)) := by kernel_rfl
theorem t1_br : lassoc 530 t1_b.r = some (.len 2, .var 530 ka) := by kernel_rfl
/-- What the first round's answers are, when turn begins. -/
theorem t1_An {ρ : Rho} {off i : Nat} (h1 : (IE.cl 505 0 (.var 502)).den ρ = off) (h2 : ρ.i 500 = i) (x : Nat) : ∀ j : Nat, An (t1_b.it (t1_i.ap ρ) j) 530 x = if x = off then An ρ 3 i else An ρ 504 x
  | 0 => upd_An t1_ir h1 (i := .var 500) h2 x
  | j + 1 => by
    show An (t1_b.ap (t1_b.it (t1_i.ap ρ) j)) 530 x = _
    rw [var_An t1_br]; exact t1_An h1 h2 x j
theorem t1_cut (ρ : Rho) {N : Nat} (hN : N < 9223372036854775808) (k : Nat) (hk : k < 9) : ∀ j : Nat, j ≤ N → ρ.i (510 + k) ≤ (t1_b.it (t1_i.ap ρ) j).i (532 + k) ∧ ∀ x, x < j → (An (t1_b.it (t1_i.ap ρ) j) 530 x).2 = true → pa (An (t1_b.it (t1_i.ap ρ) j) 530 x).1 k ≤ (t1_b.it (t1_i.ap ρ) j).i (532 + k)
  | 0, _ => by
    refine ⟨?_, fun x hx => absurd hx (by omega)⟩
    show _ ≤ (t1_i.ap ρ).i (532 + k)
    rw [ap_i (t1_i0 k hk)]; exact Int.le_refl _
  | j + 1, hj => by
    obtain ⟨h1, h2⟩ := t1_cut ρ hN k hk j (by omega)
    have hc : (t1_b.it (t1_i.ap ρ) j).i 531 = j := it_count (e := .lit 0) rfl (by rfl) _ (by omega)
    show _ ≤ (t1_b.ap (t1_b.it (t1_i.ap ρ) j)).i (532 + k) ∧ ∀ x, x < j + 1 → (An (t1_b.ap (t1_b.it (t1_i.ap ρ) j)) 530 x).2 = true → pa (An (t1_b.ap (t1_b.it (t1_i.ap ρ) j)) 530 x).1 k ≤ (t1_b.ap (t1_b.it (t1_i.ap ρ) j)).i (532 + k)
    generalize t1_b.it (t1_i.ap ρ) j = ρ1 at *
    obtain ⟨p, e, hp⟩ := t1_m k hk
    have hv : (t1_b.ap ρ1).i (532 + k) = if ρ1.cb 530 1 j = true then max (max 0 (ρ1.i (532 + k))) (pa (fun c => ρ1.ci 530 c j) k) else ρ1.i (532 + k) := by
      rw [ap_i e]
      show (if (BE.cl 530 1 (.var 531)).den ρ1 = true then max (max 0 (ρ1.i (532 + k))) (p.den ρ1) else ρ1.i (532 + k)) = _
      rw [cl_b (e := .var 531) (j := j) hc, hp, hc, Int.toNat_natCast]
    have up : ρ1.i (532 + k) ≤ (t1_b.ap ρ1).i (532 + k) := by rw [hv]; split <;> omega
    refine ⟨Int.le_trans h1 up, fun x hx hh => ?_⟩
    rw [var_An t1_br] at hh ⊢
    by_cases q : x < j
    · exact Int.le_trans (h2 x q hh) up
    · obtain rfl : x = j := by omega
      have hh : ρ1.cb 530 1 x = true := hh
      rw [hv, if_pos hh]
      show pa (norm fun c => ρ1.ci 530 c x) k ≤ _
      rw [pa_norm _ k hk]
      omega
theorem t1_ok (ρ : Rho) {n m off i : Nat} {g : Nat → ByteArray} (h : LastA ρ n m g off) (hc : ρ.ci 505 0 off = off) (hi : ρ.i 500 = i) : ∃ ρf, Agree 530 ρ ρf ∧ (ρf.i 531 = n ∧ (∀ x, An ρf 530 x = if x = off then An ρ 3 i else An ρ 504 x) ∧ ∀ k, k < 9 → ρ.i (510 + k) ≤ ρf.i (532 + k) ∧ ∀ x, x < n → (An ρf 530 x).2 = true → pa (An ρf 530 x).1 k ≤ ρf.i (532 + k)) ∧ LoopOk Try.prog ρf Try.f34.ntmps t1_c t1 := by
  have ag := (Bind.agree t1_ig ρ).trans (Bind.it_agree t1_bg (t1_i.ap ρ) n)
  have hn := h.f.n6
  refine ⟨t1_b.it (t1_i.ap ρ) n, ag, ⟨it_count (e := .lit 0) rfl (by rfl) _ (by omega), fun x => t1_An ((cl_i (e := .var 502) h.o).trans hc) hi x n, fun k hk => t1_cut ρ (N := n) (by omega) k hk n (Nat.le_refl _)⟩, ?_⟩
  exact loopOk_cntE mixed tis_ok t1_run t1_fits t1_back rfl 541 t1_bel t1_ib t1_bg t1_same (I := 531) (e := .len 2) rfl (by intro h; cases h) rfl rfl (by kernel_rfl) (Φ0 := tnP) rfl (by kernel_rfl) (tnP_ok h) t1_ig (fun _ => callS_ok (c := ⟨cfgL [] (fun _ => []), l_able, _⟩) (cfgL_ok (List.forall_mem_nil _) (fun _ _ _ => LpsOk.nil _ _ _ _)) l_able_ok 12) (fun _ => LpsOk.nil _ _ _ _) _ (by omega) (by simp only [IE.den, h.f.en])
end Go.Proofs.Ytdlifdoglhhnfaa

/- Txn: what is to be read again behind the first round: just what the cut does not let stand. -/
namespace Go.Proofs.Ytdlifdoglhhnfaa
open Go Go.Proofs.Aw Go.Proofs.Xw Go.Proofs.Sr
set_option maxRecDepth 100000
theorem pc_nine (c : Nat → Int) (r : Int) {x : Nat} (hx : x < 3) : pc c r x = pc (fun k => if k < 9 then c k else 0) r x := by
  match x, hx with
  | 0, _ => rfl
  | 1, _ => rfl
  | 2, _ => rfl
theorem pc_congr {c1 c2 : Nat → Int} {r : Int} {x : Nat} (hx : x < 3) (h : ∀ k, k < 9 → c1 k = c2 k) : pc c1 r x = pc c2 r x := by
  rw [pc_nine c1 r hx, pc_nine c2 r hx]
  congr 1
  funext k
  split
  · exact h k (by assumption)
  · rfl
/-- A key's answer does not cover the cut of its range. -/
def NC (g : Nat → ByteArray) (r : Int) (an : Nat → (Nat → Int) × Bool) (cut : Nat → Int) (x : Nat) : Prop := ncol (an x).1 (pc cut (sec r (pt (g x))))
/-- A row's numbers are just those that are so. -/
def Lst (ρ : Rho) (l c j : Nat) (P : Nat → Prop) : Prop := ρ.len l = c ∧ (∀ y, y < c → ∃ x : Nat, x < j ∧ ρ.ci l 0 y = x ∧ P x) ∧ ∀ x : Nat, x < j → P x → ∃ y, y < c ∧ ρ.ci l 0 y = x
theorem Lst.agree {ρ ρ' : Rho} {k l c j : Nat} {P : Nat → Prop} (h : Lst ρ l c j P) (ag : Agree k ρ ρ') (hl : l < k) : Lst ρ' l c j P :=
  ⟨by rw [← ag.len l hl]; exact h.1, by rw [← ag.ci l hl]; exact h.2.1, by rw [← ag.ci l hl]; exact h.2.2⟩
theorem Lst.skip {ρ : Rho} {l c j : Nat} {P : Nat → Prop} (h : Lst ρ l c j P) (hn : ¬ P j) : Lst ρ l c (j + 1) P :=
  ⟨h.1, fun y hy => by
    obtain ⟨x, h1, h2, h3⟩ := h.2.1 y hy
    exact ⟨x, by omega, h2, h3⟩, fun x hx hp => by
    by_cases q : x = j
    · subst q; exact absurd hp hn
    · exact h.2.2 x (by omega) hp⟩
theorem Lst.app {ρ : Rho} {β : Bind} {l c j : Nat} {x : IE} {P : Nat → Prop} (h : Lst ρ l c j P) (hr : lassoc l β.r = some (.op .padd .i64 (.len l) (.lit 1), .app (.len l) (.var l [.i .i64]) (.one [.i .i64 x]))) (hx : x.den ρ = j) (hp : P j) : Lst (β.ap ρ) l (c + 1) (j + 1) P := by
  have row : ∀ y, (β.ap ρ).ci l 0 y = if y < c then ρ.ci l 0 y else j := fun y => by rw [ap_ci hr, row_app, h.1, hx]
  refine ⟨?_, fun y hy => ?_, fun z hz hq => ?_⟩
  · rw [ap_len hr]
    show ((ρ.len l : Int) + 1).toNat = _
    rw [h.1]; omega
  · rw [row]
    by_cases q : y < c
    · rw [if_pos q]
      obtain ⟨x, h1, h2, h3⟩ := h.2.1 y q
      exact ⟨x, by omega, h2, h3⟩
    · rw [if_neg q]; exact ⟨j, by omega, rfl, hp⟩
  · by_cases q : z = j
    · subst q; exact ⟨c, by omega, by rw [row, if_neg (by omega)]⟩
    · obtain ⟨y, h1, h2⟩ := h.2.2 z (by omega) hq
      exact ⟨y, by omega, by rw [row, if_pos h1]; exact h2⟩
theorem Lst.one {ρ : Rho} {β : Bind} {l j : Nat} {x : IE} {P : Nat → Prop} (hr : lassoc l β.r = some (.lit 1, .one [.i .i64 x])) (hx : x.den ρ = j) (hp : P j) (hn : ∀ y, y < j → ¬ P y) : Lst (β.ap ρ) l 1 (j + 1) P := by
  have row : ∀ y, (β.ap ρ).ci l 0 y = j := fun y => by rw [ap_ci hr, row_one, hx]
  refine ⟨ap_len hr, fun y hy => ⟨j, by omega, row y, hp⟩, fun z hz hq => ?_⟩
  have : z = j := by
    rcases Nat.lt_or_ge z j with c | c
    · exact absurd hq (hn z c)
    · omega
  subst this
  exact ⟨0, by omega, row 0⟩
def t2S : Nat → XS
  | 0 => t2_S0
  | _ => t2_S1
def t2R (n m off : Nat) (g : Nat → ByteArray) (P : Nat → Prop) (ρ0 : Rho) (s : Nat) (ρ : Rho) : Prop := LastA ρ n m g off ∧ Agree 550 ρ0 ρ ∧ ∃ j : Nat, ρ.i 550 = j ∧ j ≤ n ∧ match s with
  | 0 => ∀ x, x < j → ¬ P x
  | _ => ∃ c : Nat, 1 ≤ c ∧ c ≤ j ∧ Lst ρ 551 c j P
/-- What is behind turn's second loop. -/
def t2Q' (n : Nat) (P : Nat → Prop) (ρ : Rho) : Prop := (ρ.b 556 = true ∧ ∀ x, x < n → ¬ P x) ∨ (ρ.b 556 = false ∧ ∃ c : Nat, 1 ≤ c ∧ c ≤ n ∧ Lst ρ 551 c n P)
theorem t2_ok (ρ : Rho) {n m off : Nat} {g : Nat → ByteArray} (h : LastA ρ n m g off) : ∃ ρf, Agree 550 ρ ρf ∧ t2Q' n (NC g (ρ.i 9) (An ρ 530) fun d => ρ.i (532 + d)) ρf ∧ LoopOk Try.prog ρf Try.f34.ntmps t2_c t2 := by
  generalize hP : NC g (ρ.i 9) (An ρ 530) (fun d => ρ.i (532 + d)) = P
  suffices hh : ∃ (_ : Nat) (ρf : Rho), Agree t2.n ρ ρf ∧ t2Q' n P ρf ∧ LoopOk Try.prog ρf Try.f34.ntmps t2_c t2 by
    obtain ⟨_, ρf, h1, h2, h3⟩ := hh
    exact ⟨ρf, h1, h2, h3⟩
  have a0 := Bind.agree t2_I0g ρ
  have hn := h.f.n6
  refine loopOk_famE (L := t2) (N := Try.f34.ntmps) (body := t2_c) (P := Try.prog) rfl t2_Eb t2S (t2R n m off g P ρ) (fun _ ρ' => t2Q' n P ρ') (fun _ ρ' => (n - ρ'.i 550).toNat) ?_
    ⟨0, t2_I0.ap ρ, a0, ⟨h.agree a0 (by decide), a0, 0, ap_i t2_I0_550, Nat.zero_le _, fun x hx => absurd hx (by omega)⟩, fun E _ hE => okS_imp hE t2_I0ok ρ⟩
  rintro s ρ' ⟨hA, ag0, j, hj, hjn, hs⟩
  have hen := hA.f.en
  by_cases c : j < n
  · -- one more key
    generalize hq : sec (ρ'.i 9) (pt (g j)) = q
    generalize e0 : putI ρ' [(552, q)] = ρ0
    have hp := part_row ρ0 532 (.var 552)
    have hof := of_cy (g j) (hA.f.z j c) (ρ'.i 9) ⟨hA.f.r1, hA.f.r3⟩
    unfold OfG at hof
    rw [hq] at hof
    generalize ha : pc (fun k => ρ0.i (532 + k)) ((IE.var 552).den ρ0) 0 = a at hp
    generalize hb : pc (fun k => ρ0.i (532 + k)) ((IE.var 552).den ρ0) 1 = b at hp
    generalize hd' : pc (fun k => ρ0.i (532 + k)) ((IE.var 552).den ρ0) 2 = d at hp
    generalize e1 : putI ρ' [(552, q), (553, a), (554, b), (555, d)] = ρ1
    have ag : Agree 552 ρ' ρ1 := by rw [← e1]; exact putI_agree ρ' rfl
    have i552 : ρ1.i 552 = q := by rw [← e1]; rfl
    have i553 : ρ1.i 553 = a := by rw [← e1]; rfl
    have i554 : ρ1.i 554 = b := by rw [← e1]; rfl
    have i555 : ρ1.i 555 = d := by rw [← e1]; rfl
    have i550 : ρ1.i 550 = j := by rw [← ag.i 550 (by decide)]; exact hj
    have hA1 : LastA ρ1 n m g off := hA.agree ag (by decide)
    have cok : CfgOk Try.prog ρ1 (cfgL ksOf (fun _ => [])) := cK_ok (List.forall_mem_cons.2 ⟨⟨hof.1, fun k hp => by
        show CY Try.prog k 17 (X.denL ρ1 [.sc (.s (.cl 2 0 (.var 550))), .sc (.i .i64 (.var 9))]) hp (X.den ρ1 (.sc (.i .i64 (.var 552)))) []
        have e : (TE.cl 2 0 (.var 550)).den ρ1 = g j := by rw [sl_den (ρ := ρ1) (e := .var 550) (n := j) i550, hA1.f.eg]
        simp only [X.denL, X.den, Sc.den, e, IE.den, i552, ← ag.i 9 (by decide)]
        exact hof.2 k hp⟩, List.forall_mem_cons.2 ⟨⟨hp.1, fun k hp' => by
        show CY Try.prog k 19 (X.denL ρ1 [.agg (vi 532 9), .sc (.i .i64 (.var 552))]) hp' (X.den ρ1 (.agg (vi 553 3))) []
        have := hp.2 k hp'
        have e2 : X.denL ρ0 [.agg (vi 532 9), .sc (.i .i64 (.var 552))] = X.denL ρ1 [.agg (vi 532 9), .sc (.i .i64 (.var 552))] := by rw [← e0, ← e1]; rfl
        have e3 : X.den ρ1 (.agg (vi 553 3)) = .agg [.sc (.int .i64 a), .sc (.int .i64 b), .sc (.int .i64 d)] := by rw [← e1]; rfl
        rw [e2] at this
        rw [e3]
        exact this⟩, List.forall_mem_nil _⟩⟩)
    have hnc : ncE.den ρ1 = true ↔ P j := by
      have pcq : ∀ x, x < 3 → pc (fun k => ρ0.i (532 + k)) ((IE.var 552).den ρ0) x = pc (fun k => ρ.i (532 + k)) (sec (ρ.i 9) (pt (g j))) x := fun x hx => by
        have e4 : (IE.var 552).den ρ0 = sec (ρ.i 9) (pt (g j)) := by rw [← e0, ag0.i 9 (by decide), hq]; rfl
        have ag00 : Agree 552 ρ' ρ0 := by rw [← e0]; exact putI_agree ρ' rfl
        rw [e4]
        exact pc_congr hx fun k hk => by rw [← ag00.i (532 + k) (by omega), ← ag0.i (532 + k) (by omega)]
      rw [← hP]
      unfold NC ncol
      rw [← pcq 0 (by decide), ← pcq 1 (by decide), ← pcq 2 (by decide), ha, hb, hd']
      have c22 : ∀ k, k = 22 ∨ k = 23 ∨ k = 24 → (IE.cl 530 k (.var 550)).den ρ1 = (An ρ 530 j).1 k := fun k hk => by
        rw [cl_i (e := .var 550) (j := j) i550, ← ag.ci 530 (by decide), ← ag0.ci 530 (by decide)]
        rcases hk with rfl | rfl | rfl <;> rfl
      unfold ncE
      rw [dor_t, dor_t, dlt_t, dlt_t, dlt_t, c22 22 (by omega), c22 23 (by omega), c22 24 (by omega)]
      simp only [IE.den, i553, i554, i555]
    have hlt : (BE.lt (.var 550) (.len 2)).den ρ1 = true := by rw [dlt_t]; simp only [IE.den, i550, hA1.f.en]; omega
    have fk : Facts.ok ρ1 t2F := Facts.ok_cons (by rw [dlt_f]; simp only [IE.den, i550]; omega) (Facts.ok_cons (by rw [dlt_f]; simp only [IE.den, hA1.f.en]; omega) (Facts.ok_nil _))
    have up : ∀ {β : Bind}, lassoc 550 β.i = some (.op .add .i64 (.var 550) (.lit 1)) → (β.ap ρ1).i 550 = ((j + 1 : Nat) : Int) := fun hb => (ap_i hb).trans (inc i550 (by omega))
    have down : ∀ {x : Rho}, x.i 550 = ((j + 1 : Nat) : Int) → (n - x.i 550).toNat < (n - ρ'.i 550).toNat := fun e => by rw [e, hj]; omega
    have ag5 : Agree 550 ρ' ρ1 := ag.le (by decide)
    match s, hs with
    | 0, hs =>
      have hd : t2_S0.den ρ' = t2_S0.den ρ1 := XS.bel_den ag t2_S0 (by kernel_rfl)
      cases hc : ncE.den ρ1 with
      | false =>
        have ag2 := ag5.trans (Bind.agree t2_Y0_g ρ1)
        have hnp : ¬ P j := fun k => by rw [hnc.2 k] at hc; cases hc
        refine .inr ⟨0, t2_Y0_b.ap ρ1, t2_Y0_step hd cok (LpsOk.nil _ _ _ _) (Facts.ok_cons hlt (Facts.ok_cons hc fk)), ⟨hA.agree ag2 (by decide), ag0.trans ag2, j + 1, up t2_Y0_550, c, fun x hx => ?_⟩, down (up t2_Y0_550), ag2⟩
        by_cases q : x = j
        · subst q; exact hnp
        · exact hs x (by omega)
      | true =>
        have ag2 := ag5.trans (Bind.agree t2_N0_g ρ1)
        refine .inr ⟨1, t2_N0_b.ap ρ1, t2_N0_step hd cok (LpsOk.nil _ _ _ _) (Facts.ok_cons hlt (Facts.ok_cons hc (Facts.ok_cons (by rw [deq_t]; exact hA1.l) (all_ok (tnP_ok hA1) fk)))) ?_, ⟨hA.agree ag2 (by decide), ag0.trans ag2, j + 1, up t2_N0_550, c, 1, Nat.le_refl _, by omega, Lst.one t2_N0_r551 i550 (hnc.1 hc) hs⟩, down (up t2_N0_550), ag2⟩
        rw [deq_t]
        show (ρ1.len 505 : Int) = (ρ1.i 502 + 1) + (ρ1.i 503 - 1)
        have := hA1.o; have := hA1.l; have := hA1.t
        omega
    | s + 1, ⟨k, k1, k2, hk⟩ =>
      have hd : t2_S1.den ρ' = t2_S1.den ρ1 := XS.bel_den ag t2_S1 (by kernel_rfl)
      have hk1 : Lst ρ1 551 k j P := hk.agree ag (by decide)
      cases hc : ncE.den ρ1 with
      | false =>
        have ag2 := ag5.trans (Bind.agree t2_Y1_g ρ1)
        have hnp : ¬ P j := fun k => by rw [hnc.2 k] at hc; cases hc
        refine .inr ⟨1, t2_Y1_b.ap ρ1, t2_Y1_step hd cok (LpsOk.nil _ _ _ _) (Facts.ok_cons hlt (Facts.ok_cons hc fk)), ⟨hA.agree ag2 (by decide), ag0.trans ag2, j + 1, up t2_Y1_550, c, k, k1, by omega, ?_⟩, down (up t2_Y1_550), ag2⟩
        have hs := hk1.skip hnp
        have row : ∀ x, (t2_Y1_b.ap ρ1).ci 551 0 x = ρ1.ci 551 0 x := fun x => by rw [ap_ci t2_Y1_r551, row_i]
        refine ⟨by rw [ap_len t2_Y1_r551]; show (ρ1.len 551 : Int).toNat = _; rw [hk1.1]; rfl, fun x hx => ?_, fun x hx hq => ?_⟩
        · rw [row]; exact hs.2.1 x hx
        · obtain ⟨y, h1, h2⟩ := hs.2.2 x hx hq
          exact ⟨y, h1, by rw [row]; exact h2⟩
      | true =>
        have ag2 := ag5.trans (Bind.agree t2_N1_g ρ1)
        exact .inr ⟨1, t2_N1_b.ap ρ1, t2_N1_step hd cok (LpsOk.nil _ _ _ _) (Facts.ok_cons hlt (Facts.ok_cons hc (Facts.ok_cons (by rw [dlt_f]; simp only [IE.den, hk1.1]; omega) fk))), ⟨hA.agree ag2 (by decide), ag0.trans ag2, j + 1, up t2_N1_550, c, k + 1, by omega, by omega, hk1.app t2_N1_r551 i550 (hnc.1 hc)⟩, down (up t2_N1_550), ag2⟩
  · obtain rfl : j = n := by omega
    match s, hs with
    | 0, hs =>
      have ag : Agree 556 ρ' (putB ρ' 556 true) := putB_agree ρ' (Nat.le_refl _)
      refine .inl ⟨putB ρ' 556 true, ag.le (by decide), .inl ⟨rfl, hs⟩, XS.bel_den ag t2_S0 (by kernel_rfl), ?_⟩
      exact t2_X0_end (cN_ok _) (LpsOk.nil _ _ _ _) (Facts.ok_cons (by show (BE.lt (.var 550) (.len 2)).den _ = false; rw [dlt_f]; show (ρ'.len 2 : Int) ≤ ρ'.i 550; omega) (Facts.ok_nil _)) rfl
    | s + 1, ⟨k, k1, k2, hk⟩ =>
      have ag : Agree 556 ρ' (putB ρ' 556 false) := putB_agree ρ' (Nat.le_refl _)
      refine .inl ⟨putB ρ' 556 false, ag.le (by decide), .inr ⟨rfl, k, k1, k2, hk⟩, XS.bel_den ag t2_S1 (by kernel_rfl), ?_⟩
      exact t2_X1_end (cN_ok _) (LpsOk.nil _ _ _ _) (Facts.ok_cons (by show (BE.lt (.var 550) (.len 2)).den _ = false; rw [dlt_f]; show (ρ'.len 2 : Int) ≤ ρ'.i 550; omega) (Facts.ok_nil _)) rfl
theorem t2P_of {ρ : Rho} (h : LoopOk Try.prog ρ Try.f34.ntmps t2_c t2) (hb : ρ.b 556 = true) : LoopOk Try.prog ρ Try.f34.ntmps t2P_c t2P :=
  one_way h rfl rfl rfl fun e s hs => by
    have : t2_out.sel ρ = some (e, s) := hs
    unfold t2_out at this
    rw [T.sel, if_pos (show (BE.var 556).den ρ = true from hb)] at this
    exact this
theorem t2Q_of {ρ : Rho} (h : LoopOk Try.prog ρ Try.f34.ntmps t2_c t2) (hb : ρ.b 556 = false) : LoopOk Try.prog ρ Try.f34.ntmps t2Q_c t2Q :=
  one_way h rfl rfl rfl fun e s hs => by
    have : t2_out.sel ρ = some (e, s) := hs
    unfold t2_out at this
    rw [T.sel, if_neg (show ¬ (BE.var 556).den ρ = true from by rw [show (BE.var 556).den ρ = ρ.b 556 from rfl, hb]; decide)] at this
    exact this
/-! ### The loop that marks a key -/
def twR (n κ off : Nat) (g : Nat → ByteArray) (old : Nat → Bool) (ρ : Rho) : Prop := ρ.len 2 = n ∧ stR ρ 2 = g ∧ ρ.i 502 = off ∧ ρ.ci 505 0 off = κ ∧ ∃ j : Nat, ρ.i 560 = j ∧ j ≤ n ∧ ∀ k, ρ.cb 561 0 k = (old k || (decide (k < j) && decide (g k = g κ)))
theorem row_b (ρ : Rho) (l j : Nat) : cellB ((RL.var l [.b]).row ρ j)[0]? = ρ.cb l 0 j := by
  simp only [RL.row, cellsV, List.getElem?_cons_zero, cellB, Int.toNat_natCast]
theorem row_ub (ρ : Rho) (l : Nat) (e : IE) (x j : Nat) (he : e.den ρ = x) : cellB ((RL.upd e [.b (.lit true)] (.var l [.b])).row ρ (j : Int))[0]? = if j = x then true else ρ.cb l 0 j := by
  simp only [RL.row]
  by_cases c : j = x
  · rw [if_pos (by rw [he]; omega), if_pos c]; rfl
  · rw [if_neg (by rw [he]; omega), if_neg c]; exact row_b ρ l j
theorem tw_ok (ρ : Rho) {n κ off : Nat} {g : Nat → ByteArray} (hn : ρ.len 2 = n) (n6 : n ≤ 6) (hg : stR ρ 2 = g) (ho : ρ.i 502 = off) (hk : ρ.ci 505 0 off = κ) : ∃ ρf, Agree 560 ρ ρf ∧ (∀ k, k < n → ρf.cb 561 0 k = (ρ.cb 507 0 k || decide (g k = g κ))) ∧ LoopOk Try.prog ρf Try.f3.ntmps tw_c tw := by
  generalize hold : (fun k => ρ.cb 507 0 k) = old
  suffices hh : ∃ (_ : Nat) (ρf : Rho), Agree tw.n ρ ρf ∧ (∀ k, k < n → ρf.cb 561 0 k = (old k || decide (g k = g κ))) ∧ LoopOk Try.prog ρf Try.f3.ntmps tw_c tw by
    obtain ⟨_, ρf, h1, h2, h3⟩ := hh
    refine ⟨ρf, h1, ?_, h3⟩
    rw [← hold] at h2
    exact h2
  have a0 := Bind.agree tw_I0g ρ
  refine loopOk_famE (L := tw) (N := Try.f3.ntmps) (body := tw_c) (P := Try.prog) rfl tw_Eb (fun _ => tw_S0) (fun _ => twR n κ off g old) (fun _ ρ' => ∀ k, k < n → ρ'.cb 561 0 k = (old k || decide (g k = g κ))) (fun _ ρ' => (n - ρ'.i 560).toNat) ?_
    ⟨0, tw_I0.ap ρ, a0, ⟨by rw [← a0.len 2 (by decide)]; exact hn, by rw [agree_st a0 (by decide)]; exact hg, by rw [← a0.i 502 (by decide)]; exact ho, by rw [← a0.ci 505 (by decide)]; exact hk, 0, ap_i tw_I0_560, Nat.zero_le _, fun k => by rw [ap_cb tw_I0_r561, row_b, ← hold]; simp⟩, fun E _ hE => okS_imp hE tw_I0ok ρ⟩
  rintro _ ρ' ⟨h1, h2, h3, h4, j, hj, hjn, hr⟩
  have f0 : Facts.ok ρ' twF := Facts.ok_cons (by rw [dlt_f]; simp only [IE.den, hj]; omega) (Facts.ok_cons (by rw [dlt_f]; simp only [IE.den, h1]; omega) (Facts.ok_nil _))
  by_cases c : j < n
  · have hin : inK.den ρ' = true := by show (BE.lt (.var 560) (.len 2)).den ρ' = true; rw [dlt_t]; simp only [IE.den, hj, h1]; omega
    have hsq : sqK.den ρ' = true ↔ g j = g κ := by
      show (BE.seq (.cl 2 0 (.var 560)) (.cl 2 0 (.cl 505 0 (.var 502)))).den ρ' = true ↔ _
      rw [seq_t, sl_den (ρ := ρ') (e := .var 560) (n := j) hj, sl_den (ρ := ρ') (e := .cl 505 0 (.var 502)) (n := κ) ((cl_i (e := .var 502) h3).trans h4), h2]
    have down : ∀ {x : Rho}, x.i 560 = ((j + 1 : Nat) : Int) → (n - x.i 560).toNat < (n - ρ'.i 560).toNat := fun e => by rw [e, hj]; omega
    cases hc : sqK.den ρ' with
    | true =>
      have ag := Bind.agree tw_T_g ρ'
      have up : (tw_T_b.ap ρ').i 560 = ((j + 1 : Nat) : Int) := (ap_i tw_T_560).trans (inc hj (by omega))
      refine .inr ⟨0, tw_T_b.ap ρ', tw_T_step rfl (cN_ok _) (LpsOk.nil _ _ _ _) (Facts.ok_cons hin (Facts.ok_cons hc f0)), ⟨by rw [← ag.len 2 (by decide)]; exact h1, by rw [agree_st ag (by decide)]; exact h2, by rw [← ag.i 502 (by decide)]; exact h3, by rw [← ag.ci 505 (by decide)]; exact h4, j + 1, up, c, fun k => ?_⟩, down up, ag⟩
      rw [ap_cb tw_T_r561, row_ub ρ' 561 (.var 560) j k hj, hr]
      have hgj := hsq.1 hc
      by_cases q : k = j
      · subst q; simp [hgj]
      · rw [if_neg q]
        have : decide (k < j + 1) = decide (k < j) := decide_eq_decide.2 (by omega)
        rw [this]
    | false =>
      have ag := Bind.agree tw_F_g ρ'
      have up : (tw_F_b.ap ρ').i 560 = ((j + 1 : Nat) : Int) := (ap_i tw_F_560).trans (inc hj (by omega))
      refine .inr ⟨0, tw_F_b.ap ρ', tw_F_step rfl (cN_ok _) (LpsOk.nil _ _ _ _) (Facts.ok_cons hin (Facts.ok_cons hc f0)), ⟨by rw [← ag.len 2 (by decide)]; exact h1, by rw [agree_st ag (by decide)]; exact h2, by rw [← ag.i 502 (by decide)]; exact h3, by rw [← ag.ci 505 (by decide)]; exact h4, j + 1, up, c, fun k => ?_⟩, down up, ag⟩
      rw [ap_cb tw_F_r561, row_b, hr]
      have hgj : ¬ g j = g κ := fun e => by rw [hsq.2 e] at hc; cases hc
      by_cases q : k = j
      · subst q; simp [hgj]
      · have : decide (k < j + 1) = decide (k < j) := decide_eq_decide.2 (by omega)
        rw [this]
  · obtain rfl : j = n := by omega
    refine .inl ⟨ρ', Agree.refl _ _, fun k hk => by rw [hr]; simp [hk], rfl, ?_⟩
    exact tw_X_end (cN_ok _) (LpsOk.nil _ _ _ _) (Facts.ok_cons (by show (BE.lt (.var 560) (.len 2)).den ρ' = false; rw [dlt_f]; simp only [IE.den, hj, h1]; omega) f0) rfl
end Go.Proofs.Ytdlifdoglhhnfaa
