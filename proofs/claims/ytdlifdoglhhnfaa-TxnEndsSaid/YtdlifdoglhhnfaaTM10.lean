/- Parts of the proof, one behind the other. -/
import Derived.Test.YtdlifdoglhhnfaaTM9
import Derived.Test.YtdlifdoglhhnfaaTM1
import Derived.Test.YtdlifdoglhhnfaaXwM3
/- Txn: what TxnEnds' loop over the answers keeps. -/
namespace Go.Proofs.Ytdlifdoglhhnfaa
open Go Go.Proofs.Aw Go.Proofs.Xw Go.Proofs.Sr
set_option maxRecDepth 100000
/-- A transaction under way: so many answers looked at, so many that went well; what is to be read yet. -/
structure Live (ρ : Rho) (n m : Nat) (g : Nat → ByteArray) (i gd off len : Nat) : Prop where
  f : EnF ρ n m g
  xi : ρ.i 500 = i
  im : i ≤ m
  xg : ρ.i 501 = gd
  o : ρ.i 502 = off
  l : ρ.i 503 = len
  t : Again ρ 505 n (off + len)
  r : (ρ.i 519 = 1 ∧ off + len = n ∧ gd = off) ∨ (ρ.i 519 = 2 ∧ off + len ≤ n ∧ gd = n + off)
structure Gone (ρ : Rho) (n m : Nat) (g : Nat → ByteArray) (i gd : Nat) : Prop where
  f : EnF ρ n m g
  xi : ρ.i 500 = i
  im : i ≤ m
  xg : ρ.i 501 = gd
  c : ρ.i 520 = 60
  le : gd ≤ 2 * n
theorem Live.agree {ρ ρ' : Rho} {k n m i gd off len : Nat} {g : Nat → ByteArray} (h : Live ρ n m g i gd off len) (ag : Agree k ρ ρ') (hk : 520 ≤ k) : Live ρ' n m g i gd off len :=
  ⟨h.f.agree ag (by omega), by rw [← ag.i 500 (by omega)]; exact h.xi, h.im, by rw [← ag.i 501 (by omega)]; exact h.xg, by rw [← ag.i 502 (by omega)]; exact h.o, by rw [← ag.i 503 (by omega)]; exact h.l, h.t.agree ag (by omega), by rw [← ag.i 519 (by omega)]; exact h.r⟩
theorem Live.gd2 {ρ : Rho} {n m i gd off len : Nat} {g : Nat → ByteArray} (h : Live ρ n m g i gd off len) : gd ≤ 2 * n := by
  rcases h.r with ⟨_, h1, h2⟩ | ⟨_, h1, h2⟩ <;> omega
theorem mnF_ok {ρ : Rho} {n m i : Nat} {g : Nat → ByteArray} (hf : EnF ρ n m g) (hi : ρ.i 500 = i) : Facts.ok ρ mnF := by
  have h1 := hf.en; have h2 := hf.n1; have h3 := hf.n6
  exact Facts.ok_cons (by rw [dlt_f]; simp only [IE.den]; omega) (Facts.ok_cons (by rw [dlt_f]; simp only [IE.den]; omega) (Facts.ok_cons (by rw [dlt_f]; simp only [IE.den]; omega) (Facts.ok_nil _)))
theorem inM_den {ρ : Rho} {n m i : Nat} {g : Nat → ByteArray} (hf : EnF ρ n m g) (hi : ρ.i 500 = i) : inM.den ρ = decide (i < m) := by
  show decide (ρ.i 500 < (ρ.len 3 : Int)) = _
  rw [hi, hf.em]
  exact decide_eq_decide.2 (by omega)
theorem lvF_ok {ρ : Rho} {n m i gd off len : Nat} {g : Nat → ByteArray} (h : Live ρ n m g i gd off len) (hl : 0 < len) : Facts.ok ρ lvF := by
  have h1 := h.f.n6; have h2 := h.o; have h3 := h.l; have h4 := h.t.1; have h5 := h.t.2 off (by omega); have h6 := h.f.en
  have hs : off + len ≤ n := by rcases h.r with ⟨_, q, _⟩ | ⟨_, q, _⟩ <;> omega
  have hr : ρ.i 519 ≤ 2 := by rcases h.r with ⟨q, _, _⟩ | ⟨q, _, _⟩ <;> omega
  have hc : (IE.cl 505 0 (.var 502)).den ρ = ρ.ci 505 0 off := cl_i h2
  refine Facts.ok_cons (by rw [dlt_f]; simp only [IE.den]; omega) (Facts.ok_cons (by rw [dlt_f]; simp only [IE.den]; omega) (Facts.ok_cons (by rw [dlt_t]; simp only [IE.den]; omega) (Facts.ok_cons (by rw [dlt_f]; simp only [IE.den]; omega) (Facts.ok_cons ?_ (Facts.ok_cons (by rw [dlt_f, hc]; exact h5.1) (Facts.ok_cons (by rw [dlt_t, hc]; simp only [IE.den]; omega) (Facts.ok_cons (by rw [dlt_f]; exact hr) (Facts.ok_cons (by rw [dlt_t]; simp only [IE.den]; omega) (Facts.ok_nil _)))))))))
  rw [deq_t]
  show (ρ.len 505 : Int) = ρ.i 502 + ρ.i 503
  omega
def n1E : BE := .not (.lt (.len 505) (.op .padd .i64 (.var 502) (.var 503)))
def n2E : BE := .not (.lt (.len 505) (.op .padd .i64 (.op .padd .i64 (.var 502) (.lit 1)) (.op .psub .i64 (.var 503) (.lit 1))))
theorem n1E_t {ρ : Rho} {n m i gd off len : Nat} {g : Nat → ByteArray} (h : Live ρ n m g i gd off len) : n1E.den ρ = true := by
  have h2 := h.o; have h3 := h.l; have h4 := h.t.1
  unfold n1E
  rw [dnot_t, dlt_f]
  show ρ.i 502 + ρ.i 503 ≤ (ρ.len 505 : Int)
  omega
theorem n2E_t {ρ : Rho} {n m i gd off len : Nat} {g : Nat → ByteArray} (h : Live ρ n m g i gd off len) : n2E.den ρ = true := by
  have h2 := h.o; have h3 := h.l; have h4 := h.t.1
  unfold n2E
  rw [dnot_t, dlt_f]
  show (ρ.i 502 + 1) + (ρ.i 503 - 1) ≤ (ρ.len 505 : Int)
  omega
theorem ps_is : ∃ e : Nat → IE, psR = .ret (.agg ((List.range 9).map fun k => .sc (.i .i64 (e k)))) := ⟨fun k => match psR with
  | .ret (.agg l) => match l[k]? with
    | some (.sc (.i _ x)) => x
    | _ => .lit 0
  | _ => .lit 0, rfl⟩
/-- What a write stands on. -/
theorem past_cy (ρ : Rho) : ∃ v : Nat → Int, hasBody Try.prog 16 = true ∧ ∀ n h, CY Try.prog n 16 (X.denL ρ [.ro 20 [enC 3 (.var 500)] true]) h (.agg ((List.range 9).map fun k => .sc (.int .i64 (v k)))) [] := by
  obtain ⟨e, he⟩ := ps_is
  have q := askF_ok (c := ⟨cfgL [] (fun _ => []), l_able, []⟩) (f := 16) (args := [.ro 20 [enC 3 (.var 500)] true]) (Φ := []) (cN_ok ρ) l_able_ok (Facts.ok_nil ρ) (by rw [psR_run, he]; exact rfl)
  refine ⟨fun k => (e k).den ρ, q.1, fun n h => ?_⟩
  have := q.2 n h
  exact this
theorem cov_cy (ρ : Rho) : ∃ b : Bool, hasBody Try.prog 15 = true ∧ ∀ n h, CY Try.prog n 15 (X.denL ρ [.agg (vi 510 9), .agg (vi 580 9)]) h (.sc (.bool b)) [] := by
  obtain ⟨e, he⟩ : ∃ e, cvR = .ret (.sc (.b e)) := ⟨_, rfl⟩
  have q := askF_ok (c := ⟨cfgL [] (fun _ => []), l_able, []⟩) (f := 15) (args := [.agg (vi 510 9), .agg (vi 580 9)]) (Φ := []) (cN_ok ρ) l_able_ok (Facts.ok_nil ρ) (by rw [cvR_run, he]; exact rfl)
  exact ⟨_, q⟩
def mnS : Nat → XS
  | 0 => mn_S0
  | _ => mn_S1
def mnR (n m : Nat) (g : Nat → ByteArray) (s : Nat) (ρ : Rho) : Prop := match s with
  | 0 => ∃ i gd off len : Nat, Live ρ n m g i gd off len
  | _ => ∃ i gd : Nat, Gone ρ n m g i gd
/-- What the loop leaves. -/
def mnQ (n m : Nat) (g : Nat → ByteArray) (s : Nat) (ρ : Rho) : Prop := match s with
  | 0 => ρ.b 525 = true ∧ ∃ gd off len : Nat, Live ρ n m g m gd off len
  | _ => ρ.b 525 = false ∧ ∃ gd : Nat, Gone ρ n m g m gd
theorem mn_ok (ρ : Rho) {n m : Nat} {g : Nat → ByteArray} (hf : EnF ρ n m g) (h1 : ρ.len 461 = n) (h2 : ∀ j, j < n → ρ.ci 461 0 j = j) : ∃ s ρf, Agree 500 ρ ρf ∧ mnQ n m g s ρf ∧ LoopOk Try.prog ρf Try.f5.ntmps mn_c mn := by
  have a0 := Bind.agree mn_I0g ρ
  have hn := hf.n6; have hm := hf.mb
  refine loopOk_famE (L := mn) (N := Try.f5.ntmps) (body := mn_c) (P := Try.prog) rfl mn_Eb mnS (mnR n m g) (mnQ n m g) (fun _ ρ' => (m - ρ'.i 500).toNat) ?_
    ⟨0, mn_I0.ap ρ, a0, ⟨0, 0, 0, n, hf.agree a0 (by decide), ap_i mn_I0_500, Nat.zero_le _, ap_i mn_I0_501, ap_i mn_I0_502, (ap_i mn_I0_503).trans (by show (ρ.len 461 : Int) = _; rw [h1]), ⟨by rw [ap_len mn_I0_r505]; show ((ρ.len 461 : Int)).toNat = _; rw [h1]; omega, fun j hj => by rw [ap_ci mn_I0_r505, row_i, h2 j (by omega)]; omega⟩, .inl ⟨ap_i mn_I0_519, by omega, rfl⟩⟩, fun E _ hE => okS_imp hE mn_I0ok ρ⟩
  intro s ρ' hR
  match s, hR with
  | 0, ⟨i, gd, off, len, h⟩ =>
    by_cases c : i < m
    · have down : ∀ {x : Rho}, x.i 500 = ((i + 1 : Nat) : Int) → (m - x.i 500).toNat < (m - ρ'.i 500).toNat := fun e => by rw [e, h.xi]; omega
      have up : ∀ {ρ1 : Rho} {β : Bind}, ρ1.i 500 = ρ'.i 500 → lassoc 500 β.i = some (.op .add .i64 (.var 500) (.lit 1)) → (β.ap ρ1).i 500 = ((i + 1 : Nat) : Int) := fun e hb => (ap_i hb).trans (inc (e.trans h.xi) (by omega))
      have hgd := h.gd2
      have sameT : ∀ {ρ1 : Rho} {β : Bind} {c : Nat}, Again ρ1 505 n c → lassoc 505 β.r = some (.len 505, .var 505 [.i .i64]) → Again (β.ap ρ1) 505 n c := fun {ρ1 β c} ht hr => ⟨by rw [ap_len hr]; show ((ρ1.len 505 : Int)).toNat = _; rw [ht.1]; omega, fun j hj => by rw [ap_ci hr, row_i]; exact ht.2 j hj⟩
      by_cases hl : len = 0
      · -- it is done
        subst hl
        have ag := Bind.agree mn_D_g ρ'
        refine .inr ⟨0, mn_D_b.ap ρ', mn_D_step rfl (cN_ok _) (LpsOk.nil _ _ _ _) (Facts.ok_cons (by rw [inM_den h.f h.xi]; exact decide_eq_true c) (Facts.ok_cons (by rw [dlt_f]; show ρ'.i 503 ≤ 0; rw [h.l]; omega) (Facts.ok_cons (by rw [dlt_f]; show 0 ≤ ρ'.i 503; rw [h.l]; omega) (mnF_ok h.f h.xi)))) ?_, ⟨i + 1, gd, off, 0, h.f.agree ag (by decide), up rfl mn_D_500, c, (ap_i mn_D_501).trans h.xg, (ap_i mn_D_502).trans h.o, (ap_i mn_D_503).trans h.l, sameT h.t mn_D_r505, by rw [ap_i mn_D_519]; exact h.r⟩, down (up rfl mn_D_500), ag⟩
        rw [dand_t, dnot_t, dlt_f]
        exact ⟨by show 0 ≤ ρ'.i 502; rw [h.o]; omega, n1E_t h⟩
      · have hl : 0 < len := by omega
        have hin : inM.den ρ' = true := by rw [inM_den h.f h.xi]; exact decide_eq_true c
        have fk : Facts.ok ρ' (mnF ++ lvF) := all_ok (mnF_ok h.f h.xi) (lvF_ok h hl)
        have hcd : cdE.den ρ' = ρ'.ci 3 0 i := cl_i h.xi
        by_cases c60 : ρ'.ci 3 0 i = 60
        · have ag := Bind.agree mn_G_g ρ'
          refine .inr ⟨1, mn_G_b.ap ρ', mn_G_step rfl (cN_ok _) (LpsOk.nil _ _ _ _) (Facts.ok_cons hin (Facts.ok_cons (by rw [deq_t, hcd]; exact c60) fk)) (n1E_t h), ⟨i + 1, gd, h.f.agree ag (by decide), up rfl mn_G_500, c, (ap_i mn_G_501).trans h.xg, (ap_i mn_G_520).trans (hcd.trans c60), hgd⟩, down (up rfl mn_G_500), ag⟩
        · by_cases c0 : ρ'.ci 3 0 i = 0
          · -- it is OK
            have f0 : (BE.eq cdE (.lit 0)).den ρ' = true := by rw [deq_t, hcd]; exact c0
            have good : ∀ {ρ1 : Rho} {β : Bind}, ρ1.i 501 = gd → lassoc 501 β.i = some (.op .add .i64 (.var 501) (.lit 1)) → (β.ap ρ1).i 501 = ((gd + 1 : Nat) : Int) := fun e hb => (ap_i hb).trans (inc e (by omega))
            have eo : ∀ {ρ1 : Rho} {β : Bind}, ρ1.i 502 = off → lassoc 502 β.i = some (.op .padd .i64 (.var 502) (.lit 1)) → (β.ap ρ1).i 502 = ((off + 1 : Nat) : Int) := fun {ρ1 β} e hb => (ap_i hb).trans (by show ρ1.i 502 + 1 = _; rw [e]; omega)
            have el : ∀ {ρ1 : Rho} {β : Bind}, ρ1.i 503 = len → lassoc 503 β.i = some (.op .psub .i64 (.var 503) (.lit 1)) → (β.ap ρ1).i 503 = ((len - 1 : Nat) : Int) := fun {ρ1 β} e hb => (ap_i hb).trans (by show ρ1.i 503 - 1 = _; rw [e]; omega)
            have both : ∀ {ρ1 : Rho}, Live ρ1 n m g i gd off len → (BE.and n1E n2E).den ρ1 = true := fun h => by rw [dand_t]; exact ⟨n1E_t h, n2E_t h⟩
            have et : ∀ {ρ1 : Rho}, Again ρ1 505 n (off + len) → Again ρ1 505 n (off + 1 + (len - 1)) := fun h => by rw [show off + 1 + (len - 1) = off + len from by omega]; exact h
            rcases h.r with ⟨r1, s1, g1⟩ | ⟨r2, s2, g2⟩
            · by_cases l1 : len = 1
              · -- the last one of the first round
                subst l1
                have hA : LastA ρ' n m g off := ⟨h.f, h.o, h.l, r1, h.t.1, s1, (h.t.2 off (by omega)).1, (h.t.2 off (by omega)).2⟩
                obtain ⟨ρ1, ag1, ⟨i531, hup⟩, L1⟩ := t1_ok ρ' hA
                obtain ⟨ρ2, ag2, hw, L2⟩ := t2_ok ρ1 (hA.agree ag1 (Nat.le_refl _))
                have ag : Agree 530 ρ' ρ2 := ag1.trans (ag2.le (by decide))
                have L1' : LoopOk Try.prog ρ2 Try.f34.ntmps t1_c t1 := LoopOk.agree (B := 541) (by kernel_rfl) (by kernel_rfl) t1_bel (ag2.le (by decide)) L1
                have h' : Live ρ2 n m g i gd off 1 := h.agree ag (by decide)
                have hd : mn_S0.den ρ' = mn_S0.den ρ2 := XS.bel_den ag mn_S0 mn_S0b
                have hin' : inM.den ρ2 = true := by rw [inM_den h'.f h'.xi]; exact decide_eq_true c
                have f0' : (BE.eq cdE (.lit 0)).den ρ2 = true := by rw [deq_t, show cdE.den ρ2 = ρ2.ci 3 0 i from cl_i h'.xi, ← ag.ci 3 (by decide)]; exact c0
                have fk' : Facts.ok ρ2 (mnF ++ lvF ++ upF) := all_ok (all_ok (mnF_ok h'.f h'.xi) (lvF_ok h' hl)) (fun p hp => by
                  obtain ⟨k, hk, rfl⟩ := List.mem_map.1 hp
                  have hk := List.mem_range.1 hk
                  show (BE.lt (.var (532 + k)) (.var (510 + k))).den ρ2 = false
                  rw [dlt_f]
                  show ρ2.i (510 + k) ≤ ρ2.i (532 + k)
                  rw [← ag2.i (510 + k) (by omega), ← ag2.i (532 + k) (by omega)]
                  exact hup k hk)
                have i531' : ρ2.i 531 = n := by rw [← ag2.i 531 (by decide)]; exact i531
                have f531 : (BE.lt (.var 531) (.len 2)).den ρ2 = false := by rw [dlt_f]; show (ρ2.len 2 : Int) ≤ ρ2.i 531; rw [i531', h'.f.en]; exact Int.le_refl _
                have fr : (BE.eq (.var 519) (.lit 1)).den ρ2 = true := by rw [deq_t]; show ρ2.i 519 = 1; rw [← ag.i 519 (by decide)]; exact r1
                have fl : (BE.eq (.var 503) (.lit 1)).den ρ2 = true := by rw [deq_t]; exact h'.l
                have n531 : (BE.not (.lt (.var 531) (.len 2))).den ρ2 = true := by rw [dnot_t]; exact f531
                rcases hw with hb | ⟨hb, k, k1, k2, hk⟩
                · have a3 : Agree 500 ρ' (mn_TP_b.ap ρ2) := (ag.le (by decide)).trans (Bind.agree mn_TP_g ρ2)
                  refine .inr ⟨0, mn_TP_b.ap ρ2, mn_TP_step hd (cfgL_ok (List.forall_mem_nil _) (lpTP_ok L1' (t2P_of L2 hb))) (LpsOk.nil _ _ _ _) (Facts.ok_cons hin' (Facts.ok_cons f0' (Facts.ok_cons fr (Facts.ok_cons fl (Facts.ok_cons f531 fk'))))) ?_, ⟨i + 1, gd + 1, off + 1, 0, h.f.agree a3 (by decide), up (ag.i 500 (by decide)).symm mn_TP_500, c, good h'.xg mn_TP_501, eo h'.o mn_TP_502, el h'.l mn_TP_503, sameT (et h'.t) mn_TP_r505, .inl ⟨(ap_i mn_TP_519).trans (by rw [deq_t] at fr; exact fr), by omega, by omega⟩⟩, down (up (ag.i 500 (by decide)).symm mn_TP_500), a3⟩
                  rw [dand_t, dand_t]
                  exact ⟨n1E_t h', n531, n2E_t h'⟩
                · have a3 : Agree 500 ρ' (mn_TQ_b.ap ρ2) := (ag.le (by decide)).trans (Bind.agree mn_TQ_g ρ2)
                  refine .inr ⟨0, mn_TQ_b.ap ρ2, mn_TQ_step hd (cfgL_ok (List.forall_mem_nil _) (lpTQ_ok L1' (t2Q_of L2 hb))) (LpsOk.nil _ _ _ _) (Facts.ok_cons hin' (Facts.ok_cons f0' (Facts.ok_cons fr (Facts.ok_cons fl (Facts.ok_cons f531 (Facts.ok_cons (by rw [dlt_t]; show (0 : Int) < (ρ2.len 551 : Int); rw [hk.1]; omega) fk')))))) ?_, ⟨i + 1, gd + 1, 0, k, h.f.agree a3 (by decide), up (ag.i 500 (by decide)).symm mn_TQ_500, c, good h'.xg mn_TQ_501, ap_i mn_TQ_502, (ap_i mn_TQ_503).trans (by show (ρ2.len 551 : Int) = _; rw [hk.1]), ?_, .inr ⟨ap_i mn_TQ_519, by omega, by omega⟩⟩, down (up (ag.i 500 (by decide)).symm mn_TQ_500), a3⟩
                  · rw [dand_t]
                    exact ⟨n1E_t h', n531⟩
                  · refine ⟨by rw [ap_len mn_TQ_r505]; show ((ρ2.len 551 : Int)).toNat = _; rw [hk.1]; omega, fun j hj => ?_⟩
                    rw [ap_ci mn_TQ_r505, row_i]; exact hk.2 j (by omega)
              · have ag := Bind.agree mn_W1_g ρ'
                exact .inr ⟨0, mn_W1_b.ap ρ', mn_W1_step rfl (cN_ok _) (LpsOk.nil _ _ _ _) (Facts.ok_cons hin (Facts.ok_cons f0 (Facts.ok_cons (by rw [deq_t]; exact r1) (Facts.ok_cons (by rw [dlt_t]; show (1 : Int) < ρ'.i 503; rw [h.l]; omega) fk)))) (both h), ⟨i + 1, gd + 1, off + 1, len - 1, h.f.agree ag (by decide), up rfl mn_W1_500, c, good h.xg mn_W1_501, eo h.o mn_W1_502, el h.l mn_W1_503, sameT (et h.t) mn_W1_r505, .inl ⟨(ap_i mn_W1_519).trans r1, by omega, by omega⟩⟩, down (up rfl mn_W1_500), ag⟩
            · have hb : hasE.den ρ' = ρ'.cb 3 1 i := cl_b h.xi
              have fr : (BE.eq (.var 519) (.lit 2)).den ρ' = true := by rw [deq_t]; exact r2
              cases hh : ρ'.cb 3 1 i with
              | false =>
                have ag := Bind.agree mn_W2_g ρ'
                exact .inr ⟨0, mn_W2_b.ap ρ', mn_W2_step rfl (cN_ok _) (LpsOk.nil _ _ _ _) (Facts.ok_cons hin (Facts.ok_cons f0 (Facts.ok_cons fr (Facts.ok_cons (hb.trans hh) fk)))) (both h), ⟨i + 1, gd + 1, off + 1, len - 1, h.f.agree ag (by decide), up rfl mn_W2_500, c, good h.xg mn_W2_501, eo h.o mn_W2_502, el h.l mn_W2_503, sameT (et h.t) mn_W2_r505, .inr ⟨(ap_i mn_W2_519).trans r2, by omega, by omega⟩⟩, down (up rfl mn_W2_500), ag⟩
              | true =>
                obtain ⟨v, hv⟩ := past_cy ρ'
                generalize e1 : putI ρ' [(580, v 0), (581, v 1), (582, v 2), (583, v 3), (584, v 4), (585, v 5), (586, v 6), (587, v 7), (588, v 8)] = ρ1
                have ag1 : Agree 580 ρ' ρ1 := by rw [← e1]; exact putI_agree ρ' rfl
                obtain ⟨b, hb2⟩ := cov_cy ρ1
                generalize e2 : putB ρ1 590 b = ρ2
                have ag2 : Agree 590 ρ1 ρ2 := by rw [← e2]; exact putB_agree ρ1 (Nat.le_refl _)
                have ag : Agree 580 ρ' ρ2 := ag1.trans (ag2.le (by decide))
                have h' : Live ρ2 n m g i gd off len := h.agree ag (by decide)
                have hd : mn_S0.den ρ' = mn_S0.den ρ2 := XS.bel_den (ag.le (by decide) : Agree 530 ρ' ρ2) mn_S0 mn_S0b
                have b590 : (BE.var 590).den ρ2 = b := by rw [← e2]; show (if 590 = 590 then b else ρ1.b 590) = b; rw [if_pos rfl]
                have cok : CfgOk Try.prog ρ2 (cfgL ksP (fun _ => [])) := cK_ok (List.forall_mem_cons.2 ⟨⟨hv.1, fun k hp => by
                    show CY Try.prog k 16 (X.denL ρ2 [.ro 20 [enC 3 (.var 500)] true]) hp (X.den ρ2 (.agg (vi 580 9))) []
                    rw [← X.belL_den ag [.ro 20 [enC 3 (.var 500)] true] (by kernel_rfl)]
                    have e3 : X.den ρ2 (.agg (vi 580 9)) = .agg ((List.range 9).map fun k => .sc (.int .i64 (v k))) := by rw [← e2, ← e1]; rfl
                    rw [e3]; exact hv.2 k hp⟩, List.forall_mem_cons.2 ⟨⟨hb2.1, fun k hp => by
                    show CY Try.prog k 15 (X.denL ρ2 [.agg (vi 510 9), .agg (vi 580 9)]) hp (X.den ρ2 (.sc (.b (.var 590)))) []
                    rw [← X.belL_den ag2 [.agg (vi 510 9), .agg (vi 580 9)] (by kernel_rfl), show X.den ρ2 (.sc (.b (.var 590))) = .sc (.bool b) from by simp only [X.den, Sc.den, b590]]
                    exact hb2.2 k hp⟩, List.forall_mem_nil _⟩⟩)
                have hin' : inM.den ρ2 = true := by rw [inM_den h'.f h'.xi]; exact decide_eq_true c
                have f0' : (BE.eq cdE (.lit 0)).den ρ2 = true := by rw [deq_t, show cdE.den ρ2 = ρ2.ci 3 0 i from cl_i h'.xi, ← ag.ci 3 (by decide)]; exact c0
                have fh : hasE.den ρ2 = true := by rw [show hasE.den ρ2 = ρ2.cb 3 1 i from cl_b h'.xi, ← ag.cb 3 (by decide)]; exact hh
                have fr' : (BE.eq (.var 519) (.lit 2)).den ρ2 = true := by rw [deq_t]; show ρ2.i 519 = 2; rw [← ag.i 519 (by decide)]; exact r2
                have fk' : Facts.ok ρ2 (mnF ++ lvF) := all_ok (mnF_ok h'.f h'.xi) (lvF_ok h' hl)
                have fs : ∀ {p : BE × Bool}, p.1.den ρ2 = p.2 → Facts.ok ρ2 ((inM, true) :: (.eq cdE (.lit 0), true) :: (.eq (.var 519) (.lit 2), true) :: (hasE, true) :: p :: (mnF ++ lvF)) := fun hp => Facts.ok_cons hin' (Facts.ok_cons f0' (Facts.ok_cons fr' (Facts.ok_cons fh (Facts.ok_cons hp fk'))))
                cases b with
                | true =>
                  have a3 : Agree 500 ρ' (mn_W3_b.ap ρ2) := (ag.le (by decide)).trans (Bind.agree mn_W3_g ρ2)
                  exact .inr ⟨0, mn_W3_b.ap ρ2, mn_W3_step hd cok (LpsOk.nil _ _ _ _) (fs b590) (both h'), ⟨i + 1, gd + 1, off + 1, len - 1, h.f.agree a3 (by decide), up (ag.i 500 (by decide)).symm mn_W3_500, c, good h'.xg mn_W3_501, eo h'.o mn_W3_502, el h'.l mn_W3_503, sameT (et h'.t) mn_W3_r505, .inr ⟨(ap_i mn_W3_519).trans (by rw [deq_t] at fr'; exact fr'), by omega, by omega⟩⟩, down (up (ag.i 500 (by decide)).symm mn_W3_500), a3⟩
                | false =>
                  have a3 : Agree 500 ρ' (mn_W4_b.ap ρ2) := (ag.le (by decide)).trans (Bind.agree mn_W4_g ρ2)
                  exact .inr ⟨0, mn_W4_b.ap ρ2, mn_W4_step hd cok (LpsOk.nil _ _ _ _) (fs b590) (n1E_t h'), ⟨i + 1, gd, off, len, h.f.agree a3 (by decide), up (ag.i 500 (by decide)).symm mn_W4_500, c, (ap_i mn_W4_501).trans h'.xg, (ap_i mn_W4_502).trans h'.o, (ap_i mn_W4_503).trans h'.l, sameT h'.t mn_W4_r505, .inr ⟨(ap_i mn_W4_519).trans (by rw [deq_t] at fr'; exact fr'), s2, g2⟩⟩, down (up (ag.i 500 (by decide)).symm mn_W4_500), a3⟩
          · have ag := Bind.agree mn_E_g ρ'
            exact .inr ⟨0, mn_E_b.ap ρ', mn_E_step rfl (cN_ok _) (LpsOk.nil _ _ _ _) (Facts.ok_cons hin (Facts.ok_cons (by rw [deq_f, hcd]; exact c60) (Facts.ok_cons (by rw [deq_f, hcd]; exact c0) fk))) (n1E_t h), ⟨i + 1, gd, off, len, h.f.agree ag (by decide), up rfl mn_E_500, c, (ap_i mn_E_501).trans h.xg, (ap_i mn_E_502).trans h.o, (ap_i mn_E_503).trans h.l, sameT h.t mn_E_r505, by rw [ap_i mn_E_519]; exact h.r⟩, down (up rfl mn_E_500), ag⟩
    · have hi := h.im
      obtain rfl : i = m := by omega
      have ag : Agree 525 ρ' (putB ρ' 525 true) := putB_agree ρ' (Nat.le_refl _)
      have h' : Live (putB ρ' 525 true) n i g i gd off len := h.agree ag (by decide)
      refine .inl ⟨putB ρ' 525 true, ag.le (by decide), ⟨rfl, gd, off, len, h'⟩, XS.bel_den ag mn_S0 (by kernel_rfl), ?_⟩
      exact mn_X0_end (cN_ok _) (LpsOk.nil _ _ _ _) (Facts.ok_cons (by rw [inM_den h'.f h'.xi]; exact decide_eq_false (by omega)) (mnF_ok h'.f h'.xi)) rfl
  | s + 1, ⟨i, gd, h⟩ =>
    by_cases c : i < m
    · have ag := Bind.agree mn_Z_g ρ'
      have up : (mn_Z_b.ap ρ').i 500 = ((i + 1 : Nat) : Int) := (ap_i mn_Z_500).trans (inc h.xi (by omega))
      refine .inr ⟨1, mn_Z_b.ap ρ', mn_Z_step rfl (cN_ok _) (LpsOk.nil _ _ _ _) (Facts.ok_cons (by rw [inM_den h.f h.xi]; exact decide_eq_true c) (Facts.ok_cons (by rw [deq_t]; exact h.c) (mnF_ok h.f h.xi))), ⟨i + 1, gd, h.f.agree ag (by decide), up, c, (ap_i mn_Z_501).trans h.xg, (ap_i mn_Z_520).trans h.c, h.le⟩, ?_, ag⟩
      show (_ : Int).toNat < (_ : Int).toNat
      rw [up, h.xi]; omega
    · have hi := h.im
      obtain rfl : i = m := by omega
      have ag : Agree 525 ρ' (putB ρ' 525 false) := putB_agree ρ' (Nat.le_refl _)
      have h' : Gone (putB ρ' 525 false) n i g i gd := ⟨h.f.agree ag (by decide), h.xi, h.im, h.xg, h.c, h.le⟩
      refine .inl ⟨putB ρ' 525 false, ag.le (by decide), ⟨rfl, gd, h'⟩, XS.bel_den ag mn_S1 (by kernel_rfl), ?_⟩
      exact mn_X1_end (cN_ok _) (LpsOk.nil _ _ _ _) (Facts.ok_cons (by rw [inM_den h'.f h'.xi]; exact decide_eq_false (by omega)) (mnF_ok h'.f h'.xi)) rfl
end Go.Proofs.Ytdlifdoglhhnfaa

/- What functions answer, run over letters, where something is known; each shown by running it. -/
namespace Go.Proofs.Ytdlifdoglhhnfaa
open Go Go.Proofs.Aw Go.Proofs.Xw

abbrev zTM10_0 : IE := .lit 1099511627776
def r31 : T X := (.ret (.sc (.b (.not (.or (.or (.or (.lt (.var 0) (.lit 0)) (.lt zTM10_0 (.var 0))) (.or (.or (.lt (.var 1) (.lit 0)) (.lt zTM10_0 (.var 1))) (.or (.lt (.var 2) (.lit 0)) (.lt zTM10_0 (.var 2))))) (.or (.or (.or (.lt (.var 3) (.lit 0)) (.lt zTM10_0 (.var 3))) (.or (.or (.lt (.var 4) (.lit 0)) (.lt zTM10_0 (.var 4))) (.or (.lt (.var 5) (.lit 0)) (.lt zTM10_0 (.var 5))))) (.or (.or (.lt (.var 6) (.lit 0)) (.lt zTM10_0 (.var 6))) (.or (.or (.lt (.var 7) (.lit 0)) (.lt zTM10_0 (.var 7))) (.or (.lt (.var 8) (.lit 0)) (.lt zTM10_0 (.var 8)))))))))))
theorem r31_run : askF ⟨cfgL [] (fun _ => []), l_able, []⟩ 31 ([.agg (vi 0 9)]) [] = r31 := by kernel_rfl
end Go.Proofs.Ytdlifdoglhhnfaa

/- Txn: TxnEnds answers true. -/
namespace Go.Proofs.Ytdlifdoglhhnfaa
open Go Go.Proofs.Aw Go.Proofs.Xw Go.Proofs.Sr
set_option maxRecDepth 100000
/-- A vector that may be. -/
def rightV (ρ : Rho) : Prop := ∀ k, k < 9 → 0 ≤ ρ.i k ∧ ρ.i k ≤ 1099511627776
theorem rv_cy (ρ : Rho) : ∃ b : Bool, (b = true → rightV ρ) ∧ hasBody Try.prog 31 = true ∧ ∀ n h, CY Try.prog n 31 (X.denL ρ [.agg (vi 0 9)]) h (.sc (.bool b)) [] := by
  obtain ⟨e, he⟩ : ∃ e, r31 = .ret (.sc (.b e)) := ⟨_, rfl⟩
  have q := askF_ok (c := ⟨cfgL [] (fun _ => []), l_able, []⟩) (f := 31) (args := [.agg (vi 0 9)]) (Φ := []) (cN_ok ρ) l_able_ok (Facts.ok_nil ρ) (by rw [r31_run, he]; exact rfl)
  refine ⟨_, fun hb => ?_, q⟩
  have h2 : T.ret (X.sc (Sc.b e)) = r31 := he.symm
  unfold r31 at h2
  simp only [T.ret.injEq, X.sc.injEq, Sc.b.injEq] at h2
  rw [h2] at hb
  simp only [dnot_t, dor_f, dlt_f, IE.den] at hb
  intro k hk
  obtain ⟨⟨⟨a0, b0⟩, ⟨a1, b1⟩, a2, b2⟩, ⟨⟨a3, b3⟩, ⟨a4, b4⟩, a5, b5⟩, ⟨a6, b6⟩, ⟨a7, b7⟩, a8, b8⟩ := hb
  match k, hk with
  | 0, _ => exact ⟨a0, b0⟩
  | 1, _ => exact ⟨a1, b1⟩
  | 2, _ => exact ⟨a2, b2⟩
  | 3, _ => exact ⟨a3, b3⟩
  | 4, _ => exact ⟨a4, b4⟩
  | 5, _ => exact ⟨a5, b5⟩
  | 6, _ => exact ⟨a6, b6⟩
  | 7, _ => exact ⟨a7, b7⟩
  | 8, _ => exact ⟨a8, b8⟩
theorem nrF_ok {ρ : Rho} {n : Nat} (hv : rightV ρ) (h1 : 1 ≤ ρ.i 9) (h3 : ρ.i 9 ≤ 3) (hn : ρ.len 2 = n) (n1 : 1 ≤ n) (n6 : n ≤ 6) : Facts.ok ρ nrF := by
  refine all_ok (fun p hp => ?_) (Facts.ok_cons (by rw [dlt_f]; exact h1) (Facts.ok_cons (by rw [dlt_f]; exact h3) (Facts.ok_cons (by rw [dlt_f]; simp only [IE.den]; omega) (Facts.ok_cons (by rw [dlt_f]; simp only [IE.den]; omega) (Facts.ok_nil _)))))
  obtain ⟨k, hk, hp⟩ := List.mem_flatMap.1 hp
  have hk := hv k (List.mem_range.1 hk)
  rcases List.mem_cons.1 hp with rfl | hp
  · show (BE.lt (.var k) (.lit 0)).den ρ = false
    rw [dlt_f]; exact hk.1
  · rcases List.mem_cons.1 hp with rfl | hp
    · show (BE.lt (.lit 1099511627776) (.var k)).den ρ = false
      rw [dlt_f]; exact hk.2
    · cases hp
theorem endF_ok {ρ : Rho} {n m gd off len : Nat} {g : Nat → ByteArray} (h : Live ρ n m g m gd off len) : Facts.ok ρ endF := by
  have h1 := h.f.n6; have h2 := h.o; have h3 := h.l; have h4 := h.t.1; have h6 := h.f.en; have h7 := h.f.n1; have h8 := h.gd2; have h9 := h.xg
  have hs : off + len ≤ n := by rcases h.r with ⟨_, q, _⟩ | ⟨_, q, _⟩ <;> omega
  have hm : (IE.op .mul .i64 (.lit 2) (.len 2)).den ρ = 2 * n := by
    show IOp.den .mul .i64 2 (ρ.len 2 : Int) = _
    simp only [IOp.den]; rw [wrap_id _ (by omega) (by omega)]; omega
  refine Facts.ok_cons (by rw [dlt_f]; simp only [IE.den]; omega) (Facts.ok_cons (by rw [dlt_f]; simp only [IE.den]; omega) (Facts.ok_cons (by rw [dlt_f, hm]; show ρ.i 501 ≤ _; omega) (Facts.ok_cons (by rw [dlt_f]; simp only [IE.den]; omega) (Facts.ok_cons (by rw [dlt_f]; simp only [IE.den]; omega) (Facts.ok_cons (by rw [dlt_f]; simp only [IE.den]; omega) (Facts.ok_cons (by rw [dlt_f]; simp only [IE.den]; omega) (Facts.ok_cons ?_ (Facts.ok_nil _))))))))
  rw [deq_t]
  show (ρ.len 505 : Int) = ρ.i 502 + ρ.i 503
  omega
theorem mnA_of {ρ : Rho} (h : LoopOk Try.prog ρ Try.f5.ntmps mn_c mn) (hb : ρ.b 525 = true) : LoopOk Try.prog ρ Try.f5.ntmps mnA_c mnA :=
  one_way h rfl rfl rfl fun e s hs => by
    have : mn_out.sel ρ = some (e, s) := hs
    unfold mn_out at this
    rw [T.sel, if_pos (show (BE.var 525).den ρ = true from hb)] at this
    exact this
theorem mnB_of {ρ : Rho} (h : LoopOk Try.prog ρ Try.f5.ntmps mn_c mn) (hb : ρ.b 525 = false) : LoopOk Try.prog ρ Try.f5.ntmps mnB_c mnB :=
  one_way h rfl rfl rfl fun e s hs => by
    have : mn_out.sel ρ = some (e, s) := hs
    unfold mn_out at this
    rw [T.sel, if_neg (show ¬ (BE.var 525).den ρ = true from by rw [show (BE.var 525).den ρ = ρ.b 525 from rfl, hb]; decide)] at this
    exact this
theorem tru_cy {ρ ρ' : Rho} {f : Nat} {hf : List Nat} {c : Cfg} {Φ : Facts} {args : List X} {t : T X} (cok : CfgOk Try.prog ρ' c) (hk : Facts.ok ρ' Φ) (hrun : askF ⟨c, l_able, hf⟩ f args Φ = t) {x : X} (hs : t.sel ρ' = some x) (hx : x.den ρ' = .sc (.bool true)) (ha : X.denL ρ args = X.denL ρ' args) : ∀ n h, CY Try.prog n f (X.denL ρ args) h (.sc (.bool true)) [] := by
  have q := askF_ok (c := ⟨c, l_able, hf⟩) (f := f) (args := args) (Φ := Φ) cok l_able_ok hk (r := x) (by rw [hrun]; exact hs)
  rw [hx, ← ha] at q
  exact q.2
theorem kys_den {ρ : Rho} {n : Nat} {g : Nat → ByteArray} (h : ρ.len 2 = n) (hg : stR ρ 2 = g) : X.denL ρ [kyR] = [roV n g] := by simp only [X.denL, ky_den, h, hg]
theorem en_cy (ρ : Rho) {n m : Nat} {g : Nat → ByteArray} (hn : ρ.len 2 = n) (hm : ρ.len 3 = m) (hg : stR ρ 2 = g) (bn : n ≤ 8796093022208) (bm : m ≤ 140737488355327) (hz : ∀ j, j < n → (g j).size < 9223372036854775808) : ∀ k hp, CY Try.prog k 5 (X.denL ρ enA) hp (.sc (.bool true)) [] := by
  obtain ⟨b, hb1, hb2⟩ := mu_cy ρ (by omega)
  have k8 : ∀ {b' : Bool}, b = b' → hasBody Try.prog 8 = true ∧ ∀ k hp, CY Try.prog k 8 (X.denL ρ [kyR, anR]) hp (X.den ρ (.sc (.b (.lit b')))) [] := fun e => ⟨hb1, fun k hp => by
    have := hb2 k hp; rw [e] at this; exact this⟩
  have cap : (BE.not (.lt (.lit 8796093022208) (.len 2))).den ρ = true := by rw [dnot_t, dlt_f]; simp only [IE.den]; omega
  cases b with
  | true => exact tru_cy (cK_ok (List.forall_mem_cons.2 ⟨k8 rfl, List.forall_mem_nil _⟩)) (Facts.ok_nil ρ) enM_run (x := .sc (.b (.lit true))) rfl rfl rfl
  | false =>
    obtain ⟨r, hr, hr1, hr2⟩ := right_cy ρ n g (by omega) hn hg
    have k32 : ∀ {r' : Bool}, r = r' → hasBody Try.prog 32 = true ∧ ∀ k hp, CY Try.prog k 32 (X.denL ρ [kyR]) hp (X.den ρ (.sc (.b (.lit r')))) [] := fun e => ⟨hr1, fun k hp => by
      have := hr2 k hp; rw [e] at this; rw [kys_den hn hg]; exact this⟩
    cases r with
    | false => exact tru_cy (cK_ok (List.forall_mem_cons.2 ⟨k8 rfl, List.forall_mem_cons.2 ⟨k32 rfl, List.forall_mem_nil _⟩⟩)) (Facts.ok_nil ρ) enR_run (x := .sc (.b (.lit true))) (sel_need cap rfl) rfl rfl
    | true =>
      obtain ⟨_, n1, n6⟩ := hr.1 rfl
      obtain ⟨v, hv, hv1, hv2⟩ := rv_cy ρ
      have k31 : ∀ {v' : Bool}, v = v' → hasBody Try.prog 31 = true ∧ ∀ k hp, CY Try.prog k 31 (X.denL ρ [.agg (vi 0 9)]) hp (X.den ρ (.sc (.b (.lit v')))) [] := fun e => ⟨hv1, fun k hp => by
        have := hv2 k hp; rw [e] at this; exact this⟩
      cases v with
      | false => exact tru_cy (cK_ok (List.forall_mem_cons.2 ⟨k8 rfl, List.forall_mem_cons.2 ⟨k31 rfl, List.forall_mem_nil _⟩⟩)) (Facts.ok_nil ρ) enN1_run (x := .sc (.b (.lit true))) (sel_need cap rfl) rfl rfl
      | true =>
        by_cases r1 : ρ.i 9 < 1
        · exact tru_cy (cK_ok (List.forall_mem_cons.2 ⟨k8 rfl, List.forall_mem_cons.2 ⟨k31 rfl, List.forall_mem_nil _⟩⟩)) (Facts.ok_cons (by rw [dlt_t]; exact r1) (Facts.ok_nil ρ)) enN2_run (x := .sc (.b (.lit true))) (sel_need cap rfl) rfl rfl
        · by_cases r3 : 3 < ρ.i 9
          · exact tru_cy (cK_ok (List.forall_mem_cons.2 ⟨k8 rfl, List.forall_mem_cons.2 ⟨k31 rfl, List.forall_mem_nil _⟩⟩)) (Facts.ok_cons (by rw [dlt_t]; exact r3) (Facts.ok_nil ρ)) enN3_run (x := .sc (.b (.lit true))) (sel_need cap rfl) rfl rfl
          · have hf : EnF ρ n m g := ⟨hn, hm, hg, n1, n6, by omega, by omega, by omega, hz⟩
            obtain ⟨ρ1, ag1, ⟨l1, c1⟩, L1⟩ := nw_ok ρ n hn n1 n6
            obtain ⟨s, ρ2, ag2, hQ, L2⟩ := mn_ok ρ1 (hf.agree ag1 (by decide)) l1 c1
            have ag : Agree 460 ρ ρ2 := ag1.trans (ag2.le (by decide))
            have L1' : LoopOk Try.prog ρ2 Try.f9.ntmps nw_c nw := LoopOk.agree (B := 500) (by kernel_rfl) (by kernel_rfl) (by kernel_rfl) ag2 L1
            have ha : X.denL ρ enA = X.denL ρ2 enA := X.belL_den ag enA (by kernel_rfl)
            have hks : ∀ p ∈ ksN, hasBody Try.prog p.1 = true ∧ ∀ n h, CY Try.prog n p.1 (X.denL ρ2 p.2.1) h (p.2.2.den ρ2) [] :=
              List.forall_mem_cons.2 ⟨⟨(k8 rfl).1, fun k hp => by
                show CY Try.prog k 8 (X.denL ρ2 [kyR, anR]) hp _ []
                rw [← X.belL_den ag [kyR, anR] (by kernel_rfl)]; exact (k8 rfl).2 k hp⟩, List.forall_mem_cons.2 ⟨⟨(k32 rfl).1, fun k hp => by
                show CY Try.prog k 32 (X.denL ρ2 [kyR]) hp _ []
                rw [← X.belL_den ag [kyR] (by kernel_rfl)]; exact (k32 rfl).2 k hp⟩, List.forall_mem_nil _⟩⟩
            have hv2 : rightV ρ2 := fun k hk => by rw [← ag.i k (by omega)]; exact hv rfl k hk
            have i9 : ρ2.i 9 = ρ.i 9 := (ag.i 9 (by decide)).symm
            have hn2 : ρ2.len 2 = n := by rw [← ag.len 2 (by decide)]; exact hn
            have fr : Facts.ok ρ2 nrF := nrF_ok hv2 (by omega) (by omega) hn2 n1 n6
            match s, hQ with
            | 0, ⟨hb, gd, off, len, h⟩ =>
              have cok := cfgL_ok hks (lpLA_ok L1' (mnA_of L2 hb))
              have nd : (BE.not (.lt (.len 505) (.op .padd .i64 (.var 502) (.var 503)))).den ρ2 = true := n1E_t h
              by_cases hl : len = 0
              · have hgd : n ≤ gd := by rcases h.r with ⟨_, q1, q2⟩ | ⟨_, q1, q2⟩ <;> omega
                have f1 : (BE.lt (.lit 0) (.var 503)).den ρ2 = false := by rw [dlt_f]; show ρ2.i 503 ≤ 0; rw [h.l]; omega
                have f2 : (BE.lt (.var 501) (.len 2)).den ρ2 = false := by rw [dlt_f]; show (ρ2.len 2 : Int) ≤ ρ2.i 501; rw [h.xg, hn2]; omega
                have fk : ∀ {k : Int}, (n : Int) = k → Facts.ok ρ2 ((.eq (.len 2) (.lit k), true) :: (.lt (.lit 0) (.var 503), false) :: (.lt (.var 501) (.len 2), false) :: nrF ++ endF) := fun e => Facts.ok_cons (by rw [deq_t]; simp only [IE.den, hn2]; exact e) (Facts.ok_cons f1 (Facts.ok_cons f2 (all_ok fr (endF_ok h))))
                have hx : X.den ρ2 (.sc (.b (.not (.lt (.var 501) (.len 2))))) = .sc (.bool true) := by
                  have : (BE.not (.lt (.var 501) (.len 2))).den ρ2 = true := by rw [dnot_t]; exact f2
                  simp only [X.den, Sc.den, this]
                have hn6 : n = 1 ∨ n = 2 ∨ n = 3 ∨ n = 4 ∨ n = 5 ∨ n = 6 := by omega
                rcases hn6 with e | e | e | e | e | e
                · exact tru_cy cok (fk (k := 1) (by omega)) enA21_run (sel_need nd rfl) hx ha
                · exact tru_cy cok (fk (k := 2) (by omega)) enA22_run (sel_need nd rfl) hx ha
                · exact tru_cy cok (fk (k := 3) (by omega)) enA23_run (sel_need nd rfl) hx ha
                · exact tru_cy cok (fk (k := 4) (by omega)) enA24_run (sel_need nd rfl) hx ha
                · exact tru_cy cok (fk (k := 5) (by omega)) enA25_run (sel_need nd rfl) hx ha
                · exact tru_cy cok (fk (k := 6) (by omega)) enA26_run (sel_need nd rfl) hx ha
              · exact tru_cy cok (Facts.ok_cons (by rw [dlt_t]; show 0 < ρ2.i 503; rw [h.l]; omega) (all_ok fr (endF_ok h))) enA1_run (x := .sc (.b (.lit true))) (sel_need nd rfl) rfl ha
            | s + 1, ⟨hb, gd, h⟩ =>
              have hmu : (IE.op .mul .i64 (.lit 2) (.len 2)).den ρ2 = 2 * n := by
                show IOp.den .mul .i64 2 (ρ2.len 2 : Int) = _
                rw [hn2]; simp only [IOp.den]; rw [wrap_id _ (by omega) (by omega)]
              have := h.le
              exact tru_cy (cfgL_ok hks (lpLB_ok L1' (mnB_of L2 hb))) (Facts.ok_cons (by rw [dlt_f, hmu]; show ρ2.i 501 ≤ _; rw [h.xg]; omega) (Facts.ok_cons (by rw [deq_t]; exact h.c) fr)) enB_run (x := .sc (.b (.lit true))) rfl rfl ha
/-! ### The law's arguments -/
def enSh : List Sh := [.flat (List.replicate 9 (.i .i64)) true, .flat [.i .i64] false, .sl [.s], .sl ka]
theorem sl_sizes {W : World} {v : Value} {j : Nat} (h : Fits W (.sl [.s]) v) (vs : List Value) (cells : List Value) (zs : List Nat) (hv : vs[j]? = some v) (hz : zs[j]? = some 1) : ∀ k, k < (mkR W cells vs zs).len j → (stR (mkR W cells vs zs) j k).size < 9223372036854775808 := by
  obtain ⟨_, A, len, cap, rfl, _, h⟩ := h
  intro k hk
  have hk : k < len := by
    have : (mkR W cells vs zs).len j = len := by simp only [mkR, hv, lenO]
    omega
  obtain ⟨a, rfl, _, h⟩ := h (by omega)
  obtain ⟨cs, ⟨v, r, rfl, ⟨s, rfl, hs⟩, _⟩, hc⟩ := h k hk
  have h0 := hc 0 (by decide)
  simp only [List.length_cons, List.length_nil, List.getElem?_cons_zero] at h0
  show (strO (rowCell W vs zs j 0 k)).size < _
  have : rowCell W vs zs j 0 k = some (.string s) := by
    unfold rowCell
    rw [hv, hz]
    exact h0
  rw [this]
  show s.size < _
  have : maxLen = 9223372036854775807 := rfl
  omega
theorem sl_len {W : World} {v : Value} {j : Nat} {ks : List Kd} (h : Fits W (.sl ks) v) (vs : List Value) (cells : List Value) (zs : List Nat) (hv : vs[j]? = some v) : ∃ A len cap, v = .slice A len cap ∧ (mkR W cells vs zs).len j = len := by
  obtain ⟨_, A, len, cap, rfl, _, _⟩ := h
  exact ⟨A, len, cap, rfl, by simp only [mkR, hv, lenO]⟩
theorem en_law (W : World) (vs : List Value) (hl : enSh.length = vs.length) (hf : ∀ (i : Nat) (sh : Sh) (v : Value), enSh[i]? = some sh → vs[i]? = some v → Fits W sh v) (hs : Short Try.prog Try.f5.params.toList vs) : CY Try.prog 0 5 (X.denL (mkR W (plain enSh vs) vs (enSh.map shZ)) (pats 0 0 enSh)) [] (.sc (.bool true)) [] := by
  match vs, hl with
  | [v0, v1, v2, v3], _ =>
    have f2 := hf 2 (.sl [.s]) v2 rfl rfl
    have f3 := hf 3 (.sl ka) v3 rfl rfl
    have hz := sl_sizes (j := 2) f2 [v0, v1, v2, v3] (plain enSh [v0, v1, v2, v3]) (enSh.map shZ) rfl rfl
    obtain ⟨A2, n, c2, e2, l2⟩ := sl_len (j := 2) f2 [v0, v1, v2, v3] (plain enSh [v0, v1, v2, v3]) (enSh.map shZ) rfl
    obtain ⟨A3, m, c3, e3, l3⟩ := sl_len (j := 3) f3 [v0, v1, v2, v3] (plain enSh [v0, v1, v2, v3]) (enSh.map shZ) rfl
    have s2 := hs 2 25 9 A2 n c2 (by kernel_rfl) (by rw [e2]; rfl) (by kernel_rfl)
    have s3 := hs 3 26 47 A3 m c3 (by kernel_rfl) (by rw [e3]; rfl) (by kernel_rfl)
    have b2 : Try.prog.bytesOf 9 = 16 := by kernel_rfl
    have b3 : Try.prog.bytesOf 47 = 216 := by kernel_rfl
    have rb : reachBytes = 140737488351232 := rfl
    rw [b2, rb] at s2
    rw [b3, rb] at s3
    show CY Try.prog 0 5 (X.denL _ enA) [] _ []
    exact en_cy _ (n := n) (m := m) l2 l3 rfl (by omega) (by omega) (by rw [← l2]; exact hz) 0 []
end Go.Proofs.Ytdlifdoglhhnfaa
