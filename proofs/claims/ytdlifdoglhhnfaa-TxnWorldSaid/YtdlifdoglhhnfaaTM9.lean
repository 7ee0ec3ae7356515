/- Parts of the proof, one behind the other. -/
import Derived.Test.YtdlifdoglhhnfaaTM8
/- Txn: TxnWorld: the main loop's rounds. -/
namespace Go.Proofs.Ytdlifdoglhhnfaa
open Go Go.Proofs.Aw Go.Proofs.Xw Go.Proofs.Sr
set_option maxRecDepth 100000
variable {N n : Nat} {W : Nat → List AV} {m : Int} {g : Nat → ByteArray}
def MnR (N : Nat) (W : Nat → List AV) (m : Int) (n : Nat) (g : Nat → ByteArray) (ρ ρ' : Rho) : Prop := Agree 500 ρ ρ' ∧ ∃ i t kk, Mh n ρ' i t kk ∧ (P1 N W m n g ρ' i t kk ∨ P2 N W n g ρ' i t kk)
theorem nE_bel {r : Nat} (h : r < 3) : (nE r).bel 520 = true := forB (p := fun r => (nE r).bel 520) (by kernel_rfl) h
theorem mT_ge {s : Nat} (h : s < 2) : (mn_T s).ge 500 = true := forB (p := fun s => (mn_T s).ge 500) (by kernel_rfl) h
theorem kRd_bel {r : Nat} (h : r < 3) : X.belL 770 (kRd false r (nE r) ansX).2.1 = true ∧ (kRd false r (nE r) ansX).2.2.bel 770 = true :=
  ⟨forB (p := fun r => X.belL 770 (kRd false r (nE r) ansX).2.1) (by kernel_rfl) h, forB (p := fun r => (kRd false r (nE r) ansX).2.2.bel 770) (by kernel_rfl) h⟩
/-- A round leads on. -/
def MnGo (N : Nat) (W : Nat → List AV) (m : Int) (n : Nat) (g : Nat → ByteArray) (ρ ρ' : Rho) (i : Nat) : Prop := ∃ ρ2, StepF Try.prog Try.f6.ntmps mn_c 0 mn_S mn_S ρ' ρ2 ∧ MnR N W m n g ρ ρ2 ∧ ρ2.i 500 = ((i + 1 : Nat) : Int) ∧ Agree 500 ρ' ρ2
/-- In the first round. -/
theorem mn_r1 {ρ ρ' : Rho} {i t kk : Nat} (k : Wk N W m n g) (L : Lt N W m n g ρ') (ag : Agree 500 ρ ρ') (H : Mh n ρ' i t kk) (h : P1 N W m n g ρ' i t kk) : MnGo N W m n g ρ ρ' i := by
  obtain ⟨rd, rfl, ht, k1, hV, hx, hF⟩ := h
  have n6 := k.n6
  have i2 : i < 2 * n := by omega
  obtain ⟨jj, hj, hjn, hc⟩ := H.key k1
  have hjt : jj = i := by have := hx i (by omega); omega
  subst hjt
  obtain ⟨r, hr⟩ : ∃ r, rgK m (g jj) = r := ⟨_, rfl⟩
  have r3 : r < 3 := by rw [← hr]; exact (k.rg (g jj)).2
  obtain ⟨_, p, hp, hpl⟩ := n_rng k L r3
  obtain ⟨c, hcol, hb, _, hcy⟩ := rdW k false (g jj) r3 hpl (V := fun _ => 0) (fun _ _ => Int.le_refl _)
  have hcy := hcy (fun h => by cases h)
  rw [sn_f] at hcy
  generalize ho : grW (g jj) ((List.range p).map (lg W N r)) = o at hcy
  have how : ∀ b, o = some b → ∃ j, j < N ∧ b = W j := fun b hb => by
    rw [← ho, ← sn_f (fun _ => 0)] at hb
    exact (gr_w hpl hb).1
  have kw : ∀ b, o = some b → Kw b := fun b hb => by obtain ⟨j, hj, rfl⟩ := how b hb; exact k.kw j hj
  have a1 : Agree 520 ρ' (putR ρ' r o c) := putR_agree ρ' r o c
  have row := upd_row (ρ := ρ') (r := r) (c := c) kw (jj := jj) (by rw [← IE.bel_den a1 tdE (by kernel_rfl)]; exact hj)
  have ks : ∀ q ∈ [kOf, kRd false r (nE r) ansX], hasBody Try.prog q.1 = true ∧ ∀ h hp, CY Try.prog h q.1 (X.denL (putR ρ' r o c) q.2.1) hp (q.2.2.den (putR ρ' r o c)) [] := by
    have L1 := L.agree a1 (by decide)
    have j1 : tdE.den (putR ρ' r o c) = jj := by rw [← IE.bel_den a1 tdE (by kernel_rfl)]; exact hj
    have bl : (nE r).bel 520 = true := nE_bel r3
    refine List.forall_mem_cons.2 ⟨?_, List.forall_mem_cons.2 ⟨?_, List.forall_mem_nil _⟩⟩
    · exact kOf_cy k L1 j1 hjn (by rw [hr]; rfl)
    · exact kRd_ok (kRd_args (V := fun _ => 0) L1 j1 r3 rfl (fun h => by cases h) (by rw [← IE.bel_den a1 (nE r) bl]; exact hp) hpl) (putR_ans kw) hb hcy
  have newF : F1 N W m g jj (anL o c) := ⟨o, c, p, by rw [hr]; exact hpl, by rw [hr]; exact hcol, by rw [hr]; exact ho.symm, rfl⟩
  have fx : ∀ {ρ1 : Rho}, Agree 750 (putR ρ' r o c) ρ1 → Facts.ok ρ1 (rdF 1 r ++ (nF r ++ mnF)) := fun {ρ1} a => by
    have a2 : Agree 520 ρ' ρ1 := a1.trans (a.le (by decide))
    have L1 := L.agree a2 (by decide)
    have H1 := H.agree a2 (by decide)
    exact all_ok (rdF_ok k L1 r3 (by rw [← a2.i 519 (by decide)]; exact rd) (by rw [← a.i 520 (by decide)]; rfl)) (all_ok (n_rng k L1 r3).1 (mnF_ok k H1 L1.n2 i2 k1))
  by_cases k2 : 2 ≤ kk
  · -- not the last one
    have H1 := H.agree a1 (by decide)
    have a2 : Agree 500 (putR ρ' r o c) (mn_B.ap (putR ρ' r o c)) := Bind.agree (by kernel_rfl) _
    have fs : Facts.ok (putR ρ' r o c) (rdF 1 r ++ (nF r ++ ((.lt (.lit 1) (.var 503), true) :: mnF))) := by
      have f := fx (Agree.refl _ _)
      intro q hq
      rcases List.mem_append.1 hq with h | h
      · exact f q (List.mem_append_left _ h)
      · rcases List.mem_append.1 h with h | h
        · exact f q (List.mem_append_right _ (List.mem_append_left _ h))
        · rcases List.mem_cons.1 h with rfl | h
          · show (BE.lt (.lit 1) (.var 503)).den _ = true
            rw [dlt_t]; simp only [IE.den, H1.hk]; omega
          · exact f q (List.mem_append_right _ (List.mem_append_right _ h))
    have H2 := mB_h H1 n6 i2 k1
    refine ⟨mn_B.ap (putR ρ' r o c), goH (forB mn_1 r3) mn_fit (XS.bel_den a1 _ mn_Sb) (cK_ok ks) (LpsOk.nil _ _ _ _) fs, ⟨ag.trans ((a1.le (by decide)).trans a2), _, _, _, H2, .inl ⟨?_, rfl, by omega, by omega, fun p hp => ?_, fun x hx' => ?_, fun j hj' => ?_⟩⟩, H2.hi, (a1.le (by decide)).trans a2⟩
    · rw [mB_rd, ← a1.i 519 (by decide)]; exact rd
    · rw [mB_cut _ hp, ← a1.i _ (by omega)]; exact hV p hp
    · rw [mB_td, ← a1.ci 505 (by decide)]; exact hx x hx'
    · rw [mB_row, row]
      by_cases q : j = jj
      · subst q; rw [if_pos rfl]; exact newF
      · rw [if_neg q]; exact hF j (by omega)
  · -- the turn
    have kk1 : kk = 1 := by omega
    subst kk1
    have L1 := L.agree a1 (by decide)
    have all : ∀ j, ∃ u : Option (List AV) × (Nat → Int), j < n → (∃ p, p ≤ (Lr W N (rgK m (g j))).length ∧ Col (lg W N (rgK m (g j))) p u.2 ∧ u.1 = grW (g j) ((List.range p).map (lg W N (rgK m (g j))))) ∧ kcells ((RL.upd tdE anS (.var 504 kaW)).row (putR ρ' r o c) j) 0 kaW = anL u.1 u.2 := fun j => by
      by_cases q : j < n
      · by_cases e : j = jj
        · subst e
          obtain ⟨o', c', p', h1, h2, h3, h4⟩ := newF
          exact ⟨(o', c'), fun _ => ⟨⟨p', h1, h2, h3⟩, by rw [row, if_pos rfl]; exact h4⟩⟩
        · obtain ⟨o', c', p', h1, h2, h3, h4⟩ := hF j (by omega)
          exact ⟨(o', c'), fun _ => ⟨⟨p', h1, h2, h3⟩, by rw [row, if_neg e]; exact h4⟩⟩
      · exact ⟨(none, fun _ => 0), fun h => absurd h q⟩
    obtain ⟨u, hu⟩ := Classical.axiomOfChoice all
    have An_ : An N W (fun j => (u j).1) n := ⟨fun j hj b hb => by
      obtain ⟨⟨p', h1, _, h3⟩, _⟩ := hu j hj
      have hb : (u j).1 = some b := hb
      rw [h3, ← sn_f (fun _ => 0)] at hb
      exact (gr_w h1 hb).1⟩
    have vz : Vg W N (vA (putR ρ' r o c) 510) := Vg.zero k.wd fun x y hx hy => by
      show (putR ρ' r o c).i (510 + (3 * x + y)) = 0
      rw [← a1.i _ (by omega)]; exact hV _ (by omega)
    obtain ⟨ρ2, b2, ⟨rows2, v2, hd2⟩, lp1⟩ := t1_ok (o := fun j => (u j).1) (c := fun j => (u j).2) k L1 An_ (fun j hj => (hu j hj).2) vz
    have L2 := L1.agree b2 (by decide)
    have H1 := H.agree a1 (by decide)
    have H2 := H1.agree b2 (by decide)
    have jt := H.lb
    obtain ⟨s, ρ3, b3, ⟨hs, tr⟩, lp2⟩ := t2_ok (o := fun j => (u j).1) (c := fun j => (u j).2) k L2 An_ rows2 (t := jj) (by omega) H2.ht H2.hk H2.l
    have b13 : Agree 770 (putR ρ' r o c) ρ3 := b2.trans (b3.le (by decide))
    have lp1' : LoopOk Try.prog ρ3 Try.f34.ntmps t1_c t1 := LoopOk.agree (B := 800) (by kernel_rfl) rfl (by kernel_rfl) b3 lp1
    have H3 := H1.agree b13 (by decide)
    have ks3 : ∀ q ∈ [kOf, kRd false r (nE r) ansX], hasBody Try.prog q.1 = true ∧ ∀ h hp, CY Try.prog h q.1 (X.denL ρ3 q.2.1) hp (q.2.2.den ρ3) [] := fun q hq => by
      have h := ks q hq
      have bl : X.belL 770 q.2.1 = true ∧ q.2.2.bel 770 = true := by
        rcases List.mem_cons.1 hq with rfl | hq
        · exact ⟨by kernel_rfl, by kernel_rfl⟩
        · rcases List.mem_cons.1 hq with rfl | hq
          · exact kRd_bel r3
          · cases hq
      rw [← X.belL_den b13 _ bl.1, ← X.bel_den b13 _ bl.2]
      exact h
    have a2 : Agree 500 ρ3 ((mn_T s).ap ρ3) := Bind.agree (mT_ge hs) _
    have fs : Facts.ok ρ3 (mn_G r) := by
      have f := fx (b13.le (by decide))
      intro q hq
      rcases List.mem_append.1 hq with h | h
      · exact f q (List.mem_append_left _ h)
      · rcases List.mem_append.1 h with h | h
        · exact f q (List.mem_append_right _ (List.mem_append_left _ h))
        · rcases List.mem_cons.1 h with rfl | h
          · show (BE.eq (.var 503) (.lit 1)).den _ = true
            rw [deq_t]; exact H3.hk
          · exact f q (List.mem_append_right _ (List.mem_append_right _ h))
    have hi2 : ((mn_T s).ap ρ3).i 500 = ((jj + 1 : Nat) : Int) := inc H3.hi (by omega)
    have cutp : ∀ p, p < 9 → ((mn_T s).ap ρ3).i (510 + p) = ρ2.i (772 + p) := fun p hp => by rw [mT_cut _ s hp, ← b3.i _ (by omega)]
    have vT : Vg W N (vA ((mn_T s).ap ρ3) 510) := v2.same k.wd fun x y hx hy => cutp _ (by omega)
    have snT : sn true (vC ((mn_T s).ap ρ3)) N W = sn true (fun p => ρ2.i (772 + p)) N W := by
      unfold sn
      refine List.filter_congr fun e he => ?_
      obtain ⟨j, hj, rfl⟩ := List.mem_map.1 he
      have hj := List.mem_range.1 hj
      have d3 : eD (W j) < 3 := k.wd.d j hj
      have r3 : eR (W j) < 3 := k.wd.r j hj
      unfold had vC
      rw [cutp _ (by omega)]
    have fin : ∀ j, j < n → CvK m g (fun p => ρ2.i (772 + p)) (fun j => (u j).2) j → F2 N W g (vC ((mn_T s).ap ρ3)) j (ra_ ((mn_T s).ap ρ3) 504 j) := fun j hj hcv => by
      obtain ⟨⟨p', h1, h2, h3⟩, _⟩ := hu j hj
      refine ⟨(u j).2, ?_⟩
      rw [mT_row, ra_agree b3 (by decide), rows2 j hj, snT, ← fin_1 (V := fun p => ρ2.i (772 + p)) k.wd h1 h2 hcv k.rk (fun b hb => hd2 j hj b (h3.trans hb)), ← h3]
    refine ⟨(mn_T s).ap ρ3, goH (forB (forB mn_4 hs) r3) mn_fit (XS.bel_den (a1.trans (b13.le (by decide))) _ mn_Sb) (cfgL_ok ks3 (lpT_ok lp1' lp2)) (LpsOk.nil _ _ _ _) fs, ⟨ag.trans ((a1.le (by decide)).trans ((b13.le (by decide)).trans a2)), ?_⟩, hi2, (a1.le (by decide)).trans ((b13.le (by decide)).trans a2)⟩
    by_cases s0 : s = 0
    · subst s0
      have td : ∀ x, ((mn_T 0).ap ρ3).ci 505 0 x = ρ3.ci 505 0 x := fun x => by
        have rr : lassoc 505 (mn_T 0).r = some (.len 505, .var 505 [.i .i64]) := rfl
        rw [ap_ci rr, row_i]
      refine ⟨jj + 1, jj + 1, 0, ⟨hi2, ?_, ?_, ?_, by omega, fun x hx => ?_⟩, .inr ⟨vT, .inl rfl, fun j hj => .inr (fin j hj (tr j hj))⟩⟩
      · show ρ3.i 502 + 1 = _; rw [H3.ht]; omega
      · show ρ3.i 503 - 1 = _; rw [H3.hk]; rfl
      · have rr : lassoc 505 (mn_T 0).r = some (.len 505, .var 505 [.i .i64]) := rfl
        rw [ap_len rr]
        show ((ρ3.len 505 : Int)).toNat = _
        rw [H3.l]; omega
      · rw [td]; exact H3.c x (by omega)
    · have s1 : s = 1 := by omega
      subst s1
      unfold t2R at tr
      rw [if_neg s0] at tr
      obtain ⟨k8, g1, g2, ⟨g3, g4⟩, g5⟩ := tr
      have rr : lassoc 505 (mn_T 1).r = some (.len 801, .var 801 [.i .i64]) := rfl
      have td : ∀ x, ((mn_T 1).ap ρ3).ci 505 0 x = ρ3.ci 801 0 x := fun x => by rw [ap_ci rr, row_i]
      refine ⟨jj + 1, 0, k8, ⟨hi2, rfl, ?_, ?_, by omega, fun x hx => ?_⟩, .inr ⟨vT, .inr ⟨rfl, by omega⟩, fun j hj => ?_⟩⟩
      · show (ρ3.len 801 : Int) = _; rw [g3]
      · rw [ap_len rr]
        show ((ρ3.len 801 : Int)).toNat = _
        rw [g3]; omega
      · rw [td]; exact g4 x (by omega)
      · rcases g5 j hj with q | ⟨x, x1, x2⟩
        · exact .inr (fin j hj q)
        · exact .inl ⟨x, Nat.zero_le _, by omega, by rw [td]; exact x2⟩
/-- In the second round. -/
theorem mn_r2 {ρ ρ' : Rho} {i t kk : Nat} (k : Wk N W m n g) (L : Lt N W m n g ρ') (ag : Agree 500 ρ ρ') (H : Mh n ρ' i t kk) (h : P2 N W n g ρ' i t kk) (k1 : 1 ≤ kk) : MnGo N W m n g ρ ρ' i := by
  obtain ⟨vg, hk, hF⟩ := h
  obtain ⟨rd, rfl⟩ : ρ'.i 519 = 2 ∧ i = n + t := hk.resolve_left (by omega)
  have n6 := k.n6
  have lb := H.lb
  have i2 : n + t < 2 * n := by omega
  obtain ⟨jj, hj, hjn, hc⟩ := H.key k1
  obtain ⟨r, hr⟩ : ∃ r, rgK m (g jj) = r := ⟨_, rfl⟩
  have r3 : r < 3 := by rw [← hr]; exact (k.rg (g jj)).2
  obtain ⟨_, p, hp, hpl⟩ := n_rng k L r3
  have v0 : ∀ y, y < 9 → 0 ≤ vC ρ' y := fun y hy => by
    have := vg.nn (y / 3) (y % 3) (by omega) (by omega)
    have e : vA ρ' 510 (y / 3) (y % 3) = ρ'.i (510 + y) := by unfold vA; congr 1; omega
    rw [e] at this; exact this
  have hrk : ∀ j, j < N → eK (W j) = g jj → eR (W j) = r := fun j h1 h2 => by rw [← hr]; exact k.rk j h1 h2
  have bl : (nE r).bel 520 = true := nE_bel r3
  -- what follows from the answer
  have go : ∀ {p' : Nat} {c : Nat → Int}, p' ≤ (Lr W N r).length → Col (lg W N r) p' c → (∀ x, x < 3 → vC ρ' (3 * x + r) ≤ c x) →
      (∀ o : Option (List AV), o = grW (g jj) (sn true (vC ρ') p' (lg W N r)) → (∀ b, o = some b → Kw b) → Lt N W m n g (putR ρ' r o c) → tdE.den (putR ρ' r o c) = jj → (∀ x, x < 9 → (putR ρ' r o c).i (510 + x) = vC ρ' x) → (nE r).den (putR ρ' r o c) = p → ∃ ks, (∀ q ∈ ks, hasBody Try.prog q.1 = true ∧ ∀ h hp, CY Try.prog h q.1 (X.denL (putR ρ' r o c) q.2.1) hp (q.2.2.den (putR ρ' r o c)) []) ∧ goB 0 500 mn_B [] mn_S (runH (kOf :: (ks ++ [kPs, kCv])) (fun _ => []) 6 0 [] mn_c mn_ks (rdF 2 r ++ (nF r ++ mnF)) mn_S) = true) → MnGo N W m n g ρ ρ' (n + t) := fun {p' c} hp' hcol cv hks => by
    generalize ho : grW (g jj) (sn true (vC ρ') p' (lg W N r)) = o at hks
    have how : ∀ b, o = some b → (∃ j, j < N ∧ b = W j) ∧ had (vC ρ') b = true := fun b hb => by
      rw [← ho] at hb
      have := gr_w hp' hb
      exact ⟨this.1, this.2 rfl⟩
    have kw : ∀ b, o = some b → Kw b := fun b hb => by obtain ⟨⟨j, hj, rfl⟩, _⟩ := how b hb; exact k.kw j hj
    have a1 : Agree 520 ρ' (putR ρ' r o c) := putR_agree ρ' r o c
    have L1 := L.agree a1 (by decide)
    have j1 : tdE.den (putR ρ' r o c) = jj := by rw [← IE.bel_den a1 tdE (by kernel_rfl)]; exact hj
    have row := upd_row (ρ := ρ') (r := r) (c := c) kw j1
    obtain ⟨ks, hks, hrun⟩ := hks o rfl kw L1 j1 (fun x hx => (a1.i _ (by omega)).symm) (by rw [← IE.bel_den a1 (nE r) bl]; exact hp)
    have hks : ∀ q ∈ kOf :: (ks ++ [kPs, kCv]), hasBody Try.prog q.1 = true ∧ ∀ h hp, CY Try.prog h q.1 (X.denL (putR ρ' r o c) q.2.1) hp (q.2.2.den (putR ρ' r o c)) [] := fun q hq => by
      rcases List.mem_cons.1 hq with rfl | hq
      · exact kOf_cy k L1 j1 hjn (by rw [hr]; rfl)
      · rcases List.mem_append.1 hq with hq | hq
        · exact hks q hq
        · rcases List.mem_cons.1 hq with rfl | hq
          · exact kPs_ok k fun b hb => (how b hb).1
          · rcases List.mem_cons.1 hq with rfl | hq
            · exact kCv_ok vg how
            · cases hq
    have H1 := H.agree a1 (by decide)
    have a2 : Agree 500 (putR ρ' r o c) (mn_B.ap (putR ρ' r o c)) := Bind.agree (by kernel_rfl) _
    have fs : Facts.ok (putR ρ' r o c) (rdF 2 r ++ (nF r ++ mnF)) :=
      all_ok (rdF_ok k L1 r3 (by rw [← a1.i 519 (by decide)]; exact rd) rfl) (all_ok (n_rng k L1 r3).1 (mnF_ok k H1 L1.n2 i2 k1))
    have H2 := mB_h H1 n6 i2 k1
    have cutp : ∀ p, p < 9 → (mn_B.ap (putR ρ' r o c)).i (510 + p) = ρ'.i (510 + p) := fun p hp => by rw [mB_cut _ hp, ← a1.i _ (by omega)]
    have snT : sn true (vC (mn_B.ap (putR ρ' r o c))) N W = sn true (vC ρ') N W := by
      unfold sn
      refine List.filter_congr fun e he => ?_
      obtain ⟨j, hj, rfl⟩ := List.mem_map.1 he
      have hj := List.mem_range.1 hj
      have d3 : eD (W j) < 3 := k.wd.d j hj
      have r3 : eR (W j) < 3 := k.wd.r j hj
      unfold had vC
      rw [cutp _ (by omega)]
    refine ⟨mn_B.ap (putR ρ' r o c), goH hrun mn_fit (XS.bel_den a1 _ mn_Sb) (cK_ok hks) (LpsOk.nil _ _ _ _) fs, ⟨ag.trans ((a1.le (by decide)).trans a2), _, _, _, H2, .inr ⟨vg.same k.wd fun x y hx hy => cutp _ (by omega), .inr ⟨?_, by omega⟩, fun j hj' => ?_⟩⟩, H2.hi, (a1.le (by decide)).trans a2⟩
    · rw [mB_rd, ← a1.i 519 (by decide)]; exact rd
    · by_cases q : j = jj
      · subst q
        refine .inr ⟨c, ?_⟩
        rw [mB_row, row, if_pos rfl, snT, ← fin_2 (V := vC ρ') k.wd hp' hcol cv hrk, ho]
      · rcases hF j hj' with ⟨x, x1, x2, x3⟩ | h
        · refine .inl ⟨x, ?_, by omega, by rw [mB_td, ← a1.ci 505 (by decide)]; exact x3⟩
          by_cases e : x = t
          · subst e; omega
          · omega
        · refine .inr ?_
          obtain ⟨c', hc'⟩ := h
          exact ⟨c', by rw [mB_row, row, if_neg q, snT]; exact hc'⟩
  obtain ⟨c, hcol, hb, hbh, hcy⟩ := rdW k true (g jj) r3 hpl (V := vC ρ') v0
  by_cases cv : ∀ x, x < 3 → vC ρ' (3 * x + r) ≤ c x
  · refine go hpl hcol cv fun o ho kw L1 j1 v1 p1 => ⟨[kRd true r (nE r) ansX], List.forall_mem_cons.2 ⟨?_, List.forall_mem_nil _⟩, forB mn_2 r3⟩
    exact kRd_ok (kRd_args (V := vC ρ') L1 j1 r3 rfl (fun _ => v1) p1 hpl) (putR_ans kw) hb (by rw [ho]; exact hcy fun _ => cv)
  · obtain ⟨x, hx⟩ := Classical.not_forall.1 cv
    obtain ⟨hx3, hx⟩ := Classical.not_imp.1 hx
    have hbh := hbh rfl ⟨x, hx3, by omega⟩
    obtain ⟨c2, hcol2, hb2, _, hcy2⟩ := rdW k true (g jj) r3 (Nat.le_refl _) (V := vC ρ') v0
    have cv2 : ∀ x, x < 3 → vC ρ' (3 * x + r) ≤ c2 x := col_all (V := vC ρ') vg hcol2 r3
    refine go (Nat.le_refl _) hcol2 cv2 fun o ho kw L1 j1 v1 p1 => ⟨[kRd true r (nE r) bhX, kRd true r (.len (411 + r)) ansX], List.forall_mem_cons.2 ⟨?_, List.forall_mem_cons.2 ⟨?_, List.forall_mem_nil _⟩⟩, forB mn_3 r3⟩
    · exact kRd_ok (kRd_args (V := vC ρ') L1 j1 r3 rfl (fun _ => v1) p1 hpl) (av := bhV) (by rfl) hb hbh
    · exact kRd_ok (kRd_args (V := vC ρ') L1 j1 r3 rfl (fun _ => v1) (by simp only [IE.den]; rw [L1.ll r r3]) (Nat.le_refl _)) (putR_ans kw) hb2 (by rw [ho]; exact hcy2 fun _ => cv2)
theorem mn_ok {ρ : Rho} (k : Wk N W m n g) (L : Lt N W m n g ρ) (l1 : ρ.len 461 = n) (l2 : ∀ x, x < n → ρ.ci 461 0 x = x) : ∃ ρf, Agree 500 ρ ρf ∧ MnQ N W n g ρf ∧ LoopOk Try.prog ρf Try.f6.ntmps mn_c mn := by
  suffices hh : ∃ (_ : Nat) (ρf : Rho), Agree mn.n ρ ρf ∧ MnQ N W n g ρf ∧ LoopOk Try.prog ρf Try.f6.ntmps mn_c mn by
    obtain ⟨_, ρf, h1, h2, h3⟩ := hh
    exact ⟨ρf, h1, h2, h3⟩
  have a0 : Agree 500 ρ (mn_I.ap ρ) := Bind.agree (by kernel_rfl) ρ
  have n6 := k.n6
  have n1 := k.n1
  have rr : lassoc 505 mn_I.r = some (.len 461, .var 461 [.i .i64]) := rfl
  have td : ∀ x, (mn_I.ap ρ).ci 505 0 x = ρ.ci 461 0 x := fun x => by rw [ap_ci rr, row_i]
  have l5 : (mn_I.ap ρ).len 505 = n := by
    rw [ap_len rr]
    show ((ρ.len 461 : Int)).toNat = _
    rw [l1]; omega
  refine loopOk_famE (L := mn) (N := Try.f6.ntmps) (body := mn_c) (P := Try.prog) rfl mn_Eb (fun _ => mn_S) (fun _ => MnR N W m n g ρ) (fun _ => MnQ N W n g) (fun _ ρ' => (12 - ρ'.i 500).toNat) ?_
    ⟨0, mn_I.ap ρ, a0, ⟨a0, 0, 0, n, ⟨rfl, rfl, by show (ρ.len 461 : Int) = _; rw [l1], by rw [l5]; omega, by omega, fun x hx => by rw [td, l2 x (by omega)]; omega⟩, .inl ⟨rfl, rfl, by omega, n1, fun p hp => forM (n := 9) (f := fun p => (mn_I.ap ρ).i (510 + p)) (g := fun _ => 0) (by kernel_rfl) hp, fun x hx => by rw [td]; exact l2 x hx, fun j hj => absurd hj (by omega)⟩⟩, fun E _ hE => okS_imp hE mn_ent ρ⟩
  rintro _ ρ' ⟨ag, i, t, kk, H, hP⟩
  have L' := L.agree ag (by decide)
  have lb := H.lb
  have next : i < 2 * n → MnGo N W m n g ρ ρ' i → ∃ i' ρ2, StepF Try.prog Try.f6.ntmps mn_c mn.k0 mn_S mn_S ρ' ρ2 ∧ MnR N W m n g ρ ρ2 ∧ (12 - ρ2.i 500).toNat < (12 - ρ'.i 500).toNat ∧ Agree mn.n ρ' ρ2 := fun hi ⟨ρ2, h1, h2, h3, h4⟩ => ⟨(0 : Nat), ρ2, h1, h2, by rw [h3, H.hi]; omega, h4⟩
  rcases hP with h | h
  · exact .inr (next (by obtain ⟨_, _, _, _, _⟩ := h; omega) (mn_r1 k L' ag H h))
  · by_cases k0 : kk = 0
    · subst k0
      obtain ⟨vg, hk, hF⟩ := h
      have Q : MnQ N W n g ρ' := ⟨t, H.ht, H.hk, H.l, vg, fun j hj => (hF j hj).resolve_left (fun ⟨x, x1, x2, _⟩ => by omega)⟩
      refine .inl ⟨ρ', Agree.refl _ _, Q, rfl, ?_⟩
      by_cases i2 : i < 2 * n
      · refine endH mn_d mn_fit (cN_ok _) (LpsOk.nil _ _ _ _) (Facts.ok_cons ?_ (Facts.ok_cons ?_ (Facts.ok_cons ?_ (Facts.ok_cons ?_ (Facts.ok_cons ?_ (Facts.ok_nil _)))))) rfl
        · rw [dlt_t]; simp only [IE.den, IOp.den, H.hi, L'.n2]; rw [wrap_id _ (by omega) (by omega)]; omega
        · rw [dlt_f]; simp only [IE.den, H.hk]; omega
        · rw [dlt_f]; simp only [IE.den, H.hk]; omega
        · rw [dlt_f]; simp only [IE.den, H.ht]; omega
        · rw [dlt_f]; simp only [IE.den, IOp.den, H.ht, H.hk, H.l]; omega
      · refine endH mn_x mn_fit (cN_ok _) (LpsOk.nil _ _ _ _) (Facts.ok_cons ?_ (Facts.ok_nil _)) rfl
        rw [dlt_f]; simp only [IE.den, IOp.den, H.hi, L'.n2]; rw [wrap_id _ (by omega) (by omega)]; omega
    · refine .inr (next ?_ (mn_r2 k L' ag H h (by omega)))
      obtain ⟨_, hk, _⟩ := h
      have := (hk.resolve_left k0).2
      omega
end Go.Proofs.Ytdlifdoglhhnfaa

/- Txn: TxnWorld: the loops of New and of Results; the cut is closed. -/
namespace Go.Proofs.Ytdlifdoglhhnfaa
open Go Go.Proofs.Aw Go.Proofs.Xw Go.Proofs.Sr
set_option maxRecDepth 100000
variable {N n : Nat} {W : Nat → List AV} {m : Int} {g : Nat → ByteArray}
/-! ### New -/
def NwQ (n : Nat) (ρ : Rho) : Prop := ρ.len 461 = n ∧ ∀ x, x < n → ρ.ci 461 0 x = x
theorem nw_ok {ρ : Rho} (n2 : ρ.len 2 = n) (n1 : 1 ≤ n) (n6 : n ≤ 6) : ∃ ρf, Agree 460 ρ ρf ∧ NwQ n ρf ∧ LoopOk Try.prog ρf Try.f9.ntmps nw_c nw := by
  suffices hh : ∃ (_ : Nat) (ρf : Rho), Agree nw.n ρ ρf ∧ NwQ n ρf ∧ LoopOk Try.prog ρf Try.f9.ntmps nw_c nw by
    obtain ⟨_, ρf, h1, h2, h3⟩ := hh
    exact ⟨ρf, h1, h2, h3⟩
  have a0 : Agree 460 ρ (nw_I.ap ρ) := Bind.agree (by kernel_rfl) ρ
  refine loopOk_famE (L := nw) (N := Try.f9.ntmps) (body := nw_c) (P := Try.prog) rfl nw_Eb nw_S (fun s ρ' => Agree 460 ρ ρ' ∧ s < 2 ∧ ∃ i : Nat, ρ'.i 460 = i ∧ i ≤ n ∧ (if s = 0 then i = 0 else 1 ≤ i ∧ NwQ i ρ')) (fun _ => NwQ n) (fun _ ρ' => (n - ρ'.i 460).toNat) ?_
    ⟨0, nw_I.ap ρ, a0, ⟨a0, by decide, 0, rfl, Nat.zero_le _, rfl⟩, fun E _ hE => okS_imp hE nw_ent ρ⟩
  rintro s ρ' ⟨ag, hs, i, hi, hin, hg⟩
  have n2' : ρ'.len 2 = n := by rw [← ag.len 2 (by decide)]; exact n2
  have f0 : Facts.ok ρ' nwF := Facts.ok_cons (by rw [dlt_f]; simp only [IE.den, n2']; omega) (Facts.ok_cons (by rw [dlt_f]; simp only [IE.den, n2']; omega) (Facts.ok_nil _))
  have s2 : s = 0 ∨ s = 1 := by omega
  by_cases cc : i < n
  · have a1 : Agree 460 ρ' ((nw_B s).ap ρ') := Bind.agree (by rcases s2 with rfl | rfl <;> rfl) _
    have up : ((nw_B s).ap ρ').i 460 = ((i + 1 : Nat) : Int) := inc hi (by omega)
    have fs : Facts.ok ρ' (nw_F s) := by
      refine all_ok (all_ok (Facts.ok_cons (by rw [dlt_t]; simp only [IE.den, hi, n2']; omega) (Facts.ok_cons (by rw [dlt_f]; simp only [IE.den, hi]; omega) (Facts.ok_nil _))) ?_) f0
      rcases s2 with rfl | rfl
      · exact Facts.ok_nil _
      · rw [if_neg (by decide)] at hg
        exact Facts.ok_cons (by rw [dlt_f]; simp only [IE.den, hg.2.1]; omega) (Facts.ok_nil _)
    refine .inr ⟨1, (nw_B s).ap ρ', goH (forB nw_go hs) nw_fit rfl (cN_ok _) (LpsOk.nil _ _ _ _) fs, ⟨ag.trans a1, by decide, i + 1, up, cc, ?_⟩, ?_, a1⟩
    · rw [if_neg (by decide)]
      refine ⟨by omega, ?_⟩
      rcases s2 with rfl | rfl
      · rw [if_pos rfl] at hg
        subst hg
        have rr : lassoc 461 (nw_B 0).r = some (.lit 1, .one [.i .i64 (.var 460)]) := rfl
        exact ⟨ap_len rr, fun x hx => by rw [ap_ci rr, row_one]; show ρ'.i 460 = _; rw [hi]; omega⟩
      · rw [if_neg (by decide)] at hg
        have rr : lassoc 461 (nw_B 1).r = some (.op .padd .i64 (.len 461) (.lit 1), .app (.len 461) (.var 461 [.i .i64]) (.one [.i .i64 (.var 460)])) := rfl
        refine ⟨?_, fun x hx => ?_⟩
        · rw [ap_len rr]
          show ((ρ'.len 461 : Int) + 1).toNat = _
          rw [hg.2.1]; omega
        · rw [ap_ci rr, row_app, hg.2.1]
          split
          · rename_i q; exact hg.2.2 x q
          · show ρ'.i 460 = _; rw [hi]; omega
    · show (n - _ : Int).toNat < (n - _ : Int).toNat
      rw [up, hi]; omega
  · obtain rfl : i = n := by omega
    rcases s2 with rfl | rfl
    · rw [if_pos rfl] at hg; omega
    · rw [if_neg (by decide)] at hg
      refine .inl ⟨ρ', Agree.refl _ _, hg.2, rfl, ?_⟩
      exact endH nw_end nw_fit (cN_ok _) (LpsOk.nil _ _ _ _) (Facts.ok_cons (show decide (ρ'.i 460 < (ρ'.len 2 : Int)) = false by rw [hi, n2']; exact decide_eq_false (by omega)) f0) rfl
/-! ### Results -/
def rk_ (ρ : Rho) (l j : Nat) : List AV := cellsV ρ l 0 krW j
theorem ap_rk {β : Bind} {ρ : Rho} {l : Nat} {e : IE} {r : RL} (h : lassoc l β.r = some (e, r)) (j : Nat) : rk_ (β.ap ρ) l j = kcells (r.row ρ j) 0 krW := cellsV_k h j krW 0
theorem rk_agree {k : Nat} {ρ ρ' : Rho} (h : Agree k ρ ρ') {l : Nat} (hl : l < k) (j : Nat) : rk_ ρ' l j = rk_ ρ l j :=
  cellsV_congr (h.ci l hl).symm (h.cb l hl).symm (h.cs l hl).symm j krW 0
/-- A result's cells. -/
def reL2 (x : ByteArray) (o : Option (List AV)) : List AV := [.sc (.string x), .sc (.bool o.isSome)] ++ o.getD zE
def RsQ (g : Nat → ByteArray) (o : Nat → Option (List AV)) (i : Nat) (ρ : Rho) : Prop := ρ.len 831 = i ∧ ∀ x, x < i → rk_ ρ 831 x = reL2 (g x) (o x)
theorem rsR_den (ρ : Rho) : scL ρ rsR = [.sc (.string ((TE.cl 2 0 (.var 830)).den ρ)), .sc (.bool ((BE.cl 504 1 (.var 830)).den ρ))] ++ X.denL ρ (enA 504 (.var 830)) := by kernel_rfl
theorem rs_row {ρ : Rho} {i : Nat} {o : Option (List AV)} {c : Nat → Int} (g2 : stR ρ 2 = g) (hi : ρ.i 830 = i) (h : ra_ ρ 504 i = anL o c) (kw : ∀ b, o = some b → Kw b) : kcells (scL ρ rsR) 0 krW = reL2 (g i) o := by
  have e1 : kcells (scL ρ rsR) 0 krW = scL ρ rsR := by kernel_rfl
  have hi' : (IE.var 830).den ρ = (i : Int) := hi
  rw [e1, rsR_den, sl_den (n := i) hi', g2, cl_b (e := .var 830) (j := i) hi, ← ra_cb, enA_den, show (IE.var 830).den ρ = (i : Int) from hi, Int.toNat_natCast, h, anL_en kw]
  rfl
theorem rs_ok {ρ : Rho} {o : Nat → Option (List AV)} {c : Nat → Nat → Int} (n1 : 1 ≤ n) (n6 : n ≤ 6) (n2 : ρ.len 2 = n) (g2 : stR ρ 2 = g) (kw : ∀ j, j < n → ∀ b, o j = some b → Kw b) (hr : ∀ j, j < n → ra_ ρ 504 j = anL (o j) (c j)) : ∃ ρf, Agree 830 ρ ρf ∧ RsQ g o n ρf ∧ LoopOk Try.prog ρf Try.f22.ntmps rs_c rs := by
  suffices hh : ∃ (_ : Nat) (ρf : Rho), Agree rs.n ρ ρf ∧ RsQ g o n ρf ∧ LoopOk Try.prog ρf Try.f22.ntmps rs_c rs by
    obtain ⟨_, ρf, h1, h2, h3⟩ := hh
    exact ⟨ρf, h1, h2, h3⟩
  have a0 : Agree 830 ρ (rs_I.ap ρ) := Bind.agree (by kernel_rfl) ρ
  refine loopOk_famE (L := rs) (N := Try.f22.ntmps) (body := rs_c) (P := Try.prog) rfl rs_Eb rs_S (fun s ρ' => Agree 830 ρ ρ' ∧ s < 2 ∧ ∃ i : Nat, ρ'.i 830 = i ∧ i ≤ n ∧ (if s = 0 then i = 0 else 1 ≤ i ∧ RsQ g o i ρ')) (fun _ => RsQ g o n) (fun _ ρ' => (n - ρ'.i 830).toNat) ?_
    ⟨0, rs_I.ap ρ, a0, ⟨a0, by decide, 0, rfl, Nat.zero_le _, rfl⟩, fun E _ hE => okS_imp hE rs_ent ρ⟩
  rintro s ρ' ⟨ag, hs, i, hi, hin, hg⟩
  have n2' : ρ'.len 2 = n := by rw [← ag.len 2 (by decide)]; exact n2
  have g2' : stR ρ' 2 = g := by rw [agree_st ag (by decide)]; exact g2
  have s2 : s = 0 ∨ s = 1 := by omega
  by_cases cc : i < n
  · have a1 : Agree 830 ρ' ((rs_B s).ap ρ') := Bind.agree (by rcases s2 with rfl | rfl <;> rfl) _
    have up : ((rs_B s).ap ρ').i 830 = ((i + 1 : Nat) : Int) := inc hi (by omega)
    have fs : Facts.ok ρ' (rs_F s) := by
      refine all_ok (Facts.ok_cons (by rw [dlt_t]; simp only [IE.den, hi, n2']; omega) (Facts.ok_cons (by rw [dlt_f]; simp only [IE.den, hi]; omega) (Facts.ok_cons (by rw [dlt_f]; simp only [IE.den, n2']; omega) (Facts.ok_cons (by rw [dlt_f]; simp only [IE.den, n2']; omega) (Facts.ok_nil _))))) ?_
      rcases s2 with rfl | rfl
      · exact Facts.ok_nil _
      · rw [if_neg (by decide)] at hg
        exact Facts.ok_cons (by rw [dlt_f]; simp only [IE.den, hg.2.1]; omega) (Facts.ok_nil _)
    have new := rs_row g2' hi (by rw [ra_agree ag (by decide)]; exact hr i cc) (kw i cc)
    refine .inr ⟨1, (rs_B s).ap ρ', goH (forB rs_go hs) rs_fit rfl (cN_ok _) (LpsOk.nil _ _ _ _) fs, ⟨ag.trans a1, by decide, i + 1, up, cc, ?_⟩, ?_, a1⟩
    · rw [if_neg (by decide)]
      refine ⟨by omega, ?_⟩
      rcases s2 with rfl | rfl
      · rw [if_pos rfl] at hg
        subst hg
        have rr : lassoc 831 (rs_B 0).r = some (.lit 1, .one rsR) := rfl
        exact ⟨ap_len rr, fun x hx => by
          obtain rfl : x = 0 := by omega
          rw [ap_rk rr]; exact new⟩
      · rw [if_neg (by decide)] at hg
        have rr : lassoc 831 (rs_B 1).r = some (.op .padd .i64 (.len 831) (.lit 1), .app (.len 831) (.var 831 krW) (.one rsR)) := rfl
        refine ⟨?_, fun x hx => ?_⟩
        · rw [ap_len rr]
          show ((ρ'.len 831 : Int) + 1).toNat = _
          rw [hg.2.1]; omega
        · rw [ap_rk rr]
          by_cases q : x < i
          · rw [← hg.2.2 x q]
            simp only [RL.row]
            rw [if_pos (show (x : Int) < (IE.len 831).den ρ' from by simp only [IE.den, hg.2.1]; omega), Int.toNat_natCast]
            rfl
          · obtain rfl : x = i := by omega
            simp only [RL.row]
            rw [if_neg (show ¬ (x : Int) < (IE.len 831).den ρ' from by simp only [IE.den, hg.2.1]; omega)]
            exact new
    · show (n - _ : Int).toNat < (n - _ : Int).toNat
      rw [up, hi]; omega
  · obtain rfl : i = n := by omega
    rcases s2 with rfl | rfl
    · rw [if_pos rfl] at hg; omega
    · rw [if_neg (by decide)] at hg
      refine .inl ⟨ρ', Agree.refl _ _, hg.2, rfl, ?_⟩
      exact endH rs_end rs_fit (cN_ok _) (LpsOk.nil _ _ _ _) (Facts.ok_cons (show decide (ρ'.i 830 < (ρ'.len 2 : Int)) = false by rw [hi, n2']; exact decide_eq_false (by omega)) (Facts.ok_nil _)) rfl
/-! ### The cut is closed -/
theorem cov_v (A B : Nat → Int) (h : ∀ d, d < 9 → B d ≤ A d) : hasBody Try.prog 15 = true ∧ ∀ k hp, CY Try.prog k 15 [nineV A, nineV B] hp (.sc (.bool true)) [] := by
  let ρ' : Rho := ⟨fun k => if k < 9 then A k else B (k - 9), fun _ => false, fun _ => ⟨#[]⟩, fun _ => 0, fun _ _ _ => 0, fun _ _ _ => false, fun _ _ _ => ⟨#[]⟩⟩
  have q := cov_row ρ' 0 9 fun d hd => by
    show (if 9 + d < 9 then _ else _) ≤ (if 0 + d < 9 then _ else _)
    rw [if_neg (by omega), if_pos (by omega), show 9 + d - 9 = d by omega, Nat.zero_add]
    exact h d hd
  exact q
/-- Whether the cut has a write. -/
theorem hs_cy {V : Nat → Int} (k : Wk N W m n g) {j : Nat} (hj : j < N) : hasBody Try.prog 29 = true ∧ ∀ i h, CY Try.prog i 29 [nineV V, .agg [.sc (.int .i64 (cellI (W j)[0]?)), .sc (.int .i64 (cellI (W j)[1]?)), .sc (.int .i64 (cellI (W j)[2]?))]] h (.sc (.bool (had V (W j)))) [] := by
  obtain ⟨t, ht, q⟩ := has_w V (cellI (W j)[0]?) (cellI (W j)[1]?) (cellI (W j)[2]?)
  have e : t = had V (W j) := by
    have d0 := k.d0 j hj
    have d1 := k.d1 j hj
    have s1 : 1 ≤ eS (W j) := k.wd.s j hj
    have : hasP (fun x y => V (3 * x + y)) (cellI (W j)[0]?) (cellI (W j)[1]?) (cellI (W j)[2]?) ↔ had V (W j) = true := by
      unfold hasP had
      rw [decide_eq_true_iff]
      exact ⟨fun h => h.2.2.2, fun h => ⟨d0, d1, s1, h⟩⟩
    cases t with
    | true => exact (this.1 (ht.1 rfl)).symm
    | false =>
      cases h : had V (W j) with
      | false => rfl
      | true => exact ht.2 (this.2 h)
  rw [e] at q
  exact q
theorem kHs_ok {ρ : Rho} {V : Nat → Int} {l j : Nat} (k : Wk N W m n g) (L : Lt N W m n g ρ) (hv : ∀ p, p < 9 → ρ.i (510 + p) = V p) (hl : ρ.i l = j) (hj : j < N) {y : Bool} (hy : had V (W j) = y) : hasBody Try.prog (kHs l y).1 = true ∧ ∀ i h, CY Try.prog i (kHs l y).1 (X.denL ρ (kHs l y).2.1) h ((kHs l y).2.2.den ρ) [] := by
  have q := hs_cy (V := V) k hj
  have e : X.denL ρ (kHs l y).2.1 = [nineV V, .agg [.sc (.int .i64 (cellI (W j)[0]?)), .sc (.int .i64 (cellI (W j)[1]?)), .sc (.int .i64 (cellI (W j)[2]?))]] := by
    have h1 : nineV V = nineV fun p => ρ.i (510 + p) := by
      unfold nineV
      congr 1
      exact List.map_congr_left fun p hp => by rw [← hv p (List.mem_range.1 hp)]
    rw [h1, ← L.ar j hj, rw_ci _ _ _ 0 (by decide) (by decide), rw_ci _ _ _ 1 (by decide) (by decide), rw_ci _ _ _ 2 (by decide) (by decide)]
    obtain rfl : j = (ρ.i l).toNat := by rw [hl]; rfl
    show _ = _
    kernel_rfl
  rw [hy] at q
  rw [e]
  exact q
theorem ck_ok {ρ : Rho} (k : Wk N W m n g) (L : Lt N W m n g ρ) (hv : Vg W N (vA ρ 510)) : ∃ ρf, Agree 840 ρ ρf ∧ LoopOk Try.prog ρf Try.f6.ntmps ck_c ck := by
  suffices hh : ∃ (_ : Nat) (ρf : Rho), Agree ck.n ρ ρf ∧ True ∧ LoopOk Try.prog ρf Try.f6.ntmps ck_c ck by
    obtain ⟨_, ρf, h1, _, h3⟩ := hh
    exact ⟨ρf, h1, h3⟩
  have a0 : Agree 840 ρ (ck_I.ap ρ) := Bind.agree (by kernel_rfl) ρ
  have nb := k.nb
  refine loopOk_famE (L := ck) (N := Try.f6.ntmps) (body := ck_c) (P := Try.prog) rfl ck_Eb (fun _ => ck_S) (fun _ ρ' => Agree 840 ρ ρ' ∧ ∃ i : Nat, ρ'.i 840 = i ∧ i ≤ N) (fun _ _ => True) (fun _ ρ' => (N - ρ'.i 840).toNat) ?_
    ⟨0, ck_I.ap ρ, a0, ⟨a0, 0, rfl, Nat.zero_le _⟩, fun E _ hE => okS_imp hE ck_ent ρ⟩
  rintro _ ρ' ⟨ag, i, hi, hin⟩
  have L' := L.agree ag (by decide)
  by_cases cc : i < N
  · have fs : Facts.ok ρ' ck_F := Facts.ok_cons (by rw [dlt_t]; simp only [IE.den, hi, L'.al]; omega) (Facts.ok_cons (by rw [dlt_f]; simp only [IE.den, hi]; omega) (Facts.ok_cons (by rw [dlt_f]; simp only [IE.den, L'.al]; omega) (Facts.ok_nil _)))
    have a1 : Agree 840 ρ' (ck_B.ap ρ') := Bind.agree (by kernel_rfl) _
    have up : (ck_B.ap ρ').i 840 = ((i + 1 : Nat) : Int) := inc hi (by omega)
    have hV : ∀ p, p < 9 → ρ'.i (510 + p) = vC ρ p := fun p hp => (ag.i _ (by omega)).symm
    refine .inr ⟨0, ck_B.ap ρ', ?_, ⟨ag.trans a1, i + 1, up, cc⟩, ?_, a1⟩
    · cases hy : had (vC ρ) (W i) with
      | true =>
        refine goH ck_y ck_fit rfl (cK_ok (List.forall_mem_cons.2 ⟨kHs_ok k L' hV hi cc hy, List.forall_mem_cons.2 ⟨?_, List.forall_mem_nil _⟩⟩)) (LpsOk.nil _ _ _ _) fs
        have q := cov_v (vC ρ) (fun p => cellI (W i)[9 + p]?) fun d hd => (had_ge (V := vC ρ) hv cc hy d hd).1
        have e : X.denL ρ' kCd.2.1 = [nineV (vC ρ), nineV fun p => cellI (W i)[9 + p]?] := by
          have h1 : nineV (vC ρ) = nineV fun p => ρ'.i (510 + p) := by
            unfold nineV
            congr 1
            exact List.map_congr_left fun p hp => by rw [← hV p (List.mem_range.1 hp)]
          rw [h1, ← L'.ar i cc]
          obtain rfl : i = (ρ'.i 840).toNat := by rw [hi]; rfl
          show _ = _
          kernel_rfl
        rw [e]
        exact q
      | false => exact goH ck_n ck_fit rfl (cK_ok (List.forall_mem_cons.2 ⟨kHs_ok k L' hV hi cc hy, List.forall_mem_nil _⟩)) (LpsOk.nil _ _ _ _) fs
    · show (N - _ : Int).toNat < (N - _ : Int).toNat
      rw [up, hi]; omega
  · obtain rfl : i = N := by omega
    refine .inl ⟨ρ', Agree.refl _ _, trivial, rfl, ?_⟩
    exact endH ck_end ck_fit (cN_ok _) (LpsOk.nil _ _ _ _) (Facts.ok_cons (show decide (ρ'.i 840 < (ρ'.len 410 : Int)) = false by rw [hi, L'.al]; exact decide_eq_false (by omega)) (Facts.ok_nil _)) rfl
end Go.Proofs.Ytdlifdoglhhnfaa

/- Txn: TxnWorld: each key's greatest among what the cut has. -/
namespace Go.Proofs.Ytdlifdoglhhnfaa
open Go Go.Proofs.Aw Go.Proofs.Xw Go.Proofs.Sr
set_option maxRecDepth 100000
variable {N n : Nat} {W : Nat → List AV} {m : Int} {g : Nat → ByteArray}
/-! ### What the cut has -/
def fiSeen (ρ : Rho) (s : Nat) (L : List (List AV)) : Prop := if s = 0 then L = [] else L ≠ [] ∧ RowsL ρ 861 L
theorem fiR_row {ρ : Rho} {i : Nat} (h : ρ.i 860 = i) : kcells (scL ρ fiR) 0 kep = rw_ ρ 410 i := by
  obtain rfl : i = (ρ.i 860).toNat := by rw [h]; rfl
  show _ = _
  kernel_rfl
theorem fi_put {ρ : Rho} {s i : Nat} {L : List (List AV)} (hs : s < 2) (h : fiSeen ρ s L) (hi : ρ.i 860 = i) : fiSeen ((fi_Y s).ap ρ) 1 (L ++ [rw_ ρ 410 i]) := by
  unfold fiSeen at *
  rw [if_neg (by decide)]
  refine ⟨by simp, ?_⟩
  by_cases q : s = 0
  · subst q
    rw [if_pos rfl] at h
    subst h
    have hr : lassoc 861 (fi_Y 0).r = some (.lit 1, .one fiR) := rfl
    refine ⟨ap_len hr, fun m e hm => ?_⟩
    cases m with
    | zero =>
      have : rw_ ρ 410 i = e := by simpa using hm
      rw [ap_row hr, ← this]
      exact fiR_row hi
    | succ m => simp at hm
  · have : s = 1 := by omega
    subst this
    rw [if_neg (by decide)] at h
    obtain ⟨_, hl, hm⟩ := h
    have hr : lassoc 861 (fi_Y 1).r = some (.op .padd .i64 (.len 861) (.lit 1), .app (.len 861) (.var 861 kep) (.one fiR)) := rfl
    refine ⟨?_, fun m e he => ?_⟩
    · rw [ap_len hr, List.length_append]
      show ((ρ.len 861 : Int) + 1).toNat = _
      rw [hl]; simp only [List.length_cons, List.length_nil]; omega
    · rw [ap_row hr, app_row ρ hl]
      by_cases c : m < L.length
      · rw [if_pos c, kc_rw]
        rw [List.getElem?_append_left c] at he
        exact hm m e he
      · rw [if_neg c, fiR_row hi]
        rw [List.getElem?_append_right (by omega)] at he
        cases z : m - L.length with
        | zero => rw [z] at he; simpa using he
        | succ z' => rw [z] at he; simp at he
theorem fi_stay {ρ : Rho} {s : Nat} {L : List (List AV)} (hs : s < 2) (h : fiSeen ρ s L) : fiSeen ((fi_N s).ap ρ) s L := by
  unfold fiSeen at *
  by_cases q : s = 0
  · rw [if_pos q] at *; exact h
  · rw [if_neg q] at *
    have : s = 1 := by omega
    subst this
    have hr : lassoc 861 (fi_N 1).r = some (.len 861, .var 861 kep) := rfl
    obtain ⟨h0, hl, hm⟩ := h
    refine ⟨h0, by rw [ap_len hr]; show ((ρ.len 861 : Int)).toNat = _; rw [hl]; omega, fun m e he => ?_⟩
    rw [ap_row hr, var_row, kc_rw]; exact hm m e he
theorem fi_bel {s : Nat} (h : s < 2) : (fi_S s).bel 862 = true := forB (p := fun s => (fi_S s).bel 862) (by kernel_rfl) h
theorem fi_Yg {s : Nat} (h : s < 2) : (fi_Y s).ge 860 = true := forB (p := fun s => (fi_Y s).ge 860) (by kernel_rfl) h
theorem fi_Ng {s : Nat} (h : s < 2) : (fi_N s).ge 860 = true := forB (p := fun s => (fi_N s).ge 860) (by kernel_rfl) h
theorem fi_Yi (s : Nat) : lassoc 860 (fi_Y s).i = some (.op .add .i64 (.var 860) (.lit 1)) := rfl
theorem fi_Ni (s : Nat) : lassoc 860 (fi_N s).i = some (.op .add .i64 (.var 860) (.lit 1)) := rfl
theorem fiw_ok {ρ : Rho} (k : Wk N W m n g) (L : Lt N W m n g ρ) : ∃ s ρf, Agree 860 ρ ρf ∧ (s < 2 ∧ fiSeen ρf s (sn true (vC ρ) N W)) ∧ LoopOk Try.prog ρf Try.f6.ntmps fi_c (fiL s) := by
  suffices hh : ∃ (s : Nat) (ρf : Rho), Agree fiB.n ρ ρf ∧ (s < 2 ∧ fiSeen ρf s (sn true (vC ρ) N W) ∧ (ρf.b 862 = true ↔ s = 1)) ∧ LoopOk Try.prog ρf Try.f6.ntmps fi_c fiB by
    obtain ⟨s, ρf, h1, ⟨h2, h3, h4⟩, h5⟩ := hh
    refine ⟨s, ρf, h1, ⟨h2, h3⟩, one_way h5 rfl rfl rfl fun e t ht => ?_⟩
    have e0 : fiB.out.sel ρf = some (.exit 8, fi_S s) := by
      unfold fiB
      by_cases q : s = 1
      · rw [T.sel, if_pos (show (BE.var 862).den ρf = true from h4.2 q), q]; rfl
      · have : s = 0 := by omega
        rw [T.sel, if_neg (show ¬ (BE.var 862).den ρf = true from fun k => q (h4.1 k)), this]; rfl
    rw [e0] at ht
    exact ht
  have a0 : Agree 860 ρ (fi_I.ap ρ) := Bind.agree (by kernel_rfl) ρ
  have nb := k.nb
  have len : ∀ i, (sn true (vC ρ) i W).length ≤ i := fun i => by
    have := List.length_filter_le (fun e => !true || had (vC ρ) e) ((List.range i).map W)
    rw [List.length_map, List.length_range] at this
    exact this
  refine loopOk_famE (L := fiB) (N := Try.f6.ntmps) (body := fi_c) (P := Try.prog) rfl fi_Eb fi_S (fun s ρ' => Agree 860 ρ ρ' ∧ s < 2 ∧ ∃ i : Nat, ρ'.i 860 = i ∧ i ≤ N ∧ fiSeen ρ' s (sn true (vC ρ) i W)) (fun s ρ' => s < 2 ∧ fiSeen ρ' s (sn true (vC ρ) N W) ∧ (ρ'.b 862 = true ↔ s = 1)) (fun _ ρ' => (N - ρ'.i 860).toNat) ?_
    ⟨0, fi_I.ap ρ, a0, ⟨a0, by decide, 0, rfl, Nat.zero_le _, rfl⟩, fun E _ hE => okS_imp hE fi_ent ρ⟩
  rintro s ρ' ⟨ag, hs, i, hi, hin, hg⟩
  have L' := L.agree ag (by decide)
  by_cases cc : i < N
  · have fs : Facts.ok ρ' (fi_F s) := by
      refine all_ok (Facts.ok_cons (by rw [dlt_t]; simp only [IE.den, hi, L'.al]; omega) (Facts.ok_cons (by rw [dlt_f]; simp only [IE.den, hi]; omega) (Facts.ok_cons (by rw [dlt_f]; simp only [IE.den, L'.al]; omega) (Facts.ok_nil _)))) ?_
      split
      · exact Facts.ok_nil _
      · rename_i q
        have : s ≠ 0 := fun e => q (by rw [e]; rfl)
        unfold fiSeen at hg
        rw [if_neg this] at hg
        have := len i
        exact Facts.ok_cons (by rw [dlt_f]; simp only [IE.den, hg.2.1]; omega) (Facts.ok_nil _)
    have hV : ∀ p, p < 9 → ρ'.i (510 + p) = vC ρ p := fun p hp => (ag.i _ (by omega)).symm
    have me : ∀ β : Bind, lassoc 860 β.i = some (.op .add .i64 (.var 860) (.lit 1)) → (β.ap ρ').i 860 = ((i + 1 : Nat) : Int) := fun β h => (ap_i h).trans (inc hi (by omega))
    cases hy : had (vC ρ) (W i) with
    | true =>
      have a1 : Agree 860 ρ' ((fi_Y s).ap ρ') := Bind.agree (fi_Yg hs) _
      refine .inr ⟨1, (fi_Y s).ap ρ', goH (forB fi_y hs) fi_fit rfl (cK_ok (List.forall_mem_cons.2 ⟨kHs_ok k L' hV hi cc hy, List.forall_mem_nil _⟩)) (LpsOk.nil _ _ _ _) fs, ⟨ag.trans a1, by decide, i + 1, me _ (fi_Yi s), cc, ?_⟩, ?_, a1⟩
      · rw [sn_snoc, if_pos (by rw [hy]; rfl), ← L'.ar i cc]
        exact fi_put hs hg hi
      · show (N - _ : Int).toNat < (N - _ : Int).toNat
        rw [me _ (fi_Yi s), hi]; omega
    | false =>
      have a1 : Agree 860 ρ' ((fi_N s).ap ρ') := Bind.agree (fi_Ng hs) _
      refine .inr ⟨s, (fi_N s).ap ρ', goH (forB fi_n hs) fi_fit rfl (cK_ok (List.forall_mem_cons.2 ⟨kHs_ok k L' hV hi cc hy, List.forall_mem_nil _⟩)) (LpsOk.nil _ _ _ _) fs, ⟨ag.trans a1, hs, i + 1, me _ (fi_Ni s), cc, ?_⟩, ?_, a1⟩
      · rw [sn_snoc, if_neg (by rw [hy]; decide)]
        exact fi_stay hs hg
      · show (N - _ : Int).toNat < (N - _ : Int).toNat
        rw [me _ (fi_Ni s), hi]; omega
  · obtain rfl : i = N := by omega
    have a1 : Agree 862 ρ' (putB ρ' 862 (Nat.beq s 1)) := putB_agree ρ' (Nat.le_refl _)
    have b1 : (putB ρ' 862 (Nat.beq s 1)).b 862 = Nat.beq s 1 := rfl
    have b2 : (putB ρ' 862 (Nat.beq s 1)).b 862 = true ↔ s = 1 := by rw [b1, Nat.beq_eq]
    refine .inl ⟨putB ρ' 862 (Nat.beq s 1), a1.le (show 860 ≤ 862 by decide), ⟨hs, hg, b2⟩, XS.bel_den a1 _ (fi_bel hs), ?_⟩
    refine endH (forB fi_end hs) fi_fit (cN_ok _) (LpsOk.nil _ _ _ _) (Facts.ok_cons (show decide (ρ'.i 860 < (ρ'.len 410 : Int)) = false by rw [hi, L'.al]; exact decide_eq_false (by omega)) (Facts.ok_nil _)) ?_
    unfold fiB
    by_cases q : s = 1
    · rw [T.sel, if_pos (show (BE.var 862).den _ = true from b2.2 q), q]; rfl
    · have : s = 0 := by omega
      rw [T.sel, if_neg (show ¬ (BE.var 862).den _ = true from fun k => q (b2.1 k)), this]; rfl
/-! ### Each key -/
theorem gr_nil : askF ⟨cfgL [] (fun _ => []), [], []⟩ 30 [.sc (.s (.var 600)), nlW] [] = .ret (.tup [.agg zeX, .sc (.b (.lit false))]) := by kernel_rfl
theorem gr_0 (x : ByteArray) : hasBody Try.prog 30 = true ∧ ∀ k h, CY Try.prog k 30 [.sc (.string x), .sc (.slice none 0 0)] h (grV none) [] := by
  let ρ' : Rho := ⟨fun _ => 0, fun _ => false, fun _ => x, fun _ => 0, fun _ _ _ => 0, fun _ _ _ => false, fun _ _ _ => ⟨#[]⟩⟩
  have q := askF_ok (c := ⟨cfgL [] (fun _ => []), [], []⟩) (ρ := ρ') (f := 30) (args := [.sc (.s (.var 600)), nlW]) (Φ := []) (cN_ok ρ') (List.forall_mem_nil _) (Facts.ok_nil _) (r := .tup [.agg zeX, .sc (.b (.lit false))]) (by rw [gr_nil]; rfl)
  have e : grV none = X.den ρ' (.tup [.agg zeX, .sc (.b (.lit false))]) := by kernel_rfl
  rw [e]
  exact q
theorem grV_eq (o : Option (List AV)) : grV o = .tup [.agg (o.getD zE), .sc (.bool o.isSome)] := by cases o <;> rfl
theorem rk_en (ρ : Rho) (i : Nat) (h : ρ.i 850 = i) : X.den ρ liX = .tup [.agg ((rk_ ρ 831 i).drop 2), .sc (.bool (cellB (rk_ ρ 831 i)[1]?))] := by
  obtain rfl : i = (ρ.i 850).toNat := by rw [h]; rfl
  show _ = _
  kernel_rfl
theorem fo_lps {ρ : Rho} {s : Nat} (h : LoopOk Try.prog ρ Try.f6.ntmps fi_c (fiL s)) : LpsOk Try.prog ρ Try.f6.ntmps [fiL s] fo_c :=
  lps_idx [0] (by kernel_rfl) (List.forall_mem_cons.2 ⟨look_list (c := fi_c) (Ls := [fiL s]) (by kernel_rfl) (List.forall_mem_cons.2 ⟨h, List.forall_mem_nil _⟩), List.forall_mem_nil _⟩)
theorem fo_ok {ρ : Rho} (k : Wk N W m n g) (L : Lt N W m n g ρ) (hr : RsQ g (fun j => grW (g j) (sn true (vC ρ) N W)) n ρ) : ∃ ρf, Agree 850 ρ ρf ∧ LoopOk Try.prog ρf Try.f6.ntmps fo_c fo := by
  suffices hh : ∃ (_ : Nat) (ρf : Rho), Agree fo.n ρ ρf ∧ True ∧ LoopOk Try.prog ρf Try.f6.ntmps fo_c fo by
    obtain ⟨_, ρf, h1, _, h3⟩ := hh
    exact ⟨ρf, h1, h3⟩
  have a0 : Agree 850 ρ (fo_I.ap ρ) := Bind.agree (by kernel_rfl) ρ
  have n6 := k.n6
  have nb := k.nb
  refine loopOk_famE (L := fo) (N := Try.f6.ntmps) (body := fo_c) (P := Try.prog) rfl fo_Eb (fun _ => fo_S) (fun _ ρ' => Agree 850 ρ ρ' ∧ ∃ i : Nat, ρ'.i 850 = i ∧ i ≤ n) (fun _ _ => True) (fun _ ρ' => (n - ρ'.i 850).toNat) ?_
    ⟨0, fo_I.ap ρ, a0, ⟨a0, 0, rfl, Nat.zero_le _⟩, fun E _ hE => okS_imp hE fo_ent ρ⟩
  rintro _ ρ' ⟨ag, i, hi, hin⟩
  have L' := L.agree ag (by decide)
  have l8 : ρ'.len 831 = n := by rw [← ag.len 831 (by decide)]; exact hr.1
  by_cases cc : i < n
  · obtain ⟨s, ρ1, a1, ⟨hs, seen⟩, lp⟩ := fiw_ok k L'
    have i1 : ρ1.i 850 = i := by rw [← a1.i 850 (by decide)]; exact hi
    have L1 := L'.agree a1 (by decide)
    have esn : sn true (vC ρ') N W = sn true (vC ρ) N W := by
      unfold sn
      refine List.filter_congr fun e he => ?_
      obtain ⟨j, hj, rfl⟩ := List.mem_map.1 he
      have hj := List.mem_range.1 hj
      have d3 : eD (W j) < 3 := k.wd.d j hj
      have r3 : eR (W j) < 3 := k.wd.r j hj
      unfold had vC
      rw [ag.i _ (by omega)]
    rw [esn] at seen
    have fs : Facts.ok ρ1 fo_F := Facts.ok_cons (by rw [dlt_t]; simp only [IE.den, i1]; rw [← a1.len 831 (by decide), l8]; omega) (Facts.ok_cons (by rw [dlt_f]; simp only [IE.den, i1]; omega) (Facts.ok_cons (by rw [dlt_t]; simp only [IE.den, i1, L1.n2]; omega) (Facts.ok_cons (by rw [dlt_f]; simp only [IE.den, L1.n2]; omega) (Facts.ok_nil _))))
    have ky : ∀ Y : X, X.denL ρ1 [.sc (.s (.cl 2 0 (.var 850))), Y] = [.sc (.string (g i)), X.den ρ1 Y] := fun Y => by
      show [AV.sc (.string ((TE.cl 2 0 (.var 850)).den ρ1)), X.den ρ1 Y] = _
      rw [sl_den (n := i) (by exact i1), L1.g2]
    have li : X.den ρ1 liX = grV (grW (g i) (sn true (vC ρ) N W)) := by
      rw [rk_en ρ1 i i1, rk_agree a1 (by decide), rk_agree ag (by decide), hr.2 i cc, grV_eq]
      rfl
    have cok : CfgOk Try.prog ρ1 (cfgL [kGr s] (fun _ => [])) := cK_ok (List.forall_mem_cons.2 ⟨by
      have s2 : s = 0 ∨ s = 1 := by omega
      rcases s2 with rfl | rfl
      · have e0 : sn true (vC ρ) N W = [] := seen
        show hasBody Try.prog 30 = true ∧ ∀ k h, CY Try.prog k 30 (X.denL ρ1 [.sc (.s (.cl 2 0 (.var 850))), nlW]) h (X.den ρ1 liX) []
        rw [ky, li, e0]
        exact gr_0 (g i)
      · unfold fiSeen at seen
        rw [if_neg (by decide)] at seen
        obtain ⟨_, rl⟩ := seen
        have len : (sn true (vC ρ) N W).length ≤ N := by
          have := List.length_filter_le (fun e => !true || had (vC ρ) e) ((List.range N).map W)
          rw [List.length_map, List.length_range] at this
          exact this
        have G := gr_cy (g i) (n := (sn true (vC ρ) N W).length) (W := rw_ ρ1 861) (by omega) fun j _ => kc_rw ρ1 861 j
        rw [rl.list] at G
        show hasBody Try.prog 30 = true ∧ ∀ k h, CY Try.prog k 30 (X.denL ρ1 [.sc (.s (.cl 2 0 (.var 850))), rlW 861]) h (X.den ρ1 liX) []
        rw [ky, li, rlW_den (n := (sn true (vC ρ) N W).length) (W := rw_ ρ1 861) rl.1 fun _ _ => rfl]
        exact G, List.forall_mem_nil _⟩)
    have a2 : Agree 850 ρ1 (fo_B.ap ρ1) := Bind.agree (by kernel_rfl) _
    have up : (fo_B.ap ρ1).i 850 = ((i + 1 : Nat) : Int) := inc i1 (by omega)
    refine .inr ⟨0, fo_B.ap ρ1, goH (forB fo_go hs) fo_fit (XS.bel_den a1 _ (by kernel_rfl)) cok (fo_lps lp) fs, ⟨ag.trans ((a1.le (by decide)).trans a2), i + 1, up, cc⟩, ?_, (a1.le (show 850 ≤ 860 by decide)).trans a2⟩
    show (n - _ : Int).toNat < (n - _ : Int).toNat
    rw [up, hi]; omega
  · obtain rfl : i = n := by omega
    refine .inl ⟨ρ', Agree.refl _ _, trivial, rfl, ?_⟩
    exact endH fo_end fo_fit (cN_ok _) (LpsOk.nil _ _ _ _) (Facts.ok_cons (show decide (ρ'.i 850 < (ρ'.len 831 : Int)) = false by rw [hi, l8]; exact decide_eq_false (by omega)) (Facts.ok_nil _)) rfl
end Go.Proofs.Ytdlifdoglhhnfaa

/- Txn: TxnWorld: the law's own code: runs. -/
namespace Go.Proofs.Ytdlifdoglhhnfaa
open Go Go.Proofs.Aw Go.Proofs.Xw Go.Proofs.Sr
set_option maxRecDepth 100000
/-! ### Behind the loop over the writes -/
def rgX : Facts := [(.lt (.var 401) (.lit 1), false), (.lt (.lit 3) (.var 401), false)]
def kRg (b : Bool) : Nat × List X × X := (32, [kyW], .sc (.b (.lit b)))
noncomputable def lpQ (f : Nat) : List LoopX := if Nat.beq f 9 = true then [nw] else if Nat.beq f 22 = true then [rs] else []
def okF : XS := ⟨[(8, .sc (.b (.lit true)))], [], 130⟩
theorem r6_ok : endB 0 .ret okT (runH [kRg true] lpQ 6 0 [mn, ck, fo] r6 (wF.t.map (·.1)) (rgX ++ (nwF ++ r8F)) wF) = true := by kernel_rfl
theorem r6_er : endB 0 .ret okF (runH [kRg false] (fun _ => []) 6 0 [] r6 (wF.t.map (·.1)) (rgX ++ [(.lt (.lit 6) (.len 2), false)]) wF) = true := by kernel_rfl
theorem r6_fit : fitsC Try.f6.ntmps r6 = true := by kernel_rfl
theorem r6_loops : othersB [mn, ck, fo] [0, 1, 2] 0 (loopsOf r6) = true := by kernel_rfl
theorem okT_res : resX (cfgL [] (fun _ => [])).ti okT Try.f6.results.toList = some [.sc (.b (.eq (.len 831) (.len 2)))] := by kernel_rfl
theorem okF_res : resX (cfgL [] (fun _ => [])).ti okF Try.f6.results.toList = some [.sc (.b (.lit true))] := by kernel_rfl
/-! ### Ahead of it -/
def wdF : Facts := [(.lt (.lit 60) (.len 1), false), (.lt (.lit 6) (.len 2), false), (.lt (.lit 100) (.len 3), false)]
noncomputable def wrB (b : Nat) : LoopX := ⟨(codeKey wr_c).getD 0, 0, 400, wr_E, noB, [], .ret (.exit 0, wr_X b)⟩
noncomputable def wrK : LoopX := ⟨(codeKey wr_c).getD 0, 0, 400, wr_E, noB, [], .ret (.ret, wr_K)⟩
noncomputable def runB (ls : List LoopX) (Φ : Facts) (c : Code) (S : XS) : T (XE × XS) := codeX (cfgL [] (fun _ => [])).ti (callS ⟨cfgL [] (fun _ => []), l_able, [33]⟩ 12) (((cfgL [] (fun _ => [])).ft 6).elim [] (·.ms)) 0 ls 1000 c Φ S
def isNm : T (XE × XS) → Bool
  | .ret (.normal, _) => true
  | _ => false
noncomputable def stB (b : Nat) : Nat → XS
  | 0 => ⟨slotsX 0 wdA, [], 0⟩
  | n + 1 => match runB [wrB b] wdF (sqL (sqN n b6)) (stB b n) with
    | .ret (.normal, s) => s
    | _ => ⟨[], [], 0⟩
theorem stB_go : ((List.range 8).all fun b => (List.range 6).all fun n => isNm (runB [wrB b] wdF (sqL (sqN n b6)) (stB b n))) = true := by kernel_rfl
theorem b6_loops : (List.range 6).map (fun n => loopsOf (sqL (sqN n b6))) = [[], [], [], [], [], [wr_c]] := by kernel_rfl
theorem b6_fit : ((List.range 6).all fun n => fitsC Try.f6.ntmps (sqL (sqN n b6))) = true := by kernel_rfl
/-- The logs, as rows that are read only. -/
def wFb (b : Nat) : XS := ⟨wF.t, [((23, 0), (if Nat.beq b 0 = true then .ro 20 [] false else rlW 410) :: (List.range 3).map fun r => if bit b r = true then rlW (411 + r) else .ro 20 [] false)], 114⟩
theorem frz_b : ((List.range 8).all fun b => okS 0 1000 noB [] (wFb b) ((stB b 6).frz [(100, 0), (101, 0), (102, 0), (103, 0)] (23, 0) 20)) = true := by kernel_rfl
/-! ### Too long; or a write that may not be -/
theorem long_1 : askF ⟨cfgL [] (fun _ => []), l_able, [33]⟩ 6 wdA [(.lt (.lit 60) (.len 1), true)] = .ret (.sc (.b (.lit true))) := by kernel_rfl
theorem long_2 : askF ⟨cfgL [] (fun _ => []), l_able, [33]⟩ 6 wdA [(.lt (.lit 60) (.len 1), false), (.lt (.lit 6) (.len 2), true)] = .ret (.sc (.b (.lit true))) := by kernel_rfl
theorem long_3 : askF ⟨cfgL [] (fun _ => []), l_able, [33]⟩ 6 wdA [(.lt (.lit 60) (.len 1), false), (.lt (.lit 6) (.len 2), false), (.lt (.lit 100) (.len 3), true)] = .ret (.sc (.b (.lit true))) := by kernel_rfl
theorem wrK_o : othersB [wrK] [0] 0 (loopsOf (Try.f6.body.getD .skip)) = true := by kernel_rfl
theorem bad_w : askF ⟨cfgL [] (lpO 6 wrK), l_able, [33]⟩ 6 wdA wdF = .ret (.sc (.b (.lit true))) := by kernel_rfl
end Go.Proofs.Ytdlifdoglhhnfaa
