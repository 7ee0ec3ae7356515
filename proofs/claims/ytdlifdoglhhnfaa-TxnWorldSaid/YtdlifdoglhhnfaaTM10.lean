/- Parts of the proof, one behind the other. -/
import Derived.Test.YtdlifdoglhhnfaaTM9
import Derived.Test.YtdlifdoglhhnfaaXwM3
/- Txn: TxnWorld: the law answers true. -/
namespace Go.Proofs.Ytdlifdoglhhnfaa
open Go Go.Proofs.Aw Go.Proofs.Xw Go.Proofs.Sr
set_option maxRecDepth 100000
variable {N n : Nat} {W : Nat → List AV} {m : Int} {g : Nat → ByteArray}
/-! ### Step by step -/
theorem AW_seqX {E : Aw.Env} {ρ : Rho} {x y : Code} {S S' : XS} {Q : Exit → St → Prop} (h : Goes Try.prog E ρ x S .normal S') (k : AW Try.prog E y Q (S'.den ρ)) : AW Try.prog E (.seq x y) Q (S.den ρ) :=
  AW_seq fun K hK => AW_mono (fun e σ hq => by
    obtain ⟨rfl, hi⟩ := hq
    exact hK σ (AW_imp hi k)) h
theorem b6_eq : ∀ i, i < 6 → sqN i b6 = .seq (sqL (sqN i b6)) (sqN (i + 1) b6)
  | 0, _ => by kernel_rfl
  | 1, _ => by kernel_rfl
  | 2, _ => by kernel_rfl
  | 3, _ => by kernel_rfl
  | 4, _ => by kernel_rfl
  | 5, _ => by kernel_rfl
  | i + 6, h => absurd h (by omega)
theorem wd_ok {ρ : Rho} (l1 : ρ.len 1 ≤ 60) (l2 : ρ.len 2 ≤ 6) (l3 : ρ.len 3 ≤ 100) : Facts.ok ρ wdF :=
  Facts.ok_cons (by rw [dlt_f]; simp only [IE.den]; omega) (Facts.ok_cons (by rw [dlt_f]; simp only [IE.den]; omega) (Facts.ok_cons (by rw [dlt_f]; simp only [IE.den]; omega) (Facts.ok_nil _)))
theorem stB_step {b i : Nat} (hb : b < 8) (hi : i < 6) : runB [wrB b] wdF (sqL (sqN i b6)) (stB b i) = .ret (.normal, stB b (i + 1)) := by
  have h := forB (forB stB_go hb) hi
  have e : stB b (i + 1) = match runB [wrB b] wdF (sqL (sqN i b6)) (stB b i) with
    | .ret (.normal, s) => s
    | _ => ⟨[], [], 0⟩ := rfl
  rw [e]
  generalize runB [wrB b] wdF (sqL (sqN i b6)) (stB b i) = t at h
  unfold isNm at h
  split at h
  · rfl
  · cases h
theorem pre_AW {E : Aw.Env} {ρ : Rho} {b : Nat} {Q : Exit → St → Prop} (hN : E.N = Try.f6.ntmps) (hk : ∀ m, ¬ E.c0.kn m) (hb : b < 8) (fs : Facts.ok ρ wdF) (lw : LoopOk Try.prog ρ Try.f6.ntmps wr_c (wrB b)) (h : AW Try.prog E r6 Q ((stB b 6).den ρ)) : AW Try.prog E b6 Q ⟨slots 0 (X.denL ρ wdA), [], 0⟩ := by
  have go : ∀ j, j ≤ 6 → AW Try.prog E (sqN (6 - j) b6) Q ((stB b (6 - j)).den ρ) := fun j => by
    induction j with
    | zero => exact fun _ => h
    | succ j ih =>
      intro hj
      obtain ⟨i, hi⟩ : ∃ i, 6 - (j + 1) = i := ⟨_, rfl⟩
      have i6 : i < 6 := by omega
      have ih := ih (by omega)
      rw [show 6 - j = i + 1 by omega] at ih
      rw [hi, b6_eq i i6]
      refine AW_seqX ?_ ih
      have lps : LpsOk Try.prog ρ Try.f6.ntmps [wrB b] (sqL (sqN i b6)) := by
        have e : ((List.range 6).map fun n => loopsOf (sqL (sqN n b6)))[i]? = ([[], [], [], [], [], [wr_c]] : List (List Code))[i]? := congrArg (fun l : List (List Code) => l[i]?) b6_loops
        rw [List.getElem?_map, List.getElem?_range i6] at e
        by_cases q : i = 5
        · subst q
          have e : loopsOf (sqL (sqN 5 b6)) = [wr_c] := by simpa using e
          intro c hc L hL
          rw [e] at hc
          rcases List.mem_cons.1 hc with rfl | hc
          · exact look_list (c := wr_c) (Ls := [wrB b]) (by kernel_rfl) (List.forall_mem_cons.2 ⟨lw, List.forall_mem_nil _⟩) L hL
          · cases hc
        · have e : loopsOf (sqL (sqN i b6)) = [] := by
            have : i = 0 ∨ i = 1 ∨ i = 2 ∨ i = 3 ∨ i = 4 := by omega
            rcases this with rfl | rfl | rfl | rfl | rfl <;> simpa using e
          intro c hc
          rw [e] at hc
          cases hc
      have cok := cN_ok ρ
      refine codeX_goes (E := E) mixed cok.ti (callS_ok (c := ⟨cfgL [] (fun _ => []), l_able, [33]⟩) cok l_able_ok 12) (ms := ((cfgL [] (fun _ => [])).ft 6).elim [] (·.ms)) (fuel := 1000) (k0 := 0) (fun m hm => absurd hm (hk m)) (sqL (sqN i b6)) wdF (stB b i) .normal (stB b (i + 1)) fs (by rw [hN]; exact forB b6_fit i6) (by rw [hN]; exact lps) ?_
      show (runB [wrB b] wdF (sqL (sqN i b6)) (stB b i)).sel ρ = _
      rw [stB_step hb i6]; rfl
  have := go 6 (Nat.le_refl _)
  exact this
/-! ### The logs as rows -/
/-- Logs that are nil have no rows. -/
def logR (ρ : Rho) (b : Nat) : Rho := { ρ with len := fun k => if k = 410 ∧ b = 0 then 0 else if 411 ≤ k ∧ k < 414 ∧ bit b (k - 411) = false then 0 else ρ.len k }
theorem logR_agree (ρ : Rho) (b : Nat) : Agree 410 ρ (logR ρ b) :=
  ⟨fun _ _ => rfl, fun _ _ => rfl, fun _ _ => rfl, fun k hk => by show _ = if _ then _ else if _ then _ else _; rw [if_neg (by omega), if_neg (by omega)], fun _ _ => rfl, fun _ _ => rfl, fun _ _ => rfl⟩
theorem logR_all (ρ : Rho) (b : Nat) : (logR ρ b).len 410 = if b = 0 then 0 else ρ.len 410 := by
  show (if 410 = 410 ∧ b = 0 then 0 else if 411 ≤ 410 ∧ 410 < 414 ∧ bit b (410 - 411) = false then 0 else ρ.len 410) = _
  rw [if_neg (show ¬ (411 ≤ 410 ∧ 410 < 414 ∧ bit b (410 - 411) = false) by omega)]
  by_cases q : b = 0
  · rw [if_pos ⟨rfl, q⟩, if_pos q]
  · rw [if_neg (fun h => q h.2), if_neg q]
theorem logR_log (ρ : Rho) (b : Nat) {r : Nat} (hr : r < 3) : (logR ρ b).len (411 + r) = if bit b r = true then ρ.len (411 + r) else 0 := by
  show (if 411 + r = 410 ∧ b = 0 then 0 else if 411 ≤ 411 + r ∧ 411 + r < 414 ∧ bit b (411 + r - 411) = false then 0 else ρ.len (411 + r)) = _
  rw [if_neg (by omega), show 411 + r - 411 = r by omega]
  cases bit b r with
  | true => rw [if_neg (fun h => by cases h.2.2), if_pos rfl]
  | false => rw [if_pos ⟨by omega, by omega, rfl⟩, if_neg (by decide)]
theorem rl_0 {ρ : Rho} {l : Nat} (h : ρ.len l = 0) : X.den ρ (rlW l) = .ro 20 [] false := by
  show AV.ro 20 (rowsD ρ (.len l) (.var l kep)) false = _
  unfold rowsD
  simp only [IE.den, h]
  rfl
theorem rl_same {ρ ρ' : Rho} {l : Nat} (h : ρ'.len l = ρ.len l) (hi : ρ'.ci l = ρ.ci l) (hb : ρ'.cb l = ρ.cb l) (hs : ρ'.cs l = ρ.cs l) : X.den ρ' (rlW l) = X.den ρ (rlW l) := by
  show AV.ro 20 (rowsD ρ' (.len l) (.var l kep)) false = AV.ro 20 (rowsD ρ (.len l) (.var l kep)) false
  unfold rowsD
  simp only [IE.den, h]
  congr 1
  exact List.map_congr_left fun j _ => by rw [var_row, var_row]; exact cellsV_congr hi hb hs j kep 0
theorem wF_t : wF.t.all (fun p => p.2.bel 410) = true := by kernel_rfl
theorem wFb_den (ρ : Rho) (b : Nat) : (wFb b).den ρ = wF.den (logR ρ b) := by
  have ht : denT ρ wF.t = denT (logR ρ b) wF.t := by
    unfold denT
    exact List.map_congr_left fun p hp => by rw [X.bel_den (logR_agree ρ b) p.2 (List.all_eq_true.1 wF_t p hp)]
  have h0 : X.den ρ (if Nat.beq b 0 = true then .ro 20 [] false else rlW 410) = X.den (logR ρ b) (rlW 410) := by
    by_cases q : b = 0
    · rw [if_pos (by rw [q]; rfl), rl_0 (by rw [logR_all, if_pos q])]; rfl
    · rw [if_neg (fun h => q (Nat.eq_of_beq_eq_true h))]
      exact (rl_same (ρ := ρ) (ρ' := logR ρ b) (by rw [logR_all, if_neg q]) rfl rfl rfl).symm
  have hr : ∀ r, r < 3 → X.den ρ (if bit b r = true then rlW (411 + r) else .ro 20 [] false) = X.den (logR ρ b) (rlW (411 + r)) := fun r hr => by
    cases q : bit b r with
    | true =>
      rw [if_pos rfl]
      exact (rl_same (ρ := ρ) (ρ' := logR ρ b) (by rw [logR_log ρ b hr, q, if_pos rfl]) rfl rfl rfl).symm
    | false => rw [if_neg (by decide), rl_0 (l := 411 + r) (by rw [logR_log ρ b hr, q, if_neg (by decide)])]; rfl
  have h1 := hr 0 (by decide)
  have h2 := hr 1 (by decide)
  have h3 := hr 2 (by decide)
  have e1 : (wFb b).den ρ = ⟨denT ρ wF.t, [((23, 0), [X.den ρ (if Nat.beq b 0 = true then .ro 20 [] false else rlW 410), X.den ρ (if bit b 0 = true then rlW (411 + 0) else .ro 20 [] false), X.den ρ (if bit b 1 = true then rlW (411 + 1) else .ro 20 [] false), X.den ρ (if bit b 2 = true then rlW (411 + 2) else .ro 20 [] false)])], 114⟩ := by
    show (XS.mk wF.t [((23, 0), [if Nat.beq b 0 = true then .ro 20 [] false else rlW 410, if bit b 0 = true then rlW (411 + 0) else .ro 20 [] false, if bit b 1 = true then rlW (411 + 1) else .ro 20 [] false, if bit b 2 = true then rlW (411 + 2) else .ro 20 [] false])] 114).den ρ = _
    generalize Nat.beq b 0 = x0
    generalize bit b 0 = x1
    generalize bit b 1 = x2
    generalize bit b 2 = x3
    cases x0 <;> cases x1 <;> cases x2 <;> cases x3 <;> rfl
  have e2 : wF.den (logR ρ b) = ⟨denT (logR ρ b) wF.t, [((23, 0), [X.den (logR ρ b) (rlW 410), X.den (logR ρ b) (rlW (411 + 0)), X.den (logR ρ b) (rlW (411 + 1)), X.den (logR ρ b) (rlW (411 + 2))])], 114⟩ := rfl
  rw [e1, e2, ht, h0, h1, h2, h3]
theorem frz_AW {E : Aw.Env} {ρ : Rho} {b : Nat} {Q : Exit → St → Prop} (hw : ∀ b, ¬ E.wr b) (hk : ∀ m, ¬ E.c0.kn m) (hb : b < 8) (h : AW Try.prog E r6 Q (wF.den (logR ρ b))) : AW Try.prog E r6 Q ((stB b 6).den ρ) := by
  refine AW_imp (XS.frz_imp hw [(100, 0), (101, 0), (102, 0), (103, 0)] (23, 0) 20 (stB b 6) ρ) (AW_imp (okS_imp (fun m hm => absurd hm (hk m)) (forB frz_b hb) ρ) ?_)
  rw [noB_ap, wFb_den]
  exact h
/-! ### What the letters tell -/
theorem WR.lt {ρ ρ' : Rho} {b : Nat} (h : WR m ρ ρ' b (ρ.len 1) W) (l2 : ρ'.len 2 = n) (g2 : stR ρ' 2 = g) : Lt (ρ.len 1) W m n g (logR ρ' b) where
  n2 := by rw [← (logR_agree ρ' b).len 2 (by decide)]; exact l2
  g2 := by rw [agree_st (logR_agree ρ' b) (by decide)]; exact g2
  m1 := h.rg
  ll := fun r hr => by
    rw [logR_log ρ' b hr]
    cases q : bit b r with
    | true => rw [if_pos rfl]; exact h.at_.ll r hr q
    | false =>
      rw [if_neg (by decide)]
      have : Lr W (ρ.len 1) r = [] := Classical.byContradiction fun k => by rw [(h.at_.lg r hr).2 k] at q; cases q
      rw [this]; rfl
  lr := fun r hr p hp => by
    obtain ⟨j, e, _, _, hj⟩ := lg_lt hp
    have q : bit b r = true := (h.at_.lg r hr).2 fun k => by rw [k] at hp; exact absurd hp (by simp)
    rw [hj, ← h.at_.lr r hr q p j e]
    exact cellsV_congr rfl rfl rfl p kep 0
  al := by
    rw [logR_all]
    by_cases q : b = 0
    · rw [if_pos q]; exact (h.at_.b0.1 q).symm
    · rw [if_neg q]; exact h.at_.n (h.at_.pos q)
  ar := fun j hj => by
    rw [← h.at_.row j hj]
    exact cellsV_congr rfl rfl rfl j kep 0
theorem m_13 (ρ : Rho) : 1 ≤ (wr_I.ap ρ).i 401 ∧ (wr_I.ap ρ).i 401 ≤ 3 := by
  obtain ⟨j, h1, h2⟩ := rem_rng (ρ.i 0) 3 (by decide) (by decide)
  have : (wr_I.ap ρ).i 401 = IOp.den .add .i64 1 (IOp.den .rem .i64 (IOp.den .add .i64 (IOp.den .rem .i64 (ρ.i 0) 3) 3) 3) := rfl
  rw [h1] at this
  simp only [IOp.den] at this
  rw [wrap_id _ (by omega) (by omega)] at this
  omega
theorem sn_agree {ρ ρ' : Rho} {k : Nat} (w : WorldW W N) (ag : Agree k ρ ρ') (hk : 519 ≤ k) : sn true (vC ρ') N W = sn true (vC ρ) N W := by
  unfold sn
  refine List.filter_congr fun e he => ?_
  obtain ⟨j, hj, rfl⟩ := List.mem_map.1 he
  have hj := List.mem_range.1 hj
  have d3 : eD (W j) < 3 := w.d j hj
  have r3 : eR (W j) < 3 := w.r j hj
  unfold had vC
  rw [ag.i _ (by omega)]
theorem lpQ_ok {ρ : Rho} (h1 : LoopOk Try.prog ρ Try.f9.ntmps nw_c nw) (h2 : LoopOk Try.prog ρ Try.f22.ntmps rs_c rs) : ∀ f i, btLook f ftsT = some i → LpsOk Try.prog ρ i.ntmps (lpQ f) i.body := by
  intro f i h
  have hi := fts_ok (f, i) (bt_of_mem _ _ (btLook_mem h))
  unfold lpQ
  split
  · rename_i hf
    obtain rfl := Nat.eq_of_beq_eq_true hf
    exact lps_row hi Try.func9 (lps_idx [0] (by kernel_rfl) (List.forall_mem_cons.2 ⟨look_list (c := nw_c) (Ls := [nw]) (by kernel_rfl) (List.forall_mem_cons.2 ⟨h1, List.forall_mem_nil _⟩), List.forall_mem_nil _⟩))
  · split
    · rename_i hf
      obtain rfl := Nat.eq_of_beq_eq_true hf
      exact lps_row hi Try.func22 (lps_idx [0] (by kernel_rfl) (List.forall_mem_cons.2 ⟨look_list (c := rs_c) (Ls := [rs]) (by kernel_rfl) (List.forall_mem_cons.2 ⟨h2, List.forall_mem_nil _⟩), List.forall_mem_nil _⟩))
    · exact LpsOk.nil _ _ _ _
/-- What is answered. -/
abbrev Tru (e : Exit) (σ : St) : Prop := RetP Try.prog Try.f6.results.toList (.sc (.bool true)) e σ
theorem end_AW {E : Aw.Env} {ρ : Rho} {ks : List (Nat × List X × X)} {lps : Nat → List LoopX} {ls : List LoopX} {Φ : Facts} {x : BE} {s' : XS} (hN : E.N = Try.f6.ntmps) (hk : ∀ m, ¬ E.c0.kn m) (h : endB 0 .ret s' (runH ks lps 6 0 ls r6 (wF.t.map (·.1)) Φ wF) = true) (cok : CfgOk Try.prog ρ (cfgL ks lps)) (hl : LpsOk Try.prog ρ Try.f6.ntmps ls r6) (fs : Facts.ok ρ Φ) (hres : resX (cfgL [] (fun _ => [])).ti s' Try.f6.results.toList = some [.sc (.b x)]) (hx : x.den ρ = true) : AW Try.prog E r6 Tru (wF.den ρ) := by
  have q := endH (out := .ret (.ret, s')) h r6_fit cok hl fs rfl E hN (fun m hm => absurd hm (hk m))
  have r : resK Try.prog (s'.den ρ) Try.f6.results.toList fun vs => oneOf vs = .sc (.bool true) := resX_den (cN_ok ρ).ti hres (by
    show AV.sc (.bool (x.den ρ)) = _
    rw [hx])
  intro a w hr
  refine Code.wp_mono (fun e a' w' hq => ?_) (q a w hr)
  obtain ⟨σ', h1, e', s, _, h3, rfl, h5⟩ := hq
  have h3 : some (XE.ret, s') = some (e', s) := h3
  simp only [Option.some.injEq, Prod.mk.injEq] at h3
  obtain ⟨rfl, rfl⟩ := h3
  exact ⟨s'.den ρ, h5 a' w' h1, .inl rfl, r⟩
/-- Behind the loop over the writes. -/
theorem fin_AW {E : Aw.Env} {ρ : Rho} (hN : E.N = Try.f6.ntmps) (hk : ∀ m, ¬ E.c0.kn m) (L : Lt N W m n g ρ) (hn : n ≤ 6) (k : 1 ≤ n → Wk N W m n g) (m13 : 1 ≤ m ∧ m ≤ 3) : AW Try.prog E r6 Tru (wF.den ρ) := by
  have rg : ∀ {ρ' : Rho}, Agree 402 ρ ρ' → Facts.ok ρ' rgX := fun {ρ'} a => Facts.ok_cons (by rw [dlt_f]; simp only [IE.den]; rw [← a.i 401 (by decide), L.m1]; omega) (Facts.ok_cons (by rw [dlt_f]; simp only [IE.den]; rw [← a.i 401 (by decide), L.m1]; omega) (Facts.ok_nil _))
  obtain ⟨y, hy, hb, hcy⟩ := right_cy ρ n g (by omega) L.n2 L.g2
  have kden : ∀ {ρ' : Rho}, Agree 402 ρ ρ' → X.denL ρ' [kyW] = [roV n g] := fun {ρ'} a => by
    have : X.denL ρ' [kyW] = [roV (ρ'.len 2) (stR ρ' 2)] := by simp only [X.denL]; exact congrArg (fun x => [x]) (ky_den ρ')
    rw [this, ← a.len 2 (by decide), agree_st a (by decide), L.n2, L.g2]
  have kr : ∀ {ρ' : Rho}, Agree 402 ρ ρ' → ∀ q ∈ [kRg y], hasBody Try.prog q.1 = true ∧ ∀ h hp, CY Try.prog h q.1 (X.denL ρ' q.2.1) hp (q.2.2.den ρ') [] := fun {ρ'} a => List.forall_mem_cons.2 ⟨by
    show hasBody Try.prog 32 = true ∧ ∀ h hp, CY Try.prog h 32 (X.denL ρ' [kyW]) hp (.sc (.bool y)) []
    rw [kden a]
    exact ⟨hb, hcy⟩, List.forall_mem_nil _⟩
  cases y with
  | false =>
    exact end_AW hN hk r6_er (cK_ok (kr (Agree.refl _ _))) (LpsOk.nil _ _ _ _) (all_ok (rg (Agree.refl _ _)) (Facts.ok_cons (by rw [dlt_f]; simp only [IE.den, L.n2]; omega) (Facts.ok_nil _))) okF_res rfl
  | true =>
    obtain ⟨_, n1, n6⟩ := hy.1 rfl
    have k := k n1
    obtain ⟨ρ3, a3, q3, lnw⟩ := nw_ok L.n2 n1 n6
    have L3 := L.agree a3 (by decide)
    obtain ⟨ρ4, a4, ⟨t, t1, t2, t3, vg, hF⟩, lmn⟩ := mn_ok k L3 q3.1 q3.2
    have L4 := L3.agree a4 (by decide)
    have all : ∀ j, ∃ c : Nat → Int, j < n → ra_ ρ4 504 j = anL (grW (g j) (sn true (vC ρ4) N W)) c := fun j => by
      by_cases q : j < n
      · obtain ⟨c, hc⟩ := hF j q
        exact ⟨c, fun _ => hc⟩
      · exact ⟨fun _ => 0, fun h => absurd h q⟩
    obtain ⟨c, hc⟩ := Classical.axiomOfChoice all
    have kw : ∀ j, j < n → ∀ b, grW (g j) (sn true (vC ρ4) N W) = some b → Kw b := fun j _ b hb => by
      have h1 := (List.mem_filter.1 (gr_mem hb).1).1
      obtain ⟨i, hi, rfl⟩ := List.mem_map.1 h1
      exact k.kw i (List.mem_range.1 hi)
    obtain ⟨ρ5, a5, q5, lrs⟩ := rs_ok (o := fun j => grW (g j) (sn true (vC ρ4) N W)) (c := c) n1 n6 L4.n2 L4.g2 kw hc
    have L5 := L4.agree a5 (by decide)
    have vg5 : Vg W N (vA ρ5 510) := vg.same k.wd fun x y hx hy => (a5.i _ (by omega)).symm
    obtain ⟨ρ6, a6, lck⟩ := ck_ok k L5 vg5
    have L6 := L5.agree a6 (by decide)
    have q6 : RsQ g (fun j => grW (g j) (sn true (vC ρ6) N W)) n ρ6 := ⟨by rw [← a6.len 831 (by decide)]; exact q5.1, fun x hx => by
      rw [rk_agree a6 (by decide), q5.2 x hx, sn_agree k.wd a6 (by decide), sn_agree k.wd a5 (by decide)]⟩
    obtain ⟨ρ7, a7, lfo⟩ := fo_ok k L6 q6
    have L7 := L6.agree a7 (by decide)
    have a67 : Agree 840 ρ5 ρ7 := a6.trans (a7.le (by decide))
    have a47 : Agree 830 ρ4 ρ7 := a5.trans (a67.le (by decide))
    have a37 : Agree 500 ρ3 ρ7 := a4.trans (a47.le (by decide))
    have a07 : Agree 402 ρ ρ7 := (a3.le (by decide)).trans (a37.le (by decide))
    have lnw : LoopOk Try.prog ρ7 Try.f9.ntmps nw_c nw := LoopOk.agree (B := 500) (by kernel_rfl) rfl (by kernel_rfl) a37 lnw
    have lmn : LoopOk Try.prog ρ7 Try.f6.ntmps mn_c mn := LoopOk.agree (B := 830) (by kernel_rfl) rfl (by kernel_rfl) a47 lmn
    have lrs : LoopOk Try.prog ρ7 Try.f22.ntmps rs_c rs := LoopOk.agree (B := 840) (by kernel_rfl) rfl (by kernel_rfl) a67 lrs
    have lck : LoopOk Try.prog ρ7 Try.f6.ntmps ck_c ck := LoopOk.agree (B := 850) (by kernel_rfl) rfl (by kernel_rfl) a7 lck
    have l8 : ρ7.len 831 = n := by rw [← a7.len 831 (by decide)]; exact q6.1
    rw [XS.bel_den ((a3.le (show 460 ≤ 460 by decide)).trans (a37.le (by decide))) wF (by kernel_rfl)]
    refine end_AW hN hk r6_ok (cfgL_ok (kr a07) (lpQ_ok lnw lrs)) ?_ ?_ okT_res ?_
    · exact lps_idx [0, 1, 2] r6_loops (List.forall_mem_cons.2 ⟨look_list (c := mn_c) (Ls := [mn]) (by kernel_rfl) (List.forall_mem_cons.2 ⟨lmn, List.forall_mem_nil _⟩), List.forall_mem_cons.2 ⟨look_list (c := ck_c) (Ls := [ck]) (by kernel_rfl) (List.forall_mem_cons.2 ⟨lck, List.forall_mem_nil _⟩), List.forall_mem_cons.2 ⟨look_list (c := fo_c) (Ls := [fo]) (by kernel_rfl) (List.forall_mem_cons.2 ⟨lfo, List.forall_mem_nil _⟩), List.forall_mem_nil _⟩⟩⟩)
    · have e2 : ρ7.i 502 = t := by rw [← a47.i 502 (by decide)]; exact t1
      have e3 : ρ7.i 503 = 0 := by rw [← a47.i 503 (by decide)]; exact t2
      have e5 : ρ7.len 505 = t := by rw [← a47.len 505 (by decide)]; exact t3
      refine all_ok (rg a07) (all_ok (Facts.ok_cons ?_ (Facts.ok_cons ?_ (Facts.ok_nil _))) (Facts.ok_cons ?_ (Facts.ok_cons ?_ (Facts.ok_cons ?_ (Facts.ok_cons ?_ (Facts.ok_cons ?_ (Facts.ok_cons ?_ (Facts.ok_nil _))))))))
      · rw [dlt_f]; simp only [IE.den, L7.n2]; omega
      · rw [dlt_f]; simp only [IE.den, L7.n2]; omega
      · rw [dlt_f]; simp only [IE.den, e3]; omega
      · rw [dlt_f]; simp only [IE.den, e3]; omega
      · rw [dlt_f]; simp only [IE.den, e2]; omega
      · rw [dlt_f]; simp only [IE.den, IOp.den, e2, e3, e5]; omega
      · rw [dlt_f]; simp only [IE.den, L7.n2]; omega
      · rw [dlt_f]; simp only [IE.den, L7.n2]; omega
    · rw [deq_t]; simp only [IE.den, l8, L7.n2]
theorem wd_bel : X.belL 400 wdA = true := by kernel_rfl
theorem wl_cy (ρ : Rho) (hc : ∀ j, 0 ≤ ρ.ci 1 1002 j) (hz : ∀ j, j < ρ.len 2 → (stR ρ 2 j).size < 9223372036854775808) : ∀ k hp, CY Try.prog k 6 (X.denL ρ wdA) hp (.sc (.bool true)) [] := by
  by_cases l1 : ρ.len 1 ≤ 60
  · by_cases l2 : ρ.len 2 ≤ 6
    · by_cases l3 : ρ.len 3 ≤ 100
      · obtain ⟨b, ρf, ag, hq, lw⟩ := wr_ok ρ l1 hc
        rw [X.belL_den ag wdA wd_bel]
        have fs : Facts.ok ρf wdF := wd_ok (by rw [← ag.len 1 (by decide)]; exact l1) (by rw [← ag.len 2 (by decide)]; exact l2) (by rw [← ag.len 3 (by decide)]; exact l3)
        rcases hq with h5 | ⟨h5, h6, hb, W, hW⟩
        · have lK : LoopOk Try.prog ρf Try.f6.ntmps wr_c wrK := one_way lw rfl rfl rfl fun e s hs => by
            have : wr.out.sel ρf = _ := wr_outK h5
            rw [this] at hs
            exact hs
          have q := askF_ok (c := ⟨cfgL [] (lpO 6 wrK), l_able, [33]⟩) (f := 6) (args := wdA) (Φ := wdF) (cfgL_ok (List.forall_mem_nil _) (lpO_ok Try.func6 wrK_o rfl (by kernel_rfl) lK)) l_able_ok fs (r := .sc (.b (.lit true))) (by rw [bad_w]; rfl)
          exact q.2
        · have lB : LoopOk Try.prog ρf Try.f6.ntmps wr_c (wrB b) := one_way lw rfl rfl rfl fun e s hs => by
            have : wr.out.sel ρf = _ := wr_outX hb h5 h6
            rw [this] at hs
            exact hs
          refine fun k hp => CY_pureO (r := .sc (.bool true)) Try.func6 (c := b6) (by kernel_rfl) (Nat.le_of_ble_eq_true (by kernel_rfl)) (X.nnL_den ρf wdA (by kernel_rfl)) rfl (fun E hN hw hk => ?_) k hp
          refine pre_AW hN hk hb fs lB (frz_AW hw hk hb ?_)
          have m13 := m_13 ρ
          have zz : ∀ j, j < ρ.len 2 → (stR ρ 2 j).size < 9223372036854775808 := hz
          refine fin_AW (g := stR ρ 2) hN hk (hW.lt (ag.len 2 (by decide)).symm (agree_st ag (by decide))) l2 (fun n1 => ?_) m13
          exact ⟨hW.at_.wd, hW.at_.nb, fun j hj => by rw [← hW.at_.row j hj]; exact kc_rw _ _ _, hW.at_.d0, hW.at_.d1, m13, hW.k, n1, l2, zz⟩
      · have q := askF_ok (c := ⟨cfgL [] (fun _ => []), l_able, [33]⟩) (ρ := ρ) (f := 6) (args := wdA) (cN_ok ρ) l_able_ok (Φ := [(.lt (.lit 60) (.len 1), false), (.lt (.lit 6) (.len 2), false), (.lt (.lit 100) (.len 3), true)]) (Facts.ok_cons (by rw [dlt_f]; simp only [IE.den]; omega) (Facts.ok_cons (by rw [dlt_f]; simp only [IE.den]; omega) (Facts.ok_cons (by rw [dlt_t]; simp only [IE.den]; omega) (Facts.ok_nil _)))) (r := .sc (.b (.lit true))) (by rw [long_3]; rfl)
        exact q.2
    · have q := askF_ok (c := ⟨cfgL [] (fun _ => []), l_able, [33]⟩) (ρ := ρ) (f := 6) (args := wdA) (cN_ok ρ) l_able_ok (Φ := [(.lt (.lit 60) (.len 1), false), (.lt (.lit 6) (.len 2), true)]) (Facts.ok_cons (by rw [dlt_f]; simp only [IE.den]; omega) (Facts.ok_cons (by rw [dlt_t]; simp only [IE.den]; omega) (Facts.ok_nil _))) (r := .sc (.b (.lit true))) (by rw [long_2]; rfl)
      exact q.2
  · have q := askF_ok (c := ⟨cfgL [] (fun _ => []), l_able, [33]⟩) (ρ := ρ) (f := 6) (args := wdA) (cN_ok ρ) l_able_ok (Φ := [(.lt (.lit 60) (.len 1), true)]) (Facts.ok_cons (by rw [dlt_t]; simp only [IE.den]; omega) (Facts.ok_nil _)) (r := .sc (.b (.lit true))) (by rw [long_1]; rfl)
    exact q.2
end Go.Proofs.Ytdlifdoglhhnfaa

/- Txn: TxnWorld: the law's arguments, as they are handed in. -/
namespace Go.Proofs.Ytdlifdoglhhnfaa
open Go Go.Proofs.Aw Go.Proofs.Xw Go.Proofs.Sr
set_option maxRecDepth 100000
def wdSh : List Sh2 := [.flat [.i .i64] false, .sn [.f .s, .f (.i .i64), .r 1 130 [.i .i64]], .sl [.s], .sl [.i .i64]]
def wdNz (_ : Nat) : Nat := 1
theorem wd_pats : pats2 0 0 wdSh = wdA := by kernel_rfl
theorem wd_shOk : shOk Try.prog 0 Try.f6.params.toList wdSh := ⟨by kernel_rfl, by kernel_rfl, by kernel_rfl, by kernel_rfl, trivial⟩
theorem wl_law (W : World) (vs : List Value) (hl : wdSh.length = vs.length) (hf : ∀ (i : Nat) (sh : Sh2) (v : Value), wdSh[i]? = some sh → vs[i]? = some v → Fits2 W sh v) (_hs : Short Try.prog Try.f6.params.toList vs) : CY Try.prog 0 6 (X.denL (mkR2 W (plain2 wdSh vs) vs (wdSh.map shZ2) wdNz) (pats2 0 0 wdSh)) [] (.sc (.bool true)) [] := by
  rw [wd_pats]
  match vs, hl with
  | [v0, v1, v2, v3], _ =>
    have f2 : Fits W (.sl [.s]) v2 := hf 2 (.sl [.s]) v2 rfl rfl
    refine wl_cy _ (fun j => ?_) (fun k hk => ?_) 0 []
    · show (0 : Int) ≤ ((lenO _ : Nat) : Int)
      exact Int.natCast_nonneg _
    · obtain ⟨_, A, len, cap, e, _, h⟩ := f2
      have hk : k < len := by
        have : (mkR2 W (plain2 wdSh [v0, v1, v2, v3]) [v0, v1, v2, v3] (wdSh.map shZ2) wdNz).len 2 = lenO (some v2) := rfl
        rw [this, e] at hk
        exact hk
      obtain ⟨a, rfl, _, h⟩ := h (by omega)
      obtain ⟨cs, ⟨v, r, rfl, ⟨s, rfl, hs⟩, _⟩, hc⟩ := h k hk
      have h0 := hc 0 (by decide)
      simp only [List.length_cons, List.length_nil, List.getElem?_cons_zero] at h0
      show (strO (rowCell W [v0, v1, v2, v3] (wdSh.map shZ2) 2 0 k)).size < _
      have : rowCell W [v0, v1, v2, v3] (wdSh.map shZ2) 2 0 k = some (.string s) := by
        rw [e]
        exact h0
      rw [this]
      show s.size < _
      have : maxLen = 9223372036854775807 := rfl
      omega
end Go.Proofs.Ytdlifdoglhhnfaa
