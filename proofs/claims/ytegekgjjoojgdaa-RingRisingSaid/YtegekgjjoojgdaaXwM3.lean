/- Parts of the logic that the proof runs in, one behind the other. -/
import Derived.Test.YtegekgjjoojgdaaXwM2
/- Symbolic runs, part 23: loops that count; what is shown of a function's loops. -/
namespace Go.Proofs.Xw
open Go Go.Proofs.Aw

theorem wrap_id (x : Int) (h0 : -9223372036854775808 ≤ x) (h1 : x < 9223372036854775808) : IntKind.i64.wrap x = x := IntWalk.i64_in x ⟨by omega, by omega⟩
/-- A letter that counts the rounds. -/
theorem it_count {β : Bind} {I : Nat} {e : IE} (hI : lassoc I β.i = some (.op .add .i64 (.var I) (.lit 1))) {ρ : Rho} (h0 : ρ.i I = 0) : ∀ j : Nat, j < 9223372036854775808 → (β.it ρ j).i I = j
  | 0, _ => by simpa [Bind.it] using h0
  | j + 1, hj => by
    have ih := it_count (e := e) hI h0 j (by omega)
    simp only [Bind.it]
    rw [show (β.ap (β.it ρ j)).i I = IE.den (β.it ρ j) (.op .add .i64 (.var I) (.lit 1)) from by simp only [Bind.ap, hI]]
    simp only [IE.den, IOp.den, ih]
    rw [wrap_id _ (by omega) (by omega)]
    omega
theorem Facts.bel_ok {n : Nat} {ρ ρ' : Rho} (h : Agree n ρ ρ') {Φ : Facts} (hb : Φ.all (fun p => p.1.bel n) = true) (hk : Facts.ok ρ Φ) : Facts.ok ρ' Φ := fun p hp => by
  rw [← BE.bel_den h p.1 (List.all_eq_true.1 hb p hp)]
  exact hk p hp
/-- A loop that counts up to a number of rows, with one way round and one way out. -/
theorem loopOk_cnt {P : Program} {ρ : Rho} {N : Nat} {body : Code} {L : LoopX} {ti : Nat → Option TI} {call : CallF} {ms : List Nat} {lps : List LoopX} {fuel : Nat} (hm : P.follows .mixedOrders = true) (hti : TIs.ok P ti)
    {Φ : Facts} {tr : T (XE × XS)} (hrun : (codeX ti call ms L.k0 lps fuel body Φ L.S).map (sqz (L.S.t.map (·.1))) = tr) (hfit : fitsC N body = true) {β : Bind} {nm : List (Nm × Nm)} (hback : tr.nrm (okS L.k0 L.n β nm L.S) = true) (hout : L.out = tr.outs)
    (B : Nat) (hbel : tr.outs.belX B = true) (hi : L.init.bel L.n = true) (hb : β.ge L.n = true) (hs : L.init.same β = true)
    {I l : Nat} {s1 s2 : XS} {e2 : XE} (htr : tr = .br (.lt (.var I) (.len l)) (.ret (.normal, s1)) (.ret (e2, s2))) (he2 : e2 ≠ .normal) (hI : lassoc I β.i = some (.op .add .i64 (.var I) (.lit 1))) (hI0 : lassoc I L.init.i = some (.lit 0)) (hl : Nat.blt l L.n = true)
    {Φ0 : Facts} (hΦ : Φ = (.lt (.var I) (.lit 0), false) :: Φ0) (hΦb : Φ0.all (fun p => p.1.bel L.n) = true) (hΦ0 : Facts.ok ρ Φ0) (hge : L.init.ge L.n = true) (hlen : ρ.len l < 9223372036854775808)
    (hcall : ∀ ρ', CallOk P ρ' call) (hlps : ∀ ρ', LpsOk P ρ' N lps body) : LoopOk P (β.it (L.init.ap ρ) (ρ.len l)) N body L := by
  have hl' : l < L.n := by simpa [Nat.blt_eq] using hl
  have cnt := fun j => it_count (e := .lit 0) hI (ρ := L.init.ap ρ) (by simp only [Bind.ap, hI0]; rfl) j
  have ag := fun j => (Bind.agree hge ρ).trans (Bind.it_agree hb (L.init.ap ρ) j)
  refine loopOk_it hm hti hrun hfit hback hout B hbel hi hb hs (ρ.len l) fun j hj => ⟨hcall _, hlps _, ?_, ?_⟩
  · rw [hΦ]
    refine Facts.ok_cons ?_ (Facts.bel_ok (ag j) hΦb hΦ0)
    simp only [BE.den, IE.den, cnt j (by omega)]
    exact decide_eq_false (by omega)
  · have hlj : (β.it (L.init.ap ρ) j).len l = ρ.len l := ((ag j).len l hl').symm
    by_cases hjn : j < ρ.len l
    · rw [if_pos hjn]
      refine ⟨s1, ?_⟩
      rw [htr]
      simp only [T.sel, BE.den, IE.den, cnt j (by omega), hlj]
      rw [if_pos (decide_eq_true (by omega))]
    · rw [if_neg hjn]
      refine ⟨e2, s2, he2, ?_⟩
      rw [htr]
      simp only [T.sel, BE.den, IE.den, cnt j (by omega), hlj]
      rw [if_neg (by simp; omega)]
/-- A loop that counts up to a number: each round's way is told. -/
theorem loopOk_cntG {P : Program} {ρ : Rho} {N : Nat} {body : Code} {L : LoopX} {ti : Nat → Option TI} {call : CallF} {ms : List Nat} {lps : List LoopX} {fuel : Nat} (hm : P.follows .mixedOrders = true) (hti : TIs.ok P ti)
    {Φ : Facts} {tr : T (XE × XS)} (hrun : (codeX ti call ms L.k0 lps fuel body Φ L.S).map (sqz (L.S.t.map (·.1))) = tr) (hfit : fitsC N body = true) {β : Bind} {nm : List (Nm × Nm)} (hback : tr.nrm (okS L.k0 L.n β nm L.S) = true) (hout : L.out = tr.outs)
    (B : Nat) (hbel : tr.outs.belX B = true) (hi : L.init.bel L.n = true) (hb : β.ge L.n = true) (hs : L.init.same β = true)
    {I : Nat} (hI : lassoc I β.i = some (.op .add .i64 (.var I) (.lit 1))) (hI0 : lassoc I L.init.i = some (.lit 0)) {Φ0 : Facts} (hΦ : Φ = (.lt (.var I) (.lit 0), false) :: Φ0) (hΦb : Φ0.all (fun p => p.1.bel L.n) = true) (hΦ0 : Facts.ok ρ Φ0) (hge : L.init.ge L.n = true)
    (hcall : ∀ ρ', CallOk P ρ' call) (hlps : ∀ ρ', LpsOk P ρ' N lps body) (n : Nat) (hn : n < 9223372036854775808)
    (hgo : ∀ j, j < n → (β.it (L.init.ap ρ) j).i I = j → Agree L.n ρ (β.it (L.init.ap ρ) j) → ∃ s, tr.sel (β.it (L.init.ap ρ) j) = some (.normal, s))
    (hend : (β.it (L.init.ap ρ) n).i I = n → Agree L.n ρ (β.it (L.init.ap ρ) n) → ∃ e s, e ≠ XE.normal ∧ tr.sel (β.it (L.init.ap ρ) n) = some (e, s)) : LoopOk P (β.it (L.init.ap ρ) n) N body L := by
  have cnt := fun j => it_count (e := .lit 0) hI (ρ := L.init.ap ρ) (by simp only [Bind.ap, hI0]; rfl) j
  have ag := fun j => (Bind.agree hge ρ).trans (Bind.it_agree hb (L.init.ap ρ) j)
  refine loopOk_it hm hti hrun hfit hback hout B hbel hi hb hs n fun j hj => ⟨hcall _, hlps _, ?_, ?_⟩
  · rw [hΦ]
    refine Facts.ok_cons ?_ (Facts.bel_ok (ag j) hΦb hΦ0)
    simp only [BE.den, IE.den, cnt j (by omega)]
    exact decide_eq_false (by omega)
  · by_cases hjn : j < n
    · rw [if_pos hjn]
      exact hgo j hjn (cnt j (by omega)) (ag j)
    · obtain rfl : j = n := by omega
      rw [if_neg hjn]
      exact hend (cnt j (by omega)) (ag j)
/-- The simplest: up to a number that stays, with one way round and one way out. -/
theorem loopOk_cntE {P : Program} {ρ : Rho} {N : Nat} {body : Code} {L : LoopX} {ti : Nat → Option TI} {call : CallF} {ms : List Nat} {lps : List LoopX} {fuel : Nat} (hm : P.follows .mixedOrders = true) (hti : TIs.ok P ti)
    {Φ : Facts} {tr : T (XE × XS)} (hrun : (codeX ti call ms L.k0 lps fuel body Φ L.S).map (sqz (L.S.t.map (·.1))) = tr) (hfit : fitsC N body = true) {β : Bind} {nm : List (Nm × Nm)} (hback : tr.nrm (okS L.k0 L.n β nm L.S) = true) (hout : L.out = tr.outs)
    (B : Nat) (hbel : tr.outs.belX B = true) (hi : L.init.bel L.n = true) (hb : β.ge L.n = true) (hs : L.init.same β = true)
    {I : Nat} {e : IE} {s1 s2 : XS} {e2 : XE} (htr : tr = .br (.lt (.var I) e) (.ret (.normal, s1)) (.ret (e2, s2))) (he2 : e2 ≠ .normal) (hI : lassoc I β.i = some (.op .add .i64 (.var I) (.lit 1))) (hI0 : lassoc I L.init.i = some (.lit 0)) (he : e.bel L.n = true)
    {Φ0 : Facts} (hΦ : Φ = (.lt (.var I) (.lit 0), false) :: Φ0) (hΦb : Φ0.all (fun p => p.1.bel L.n) = true) (hΦ0 : Facts.ok ρ Φ0) (hge : L.init.ge L.n = true)
    (hcall : ∀ ρ', CallOk P ρ' call) (hlps : ∀ ρ', LpsOk P ρ' N lps body) (n : Nat) (hn : n < 9223372036854775808) (hen : e.den ρ = n) : LoopOk P (β.it (L.init.ap ρ) n) N body L := by
  refine loopOk_cntG hm hti hrun hfit hback hout B hbel hi hb hs hI hI0 hΦ hΦb hΦ0 hge hcall hlps n hn (fun j hj hc ha => ⟨s1, ?_⟩) (fun hc ha => ⟨e2, s2, he2, ?_⟩)
  · rw [htr]
    simp only [T.sel, BE.den, ← IE.bel_den ha e he, hen, IE.den, hc]
    rw [if_pos (decide_eq_true (by omega))]
  · rw [htr]
    simp only [T.sel, BE.den, ← IE.bel_den ha e he, hen, IE.den, hc]
    rw [if_neg (by simp)]
/-- The letters behind a loop that counts up to a number of rows. -/
def fin (ι β : Bind) (l : Nat) (ρ : Rho) : Rho := β.it (ι.ap ρ) (ρ.len l)
theorem fin_agree {n : Nat} {ι β : Bind} (hi : ι.ge n = true) (hb : β.ge n = true) (l : Nat) (ρ : Rho) : Agree n ρ (fin ι β l ρ) := (Bind.agree hi ρ).trans (Bind.it_agree hb _ _)
theorem fin_count {ι β : Bind} {I : Nat} (hI : lassoc I β.i = some (.op .add .i64 (.var I) (.lit 1))) (hI0 : lassoc I ι.i = some (.lit 0)) (l : Nat) (ρ : Rho) (hlen : ρ.len l < 9223372036854775808) : (fin ι β l ρ).i I = ρ.len l :=
  it_count (e := .lit 0) hI (by simp only [Bind.ap, hI0]; rfl) _ hlen
/-- Of the other loops nothing is told. -/
def othersB (lps : List LoopX) (ks : List Nat) : Nat → List Code → Bool
  | _, [] => true
  | k, c :: r => (natIn k ks || (lookL (codeKey c) lps).isEmpty) && othersB lps ks (k + 1) r
theorem natIn_mem {k : Nat} : ∀ {l : List Nat}, natIn k l = true → k ∈ l
  | [], h => by cases h
  | a :: r, h => by
    simp only [natIn, Bool.or_eq_true] at h
    rcases h with h | h
    · rw [Nat.eq_of_beq_eq_true h]; exact List.mem_cons_self
    · exact List.mem_cons_of_mem _ (natIn_mem h)
theorem lps_idx {P : Program} {ρ : Rho} {N : Nat} {lps : List LoopX} {c : Code} (ks : List Nat) (ho : othersB lps ks 0 (loopsOf c) = true)
    (h : ∀ k ∈ ks, ∀ L ∈ lookL (codeKey ((loopsOf c)[k]?.getD .skip)) lps, LoopOk P ρ N ((loopsOf c)[k]?.getD .skip) L) : LpsOk P ρ N lps c := by
  unfold LpsOk
  generalize hl : loopsOf c = l at h ho ⊢
  have key : ∀ (r : List Code) (k0 : Nat), othersB lps ks k0 r = true → (∀ j, r[j]? = l[k0 + j]?) → ∀ c' ∈ r, ∀ L ∈ lookL (codeKey c') lps, LoopOk P ρ N c' L := by
    intro r
    induction r with
    | nil => intro k0 _ _ c' hc; cases hc
    | cons d r ih =>
      intro k0 ho hj c' hc L hL
      simp only [othersB, Bool.and_eq_true, Bool.or_eq_true] at ho
      rcases List.mem_cons.1 hc with rfl | hc
      · have h0 := hj 0
        simp only [List.getElem?_cons_zero, Nat.add_zero] at h0
        rcases ho.1 with h1 | h1
        · have := h k0 (natIn_mem h1)
          rw [← h0] at this
          exact this L hL
        · rw [List.isEmpty_iff.1 h1] at hL; cases hL
      · exact ih (k0 + 1) ho.2 (fun j => by have := hj (j + 1); rw [List.getElem?_cons_succ] at this; rw [this]; congr 1; omega) c' hc L hL
  exact key l 0 ho (fun j => by rw [Nat.zero_add])
theorem look_one {P : Program} {ρ : Rho} {N : Nat} {c : Code} {L : LoopX} {lps : List LoopX} (h : lookL (codeKey c) lps = [L]) (hL : LoopOk P ρ N c L) : ∀ K ∈ lookL (codeKey c) lps, LoopOk P ρ N c K := fun K hK => by
  rw [h] at hK
  rw [List.mem_singleton.1 hK]; exact hL
theorem look_list {P : Program} {ρ : Rho} {N : Nat} {c : Code} {Ls lps : List LoopX} (h : lookL (codeKey c) lps = Ls) (hL : ∀ L ∈ Ls, LoopOk P ρ N c L) : ∀ K ∈ lookL (codeKey c) lps, LoopOk P ρ N c K := fun K hK => by
  rw [h] at hK
  exact hL K hK
/-- A truth that is answered where something holds. -/
theorem sel_need_b {ρ : Rho} {c e : BE} (hc : c.den ρ = true) (he : e.den ρ = true) : ∃ e' : BE, (T.need c (.ret (X.sc (.b e)))).sel ρ = some (.sc (.b e')) ∧ e'.den ρ = true :=
  ⟨e, by simp only [T.sel, hc, if_true], he⟩
theorem sel_ret_b {ρ : Rho} {e : BE} (he : e.den ρ = true) : ∃ e' : BE, (T.ret (X.sc (.b e))).sel ρ = some (.sc (.b e')) ∧ e'.den ρ = true := ⟨e, rfl, he⟩
/-- From the table's row to the function's own text. -/
theorem lps_row {P : Program} {ρ : Rho} {f : FuncId} {i : FnI} {fn : Func} {lps : List LoopX} (hi : FnOk P f i) (hf : P.funcs[f]? = some fn) (h : LpsOk P ρ fn.ntmps lps (fn.body.getD .skip)) : LpsOk P ρ i.ntmps lps i.body := by
  obtain ⟨fn', g1, g2, _, g4, _⟩ := hi
  rw [hf] at g1
  cases g1
  rw [← g4]
  rw [g2] at h
  exact h
end Go.Proofs.Xw

/- Symbolic runs, part 24: truths by cases; an argument seen as another, in the light of what is known. -/
namespace Go.Proofs.Xw
open Go Go.Proofs.Aw

/-- The truth that decides first. -/
def atomB : BE → BE
  | .not a => atomB a
  | .and a _ => atomB a
  | .or a _ => atomB a
  | .ite c _ _ => atomB c
  | e => e
def touch : BE → BE → Bool
  | .lt a b, .lt c d => a.beq c || (a.beq d || (b.beq c || b.beq d))
  | .lt a b, .eq c d => a.beq c || (a.beq d || (b.beq c || b.beq d))
  | .eq a b, .lt c d => a.beq c || (a.beq d || (b.beq c || b.beq d))
  | .eq a b, .eq c d => a.beq c || (a.beq d || (b.beq c || b.beq d))
  | a, b => a.beq b
def near (w : Bool) (c : BE) : Facts → Facts
  | [] => []
  | p :: Φ => if (w || touch c p.1) = true then p :: near w c Φ else near w c Φ
theorem near_ok {ρ : Rho} {w : Bool} {c : BE} : ∀ {Φ : Facts}, Facts.ok ρ Φ → Facts.ok ρ (near w c Φ)
  | [], h => h
  | p :: Φ, h => by
    have h1 := Facts.ok_tail h
    unfold near
    split
    · exact fun q hq => by
        rcases List.mem_cons.1 hq with rfl | hq
        · exact h1.1
        · exact near_ok h1.2 q hq
    · exact near_ok h1.2
/-- A truth that holds on every way. -/
def taut (w : Bool) : Nat → Facts → List BE → BE → Bool
  | 0, _, _, _ => false
  | n + 1, Φ, hs, e => match e with
    | .lit b => b
    | e => match hs with
      | [] => taut w n (assume (atomB e) true Φ) [] (red (near w (atomB e) (assume (atomB e) true Φ)) e) && taut w n (assume (atomB e) false Φ) [] (red (near w (atomB e) (assume (atomB e) false Φ)) e)
      | h :: hs => match red (near w h Φ) h with
        | .lit _ => taut w n Φ hs e
        | h => taut w n (assume h true Φ) hs (red (near w h (assume h true Φ)) e) && taut w n (assume h false Φ) hs (red (near w h (assume h false Φ)) e)
theorem taut_ok {ρ : Rho} {w : Bool} : ∀ (n : Nat) (Φ : Facts) (hs : List BE) (e : BE), taut w n Φ hs e = true → Facts.ok ρ Φ → e.den ρ = true
  | 0, _, _, _, h, _ => by cases h
  | n + 1, Φ, hs, e, h, hk => by
    have both : ∀ (c : BE) (hs' : List BE), (taut w n (assume c true Φ) hs' (red (near w c (assume c true Φ)) e) && taut w n (assume c false Φ) hs' (red (near w c (assume c false Φ)) e)) = true → e.den ρ = true := fun c hs' h => by
      rw [Bool.and_eq_true] at h
      cases hc : c.den ρ with
      | true =>
        have hk' := assume_ok c true Φ hc hk
        rw [← red_den (near_ok hk') e]
        exact taut_ok n _ hs' _ h.1 hk'
      | false =>
        have hk' := assume_ok c false Φ hc hk
        rw [← red_den (near_ok hk') e]
        exact taut_ok n _ hs' _ h.2 hk'
    unfold taut at h
    split at h
    · exact h
    · split at h
      · exact both _ _ h
      · split at h
        · exact taut_ok n Φ _ _ h hk
        · exact both _ _ h
theorem taut_iff {w : Bool} {n : Nat} {hs : List BE} {a b : BE} (h : taut w n [] hs (.ite a b (.not b)) = true) (ρ : Rho) : a.den ρ = b.den ρ := by
  have := taut_ok (ρ := ρ) n [] hs _ h (Facts.ok_nil ρ)
  simp only [BE.den] at this
  cases ha : BE.den ρ a <;> cases hb : BE.den ρ b <;> rw [ha, hb] at this <;> simp_all
/-- What is known tells a fact. -/
def sees (Φ : Facts) (p : BE × Bool) : Bool := match red Φ p.1 with
  | .lit b => b == p.2
  | _ => false
theorem sees_ok {ρ : Rho} {Φ : Facts} (hk : Facts.ok ρ Φ) {p : BE × Bool} (h : sees Φ p = true) : p.1.den ρ = p.2 := by
  unfold sees at h
  split at h
  · rename_i b hb
    rw [← red_den hk, hb]
    exact eq_of_beq h
  · cases h
theorem seesAll {ρ : Rho} {Φ Ψ : Facts} (hk : Facts.ok ρ Φ) (h : Ψ.all (sees Φ) = true) : Facts.ok ρ Ψ := fun p hp => sees_ok hk (List.all_eq_true.1 h p hp)

mutual
/-- Two patterns that denote the same, in the light of what is known. -/
def X.like (Φ : Facts) : X → X → Bool
  | .sc (.i ka a), .sc (.i kb b) => kbeq ka kb && (a.beq b || sees Φ (mkEq a b, true))
  | .sc (.b a), .sc (.b b) => a.beq b || sees Φ (mkIff a b, true)
  | .agg xs, .agg ys => X.likeL Φ xs ys
  | x, y => X.beq x y
def X.likeL (Φ : Facts) : List X → List X → Bool
  | [], [] => true
  | x :: xs, y :: ys => X.like Φ x y && X.likeL Φ xs ys
  | _, _ => false
end
mutual
theorem X.like_ok {ρ : Rho} {Φ : Facts} (hk : Facts.ok ρ Φ) : ∀ (x y : X), X.like Φ x y = true → x.den ρ = y.den ρ := fun x y h => by
  unfold X.like at h
  split at h
  · rename_i ka a kb b
    rw [Bool.and_eq_true, Bool.or_eq_true] at h
    have := kbeq_eq h.1
    subst this
    rcases h.2 with h1 | h1
    · rw [IE.beq_eq _ _ h1]
    · have h2 := sees_ok hk h1
      simp only [mkEq_den, beq_iff_eq] at h2
      simp only [X.den, Sc.den, h2]
  · rename_i a b
    rw [Bool.or_eq_true] at h
    rcases h with h1 | h1
    · rw [BE.beq_eq _ _ h1]
    · have h2 := sees_ok hk h1
      simp only [mkIff_den, beq_iff_eq] at h2
      simp only [X.den, Sc.den, h2]
  · simp only [X.den, X.likeL_ok hk _ _ h]
  · rw [X.beq_eq _ _ h]
theorem X.likeL_ok {ρ : Rho} {Φ : Facts} (hk : Facts.ok ρ Φ) : ∀ (xs ys : List X), X.likeL Φ xs ys = true → X.denL ρ xs = X.denL ρ ys
  | [], [], _ => rfl
  | x :: xs, y :: ys, h => by
    simp only [X.likeL, Bool.and_eq_true] at h
    simp only [X.denL, X.like_ok hk x y h.1, X.likeL_ok hk xs ys h.2]
  | [], _ :: _, h => by simp [X.likeL] at h
  | _ :: _, [], h => by simp [X.likeL] at h
end
/-- By cases of a truth. -/
theorem spl {ρ : Rho} {Φ : Facts} {Q : Prop} (c : BE) (hk : Facts.ok ρ Φ) (h1 : Facts.ok ρ (assume c true Φ) → Q) (h2 : Facts.ok ρ (assume c false Φ) → Q) : Q := by
  cases hc : c.den ρ with
  | true => exact h1 (assume_ok c true Φ hc hk)
  | false => exact h2 (assume_ok c false Φ hc hk)
/-- A run that answers true serves all that looks like its arguments. -/
theorem serves {P : Program} {ρ : Rho} {c : Cfg2} {f : Nat} {args pat : List X} {Φ Ψ : Facts} (hk : Facts.ok ρ Φ) (hc : CfgOk P ρ c.c) (hs : ∀ s ∈ c.sm, SmOk P s) (hr : askF c f pat Ψ = .ret (.sc (.b (.lit true)))) (hl : X.likeL Φ args pat = true) (hf : Ψ.all (sees Φ) = true) (n : Nat) (h : Hp) :
    CY P n f (X.denL ρ args) h (.sc (.bool true)) [] := by
  rw [X.likeL_ok hk _ _ hl]
  exact (askF_ok hc hs (seesAll hk hf) (r := .sc (.b (.lit true))) (by rw [hr]; rfl)).2 n h
def bOf : X → BE
  | .sc (.b e) => e
  | _ => .lit false
end Go.Proofs.Xw

/- Symbolic runs, part 25: a loop by cases: each round is one of many, and each of these has a run of its own. -/
namespace Go.Proofs.Xw
open Go Go.Proofs.Aw

/-! ### Letters that are put lie in no other place -/
structure Off (ι : Bind) (ρ ρ' : Rho) : Prop where
  i : ∀ k, lassoc k ι.i = none → ρ'.i k = ρ.i k
  b : ∀ k, lassoc k ι.b = none → ρ'.b k = ρ.b k
  s : ∀ k, lassoc k ι.s = none → ρ'.s k = ρ.s k
  r : ∀ k, lassoc k ι.r = none → ρ'.len k = ρ.len k ∧ ρ'.ci k = ρ.ci k ∧ ρ'.cb k = ρ.cb k ∧ ρ'.cs k = ρ.cs k
theorem Off.refl (ι : Bind) (ρ : Rho) : Off ι ρ ρ := ⟨fun _ _ => rfl, fun _ _ => rfl, fun _ _ => rfl, fun _ _ => ⟨rfl, rfl, rfl, rfl⟩⟩
theorem Off.trans {ι : Bind} {a b c : Rho} (h : Off ι a b) (k : Off ι b c) : Off ι a c :=
  ⟨fun j hj => (k.i j hj).trans (h.i j hj), fun j hj => (k.b j hj).trans (h.b j hj), fun j hj => (k.s j hj).trans (h.s j hj),
   fun j hj => ⟨(k.r j hj).1.trans (h.r j hj).1, (k.r j hj).2.1.trans (h.r j hj).2.1, (k.r j hj).2.2.1.trans (h.r j hj).2.2.1, (k.r j hj).2.2.2.trans (h.r j hj).2.2.2⟩⟩
theorem Off.of {ι β : Bind} (h : ι.same β = true) (ρ : Rho) : Off ι ρ (β.ap ρ) := by
  simp only [Bind.same, Bool.and_eq_true] at h
  obtain ⟨s1, s2, s3, s4⟩ := h
  refine ⟨fun k hk => ?_, fun k hk => ?_, fun k hk => ?_, fun k hk => ⟨?_, ?_, ?_, ?_⟩⟩
  · simp only [Bind.ap, (lassoc_same s1).1 hk]
  · simp only [Bind.ap, (lassoc_same s2).1 hk]
  · simp only [Bind.ap, (lassoc_same s3).1 hk]
  · simp only [Bind.ap, (lassoc_same s4).1 hk]
  · funext a b; simp only [Bind.ap, (lassoc_same s4).1 hk]
  · funext a b; simp only [Bind.ap, (lassoc_same s4).1 hk]
  · funext a b; simp only [Bind.ap, (lassoc_same s4).1 hk]
theorem Off.self (ι : Bind) (ρ : Rho) : Off ι ρ (ι.ap ρ) := by
  refine ⟨fun k hk => ?_, fun k hk => ?_, fun k hk => ?_, fun k hk => ⟨?_, ?_, ?_, ?_⟩⟩
  · simp only [Bind.ap, hk]
  · simp only [Bind.ap, hk]
  · simp only [Bind.ap, hk]
  · simp only [Bind.ap, hk]
  · funext a b; simp only [Bind.ap, hk]
  · funext a b; simp only [Bind.ap, hk]
  · funext a b; simp only [Bind.ap, hk]
/-- Put anew from the start: what the rounds had put is gone. -/
theorem Off.init {n : Nat} {ι : Bind} (hi : ι.bel n = true) {ρ ρ' : Rho} (h : Off ι ρ ρ') (hag : Agree n ρ' ρ) : ι.ap ρ' = ι.ap ρ := by
  simp only [Bind.bel, Bool.and_eq_true] at hi
  obtain ⟨h1, h2, h3, h4⟩ := hi
  obtain ⟨i1, i2, i3, i4⟩ := h
  have ext : ∀ {a b : Rho}, a.i = b.i → a.b = b.b → a.s = b.s → a.len = b.len → a.ci = b.ci → a.cb = b.cb → a.cs = b.cs → a = b := fun {a b} q1 q2 q3 q4 q5 q6 q7 => by
    cases a; cases b; simp only at q1 q2 q3 q4 q5 q6 q7; subst q1 q2 q3 q4 q5 q6 q7; rfl
  refine ext ?_ ?_ ?_ ?_ ?_ ?_ ?_
  · funext k; simp only [Bind.ap]
    cases he : lassoc k ι.i with
    | none => exact i1 k he
    | some e => exact IE.bel_den hag e (lassoc_bel h1 he)
  · funext k; simp only [Bind.ap]
    cases he : lassoc k ι.b with
    | none => exact i2 k he
    | some e => exact BE.bel_den hag e (lassoc_bel h2 he)
  · funext k; simp only [Bind.ap]
    cases he : lassoc k ι.s with
    | none => exact i3 k he
    | some e => exact TE.bel_den hag e (lassoc_bel h3 he)
  · funext k; simp only [Bind.ap]
    cases he : lassoc k ι.r with
    | none => exact (i4 k he).1
    | some e =>
      have := lassoc_bel h4 he
      simp only [Bool.and_eq_true] at this
      exact congrArg Int.toNat (IE.bel_den hag e.1 this.1)
  · funext k a b; simp only [Bind.ap]
    cases he : lassoc k ι.r with
    | none => exact congrFun (congrFun (i4 k he).2.1 a) b
    | some e =>
      have := lassoc_bel h4 he
      simp only [Bool.and_eq_true] at this
      exact congrArg (fun r : List AV => cellI r[a]?) (RL.bel_row hag e.2 b this.2)
  · funext k a b; simp only [Bind.ap]
    cases he : lassoc k ι.r with
    | none => exact congrFun (congrFun (i4 k he).2.2.1 a) b
    | some e =>
      have := lassoc_bel h4 he
      simp only [Bool.and_eq_true] at this
      exact congrArg (fun r : List AV => cellB r[a]?) (RL.bel_row hag e.2 b this.2)
  · funext k a b; simp only [Bind.ap]
    cases he : lassoc k ι.r with
    | none => exact congrFun (congrFun (i4 k he).2.2.2 a) b
    | some e =>
      have := lassoc_bel h4 he
      simp only [Bool.and_eq_true] at this
      exact congrArg (fun r : List AV => cellS r[a]?) (RL.bel_row hag e.2 b this.2)

/-! ### From round to round -/
/-- One round leads from these letters to those. -/
def StepL (P : Program) (N : Nat) (body : Code) (k0 : Nat) (S : XS) (ρ ρ' : Rho) : Prop :=
  ∀ E : Aw.Env, E.N = N → (∀ m, E.c0.kn m → m.1 < k0) → AW P E body (fun e σ => e = XE.normal.to ∧ Imp E σ (S.den ρ')) (S.den ρ)
/-- From these letters the round ends the loop. -/
def EndL (P : Program) (N : Nat) (body : Code) (k0 : Nat) (S : XS) (out : T (XE × XS)) (ρ : Rho) : Prop :=
  ∀ E : Aw.Env, E.N = N → (∀ m, E.c0.kn m → m.1 < k0) → AW P E body (fun e σ => ∃ e' s, e' ≠ XE.normal ∧ out.sel ρ = some (e', s) ∧ e = e'.to ∧ Imp E σ (s.den ρ)) (S.den ρ)
/-- Round by round, down to an end: the loop is shown at the letters of the end. -/
theorem loopOk_path {P : Program} {N : Nat} {body : Code} {L : LoopX} (hi : L.init.bel L.n = true) (hge : L.init.ge L.n = true) (R : Rho → Prop) (M : Rho → Nat)
    (hR : ∀ ρ, R ρ → EndL P N body L.k0 L.S L.out ρ ∨ ∃ ρ', StepL P N body L.k0 L.S ρ ρ' ∧ R ρ' ∧ M ρ' < M ρ ∧ Off L.init ρ ρ' ∧ Agree L.n ρ ρ')
    {ρ : Rho} (h0 : R (L.init.ap ρ)) : ∃ ρf, Agree L.n ρ ρf ∧ R ρf ∧ LoopOk P ρf N body L := by
  -- the letters of the end
  have key : ∀ (k : Nat) (ρ : Rho), M ρ ≤ k → R ρ → ∃ ρf, Off L.init ρ ρf ∧ Agree L.n ρ ρf ∧ R ρf ∧ ∀ E : Aw.Env, E.N = N → (∀ m, E.c0.kn m → m.1 < L.k0) → ∃ m, AWR P E body (fun e σ => ∃ e' s, L.out.sel ρf = some (e', s) ∧ e = e'.to ∧ Imp E σ (s.den ρf)) m (L.S.den ρ) := by
    have fin : ∀ ρ, EndL P N body L.k0 L.S L.out ρ → ∀ E : Aw.Env, E.N = N → (∀ m, E.c0.kn m → m.1 < L.k0) → ∃ m, AWR P E body (fun e σ => ∃ e' s, L.out.sel ρ = some (e', s) ∧ e = e'.to ∧ Imp E σ (s.den ρ)) m (L.S.den ρ) := fun ρ h E hE hb => by
      refine ⟨1, AW_mono (fun e σ hq => ?_) (h E hE hb)⟩
      obtain ⟨e', s, h1, h2, rfl, h4⟩ := hq
      cases e' with
      | normal => exact absurd rfl h1
      | exit j => exact ⟨_, s, h2, rfl, h4⟩
      | ret => exact ⟨_, s, h2, rfl, h4⟩
    intro k
    induction k with
    | zero =>
      intro ρ hk hr
      rcases hR ρ hr with h | ⟨ρ', _, _, h, _⟩
      · exact ⟨ρ, Off.refl _ _, Agree.refl _ _, hr, fin ρ h⟩
      · omega
    | succ k ih =>
      intro ρ hk hr
      rcases hR ρ hr with h | ⟨ρ', h1, h2, h3, h4, h5⟩
      · exact ⟨ρ, Off.refl _ _, Agree.refl _ _, hr, fin ρ h⟩
      · obtain ⟨ρf, g1, g2, g3, g4⟩ := ih ρ' (by omega) h2
        refine ⟨ρf, h4.trans g1, h5.trans g2, g3, fun E hE hb => ?_⟩
        obtain ⟨m, g5⟩ := g4 E hE hb
        refine ⟨m + 1, AW_mono (fun e σ hq => ?_) (h1 E hE hb)⟩
        obtain ⟨rfl, hi⟩ := hq
        cases m with
        | zero => exact g5.elim
        | succ m => exact AW_imp hi g5
  obtain ⟨ρf, g1, g2, g3, g4⟩ := key (M (L.init.ap ρ)) (L.init.ap ρ) (Nat.le_refl _) h0
  have ag : Agree L.n ρ ρf := (Bind.agree hge ρ).trans g2
  refine ⟨ρf, ag, g3, fun E hE hb => ?_⟩
  rw [Off.init hi ((Off.self L.init ρ).trans g1) ag.symm]
  obtain ⟨m, g5⟩ := g4 E hE hb
  exact AW_rounds m g5

/-! ### A fact, with the letters put -/
def putI (β : Bind) : IE → Option IE
  | .lit n => some (.lit n)
  | .var k => match lassoc k β.i with
    | some e => some e
    | none => some (.var k)
  | .len l => match lassoc l β.r with
    | some _ => none
    | none => some (.len l)
  | _ => none
theorem putI_den {β : Bind} {ρ : Rho} {e e' : IE} (h : putI β e = some e') : e'.den ρ = e.den (β.ap ρ) := by
  unfold putI at h
  split at h
  · cases h; rfl
  · split at h
    · rename_i k e1 he
      cases h; simp only [IE.den, Bind.ap, he]
    · rename_i k he
      cases h; simp only [IE.den, Bind.ap, he]
  · split at h
    · cases h
    · rename_i l he
      cases h; simp only [IE.den, Bind.ap, he]
  · cases h
def putB (β : Bind) : BE → Option BE
  | .var k => match lassoc k β.b with
    | some e => some e
    | none => some (.var k)
  | .lt a b => match putI β a with
    | some a => match putI β b with
      | some b => some (.lt a b)
      | none => none
    | none => none
  | .eq a b => match putI β a with
    | some a => match putI β b with
      | some b => some (.eq a b)
      | none => none
    | none => none
  | _ => none
theorem putB_den {β : Bind} {ρ : Rho} {e e' : BE} (h : putB β e = some e') : e'.den ρ = e.den (β.ap ρ) := by
  unfold putB at h
  split at h
  · split at h
    · rename_i k e1 he
      cases h; simp only [BE.den, Bind.ap, he]
    · rename_i k he
      cases h; simp only [BE.den, Bind.ap, he]
  · split at h
    · rename_i a ha
      split at h
      · rename_i b hb
        cases h; simp only [BE.den, putI_den ha, putI_den hb]
      · cases h
    · cases h
  · split at h
    · rename_i a ha
      split at h
      · rename_i b hb
        cases h; simp only [BE.den, putI_den ha, putI_den hb]
      · cases h
    · cases h
  · cases h
def seesP (β : Bind) (Φ : Facts) (p : BE × Bool) : Bool := match putB β p.1 with
  | some e => sees Φ (e, p.2)
  | none => false
theorem seesP_ok {β : Bind} {ρ : Rho} {Φ Ψ : Facts} (hk : Facts.ok ρ Φ) (h : Ψ.all (seesP β Φ) = true) : Facts.ok (β.ap ρ) Ψ := fun p hp => by
  have h1 := List.all_eq_true.1 h p hp
  unfold seesP at h1
  split at h1
  · rename_i e he
    rw [← putB_den he]
    exact sees_ok hk h1
  · cases h1

/-! ### What the letters are next -/
mutual
def mtX : X → X → Bind → Bind
  | .sc (.i _ (.var k)), .sc (.i _ e), β => ⟨(k, e) :: β.i, β.b, β.s, β.r⟩
  | .sc (.b (.var k)), .sc (.b e), β => ⟨β.i, (k, e) :: β.b, β.s, β.r⟩
  | .sc (.s (.var k)), .sc (.s e), β => ⟨β.i, β.b, (k, e) :: β.s, β.r⟩
  | .agg xs, .agg ys, β => mtL xs ys β
  | _, _, β => β
def mtL : List X → List X → Bind → Bind
  | x :: xs, y :: ys, β => mtX x y (mtL xs ys β)
  | _, _, β => β
end
def mtT (s : XTp) : XTp → Bind → Bind
  | [], β => β
  | (j, x) :: r, β => mtX x (tgetX s j) (mtT s r β)
def lmapD {α : Type} (m : List (Nat × α)) : List (Nat × α) → List (Nat × α)
  | [] => []
  | (k, v) :: r => (k, (lassoc k m).getD v) :: lmapD m r
def mtH (s : XHp) : XHp → Bind → Bind
  | [], β => β
  | (j, cs) :: r, β => match hgetO s j with
    | some ds => mtL cs ds (mtH s r β)
    | none => mtH s r β
def mtS (S s : XS) : Bind := mtH s.h S.h (mtT s.t S.t ⟨[], [], [], []⟩)
def bindS (ι : Bind) (S s : XS) : Bind := ⟨lmapD (mtS S s).i ι.i, lmapD (mtS S s).b ι.b, lmapD (mtS S s).s ι.s, ι.r⟩

/-! ### A round of a loop that counts -/
def isInc (I : Nat) (β : Bind) : Bool := match lassoc I β.i with
  | some e => e.beq (.op .add .i64 (.var I) (.lit 1))
  | none => false
def goOkB (k0 n : Nat) (ι β : Bind) (S : XS) (I : Nat) (Ψs : List Facts) (Φ : Facts) (s : XS) : Bool :=
  okS k0 n β [] S s && (ι.same β && (isInc I β && Ψs.any (fun Ψ => Ψ.all (seesP β Φ))))
def goesX (k0 n : Nat) (ι : Bind) (S : XS) (I : Nat) (Ψs : List Facts) : Facts → T (XE × XS) → Bool
  | Φ, .ret (.normal, s) => goOkB k0 n ι (bindS ι S s) S I Ψs Φ s
  | Φ, .br c x y => goesX k0 n ι S I Ψs (assume c true Φ) x && goesX k0 n ι S I Ψs (assume c false Φ) y
  | _, _ => false
theorem goesX_sel {ρ : Rho} {k0 n : Nat} {ι : Bind} {S : XS} {I : Nat} {Ψs : List Facts} : ∀ (t : T (XE × XS)) (Φ : Facts), goesX k0 n ι S I Ψs Φ t = true → Facts.ok ρ Φ → ∃ s Φ', t.sel ρ = some (.normal, s) ∧ Facts.ok ρ Φ' ∧ goOkB k0 n ι (bindS ι S s) S I Ψs Φ' s = true
  | .ret (.normal, s), Φ, h, hk => ⟨s, Φ, rfl, hk, h⟩
  | .ret (.exit _, _), _, h, _ => by simp [goesX] at h
  | .ret (.ret, _), _, h, _ => by simp [goesX] at h
  | .need _ _, _, h, _ => by simp [goesX] at h
  | .fail _, _, h, _ => by simp [goesX] at h
  | .br c x y, Φ, h, hk => by
    simp only [goesX, Bool.and_eq_true] at h
    cases hc : c.den ρ with
    | true =>
      obtain ⟨s, Φ', h1, h2, h3⟩ := goesX_sel x _ h.1 (assume_ok c true Φ hc hk)
      exact ⟨s, Φ', by simp only [T.sel, hc, if_true]; exact h1, h2, h3⟩
    | false =>
      obtain ⟨s, Φ', h1, h2, h3⟩ := goesX_sel y _ h.2 (assume_ok c false Φ hc hk)
      exact ⟨s, Φ', by simp only [T.sel, hc, Bool.false_eq_true, if_false]; exact h1, h2, h3⟩
def GoL (P : Program) (N : Nat) (body : Code) (k0 n : Nat) (ι : Bind) (S : XS) (I : Nat) (Ψs : List Facts) (ρ : Rho) : Prop :=
  ∃ ρ', StepL P N body k0 S ρ ρ' ∧ (∃ Ψ ∈ Ψs, Facts.ok ρ' Ψ) ∧ ρ'.i I = IntKind.i64.wrap (ρ.i I + 1) ∧ Off ι ρ ρ' ∧ Agree n ρ ρ'
/-- The slots, seen as others in the light of what is known. -/
def likeT (Φ : Facts) : XTp → XTp → Bool
  | [], [] => true
  | (i, x) :: r, (j, y) :: l => Nat.beq i j && (X.like Φ x y && likeT Φ r l)
  | _, _ => false
theorem likeT_ok {ρ : Rho} {Φ : Facts} (hk : Facts.ok ρ Φ) : ∀ (a b : XTp), likeT Φ a b = true → denT ρ a = denT ρ b
  | [], [], _ => rfl
  | (i, x) :: r, (j, y) :: l, h => by
    simp only [likeT, Bool.and_eq_true] at h
    have e1 := Nat.eq_of_beq_eq_true h.1
    have ih := likeT_ok hk r l h.2.2
    simp only [denT] at ih
    simp only [denT, List.map_cons, e1, X.like_ok hk x y h.2.1, ih]
  | [], _ :: _, h => by cases h
  | _ :: _, [], h => by simp [likeT] at h
def likeH (Φ : Facts) : XHp → XHp → Bool
  | [], [] => true
  | (i, x) :: r, (j, y) :: l => nmbeq i j && ((!isRows x && (!isRows y && X.likeL Φ x y)) && likeH Φ r l)
  | _, _ => false
theorem likeH_ok {ρ : Rho} {Φ : Facts} (hk : Facts.ok ρ Φ) : ∀ (a b : XHp), likeH Φ a b = true → denH ρ a = denH ρ b
  | [], [], _ => rfl
  | (i, x) :: r, (j, y) :: l, h => by
    simp only [likeH, Bool.and_eq_true, Bool.not_eq_true'] at h
    obtain ⟨h1, ⟨h2, h3, h4⟩, h5⟩ := h
    have e1 := nmbeq_eq h1
    have ih := likeH_ok hk r l h5
    simp only [denH] at ih
    simp only [denH, List.map_cons, e1, denO_of h2, denO_of h3, X.likeL_ok hk x y h4, ih]
  | [], _ :: _, h => by cases h
  | _ :: _, [], h => by simp [likeH] at h
theorem goL_of {P : Program} {ρ : Rho} {N : Nat} {body : Code} {ti : Nat → Option TI} {call : CallF} {ms : List Nat} {lps : List LoopX} {fuel k0 n I : Nat} {ι : Bind} {S : XS} {Ψs : List Facts} (hm : P.follows .mixedOrders = true) (hti : TIs.ok P ti)
    (hcall : CallOk P ρ call) (hlps : LpsOk P ρ N lps body) (hfit : fitsC N body = true) {Φ Φ' : Facts} {S' : XS} (hk : Facts.ok ρ Φ) (hl : likeT Φ S.t S'.t = true) (hh : likeH Φ S.h S'.h = true) (hx : Nat.beq S.nx S'.nx = true) (hf : Φ'.all (sees Φ) = true)
    (hrun : goesX k0 n ι S I Ψs Φ' ((codeX ti call ms k0 lps fuel body Φ' S').map (sqz (S.t.map (·.1)))) = true) : GoL P N body k0 n ι S I Ψs ρ := by
  have hk' := seesAll hk hf
  obtain ⟨s, Φ2, h1, h2, h3⟩ := goesX_sel _ _ hrun hk'
  simp only [goOkB, Bool.and_eq_true] at h3
  obtain ⟨g1, g2, g3, g4⟩ := h3
  obtain ⟨Ψ, hΨ, g4⟩ := List.any_eq_true.1 g4
  have hb : (bindS ι S s).ge n = true := by
    simp only [okS, Bool.and_eq_true] at g1
    exact g1.1
  obtain ⟨q, hq, he⟩ := T.sel_map _ h1
  refine ⟨(bindS ι S s).ap ρ, fun E hE hkn => ?_, ⟨Ψ, hΨ, seesP_ok h2 g4⟩, ?_, Off.of g2 ρ, Bind.agree hb ρ⟩
  · have e0 : S.den ρ = XS.den ρ S' := by simp only [XS.den, likeT_ok hk _ _ hl, likeH_ok hk _ _ hh, Nat.eq_of_beq_eq_true hx]
    rw [e0]
    have g := codeX_goes (E := E) hm hti hcall hkn body Φ' _ q.1 q.2 hk' (by rw [hE]; exact hfit) (by rw [hE]; exact hlps) hq
    have q1 := congrArg Prod.fst he
    have q2 := congrArg Prod.snd he
    simp only at q1 q2
    refine AW_mono (fun e' s' hh => ⟨?_, ?_⟩) g
    · rw [hh.1, show q.1 = XE.normal from q1.symm]
    · have i := impLe hh.2 (sqz_le (S.t.map (·.1)) ρ q)
      rw [← q2] at i
      exact impTrans i (okS_imp hkn g1 ρ)
  · unfold isInc at g3
    split at g3
    · rename_i e hI
      have := IE.beq_eq _ _ g3
      subst this
      simp only [Bind.ap, hI, IE.den, IOp.den]
    · cases g3
theorem endL_of {P : Program} {ρ : Rho} {N : Nat} {body : Code} {ti : Nat → Option TI} {call : CallF} {ms : List Nat} {lps : List LoopX} {fuel k0 : Nat} {S s : XS} {e : XE} (hm : P.follows .mixedOrders = true) (hti : TIs.ok P ti)
    (hcall : CallOk P ρ call) (hlps : LpsOk P ρ N lps body) (hfit : fitsC N body = true) {Φ : Facts} (hk : Facts.ok ρ Φ) (he : e ≠ .normal)
    (hrun : (codeX ti call ms k0 lps fuel body Φ S).map (sqz (S.t.map (·.1))) = .ret (e, s)) : EndL P N body k0 S (.ret (e, s)) ρ := by
  intro E hE hkn
  have h1 : ((codeX ti call ms k0 lps fuel body Φ S).map (sqz (S.t.map (·.1)))).sel ρ = some (e, s) := by rw [hrun]; rfl
  obtain ⟨q, hq, h2⟩ := T.sel_map _ h1
  have g := codeX_goes (E := E) hm hti hcall hkn body Φ S q.1 q.2 hk (by rw [hE]; exact hfit) (by rw [hE]; exact hlps) hq
  have q1 := congrArg Prod.fst h2
  have q2 := congrArg Prod.snd h2
  simp only at q1 q2
  refine AW_mono (fun e' s' hh => ⟨e, s, he, rfl, ?_, ?_⟩) g
  · rw [hh.1, q1]
    rfl
  · rw [q2]
    exact impLe hh.2 (sqz_le _ ρ q)
end Go.Proofs.Xw

/- Symbolic runs, part 26: sums by their parts; a truth brought down in the light of linear facts. -/
namespace Go.Proofs.Xw
open Go Go.Proofs.Aw

/-! ### Sums by their parts -/
structure Lin where
  l : List (IE × Int)
  c : Int
def sumL (ρ : Rho) : List (IE × Int) → Int
  | [] => 0
  | (e, k) :: r => k * e.den ρ + sumL ρ r
def Lin.den (ρ : Rho) (x : Lin) : Int := sumL ρ x.l + x.c
def addA (e : IE) (s : Int) : List (IE × Int) → List (IE × Int)
  | [] => [(e, s)]
  | (d, k) :: r => if d.beq e = true then (d, k + s) :: r else (d, k) :: addA e s r
theorem addA_den (ρ : Rho) (e : IE) (s : Int) : ∀ l, sumL ρ (addA e s l) = s * e.den ρ + sumL ρ l
  | [] => rfl
  | (d, k) :: r => by
    unfold addA
    split
    · rename_i h
      rw [← IE.beq_eq _ _ h]
      simp only [sumL, Int.add_mul]; omega
    · simp only [sumL, addA_den ρ e s r]; omega
def linE : IE → Int → Lin → Lin
  | .lit n, s, x => ⟨x.l, x.c + s * n⟩
  | .op .padd _ a b, s, x => linE a s (linE b s x)
  | .op .psub _ a b, s, x => linE a s (linE b (-s) x)
  | .op .pmul _ (.lit n) b, s, x => linE b (s * n) x
  | e, s, x => ⟨addA e s x.l, x.c⟩
theorem linE_den (ρ : Rho) (e : IE) (s : Int) (x : Lin) : (linE e s x).den ρ = s * e.den ρ + x.den ρ := by
  fun_induction linE e s x with
  | case1 n s x => simp only [Lin.den, IE.den]; omega
  | case2 k a b s x ih1 ih2 => rw [ih2, ih1]; simp only [IE.den, IOp.den, Int.mul_add]; omega
  | case3 k a b s x ih1 ih2 => rw [ih2, ih1]; simp only [IE.den, IOp.den, Int.mul_sub, Int.neg_mul]; omega
  | case4 k n b s x ih => rw [ih]; simp only [IE.den, IOp.den, Int.mul_assoc]
  | case5 => simp only [Lin.den, addA_den]; omega
def allZ : List (IE × Int) → Bool
  | [] => true
  | (_, k) :: r => k == 0 && allZ r
theorem allZ_den (ρ : Rho) : ∀ l, allZ l = true → sumL ρ l = 0
  | [], _ => rfl
  | (e, k) :: r, h => by
    simp only [allZ, Bool.and_eq_true, beq_iff_eq] at h
    simp only [sumL, h.1, allZ_den ρ r h.2, Int.zero_mul]; rfl
def Lin.con (x : Lin) : Option Int := if allZ x.l = true then some x.c else none
theorem Lin.con_den {ρ : Rho} {x : Lin} {k : Int} (h : x.con = some k) : x.den ρ = k := by
  unfold Lin.con at h
  split at h
  · rename_i hz
    cases h
    simp only [Lin.den, allZ_den ρ _ hz, Int.zero_add]
  · cases h
/-- (a - b) - (c - d), if it is a number. -/
def dif (a b c d : IE) : Option Int := (linE a 1 (linE b (-1) (linE c (-1) (linE d 1 ⟨[], 0⟩)))).con
theorem dif_den {ρ : Rho} {a b c d : IE} {k : Int} (h : dif a b c d = some k) : a.den ρ - b.den ρ = c.den ρ - d.den ρ + k := by
  have := Lin.con_den (ρ := ρ) (x := linE a 1 (linE b (-1) (linE c (-1) (linE d 1 ⟨[], 0⟩)))) h
  rw [linE_den, linE_den, linE_den, linE_den] at this
  simp only [Lin.den, sumL] at this
  omega
def oneLt (a b : IE) : BE × Bool → Option Bool
  | (.lt c d, true) => match dif a b c d with
    | some k => if decide (k ≤ 0) then some true else none
    | none => match dif a b d c with
      | some k => if decide (-1 ≤ k) then some false else none
      | none => none
  | (.lt c d, false) => match dif a b c d with
    | some k => if decide (0 ≤ k) then some false else none
    | none => match dif a b d c with
      | some k => if decide (k < 0) then some true else none
      | none => none
  | (.eq c d, true) => match dif a b c d with
    | some k => some (decide (k < 0))
    | none => match dif a b d c with
      | some k => some (decide (k < 0))
      | none => none
  | _ => none
theorem oneLt_ok {ρ : Rho} {a b : IE} {p : BE × Bool} {r : Bool} (hp : p.1.den ρ = p.2) (h : oneLt a b p = some r) : decide (a.den ρ < b.den ρ) = r := by
  unfold oneLt at h
  split at h
  · rename_i c d
    have hp := of_decide_eq_true hp
    split at h
    · rename_i k hk
      have := dif_den (ρ := ρ) hk
      split at h
      · rename_i hc; have hc := of_decide_eq_true hc; cases h; exact decide_eq_true (by omega)
      · cases h
    · split at h
      · rename_i k hk
        have := dif_den (ρ := ρ) hk
        split at h
        · rename_i hc; have hc := of_decide_eq_true hc; cases h; exact decide_eq_false (by omega)
        · cases h
      · cases h
  · rename_i c d
    have hp := of_decide_eq_false hp
    split at h
    · rename_i k hk
      have := dif_den (ρ := ρ) hk
      split at h
      · rename_i hc; have hc := of_decide_eq_true hc; cases h; exact decide_eq_false (by omega)
      · cases h
    · split at h
      · rename_i k hk
        have := dif_den (ρ := ρ) hk
        split at h
        · rename_i hc; have hc := of_decide_eq_true hc; cases h; exact decide_eq_true (by omega)
        · cases h
      · cases h
  · rename_i c d
    simp only [BE.den, beq_iff_eq] at hp
    split at h
    · rename_i k hk
      have := dif_den (ρ := ρ) hk
      cases h
      exact decide_eq_decide.2 ⟨fun h => by omega, fun h => by omega⟩
    · split at h
      · rename_i k hk
        have := dif_den (ρ := ρ) hk
        cases h
        exact decide_eq_decide.2 ⟨fun h => by omega, fun h => by omega⟩
      · cases h
  · cases h
def oneEq (a b : IE) : BE × Bool → Option Bool
  | (.lt c d, true) => match dif a b c d with
    | some k => if decide (k ≤ 0) then some false else none
    | none => match dif a b d c with
      | some k => if decide (0 ≤ k) then some false else none
      | none => none
  | (.lt c d, false) => match dif a b c d with
    | some k => if decide (0 < k) then some false else none
    | none => match dif a b d c with
      | some k => if decide (k < 0) then some false else none
      | none => none
  | (.eq c d, v) => match dif a b c d with
    | some k => if k == 0 then some v else if v = true then some false else none
    | none => match dif a b d c with
      | some k => if k == 0 then some v else if v = true then some false else none
      | none => none
  | _ => none
theorem oneEq_ok {ρ : Rho} {a b : IE} {p : BE × Bool} {r : Bool} (hp : p.1.den ρ = p.2) (h : oneEq a b p = some r) : (a.den ρ == b.den ρ) = r := by
  unfold oneEq at h
  split at h
  · rename_i c d
    have hp := of_decide_eq_true hp
    split at h
    · rename_i k hk
      have := dif_den (ρ := ρ) hk
      split at h
      · rename_i hc; have hc := of_decide_eq_true hc; cases h; exact beq_eq_false_iff_ne.2 (by omega)
      · cases h
    · split at h
      · rename_i k hk
        have := dif_den (ρ := ρ) hk
        split at h
        · rename_i hc; have hc := of_decide_eq_true hc; cases h; exact beq_eq_false_iff_ne.2 (by omega)
        · cases h
      · cases h
  · rename_i c d
    have hp := of_decide_eq_false hp
    split at h
    · rename_i k hk
      have := dif_den (ρ := ρ) hk
      split at h
      · rename_i hc; have hc := of_decide_eq_true hc; cases h; exact beq_eq_false_iff_ne.2 (by omega)
      · cases h
    · split at h
      · rename_i k hk
        have := dif_den (ρ := ρ) hk
        split at h
        · rename_i hc; have hc := of_decide_eq_true hc; cases h; exact beq_eq_false_iff_ne.2 (by omega)
        · cases h
      · cases h
  · rename_i c d v
    simp only [BE.den] at hp
    have fin : ∀ {k : Int}, (a.den ρ - b.den ρ = c.den ρ - d.den ρ + k ∨ a.den ρ - b.den ρ = d.den ρ - c.den ρ + k) → (if (k == 0) = true then some v else if v = true then some false else none) = some r → (a.den ρ == b.den ρ) = r := by
      intro k hk h
      split at h
      · rename_i h0
        cases h
        simp only [beq_iff_eq] at h0
        rw [← hp, Bool.eq_iff_iff]
        simp only [beq_iff_eq]
        constructor
        · intro h; omega
        · intro h; omega
      · rename_i h0
        simp only [beq_iff_eq] at h0
        split at h
        · rename_i hv
          cases h
          rw [hv] at hp
          simp only [beq_iff_eq] at hp
          exact beq_eq_false_iff_ne.2 (by omega)
        · cases h
    split at h
    · rename_i k hk
      exact fin (.inl (dif_den hk)) h
    · split at h
      · rename_i k hk
        exact fin (.inr (dif_den hk)) h
      · cases h
  · cases h
def anyF (f : BE × Bool → Option Bool) : Facts → Option Bool
  | [] => none
  | p :: Φ => oor (f p) (anyF f Φ)
theorem anyF_ok {ρ : Rho} {f : BE × Bool → Option Bool} {Q : Bool → Prop} (hf : ∀ p r, p.1.den ρ = p.2 → f p = some r → Q r) : ∀ {Φ : Facts} {r : Bool}, Facts.ok ρ Φ → anyF f Φ = some r → Q r
  | [], _, _, h => by cases h
  | p :: Φ, r, hk, h => by
    have h1 := Facts.ok_tail hk
    simp only [anyF] at h
    cases e : f p with
    | some v => rw [e] at h; cases h; exact hf p _ h1.1 e
    | none => rw [e] at h; exact anyF_ok hf h1.2 h
def linLt (Φ : Facts) (a b : IE) : Option Bool := match dif a b (.lit 0) (.lit 0) with
  | some k => some (decide (k < 0))
  | none => anyF (oneLt a b) Φ
theorem linLt_ok {ρ : Rho} {Φ : Facts} (hk : Facts.ok ρ Φ) {a b : IE} {r : Bool} (h : linLt Φ a b = some r) : decide (a.den ρ < b.den ρ) = r := by
  unfold linLt at h
  split at h
  · rename_i k e
    have := dif_den (ρ := ρ) e
    simp only [IE.den] at this
    cases h
    exact decide_eq_decide.2 ⟨fun h => by omega, fun h => by omega⟩
  · exact anyF_ok (Q := fun r => decide (a.den ρ < b.den ρ) = r) (fun p r hp => oneLt_ok hp) hk h
def linEq (Φ : Facts) (a b : IE) : Option Bool := match dif a b (.lit 0) (.lit 0) with
  | some k => some (k == 0)
  | none => anyF (oneEq a b) Φ
theorem linEq_ok {ρ : Rho} {Φ : Facts} (hk : Facts.ok ρ Φ) {a b : IE} {r : Bool} (h : linEq Φ a b = some r) : (a.den ρ == b.den ρ) = r := by
  unfold linEq at h
  split at h
  · rename_i k e
    have := dif_den (ρ := ρ) e
    simp only [IE.den] at this
    cases h
    rw [Bool.eq_iff_iff]
    simp only [beq_iff_eq]
    constructor
    · intro h; omega
    · intro h; omega
  · exact anyF_ok (Q := fun r => (a.den ρ == b.den ρ) = r) (fun p r hp => oneEq_ok hp) hk h

/-! ### What stays within bounds, as whole numbers -/
def exOp (Φ : Facts) (o p : IOp) (k : IntKind) (a b : IE) : IE := if (kbeq k .i64 && inI64 (ivS Φ (.op p .i64 a b))) = true then .op p .i64 a b else .op o k a b
theorem exOp_den {ρ : Rho} {Φ : Facts} (hk : Facts.ok ρ Φ) {o p : IOp} (ho : ∀ x y, o.den .i64 x y = IntKind.i64.wrap (p.den .i64 x y)) (k : IntKind) (a b : IE) : (exOp Φ o p k a b).den ρ = o.den k (a.den ρ) (b.den ρ) := by
  unfold exOp
  split
  · rename_i h
    rw [Bool.and_eq_true] at h
    rw [kbeq_eq h.1, ho]
    have := inI64_ok (ivS_ok hk (.op p .i64 a b)) h.2
    simp only [IE.den] at this ⊢
    exact this.symm
  · rfl
def exMul (Φ : Facts) (k : IntKind) (a b : IE) : IE := if (kbeq k .i64 && inI64 (ivS Φ (mkMul a b))) = true then mkMul a b else .op .mul k a b
theorem exMul_den {ρ : Rho} {Φ : Facts} (hk : Facts.ok ρ Φ) (k : IntKind) (a b : IE) : (exMul Φ k a b).den ρ = IOp.den .mul k (a.den ρ) (b.den ρ) := by
  unfold exMul
  split
  · rename_i h
    rw [Bool.and_eq_true] at h
    rw [kbeq_eq h.1]
    have := inI64_ok (ivS_ok hk (mkMul a b)) h.2
    rw [mkMul_den] at this ⊢
    exact this.symm
  · rfl
def exConv (Φ : Facts) (k : IntKind) (a b : IE) : IE := if (kbeq k .i64 && inI64 (ivS Φ a)) = true then a else .op .conv k a b
theorem exConv_den {ρ : Rho} {Φ : Facts} (hk : Facts.ok ρ Φ) (k : IntKind) (a b : IE) : (exConv Φ k a b).den ρ = IOp.den .conv k (a.den ρ) (b.den ρ) := by
  unfold exConv
  split
  · rename_i h
    rw [Bool.and_eq_true] at h
    rw [kbeq_eq h.1]
    exact (inI64_ok (ivS_ok hk a) h.2).symm
  · rfl
def exB (Φ : Facts) : IOp → IntKind → IE → IE → IE
  | .add, k, a, b => exOp Φ .add .padd k a b
  | .sub, k, a, b => exOp Φ .sub .psub k a b
  | .mul, k, a, b => exMul Φ k a b
  | .conv, k, a, b => exConv Φ k a b
  | .pmul, _, a, b => mkMul a b
  | o, k, a, b => mkOp o k a b
theorem exB_den {ρ : Rho} {Φ : Facts} (hk : Facts.ok ρ Φ) (o : IOp) (k : IntKind) (a b : IE) : (exB Φ o k a b).den ρ = o.den k (a.den ρ) (b.den ρ) := by
  unfold exB
  split
  · exact exOp_den hk (fun _ _ => rfl) _ _ _
  · exact exOp_den hk (fun _ _ => rfl) _ _ _
  · exact exMul_den hk _ _ _
  · exact exConv_den hk _ _ _
  · rw [mkMul_den]; rfl
  · exact mkOp_den _ _ _ _ _
def orLt (Φ : Facts) (a b : IE) : BE := match linLt Φ a b with
  | some v => .lit v
  | none => red Φ (mkLt a b)
def orEq (Φ : Facts) (a b : IE) : BE := match linEq Φ a b with
  | some v => .lit v
  | none => red Φ (mkEq a b)
theorem orLt_den {ρ : Rho} {Φ : Facts} (hk : Facts.ok ρ Φ) (a b : IE) : (orLt Φ a b).den ρ = decide (a.den ρ < b.den ρ) := by
  unfold orLt
  split
  · rename_i v h; rw [linLt_ok hk h]; rfl
  · rw [red_den hk, mkLt_den]
theorem orEq_den {ρ : Rho} {Φ : Facts} (hk : Facts.ok ρ Φ) (a b : IE) : (orEq Φ a b).den ρ = (a.den ρ == b.den ρ) := by
  unfold orEq
  split
  · rename_i v h; rw [linEq_ok hk h]; rfl
  · rw [red_den hk, mkEq_den]
mutual
def redI (Φ : Facts) : IE → IE
  | .op o k a b => exB Φ o k (redI Φ a) (redI Φ b)
  | .ite c a b => mkIteI (redB Φ c) (redI Φ a) (redI Φ b)
  | e => e
def redB (Φ : Facts) : BE → BE
  | .lt a b => orLt Φ (redI Φ a) (redI Φ b)
  | .eq a b => orEq Φ (redI Φ a) (redI Φ b)
  | .not a => mkNot (redB Φ a)
  | .and a b => mkAnd (redB Φ a) (redB Φ b)
  | .or a b => mkOr (redB Φ a) (redB Φ b)
  | .ite c a b => mkIteB (redB Φ c) (redB Φ a) (redB Φ b)
  | e => e
end
mutual
theorem redI_den {ρ : Rho} {Φ : Facts} (hk : Facts.ok ρ Φ) : ∀ e : IE, (redI Φ e).den ρ = e.den ρ
  | .op o k a b => by simp only [redI, exB_den hk, redI_den hk a, redI_den hk b, IE.den]
  | .ite c a b => by simp only [redI, mkIteI_den, redB_den hk c, redI_den hk a, redI_den hk b, IE.den]
  | .lit _ => rfl
  | .var _ => rfl
  | .cl _ _ _ => rfl
  | .len _ => rfl
  | .slen _ => rfl
  | .byt _ _ => rfl
theorem redB_den {ρ : Rho} {Φ : Facts} (hk : Facts.ok ρ Φ) : ∀ e : BE, (redB Φ e).den ρ = e.den ρ
  | .lt a b => by simp only [redB, orLt_den hk, redI_den hk a, redI_den hk b, BE.den]
  | .eq a b => by simp only [redB, orEq_den hk, redI_den hk a, redI_den hk b, BE.den]
  | .not a => by simp only [redB, mkNot_den, redB_den hk a, BE.den]
  | .and a b => by simp only [redB, mkAnd_den, redB_den hk a, redB_den hk b, BE.den]
  | .or a b => by simp only [redB, mkOr_den, redB_den hk a, redB_den hk b, BE.den]
  | .ite c a b => by simp only [redB, mkIteB_den, redB_den hk c, redB_den hk a, redB_den hk b, BE.den]
  | .lit _ => rfl
  | .var _ => rfl
  | .cl _ _ _ => rfl
  | .seq _ _ => rfl
  | .slt _ _ => rfl
end
def isT : BE → Bool
  | .lit b => b
  | _ => false
theorem by_redB {ρ : Rho} {Φ : Facts} (hk : Facts.ok ρ Φ) {e : BE} (h : isT (redB Φ e) = true) : e.den ρ = true := by
  rw [← redB_den hk e]
  unfold isT at h
  split at h
  · rename_i b hb; rw [hb]; exact h
  · cases h
/-- A number is above 0, below 0, or 0. -/
theorem tri {ρ : Rho} {Φ : Facts} {Q : Prop} (e : IE) (hk : Facts.ok ρ Φ) (h1 : Facts.ok ρ ((.lt (.lit 0) e, true) :: Φ) → Q) (h2 : Facts.ok ρ ((.lt e (.lit 0), true) :: Φ) → Q) (h3 : Facts.ok ρ ((.eq e (.lit 0), true) :: Φ) → Q) : Q := by
  rcases Int.lt_trichotomy (e.den ρ) 0 with h | h | h
  · exact h2 (Facts.ok_cons (decide_eq_true h) hk)
  · exact h3 (Facts.ok_cons (by simp only [BE.den, IE.den, h]; rfl) hk)
  · exact h1 (Facts.ok_cons (decide_eq_true h) hk)
end Go.Proofs.Xw

/- Symbolic runs, part 27: a loop whose head is in one of many states; letters of the rounds' own. -/
namespace Go.Proofs.Xw
open Go Go.Proofs.Aw

def noB : Bind := ⟨[], [], [], []⟩
theorem noB_ap (ρ : Rho) : noB.ap ρ = ρ := rfl
/-- One round leads from a state to a state. -/
def StepF (P : Program) (N : Nat) (body : Code) (k0 : Nat) (S S' : XS) (ρ ρ' : Rho) : Prop :=
  ∀ E : Aw.Env, E.N = N → (∀ m, E.c0.kn m → m.1 < k0) → AW P E body (fun e σ => e = XE.normal.to ∧ Imp E σ (S'.den ρ')) (S.den ρ)
/-- Round by round, from state to state, down to an end. -/
theorem loopOk_fam {P : Program} {N : Nat} {body : Code} {L : LoopX} (hi : L.init = noB) (hS : L.S.bel L.n = true) (Ss : Nat → XS) (R : Nat → Rho → Prop) (M : Nat → Rho → Nat)
    (hR : ∀ i ρ, R i ρ → (∃ ρ', Agree L.n ρ ρ' ∧ R i ρ' ∧ (Ss i).den ρ = (Ss i).den ρ' ∧ EndL P N body L.k0 (Ss i) L.out ρ') ∨ ∃ i' ρ', StepF P N body L.k0 (Ss i) (Ss i') ρ ρ' ∧ R i' ρ' ∧ M i' ρ' < M i ρ ∧ Agree L.n ρ ρ')
    {ρ : Rho} (h0 : ∃ i ρ0, Agree L.n ρ ρ0 ∧ R i ρ0 ∧ ∀ E : Aw.Env, E.N = N → (∀ m, E.c0.kn m → m.1 < L.k0) → Imp E (L.S.den ρ) ((Ss i).den ρ0)) : ∃ i ρf, Agree L.n ρ ρf ∧ R i ρf ∧ LoopOk P ρf N body L := by
  have key : ∀ (k : Nat) (i : Nat) (ρ : Rho), M i ρ ≤ k → R i ρ → ∃ i' ρf, Agree L.n ρ ρf ∧ R i' ρf ∧ ∀ E : Aw.Env, E.N = N → (∀ m, E.c0.kn m → m.1 < L.k0) → ∃ m, AWR P E body (fun e σ => ∃ e' s, L.out.sel ρf = some (e', s) ∧ e = e'.to ∧ Imp E σ (s.den ρf)) m ((Ss i).den ρ) := by
    have fin : ∀ i ρ ρ', (Ss i).den ρ = (Ss i).den ρ' → EndL P N body L.k0 (Ss i) L.out ρ' → ∀ E : Aw.Env, E.N = N → (∀ m, E.c0.kn m → m.1 < L.k0) → ∃ m, AWR P E body (fun e σ => ∃ e' s, L.out.sel ρ' = some (e', s) ∧ e = e'.to ∧ Imp E σ (s.den ρ')) m ((Ss i).den ρ) := fun i ρ ρ' hd h E hE hb => by
      rw [hd]
      refine ⟨1, AW_mono (fun e σ hq => ?_) (h E hE hb)⟩
      obtain ⟨e', s, h1, h2, rfl, h4⟩ := hq
      cases e' with
      | normal => exact absurd rfl h1
      | exit j => exact ⟨_, s, h2, rfl, h4⟩
      | ret => exact ⟨_, s, h2, rfl, h4⟩
    intro k
    induction k with
    | zero =>
      intro i ρ hk hr
      rcases hR i ρ hr with ⟨ρ', a1, a2, a3, a4⟩ | ⟨i', ρ', _, _, h, _⟩
      · exact ⟨i, ρ', a1, a2, fin i ρ ρ' a3 a4⟩
      · omega
    | succ k ih =>
      intro i ρ hk hr
      rcases hR i ρ hr with ⟨ρ', a1, a2, a3, a4⟩ | ⟨i', ρ', h1, h2, h3, h5⟩
      · exact ⟨i, ρ', a1, a2, fin i ρ ρ' a3 a4⟩
      · obtain ⟨i2, ρf, g2, g3, g4⟩ := ih i' ρ' (by omega) h2
        refine ⟨i2, ρf, h5.trans g2, g3, fun E hE hb => ?_⟩
        obtain ⟨m, g5⟩ := g4 E hE hb
        refine ⟨m + 1, AW_mono (fun e σ hq => ?_) (h1 E hE hb)⟩
        obtain ⟨rfl, hi⟩ := hq
        cases m with
        | zero => exact g5.elim
        | succ m => exact AW_imp hi g5
  obtain ⟨i, ρ0, a0, hr, himp⟩ := h0
  obtain ⟨i', ρf, g2, g3, g4⟩ := key (M i ρ0) i ρ0 (Nat.le_refl _) hr
  refine ⟨i', ρf, a0.trans g2, g3, fun E hE hb => ?_⟩
  rw [hi, noB_ap, ← XS.bel_den (a0.trans g2) L.S hS]
  obtain ⟨m, g5⟩ := g4 E hE hb
  exact AW_imp (himp E hE hb) (AW_rounds m g5)

/-! ### What the letters and the names are next -/
mutual
def nmX : X → X → List (Nm × Nm) → List (Nm × Nm)
  | .ptr a _ _, .ptr b _ _, l => (a, b) :: l
  | .sl a _ _ _ _, .sl b _ _ _ _, l => (a, b) :: l
  | .slv a _ _ _ _, .sl b _ _ _ _, l => (a, b) :: l
  | .slv a _ _ _ _, .slv b _ _ _ _, l => (a, b) :: l
  | .ptrv a _ _ _, .ptrv b _ _ _, l => (a, b) :: l
  | .agg xs, .agg ys, l => nmL xs ys l
  | .fn _ xs us, .fn _ ys vs, l => nmL xs ys (nmL us vs l)
  | _, _, l => l
def nmL : List X → List X → List (Nm × Nm) → List (Nm × Nm)
  | x :: xs, y :: ys, l => nmX x y (nmL xs ys l)
  | _, _, l => l
end
def nmT (s : XTp) : XTp → List (Nm × Nm)
  | [] => []
  | (j, x) :: r => nmX x (tgetX s j) (nmT s r)
/-- Names that the objects' own cells tell: of the objects that are named so far. -/
def nmH (S s : XHp) : List (Nm × Nm) → List (Nm × Nm) → List (Nm × Nm)
  | [], acc => acc
  | (a, b) :: r, acc => nmH S s r (match hgetO S a, hgetO s b with
    | some cs, some ds => nmL cs ds acc
    | _, _ => acc)
def nmS (S s : XS) : List (Nm × Nm) := nmT s.t S.t ++ nmH S.h s.h (nmT s.t S.t) []
def rowsOf (z : Nat) : Nat → List X → Option RL
  | 0, _ => none
  | 1, l => (toScs (l.take z)).map RL.one
  | n + 1, l => match toScs (l.take z), rowsOf z n (l.drop z) with
    | some r, some q => some (.app (.lit 1) (.one r) q)
    | _, _ => none
def mtO (cs ds : List X) (β : Bind) : Bind :=
  match cs, ds with
  | [.rows z (.len L) (.var _ _)], [.rows _ m r] => if Nat.beq z 0 = true then β else ⟨β.i, β.b, β.s, (L, m, r) :: β.r⟩
  | [.rows z (.len L) (.var _ _)], ds => match rowsOf z (ds.length / z) ds with
    | some r => ⟨β.i, β.b, β.s, (L, .lit (ds.length / z : Nat), r) :: β.r⟩
    | none => β
  | cs, ds => mtL cs ds β
def mtF (nm : List (Nm × Nm)) (s : XHp) : XHp → Bind → Bind
  | [], β => β
  | (j, cs) :: r, β => match hgetO s (nmMap nm j) with
    | some ds => mtO cs ds (mtF nm s r β)
    | none => mtF nm s r β
def bindF (nm : List (Nm × Nm)) (S s : XS) : Bind := mtF nm s.h S.h (mtT s.t S.t noB)

/-! ### One round, shown by a run -/
theorem stepF_of {P : Program} {ρ : Rho} {N : Nat} {body : Code} {ti : Nat → Option TI} {call : CallF} {ms : List Nat} {lps : List LoopX} {fuel k0 n : Nat} {S S' U : XS} {s : XS} (hm : P.follows .mixedOrders = true) (hti : TIs.ok P ti)
    (hcall : CallOk P ρ call) (hlps : LpsOk P ρ N lps body) (hfit : fitsC N body = true) {Φ' : Facts} (hk : Facts.ok ρ Φ') (hd : S.den ρ = S'.den ρ) {ks : List Nat}
    (hsel : ((codeX ti call ms k0 lps fuel body Φ' S').map (sqz ks)).sel ρ = some (.normal, s)) {β : Bind} {nm : List (Nm × Nm)} (hok : okS k0 n β nm U s = true) : StepF P N body k0 S U ρ (β.ap ρ) := by
  intro E hE hkn
  obtain ⟨q, hq, he⟩ := T.sel_map _ hsel
  rw [hd]
  have g := codeX_goes (E := E) hm hti hcall hkn body Φ' _ q.1 q.2 hk (by rw [hE]; exact hfit) (by rw [hE]; exact hlps) hq
  have q1 := congrArg Prod.fst he
  have q2 := congrArg Prod.snd he
  simp only at q1 q2
  refine AW_mono (fun e' s' hh => ⟨?_, ?_⟩) g
  · rw [hh.1, show q.1 = XE.normal from q1.symm]
  · have i := impLe hh.2 (sqz_le ks ρ q)
    rw [← q2] at i
    exact impTrans i (okS_imp hkn hok ρ)
theorem StepF.from {P : Program} {N : Nat} {body : Code} {k0 : Nat} {S S' : XS} {ρ ρ1 ρ' : Rho} (h : S.den ρ = S.den ρ1) (k : StepF P N body k0 S S' ρ1 ρ') : StepF P N body k0 S S' ρ ρ' := fun E hE hb => by
  rw [h]; exact k E hE hb
theorem endF_of {P : Program} {ρ : Rho} {N : Nat} {body : Code} {ti : Nat → Option TI} {call : CallF} {ms : List Nat} {lps : List LoopX} {fuel k0 : Nat} {S S' s : XS} {e : XE} {out : T (XE × XS)} (hm : P.follows .mixedOrders = true) (hti : TIs.ok P ti)
    (hcall : CallOk P ρ call) (hlps : LpsOk P ρ N lps body) (hfit : fitsC N body = true) {Φ' : Facts} (hk : Facts.ok ρ Φ') (hd : S.den ρ = S'.den ρ) {ks : List Nat} (he : e ≠ .normal)
    (hsel : ((codeX ti call ms k0 lps fuel body Φ' S').map (sqz ks)).sel ρ = some (e, s)) (ho : ∃ s', out.sel ρ = some (e, s') ∧ ∀ E : Aw.Env, (∀ m, E.c0.kn m → m.1 < k0) → Imp E (s.den ρ) (s'.den ρ)) : EndL P N body k0 S out ρ := by
  intro E hE hkn
  obtain ⟨q, hq, h2⟩ := T.sel_map _ hsel
  obtain ⟨s', h3, h4⟩ := ho
  rw [hd]
  have g := codeX_goes (E := E) hm hti hcall hkn body Φ' S' q.1 q.2 hk (by rw [hE]; exact hfit) (by rw [hE]; exact hlps) hq
  have q1 := congrArg Prod.fst h2
  have q2 := congrArg Prod.snd h2
  simp only at q1 q2
  refine AW_mono (fun e' s'' hh => ⟨e, s', he, h3, ?_, ?_⟩) g
  · rw [hh.1, q1]
    rfl
  · have i := impLe hh.2 (sqz_le ks ρ q)
    rw [← q2] at i
    exact impTrans i (h4 E hkn)
end Go.Proofs.Xw

/- Symbolic runs, part 28: a loop whose head is in one of many states, and what is known where it ends. -/
namespace Go.Proofs.Xw
open Go Go.Proofs.Aw

/-- Round by round, from state to state, down to an end, of which more is known. -/
theorem loopOk_famE {P : Program} {N : Nat} {body : Code} {L : LoopX} (hi : L.init = noB) (hS : L.S.bel L.n = true) (Ss : Nat → XS) (R Q : Nat → Rho → Prop) (M : Nat → Rho → Nat)
    (hR : ∀ i ρ, R i ρ → (∃ ρ', Agree L.n ρ ρ' ∧ Q i ρ' ∧ (Ss i).den ρ = (Ss i).den ρ' ∧ EndL P N body L.k0 (Ss i) L.out ρ') ∨ ∃ i' ρ', StepF P N body L.k0 (Ss i) (Ss i') ρ ρ' ∧ R i' ρ' ∧ M i' ρ' < M i ρ ∧ Agree L.n ρ ρ')
    {ρ : Rho} (h0 : ∃ i ρ0, Agree L.n ρ ρ0 ∧ R i ρ0 ∧ ∀ E : Aw.Env, E.N = N → (∀ m, E.c0.kn m → m.1 < L.k0) → Imp E (L.S.den ρ) ((Ss i).den ρ0)) : ∃ i ρf, Agree L.n ρ ρf ∧ Q i ρf ∧ LoopOk P ρf N body L := by
  have key : ∀ (k : Nat) (i : Nat) (ρ : Rho), M i ρ ≤ k → R i ρ → ∃ i' ρf, Agree L.n ρ ρf ∧ Q i' ρf ∧ ∀ E : Aw.Env, E.N = N → (∀ m, E.c0.kn m → m.1 < L.k0) → ∃ m, AWR P E body (fun e σ => ∃ e' s, L.out.sel ρf = some (e', s) ∧ e = e'.to ∧ Imp E σ (s.den ρf)) m ((Ss i).den ρ) := by
    have fin : ∀ i ρ ρ', (Ss i).den ρ = (Ss i).den ρ' → EndL P N body L.k0 (Ss i) L.out ρ' → ∀ E : Aw.Env, E.N = N → (∀ m, E.c0.kn m → m.1 < L.k0) → ∃ m, AWR P E body (fun e σ => ∃ e' s, L.out.sel ρ' = some (e', s) ∧ e = e'.to ∧ Imp E σ (s.den ρ')) m ((Ss i).den ρ) := fun i ρ ρ' hd h E hE hb => by
      rw [hd]
      refine ⟨1, AW_mono (fun e σ hq => ?_) (h E hE hb)⟩
      obtain ⟨e', s, h1, h2, rfl, h4⟩ := hq
      cases e' with
      | normal => exact absurd rfl h1
      | exit j => exact ⟨_, s, h2, rfl, h4⟩
      | ret => exact ⟨_, s, h2, rfl, h4⟩
    intro k
    induction k with
    | zero =>
      intro i ρ hk hr
      rcases hR i ρ hr with ⟨ρ', a1, a2, a3, a4⟩ | ⟨i', ρ', _, _, h, _⟩
      · exact ⟨i, ρ', a1, a2, fin i ρ ρ' a3 a4⟩
      · omega
    | succ k ih =>
      intro i ρ hk hr
      rcases hR i ρ hr with ⟨ρ', a1, a2, a3, a4⟩ | ⟨i', ρ', h1, h2, h3, h5⟩
      · exact ⟨i, ρ', a1, a2, fin i ρ ρ' a3 a4⟩
      · obtain ⟨i2, ρf, g2, g3, g4⟩ := ih i' ρ' (by omega) h2
        refine ⟨i2, ρf, h5.trans g2, g3, fun E hE hb => ?_⟩
        obtain ⟨m, g5⟩ := g4 E hE hb
        refine ⟨m + 1, AW_mono (fun e σ hq => ?_) (h1 E hE hb)⟩
        obtain ⟨rfl, hi⟩ := hq
        cases m with
        | zero => exact g5.elim
        | succ m => exact AW_imp hi g5
  obtain ⟨i, ρ0, a0, hr, himp⟩ := h0
  obtain ⟨i', ρf, g2, g3, g4⟩ := key (M i ρ0) i ρ0 (Nat.le_refl _) hr
  refine ⟨i', ρf, a0.trans g2, g3, fun E hE hb => ?_⟩
  rw [hi, noB_ap, ← XS.bel_den (a0.trans g2) L.S hS]
  obtain ⟨m, g5⟩ := g4 E hE hb
  exact AW_imp (himp E hE hb) (AW_rounds m g5)
end Go.Proofs.Xw
