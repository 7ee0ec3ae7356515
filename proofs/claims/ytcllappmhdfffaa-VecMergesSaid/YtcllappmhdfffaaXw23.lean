/- Symbolic runs, part 23: loops that count; what is shown of a function's loops. -/
import Derived.Test.YtcllappmhdfffaaXw22
namespace Go.Proofs.Xw
open Go Go.Proofs.Aw

theorem wrap_id (x : Int) (h0 : -9223372036854775808 ≤ x) (h1 : x < 9223372036854775808) : IntKind.i64.wrap x = x := IntWalk.i64_in x ⟨by omega, by omega⟩
/-- A letter that counts the rounds. -/
theorem it_count {β : Bind} {I : Nat} {e : IE} (hI : lassoc I β.i = some (.op .add .i64 (.var I) (.lit 1))) {ρ : Rho} (h0 : ρ.i I = 0) : ∀ j : Nat, j < 4611686018427387904 → (β.it ρ j).i I = j
  | 0, _ => by simpa [Bind.it] using h0
  | j + 1, hj => by
    have ih := it_count (e := e) hI h0 j (by omega)
    simp only [Bind.it]
    rw [show (β.ap (β.it ρ j)).i I = IE.den (β.it ρ j) (.op .add .i64 (.var I) (.lit 1)) from by simp only [Bind.ap, hI]]
    simp only [IE.den, IOp.den, ih]
    rw [wrap_id _ (by omega) (by omega)]
    omega
theorem Facts.bel_ok {n : Nat} {ρ ρ' : Rho} (h : Agree n ρ ρ') {Φ : Facts} (hb : Φ.all (fun p => p.1.bel n) = true) (hk : Facts.ok ρ Φ) : Facts.ok ρ' Φ := fun p hp => by
  rw [← BE.bel_den h p.1 (List.all_eq_true.1 hb p hp)]
  exact hk p hp
/-- A loop that counts up to a number of rows, with one way round and one way out. -/
theorem loopOk_cnt {P : Program} {ρ : Rho} {N : Nat} {body : Code} {L : LoopX} {ti : Nat → Option TI} {call : CallF} {ms : List Nat} {lps : List LoopX} {fuel : Nat} (hm : P.follows .mixedOrders = true) (hti : TIs.ok P ti)
    {Φ : Facts} {tr : T (XE × XS)} (hrun : (codeX ti call ms L.k0 lps fuel body Φ L.S).map sqz = tr) (hfit : fitsC N body = true) {β : Bind} {nm : List (Nm × Nm)} (hback : tr.nrm (okS L.k0 L.n β nm L.S) = true) (hout : L.out = tr.outs)
    (B : Nat) (hbel : tr.outs.belX B = true) (hi : L.init.bel L.n = true) (hb : β.ge L.n = true) (hs : L.init.same β = true)
    {I l : Nat} {s1 s2 : XS} {e2 : XE} (htr : tr = .br (.lt (.var I) (.len l)) (.ret (.normal, s1)) (.ret (e2, s2))) (he2 : e2 ≠ .normal) (hI : lassoc I β.i = some (.op .add .i64 (.var I) (.lit 1))) (hI0 : lassoc I L.init.i = some (.lit 0)) (hl : Nat.blt l L.n = true)
    {Φ0 : Facts} (hΦ : Φ = (.lt (.var I) (.lit 0), false) :: Φ0) (hΦb : Φ0.all (fun p => p.1.bel L.n) = true) (hΦ0 : Facts.ok ρ Φ0) (hge : L.init.ge L.n = true) (hlen : ρ.len l < 4611686018427387904)
    (hcall : ∀ ρ', CallOk P ρ' call) (hlps : ∀ ρ', LpsOk P ρ' N lps body) : LoopOk P (β.it (L.init.ap ρ) (ρ.len l)) N body L := by
  have hl' : l < L.n := by simpa [Nat.blt_eq] using hl
  have cnt := fun j => it_count (e := .lit 0) hI (ρ := L.init.ap ρ) (by simp only [Bind.ap, hI0]; rfl) j
  have ag := fun j => (Bind.agree hge ρ).trans (Bind.it_agree hb (L.init.ap ρ) j)
  refine loopOk_it hm hti hrun hfit hback hout B hbel hi hb hs (ρ.len l) fun j hj => ⟨hcall _, hlps _, ?_, ?_⟩
  · rw [hΦ]
    refine Facts.ok_cons ?_ (Facts.bel_ok (ag j) hΦb hΦ0)
    simp only [BE.den, IE.den, cnt j (by omega)]
    exact decide_eq_false (by omega)
  · have hlj : (β.it (L.init.ap ρ) j).len l = ρ.len l := ((ag j).len l hl').symm
    by_cases hjn : j < ρ.len l
    · rw [if_pos hjn]
      refine ⟨s1, ?_⟩
      rw [htr]
      simp only [T.sel, BE.den, IE.den, cnt j (by omega), hlj]
      rw [if_pos (decide_eq_true (by omega))]
    · rw [if_neg hjn]
      refine ⟨e2, s2, he2, ?_⟩
      rw [htr]
      simp only [T.sel, BE.den, IE.den, cnt j (by omega), hlj]
      rw [if_neg (by simp; omega)]
/-- The letters behind a loop that counts up to a number of rows. -/
def fin (ι β : Bind) (l : Nat) (ρ : Rho) : Rho := β.it (ι.ap ρ) (ρ.len l)
theorem fin_agree {n : Nat} {ι β : Bind} (hi : ι.ge n = true) (hb : β.ge n = true) (l : Nat) (ρ : Rho) : Agree n ρ (fin ι β l ρ) := (Bind.agree hi ρ).trans (Bind.it_agree hb _ _)
theorem fin_count {ι β : Bind} {I : Nat} (hI : lassoc I β.i = some (.op .add .i64 (.var I) (.lit 1))) (hI0 : lassoc I ι.i = some (.lit 0)) (l : Nat) (ρ : Rho) (hlen : ρ.len l < 4611686018427387904) : (fin ι β l ρ).i I = ρ.len l :=
  it_count (e := .lit 0) hI (by simp only [Bind.ap, hI0]; rfl) _ hlen
/-- Of the other loops nothing is told. -/
def othersB (lps : List LoopX) (ks : List Nat) : Nat → List Code → Bool
  | _, [] => true
  | k, c :: r => (natIn k ks || (lookL (codeKey c) lps).isEmpty) && othersB lps ks (k + 1) r
theorem natIn_mem {k : Nat} : ∀ {l : List Nat}, natIn k l = true → k ∈ l
  | [], h => by cases h
  | a :: r, h => by
    simp only [natIn, Bool.or_eq_true] at h
    rcases h with h | h
    · rw [Nat.eq_of_beq_eq_true h]; exact List.mem_cons_self
    · exact List.mem_cons_of_mem _ (natIn_mem h)
theorem lps_idx {P : Program} {ρ : Rho} {N : Nat} {lps : List LoopX} {c : Code} (ks : List Nat) (ho : othersB lps ks 0 (loopsOf c) = true)
    (h : ∀ k ∈ ks, ∀ L ∈ lookL (codeKey ((loopsOf c)[k]?.getD .skip)) lps, LoopOk P ρ N ((loopsOf c)[k]?.getD .skip) L) : LpsOk P ρ N lps c := by
  unfold LpsOk
  generalize hl : loopsOf c = l at h ho ⊢
  have key : ∀ (r : List Code) (k0 : Nat), othersB lps ks k0 r = true → (∀ j, r[j]? = l[k0 + j]?) → ∀ c' ∈ r, ∀ L ∈ lookL (codeKey c') lps, LoopOk P ρ N c' L := by
    intro r
    induction r with
    | nil => intro k0 _ _ c' hc; cases hc
    | cons d r ih =>
      intro k0 ho hj c' hc L hL
      simp only [othersB, Bool.and_eq_true, Bool.or_eq_true] at ho
      rcases List.mem_cons.1 hc with rfl | hc
      · have h0 := hj 0
        simp only [List.getElem?_cons_zero, Nat.add_zero] at h0
        rcases ho.1 with h1 | h1
        · have := h k0 (natIn_mem h1)
          rw [← h0] at this
          exact this L hL
        · rw [List.isEmpty_iff.1 h1] at hL; cases hL
      · exact ih (k0 + 1) ho.2 (fun j => by have := hj (j + 1); rw [List.getElem?_cons_succ] at this; rw [this]; congr 1; omega) c' hc L hL
  exact key l 0 ho (fun j => by rw [Nat.zero_add])
theorem look_one {P : Program} {ρ : Rho} {N : Nat} {c : Code} {L : LoopX} {lps : List LoopX} (h : lookL (codeKey c) lps = [L]) (hL : LoopOk P ρ N c L) : ∀ K ∈ lookL (codeKey c) lps, LoopOk P ρ N c K := fun K hK => by
  rw [h] at hK
  rw [List.mem_singleton.1 hK]; exact hL
/-- A truth that is answered where something holds. -/
theorem sel_need_b {ρ : Rho} {c e : BE} (hc : c.den ρ = true) (he : e.den ρ = true) : ∃ e' : BE, (T.need c (.ret (X.sc (.b e)))).sel ρ = some (.sc (.b e')) ∧ e'.den ρ = true :=
  ⟨e, by simp only [T.sel, hc, if_true], he⟩
theorem sel_ret_b {ρ : Rho} {e : BE} (he : e.den ρ = true) : ∃ e' : BE, (T.ret (X.sc (.b e))).sel ρ = some (.sc (.b e')) ∧ e'.den ρ = true := ⟨e, rfl, he⟩
/-- From the table's row to the function's own text. -/
theorem lps_row {P : Program} {ρ : Rho} {f : FuncId} {i : FnI} {fn : Func} {lps : List LoopX} (hi : FnOk P f i) (hf : P.funcs[f]? = some fn) (h : LpsOk P ρ fn.ntmps lps (fn.body.getD .skip)) : LpsOk P ρ i.ntmps lps i.body := by
  obtain ⟨fn', g1, g2, _, g4, _⟩ := hi
  rw [hf] at g1
  cases g1
  rw [← g4]
  rw [g2] at h
  exact h
end Go.Proofs.Xw
