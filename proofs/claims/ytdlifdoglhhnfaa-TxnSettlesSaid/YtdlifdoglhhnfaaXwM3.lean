/- Parts of the logic that the proof runs in, one behind the other. -/
import Derived.Test.YtdlifdoglhhnfaaXwM2
import Derived.Handed
/- Symbolic runs, part 23: loops that count; what is shown of a function's loops. -/
namespace Go.Proofs.Xw
open Go Go.Proofs.Aw

theorem wrap_id (x : Int) (h0 : -9223372036854775808 ≤ x) (h1 : x < 9223372036854775808) : IntKind.i64.wrap x = x := IntWalk.i64_in x ⟨by omega, by omega⟩
/-- A letter that counts the rounds. -/
theorem it_count {β : Bind} {I : Nat} {e : IE} (hI : lassoc I β.i = some (.op .add .i64 (.var I) (.lit 1))) {ρ : Rho} (h0 : ρ.i I = 0) : ∀ j : Nat, j < 9223372036854775808 → (β.it ρ j).i I = j
  | 0, _ => by simpa [Bind.it] using h0
  | j + 1, hj => by
    have ih := it_count (e := e) hI h0 j (by omega)
    simp only [Bind.it]
    rw [show (β.ap (β.it ρ j)).i I = IE.den (β.it ρ j) (.op .add .i64 (.var I) (.lit 1)) from by simp only [Bind.ap, hI]]
    simp only [IE.den, IOp.den, ih]
    rw [wrap_id _ (by omega) (by omega)]
    omega
theorem Facts.bel_ok {n : Nat} {ρ ρ' : Rho} (h : Agree n ρ ρ') {Φ : Facts} (hb : Φ.all (fun p => p.1.bel n) = true) (hk : Facts.ok ρ Φ) : Facts.ok ρ' Φ := fun p hp => by
  rw [← BE.bel_den h p.1 (List.all_eq_true.1 hb p hp)]
  exact hk p hp
/-- A loop that counts up to a number: each round's way is told. -/
theorem loopOk_cntG {P : Program} {ρ : Rho} {N : Nat} {body : Code} {L : LoopX} {ti : Nat → Option TI} {call : CallF} {ms : List Nat} {lps : List LoopX} {fuel : Nat} (hm : P.follows .mixedOrders = true) (hti : TIs.ok P ti)
    {Φ : Facts} {tr : T (XE × XS)} (hrun : (codeX ti call ms L.k0 lps fuel body Φ L.S).map (sqz (L.S.t.map (·.1))) = tr) (hfit : fitsC N body = true) {β : Bind} {nm : List (Nm × Nm)} (hback : tr.nrm (okS L.k0 L.n β nm L.S) = true) (hout : L.out = tr.outs)
    (B : Nat) (hbel : tr.outs.belX B = true) (hi : L.init.bel L.n = true) (hb : β.ge L.n = true) (hs : L.init.same β = true)
    {I : Nat} (hI : lassoc I β.i = some (.op .add .i64 (.var I) (.lit 1))) (hI0 : lassoc I L.init.i = some (.lit 0)) {Φ0 : Facts} (hΦ : Φ = (.lt (.var I) (.lit 0), false) :: Φ0) (hΦb : Φ0.all (fun p => p.1.bel L.n) = true) (hΦ0 : Facts.ok ρ Φ0) (hge : L.init.ge L.n = true)
    (hcall : ∀ ρ', CallOk P ρ' call) (hlps : ∀ ρ', LpsOk P ρ' N lps body) (n : Nat) (hn : n < 9223372036854775808)
    (hgo : ∀ j, j < n → (β.it (L.init.ap ρ) j).i I = j → Agree L.n ρ (β.it (L.init.ap ρ) j) → ∃ s, tr.sel (β.it (L.init.ap ρ) j) = some (.normal, s))
    (hend : (β.it (L.init.ap ρ) n).i I = n → Agree L.n ρ (β.it (L.init.ap ρ) n) → ∃ e s, e ≠ XE.normal ∧ tr.sel (β.it (L.init.ap ρ) n) = some (e, s)) : LoopOk P (β.it (L.init.ap ρ) n) N body L := by
  have cnt := fun j => it_count (e := .lit 0) hI (ρ := L.init.ap ρ) (by simp only [Bind.ap, hI0]; rfl) j
  have ag := fun j => (Bind.agree hge ρ).trans (Bind.it_agree hb (L.init.ap ρ) j)
  refine loopOk_it hm hti hrun hfit hback hout B hbel hi hb hs n fun j hj => ⟨hcall _, hlps _, ?_, ?_⟩
  · rw [hΦ]
    refine Facts.ok_cons ?_ (Facts.bel_ok (ag j) hΦb hΦ0)
    simp only [BE.den, IE.den, cnt j (by omega)]
    exact decide_eq_false (by omega)
  · by_cases hjn : j < n
    · rw [if_pos hjn]
      exact hgo j hjn (cnt j (by omega)) (ag j)
    · obtain rfl : j = n := by omega
      rw [if_neg hjn]
      exact hend (cnt j (by omega)) (ag j)
/-- The simplest: up to a number that stays, with one way round and one way out. -/
theorem loopOk_cntE {P : Program} {ρ : Rho} {N : Nat} {body : Code} {L : LoopX} {ti : Nat → Option TI} {call : CallF} {ms : List Nat} {lps : List LoopX} {fuel : Nat} (hm : P.follows .mixedOrders = true) (hti : TIs.ok P ti)
    {Φ : Facts} {tr : T (XE × XS)} (hrun : (codeX ti call ms L.k0 lps fuel body Φ L.S).map (sqz (L.S.t.map (·.1))) = tr) (hfit : fitsC N body = true) {β : Bind} {nm : List (Nm × Nm)} (hback : tr.nrm (okS L.k0 L.n β nm L.S) = true) (hout : L.out = tr.outs)
    (B : Nat) (hbel : tr.outs.belX B = true) (hi : L.init.bel L.n = true) (hb : β.ge L.n = true) (hs : L.init.same β = true)
    {I : Nat} {e : IE} {s1 s2 : XS} {e2 : XE} (htr : tr = .br (.lt (.var I) e) (.ret (.normal, s1)) (.ret (e2, s2))) (he2 : e2 ≠ .normal) (hI : lassoc I β.i = some (.op .add .i64 (.var I) (.lit 1))) (hI0 : lassoc I L.init.i = some (.lit 0)) (he : e.bel L.n = true)
    {Φ0 : Facts} (hΦ : Φ = (.lt (.var I) (.lit 0), false) :: Φ0) (hΦb : Φ0.all (fun p => p.1.bel L.n) = true) (hΦ0 : Facts.ok ρ Φ0) (hge : L.init.ge L.n = true)
    (hcall : ∀ ρ', CallOk P ρ' call) (hlps : ∀ ρ', LpsOk P ρ' N lps body) (n : Nat) (hn : n < 9223372036854775808) (hen : e.den ρ = n) : LoopOk P (β.it (L.init.ap ρ) n) N body L := by
  refine loopOk_cntG hm hti hrun hfit hback hout B hbel hi hb hs hI hI0 hΦ hΦb hΦ0 hge hcall hlps n hn (fun j hj hc ha => ⟨s1, ?_⟩) (fun hc ha => ⟨e2, s2, he2, ?_⟩)
  · rw [htr]
    simp only [T.sel, BE.den, ← IE.bel_den ha e he, hen, IE.den, hc]
    rw [if_pos (decide_eq_true (by omega))]
  · rw [htr]
    simp only [T.sel, BE.den, ← IE.bel_den ha e he, hen, IE.den, hc]
    rw [if_neg (by simp)]
/-- The letters behind a loop that counts up to a number of rows. -/
def fin (ι β : Bind) (l : Nat) (ρ : Rho) : Rho := β.it (ι.ap ρ) (ρ.len l)
/-- Of the other loops nothing is told. -/
def othersB (lps : List LoopX) (ks : List Nat) : Nat → List Code → Bool
  | _, [] => true
  | k, c :: r => (natIn k ks || (lookL (codeKey c) lps).isEmpty) && othersB lps ks (k + 1) r
theorem natIn_mem {k : Nat} : ∀ {l : List Nat}, natIn k l = true → k ∈ l
  | [], h => by cases h
  | a :: r, h => by
    simp only [natIn, Bool.or_eq_true] at h
    rcases h with h | h
    · rw [Nat.eq_of_beq_eq_true h]; exact List.mem_cons_self
    · exact List.mem_cons_of_mem _ (natIn_mem h)
theorem lps_idx {P : Program} {ρ : Rho} {N : Nat} {lps : List LoopX} {c : Code} (ks : List Nat) (ho : othersB lps ks 0 (loopsOf c) = true)
    (h : ∀ k ∈ ks, ∀ L ∈ lookL (codeKey ((loopsOf c)[k]?.getD .skip)) lps, LoopOk P ρ N ((loopsOf c)[k]?.getD .skip) L) : LpsOk P ρ N lps c := by
  unfold LpsOk
  generalize hl : loopsOf c = l at h ho ⊢
  have key : ∀ (r : List Code) (k0 : Nat), othersB lps ks k0 r = true → (∀ j, r[j]? = l[k0 + j]?) → ∀ c' ∈ r, ∀ L ∈ lookL (codeKey c') lps, LoopOk P ρ N c' L := by
    intro r
    induction r with
    | nil => intro k0 _ _ c' hc; cases hc
    | cons d r ih =>
      intro k0 ho hj c' hc L hL
      simp only [othersB, Bool.and_eq_true, Bool.or_eq_true] at ho
      rcases List.mem_cons.1 hc with rfl | hc
      · have h0 := hj 0
        simp only [List.getElem?_cons_zero, Nat.add_zero] at h0
        rcases ho.1 with h1 | h1
        · have := h k0 (natIn_mem h1)
          rw [← h0] at this
          exact this L hL
        · rw [List.isEmpty_iff.1 h1] at hL; cases hL
      · exact ih (k0 + 1) ho.2 (fun j => by have := hj (j + 1); rw [List.getElem?_cons_succ] at this; rw [this]; congr 1; omega) c' hc L hL
  exact key l 0 ho (fun j => by rw [Nat.zero_add])
theorem look_list {P : Program} {ρ : Rho} {N : Nat} {c : Code} {Ls lps : List LoopX} (h : lookL (codeKey c) lps = Ls) (hL : ∀ L ∈ Ls, LoopOk P ρ N c L) : ∀ K ∈ lookL (codeKey c) lps, LoopOk P ρ N c K := fun K hK => by
  rw [h] at hK
  exact hL K hK
/-- From the table's row to the function's own text. -/
theorem lps_row {P : Program} {ρ : Rho} {f : FuncId} {i : FnI} {fn : Func} {lps : List LoopX} (hi : FnOk P f i) (hf : P.funcs[f]? = some fn) (h : LpsOk P ρ fn.ntmps lps (fn.body.getD .skip)) : LpsOk P ρ i.ntmps lps i.body := by
  obtain ⟨fn', g1, g2, _, g4, _⟩ := hi
  rw [hf] at g1
  cases g1
  rw [← g4]
  rw [g2] at h
  exact h
end Go.Proofs.Xw

/- Symbolic runs, part 24: truths by cases; an argument seen as another, in the light of what is known. -/
namespace Go.Proofs.Xw
open Go Go.Proofs.Aw

/-- What is known tells a fact. -/
def sees (Φ : Facts) (p : BE × Bool) : Bool := match red Φ p.1 with
  | .lit b => b == p.2
  | _ => false
end Go.Proofs.Xw

/- Symbolic runs, part 25: a loop by cases: each round is one of many, and each of these has a run of its own. -/
namespace Go.Proofs.Xw
open Go Go.Proofs.Aw

/-! ### Letters that are put lie in no other place -/
structure Off (ι : Bind) (ρ ρ' : Rho) : Prop where
  i : ∀ k, lassoc k ι.i = none → ρ'.i k = ρ.i k
  b : ∀ k, lassoc k ι.b = none → ρ'.b k = ρ.b k
  s : ∀ k, lassoc k ι.s = none → ρ'.s k = ρ.s k
  r : ∀ k, lassoc k ι.r = none → ρ'.len k = ρ.len k ∧ ρ'.ci k = ρ.ci k ∧ ρ'.cb k = ρ.cb k ∧ ρ'.cs k = ρ.cs k
theorem Off.refl (ι : Bind) (ρ : Rho) : Off ι ρ ρ := ⟨fun _ _ => rfl, fun _ _ => rfl, fun _ _ => rfl, fun _ _ => ⟨rfl, rfl, rfl, rfl⟩⟩
theorem Off.trans {ι : Bind} {a b c : Rho} (h : Off ι a b) (k : Off ι b c) : Off ι a c :=
  ⟨fun j hj => (k.i j hj).trans (h.i j hj), fun j hj => (k.b j hj).trans (h.b j hj), fun j hj => (k.s j hj).trans (h.s j hj),
   fun j hj => ⟨(k.r j hj).1.trans (h.r j hj).1, (k.r j hj).2.1.trans (h.r j hj).2.1, (k.r j hj).2.2.1.trans (h.r j hj).2.2.1, (k.r j hj).2.2.2.trans (h.r j hj).2.2.2⟩⟩
theorem Off.of {ι β : Bind} (h : ι.same β = true) (ρ : Rho) : Off ι ρ (β.ap ρ) := by
  simp only [Bind.same, Bool.and_eq_true] at h
  obtain ⟨s1, s2, s3, s4⟩ := h
  refine ⟨fun k hk => ?_, fun k hk => ?_, fun k hk => ?_, fun k hk => ⟨?_, ?_, ?_, ?_⟩⟩
  · simp only [Bind.ap, (lassoc_same s1).1 hk]
  · simp only [Bind.ap, (lassoc_same s2).1 hk]
  · simp only [Bind.ap, (lassoc_same s3).1 hk]
  · simp only [Bind.ap, (lassoc_same s4).1 hk]
  · funext a b; simp only [Bind.ap, (lassoc_same s4).1 hk]
  · funext a b; simp only [Bind.ap, (lassoc_same s4).1 hk]
  · funext a b; simp only [Bind.ap, (lassoc_same s4).1 hk]
theorem Off.self (ι : Bind) (ρ : Rho) : Off ι ρ (ι.ap ρ) := by
  refine ⟨fun k hk => ?_, fun k hk => ?_, fun k hk => ?_, fun k hk => ⟨?_, ?_, ?_, ?_⟩⟩
  · simp only [Bind.ap, hk]
  · simp only [Bind.ap, hk]
  · simp only [Bind.ap, hk]
  · simp only [Bind.ap, hk]
  · funext a b; simp only [Bind.ap, hk]
  · funext a b; simp only [Bind.ap, hk]
  · funext a b; simp only [Bind.ap, hk]
/-- Put anew from the start: what the rounds had put is gone. -/
theorem Off.init {n : Nat} {ι : Bind} (hi : ι.bel n = true) {ρ ρ' : Rho} (h : Off ι ρ ρ') (hag : Agree n ρ' ρ) : ι.ap ρ' = ι.ap ρ := by
  simp only [Bind.bel, Bool.and_eq_true] at hi
  obtain ⟨h1, h2, h3, h4⟩ := hi
  obtain ⟨i1, i2, i3, i4⟩ := h
  have ext : ∀ {a b : Rho}, a.i = b.i → a.b = b.b → a.s = b.s → a.len = b.len → a.ci = b.ci → a.cb = b.cb → a.cs = b.cs → a = b := fun {a b} q1 q2 q3 q4 q5 q6 q7 => by
    cases a; cases b; simp only at q1 q2 q3 q4 q5 q6 q7; subst q1 q2 q3 q4 q5 q6 q7; rfl
  refine ext ?_ ?_ ?_ ?_ ?_ ?_ ?_
  · funext k; simp only [Bind.ap]
    cases he : lassoc k ι.i with
    | none => exact i1 k he
    | some e => exact IE.bel_den hag e (lassoc_bel h1 he)
  · funext k; simp only [Bind.ap]
    cases he : lassoc k ι.b with
    | none => exact i2 k he
    | some e => exact BE.bel_den hag e (lassoc_bel h2 he)
  · funext k; simp only [Bind.ap]
    cases he : lassoc k ι.s with
    | none => exact i3 k he
    | some e => exact TE.bel_den hag e (lassoc_bel h3 he)
  · funext k; simp only [Bind.ap]
    cases he : lassoc k ι.r with
    | none => exact (i4 k he).1
    | some e =>
      have := lassoc_bel h4 he
      simp only [Bool.and_eq_true] at this
      exact congrArg Int.toNat (IE.bel_den hag e.1 this.1)
  · funext k a b; simp only [Bind.ap]
    cases he : lassoc k ι.r with
    | none => exact congrFun (congrFun (i4 k he).2.1 a) b
    | some e =>
      have := lassoc_bel h4 he
      simp only [Bool.and_eq_true] at this
      exact congrArg (fun r : List AV => cellI r[a]?) (RL.bel_row hag e.2 b this.2)
  · funext k a b; simp only [Bind.ap]
    cases he : lassoc k ι.r with
    | none => exact congrFun (congrFun (i4 k he).2.2.1 a) b
    | some e =>
      have := lassoc_bel h4 he
      simp only [Bool.and_eq_true] at this
      exact congrArg (fun r : List AV => cellB r[a]?) (RL.bel_row hag e.2 b this.2)
  · funext k a b; simp only [Bind.ap]
    cases he : lassoc k ι.r with
    | none => exact congrFun (congrFun (i4 k he).2.2.2 a) b
    | some e =>
      have := lassoc_bel h4 he
      simp only [Bool.and_eq_true] at this
      exact congrArg (fun r : List AV => cellS r[a]?) (RL.bel_row hag e.2 b this.2)

/-! ### From round to round -/
/-- From these letters the round ends the loop. -/
def EndL (P : Program) (N : Nat) (body : Code) (k0 : Nat) (S : XS) (out : T (XE × XS)) (ρ : Rho) : Prop :=
  ∀ E : Aw.Env, E.N = N → (∀ m, E.c0.kn m → m.1 < k0) → AW P E body (fun e σ => ∃ e' s, e' ≠ XE.normal ∧ out.sel ρ = some (e', s) ∧ e = e'.to ∧ Imp E σ (s.den ρ)) (S.den ρ)
/-! ### A fact, with the letters put -/
def putI (β : Bind) : IE → Option IE
  | .lit n => some (.lit n)
  | .var k => match lassoc k β.i with
    | some e => some e
    | none => some (.var k)
  | .len l => match lassoc l β.r with
    | some _ => none
    | none => some (.len l)
  | _ => none
def putB (β : Bind) : BE → Option BE
  | .var k => match lassoc k β.b with
    | some e => some e
    | none => some (.var k)
  | .lt a b => match putI β a with
    | some a => match putI β b with
      | some b => some (.lt a b)
      | none => none
    | none => none
  | .eq a b => match putI β a with
    | some a => match putI β b with
      | some b => some (.eq a b)
      | none => none
    | none => none
  | _ => none
/-! ### What the letters are next -/
/-! ### A round of a loop that counts -/
end Go.Proofs.Xw

/- Symbolic runs, part 26: sums by their parts; a truth brought down in the light of linear facts. -/
namespace Go.Proofs.Xw
open Go Go.Proofs.Aw

/-! ### Sums by their parts -/
structure Lin where
  l : List (IE × Int)
  c : Int
def sumL (ρ : Rho) : List (IE × Int) → Int
  | [] => 0
  | (e, k) :: r => k * e.den ρ + sumL ρ r
def Lin.den (ρ : Rho) (x : Lin) : Int := sumL ρ x.l + x.c
/-! ### What stays within bounds, as whole numbers -/
end Go.Proofs.Xw

/- Symbolic runs, part 27: a loop whose head is in one of many states; letters of the rounds' own. -/
namespace Go.Proofs.Xw
open Go Go.Proofs.Aw

def noB : Bind := ⟨[], [], [], []⟩
theorem noB_ap (ρ : Rho) : noB.ap ρ = ρ := rfl
/-- One round leads from a state to a state. -/
def StepF (P : Program) (N : Nat) (body : Code) (k0 : Nat) (S S' : XS) (ρ ρ' : Rho) : Prop :=
  ∀ E : Aw.Env, E.N = N → (∀ m, E.c0.kn m → m.1 < k0) → AW P E body (fun e σ => e = XE.normal.to ∧ Imp E σ (S'.den ρ')) (S.den ρ)
/-! ### What the letters and the names are next -/
/-! ### One round, shown by a run -/
theorem stepF_of {P : Program} {ρ : Rho} {N : Nat} {body : Code} {ti : Nat → Option TI} {call : CallF} {ms : List Nat} {lps : List LoopX} {fuel k0 n : Nat} {S S' U : XS} {s : XS} (hm : P.follows .mixedOrders = true) (hti : TIs.ok P ti)
    (hcall : CallOk P ρ call) (hlps : LpsOk P ρ N lps body) (hfit : fitsC N body = true) {Φ' : Facts} (hk : Facts.ok ρ Φ') (hd : S.den ρ = S'.den ρ) {ks : List Nat}
    (hsel : ((codeX ti call ms k0 lps fuel body Φ' S').map (sqz ks)).sel ρ = some (.normal, s)) {β : Bind} {nm : List (Nm × Nm)} (hok : okS k0 n β nm U s = true) : StepF P N body k0 S U ρ (β.ap ρ) := by
  intro E hE hkn
  obtain ⟨q, hq, he⟩ := T.sel_map _ hsel
  rw [hd]
  have g := codeX_goes (E := E) hm hti hcall hkn body Φ' _ q.1 q.2 hk (by rw [hE]; exact hfit) (by rw [hE]; exact hlps) hq
  have q1 := congrArg Prod.fst he
  have q2 := congrArg Prod.snd he
  simp only at q1 q2
  refine AW_mono (fun e' s' hh => ⟨?_, ?_⟩) g
  · rw [hh.1, show q.1 = XE.normal from q1.symm]
  · have i := impLe hh.2 (sqz_le ks ρ q)
    rw [← q2] at i
    exact impTrans i (okS_imp hkn hok ρ)
theorem StepF.from {P : Program} {N : Nat} {body : Code} {k0 : Nat} {S S' : XS} {ρ ρ1 ρ' : Rho} (h : S.den ρ = S.den ρ1) (k : StepF P N body k0 S S' ρ1 ρ') : StepF P N body k0 S S' ρ ρ' := fun E hE hb => by
  rw [h]; exact k E hE hb
theorem endF_of {P : Program} {ρ : Rho} {N : Nat} {body : Code} {ti : Nat → Option TI} {call : CallF} {ms : List Nat} {lps : List LoopX} {fuel k0 : Nat} {S S' s : XS} {e : XE} {out : T (XE × XS)} (hm : P.follows .mixedOrders = true) (hti : TIs.ok P ti)
    (hcall : CallOk P ρ call) (hlps : LpsOk P ρ N lps body) (hfit : fitsC N body = true) {Φ' : Facts} (hk : Facts.ok ρ Φ') (hd : S.den ρ = S'.den ρ) {ks : List Nat} (he : e ≠ .normal)
    (hsel : ((codeX ti call ms k0 lps fuel body Φ' S').map (sqz ks)).sel ρ = some (e, s)) (ho : ∃ s', out.sel ρ = some (e, s') ∧ ∀ E : Aw.Env, (∀ m, E.c0.kn m → m.1 < k0) → Imp E (s.den ρ) (s'.den ρ)) : EndL P N body k0 S out ρ := by
  intro E hE hkn
  obtain ⟨q, hq, h2⟩ := T.sel_map _ hsel
  obtain ⟨s', h3, h4⟩ := ho
  rw [hd]
  have g := codeX_goes (E := E) hm hti hcall hkn body Φ' S' q.1 q.2 hk (by rw [hE]; exact hfit) (by rw [hE]; exact hlps) hq
  have q1 := congrArg Prod.fst h2
  have q2 := congrArg Prod.snd h2
  simp only at q1 q2
  refine AW_mono (fun e' s'' hh => ⟨e, s', he, h3, ?_, ?_⟩) g
  · rw [hh.1, q1]
    rfl
  · have i := impLe hh.2 (sqz_le ks ρ q)
    rw [← q2] at i
    exact impTrans i (h4 E hkn)
end Go.Proofs.Xw

/- Symbolic runs, part 28: a loop whose head is in one of many states, and what is known where it ends. -/
namespace Go.Proofs.Xw
open Go Go.Proofs.Aw

/-- Round by round, from state to state, down to an end, of which more is known. -/
theorem loopOk_famE {P : Program} {N : Nat} {body : Code} {L : LoopX} (hi : L.init = noB) (hS : L.S.bel L.n = true) (Ss : Nat → XS) (R Q : Nat → Rho → Prop) (M : Nat → Rho → Nat)
    (hR : ∀ i ρ, R i ρ → (∃ ρ', Agree L.n ρ ρ' ∧ Q i ρ' ∧ (Ss i).den ρ = (Ss i).den ρ' ∧ EndL P N body L.k0 (Ss i) L.out ρ') ∨ ∃ i' ρ', StepF P N body L.k0 (Ss i) (Ss i') ρ ρ' ∧ R i' ρ' ∧ M i' ρ' < M i ρ ∧ Agree L.n ρ ρ')
    {ρ : Rho} (h0 : ∃ i ρ0, Agree L.n ρ ρ0 ∧ R i ρ0 ∧ ∀ E : Aw.Env, E.N = N → (∀ m, E.c0.kn m → m.1 < L.k0) → Imp E (L.S.den ρ) ((Ss i).den ρ0)) : ∃ i ρf, Agree L.n ρ ρf ∧ Q i ρf ∧ LoopOk P ρf N body L := by
  have key : ∀ (k : Nat) (i : Nat) (ρ : Rho), M i ρ ≤ k → R i ρ → ∃ i' ρf, Agree L.n ρ ρf ∧ Q i' ρf ∧ ∀ E : Aw.Env, E.N = N → (∀ m, E.c0.kn m → m.1 < L.k0) → ∃ m, AWR P E body (fun e σ => ∃ e' s, L.out.sel ρf = some (e', s) ∧ e = e'.to ∧ Imp E σ (s.den ρf)) m ((Ss i).den ρ) := by
    have fin : ∀ i ρ ρ', (Ss i).den ρ = (Ss i).den ρ' → EndL P N body L.k0 (Ss i) L.out ρ' → ∀ E : Aw.Env, E.N = N → (∀ m, E.c0.kn m → m.1 < L.k0) → ∃ m, AWR P E body (fun e σ => ∃ e' s, L.out.sel ρ' = some (e', s) ∧ e = e'.to ∧ Imp E σ (s.den ρ')) m ((Ss i).den ρ) := fun i ρ ρ' hd h E hE hb => by
      rw [hd]
      refine ⟨1, AW_mono (fun e σ hq => ?_) (h E hE hb)⟩
      obtain ⟨e', s, h1, h2, rfl, h4⟩ := hq
      cases e' with
      | normal => exact absurd rfl h1
      | exit j => exact ⟨_, s, h2, rfl, h4⟩
      | ret => exact ⟨_, s, h2, rfl, h4⟩
    intro k
    induction k with
    | zero =>
      intro i ρ hk hr
      rcases hR i ρ hr with ⟨ρ', a1, a2, a3, a4⟩ | ⟨i', ρ', _, _, h, _⟩
      · exact ⟨i, ρ', a1, a2, fin i ρ ρ' a3 a4⟩
      · omega
    | succ k ih =>
      intro i ρ hk hr
      rcases hR i ρ hr with ⟨ρ', a1, a2, a3, a4⟩ | ⟨i', ρ', h1, h2, h3, h5⟩
      · exact ⟨i, ρ', a1, a2, fin i ρ ρ' a3 a4⟩
      · obtain ⟨i2, ρf, g2, g3, g4⟩ := ih i' ρ' (by omega) h2
        refine ⟨i2, ρf, h5.trans g2, g3, fun E hE hb => ?_⟩
        obtain ⟨m, g5⟩ := g4 E hE hb
        refine ⟨m + 1, AW_mono (fun e σ hq => ?_) (h1 E hE hb)⟩
        obtain ⟨rfl, hi⟩ := hq
        cases m with
        | zero => exact g5.elim
        | succ m => exact AW_imp hi g5
  obtain ⟨i, ρ0, a0, hr, himp⟩ := h0
  obtain ⟨i', ρf, g2, g3, g4⟩ := key (M i ρ0) i ρ0 (Nat.le_refl _) hr
  refine ⟨i', ρf, a0.trans g2, g3, fun E hE hb => ?_⟩
  rw [hi, noB_ap, ← XS.bel_den (a0.trans g2) L.S hS]
  obtain ⟨m, g5⟩ := g4 E hE hb
  exact AW_imp (himp E hE hb) (AW_rounds m g5)
end Go.Proofs.Xw

/- Symbolic runs, part 29: a slice that is handed in is no longer than memory reaches. -/
namespace Go.Proofs.Xw
open Go Go.Proofs.Aw Go.ChangeShapes Go.WideShapes
section
variable {H : Type} {enc : TypeId × Value → H} {P : Program}
theorem mapM_len {α β : Type} {f : α → Option β} : ∀ {l : List α} {r : List β}, l.mapM f = some r → r.length = l.length
  | [], r, h => by simp only [List.mapM_nil, pure, Option.some.injEq] at h; subst h; rfl
  | a :: l, r, h => by
    simp only [List.mapM_cons, bind, Option.bind_eq_some_iff, pure, Option.some.injEq] at h
    obtain ⟨y, _, ys, hys, rfl⟩ := h
    simp [mapM_len hys]
/-- What is read of a slice has as many parts. -/
theorem len_trod {t e : TypeId} (hu : P.underlying t = some (.slice e)) {W : World} {A : Option Addr} {len cap : Nat} {d : DataW H} {p : List MemPlace} (h : DataW.Trod enc P W 0 (fun _ => true) true t (.slice A len cap) d p) : len = 0 ∨ ∃ elems spare, d = .slice elems spare ∧ elems.length = len := by
  obtain ⟨n, h⟩ := h
  cases n with
  | zero => simp [DataW.trod] at h
  | succ n =>
    have hv : (Value.slice A len cap).cells.toList = [.slice A len cap] := rfl
    rw [hv, DataW.trod_step] at h
    unfold DataW.trodStep at h
    rw [hu] at h
    cases A with
    | none =>
      left
      cases len <;> cases cap <;> simp_all
    | some a =>
      simp only at h
      split at h
      · obtain ⟨elems, he, h⟩ := Option.bind_eq_some_iff.1 h
        obtain ⟨rest, _, h⟩ := Option.map_eq_some_iff.1 h
        right
        have h1 := congrArg Prod.fst h
        simp only at h1
        exact ⟨_, _, h1.symm, by rw [List.length_map, mapM_len he, List.length_range]⟩
      · cases h
/-- The lengths of all that are handed in. -/
theorem lens_all {W : World} {gs : List (DataW H)} {us : List TypeId} : ∀ {ts : List TypeId} {vs : List Value} {ds : List (DataW H)} {p : List MemPlace}, DataW.TrodAll enc P W 0 (fun _ => true) true ts vs ds p → (DataW.weightsEach P (ts ++ us) (ds ++ gs)).all (· ≤ reachBytes) = true →
    ∀ (j : Nat) (t e : TypeId) (A : Option Addr) (len cap : Nat), ts[j]? = some t → vs[j]? = some (.slice A len cap) → P.underlying t = some (.slice e) → len * P.bytesOf e ≤ reachBytes
  | [], _, _, _, _, _, j, t, e, A, len, cap, h1, _, _ => by simp at h1
  | t0 :: ts, vs, ds, p, h, hw, j, t, e, A, len, cap, h1, h2, hu => by
    obtain ⟨v, vs', d, ds', p1, p2, rfl, rfl, rfl, g1, g2⟩ := trodAll_cons h
    simp only [List.cons_append, DataW.weightsEach, List.all_append, Bool.and_eq_true] at hw
    cases j with
    | zero =>
      simp only [List.getElem?_cons_zero, Option.some.injEq] at h1 h2
      subst h1 h2
      rcases len_trod hu g1 with h0 | ⟨elems, spare, rfl, hl⟩
      · subst h0; simp
      · have := hw.1
        simp only [DataW.weights, hu, List.all_cons, Bool.and_eq_true, decide_eq_true_eq] at this
        have h3 := this.1
        rw [hl] at h3
        exact Nat.le_trans (Nat.mul_le_mul_right _ (Nat.le_add_right _ _)) h3
    | succ j => exact lens_all g2 hw.2 j t e A len cap (by simpa using h1) (by simpa using h2) hu
/-- Every slice that is handed in takes no more than memory reaches. -/
def Short (P : Program) (ts : List TypeId) (vs : List Value) : Prop := ∀ (j : Nat) (t e : TypeId) (A : Option Addr) (len cap : Nat), ts[j]? = some t → vs[j]? = some (.slice A len cap) → P.underlying t = some (.slice e) → len * P.bytesOf e ≤ reachBytes
theorem law_callsS {f : FuncId} {fn : Func} {s : ChangeSpec} {shs : List Sh} {r : TypeId} (hts : fn.params.toList.map (shT P) = shs.map some) (hrt : fn.resultTypes = #[r]) (hrb : P.underlying r = some .bool) (hvars : s.vars = [])
    (hcy : ∀ (W : World) (vs : List Value), shs.length = vs.length → (∀ (i : Nat) (sh : Sh) (v : Value), shs[i]? = some sh → vs[i]? = some v → Fits W sh v) → Short P fn.params.toList vs → CY P 0 f (X.denL (mkR W (plain shs vs) vs (shs.map shZ)) (pats 0 0 shs)) [] (.sc (.bool true)) [])
    {W : World} {base : Nat} {args : Array Value} {ds gs : List (DataW H)} {before : List MemPlace} {apart : Bool} {us : List TypeId} (hval : ∀ (j : Nat) t v, fn.params[j]? = some t → args[j]? = some v → Value.okWide P W .any base t v)
    (hW : DataW.Whole enc P fn.params.toList s.vars apart W args.toList ds gs before) (hwt : (DataW.weightsEach P (fn.params.toList ++ us) (ds ++ gs)).all (· ≤ reachBytes) = true)
    (hspec : ∀ ds : List (DataW H), ds.length = fn.params.size → s.fn H (ds ++ []) = { results := [.lit (.bool true)], args := ds }) :
    Calls P f args W fun e W' => ∃ v, e = .returned v ∧ s.post enc P fn apart true false false W args v W' := by
  obtain ⟨p, q, hA, _⟩ := id hW
  exact law_calls1 hts hrt hrb hvars (fun h1 h2 => hcy W args.toList h1 h2 (lens_all hA hwt)) hval hW hspec
end
/-- As the kit's own, with the arguments' sizes told. -/
theorem handed_sized {H : Type} {enc : TypeId × Value → H} {a : Assume} {C : Checked} {os : Os} {f : FuncId} {fn : Func} {s : ChangeSpec} {conds : List PathCond} {apart fresh handsOn again : Bool}
    (own : ownKnob C.prog.godebug = none) (started : os.Started) (noInit : C.prog.inits.idxOf? f = none) (hfn : C.prog.funcs[f]? = some fn)
    (witness : ∃ (w : World) (tape : Tape) (i : Input), w.os = os ∧ (w.forCall tape i).Shaped C.prog ∧ i.vars = [] ∧ Input.okWide C.prog (w.forCall tape i) .any w.heap.size f i ∧
      s.pre6 enc C.prog fn conds apart (w.forCall tape i).memory i.args ∧ a.holds C.prog (lone (Frame.enter C.prog f i.args .normal) [] (w.forCall tape i)))
    (contract : ∀ (W : World) (base : Nat) (args : Array Value) (ds gs : List (DataW H)) (before : List MemPlace),
      (∀ (j : Nat) t v, fn.params[j]? = some t → args[j]? = some v → Value.okWide C.prog W .any base t v) →
      DataW.Whole enc C.prog fn.params.toList s.vars apart W args.toList ds gs before →
      (DataW.weightsEach C.prog (fn.params.toList ++ s.plain.varTypes C.prog) (ds ++ gs)).all (· ≤ reachBytes) = true →
      Calls C.prog f args W fun e W' => ∃ v, e = .returned v ∧ s.post enc C.prog fn apart fresh handsOn again W args v W') :
    ReturnsInHanded a C os f .any (s.pre6 enc C.prog fn conds apart) (s.post enc C.prog fn apart fresh handsOn again) := by
  have h := returnsInHanded_of_change_and (enc := enc) (a := a) (C := C) (os := os) (f := f) (fn := fn) (s := s) (conds := conds) (apart := apart) (fresh := fresh) (handsOn := handsOn) (again := again) (X := fun _ _ => True) (fun _ _ _ _ h => h) own started noInit hfn
    (by
      obtain ⟨w, t, i, a1, a2, a3, a4, ⟨a5, a6⟩, a7⟩ := witness
      exact ⟨w, t, i, a1, a2, a3, a4, ⟨⟨a5, trivial⟩, a6⟩, a7⟩) (fun W base args ds gs before h1 h2 _ h4 _ _ => contract W base args ds gs before h1 h2 h4)
  have e : (fun w args => (s.pre enc C.prog fn conds apart w args ∧ True) ∧ sizedMet enc C.prog fn (OpenSpec.ofChange s) apart w args) = s.pre6 enc C.prog fn conds apart := by
    funext w args
    simp only [ChangeSpec.pre6, and_true]
  rw [← e]
  exact h
end Go.Proofs.Xw
