/- Symbolic runs, part 22: what is shown of a loop, out of one run of its body. -/
import Derived.Test.YtcllappmhdfffaaXw12
namespace Go.Proofs.Xw
open Go Go.Proofs.Aw

/-- The ways out, without those that go round again. -/
def T.outs : T (XE × XS) → T (XE × XS)
  | .ret (.normal, _) => .fail []
  | .ret (.exit j, s) => .ret (.exit j, s)
  | .ret (.ret, s) => .ret (.ret, s)
  | .br c x y => .br c x.outs y.outs
  | .need c x => .need c x.outs
  | .fail w => .fail w
theorem T.outs_sel {ρ : Rho} {e : XE} {s : XS} (he : e ≠ .normal) : ∀ {t : T (XE × XS)}, t.sel ρ = some (e, s) → t.outs.sel ρ = some (e, s)
  | .ret (.normal, _), h => by cases h; exact absurd rfl he
  | .ret (.exit j, s), h => h
  | .ret (.ret, s), h => h
  | .br c x y, h => by
    simp only [T.sel] at h
    simp only [T.outs, T.sel]
    split
    · rename_i hc; rw [if_pos hc] at h; exact T.outs_sel he h
    · rename_i hc; rw [if_neg hc] at h; exact T.outs_sel he h
  | .need c x, h => by
    simp only [T.sel] at h
    simp only [T.outs, T.sel]
    split
    · rename_i hc; rw [if_pos hc] at h; exact T.outs_sel he h
    · rename_i hc; rw [if_neg hc] at h; cases h
  | .fail _, h => by cases h
def T.belX (n : Nat) : T (XE × XS) → Bool
  | .ret (_, s) => s.bel n
  | .br c x y => c.bel n && (x.belX n && y.belX n)
  | .need c x => c.bel n && x.belX n
  | .fail _ => true
theorem T.belX_sel {n : Nat} {ρ ρ' : Rho} (h : Agree n ρ ρ') {e : XE} {s : XS} : ∀ {t : T (XE × XS)}, t.belX n = true → t.sel ρ = some (e, s) → t.sel ρ' = some (e, s) ∧ s.den ρ = s.den ρ'
  | .ret (_, s'), hb, hs => by cases hs; exact ⟨rfl, XS.bel_den h _ hb⟩
  | .br c x y, hb, hs => by
    simp only [T.belX, Bool.and_eq_true] at hb
    simp only [T.sel] at hs ⊢
    rw [← BE.bel_den h c hb.1]
    split
    · rename_i hc; rw [if_pos hc] at hs; exact T.belX_sel h hb.2.1 hs
    · rename_i hc; rw [if_neg hc] at hs; exact T.belX_sel h hb.2.2 hs
  | .need c x, hb, hs => by
    simp only [T.belX, Bool.and_eq_true] at hb
    simp only [T.sel] at hs ⊢
    rw [← BE.bel_den h c hb.1]
    split
    · rename_i hc; rw [if_pos hc] at hs; exact T.belX_sel h hb.2 hs
    · rename_i hc; rw [if_neg hc] at hs; cases hs
  | .fail _, _, hs => by cases hs
/-- Each way that goes round again is as p wants it. -/
def T.nrm (p : XS → Bool) : T (XE × XS) → Bool
  | .ret (.normal, s) => p s
  | .ret _ => true
  | .br _ x y => x.nrm p && y.nrm p
  | .need _ x => x.nrm p
  | .fail _ => true
theorem T.nrm_sel {p : XS → Bool} {ρ : Rho} {s : XS} : ∀ {t : T (XE × XS)}, t.nrm p = true → t.sel ρ = some (.normal, s) → p s = true
  | .ret (.normal, _), h, hs => by cases hs; exact h
  | .ret (.exit j, _), _, hs => by cases hs
  | .ret (.ret, _), _, hs => by cases hs
  | .br c x y, h, hs => by
    simp only [T.nrm, Bool.and_eq_true] at h
    simp only [T.sel] at hs
    split at hs
    · exact T.nrm_sel h.1 hs
    · exact T.nrm_sel h.2 hs
  | .need c x, h, hs => by
    simp only [T.sel] at hs
    split at hs
    · exact T.nrm_sel (t := x) h hs
    · cases hs
  | .fail _, _, hs => by cases hs
/-- Each slot once. -/
def sqz (p : XE × XS) : XE × XS := (p.1, ⟨sqK p.2.t (p.2.t.map (·.1)) [] [], p.2.h, p.2.nx⟩)
theorem sqz_le (ρ : Rho) (p : XE × XS) : LeS ((sqz p).2.den ρ) (p.2.den ρ) := by
  refine ⟨fun i => ?_, fun m cs hcs => ⟨cs, hcs, LeC.refl cs⟩, Nat.le_refl _⟩
  simp only [XS.den, sqz, tget_denT, tget_sqK]
  split
  · exact LeA.refl _
  · simp only [tgetX, X.den]; exact LeA.top _
/-- One run of the body over the letters shows the loop: R k says what the letters may be with at most k rounds more. -/
theorem loopOk_of {P : Program} {ρ : Rho} {N : Nat} {body : Code} {L : LoopX} {ti : Nat → Option TI} {call : CallF} {ms : List Nat} {lps : List LoopX} {fuel : Nat} (hm : P.follows .mixedOrders = true) (hti : TIs.ok P ti)
    {Φ : Facts} {tr : T (XE × XS)} (hrun : (codeX ti call ms L.k0 lps fuel body Φ L.S).map sqz = tr) (hfit : fitsC N body = true) {β : Bind} {nm : List (Nm × Nm)} (hback : tr.nrm (okS L.k0 L.n β nm L.S) = true) (hout : L.out = tr.outs)
    (B : Nat) (hbel : tr.outs.belX B = true) (R : Nat → Rho → Prop) (h0 : ∃ k, R k (L.init.ap ρ))
    (hR : ∀ k ρ', R k ρ' → CallOk P ρ' call ∧ LpsOk P ρ' N lps body ∧ Facts.ok ρ' Φ ∧
      ((∃ e s, e ≠ XE.normal ∧ tr.sel ρ' = some (e, s) ∧ Agree B ρ' ρ) ∨ ∃ s, tr.sel ρ' = some (.normal, s) ∧ ∃ k', k' < k ∧ R k' (β.ap ρ'))) : LoopOk P ρ N body L := by
  intro E hE hb
  obtain ⟨k, hk⟩ := h0
  refine AW_loop (fun k σ => ∃ ρ', R k ρ' ∧ σ = L.S.den ρ') k ⟨_, impRefl _ _, _, hk, rfl⟩ (fun k σ hσ => ?_)
  obtain ⟨ρ', hR', rfl⟩ := hσ
  obtain ⟨hcall, hl, hΦ, ho⟩ := hR k ρ' hR'
  have run : ∀ (e : XE) (s : XS), tr.sel ρ' = some (e, s) → AW P E body (fun e' s' => e' = e.to ∧ Imp E s' (s.den ρ')) (L.S.den ρ') := fun e s hs => by
    rw [← hrun] at hs
    obtain ⟨q, hq, he⟩ := T.sel_map _ hs
    have g := codeX_goes (E := E) hm hti hcall hb body Φ L.S q.1 q.2 hΦ (by rw [hE]; exact hfit) (by rw [hE]; exact hl) hq
    have h1 := congrArg Prod.fst he
    have h2 := congrArg Prod.snd he
    simp only at h1 h2
    subst h1 h2
    exact AW_mono (fun e' s' hh => ⟨hh.1, impLe hh.2 (sqz_le ρ' q)⟩) g
  rcases ho with ⟨e, s, he, hs, hag⟩ | ⟨s, hs, k', hlt, hk'⟩
  · have g := run e s hs
    refine AW_mono (fun e' s' hq => ?_) g
    obtain ⟨rfl, hi⟩ := hq
    obtain ⟨h1, h2⟩ := T.belX_sel hag hbel (T.outs_sel he hs)
    have fin : ∃ e' s'', L.out.sel ρ = some (e', s'') ∧ e.to = e'.to ∧ Imp E s' (s''.den ρ) := ⟨e, s, by rw [hout]; exact h1, rfl, by rw [← h2]; exact hi⟩
    cases e with
    | normal => exact absurd rfl he
    | exit j => exact fin
    | ret => exact fin
  · have g := run .normal s hs
    refine AW_mono (fun e' s' hq => ?_) g
    obtain ⟨rfl, hi⟩ := hq
    exact ⟨k', _, hlt, impTrans hi (okS_imp hb (T.nrm_sel hback hs) ρ'), β.ap ρ', hk', rfl⟩
/-! ### Rounds, one after the other -/
/-- The letters behind j rounds. -/
def Bind.it (β : Bind) (ρ : Rho) : Nat → Rho
  | 0 => ρ
  | j + 1 => β.ap (β.it ρ j)
theorem Bind.it_agree {n : Nat} {β : Bind} (h : β.ge n = true) (ρ : Rho) : ∀ j, Agree n ρ (β.it ρ j)
  | 0 => Agree.refl _ _
  | j + 1 => (Bind.it_agree h ρ j).trans (Bind.agree h _)
def keysSame {α β : Type} : List (Nat × α) → List (Nat × β) → Bool
  | [], [] => true
  | (a, _) :: r, (b, _) :: s => Nat.beq a b && keysSame r s
  | _, _ => false
theorem lassoc_same {α β : Type} {k : Nat} : ∀ {l : List (Nat × α)} {m : List (Nat × β)}, keysSame l m = true → (lassoc k l = none ↔ lassoc k m = none)
  | [], [], _ => ⟨fun _ => rfl, fun _ => rfl⟩
  | [], _ :: _, h => by cases h
  | _ :: _, [], h => by simp [keysSame] at h
  | (a, v) :: r, (b, w) :: s, h => by
    simp only [keysSame, Bool.and_eq_true] at h
    have ha := Nat.eq_of_beq_eq_true h.1
    subst ha
    simp only [lassoc]
    split
    · simp
    · exact lassoc_same h.2
def Bind.same (β γ : Bind) : Bool := keysSame β.i γ.i && (keysSame β.b γ.b && (keysSame β.s γ.s && keysSame β.r γ.r))
def keysBel {α : Type} (f : α → Bool) : List (Nat × α) → Bool
  | [] => true
  | (_, v) :: r => f v && keysBel f r
theorem lassoc_bel {α : Type} {f : α → Bool} {k : Nat} {v : α} : ∀ {l : List (Nat × α)}, keysBel f l = true → lassoc k l = some v → f v = true
  | [], _, h => by cases h
  | (a, w) :: r, hb, h => by
    simp only [keysBel, Bool.and_eq_true] at hb
    simp only [lassoc] at h
    split at h
    · cases h; exact hb.1
    · exact lassoc_bel hb.2 h
def Bind.bel (n : Nat) (β : Bind) : Bool := keysBel (IE.bel n) β.i && (keysBel (BE.bel n) β.b && (keysBel (TE.bel n) β.s && keysBel (fun p : IE × RL => p.1.bel n && p.2.bel n) β.r))
/-- What is put hangs on the letters below n alone: so letters that agree there, and from there on where nothing is put, are alike behind. -/
theorem Bind.ap_congr {n m : Nat} {β : Bind} (hb : β.bel n = true) {ρ ρ' : Rho} (h : Agree n ρ ρ') (hm : Agree m ρ ρ' ∨ m = n) : Agree (Nat.min n m) (β.ap ρ) (β.ap ρ') := by
  simp only [Bind.bel, Bool.and_eq_true] at hb
  obtain ⟨h1, h2, h3, h4⟩ := hb
  have hn := h.le (Nat.min_le_left n m)
  refine ⟨fun k hk => ?_, fun k hk => ?_, fun k hk => ?_, fun k hk => ?_, fun k hk => ?_, fun k hk => ?_, fun k hk => ?_⟩
  · simp only [Bind.ap]
    cases he : lassoc k β.i with
    | none => exact hn.i k hk
    | some e => exact IE.bel_den h e (lassoc_bel h1 he)
  · simp only [Bind.ap]
    cases he : lassoc k β.b with
    | none => exact hn.b k hk
    | some e => exact BE.bel_den h e (lassoc_bel h2 he)
  · simp only [Bind.ap]
    cases he : lassoc k β.s with
    | none => exact hn.s k hk
    | some e => exact TE.bel_den h e (lassoc_bel h3 he)
  · simp only [Bind.ap]
    cases he : lassoc k β.r with
    | none => exact hn.len k hk
    | some e =>
      have := lassoc_bel h4 he
      simp only [Bool.and_eq_true] at this
      simp only [IE.bel_den h e.1 this.1]
  all_goals
    funext a b
    simp only [Bind.ap]
    cases he : lassoc k β.r with
    | none => first | exact congrFun (congrFun (hn.ci k hk) a) b | exact congrFun (congrFun (hn.cb k hk) a) b | exact congrFun (congrFun (hn.cs k hk) a) b
    | some e =>
      have := lassoc_bel h4 he
      simp only [Bool.and_eq_true] at this
      simp only [RL.bel_row h e.2 _ this.2]
/-- Put anew from the start: what the rounds had put is gone. -/
theorem Bind.init_it {n : Nat} {ι β : Bind} (hi : ι.bel n = true) (hb : β.ge n = true) (hs : ι.same β = true) (ρ : Rho) (j : Nat) : ι.ap (β.it (ι.ap ρ) j) = ι.ap ρ := by
  simp only [Bind.same, Bool.and_eq_true] at hs
  obtain ⟨s1, s2, s3, s4⟩ := hs
  simp only [Bind.bel, Bool.and_eq_true] at hi
  obtain ⟨h1, h2, h3, h4⟩ := hi
  -- letters where nothing is put
  have stay : ∀ j, (∀ k, lassoc k ι.i = none → (β.it (ι.ap ρ) j).i k = ρ.i k) ∧ (∀ k, lassoc k ι.b = none → (β.it (ι.ap ρ) j).b k = ρ.b k) ∧ (∀ k, lassoc k ι.s = none → (β.it (ι.ap ρ) j).s k = ρ.s k) ∧
      (∀ k, lassoc k ι.r = none → (β.it (ι.ap ρ) j).len k = ρ.len k ∧ (β.it (ι.ap ρ) j).ci k = ρ.ci k ∧ (β.it (ι.ap ρ) j).cb k = ρ.cb k ∧ (β.it (ι.ap ρ) j).cs k = ρ.cs k) := by
    intro j
    induction j with
    | zero =>
      refine ⟨fun k hk => ?_, fun k hk => ?_, fun k hk => ?_, fun k hk => ⟨?_, ?_, ?_, ?_⟩⟩
      · simp only [Bind.it, Bind.ap, hk]
      · simp only [Bind.it, Bind.ap, hk]
      · simp only [Bind.it, Bind.ap, hk]
      · simp only [Bind.it, Bind.ap, hk]
      · funext a b; simp only [Bind.it, Bind.ap, hk]
      · funext a b; simp only [Bind.it, Bind.ap, hk]
      · funext a b; simp only [Bind.it, Bind.ap, hk]
    | succ j ih =>
      obtain ⟨i1, i2, i3, i4⟩ := ih
      refine ⟨fun k hk => ?_, fun k hk => ?_, fun k hk => ?_, fun k hk => ⟨?_, ?_, ?_, ?_⟩⟩
      · have := (lassoc_same s1).1 hk
        simp only [Bind.it]; rw [show (β.ap (β.it (ι.ap ρ) j)).i k = (β.it (ι.ap ρ) j).i k from by simp only [Bind.ap, this]]; exact i1 k hk
      · have := (lassoc_same s2).1 hk
        simp only [Bind.it]; rw [show (β.ap (β.it (ι.ap ρ) j)).b k = (β.it (ι.ap ρ) j).b k from by simp only [Bind.ap, this]]; exact i2 k hk
      · have := (lassoc_same s3).1 hk
        simp only [Bind.it]; rw [show (β.ap (β.it (ι.ap ρ) j)).s k = (β.it (ι.ap ρ) j).s k from by simp only [Bind.ap, this]]; exact i3 k hk
      · have := (lassoc_same s4).1 hk
        simp only [Bind.it]; rw [show (β.ap (β.it (ι.ap ρ) j)).len k = (β.it (ι.ap ρ) j).len k from by simp only [Bind.ap, this]]; exact (i4 k hk).1
      · have := (lassoc_same s4).1 hk
        simp only [Bind.it]; rw [show (β.ap (β.it (ι.ap ρ) j)).ci k = (β.it (ι.ap ρ) j).ci k from by funext a b; simp only [Bind.ap, this]]; exact (i4 k hk).2.1
      · have := (lassoc_same s4).1 hk
        simp only [Bind.it]; rw [show (β.ap (β.it (ι.ap ρ) j)).cb k = (β.it (ι.ap ρ) j).cb k from by funext a b; simp only [Bind.ap, this]]; exact (i4 k hk).2.2.1
      · have := (lassoc_same s4).1 hk
        simp only [Bind.it]; rw [show (β.ap (β.it (ι.ap ρ) j)).cs k = (β.it (ι.ap ρ) j).cs k from by funext a b; simp only [Bind.ap, this]]; exact (i4 k hk).2.2.2
  -- letters below n
  have hge : ι.ge n = true := by
    simp only [Bind.ge, Bool.and_eq_true] at hb ⊢
    have ge : ∀ {α γ : Type} {l : List (Nat × α)} {m : List (Nat × γ)}, keysSame l m = true → keysGe n m = true → keysGe n l = true := by
      intro α γ l
      induction l with
      | nil => intro m _ _; rfl
      | cons p l ih =>
        intro m h1 h2
        match m, h1, h2 with
        | q :: m, h1, h2 =>
          simp only [keysSame, Bool.and_eq_true] at h1
          simp only [keysGe, Bool.and_eq_true] at h2 ⊢
          rw [Nat.eq_of_beq_eq_true h1.1]
          exact ⟨h2.1, ih h1.2 h2.2⟩
    exact ⟨ge s1 hb.1, ge s2 hb.2.1, ge s3 hb.2.2.1, ge s4 hb.2.2.2⟩
  have hag : Agree n (β.it (ι.ap ρ) j) ρ := ((Bind.agree hge ρ).trans (Bind.it_agree hb _ j)).symm
  obtain ⟨i1, i2, i3, i4⟩ := stay j
  have ext : ∀ {a b : Rho}, a.i = b.i → a.b = b.b → a.s = b.s → a.len = b.len → a.ci = b.ci → a.cb = b.cb → a.cs = b.cs → a = b := fun {a b} q1 q2 q3 q4 q5 q6 q7 => by
    cases a; cases b; simp only at q1 q2 q3 q4 q5 q6 q7; subst q1 q2 q3 q4 q5 q6 q7; rfl
  refine ext ?_ ?_ ?_ ?_ ?_ ?_ ?_
  · funext k; simp only [Bind.ap]
    cases he : lassoc k ι.i with
    | none => exact i1 k he
    | some e => exact IE.bel_den hag e (lassoc_bel h1 he)
  · funext k; simp only [Bind.ap]
    cases he : lassoc k ι.b with
    | none => exact i2 k he
    | some e => exact BE.bel_den hag e (lassoc_bel h2 he)
  · funext k; simp only [Bind.ap]
    cases he : lassoc k ι.s with
    | none => exact i3 k he
    | some e => exact TE.bel_den hag e (lassoc_bel h3 he)
  · funext k; simp only [Bind.ap]
    cases he : lassoc k ι.r with
    | none => exact (i4 k he).1
    | some e =>
      have := lassoc_bel h4 he
      simp only [Bool.and_eq_true] at this
      exact congrArg Int.toNat (IE.bel_den hag e.1 this.1)
  · funext k a b; simp only [Bind.ap]
    cases he : lassoc k ι.r with
    | none => exact congrFun (congrFun (i4 k he).2.1 a) b
    | some e =>
      have := lassoc_bel h4 he
      simp only [Bool.and_eq_true] at this
      exact congrArg (fun r : List AV => cellI r[a]?) (RL.bel_row hag e.2 b this.2)
  · funext k a b; simp only [Bind.ap]
    cases he : lassoc k ι.r with
    | none => exact congrFun (congrFun (i4 k he).2.2.1 a) b
    | some e =>
      have := lassoc_bel h4 he
      simp only [Bool.and_eq_true] at this
      exact congrArg (fun r : List AV => cellB r[a]?) (RL.bel_row hag e.2 b this.2)
  · funext k a b; simp only [Bind.ap]
    cases he : lassoc k ι.r with
    | none => exact congrFun (congrFun (i4 k he).2.2.2 a) b
    | some e =>
      have := lassoc_bel h4 he
      simp only [Bool.and_eq_true] at this
      exact congrArg (fun r : List AV => cellS r[a]?) (RL.bel_row hag e.2 b this.2)
/-- Letters behind all rounds: n rounds that go round, and one that ends. -/
theorem loopOk_it {P : Program} {ρ : Rho} {N : Nat} {body : Code} {L : LoopX} {ti : Nat → Option TI} {call : CallF} {ms : List Nat} {lps : List LoopX} {fuel : Nat} (hm : P.follows .mixedOrders = true) (hti : TIs.ok P ti)
    {Φ : Facts} {tr : T (XE × XS)} (hrun : (codeX ti call ms L.k0 lps fuel body Φ L.S).map sqz = tr) (hfit : fitsC N body = true) {β : Bind} {nm : List (Nm × Nm)} (hback : tr.nrm (okS L.k0 L.n β nm L.S) = true) (hout : L.out = tr.outs)
    (B : Nat) (hbel : tr.outs.belX B = true) (hi : L.init.bel L.n = true) (hb : β.ge L.n = true) (hs : L.init.same β = true) (n : Nat)
    (hR : ∀ j, j ≤ n → CallOk P (β.it (L.init.ap ρ) j) call ∧ LpsOk P (β.it (L.init.ap ρ) j) N lps body ∧ Facts.ok (β.it (L.init.ap ρ) j) Φ ∧
      (if j < n then ∃ s, tr.sel (β.it (L.init.ap ρ) j) = some (.normal, s) else ∃ e s, e ≠ XE.normal ∧ tr.sel (β.it (L.init.ap ρ) j) = some (e, s))) : LoopOk P (β.it (L.init.ap ρ) n) N body L := by
  refine loopOk_of hm hti hrun hfit hback hout B hbel (fun k ρ' => ∃ j, j + k = n ∧ ρ' = β.it (L.init.ap ρ) j) ⟨n, 0, by omega, Bind.init_it hi hb hs ρ n⟩ ?_
  rintro k ρ' ⟨j, hj, rfl⟩
  obtain ⟨h1, h2, h3, h4⟩ := hR j (by omega)
  refine ⟨h1, h2, h3, ?_⟩
  by_cases hjn : j < n
  · rw [if_pos hjn] at h4
    obtain ⟨s, h4⟩ := h4
    exact .inr ⟨s, h4, k - 1, by omega, j + 1, by omega, rfl⟩
  · rw [if_neg hjn] at h4
    obtain ⟨e, s, he, h4⟩ := h4
    obtain rfl : j = n := by omega
    exact .inl ⟨e, s, he, h4, Agree.refl _ _⟩
/-- What is shown of a loop stays where later letters turn. -/
theorem LoopOk.agree {P : Program} {ρ ρ' : Rho} {N : Nat} {body : Code} {L : LoopX} {B : Nat} (hS : L.S.bel B = true) (hi : L.init.bel B = true) (ho : L.out.belX B = true) (h : Agree B ρ ρ') (hL : LoopOk P ρ N body L) : LoopOk P ρ' N body L := by
  intro E hE hb
  have h1 := hL E hE hb
  have h2 : Agree B (L.init.ap ρ) (L.init.ap ρ') := by
    have := Bind.ap_congr (m := B) hi h (.inr rfl)
    rwa [show Nat.min B B = B from Nat.min_self B] at this
  rw [XS.bel_den h2 L.S hS] at h1
  refine AW_mono (fun e s hq => ?_) h1
  obtain ⟨e', s', q1, q2, q3⟩ := hq
  obtain ⟨g1, g2⟩ := T.belX_sel h ho q1
  exact ⟨e', s', g1, q2, by rw [← g2]; exact q3⟩
end Go.Proofs.Xw
