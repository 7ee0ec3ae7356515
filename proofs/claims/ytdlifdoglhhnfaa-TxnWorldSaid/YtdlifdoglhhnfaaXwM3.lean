/- Parts of the logic that the proof runs in, one behind the other. -/
import Derived.Test.YtdlifdoglhhnfaaXwM2
import Derived.Handed
import Derived.Test.YtdlifdoglhhnfaaAwM2
/- Symbolic runs, part 22: what is shown of a loop, out of one run of its body. -/
namespace Go.Proofs.Xw
open Go Go.Proofs.Aw

/-- The ways out, without those that go round again. -/
def T.outs : T (XE × XS) → T (XE × XS)
  | .ret (.normal, _) => .fail []
  | .ret (.exit j, s) => .ret (.exit j, s)
  | .ret (.ret, s) => .ret (.ret, s)
  | .br c x y => .br c x.outs y.outs
  | .need c x => .need c x.outs
  | .fail w => .fail w
theorem T.outs_sel {ρ : Rho} {e : XE} {s : XS} (he : e ≠ .normal) : ∀ {t : T (XE × XS)}, t.sel ρ = some (e, s) → t.outs.sel ρ = some (e, s)
  | .ret (.normal, _), h => by cases h; exact absurd rfl he
  | .ret (.exit j, s), h => h
  | .ret (.ret, s), h => h
  | .br c x y, h => by
    simp only [T.sel] at h
    simp only [T.outs, T.sel]
    split
    · rename_i hc; rw [if_pos hc] at h; exact T.outs_sel he h
    · rename_i hc; rw [if_neg hc] at h; exact T.outs_sel he h
  | .need c x, h => by
    simp only [T.sel] at h
    simp only [T.outs, T.sel]
    split
    · rename_i hc; rw [if_pos hc] at h; exact T.outs_sel he h
    · rename_i hc; rw [if_neg hc] at h; cases h
  | .fail _, h => by cases h
def T.belX (n : Nat) : T (XE × XS) → Bool
  | .ret (_, s) => s.bel n
  | .br c x y => c.bel n && (x.belX n && y.belX n)
  | .need c x => c.bel n && x.belX n
  | .fail _ => true
theorem T.belX_sel {n : Nat} {ρ ρ' : Rho} (h : Agree n ρ ρ') {e : XE} {s : XS} : ∀ {t : T (XE × XS)}, t.belX n = true → t.sel ρ = some (e, s) → t.sel ρ' = some (e, s) ∧ s.den ρ = s.den ρ'
  | .ret (_, s'), hb, hs => by cases hs; exact ⟨rfl, XS.bel_den h _ hb⟩
  | .br c x y, hb, hs => by
    simp only [T.belX, Bool.and_eq_true] at hb
    simp only [T.sel] at hs ⊢
    rw [← BE.bel_den h c hb.1]
    split
    · rename_i hc; rw [if_pos hc] at hs; exact T.belX_sel h hb.2.1 hs
    · rename_i hc; rw [if_neg hc] at hs; exact T.belX_sel h hb.2.2 hs
  | .need c x, hb, hs => by
    simp only [T.belX, Bool.and_eq_true] at hb
    simp only [T.sel] at hs ⊢
    rw [← BE.bel_den h c hb.1]
    split
    · rename_i hc; rw [if_pos hc] at hs; exact T.belX_sel h hb.2 hs
    · rename_i hc; rw [if_neg hc] at hs; cases hs
  | .fail _, _, hs => by cases hs
/-- Each way that goes round again is as p wants it. -/
def T.nrm (p : XS → Bool) : T (XE × XS) → Bool
  | .ret (.normal, s) => p s
  | .ret _ => true
  | .br _ x y => x.nrm p && y.nrm p
  | .need _ x => x.nrm p
  | .fail _ => true
theorem T.nrm_sel {p : XS → Bool} {ρ : Rho} {s : XS} : ∀ {t : T (XE × XS)}, t.nrm p = true → t.sel ρ = some (.normal, s) → p s = true
  | .ret (.normal, _), h, hs => by cases hs; exact h
  | .ret (.exit j, _), _, hs => by cases hs
  | .ret (.ret, _), _, hs => by cases hs
  | .br c x y, h, hs => by
    simp only [T.nrm, Bool.and_eq_true] at h
    simp only [T.sel] at hs
    split at hs
    · exact T.nrm_sel h.1 hs
    · exact T.nrm_sel h.2 hs
  | .need c x, h, hs => by
    simp only [T.sel] at hs
    split at hs
    · exact T.nrm_sel (t := x) h hs
    · cases hs
  | .fail _, _, hs => by cases hs
/-- The slots that are told, each once. -/
def sqz (ks : List Nat) (p : XE × XS) : XE × XS := (p.1, ⟨sqK p.2.t ks [] [], p.2.h, p.2.nx⟩)
theorem sqz_le (ks : List Nat) (ρ : Rho) (p : XE × XS) : LeS ((sqz ks p).2.den ρ) (p.2.den ρ) := by
  refine ⟨fun i => ?_, fun m cs hcs => ⟨cs, hcs, LeC.refl cs⟩, Nat.le_refl _⟩
  simp only [XS.den, sqz, tget_denT, tget_sqK]
  split
  · exact LeA.refl _
  · simp only [tgetX, X.den]; exact LeA.top _
/-- One run of the body over the letters shows the loop: R k says what the letters may be with at most k rounds more. -/
theorem loopOk_of {P : Program} {ρ : Rho} {N : Nat} {body : Code} {L : LoopX} {ti : Nat → Option TI} {call : CallF} {ms : List Nat} {lps : List LoopX} {fuel : Nat} (hm : P.follows .mixedOrders = true) (hti : TIs.ok P ti)
    {Φ : Facts} {tr : T (XE × XS)} (hrun : (codeX ti call ms L.k0 lps fuel body Φ L.S).map (sqz (L.S.t.map (·.1))) = tr) (hfit : fitsC N body = true) {β : Bind} {nm : List (Nm × Nm)} (hback : tr.nrm (okS L.k0 L.n β nm L.S) = true) (hout : L.out = tr.outs)
    (B : Nat) (hbel : tr.outs.belX B = true) (R : Nat → Rho → Prop) (h0 : ∃ k, R k (L.init.ap ρ))
    (hR : ∀ k ρ', R k ρ' → CallOk P ρ' call ∧ LpsOk P ρ' N lps body ∧ Facts.ok ρ' Φ ∧
      ((∃ e s, e ≠ XE.normal ∧ tr.sel ρ' = some (e, s) ∧ Agree B ρ' ρ) ∨ ∃ s, tr.sel ρ' = some (.normal, s) ∧ ∃ k', k' < k ∧ R k' (β.ap ρ'))) : LoopOk P ρ N body L := by
  intro E hE hb
  obtain ⟨k, hk⟩ := h0
  refine AW_loop (fun k σ => ∃ ρ', R k ρ' ∧ σ = L.S.den ρ') k ⟨_, impRefl _ _, _, hk, rfl⟩ (fun k σ hσ => ?_)
  obtain ⟨ρ', hR', rfl⟩ := hσ
  obtain ⟨hcall, hl, hΦ, ho⟩ := hR k ρ' hR'
  have run : ∀ (e : XE) (s : XS), tr.sel ρ' = some (e, s) → AW P E body (fun e' s' => e' = e.to ∧ Imp E s' (s.den ρ')) (L.S.den ρ') := fun e s hs => by
    rw [← hrun] at hs
    obtain ⟨q, hq, he⟩ := T.sel_map _ hs
    have g := codeX_goes (E := E) hm hti hcall hb body Φ L.S q.1 q.2 hΦ (by rw [hE]; exact hfit) (by rw [hE]; exact hl) hq
    have h1 := congrArg Prod.fst he
    have h2 := congrArg Prod.snd he
    simp only at h1 h2
    subst h1 h2
    exact AW_mono (fun e' s' hh => ⟨hh.1, impLe hh.2 (sqz_le _ ρ' q)⟩) g
  rcases ho with ⟨e, s, he, hs, hag⟩ | ⟨s, hs, k', hlt, hk'⟩
  · have g := run e s hs
    refine AW_mono (fun e' s' hq => ?_) g
    obtain ⟨rfl, hi⟩ := hq
    obtain ⟨h1, h2⟩ := T.belX_sel hag hbel (T.outs_sel he hs)
    have fin : ∃ e' s'', L.out.sel ρ = some (e', s'') ∧ e.to = e'.to ∧ Imp E s' (s''.den ρ) := ⟨e, s, by rw [hout]; exact h1, rfl, by rw [← h2]; exact hi⟩
    cases e with
    | normal => exact absurd rfl he
    | exit j => exact fin
    | ret => exact fin
  · have g := run .normal s hs
    refine AW_mono (fun e' s' hq => ?_) g
    obtain ⟨rfl, hi⟩ := hq
    exact ⟨k', _, hlt, impTrans hi (okS_imp hb (T.nrm_sel hback hs) ρ'), β.ap ρ', hk', rfl⟩
/-! ### Rounds, one after the other -/
/-- The letters behind j rounds. -/
def Bind.it (β : Bind) (ρ : Rho) : Nat → Rho
  | 0 => ρ
  | j + 1 => β.ap (β.it ρ j)
theorem Bind.it_agree {n : Nat} {β : Bind} (h : β.ge n = true) (ρ : Rho) : ∀ j, Agree n ρ (β.it ρ j)
  | 0 => Agree.refl _ _
  | j + 1 => (Bind.it_agree h ρ j).trans (Bind.agree h _)
def keysSame {α β : Type} : List (Nat × α) → List (Nat × β) → Bool
  | [], [] => true
  | (a, _) :: r, (b, _) :: s => Nat.beq a b && keysSame r s
  | _, _ => false
theorem lassoc_same {α β : Type} {k : Nat} : ∀ {l : List (Nat × α)} {m : List (Nat × β)}, keysSame l m = true → (lassoc k l = none ↔ lassoc k m = none)
  | [], [], _ => ⟨fun _ => rfl, fun _ => rfl⟩
  | [], _ :: _, h => by cases h
  | _ :: _, [], h => by simp [keysSame] at h
  | (a, v) :: r, (b, w) :: s, h => by
    simp only [keysSame, Bool.and_eq_true] at h
    have ha := Nat.eq_of_beq_eq_true h.1
    subst ha
    simp only [lassoc]
    split
    · simp
    · exact lassoc_same h.2
def Bind.same (β γ : Bind) : Bool := keysSame β.i γ.i && (keysSame β.b γ.b && (keysSame β.s γ.s && keysSame β.r γ.r))
def keysBel {α : Type} (f : α → Bool) : List (Nat × α) → Bool
  | [] => true
  | (_, v) :: r => f v && keysBel f r
theorem lassoc_bel {α : Type} {f : α → Bool} {k : Nat} {v : α} : ∀ {l : List (Nat × α)}, keysBel f l = true → lassoc k l = some v → f v = true
  | [], _, h => by cases h
  | (a, w) :: r, hb, h => by
    simp only [keysBel, Bool.and_eq_true] at hb
    simp only [lassoc] at h
    split at h
    · cases h; exact hb.1
    · exact lassoc_bel hb.2 h
def Bind.bel (n : Nat) (β : Bind) : Bool := keysBel (IE.bel n) β.i && (keysBel (BE.bel n) β.b && (keysBel (TE.bel n) β.s && keysBel (fun p : IE × RL => p.1.bel n && p.2.bel n) β.r))
/-- What is put hangs on the letters below n alone: so letters that agree there, and from there on where nothing is put, are alike behind. -/
theorem Bind.ap_congr {n m : Nat} {β : Bind} (hb : β.bel n = true) {ρ ρ' : Rho} (h : Agree n ρ ρ') (_hm : Agree m ρ ρ' ∨ m = n) : Agree (Nat.min n m) (β.ap ρ) (β.ap ρ') := by
  simp only [Bind.bel, Bool.and_eq_true] at hb
  obtain ⟨h1, h2, h3, h4⟩ := hb
  have hn := h.le (Nat.min_le_left n m)
  refine ⟨fun k hk => ?_, fun k hk => ?_, fun k hk => ?_, fun k hk => ?_, fun k hk => ?_, fun k hk => ?_, fun k hk => ?_⟩
  · simp only [Bind.ap]
    cases he : lassoc k β.i with
    | none => exact hn.i k hk
    | some e => exact IE.bel_den h e (lassoc_bel h1 he)
  · simp only [Bind.ap]
    cases he : lassoc k β.b with
    | none => exact hn.b k hk
    | some e => exact BE.bel_den h e (lassoc_bel h2 he)
  · simp only [Bind.ap]
    cases he : lassoc k β.s with
    | none => exact hn.s k hk
    | some e => exact TE.bel_den h e (lassoc_bel h3 he)
  · simp only [Bind.ap]
    cases he : lassoc k β.r with
    | none => exact hn.len k hk
    | some e =>
      have := lassoc_bel h4 he
      simp only [Bool.and_eq_true] at this
      simp only [IE.bel_den h e.1 this.1]
  all_goals
    funext a b
    simp only [Bind.ap]
    cases he : lassoc k β.r with
    | none => first | exact congrFun (congrFun (hn.ci k hk) a) b | exact congrFun (congrFun (hn.cb k hk) a) b | exact congrFun (congrFun (hn.cs k hk) a) b
    | some e =>
      have := lassoc_bel h4 he
      simp only [Bool.and_eq_true] at this
      simp only [RL.bel_row h e.2 _ this.2]
/-- Put anew from the start: what the rounds had put is gone. -/
theorem Bind.init_it {n : Nat} {ι β : Bind} (hi : ι.bel n = true) (hb : β.ge n = true) (hs : ι.same β = true) (ρ : Rho) (j : Nat) : ι.ap (β.it (ι.ap ρ) j) = ι.ap ρ := by
  simp only [Bind.same, Bool.and_eq_true] at hs
  obtain ⟨s1, s2, s3, s4⟩ := hs
  simp only [Bind.bel, Bool.and_eq_true] at hi
  obtain ⟨h1, h2, h3, h4⟩ := hi
  -- letters where nothing is put
  have stay : ∀ j, (∀ k, lassoc k ι.i = none → (β.it (ι.ap ρ) j).i k = ρ.i k) ∧ (∀ k, lassoc k ι.b = none → (β.it (ι.ap ρ) j).b k = ρ.b k) ∧ (∀ k, lassoc k ι.s = none → (β.it (ι.ap ρ) j).s k = ρ.s k) ∧
      (∀ k, lassoc k ι.r = none → (β.it (ι.ap ρ) j).len k = ρ.len k ∧ (β.it (ι.ap ρ) j).ci k = ρ.ci k ∧ (β.it (ι.ap ρ) j).cb k = ρ.cb k ∧ (β.it (ι.ap ρ) j).cs k = ρ.cs k) := by
    intro j
    induction j with
    | zero =>
      refine ⟨fun k hk => ?_, fun k hk => ?_, fun k hk => ?_, fun k hk => ⟨?_, ?_, ?_, ?_⟩⟩
      · simp only [Bind.it, Bind.ap, hk]
      · simp only [Bind.it, Bind.ap, hk]
      · simp only [Bind.it, Bind.ap, hk]
      · simp only [Bind.it, Bind.ap, hk]
      · funext a b; simp only [Bind.it, Bind.ap, hk]
      · funext a b; simp only [Bind.it, Bind.ap, hk]
      · funext a b; simp only [Bind.it, Bind.ap, hk]
    | succ j ih =>
      obtain ⟨i1, i2, i3, i4⟩ := ih
      refine ⟨fun k hk => ?_, fun k hk => ?_, fun k hk => ?_, fun k hk => ⟨?_, ?_, ?_, ?_⟩⟩
      · have := (lassoc_same s1).1 hk
        simp only [Bind.it]; rw [show (β.ap (β.it (ι.ap ρ) j)).i k = (β.it (ι.ap ρ) j).i k from by simp only [Bind.ap, this]]; exact i1 k hk
      · have := (lassoc_same s2).1 hk
        simp only [Bind.it]; rw [show (β.ap (β.it (ι.ap ρ) j)).b k = (β.it (ι.ap ρ) j).b k from by simp only [Bind.ap, this]]; exact i2 k hk
      · have := (lassoc_same s3).1 hk
        simp only [Bind.it]; rw [show (β.ap (β.it (ι.ap ρ) j)).s k = (β.it (ι.ap ρ) j).s k from by simp only [Bind.ap, this]]; exact i3 k hk
      · have := (lassoc_same s4).1 hk
        simp only [Bind.it]; rw [show (β.ap (β.it (ι.ap ρ) j)).len k = (β.it (ι.ap ρ) j).len k from by simp only [Bind.ap, this]]; exact (i4 k hk).1
      · have := (lassoc_same s4).1 hk
        simp only [Bind.it]; rw [show (β.ap (β.it (ι.ap ρ) j)).ci k = (β.it (ι.ap ρ) j).ci k from by funext a b; simp only [Bind.ap, this]]; exact (i4 k hk).2.1
      · have := (lassoc_same s4).1 hk
        simp only [Bind.it]; rw [show (β.ap (β.it (ι.ap ρ) j)).cb k = (β.it (ι.ap ρ) j).cb k from by funext a b; simp only [Bind.ap, this]]; exact (i4 k hk).2.2.1
      · have := (lassoc_same s4).1 hk
        simp only [Bind.it]; rw [show (β.ap (β.it (ι.ap ρ) j)).cs k = (β.it (ι.ap ρ) j).cs k from by funext a b; simp only [Bind.ap, this]]; exact (i4 k hk).2.2.2
  -- letters below n
  have hge : ι.ge n = true := by
    simp only [Bind.ge, Bool.and_eq_true] at hb ⊢
    have ge : ∀ {α γ : Type} {l : List (Nat × α)} {m : List (Nat × γ)}, keysSame l m = true → keysGe n m = true → keysGe n l = true := by
      intro α γ l
      induction l with
      | nil => intro m _ _; rfl
      | cons p l ih =>
        intro m h1 h2
        match m, h1, h2 with
        | q :: m, h1, h2 =>
          simp only [keysSame, Bool.and_eq_true] at h1
          simp only [keysGe, Bool.and_eq_true] at h2 ⊢
          rw [Nat.eq_of_beq_eq_true h1.1]
          exact ⟨h2.1, ih h1.2 h2.2⟩
    exact ⟨ge s1 hb.1, ge s2 hb.2.1, ge s3 hb.2.2.1, ge s4 hb.2.2.2⟩
  have hag : Agree n (β.it (ι.ap ρ) j) ρ := ((Bind.agree hge ρ).trans (Bind.it_agree hb _ j)).symm
  obtain ⟨i1, i2, i3, i4⟩ := stay j
  have ext : ∀ {a b : Rho}, a.i = b.i → a.b = b.b → a.s = b.s → a.len = b.len → a.ci = b.ci → a.cb = b.cb → a.cs = b.cs → a = b := fun {a b} q1 q2 q3 q4 q5 q6 q7 => by
    cases a; cases b; simp only at q1 q2 q3 q4 q5 q6 q7; subst q1 q2 q3 q4 q5 q6 q7; rfl
  refine ext ?_ ?_ ?_ ?_ ?_ ?_ ?_
  · funext k; simp only [Bind.ap]
    cases he : lassoc k ι.i with
    | none => exact i1 k he
    | some e => exact IE.bel_den hag e (lassoc_bel h1 he)
  · funext k; simp only [Bind.ap]
    cases he : lassoc k ι.b with
    | none => exact i2 k he
    | some e => exact BE.bel_den hag e (lassoc_bel h2 he)
  · funext k; simp only [Bind.ap]
    cases he : lassoc k ι.s with
    | none => exact i3 k he
    | some e => exact TE.bel_den hag e (lassoc_bel h3 he)
  · funext k; simp only [Bind.ap]
    cases he : lassoc k ι.r with
    | none => exact (i4 k he).1
    | some e =>
      have := lassoc_bel h4 he
      simp only [Bool.and_eq_true] at this
      exact congrArg Int.toNat (IE.bel_den hag e.1 this.1)
  · funext k a b; simp only [Bind.ap]
    cases he : lassoc k ι.r with
    | none => exact congrFun (congrFun (i4 k he).2.1 a) b
    | some e =>
      have := lassoc_bel h4 he
      simp only [Bool.and_eq_true] at this
      exact congrArg (fun r : List AV => cellI r[a]?) (RL.bel_row hag e.2 b this.2)
  · funext k a b; simp only [Bind.ap]
    cases he : lassoc k ι.r with
    | none => exact congrFun (congrFun (i4 k he).2.2.1 a) b
    | some e =>
      have := lassoc_bel h4 he
      simp only [Bool.and_eq_true] at this
      exact congrArg (fun r : List AV => cellB r[a]?) (RL.bel_row hag e.2 b this.2)
  · funext k a b; simp only [Bind.ap]
    cases he : lassoc k ι.r with
    | none => exact congrFun (congrFun (i4 k he).2.2.2 a) b
    | some e =>
      have := lassoc_bel h4 he
      simp only [Bool.and_eq_true] at this
      exact congrArg (fun r : List AV => cellS r[a]?) (RL.bel_row hag e.2 b this.2)
/-- Letters behind all rounds: n rounds that go round, and one that ends. -/
theorem loopOk_it {P : Program} {ρ : Rho} {N : Nat} {body : Code} {L : LoopX} {ti : Nat → Option TI} {call : CallF} {ms : List Nat} {lps : List LoopX} {fuel : Nat} (hm : P.follows .mixedOrders = true) (hti : TIs.ok P ti)
    {Φ : Facts} {tr : T (XE × XS)} (hrun : (codeX ti call ms L.k0 lps fuel body Φ L.S).map (sqz (L.S.t.map (·.1))) = tr) (hfit : fitsC N body = true) {β : Bind} {nm : List (Nm × Nm)} (hback : tr.nrm (okS L.k0 L.n β nm L.S) = true) (hout : L.out = tr.outs)
    (B : Nat) (hbel : tr.outs.belX B = true) (hi : L.init.bel L.n = true) (hb : β.ge L.n = true) (hs : L.init.same β = true) (n : Nat)
    (hR : ∀ j, j ≤ n → CallOk P (β.it (L.init.ap ρ) j) call ∧ LpsOk P (β.it (L.init.ap ρ) j) N lps body ∧ Facts.ok (β.it (L.init.ap ρ) j) Φ ∧
      (if j < n then ∃ s, tr.sel (β.it (L.init.ap ρ) j) = some (.normal, s) else ∃ e s, e ≠ XE.normal ∧ tr.sel (β.it (L.init.ap ρ) j) = some (e, s))) : LoopOk P (β.it (L.init.ap ρ) n) N body L := by
  refine loopOk_of hm hti hrun hfit hback hout B hbel (fun k ρ' => ∃ j, j + k = n ∧ ρ' = β.it (L.init.ap ρ) j) ⟨n, 0, by omega, Bind.init_it hi hb hs ρ n⟩ ?_
  rintro k ρ' ⟨j, hj, rfl⟩
  obtain ⟨h1, h2, h3, h4⟩ := hR j (by omega)
  refine ⟨h1, h2, h3, ?_⟩
  by_cases hjn : j < n
  · rw [if_pos hjn] at h4
    obtain ⟨s, h4⟩ := h4
    exact .inr ⟨s, h4, k - 1, by omega, j + 1, by omega, rfl⟩
  · rw [if_neg hjn] at h4
    obtain ⟨e, s, he, h4⟩ := h4
    obtain rfl : j = n := by omega
    exact .inl ⟨e, s, he, h4, Agree.refl _ _⟩
/-- What is shown of a loop stays where later letters turn. -/
theorem LoopOk.agree {P : Program} {ρ ρ' : Rho} {N : Nat} {body : Code} {L : LoopX} {B : Nat} (hS : L.S.bel B = true) (hi : L.init.bel B = true) (ho : L.out.belX B = true) (h : Agree B ρ ρ') (hL : LoopOk P ρ N body L) : LoopOk P ρ' N body L := by
  intro E hE hb
  have h1 := hL E hE hb
  have h2 : Agree B (L.init.ap ρ) (L.init.ap ρ') := by
    have := Bind.ap_congr (m := B) hi h (.inr rfl)
    rwa [show Nat.min B B = B from Nat.min_self B] at this
  rw [XS.bel_den h2 L.S hS] at h1
  refine AW_mono (fun e s hq => ?_) h1
  obtain ⟨e', s', q1, q2, q3⟩ := hq
  obtain ⟨g1, g2⟩ := T.belX_sel h ho q1
  exact ⟨e', s', g1, q2, by rw [← g2]; exact q3⟩
end Go.Proofs.Xw

/- Symbolic runs, part 23: loops that count; what is shown of a function's loops. -/
namespace Go.Proofs.Xw
open Go Go.Proofs.Aw

theorem wrap_id (x : Int) (h0 : -9223372036854775808 ≤ x) (h1 : x < 9223372036854775808) : IntKind.i64.wrap x = x := IntWalk.i64_in x ⟨by omega, by omega⟩
/-- A letter that counts the rounds. -/
theorem it_count {β : Bind} {I : Nat} {e : IE} (hI : lassoc I β.i = some (.op .add .i64 (.var I) (.lit 1))) {ρ : Rho} (h0 : ρ.i I = 0) : ∀ j : Nat, j < 9223372036854775808 → (β.it ρ j).i I = j
  | 0, _ => by simpa [Bind.it] using h0
  | j + 1, hj => by
    have ih := it_count (e := e) hI h0 j (by omega)
    simp only [Bind.it]
    rw [show (β.ap (β.it ρ j)).i I = IE.den (β.it ρ j) (.op .add .i64 (.var I) (.lit 1)) from by simp only [Bind.ap, hI]]
    simp only [IE.den, IOp.den, ih]
    rw [wrap_id _ (by omega) (by omega)]
    omega
theorem Facts.bel_ok {n : Nat} {ρ ρ' : Rho} (h : Agree n ρ ρ') {Φ : Facts} (hb : Φ.all (fun p => p.1.bel n) = true) (hk : Facts.ok ρ Φ) : Facts.ok ρ' Φ := fun p hp => by
  rw [← BE.bel_den h p.1 (List.all_eq_true.1 hb p hp)]
  exact hk p hp
/-- A loop that counts up to a number: each round's way is told. -/
theorem loopOk_cntG {P : Program} {ρ : Rho} {N : Nat} {body : Code} {L : LoopX} {ti : Nat → Option TI} {call : CallF} {ms : List Nat} {lps : List LoopX} {fuel : Nat} (hm : P.follows .mixedOrders = true) (hti : TIs.ok P ti)
    {Φ : Facts} {tr : T (XE × XS)} (hrun : (codeX ti call ms L.k0 lps fuel body Φ L.S).map (sqz (L.S.t.map (·.1))) = tr) (hfit : fitsC N body = true) {β : Bind} {nm : List (Nm × Nm)} (hback : tr.nrm (okS L.k0 L.n β nm L.S) = true) (hout : L.out = tr.outs)
    (B : Nat) (hbel : tr.outs.belX B = true) (hi : L.init.bel L.n = true) (hb : β.ge L.n = true) (hs : L.init.same β = true)
    {I : Nat} (hI : lassoc I β.i = some (.op .add .i64 (.var I) (.lit 1))) (hI0 : lassoc I L.init.i = some (.lit 0)) {Φ0 : Facts} (hΦ : Φ = (.lt (.var I) (.lit 0), false) :: Φ0) (hΦb : Φ0.all (fun p => p.1.bel L.n) = true) (hΦ0 : Facts.ok ρ Φ0) (hge : L.init.ge L.n = true)
    (hcall : ∀ ρ', CallOk P ρ' call) (hlps : ∀ ρ', LpsOk P ρ' N lps body) (n : Nat) (hn : n < 9223372036854775808)
    (hgo : ∀ j, j < n → (β.it (L.init.ap ρ) j).i I = j → Agree L.n ρ (β.it (L.init.ap ρ) j) → ∃ s, tr.sel (β.it (L.init.ap ρ) j) = some (.normal, s))
    (hend : (β.it (L.init.ap ρ) n).i I = n → Agree L.n ρ (β.it (L.init.ap ρ) n) → ∃ e s, e ≠ XE.normal ∧ tr.sel (β.it (L.init.ap ρ) n) = some (e, s)) : LoopOk P (β.it (L.init.ap ρ) n) N body L := by
  have cnt := fun j => it_count (e := .lit 0) hI (ρ := L.init.ap ρ) (by simp only [Bind.ap, hI0]; rfl) j
  have ag := fun j => (Bind.agree hge ρ).trans (Bind.it_agree hb (L.init.ap ρ) j)
  refine loopOk_it hm hti hrun hfit hback hout B hbel hi hb hs n fun j hj => ⟨hcall _, hlps _, ?_, ?_⟩
  · rw [hΦ]
    refine Facts.ok_cons ?_ (Facts.bel_ok (ag j) hΦb hΦ0)
    simp only [BE.den, IE.den, cnt j (by omega)]
    exact decide_eq_false (by omega)
  · by_cases hjn : j < n
    · rw [if_pos hjn]
      exact hgo j hjn (cnt j (by omega)) (ag j)
    · obtain rfl : j = n := by omega
      rw [if_neg hjn]
      exact hend (cnt j (by omega)) (ag j)
/-- The simplest: up to a number that stays, with one way round and one way out. -/
theorem loopOk_cntE {P : Program} {ρ : Rho} {N : Nat} {body : Code} {L : LoopX} {ti : Nat → Option TI} {call : CallF} {ms : List Nat} {lps : List LoopX} {fuel : Nat} (hm : P.follows .mixedOrders = true) (hti : TIs.ok P ti)
    {Φ : Facts} {tr : T (XE × XS)} (hrun : (codeX ti call ms L.k0 lps fuel body Φ L.S).map (sqz (L.S.t.map (·.1))) = tr) (hfit : fitsC N body = true) {β : Bind} {nm : List (Nm × Nm)} (hback : tr.nrm (okS L.k0 L.n β nm L.S) = true) (hout : L.out = tr.outs)
    (B : Nat) (hbel : tr.outs.belX B = true) (hi : L.init.bel L.n = true) (hb : β.ge L.n = true) (hs : L.init.same β = true)
    {I : Nat} {e : IE} {s1 s2 : XS} {e2 : XE} (htr : tr = .br (.lt (.var I) e) (.ret (.normal, s1)) (.ret (e2, s2))) (he2 : e2 ≠ .normal) (hI : lassoc I β.i = some (.op .add .i64 (.var I) (.lit 1))) (hI0 : lassoc I L.init.i = some (.lit 0)) (he : e.bel L.n = true)
    {Φ0 : Facts} (hΦ : Φ = (.lt (.var I) (.lit 0), false) :: Φ0) (hΦb : Φ0.all (fun p => p.1.bel L.n) = true) (hΦ0 : Facts.ok ρ Φ0) (hge : L.init.ge L.n = true)
    (hcall : ∀ ρ', CallOk P ρ' call) (hlps : ∀ ρ', LpsOk P ρ' N lps body) (n : Nat) (hn : n < 9223372036854775808) (hen : e.den ρ = n) : LoopOk P (β.it (L.init.ap ρ) n) N body L := by
  refine loopOk_cntG hm hti hrun hfit hback hout B hbel hi hb hs hI hI0 hΦ hΦb hΦ0 hge hcall hlps n hn (fun j hj hc ha => ⟨s1, ?_⟩) (fun hc ha => ⟨e2, s2, he2, ?_⟩)
  · rw [htr]
    simp only [T.sel, BE.den, ← IE.bel_den ha e he, hen, IE.den, hc]
    rw [if_pos (decide_eq_true (by omega))]
  · rw [htr]
    simp only [T.sel, BE.den, ← IE.bel_den ha e he, hen, IE.den, hc]
    rw [if_neg (by simp)]
/-- The letters behind a loop that counts up to a number of rows. -/
def fin (ι β : Bind) (l : Nat) (ρ : Rho) : Rho := β.it (ι.ap ρ) (ρ.len l)
/-- Of the other loops nothing is told. -/
def othersB (lps : List LoopX) (ks : List Nat) : Nat → List Code → Bool
  | _, [] => true
  | k, c :: r => (natIn k ks || (lookL (codeKey c) lps).isEmpty) && othersB lps ks (k + 1) r
theorem natIn_mem {k : Nat} : ∀ {l : List Nat}, natIn k l = true → k ∈ l
  | [], h => by cases h
  | a :: r, h => by
    simp only [natIn, Bool.or_eq_true] at h
    rcases h with h | h
    · rw [Nat.eq_of_beq_eq_true h]; exact List.mem_cons_self
    · exact List.mem_cons_of_mem _ (natIn_mem h)
theorem lps_idx {P : Program} {ρ : Rho} {N : Nat} {lps : List LoopX} {c : Code} (ks : List Nat) (ho : othersB lps ks 0 (loopsOf c) = true)
    (h : ∀ k ∈ ks, ∀ L ∈ lookL (codeKey ((loopsOf c)[k]?.getD .skip)) lps, LoopOk P ρ N ((loopsOf c)[k]?.getD .skip) L) : LpsOk P ρ N lps c := by
  unfold LpsOk
  generalize hl : loopsOf c = l at h ho ⊢
  have key : ∀ (r : List Code) (k0 : Nat), othersB lps ks k0 r = true → (∀ j, r[j]? = l[k0 + j]?) → ∀ c' ∈ r, ∀ L ∈ lookL (codeKey c') lps, LoopOk P ρ N c' L := by
    intro r
    induction r with
    | nil => intro k0 _ _ c' hc; cases hc
    | cons d r ih =>
      intro k0 ho hj c' hc L hL
      simp only [othersB, Bool.and_eq_true, Bool.or_eq_true] at ho
      rcases List.mem_cons.1 hc with rfl | hc
      · have h0 := hj 0
        simp only [List.getElem?_cons_zero, Nat.add_zero] at h0
        rcases ho.1 with h1 | h1
        · have := h k0 (natIn_mem h1)
          rw [← h0] at this
          exact this L hL
        · rw [List.isEmpty_iff.1 h1] at hL; cases hL
      · exact ih (k0 + 1) ho.2 (fun j => by have := hj (j + 1); rw [List.getElem?_cons_succ] at this; rw [this]; congr 1; omega) c' hc L hL
  exact key l 0 ho (fun j => by rw [Nat.zero_add])
theorem look_list {P : Program} {ρ : Rho} {N : Nat} {c : Code} {Ls lps : List LoopX} (h : lookL (codeKey c) lps = Ls) (hL : ∀ L ∈ Ls, LoopOk P ρ N c L) : ∀ K ∈ lookL (codeKey c) lps, LoopOk P ρ N c K := fun K hK => by
  rw [h] at hK
  exact hL K hK
/-- From the table's row to the function's own text. -/
theorem lps_row {P : Program} {ρ : Rho} {f : FuncId} {i : FnI} {fn : Func} {lps : List LoopX} (hi : FnOk P f i) (hf : P.funcs[f]? = some fn) (h : LpsOk P ρ fn.ntmps lps (fn.body.getD .skip)) : LpsOk P ρ i.ntmps lps i.body := by
  obtain ⟨fn', g1, g2, _, g4, _⟩ := hi
  rw [hf] at g1
  cases g1
  rw [← g4]
  rw [g2] at h
  exact h
end Go.Proofs.Xw

/- Symbolic runs, part 24: truths by cases; an argument seen as another, in the light of what is known. -/
namespace Go.Proofs.Xw
open Go Go.Proofs.Aw

/-- What is known tells a fact. -/
def sees (Φ : Facts) (p : BE × Bool) : Bool := match red Φ p.1 with
  | .lit b => b == p.2
  | _ => false
end Go.Proofs.Xw

/- Symbolic runs, part 25: a loop by cases: each round is one of many, and each of these has a run of its own. -/
namespace Go.Proofs.Xw
open Go Go.Proofs.Aw

/-! ### Letters that are put lie in no other place -/
structure Off (ι : Bind) (ρ ρ' : Rho) : Prop where
  i : ∀ k, lassoc k ι.i = none → ρ'.i k = ρ.i k
  b : ∀ k, lassoc k ι.b = none → ρ'.b k = ρ.b k
  s : ∀ k, lassoc k ι.s = none → ρ'.s k = ρ.s k
  r : ∀ k, lassoc k ι.r = none → ρ'.len k = ρ.len k ∧ ρ'.ci k = ρ.ci k ∧ ρ'.cb k = ρ.cb k ∧ ρ'.cs k = ρ.cs k
theorem Off.refl (ι : Bind) (ρ : Rho) : Off ι ρ ρ := ⟨fun _ _ => rfl, fun _ _ => rfl, fun _ _ => rfl, fun _ _ => ⟨rfl, rfl, rfl, rfl⟩⟩
theorem Off.trans {ι : Bind} {a b c : Rho} (h : Off ι a b) (k : Off ι b c) : Off ι a c :=
  ⟨fun j hj => (k.i j hj).trans (h.i j hj), fun j hj => (k.b j hj).trans (h.b j hj), fun j hj => (k.s j hj).trans (h.s j hj),
   fun j hj => ⟨(k.r j hj).1.trans (h.r j hj).1, (k.r j hj).2.1.trans (h.r j hj).2.1, (k.r j hj).2.2.1.trans (h.r j hj).2.2.1, (k.r j hj).2.2.2.trans (h.r j hj).2.2.2⟩⟩
theorem Off.of {ι β : Bind} (h : ι.same β = true) (ρ : Rho) : Off ι ρ (β.ap ρ) := by
  simp only [Bind.same, Bool.and_eq_true] at h
  obtain ⟨s1, s2, s3, s4⟩ := h
  refine ⟨fun k hk => ?_, fun k hk => ?_, fun k hk => ?_, fun k hk => ⟨?_, ?_, ?_, ?_⟩⟩
  · simp only [Bind.ap, (lassoc_same s1).1 hk]
  · simp only [Bind.ap, (lassoc_same s2).1 hk]
  · simp only [Bind.ap, (lassoc_same s3).1 hk]
  · simp only [Bind.ap, (lassoc_same s4).1 hk]
  · funext a b; simp only [Bind.ap, (lassoc_same s4).1 hk]
  · funext a b; simp only [Bind.ap, (lassoc_same s4).1 hk]
  · funext a b; simp only [Bind.ap, (lassoc_same s4).1 hk]
theorem Off.self (ι : Bind) (ρ : Rho) : Off ι ρ (ι.ap ρ) := by
  refine ⟨fun k hk => ?_, fun k hk => ?_, fun k hk => ?_, fun k hk => ⟨?_, ?_, ?_, ?_⟩⟩
  · simp only [Bind.ap, hk]
  · simp only [Bind.ap, hk]
  · simp only [Bind.ap, hk]
  · simp only [Bind.ap, hk]
  · funext a b; simp only [Bind.ap, hk]
  · funext a b; simp only [Bind.ap, hk]
  · funext a b; simp only [Bind.ap, hk]
/-- Put anew from the start: what the rounds had put is gone. -/
theorem Off.init {n : Nat} {ι : Bind} (hi : ι.bel n = true) {ρ ρ' : Rho} (h : Off ι ρ ρ') (hag : Agree n ρ' ρ) : ι.ap ρ' = ι.ap ρ := by
  simp only [Bind.bel, Bool.and_eq_true] at hi
  obtain ⟨h1, h2, h3, h4⟩ := hi
  obtain ⟨i1, i2, i3, i4⟩ := h
  have ext : ∀ {a b : Rho}, a.i = b.i → a.b = b.b → a.s = b.s → a.len = b.len → a.ci = b.ci → a.cb = b.cb → a.cs = b.cs → a = b := fun {a b} q1 q2 q3 q4 q5 q6 q7 => by
    cases a; cases b; simp only at q1 q2 q3 q4 q5 q6 q7; subst q1 q2 q3 q4 q5 q6 q7; rfl
  refine ext ?_ ?_ ?_ ?_ ?_ ?_ ?_
  · funext k; simp only [Bind.ap]
    cases he : lassoc k ι.i with
    | none => exact i1 k he
    | some e => exact IE.bel_den hag e (lassoc_bel h1 he)
  · funext k; simp only [Bind.ap]
    cases he : lassoc k ι.b with
    | none => exact i2 k he
    | some e => exact BE.bel_den hag e (lassoc_bel h2 he)
  · funext k; simp only [Bind.ap]
    cases he : lassoc k ι.s with
    | none => exact i3 k he
    | some e => exact TE.bel_den hag e (lassoc_bel h3 he)
  · funext k; simp only [Bind.ap]
    cases he : lassoc k ι.r with
    | none => exact (i4 k he).1
    | some e =>
      have := lassoc_bel h4 he
      simp only [Bool.and_eq_true] at this
      exact congrArg Int.toNat (IE.bel_den hag e.1 this.1)
  · funext k a b; simp only [Bind.ap]
    cases he : lassoc k ι.r with
    | none => exact congrFun (congrFun (i4 k he).2.1 a) b
    | some e =>
      have := lassoc_bel h4 he
      simp only [Bool.and_eq_true] at this
      exact congrArg (fun r : List AV => cellI r[a]?) (RL.bel_row hag e.2 b this.2)
  · funext k a b; simp only [Bind.ap]
    cases he : lassoc k ι.r with
    | none => exact congrFun (congrFun (i4 k he).2.2.1 a) b
    | some e =>
      have := lassoc_bel h4 he
      simp only [Bool.and_eq_true] at this
      exact congrArg (fun r : List AV => cellB r[a]?) (RL.bel_row hag e.2 b this.2)
  · funext k a b; simp only [Bind.ap]
    cases he : lassoc k ι.r with
    | none => exact congrFun (congrFun (i4 k he).2.2.2 a) b
    | some e =>
      have := lassoc_bel h4 he
      simp only [Bool.and_eq_true] at this
      exact congrArg (fun r : List AV => cellS r[a]?) (RL.bel_row hag e.2 b this.2)

/-! ### From round to round -/
/-- From these letters the round ends the loop. -/
def EndL (P : Program) (N : Nat) (body : Code) (k0 : Nat) (S : XS) (out : T (XE × XS)) (ρ : Rho) : Prop :=
  ∀ E : Aw.Env, E.N = N → (∀ m, E.c0.kn m → m.1 < k0) → AW P E body (fun e σ => ∃ e' s, e' ≠ XE.normal ∧ out.sel ρ = some (e', s) ∧ e = e'.to ∧ Imp E σ (s.den ρ)) (S.den ρ)
/-! ### A fact, with the letters put -/
def putI (β : Bind) : IE → Option IE
  | .lit n => some (.lit n)
  | .var k => match lassoc k β.i with
    | some e => some e
    | none => some (.var k)
  | .len l => match lassoc l β.r with
    | some _ => none
    | none => some (.len l)
  | _ => none
def putB (β : Bind) : BE → Option BE
  | .var k => match lassoc k β.b with
    | some e => some e
    | none => some (.var k)
  | .lt a b => match putI β a with
    | some a => match putI β b with
      | some b => some (.lt a b)
      | none => none
    | none => none
  | .eq a b => match putI β a with
    | some a => match putI β b with
      | some b => some (.eq a b)
      | none => none
    | none => none
  | _ => none
/-! ### What the letters are next -/
/-! ### A round of a loop that counts -/
end Go.Proofs.Xw

/- Symbolic runs, part 26: sums by their parts; a truth brought down in the light of linear facts. -/
namespace Go.Proofs.Xw
open Go Go.Proofs.Aw

/-! ### Sums by their parts -/
structure Lin where
  l : List (IE × Int)
  c : Int
def sumL (ρ : Rho) : List (IE × Int) → Int
  | [] => 0
  | (e, k) :: r => k * e.den ρ + sumL ρ r
def Lin.den (ρ : Rho) (x : Lin) : Int := sumL ρ x.l + x.c
/-! ### What stays within bounds, as whole numbers -/
end Go.Proofs.Xw

/- Symbolic runs, part 27: a loop whose head is in one of many states; letters of the rounds' own. -/
namespace Go.Proofs.Xw
open Go Go.Proofs.Aw

def noB : Bind := ⟨[], [], [], []⟩
theorem noB_ap (ρ : Rho) : noB.ap ρ = ρ := rfl
/-- One round leads from a state to a state. -/
def StepF (P : Program) (N : Nat) (body : Code) (k0 : Nat) (S S' : XS) (ρ ρ' : Rho) : Prop :=
  ∀ E : Aw.Env, E.N = N → (∀ m, E.c0.kn m → m.1 < k0) → AW P E body (fun e σ => e = XE.normal.to ∧ Imp E σ (S'.den ρ')) (S.den ρ)
/-! ### What the letters and the names are next -/
/-! ### One round, shown by a run -/
theorem stepF_of {P : Program} {ρ : Rho} {N : Nat} {body : Code} {ti : Nat → Option TI} {call : CallF} {ms : List Nat} {lps : List LoopX} {fuel k0 n : Nat} {S S' U : XS} {s : XS} (hm : P.follows .mixedOrders = true) (hti : TIs.ok P ti)
    (hcall : CallOk P ρ call) (hlps : LpsOk P ρ N lps body) (hfit : fitsC N body = true) {Φ' : Facts} (hk : Facts.ok ρ Φ') (hd : S.den ρ = S'.den ρ) {ks : List Nat}
    (hsel : ((codeX ti call ms k0 lps fuel body Φ' S').map (sqz ks)).sel ρ = some (.normal, s)) {β : Bind} {nm : List (Nm × Nm)} (hok : okS k0 n β nm U s = true) : StepF P N body k0 S U ρ (β.ap ρ) := by
  intro E hE hkn
  obtain ⟨q, hq, he⟩ := T.sel_map _ hsel
  rw [hd]
  have g := codeX_goes (E := E) hm hti hcall hkn body Φ' _ q.1 q.2 hk (by rw [hE]; exact hfit) (by rw [hE]; exact hlps) hq
  have q1 := congrArg Prod.fst he
  have q2 := congrArg Prod.snd he
  simp only at q1 q2
  refine AW_mono (fun e' s' hh => ⟨?_, ?_⟩) g
  · rw [hh.1, show q.1 = XE.normal from q1.symm]
  · have i := impLe hh.2 (sqz_le ks ρ q)
    rw [← q2] at i
    exact impTrans i (okS_imp hkn hok ρ)
theorem StepF.from {P : Program} {N : Nat} {body : Code} {k0 : Nat} {S S' : XS} {ρ ρ1 ρ' : Rho} (h : S.den ρ = S.den ρ1) (k : StepF P N body k0 S S' ρ1 ρ') : StepF P N body k0 S S' ρ ρ' := fun E hE hb => by
  rw [h]; exact k E hE hb
theorem endF_of {P : Program} {ρ : Rho} {N : Nat} {body : Code} {ti : Nat → Option TI} {call : CallF} {ms : List Nat} {lps : List LoopX} {fuel k0 : Nat} {S S' s : XS} {e : XE} {out : T (XE × XS)} (hm : P.follows .mixedOrders = true) (hti : TIs.ok P ti)
    (hcall : CallOk P ρ call) (hlps : LpsOk P ρ N lps body) (hfit : fitsC N body = true) {Φ' : Facts} (hk : Facts.ok ρ Φ') (hd : S.den ρ = S'.den ρ) {ks : List Nat} (he : e ≠ .normal)
    (hsel : ((codeX ti call ms k0 lps fuel body Φ' S').map (sqz ks)).sel ρ = some (e, s)) (ho : ∃ s', out.sel ρ = some (e, s') ∧ ∀ E : Aw.Env, (∀ m, E.c0.kn m → m.1 < k0) → Imp E (s.den ρ) (s'.den ρ)) : EndL P N body k0 S out ρ := by
  intro E hE hkn
  obtain ⟨q, hq, h2⟩ := T.sel_map _ hsel
  obtain ⟨s', h3, h4⟩ := ho
  rw [hd]
  have g := codeX_goes (E := E) hm hti hcall hkn body Φ' S' q.1 q.2 hk (by rw [hE]; exact hfit) (by rw [hE]; exact hlps) hq
  have q1 := congrArg Prod.fst h2
  have q2 := congrArg Prod.snd h2
  simp only at q1 q2
  refine AW_mono (fun e' s'' hh => ⟨e, s', he, h3, ?_, ?_⟩) g
  · rw [hh.1, q1]
    rfl
  · have i := impLe hh.2 (sqz_le ks ρ q)
    rw [← q2] at i
    exact impTrans i (h4 E hkn)
end Go.Proofs.Xw

/- Symbolic runs, part 28: a loop whose head is in one of many states, and what is known where it ends. -/
namespace Go.Proofs.Xw
open Go Go.Proofs.Aw

/-- Round by round, from state to state, down to an end, of which more is known. -/
theorem loopOk_famE {P : Program} {N : Nat} {body : Code} {L : LoopX} (hi : L.init = noB) (hS : L.S.bel L.n = true) (Ss : Nat → XS) (R Q : Nat → Rho → Prop) (M : Nat → Rho → Nat)
    (hR : ∀ i ρ, R i ρ → (∃ ρ', Agree L.n ρ ρ' ∧ Q i ρ' ∧ (Ss i).den ρ = (Ss i).den ρ' ∧ EndL P N body L.k0 (Ss i) L.out ρ') ∨ ∃ i' ρ', StepF P N body L.k0 (Ss i) (Ss i') ρ ρ' ∧ R i' ρ' ∧ M i' ρ' < M i ρ ∧ Agree L.n ρ ρ')
    {ρ : Rho} (h0 : ∃ i ρ0, Agree L.n ρ ρ0 ∧ R i ρ0 ∧ ∀ E : Aw.Env, E.N = N → (∀ m, E.c0.kn m → m.1 < L.k0) → Imp E (L.S.den ρ) ((Ss i).den ρ0)) : ∃ i ρf, Agree L.n ρ ρf ∧ Q i ρf ∧ LoopOk P ρf N body L := by
  have key : ∀ (k : Nat) (i : Nat) (ρ : Rho), M i ρ ≤ k → R i ρ → ∃ i' ρf, Agree L.n ρ ρf ∧ Q i' ρf ∧ ∀ E : Aw.Env, E.N = N → (∀ m, E.c0.kn m → m.1 < L.k0) → ∃ m, AWR P E body (fun e σ => ∃ e' s, L.out.sel ρf = some (e', s) ∧ e = e'.to ∧ Imp E σ (s.den ρf)) m ((Ss i).den ρ) := by
    have fin : ∀ i ρ ρ', (Ss i).den ρ = (Ss i).den ρ' → EndL P N body L.k0 (Ss i) L.out ρ' → ∀ E : Aw.Env, E.N = N → (∀ m, E.c0.kn m → m.1 < L.k0) → ∃ m, AWR P E body (fun e σ => ∃ e' s, L.out.sel ρ' = some (e', s) ∧ e = e'.to ∧ Imp E σ (s.den ρ')) m ((Ss i).den ρ) := fun i ρ ρ' hd h E hE hb => by
      rw [hd]
      refine ⟨1, AW_mono (fun e σ hq => ?_) (h E hE hb)⟩
      obtain ⟨e', s, h1, h2, rfl, h4⟩ := hq
      cases e' with
      | normal => exact absurd rfl h1
      | exit j => exact ⟨_, s, h2, rfl, h4⟩
      | ret => exact ⟨_, s, h2, rfl, h4⟩
    intro k
    induction k with
    | zero =>
      intro i ρ hk hr
      rcases hR i ρ hr with ⟨ρ', a1, a2, a3, a4⟩ | ⟨i', ρ', _, _, h, _⟩
      · exact ⟨i, ρ', a1, a2, fin i ρ ρ' a3 a4⟩
      · omega
    | succ k ih =>
      intro i ρ hk hr
      rcases hR i ρ hr with ⟨ρ', a1, a2, a3, a4⟩ | ⟨i', ρ', h1, h2, h3, h5⟩
      · exact ⟨i, ρ', a1, a2, fin i ρ ρ' a3 a4⟩
      · obtain ⟨i2, ρf, g2, g3, g4⟩ := ih i' ρ' (by omega) h2
        refine ⟨i2, ρf, h5.trans g2, g3, fun E hE hb => ?_⟩
        obtain ⟨m, g5⟩ := g4 E hE hb
        refine ⟨m + 1, AW_mono (fun e σ hq => ?_) (h1 E hE hb)⟩
        obtain ⟨rfl, hi⟩ := hq
        cases m with
        | zero => exact g5.elim
        | succ m => exact AW_imp hi g5
  obtain ⟨i, ρ0, a0, hr, himp⟩ := h0
  obtain ⟨i', ρf, g2, g3, g4⟩ := key (M i ρ0) i ρ0 (Nat.le_refl _) hr
  refine ⟨i', ρf, a0.trans g2, g3, fun E hE hb => ?_⟩
  rw [hi, noB_ap, ← XS.bel_den (a0.trans g2) L.S hS]
  obtain ⟨m, g5⟩ := g4 E hE hb
  exact AW_imp (himp E hE hb) (AW_rounds m g5)
end Go.Proofs.Xw

/- Symbolic runs, part 29: a slice that is handed in is no longer than memory reaches. -/
namespace Go.Proofs.Xw
open Go Go.Proofs.Aw Go.ChangeShapes Go.WideShapes
section
variable {H : Type} {enc : TypeId × Value → H} {P : Program}
theorem mapM_len {α β : Type} {f : α → Option β} : ∀ {l : List α} {r : List β}, l.mapM f = some r → r.length = l.length
  | [], r, h => by simp only [List.mapM_nil, pure, Option.some.injEq] at h; subst h; rfl
  | a :: l, r, h => by
    simp only [List.mapM_cons, bind, Option.bind_eq_some_iff, pure, Option.some.injEq] at h
    obtain ⟨y, _, ys, hys, rfl⟩ := h
    simp [mapM_len hys]
/-- What is read of a slice has as many parts. -/
theorem len_trod {t e : TypeId} (hu : P.underlying t = some (.slice e)) {W : World} {A : Option Addr} {len cap : Nat} {d : DataW H} {p : List MemPlace} (h : DataW.Trod enc P W 0 (fun _ => true) true t (.slice A len cap) d p) : len = 0 ∨ ∃ elems spare, d = .slice elems spare ∧ elems.length = len := by
  obtain ⟨n, h⟩ := h
  cases n with
  | zero => simp [DataW.trod] at h
  | succ n =>
    have hv : (Value.slice A len cap).cells.toList = [.slice A len cap] := rfl
    rw [hv, DataW.trod_step] at h
    unfold DataW.trodStep at h
    rw [hu] at h
    cases A with
    | none =>
      left
      cases len <;> cases cap <;> simp_all
    | some a =>
      simp only at h
      split at h
      · obtain ⟨elems, he, h⟩ := Option.bind_eq_some_iff.1 h
        obtain ⟨rest, _, h⟩ := Option.map_eq_some_iff.1 h
        right
        have h1 := congrArg Prod.fst h
        simp only at h1
        exact ⟨_, _, h1.symm, by rw [List.length_map, mapM_len he, List.length_range]⟩
      · cases h
/-- The lengths of all that are handed in. -/
theorem lens_all {W : World} {gs : List (DataW H)} {us : List TypeId} : ∀ {ts : List TypeId} {vs : List Value} {ds : List (DataW H)} {p : List MemPlace}, DataW.TrodAll enc P W 0 (fun _ => true) true ts vs ds p → (DataW.weightsEach P (ts ++ us) (ds ++ gs)).all (· ≤ reachBytes) = true →
    ∀ (j : Nat) (t e : TypeId) (A : Option Addr) (len cap : Nat), ts[j]? = some t → vs[j]? = some (.slice A len cap) → P.underlying t = some (.slice e) → len * P.bytesOf e ≤ reachBytes
  | [], _, _, _, _, _, j, t, e, A, len, cap, h1, _, _ => by simp at h1
  | t0 :: ts, vs, ds, p, h, hw, j, t, e, A, len, cap, h1, h2, hu => by
    obtain ⟨v, vs', d, ds', p1, p2, rfl, rfl, rfl, g1, g2⟩ := trodAll_cons h
    simp only [List.cons_append, DataW.weightsEach, List.all_append, Bool.and_eq_true] at hw
    cases j with
    | zero =>
      simp only [List.getElem?_cons_zero, Option.some.injEq] at h1 h2
      subst h1 h2
      rcases len_trod hu g1 with h0 | ⟨elems, spare, rfl, hl⟩
      · subst h0; simp
      · have := hw.1
        simp only [DataW.weights, hu, List.all_cons, Bool.and_eq_true, decide_eq_true_eq] at this
        have h3 := this.1
        rw [hl] at h3
        exact Nat.le_trans (Nat.mul_le_mul_right _ (Nat.le_add_right _ _)) h3
    | succ j => exact lens_all g2 hw.2 j t e A len cap (by simpa using h1) (by simpa using h2) hu
/-- Every slice that is handed in takes no more than memory reaches. -/
def Short (P : Program) (ts : List TypeId) (vs : List Value) : Prop := ∀ (j : Nat) (t e : TypeId) (A : Option Addr) (len cap : Nat), ts[j]? = some t → vs[j]? = some (.slice A len cap) → P.underlying t = some (.slice e) → len * P.bytesOf e ≤ reachBytes
end
/-- As the kit's own, with the arguments' sizes told. -/
theorem handed_sized {H : Type} {enc : TypeId × Value → H} {a : Assume} {C : Checked} {os : Os} {f : FuncId} {fn : Func} {s : ChangeSpec} {conds : List PathCond} {apart fresh handsOn again : Bool}
    (own : ownKnob C.prog.godebug = none) (started : os.Started) (noInit : C.prog.inits.idxOf? f = none) (hfn : C.prog.funcs[f]? = some fn)
    (witness : ∃ (w : World) (tape : Tape) (i : Input), w.os = os ∧ (w.forCall tape i).Shaped C.prog ∧ i.vars = [] ∧ Input.okWide C.prog (w.forCall tape i) .any w.heap.size f i ∧
      s.pre6 enc C.prog fn conds apart (w.forCall tape i).memory i.args ∧ a.holds C.prog (lone (Frame.enter C.prog f i.args .normal) [] (w.forCall tape i)))
    (contract : ∀ (W : World) (base : Nat) (args : Array Value) (ds gs : List (DataW H)) (before : List MemPlace),
      (∀ (j : Nat) t v, fn.params[j]? = some t → args[j]? = some v → Value.okWide C.prog W .any base t v) →
      DataW.Whole enc C.prog fn.params.toList s.vars apart W args.toList ds gs before →
      (DataW.weightsEach C.prog (fn.params.toList ++ s.plain.varTypes C.prog) (ds ++ gs)).all (· ≤ reachBytes) = true →
      Calls C.prog f args W fun e W' => ∃ v, e = .returned v ∧ s.post enc C.prog fn apart fresh handsOn again W args v W') :
    ReturnsInHanded a C os f .any (s.pre6 enc C.prog fn conds apart) (s.post enc C.prog fn apart fresh handsOn again) := by
  have h := returnsInHanded_of_change_and (enc := enc) (a := a) (C := C) (os := os) (f := f) (fn := fn) (s := s) (conds := conds) (apart := apart) (fresh := fresh) (handsOn := handsOn) (again := again) (X := fun _ _ => True) (fun _ _ _ _ h => h) own started noInit hfn
    (by
      obtain ⟨w, t, i, a1, a2, a3, a4, ⟨a5, a6⟩, a7⟩ := witness
      exact ⟨w, t, i, a1, a2, a3, a4, ⟨⟨a5, trivial⟩, a6⟩, a7⟩) (fun W base args ds gs before h1 h2 _ h4 _ _ => contract W base args ds gs before h1 h2 h4)
  have e : (fun w args => (s.pre enc C.prog fn conds apart w args ∧ True) ∧ sizedMet enc C.prog fn (OpenSpec.ofChange s) apart w args) = s.pre6 enc C.prog fn conds apart := by
    funext w args
    simp only [ChangeSpec.pre6, and_true]
  rw [← e]
  exact h
end Go.Proofs.Xw

/- Symbolic runs, part 30: objects that are written no more are told as rows that are read only. -/
namespace Go.Proofs.Xw
open Go Go.Proofs.Aw
def inF (F : List Nm) (n : Nm) : Bool := F.any (nmbeq n)
def frzC (h : XHp) (F : List Nm) (z : Nat) : X → X
  | .slv n z' off len w => if inF F n = true then (match hgetO h n with
      | some [.rows z'' m l] => if (Nat.beq z' z'' && (off.beq (.lit 0) && (len.beq m && l.wd z'))) = true then .rl z' m l false else .top
      | _ => .top) else .slv n z' off len w
  | .k v => if vbeq v (.slice none 0 0) = true then .ro z [] false else .k v
  | x => x
def frzO (h : XHp) (F : List Nm) (m0 : Nm) (z : Nat) (m : Nm) (cs : List X) : List X := if (nmbeq m m0 && !(isRows cs)) = true then cs.map (frzC h F z) else cs
def frzH (h : XHp) (F : List Nm) (m0 : Nm) (z : Nat) : XHp → XHp
  | [] => []
  | (m, cs) :: r => if inF F m = true then frzH h F m0 z r else (m, frzO h F m0 z m cs) :: frzH h F m0 z r
/-- The objects F are written no more; in object m0 their slices, and nil, are rows. -/
def XS.frz (F : List Nm) (m0 : Nm) (z : Nat) (s : XS) : XS := ⟨s.t, frzH s.h F m0 z s.h, s.nx⟩
theorem frzH_get {h : XHp} {F : List Nm} {m0 : Nm} {z : Nat} {m : Nm} : ∀ {g : XHp} {ds : List X}, hgetO (frzH h F m0 z g) m = some ds → inF F m = false ∧ ∃ cs, hgetO g m = some cs ∧ ds = frzO h F m0 z m cs
  | [], _, hg => by cases hg
  | (k, cs) :: r, ds, hg => by
    simp only [frzH] at hg
    by_cases hk : inF F k = true
    · rw [if_pos hk] at hg
      obtain ⟨h1, cs', h2, h3⟩ := frzH_get hg
      refine ⟨h1, cs', ?_, h3⟩
      rw [hgetO, if_neg (fun e => by rw [nmbeq_eq e] at hk; rw [hk] at h1; cases h1)]
      exact h2
    · rw [if_neg hk] at hg
      simp only [hgetO] at hg ⊢
      by_cases e : nmbeq k m = true
      · rw [if_pos e] at hg ⊢
        have := nmbeq_eq e
        subst this
        exact ⟨by simpa using hk, cs, rfl, by cases hg; rfl⟩
      · rw [if_neg e] at hg ⊢
        exact frzH_get hg
theorem flat_get {α : Type} {z : Nat} : ∀ {es : List (List α)} {j k : Nat} {e : List α} {c : α}, (∀ e ∈ es, e.length = z) → es[j]? = some e → e[k]? = some c → es.flatten[j * z + k]? = some c
  | [], j, k, e, c, _, h, _ => by simp at h
  | x :: es, 0, k, e, c, hz, h, hk => by
    simp only [List.getElem?_cons_zero, Option.some.injEq] at h
    subst h
    have hlt := (List.getElem?_eq_some_iff.1 hk).1
    rw [List.flatten_cons, Nat.zero_mul, Nat.zero_add, List.getElem?_append_left hlt]
    exact hk
  | x :: es, j + 1, k, e, c, hz, h, hk => by
    simp only [List.getElem?_cons_succ] at h
    have h1 := hz x List.mem_cons_self
    rw [List.flatten_cons, List.getElem?_append_right (by rw [h1, Nat.succ_mul]; omega), h1, show (j + 1) * z + k - z = j * z + k from by rw [Nat.succ_mul]; omega]
    exact flat_get (fun y hy => hz y (List.mem_cons_of_mem _ hy)) h hk
theorem frzC_is {h : XHp} {F : List Nm} {z z' : Nat} {n : IE} {l : RL} {x : X} (e : frzC h F z x = .rows z' n l) : x = .rows z' n l := by
  cases x <;> simp only [frzC] at e
  case slv m z'' o k w =>
    split at e
    · split at e
      · split at e <;> cases e
      · cases e
    · cases e
  case k v => split at e <;> cases e
  all_goals first | exact e | cases e
theorem frzC_rows {h : XHp} {F : List Nm} {z : Nat} {cs : List X} (hr : isRows cs = false) : isRows (cs.map (frzC h F z)) = false := by
  cases hi : isRows (cs.map (frzC h F z)) with
  | false => rfl
  | true =>
    unfold isRows at hi
    split at hi
    · rename_i z' n l he
      match cs, he with
      | [x], he =>
        simp only [List.map_cons, List.map_nil, List.cons.injEq, and_true] at he
        rw [frzC_is he] at hr
        cases hr
      | _ :: _ :: _, he => simp at he
    · cases hi
theorem frzC_fz {ρ : Rho} {h : XHp} {F : List Nm} {z : Nat} (x : X) : Fz (denH ρ h) (fun n => inF F n = true) (x.den ρ) ((frzC h F z x).den ρ) := by
  cases x
  case slv n z' off len w =>
    simp only [frzC]
    split
    · rename_i hF
      split
      · rename_i z'' m l hg
        split
        · rename_i hc
          simp only [Bool.and_eq_true] at hc
          obtain ⟨h1, h2, h3, h4⟩ := hc
          have h1 := Nat.eq_of_beq_eq_true h1
          have h2 := IE.beq_eq _ _ h2
          have h3 := IE.beq_eq _ _ h3
          subst h1 h2 h3
          refine .inr (.inr (.inr ⟨n, (rowsD ρ len l).flatten, z', (len.den ρ).toNat, w, rowsD ρ len l, hF, ?_, by simp only [X.den, IE.den, Int.toNat_zero, Nat.zero_mul], rfl, by simp [rowsD], fun j e hj => ?_⟩))
          · rw [hget_denO, hg]; rfl
          · have hall : ∀ e ∈ rowsD ρ len l, e.length = z' := fun e he => by
              obtain ⟨i, _, rfl⟩ := List.mem_map.1 he
              exact RL.wd_len h4
            exact ⟨hall e (List.mem_of_getElem? hj), fun k c hk => flat_get hall hj hk⟩
        · exact .inr (.inl rfl)
      · exact .inr (.inl rfl)
    · exact .inl rfl
  case k v =>
    simp only [frzC]
    split
    · rename_i hv
      rw [vbeq_eq hv]
      exact .inr (.inr (.inl ⟨z, rfl, rfl⟩))
    · exact .inl rfl
  all_goals exact .inl rfl
theorem XS.frz_imp {E : Aw.Env} (hwr : ∀ b, ¬ E.wr b) (F : List Nm) (m0 : Nm) (z : Nat) (s : XS) (ρ : Rho) : Imp E (s.den ρ) ((s.frz F m0 z).den ρ) := by
  refine Imp_frz (fun n => inF F n = true) hwr rfl (fun i => .inl rfl) (fun n hn => ?_) (fun m ds hds => ?_)
  · show hget (denH ρ (frzH s.h F m0 z s.h)) n = none
    rw [hget_denO]
    cases hg : hgetO (frzH s.h F m0 z s.h) n with
    | none => rfl
    | some ds =>
      have := (frzH_get hg).1
      rw [hn] at this; cases this
  · have hds : hget (denH ρ (frzH s.h F m0 z s.h)) m = some ds := hds
    rw [hget_denO] at hds
    obtain ⟨cs', hcs, rfl⟩ := Option.map_eq_some_iff.1 hds
    obtain ⟨_, cs, h1, rfl⟩ := frzH_get hcs
    refine ⟨denO ρ cs, by show hget (denH ρ s.h) m = _; rw [hget_denO, h1]; rfl, fun j c' hj => ?_⟩
    unfold frzO at hj
    split at hj
    · rename_i hc
      simp only [Bool.and_eq_true, Bool.not_eq_true'] at hc
      rw [denO_of (frzC_rows hc.2), X.denL_get, List.getElem?_map] at hj
      obtain ⟨y, hy, rfl⟩ := Option.map_eq_some_iff.1 hj
      obtain ⟨x, hx, rfl⟩ := Option.map_eq_some_iff.1 hy
      exact ⟨x.den ρ, by rw [denO_of hc.2, X.denL_get, hx]; rfl, frzC_fz x⟩
    · exact ⟨c', hj, .inl rfl⟩
end Go.Proofs.Xw

/- Symbolic runs, part 31: arguments that are slices of records some of whose fields are slices. -/
namespace Go.Proofs.Xw
open Go Go.Proofs.Aw Go.ChangeShapes Go.WideShapes
section
variable {H : Type} {enc : TypeId × Value → H} {P : Program}
/-- What is read of a type says so of its cells, and reads again where nothing of the memory has turned. -/
def Good (enc : TypeId × Value → H) (P : Program) (t : TypeId) (F : World → List Value → Prop) : Prop :=
  ∀ (W : World) (n : Nat) (cs : List Value) (x : DataW H × List MemPlace), DataW.trod enc P W 0 (fun _ => true) true n t cs = some x → F W cs ∧ ∀ (W' : World) (sp : Nat → Bool), (∀ b, b < W.heap.size → W'.heap[b]? = W.heap[b]?) → (∀ q ∈ x.2, sp q.block = true) → DataW.trod enc P W' 0 sp true n t cs = some x
theorem good_flat {d : Nat} {t : TypeId} {ks : List Kd} (h : flatT P d t = some ks) : Good enc P t (fun _ cs => KS ks cs) := fun W n cs x hx => by
  obtain ⟨_, h2, h3⟩ := flat_trod (enc := enc) d n t ks h W 0 (fun _ => true) true cs x hx
  exact ⟨h2, fun W' sp _ _ => h3 W' 0 sp true⟩
/-- A slice, by what is said of its elements. -/
def FitS (P : Program) (e : TypeId) (F : World → List Value → Prop) (W : World) (cs : List Value) : Prop :=
  ∃ A len cap, cs = [.slice A len cap] ∧ len ≤ cap ∧ cap ≤ maxLen ∧ (0 < len → ∃ a, A = some a ∧ a.block < W.heap.size ∧ ∀ r, r < len → ∃ ds, W.cells? 0 (a.add (r * P.cellsOf e)) (P.cellsOf e) = some ds ∧ F W ds)
theorem good_slice {t e : TypeId} {F : World → List Value → Prop} (hu : P.underlying t = some (.slice e)) (hz : 0 < P.cellsOf e) (hg : Good enc P e F) : Good enc P t (FitS P e F) := fun W n cs x h => by
  cases n with
  | zero => simp [DataW.trod] at h
  | succ n =>
    simp only [DataW.trod_step] at h ⊢
    unfold DataW.trodStep at h ⊢
    rw [hu] at h
    simp only [hu] at h ⊢
    match cs, h with
    | [.slice none 0 0], h =>
      exact ⟨⟨none, 0, 0, rfl, Nat.le_refl _, Nat.zero_le _, fun hh => absurd hh (by omega)⟩, fun W' sp _ _ => h⟩
    | [.slice (some a) len cap], h =>
      simp only at h ⊢
      split at h
      · rename_i hc
        obtain ⟨elems, he, h⟩ := Option.bind_eq_some_iff.1 h
        obtain ⟨rest, hr, rfl⟩ := Option.map_eq_some_iff.1 h
        simp only [if_true] at hr
        have one : ∀ i y, (W.cells? 0 (a.add (i * P.cellsOf e)) (P.cellsOf e)).bind (DataW.trod enc P W 0 (fun _ => true) true n e) = some y →
            ∃ ds, W.cells? 0 (a.add (i * P.cellsOf e)) (P.cellsOf e) = some ds ∧ F W ds ∧ ∀ (W' : World) (sp : Nat → Bool), (∀ b, b < W.heap.size → W'.heap[b]? = W.heap[b]?) → (∀ q ∈ y.2, sp q.block = true) → DataW.trod enc P W' 0 sp true n e ds = some y := fun i y hy => by
          obtain ⟨ds, h1, h2⟩ := Option.bind_eq_some_iff.1 hy
          obtain ⟨g2, g3⟩ := hg W n ds y h2
          exact ⟨ds, h1, g2, g3⟩
        refine ⟨⟨some a, len, cap, rfl, hc.2.1, hc.2.2, fun hl => ⟨a, rfl, ?_, fun r hr' => ?_⟩⟩, fun W' sp hW' hsp => ?_⟩
        · obtain ⟨y, hy⟩ := mapM_all he 0 (by simpa using hl)
          obtain ⟨ds, h1, _⟩ := one 0 y hy
          have := World.cells?_block h1 hz
          simpa [block_add] using this
        · obtain ⟨y, hy⟩ := mapM_all he r (by simpa using hr')
          obtain ⟨ds, h1, h2, _⟩ := one r y hy
          exact ⟨ds, h1, h2⟩
        · rw [if_pos hc]
          have carry : ∀ i y, y ∈ elems ++ rest → (W.cells? 0 (a.add (i * P.cellsOf e)) (P.cellsOf e)).bind (DataW.trod enc P W 0 (fun _ => true) true n e) = some y →
              (W'.cells? 0 (a.add (i * P.cellsOf e)) (P.cellsOf e)).bind (DataW.trod enc P W' 0 sp true n e) = some y := fun i y hm hy => by
            obtain ⟨ds, h1, _, h3⟩ := one i y hy
            rw [cells_same hW' hz h1]
            exact h3 W' sp hW' fun q hq => hsp q (List.mem_append_right _ (List.mem_flatMap.2 ⟨y, hm, hq⟩))
          have e1 := mapM_carry (g := fun i => (W'.cells? 0 (a.add (i * P.cellsOf e)) (P.cellsOf e)).bind (DataW.trod enc P W' 0 sp true n e)) he fun i y _ hy' hy => carry i y (List.mem_append_left _ hy') hy
          rw [e1]
          simp only [Option.bind_some]
          have e2 : (if sp a.block = true then (List.range (cap - len)).mapM fun j => (W'.cells? 0 (a.add ((len + j) * P.cellsOf e)) (P.cellsOf e)).bind (DataW.trod enc P W' 0 sp true n e) else some []) = some rest := by
            have e3 := mapM_carry (g := fun j => (W'.cells? 0 (a.add ((len + j) * P.cellsOf e)) (P.cellsOf e)).bind (DataW.trod enc P W' 0 sp true n e)) hr fun j y _ hy' hy => carry (len + j) y (List.mem_append_right _ hy') hy
            split
            · exact e3
            · rename_i hsa
              have hrl : rest.length = cap - len := by
                have := mapM_len hr
                simpa using this
              by_cases h0 : cap - len = 0
              · rw [h0] at hrl
                rw [List.length_eq_zero_iff.1 hrl]
              · exfalso
                apply hsa
                refine hsp (.cell a.block (a.off + 0)) (List.mem_append_left _ (MemPlace.mem_row.2 ⟨0, ?_, rfl⟩))
                exact Nat.mul_pos (by omega) hz
          rw [e2]; rfl
      · cases h
/-- A slice of plain elements, no longer than any. -/
theorem fitS_fits {e : TypeId} {ks : List Kd} (hpos : 0 < ks.length) (hz : ks.length = P.cellsOf e) {W : World} {cs : List Value} (h : FitS P e (fun _ ds => KS ks ds) W cs) : ∃ v, cs = [v] ∧ Fits W (.sl ks) v ∧ lenO (some v) ≤ maxLen := by
  obtain ⟨A, len, cap, rfl, hle, hm, hr⟩ := h
  refine ⟨_, rfl, ⟨hpos, A, len, cap, rfl, hle, fun hl => ?_⟩, Nat.le_trans hle hm⟩
  obtain ⟨a, hA, hb, hr⟩ := hr hl
  refine ⟨a, hA, hb, fun r hr' => ?_⟩
  obtain ⟨ds, h1, h2⟩ := hr r hr'
  obtain ⟨_, _, h4⟩ := World.cells?_some h1
  exact ⟨ds, h2, fun k hk' => by rw [hz]; exact h4 k (by omega)⟩
/-! ### Records -/
def NK (W : World) : List Nk → List Value → Prop
  | [], vs => vs = []
  | .f k :: ks, vs => ∃ v r, vs = v :: r ∧ kOk k v ∧ NK W ks r
  | .r z _ kk :: ks, vs => ∃ v r, vs = v :: r ∧ (Fits W (.sl kk) v ∧ lenO (some v) ≤ maxLen ∧ z = kk.length) ∧ NK W ks r
theorem NK.flat {W : World} : ∀ {l : List Kd} {c : List Value}, KS l c → NK W (l.map .f) c
  | [], _, h => h
  | _ :: _, _, ⟨v, r, e, hv, hr⟩ => ⟨v, r, e, hv, NK.flat hr⟩
theorem NK.append {W : World} : ∀ {l m : List Nk} {c d : List Value}, NK W l c → NK W m d → NK W (l ++ m) (c ++ d)
  | [], m, c, d, h, h' => by simp only [NK] at h; subst h; exact h'
  | .f _ :: l, m, c, d, ⟨v, r, e, hv, hr⟩, h' => by subst e; exact ⟨v, r ++ d, rfl, hv, NK.append hr h'⟩
  | .r _ _ _ :: l, m, c, d, ⟨v, r, e, hv, hr⟩, h' => by subst e; exact ⟨v, r ++ d, rfl, hv, NK.append hr h'⟩
theorem NK.length {W : World} : ∀ {l : List Nk} {c : List Value}, NK W l c → c.length = l.length
  | [], c, h => by simp only [NK] at h; subst h; rfl
  | .f _ :: l, c, ⟨v, r, e, _, hr⟩ => by subst e; simp [NK.length hr]
  | .r _ _ _ :: l, c, ⟨v, r, e, _, hr⟩ => by subst e; simp [NK.length hr]
/-- A record's fields; S: the letter of a slice at its first cell. -/
def nestF (P : Program) (S : Nat) : Nat → List Field → Option (List Nk)
  | _, [] => some []
  | off, f :: fs => if f.offset = off then (match flatT P 8 f.type with
      | some l => if l.length = P.cellsOf f.type then (nestF P S (off + P.cellsOf f.type) fs).map fun r => l.map .f ++ r else none
      | none => match P.underlying f.type with
        | some (.slice e) => (match flatT P 8 e with
          | some kk => if (0 < kk.length ∧ kk.length = P.cellsOf e) ∧ P.cellsOf f.type = 1 then (nestF P S (off + 1) fs).map fun r => [.r kk.length (S + off) kk] ++ r else none
          | none => none)
        | _ => none) else none
theorem nest_fields {W : World} {n S : Nat} {cs : List Value} : ∀ (fs : List Field) (off : Nat) (ks : List Nk) (xs : List (DataW H × List MemPlace)), nestF P S off fs = some ks → fs.mapM (fun f => DataW.trod enc P W 0 (fun _ => true) true n f.type ((cs.drop f.offset).take (P.cellsOf f.type))) = some xs →
    NK W ks ((cs.drop off).take ks.length) ∧ ∀ (W' : World) (sp : Nat → Bool), (∀ b, b < W.heap.size → W'.heap[b]? = W.heap[b]?) → (∀ q ∈ xs.flatMap (·.2), sp q.block = true) → fs.mapM (fun f => DataW.trod enc P W' 0 sp true n f.type ((cs.drop f.offset).take (P.cellsOf f.type))) = some xs
  | [], off, ks, xs, h, hm => by
    simp only [nestF, Option.some.injEq] at h
    subst h
    simp at hm
    subst hm
    exact ⟨by simp [NK], fun _ _ _ _ => rfl⟩
  | f :: fs, off, ks, xs, h, hm => by
    simp only [nestF] at h
    simp only [List.mapM_cons, bind, Option.bind_eq_some_iff, pure, Option.some.injEq] at hm
    obtain ⟨y, hy, ys, hys, rfl⟩ := hm
    have fin : ∀ (l ks' : List Nk) (o : Nat), l.length = P.cellsOf f.type → o = off + P.cellsOf f.type → f.offset = off → nestF P S o fs = some ks' → (NK W l ((cs.drop f.offset).take (P.cellsOf f.type)) ∧ ∀ (W' : World) (sp : Nat → Bool), (∀ b, b < W.heap.size → W'.heap[b]? = W.heap[b]?) → (∀ q ∈ y.2, sp q.block = true) → DataW.trod enc P W' 0 sp true n f.type ((cs.drop f.offset).take (P.cellsOf f.type)) = some y) →
        NK W (l ++ ks') ((cs.drop off).take (l ++ ks').length) ∧ ∀ (W' : World) (sp : Nat → Bool), (∀ b, b < W.heap.size → W'.heap[b]? = W.heap[b]?) → (∀ q ∈ (y :: ys).flatMap (·.2), sp q.block = true) → (f :: fs).mapM (fun f => DataW.trod enc P W' 0 sp true n f.type ((cs.drop f.offset).take (P.cellsOf f.type))) = some (y :: ys) := fun l ks' o hl ho hoff hk ⟨a1, a2⟩ => by
      obtain ⟨b1, b2⟩ := nest_fields fs o ks' ys hk hys
      subst hoff ho
      refine ⟨?_, fun W' sp hW hq => ?_⟩
      · rw [List.length_append, drop_take_add, hl]
        exact NK.append a1 b1
      · have e1 := a2 W' sp hW fun q hq' => hq q (by rw [List.flatMap_cons]; exact List.mem_append_left _ hq')
        have e2 := b2 W' sp hW fun q hq' => hq q (by rw [List.flatMap_cons]; exact List.mem_append_right _ hq')
        simp only [List.mapM_cons, bind, e1, e2, Option.bind_some, pure]
    split at h
    · rename_i hoff
      split at h
      · rename_i l hl
        split at h
        · rename_i hlen
          obtain ⟨ks', hk, rfl⟩ := Option.map_eq_some_iff.1 h
          obtain ⟨g1, g2⟩ := good_flat (enc := enc) hl W n _ y hy
          exact fin (l.map .f) ks' _ (by rw [List.length_map, hlen]) rfl hoff hk ⟨NK.flat g1, g2⟩
        · cases h
      · split at h
        · rename_i e hu
          split at h
          · rename_i kk hkk
            split at h
            · rename_i hc
              obtain ⟨ks', hk, rfl⟩ := Option.map_eq_some_iff.1 h
              obtain ⟨g1, g2⟩ := good_slice (enc := enc) hu (by omega) (good_flat hkk) W n _ y hy
              obtain ⟨v, hv, hf, hm⟩ := fitS_fits hc.1.1 hc.1.2 g1
              exact fin [.r kk.length (S + off) kk] ks' _ (by rw [hc.2]; rfl) (by rw [hc.2]) hoff hk ⟨by rw [hv]; exact ⟨v, [], rfl, ⟨hf, hm, rfl⟩, rfl⟩, g2⟩
            · cases h
          · cases h
        · cases h
    · cases h
theorem good_struct {t : TypeId} {S : Nat} {fs : Array Field} {ks : List Nk} (hu : P.underlying t = some (.struct fs)) (hk : nestF P S 0 fs.toList = some ks) (hl : ks.length = P.cellsOf t) : Good enc P t (fun W cs => NK W ks cs) := fun W n cs x h => by
  cases n with
  | zero => simp [DataW.trod] at h
  | succ n =>
    simp only [DataW.trod_step] at h ⊢
    unfold DataW.trodStep at h ⊢
    rw [hu] at h
    simp only [hu] at h ⊢
    split at h
    · rename_i hc
      obtain ⟨xs, hxs, rfl⟩ := Option.map_eq_some_iff.1 h
      obtain ⟨b1, b2⟩ := nest_fields (enc := enc) (S := S) fs.toList 0 ks xs hk hxs
      refine ⟨?_, fun W' sp hW hq => ?_⟩
      · rw [List.drop_zero, List.take_of_length_le (by omega)] at b1
        exact b1
      · rw [if_pos hc, b2 W' sp hW hq]; rfl
    · cases h
end
end Go.Proofs.Xw

/- Symbolic runs, part 32: such arguments, as letters. -/
namespace Go.Proofs.Xw
open Go Go.Proofs.Aw Go.ChangeShapes Go.WideShapes
inductive Sh2 where
  | flat (ks : List Kd) (agg : Bool)
  | sl (ks : List Kd)
  | sn (ks : List Nk)
/-- Rows of one slice lie so far behind those of the one ahead. -/
def farM : Nat := 9223372036854775808
def nestCell (W : World) (vs : List Value) (zs : List Nat) (nz : Nat → Nat) (l k p : Nat) : Option Value :=
  match rowCell W vs zs (l / 64 - 1) (l % 64) (p / farM) with
  | some (.slice (some a) _ _) => W.cell? ((a.add (p % farM * nz l)).add k)
  | _ => none
def offO (r : Nat) : Option Value → Int
  | some (.int _ n) => n
  | some (.slice _ _ _) => ((r * farM : Nat) : Int)
  | _ => 0
def mkR2 (W : World) (cells vs : List Value) (zs : List Nat) (nz : Nat → Nat) : Rho where
  i p := intO cells[p]?
  b p := boolO cells[p]?
  s p := strO cells[p]?
  len j := lenO vs[j]?
  ci l k r := if l < 64 then (if k < 1000 then offO r (rowCell W vs zs l k r) else ((lenO (rowCell W vs zs l (k - 1000) r) : Nat) : Int)) else intO (nestCell W vs zs nz l k r)
  cb l k r := if l < 64 then boolO (rowCell W vs zs l k r) else boolO (nestCell W vs zs nz l k r)
  cs l k r := if l < 64 then strO (rowCell W vs zs l k r) else strO (nestCell W vs zs nz l k r)
def pats2 : Nat → Nat → List Sh2 → List X
  | _, _, [] => []
  | p, j, .flat ks true :: r => .agg (canon p ks) :: pats2 (p + ks.length) (j + 1) r
  | p, j, .flat ks false :: r => (canon p ks).headD .top :: pats2 (p + ks.length) (j + 1) r
  | p, j, .sl ks :: r => .rl ks.length (.len j) (.var j ks) false :: pats2 p (j + 1) r
  | p, j, .sn ks :: r => .rn ks.length (.len j) j ks false :: pats2 p (j + 1) r
def plain2 : List Sh2 → List Value → List Value
  | .flat _ _ :: r, v :: vs => v.cells.toList ++ plain2 r vs
  | .sl _ :: r, _ :: vs => plain2 r vs
  | .sn _ :: r, _ :: vs => plain2 r vs
  | _, _ => []
def shZ2 : Sh2 → Nat
  | .flat _ _ => 0
  | .sl ks => ks.length
  | .sn ks => ks.length
def Fits2 (W : World) : Sh2 → Value → Prop
  | .flat ks a, v => Fits W (.flat ks a) v
  | .sl ks, v => Fits W (.sl ks) v
  | .sn ks, v => 0 < ks.length ∧ ∃ A len cap, v = .slice A len cap ∧ len ≤ cap ∧ (0 < len → ∃ a, A = some a ∧ a.block < W.heap.size ∧ ∀ r, r < len → ∃ ds, NK W ks ds ∧ ∀ k, k < ks.length → W.cell? ((a.add (r * ks.length)).add k) = ds[k]?)
/-- Cells of kinds, as letters tell them. -/
theorem conc_cells {C : Ctx} {ρ : Rho} {l j B : Nat} {f : Nat → Option Value} (hi : ∀ k K n, k < B → f k = some (.int K n) → ρ.ci l k j = n) (hb : ∀ k n, k < B → f k = some (.bool n) → ρ.cb l k j = n) (hs : ∀ k n, k < B → f k = some (.string n) → ρ.cs l k j = n) :
    ∀ (ks : List Kd) (k0 : Nat) (cs : List Value), k0 + ks.length ≤ B → KS ks cs → (∀ k, k < ks.length → f (k0 + k) = cs[k]?) → ∀ (k : Nat) (c : AV), (cellsV ρ l k0 ks j)[k]? = some c → ∃ u, f (k0 + k) = some u ∧ Conc C c u
  | [], _, _, _, _, _, k, c, h => by simp [cellsV] at h
  | kd :: ks, k0, cs, hB, ⟨v, r, e, hv, hr⟩, hc, k, c, h => by
    subst e
    simp only [List.length_cons] at hB
    have h0 : f k0 = some v := by have := hc 0 (by simp); simpa using this
    have ih := conc_cells (C := C) hi hb hs ks (k0 + 1) r (by omega) hr (fun k hk => by
      have := hc (k + 1) (by simp; omega)
      rw [show k0 + 1 + k = k0 + (k + 1) from by omega, this]; rfl)
    have next : ∀ k c, (cellsV ρ l (k0 + 1) ks j)[k]? = some c → ∃ u, f (k0 + (k + 1)) = some u ∧ Conc C c u := fun k c h => by
      obtain ⟨u, hu, hcu⟩ := ih k c h
      exact ⟨u, by rw [← hu]; congr 1; omega, hcu⟩
    cases kd with
    | i kk =>
      obtain ⟨n, rfl, _⟩ := hv
      simp only [cellsV] at h
      cases k with
      | zero => simp at h; subst h; exact ⟨_, h0, by simp only [Conc, hi k0 kk n (by omega) h0]⟩
      | succ k => exact next k c (by simpa using h)
    | b =>
      obtain ⟨n, rfl⟩ := hv
      simp only [cellsV] at h
      cases k with
      | zero => simp at h; subst h; exact ⟨_, h0, by simp only [Conc, hb k0 n (by omega) h0]⟩
      | succ k => exact next k c (by simpa using h)
    | s =>
      obtain ⟨n, rfl, _⟩ := hv
      simp only [cellsV] at h
      cases k with
      | zero => simp at h; subst h; exact ⟨_, h0, by simp only [Conc, hs k0 n (by omega) h0]⟩
      | succ k => exact next k c (by simpa using h)
section
variable {C : Ctx} {W : World} {cells vs : List Value} {zs : List Nat} {nz : Nat → Nat}
theorem row_hi {l j : Nat} (hl : l < 64) (k : Nat) (K : IntKind) (n : Int) (hk : k < 1000) (h : rowCell W vs zs l k j = some (.int K n)) : (mkR2 W cells vs zs nz).ci l k j = n := by
  simp only [mkR2, if_pos hl, if_pos hk, h, offO]
theorem row_hb {l j : Nat} (hl : l < 64) (k : Nat) (n : Bool) (_ : k < 1000) (h : rowCell W vs zs l k j = some (.bool n)) : (mkR2 W cells vs zs nz).cb l k j = n := by
  simp only [mkR2, if_pos hl, h, boolO]
theorem row_hs {l j : Nat} (hl : l < 64) (k : Nat) (n : ByteArray) (_ : k < 1000) (h : rowCell W vs zs l k j = some (.string n)) : (mkR2 W cells vs zs nz).cs l k j = n := by
  simp only [mkR2, if_pos hl, h, strO]
theorem nest_at {l k0 j e len cap : Nat} {a : Addr} (hl : l < 64) (hk : k0 < 64) (he : e < farM) (hr : rowCell W vs zs l k0 j = some (.slice (some a) len cap)) (k : Nat) : nestCell W vs zs nz (64 * (l + 1) + k0) k (e + j * farM) = W.cell? ((a.add (e * nz (64 * (l + 1) + k0))).add k) := by
  have hM : 0 < farM := by decide
  have e1 : (64 * (l + 1) + k0) / 64 - 1 = l := by omega
  have e2 : (64 * (l + 1) + k0) % 64 = k0 := by omega
  have e3 : (e + j * farM) / farM = j := by rw [Nat.add_mul_div_right _ _ hM, Nat.div_eq_of_lt he, Nat.zero_add]
  have e4 : (e + j * farM) % farM = e := by rw [Nat.add_mul_mod_self_right, Nat.mod_eq_of_lt he]
  simp only [nestCell, e1, e2, e3, e4, hr]
/-- A slice in a record, as rows of its letter. -/
theorem conc_inner (hW : C.w = W) (hm : ∀ b, ¬ C.mt b) {l k0 j z : Nat} {kk : List Kd} {v : Value} (hl : l < 64) (hk : k0 < 64) (hkk : kk.length ≤ 1000) (hz : nz (64 * (l + 1) + k0) = z) (hv : rowCell W vs zs l k0 j = some v) (hf : Fits W (.sl kk) v) (hb : lenO (some v) ≤ maxLen) (he : z = kk.length) :
    Conc C (.ro z (rowsS (mkR2 W cells vs zs nz) (64 * (l + 1) + k0) kk ((mkR2 W cells vs zs nz).ci l k0 j) ((mkR2 W cells vs zs nz).ci l (k0 + 1000) j)) false) v := by
  obtain ⟨hpos, A, len, cap, rfl, hle, hrows⟩ := hf
  have c1 : (mkR2 W cells vs zs nz).ci l k0 j = ((j * farM : Nat) : Int) := by simp only [mkR2, if_pos hl, if_pos (show k0 < 1000 by omega), hv, offO]
  have c2 : (mkR2 W cells vs zs nz).ci l (k0 + 1000) j = (len : Int) := by simp only [mkR2, if_pos hl, if_neg (show ¬ k0 + 1000 < 1000 by omega), Nat.add_sub_cancel, hv, lenO]
  have hrl : (rowsS (mkR2 W cells vs zs nz) (64 * (l + 1) + k0) kk ((mkR2 W cells vs zs nz).ci l k0 j) ((mkR2 W cells vs zs nz).ci l (k0 + 1000) j)).length = len := by simp [rowsS, c2]
  refine conc_ro.2 ⟨A, cap, by rw [hrl], by rw [hrl]; exact hle, fun h => (nomatch h), fun hne => ?_⟩
  have hl0 : 0 < len := by
    rcases Nat.eq_zero_or_pos len with h | h
    · exfalso; apply hne; apply List.length_eq_zero_iff.1; rw [hrl, h]
    · exact h
  obtain ⟨a, rfl, hb', hr⟩ := hrows hl0
  refine ⟨a, rfl, by rw [hW]; exact hb', hm _, ConcE.mk fun e row hrow => ?_⟩
  have hel : e < len := by rw [← hrl]; exact (List.getElem?_eq_some_iff.1 hrow).1
  have hfar : e < farM := by
    have : len ≤ maxLen := hb
    have e1 : maxLen = 9223372036854775807 := rfl
    have e2 : farM = 9223372036854775808 := rfl
    omega
  have hrow' : row = cellsV (mkR2 W cells vs zs nz) (64 * (l + 1) + k0) 0 kk (e + j * farM) := by
    unfold rowsS at hrow
    rw [List.getElem?_map, List.getElem?_range (by rw [c2]; exact hel)] at hrow
    simp only [Option.map_some, Option.some.injEq] at hrow
    rw [← hrow, c1]
    congr 1
  subst hrow'
  obtain ⟨ds, hds, hc⟩ := hr e hel
  have nat := nest_at (nz := nz) hl hk hfar hv
  have n64 : ¬ 64 * (l + 1) + k0 < 64 := by omega
  refine ⟨by rw [cellsV_length, he], ConcM.mk fun k c hkc => ?_⟩
  obtain ⟨u, hu, hcu⟩ := conc_cells (C := C) (ρ := mkR2 W cells vs zs nz) (l := 64 * (l + 1) + k0) (j := e + j * farM) (B := 1000) (f := fun k => nestCell W vs zs nz (64 * (l + 1) + k0) k (e + j * farM))
    (fun k K n _ h => by simp only [mkR2, if_neg n64, h, intO]) (fun k n _ h => by simp only [mkR2, if_neg n64, h, boolO]) (fun k n _ h => by simp only [mkR2, if_neg n64, h, strO])
    kk 0 ds (by omega) hds (fun k hk' => by rw [Nat.zero_add, nat, hz, he]; exact hc k hk') k c hkc
  rw [Nat.zero_add, nat, hz] at hu
  exact ⟨u, by rw [hW, Nat.zero_add, Nat.zero_add]; exact hu, hcu⟩
/-- A record's cells. -/
theorem conc_cellsN (hW : C.w = W) (hm : ∀ b, ¬ C.mt b) {l j : Nat} (hl : l < 64) : ∀ (ks : List Nk) (k0 : Nat) (ds : List Value), k0 + ks.length ≤ 64 → NK W ks ds → (∀ k, k < ks.length → rowCell W vs zs l (k0 + k) j = ds[k]?) → (∀ (k : Nat) (z S : Nat) (kk : List Kd), ks[k]? = some (.r z S kk) → S = 64 * (l + 1) + (k0 + k) ∧ nz S = z ∧ kk.length ≤ 1000) →
    ∀ (k : Nat) (c : AV), (cellsN (mkR2 W cells vs zs nz) l k0 ks j)[k]? = some c → ∃ u, rowCell W vs zs l (k0 + k) j = some u ∧ Conc C c u
  | [], _, _, _, _, _, _, k, c, h => by simp [cellsN] at h
  | .f kd :: ks, k0, ds, hB, ⟨v, r, e, hv, hr⟩, hc, hn, k, c, h => by
    subst e
    simp only [List.length_cons] at hB
    have h0 : rowCell W vs zs l k0 j = some v := by have := hc 0 (by simp); simpa using this
    cases k with
    | zero =>
      have hc1 : (cellsV (mkR2 W cells vs zs nz) l k0 [kd] j)[0]? = some c := by
        rw [← h]; cases kd <;> rfl
      exact conc_cells (C := C) (B := 1000) (f := fun k => rowCell W vs zs l k j) (row_hi hl) (row_hb hl) (row_hs hl) [kd] k0 [v] (by simp; omega) ⟨v, [], rfl, hv, rfl⟩ (fun k hk => by
        obtain rfl : k = 0 := by simpa using hk
        exact h0) 0 c hc1
    | succ k =>
      obtain ⟨u, hu, hcu⟩ := conc_cellsN hW hm hl ks (k0 + 1) r (by omega) hr (fun k hk => by
        have := hc (k + 1) (by simp; omega)
        rw [show k0 + 1 + k = k0 + (k + 1) from by omega, this]; rfl) (fun k z S kk hk => by
        have := hn (k + 1) z S kk (by simpa using hk)
        rw [show k0 + 1 + k = k0 + (k + 1) from by omega]; exact this) k c (by simpa [cellsN] using h)
      exact ⟨u, by rw [← hu]; congr 1; omega, hcu⟩
  | .r z S kk :: ks, k0, ds, hB, ⟨v, r, e, ⟨hf, hb, hz⟩, hr⟩, hc, hn, k, c, h => by
    subst e
    simp only [List.length_cons] at hB
    have h0 : rowCell W vs zs l k0 j = some v := by have := hc 0 (by simp); simpa using this
    cases k with
    | zero =>
      obtain ⟨n1, n2, n3⟩ := hn 0 z S kk rfl
      simp only [cellsN, List.getElem?_cons_zero, Option.some.injEq] at h
      subst h
      rw [Nat.add_zero] at n1
      subst n1
      exact ⟨v, h0, conc_inner hW hm hl (by omega) n3 n2 h0 hf hb hz⟩
    | succ k =>
      obtain ⟨u, hu, hcu⟩ := conc_cellsN hW hm hl ks (k0 + 1) r (by omega) hr (fun k hk => by
        have := hc (k + 1) (by simp; omega)
        rw [show k0 + 1 + k = k0 + (k + 1) from by omega, this]; rfl) (fun k z S kk hk => by
        have := hn (k + 1) z S kk (by simpa using hk)
        rw [show k0 + 1 + k = k0 + (k + 1) from by omega]; exact this) k c (by simpa [cellsN] using h)
      exact ⟨u, by rw [← hu]; congr 1; omega, hcu⟩
end
end Go.Proofs.Xw

/- Symbolic runs, part 33: a law's arguments, records with slices among them: from a row's reading to letters and back. -/
namespace Go.Proofs.Xw
open Go Go.Proofs.Aw Go.ChangeShapes Go.WideShapes
/-! ### The letters are those of the places -/
def lettersK (nz : Nat → Nat) (j : Nat) : Nat → List Nk → Bool
  | _, [] => true
  | k, .f _ :: ks => lettersK nz j (k + 1) ks
  | k, .r z S kk :: ks => Nat.beq S (64 * (j + 1) + k) && (Nat.beq (nz S) z && (Nat.ble kk.length 1000 && lettersK nz j (k + 1) ks))
theorem lettersK_get {nz : Nat → Nat} {j : Nat} : ∀ {ks : List Nk} {k0 : Nat}, lettersK nz j k0 ks = true → ∀ (k : Nat) (z S : Nat) (kk : List Kd), ks[k]? = some (.r z S kk) → S = 64 * (j + 1) + (k0 + k) ∧ nz S = z ∧ kk.length ≤ 1000
  | [], _, _, k, z, S, kk, hk => by simp at hk
  | .f _ :: ks, k0, h, k, z, S, kk, hk => by
    cases k with
    | zero => simp at hk
    | succ k =>
      have := lettersK_get (k0 := k0 + 1) (by simpa [lettersK] using h) k z S kk (by simpa using hk)
      rw [show k0 + 1 + k = k0 + (k + 1) from by omega] at this
      exact this
  | .r z' S' kk' :: ks, k0, h, k, z, S, kk, hk => by
    simp only [lettersK, Bool.and_eq_true] at h
    obtain ⟨h1, h2, h3, h4⟩ := h
    cases k with
    | zero =>
      simp only [List.getElem?_cons_zero, Option.some.injEq, Nk.r.injEq] at hk
      obtain ⟨rfl, rfl, rfl⟩ := hk
      exact ⟨Nat.eq_of_beq_eq_true h1, Nat.eq_of_beq_eq_true h2, Nat.le_of_ble_eq_true h3⟩
    | succ k =>
      have := lettersK_get (k0 := k0 + 1) h4 k z S kk (by simpa using hk)
      rw [show k0 + 1 + k = k0 + (k + 1) from by omega] at this
      exact this
def lettersB (nz : Nat → Nat) : Nat → List Sh2 → Bool
  | _, [] => true
  | j, .sn ks :: r => Nat.blt j 64 && (Nat.ble ks.length 64 && (lettersK nz j 0 ks && lettersB nz (j + 1) r))
  | j, .sl ks :: r => Nat.blt j 64 && (Nat.ble ks.length 1000 && lettersB nz (j + 1) r)
  | j, .flat _ _ :: r => lettersB nz (j + 1) r
theorem canon2 {W : World} {cells vs : List Value} {zs : List Nat} {nz : Nat → Nat} : ∀ (ks : List Kd) (p : Nat), X.denL (mkR2 W cells vs zs nz) (canon p ks) = X.denL (mkR W cells vs zs) (canon p ks)
  | [], _ => rfl
  | .i _ :: ks, p => by simp only [canon, X.denL, canon2 ks (p + 1)]; rfl
  | .b :: ks, p => by simp only [canon, X.denL, canon2 ks (p + 1)]; rfl
  | .s :: ks, p => by simp only [canon, X.denL, canon2 ks (p + 1)]; rfl
/-- All arguments, as letters. -/
theorem conc_pats2 {C : Ctx} {W : World} (hW : C.w = W) (hm : ∀ b, ¬ C.mt b) {cells vsA : List Value} {zs : List Nat} {nz : Nat → Nat} : ∀ (shs : List Sh2) (vs : List Value) (pre preV : List Value), (∀ (i : Nat) (sh : Sh2) (v : Value), shs[i]? = some sh → vs[i]? = some v → Fits2 W sh v) → shs.length = vs.length →
    cells = pre ++ plain2 shs vs → vsA = preV ++ vs → (∀ (i : Nat) (sh : Sh2), shs[i]? = some sh → zs[preV.length + i]? = some (shZ2 sh)) → lettersB nz preV.length shs = true → ConcL C (X.denL (mkR2 W cells vsA zs nz) (pats2 pre.length preV.length shs)) vs
  | [], vs, pre, preV, _, hl, _, _, _, _ => by
    have : vs = [] := List.length_eq_zero_iff.1 hl.symm
    subst this
    simp only [pats2, X.denL, ConcL]
  | sh :: shs, [], _, _, _, hl, _, _, _, _ => by simp at hl
  | sh :: shs, v :: vs, pre, preV, hf, hl, hcells, hvs, hz, hlet => by
    have h0 := hf 0 sh v rfl rfl
    have hf' : ∀ (i : Nat) (sh' : Sh2) (v' : Value), shs[i]? = some sh' → vs[i]? = some v' → Fits2 W sh' v' := fun i sh' v' h1 h2 => hf (i + 1) sh' v' (by simpa using h1) (by simpa using h2)
    have hl' : shs.length = vs.length := by simpa using hl
    have hz' : ∀ (i : Nat) (sh' : Sh2), shs[i]? = some sh' → zs[(preV ++ [v]).length + i]? = some (shZ2 sh') := fun i sh' h1 => by
      have := hz (i + 1) sh' (by simpa using h1)
      rw [← this]; congr 1; simp; omega
    have hvs' : vsA = (preV ++ [v]) ++ vs := by rw [hvs]; simp
    have e2 : (preV ++ [v]).length = preV.length + 1 := by simp
    cases sh with
    | flat ks agg =>
      have hlet' : lettersB nz (preV.length + 1) shs = true := by simpa [lettersB] using hlet
      have rest : ∀ n, v.cells.toList.length = n → ConcL C (X.denL (mkR2 W cells vsA zs nz) (pats2 (pre.length + n) (preV.length + 1) shs)) vs := fun n hn => by
        have := conc_pats2 (cells := cells) (vsA := vsA) (zs := zs) (nz := nz) hW hm shs vs (pre ++ v.cells.toList) (preV ++ [v]) hf' hl' (by rw [hcells]; simp [plain2]) hvs' hz' (by rw [e2]; exact hlet')
        rw [e2, List.length_append, hn] at this
        exact this
      have here : ∀ i, i < v.cells.toList.length → cells[pre.length + i]? = v.cells.toList[i]? := fun i hi => by
        rw [hcells, List.getElem?_append_right (by omega)]
        simp only [plain2]
        rw [List.getElem?_append_left (by omega)]
        congr 1; omega
      cases agg with
      | true =>
        obtain ⟨cs, rfl, hk⟩ := h0
        have hlen := hk.length
        simp only [pats2, X.denL, X.den, ConcL]
        refine ⟨_, _, rfl, ?_, rest ks.length (by simpa [Value.cells] using hlen)⟩
        simp only [Conc]
        rw [canon2]
        exact ⟨cs, rfl, conc_canon ks pre.length cs.toList hk fun i hi => here i (by simpa [Value.cells] using (by omega : i < cs.toList.length))⟩
      | false =>
        obtain ⟨k, rfl, hk⟩ := h0
        have hv1 : v.cells.toList = [v] := by cases k with
          | i kk => obtain ⟨n, rfl, _⟩ := hk; rfl
          | b => obtain ⟨n, rfl⟩ := hk; rfl
          | s => obtain ⟨n, rfl, _⟩ := hk; rfl
        have hc := conc_canon (C := C) (W := W) (cells := cells) (vs := vsA) (zs := zs) [k] pre.length [v] ⟨v, [], rfl, hk, rfl⟩ fun i hi => by rw [here i (by rw [hv1]; simpa using hi), hv1]
        rw [← canon2 (nz := nz)] at hc
        simp only [pats2, X.denL, ConcL]
        refine ⟨_, _, rfl, ?_, rest 1 (by rw [hv1]; rfl)⟩
        cases k with
        | i kk => simp only [canon, X.denL, ConcL] at hc ⊢; obtain ⟨u, us, e, hcu, _⟩ := hc; simp only [List.cons.injEq] at e; rw [e.1]; exact hcu
        | b => simp only [canon, X.denL, ConcL] at hc ⊢; obtain ⟨u, us, e, hcu, _⟩ := hc; simp only [List.cons.injEq] at e; rw [e.1]; exact hcu
        | s => simp only [canon, X.denL, ConcL] at hc ⊢; obtain ⟨u, us, e, hcu, _⟩ := hc; simp only [List.cons.injEq] at e; rw [e.1]; exact hcu
    | sl ks =>
      simp only [lettersB, Bool.and_eq_true] at hlet
      obtain ⟨b1, b2, hlet'⟩ := hlet
      have b1 : preV.length < 64 := by simpa using b1
      obtain ⟨hpos, A, len, cap, rfl, hle, hrows⟩ := h0
      have hvj : vsA[preV.length]? = some (.slice A len cap) := by rw [hvs, List.getElem?_append_right (Nat.le_refl _)]; simp
      have hzj : zs[preV.length]? = some ks.length := by have := hz 0 (.sl ks) rfl; simpa [shZ2] using this
      have rest := conc_pats2 (cells := cells) (vsA := vsA) (zs := zs) (nz := nz) hW hm shs vs pre (preV ++ [Value.slice A len cap]) hf' hl' (by rw [hcells]; simp [plain2]) hvs' hz' (by rw [e2]; exact hlet')
      rw [e2] at rest
      simp only [pats2, X.denL, X.den, ConcL]
      refine ⟨_, _, rfl, ?_, rest⟩
      have hlen : ((mkR2 W cells vsA zs nz).len preV.length) = len := by simp only [mkR2, hvj, lenO]
      have hrl : (rowsD (mkR2 W cells vsA zs nz) (.len preV.length) (.var preV.length ks)).length = len := by simp [rowsD, IE.den, hlen]
      refine conc_ro.2 ⟨A, cap, by rw [hrl], by rw [hrl]; exact hle, fun h => (nomatch h), fun hne => ?_⟩
      have hl0 : 0 < len := by
        rcases Nat.eq_zero_or_pos len with h | h
        · exfalso; apply hne; apply List.length_eq_zero_iff.1; rw [hrl, h]
        · exact h
      obtain ⟨a, rfl, hb, hr⟩ := hrows hl0
      refine ⟨a, rfl, by rw [hW]; exact hb, hm _, ConcE.mk fun j e hj => ?_⟩
      have hjl : j < len := by rw [← hrl]; exact (List.getElem?_eq_some_iff.1 hj).1
      rw [rowsD_get (by simp only [IE.den, hlen]; omega)] at hj
      simp only [Option.some.injEq, RL.row, Int.toNat_natCast] at hj
      subst hj
      obtain ⟨cs, hk, hc⟩ := hr j hjl
      have hrc : ∀ k, rowCell W vsA zs preV.length k j = W.cell? ((a.add (j * ks.length)).add k) := fun k => by simp only [rowCell, hvj, hzj]
      refine ⟨cellsV_length _ _ _ _ _, ConcM.mk fun k c hkc => ?_⟩
      obtain ⟨u, hu, hcu⟩ := conc_cells (C := C) (ρ := mkR2 W cells vsA zs nz) (l := preV.length) (j := j) (B := 1000) (f := fun k => rowCell W vsA zs preV.length k j) (row_hi b1) (row_hb b1) (row_hs b1) ks 0 cs (by have := Nat.le_of_ble_eq_true b2; omega) hk (fun k hk' => by rw [Nat.zero_add, hrc]; exact hc k hk') k c hkc
      simp only [Nat.zero_add, hrc] at hu
      exact ⟨u, by rw [hW, Nat.zero_add, Nat.zero_add]; exact hu, hcu⟩
    | sn ks =>
      simp only [lettersB, Bool.and_eq_true] at hlet
      obtain ⟨b1, b2, b3, hlet'⟩ := hlet
      have b1 : preV.length < 64 := by simpa using b1
      obtain ⟨hpos, A, len, cap, rfl, hle, hrows⟩ := h0
      have hvj : vsA[preV.length]? = some (.slice A len cap) := by rw [hvs, List.getElem?_append_right (Nat.le_refl _)]; simp
      have hzj : zs[preV.length]? = some ks.length := by have := hz 0 (.sn ks) rfl; simpa [shZ2] using this
      have rest := conc_pats2 (cells := cells) (vsA := vsA) (zs := zs) (nz := nz) hW hm shs vs pre (preV ++ [Value.slice A len cap]) hf' hl' (by rw [hcells]; simp [plain2]) hvs' hz' (by rw [e2]; exact hlet')
      rw [e2] at rest
      simp only [pats2, X.denL, X.den, ConcL]
      refine ⟨_, _, rfl, ?_, rest⟩
      have hlen : ((mkR2 W cells vsA zs nz).len preV.length) = len := by simp only [mkR2, hvj, lenO]
      have hrl : (rowsN (mkR2 W cells vsA zs nz) (.len preV.length) preV.length ks).length = len := by simp [rowsN, IE.den, hlen]
      refine conc_ro.2 ⟨A, cap, by rw [hrl], by rw [hrl]; exact hle, fun h => (nomatch h), fun hne => ?_⟩
      have hl0 : 0 < len := by
        rcases Nat.eq_zero_or_pos len with h | h
        · exfalso; apply hne; apply List.length_eq_zero_iff.1; rw [hrl, h]
        · exact h
      obtain ⟨a, rfl, hb, hr⟩ := hrows hl0
      refine ⟨a, rfl, by rw [hW]; exact hb, hm _, ConcE.mk fun j e hj => ?_⟩
      have hjl : j < len := by rw [← hrl]; exact (List.getElem?_eq_some_iff.1 hj).1
      rw [rowsN_get (by simp only [IE.den, hlen]; omega)] at hj
      simp only [Option.some.injEq] at hj
      subst hj
      obtain ⟨ds, hk, hc⟩ := hr j hjl
      have hrc : ∀ k, rowCell W vsA zs preV.length k j = W.cell? ((a.add (j * ks.length)).add k) := fun k => by simp only [rowCell, hvj, hzj]
      refine ⟨cellsN_len _ _ _ _ _, ConcM.mk fun k c hkc => ?_⟩
      obtain ⟨u, hu, hcu⟩ := conc_cellsN (C := C) (cells := cells) hW hm b1 ks 0 ds (by have := Nat.le_of_ble_eq_true b2; omega) hk (fun k hk' => by rw [Nat.zero_add, hrc]; exact hc k hk') (lettersK_get b3) k c hkc
      simp only [Nat.zero_add, hrc] at hu
      exact ⟨u, by rw [hW, Nat.zero_add, Nat.zero_add]; exact hu, hcu⟩
/-! ### From a row's reading -/
def shT2 (P : Program) (j : Nat) (t : TypeId) : Option Sh2 := match shT P t with
  | some (.flat ks a) => some (.flat ks a)
  | some (.sl ks) => some (.sl ks)
  | none => match P.underlying t with
    | some (.slice e) => (match P.underlying e with
      | some (.struct fs) => (match nestF P (64 * (j + 1)) 0 fs.toList with
        | some ks => if 0 < ks.length ∧ ks.length = P.cellsOf e then some (.sn ks) else none
        | none => none)
      | _ => none)
    | _ => none
def shOk (P : Program) : Nat → List TypeId → List Sh2 → Prop
  | _, [], [] => True
  | j, t :: ts, s :: ss => shT2 P j t = some s ∧ shOk P (j + 1) ts ss
  | _, _, _ => False
section
variable {H : Type} {enc : TypeId × Value → H} {P : Program}
theorem fits_of_trod2 {j : Nat} {t : TypeId} {sh : Sh2} (hs : shT2 P j t = some sh) {W : World} {base : Nat} {v : Value} (hval : Value.okWide P W .any base t v) {d : DataW H} {p : List MemPlace} (h : DataW.Trod enc P W 0 (fun _ => true) true t v d p) :
    Fits2 W sh v ∧ ∀ (W' : World) (sp : Nat → Bool), (∀ b, b < W.heap.size → W'.heap[b]? = W.heap[b]?) → (∀ q ∈ p, sp q.block = true) → DataW.Trod enc P W' 0 sp true t v d p := by
  unfold shT2 at hs
  split at hs
  · rename_i ks a h1
    cases hs
    exact fits_of_trod h1 hval h
  · rename_i ks h1
    cases hs
    exact fits_of_trod h1 hval h
  · split at hs
    · rename_i e hu
      split at hs
      · rename_i fs hue
        split at hs
        · rename_i ks hk
          split at hs
          · rename_i hc
            cases hs
            obtain ⟨A, len, cap, rfl⟩ := okWide_slice hu hval
            obtain ⟨n, hf⟩ := h
            obtain ⟨g1, g2⟩ := good_slice (enc := enc) hu (by omega) (good_struct hue hk hc.2) W n _ _ hf
            refine ⟨⟨hc.1, A, len, cap, rfl, ?_⟩, fun W' sp h1 h2 => ⟨n, g2 W' sp h1 h2⟩⟩
            obtain ⟨A', len', cap', he, hle, _, hr⟩ := g1
            have he : [Value.slice A len cap] = [.slice A' len' cap'] := he
            simp only [List.cons.injEq, Value.slice.injEq, and_true] at he
            obtain ⟨rfl, rfl, rfl⟩ := he
            refine ⟨hle, fun hl => ?_⟩
            obtain ⟨a, hA, hb, hr⟩ := hr hl
            refine ⟨a, hA, hb, fun r hr' => ?_⟩
            obtain ⟨ds, h1, h2⟩ := hr r hr'
            obtain ⟨_, _, h4⟩ := World.cells?_some h1
            exact ⟨ds, h2, fun k hk' => by rw [hc.2]; exact h4 k (by omega)⟩
          · cases hs
        · cases hs
      · cases hs
    · cases hs
theorem fits_all2 {W : World} {base : Nat} : ∀ {j : Nat} {ts : List TypeId} {shs : List Sh2} {vs : List Value} {ds : List (DataW H)} {p : List MemPlace}, shOk P j ts shs → (∀ (j : Nat) t v, ts[j]? = some t → vs[j]? = some v → Value.okWide P W .any base t v) →
    DataW.TrodAll enc P W 0 (fun _ => true) true ts vs ds p → shs.length = vs.length ∧ (∀ (i : Nat) (sh : Sh2) (v : Value), shs[i]? = some sh → vs[i]? = some v → Fits2 W sh v) ∧
    ∀ (W' : World) (sp : Nat → Bool), (∀ b, b < W.heap.size → W'.heap[b]? = W.heap[b]?) → (∀ q ∈ p, sp q.block = true) → DataW.TrodAll enc P W' 0 sp true ts vs ds p
  | j, [], [], vs, ds, p, _, _, h => by
    obtain ⟨rfl, rfl, rfl⟩ := trodAll_nil h
    exact ⟨rfl, fun i sh v h1 _ => by simp at h1, fun _ _ _ _ => rfl⟩
  | j, [], _ :: _, vs, ds, p, hm, _, h => hm.elim
  | j, t :: ts, [], vs, ds, p, hm, _, h => hm.elim
  | j, t :: ts, sh :: shs, vs, ds, p, hm, hval, h => by
    obtain ⟨v, vs', d, ds', p1, p2, rfl, rfl, rfl, h1, h2⟩ := trodAll_cons h
    obtain ⟨a1, a2⟩ := fits_of_trod2 hm.1 (hval 0 t v rfl rfl) h1
    obtain ⟨b1, b2, b3⟩ := fits_all2 hm.2 (fun j t' v' e1 e2 => hval (j + 1) t' v' (by simpa using e1) (by simpa using e2)) h2
    refine ⟨by simp [b1], fun i sh' v' e1 e2 => ?_, fun W' sp hW hq => ?_⟩
    · cases i with
      | zero => simp at e1 e2; subst e1 e2; exact a1
      | succ i => exact b2 i sh' v' (by simpa using e1) (by simpa using e2)
    · exact ⟨p1, p2, a2 W' sp hW (fun q hq' => hq q (List.mem_append_left _ hq')), b3 W' sp hW (fun q hq' => hq q (List.mem_append_right _ hq')), rfl⟩
/-- What a law's answer comes to: its call returns true, and all reads as it read. -/
theorem law_callsN {f : FuncId} {fn : Func} {s : ChangeSpec} {shs : List Sh2} {nz : Nat → Nat} {r : TypeId} (hts : shOk P 0 fn.params.toList shs) (hlet : lettersB nz 0 shs = true) (hrt : fn.resultTypes = #[r]) (hrb : P.underlying r = some .bool) (hvars : s.vars = [])
    (hcy : ∀ (W : World) (vs : List Value), shs.length = vs.length → (∀ (i : Nat) (sh : Sh2) (v : Value), shs[i]? = some sh → vs[i]? = some v → Fits2 W sh v) → Short P fn.params.toList vs → CY P 0 f (X.denL (mkR2 W (plain2 shs vs) vs (shs.map shZ2) nz) (pats2 0 0 shs)) [] (.sc (.bool true)) [])
    {W : World} {base : Nat} {args : Array Value} {ds gs : List (DataW H)} {before : List MemPlace} {apart : Bool} {us : List TypeId} (hval : ∀ (j : Nat) t v, fn.params[j]? = some t → args[j]? = some v → Value.okWide P W .any base t v)
    (hW : DataW.Whole enc P fn.params.toList s.vars apart W args.toList ds gs before) (hwt : (DataW.weightsEach P (fn.params.toList ++ us) (ds ++ gs)).all (· ≤ reachBytes) = true)
    (hspec : ∀ ds : List (DataW H), ds.length = fn.params.size → s.fn H (ds ++ []) = { results := [.lit (.bool true)], args := ds }) :
    Calls P f args W fun e W' => ∃ v, e = .returned v ∧ s.post enc P fn apart true false false W args v W' := by
  obtain ⟨p, q, hA, hV, rfl, hfz, hnd⟩ := id hW
  rw [hvars] at hV
  obtain ⟨rfl, rfl⟩ : gs = [] ∧ q = [] := by
    cases gs with
    | nil => exact ⟨rfl, hV⟩
    | cons g gs => exact hV.elim
  obtain ⟨hlen, hfit, hcarry⟩ := fits_all2 hts (fun j t v h1 h2 => hval j t v (by simpa using h1) (by simpa using h2)) hA
  let C : Ctx := { ρ := fun _ => 0, bs := fun _ => 0, live := fun _ => False, kn := fun _ => False, mt := fun _ => False, w := W }
  have hH : HeapOk C [] := ⟨fun n => by simp [C, hget], fun n cs h => by simp [hget] at h, fun n m h => h.elim, fun n h => h.elim, fun n h => h.elim⟩
  have hC := conc_pats2 (C := C) (W := W) rfl (fun b h => h) (cells := plain2 shs args.toList) (vsA := args.toList) (zs := shs.map shZ2) (nz := nz) shs args.toList [] [] hfit hlen rfl rfl (fun i sh h => by simp [h]) hlet
  have hspec := hspec ds (by rw [trod_len hA]; simp)
  have := hcy W args.toList hlen hfit (lens_all hA hwt) C args.toList hH hC (fun k h => h)
  have e : args.toList.toArray = args := by simp
  rw [e] at this
  refine this.mono fun e W' ⟨u, C', he, hw, hp⟩ => ?_
  have hu : u = .bool true := by have := hp.val; simpa only [Conc] using this
  subst hu
  subst hw
  have hsame : ∀ b, b < W.heap.size → C'.w.heap[b]? = W.heap[b]? := fun b hb => hp.same b hb (fun m hm => by simp at hm)
  refine ⟨_, he, ds, [], p ++ [], [], p, [], hW, ?_, ?_, ?_, ?_, fun h => by cases h⟩
  · rw [hspec, hrt]
    exact trodAll_mk1 (Go.RowKit.shut_bool hrb true)
  · rw [hspec]
    exact hcarry C'.w _ hsame (fun q hq => by simpa using hW.lt q (by simpa using hq))
  · rw [hspec, hvars]; exact rfl
  · refine ⟨hp.os, hp.output, fun i hi => ?_⟩
    rw [hsame i hi]
    split
    · rename_i h1 h2
      rw [h1] at h2
      cases h2
      exact ⟨rfl, rfl, rfl, fun _ _ => rfl⟩
    · rename_i h1 h2
      rw [h1] at h2
      cases h2
      exact .inr ⟨rfl, rfl⟩
    · rfl
end
end Go.Proofs.Xw
