/- Symbolic runs, part 8: regions. -/
import Derived.Test.YtcllappmhdfffaaXw7
namespace Go.Proofs.Xw
open Go Go.Proofs.Aw

/-! ### Calls, and one operation with them -/
abbrev CallF := Nat → FuncId → List X → XHp → Facts → T (X × XDl)
def CallOk (P : Program) (ρ : Rho) (call : CallF) : Prop := ∀ n f args h Φ r d, Facts.ok ρ Φ → (call n f args h Φ).sel ρ = some (r, d) → hasBody P f = true ∧ CY P n f (X.denL ρ args) (denH ρ h) (r.den ρ) (denD ρ d)
def doX (ti : Nat → Option TI) (call : CallF) (n : Nat) (mu : Bool) (g : Nat → X) (h : XHp) (Φ : Facts) (op : Op) : T (X × XDl) :=
  (stepX ti n mu (fun i => strip Φ (g i)) h Φ op).bind Φ fun Φ a => match a with
    | .ok r d => .ret (r, d)
    | .call f args => call n f args h Φ
theorem doX_yields {P : Program} {ρ : Rho} {ti : Nat → Option TI} (hti : TIs.ok P ti) {call : CallF} (hcall : CallOk P ρ call) {n : Nat} {mu : Bool} {g : Nat → X} {t : Tp} (hg : ∀ i, (g i).den ρ = tget t i) {h : XHp} {Φ : Facts} (hk : Facts.ok ρ Φ) {op : Op} {r : X} {d : XDl}
    (hs : (doX ti call n mu g h Φ op).sel ρ = some (r, d)) : Aw.Yields P n op t (denH ρ h) (r.den ρ) (denD ρ d) := by
  obtain ⟨Φ', a, hk', h1, h2⟩ := T.sel_bind _ hk hs
  have hsh := stepX_shows hti (g := fun i => strip Φ (g i)) (fun i => (strip_den hk (g i)).trans (hg i)) hk h1
  cases a with
  | ok r' d' => cases h2; exact hsh
  | call f args =>
    obtain ⟨hb, hcy⟩ := hcall _ _ _ _ _ _ _ hk' h2
    obtain ⟨r', d', hy, h3, h4⟩ := stepK_sound (stepN_call (K := fun a b => a = r.den ρ ∧ b = denD ρ d) hsh ⟨_, _, hb, hcy, rfl, rfl⟩)
    subst h3 h4; exact hy

/-! ### States -/
structure XS where
  t : XTp
  h : XHp
  nx : Nat
def XS.den (ρ : Rho) (σ : XS) : St := ⟨denT ρ σ.t, denH ρ σ.h, σ.nx⟩
def yvX (ops : List Oper) (g : Nat → X) (j : Nat) : X :=
  match (ops[j]?).bind (·.dst) with
  | some d => g d
  | none => .top
theorem yvX_den {ρ : Rho} {ops : List Oper} {g : Nat → X} {t : Tp} (hg : ∀ i, (g i).den ρ = tget t i) (j : Nat) : (yvX ops g j).den ρ = yv ops t j := by
  unfold yvX yv
  split
  · rename_i d h; rw [h]; exact hg d
  · rename_i h; rw [h]; rfl

/-! ### In the order of the text -/
/-- One way alone, and nothing written. -/
def quiet : T (X × XDl) → Option (BE × X)
  | .ret (r, []) => some (.lit true, r)
  | .need p (.ret (r, [])) => some (p, r)
  | _ => none
theorem quiet_ok {ρ : Rho} {t : T (X × XDl)} {p : BE} {r : X} (h : quiet t = some (p, r)) (hp : p.den ρ = true) : t.sel ρ = some (r, []) := by
  unfold quiet at h
  split at h
  · cases h; rfl
  · cases h; simp only [T.sel, hp, if_true]
  · cases h
/-- When a guarded operation is run. -/
def whenX (want' : Bool) : X → Option BE
  | .sc (.b c) => some (if want' = true then c else mkNot c)
  | .gd d (.sc (.b c)) => some (mkAnd d (if want' = true then c else mkNot c))
  | .k (.tuple _) => some (.lit false)
  | _ => none
theorem whenX_den {ρ : Rho} {want' : Bool} {v : X} {e : BE} (h : whenX want' v = some e) : (e.den ρ = true → v.den ρ = .sc (.bool want')) ∧ (e.den ρ = false → (∃ b, v.den ρ = .sc (.bool b) ∧ b ≠ want') ∨ ∃ x, v.den ρ = .sc (.tuple x)) := by
  have ew : ∀ c : BE, (if want' = true then c else mkNot c).den ρ = (c.den ρ == want') := fun c => by
    cases want' with
    | true => rw [if_pos rfl]; cases BE.den ρ c <;> rfl
    | false => rw [if_neg (by simp), mkNot_den]; cases BE.den ρ c <;> rfl
  unfold whenX at h
  split at h
  · rename_i c
    cases h
    rw [ew]
    refine ⟨fun hh => ?_, fun hh => .inl ⟨c.den ρ, rfl, by simpa using hh⟩⟩
    simp only [beq_iff_eq] at hh
    simp only [X.den, Sc.den, hh]
  · rename_i d c
    cases h
    rw [mkAnd_den, ew]
    simp only [X.den, Sc.den]
    cases hd : d.den ρ with
    | true =>
      refine ⟨fun hh => ?_, fun hh => .inl ⟨c.den ρ, rfl, by simpa using hh⟩⟩
      simp only [Bool.true_and, beq_iff_eq] at hh
      simp only [if_true, hh]
    | false => exact ⟨fun hh => by simp at hh, fun _ => .inr ⟨#[], rfl⟩⟩
  · rename_i x
    cases h
    exact ⟨fun hh => by simp [BE.den] at hh, fun _ => .inr ⟨x, rfl⟩⟩
  · cases h
def guardX {α : Type} (Φ : Facts) (v : X) (want' : Bool) (run : Facts → T (X × XDl)) (go : Facts → X → XDl → T α) (skip : Facts → T α) (both : Facts → X → T α) : T α :=
  match whenX want' v with
  | some e => match red Φ e with
    | .lit true => (run Φ).bind Φ fun Φ p => go Φ p.1 p.2
    | .lit false => skip Φ
    | d => match quiet (run (assume d true Φ)) with
      | some (p, r) => want Φ (mkOr (mkNot d) p) fun Φ => both Φ (.gd d r)
      | none => .br d ((run (assume d true Φ)).bind (assume d true Φ) fun Φ p => go Φ p.1 p.2) (skip (assume d false Φ))
  | none => .fail ["guard"]
theorem sel_guardX {α : Type} {ρ : Rho} {Φ : Facts} {v : X} {want' : Bool} {run : Facts → T (X × XDl)} {go : Facts → X → XDl → T α} {skip : Facts → T α} {both : Facts → X → T α} {a : α} (hk : Facts.ok ρ Φ) (h : (guardX Φ v want' run go skip both).sel ρ = some a) :
    (v.den ρ = .sc (.bool want') ∧ ∃ Φ0 Φ' r d, Facts.ok ρ Φ0 ∧ Facts.ok ρ Φ' ∧ (run Φ0).sel ρ = some (r, d) ∧ (go Φ' r d).sel ρ = some a) ∨
    (((∃ b, v.den ρ = .sc (.bool b) ∧ b ≠ want') ∨ ∃ x, v.den ρ = .sc (.tuple x)) ∧ ∃ Φ', Facts.ok ρ Φ' ∧ (skip Φ').sel ρ = some a) ∨
    (∃ Φ' y, Facts.ok ρ Φ' ∧ (both Φ' y).sel ρ = some a ∧ ((v.den ρ = .sc (.bool want') ∧ ∃ Φ0 r, Facts.ok ρ Φ0 ∧ (run Φ0).sel ρ = some (r, []) ∧ y.den ρ = r.den ρ) ∨ (((∃ b, v.den ρ = .sc (.bool b) ∧ b ≠ want') ∨ ∃ x, v.den ρ = .sc (.tuple x)) ∧ y.den ρ = .sc undef))) := by
  unfold guardX at h
  split at h
  · rename_i e hw
    obtain ⟨yes, no⟩ := whenX_den (ρ := ρ) hw
    have hr := red_den hk e
    rw [← hr] at yes no
    split at h
    · rename_i hd
      rw [hd] at yes
      obtain ⟨Φ', p, hk', h1, h2⟩ := T.sel_bind _ hk h
      exact .inl ⟨yes rfl, Φ, Φ', p.1, p.2, hk, hk', h1, h2⟩
    · rename_i hd
      rw [hd] at no
      exact .inr (.inl ⟨no rfl, Φ, hk, h⟩)
    · rename_i d hd1 hd2
      split at h
      · rename_i p r hq
        obtain ⟨Φ', hk', h1, h2⟩ := sel_want hk h
        rw [mkOr_den, mkNot_den] at h1
        refine .inr (.inr ⟨Φ', _, hk', h2, ?_⟩)
        by_cases hdt : (red Φ e).den ρ = true
        · rw [hdt] at h1
          refine .inl ⟨yes hdt, _, r, assume_ok _ true Φ hdt hk, quiet_ok hq (by simpa using h1), ?_⟩
          simp only [X.den, hdt, if_true]
        · have hdf : (red Φ e).den ρ = false := Bool.eq_false_iff.2 hdt
          refine .inr ⟨no hdf, ?_⟩
          simp only [X.den, hdf]; rfl
      · simp only [T.sel] at h
        by_cases hdt : (red Φ e).den ρ = true
        · rw [if_pos hdt] at h
          have hk1 := assume_ok _ true Φ hdt hk
          obtain ⟨Φ', p, hk', h1, h2⟩ := T.sel_bind _ hk1 h
          exact .inl ⟨yes hdt, _, Φ', p.1, p.2, hk1, hk', h1, h2⟩
        · rw [if_neg hdt] at h
          have hdf : (red Φ e).den ρ = false := Bool.eq_false_iff.2 hdt
          exact .inr (.inl ⟨no hdf, _, assume_ok _ false Φ hdf hk, h⟩)
  · cases h
def goX (ti : Nat → Option TI) (call : CallF) (ms : List Nat) (ops : List Oper) : List Oper → Facts → XS → T XS
  | [], _, σ => .ret σ
  | o :: l, Φ, σ =>
    let run : Facts → T (X × XDl) := fun Φ => lab o.pos (doX ti call σ.nx (o.dst.any ms.contains) (tgetX σ.t) σ.h Φ o.op)
    let go : Facts → X → XDl → T XS := fun Φ r d => goX ti call ms ops l Φ ⟨tputX o.dst r σ.t, hapX d σ.h, σ.nx + 1⟩
    match o.guard with
    | none => (run Φ).bind Φ fun Φ p => go Φ p.1 p.2
    | some (j, want) => guardX Φ (yvX ops (tgetX σ.t) j) want run go (fun Φ => goX ti call ms ops l Φ ⟨tputX o.dst (.k undef) σ.t, σ.h, σ.nx⟩) (fun Φ y => goX ti call ms ops l Φ ⟨tputX o.dst y σ.t, σ.h, σ.nx + 1⟩)
theorem Rel.nx {E : Aw.Env} {t : Tp} {h : Hp} {n n' : Nat} {a : Act} {w : World} (hn : n ≤ n') (hr : Rel E ⟨t, h, n⟩ a w) : Rel E ⟨t, h, n'⟩ a w := by
  obtain ⟨C, rfl, hC⟩ := hr
  exact ⟨C, rfl, hC.heap, hC.t, hC.size, hC.defers, fun m hm => Nat.lt_of_lt_of_le (hC.kn m hm) hn, hC.frame⟩
theorem goX_sound {P : Program} {ρ : Rho} {E : Env} {ti : Nat → Option TI} (hti : TIs.ok P ti) {call : CallF} (hcall : CallOk P ρ call) {ms : List Nat} {ops : List Oper} {Q : Exit → Act → World → Prop} {σ' : XS} (hQ : ∀ a w, Rel E (σ'.den ρ) a w → Q .normal a w) :
    ∀ (l : List Oper) (Φ : Facts) (σ : XS) (a : Act) (w : World), Facts.ok ρ Φ → fits E.N l = true → (goX ti call ms ops l Φ σ).sel ρ = some σ' → Rel E (σ.den ρ) a w → wpList P ops.toArray Q l a w
  | [], Φ, σ, a, w, _, _, h, hr => by
    cases h; exact hQ a w hr
  | o :: l, Φ, σ, a, w, hk, hfit, h, hr => by
    obtain ⟨hd, hfit'⟩ := fits_cons hfit
    obtain ⟨C, rfl, hC⟩ := hr
    have hg : ∀ i, (tgetX σ.t i).den ρ = tget (denT ρ σ.t) i := fun i => (tget_denT ρ i σ.t).symm
    have stepped : ∀ Φ0 Φ r d, Facts.ok ρ Φ0 → Facts.ok ρ Φ → (lab o.pos (doX ti call σ.nx (o.dst.any ms.contains) (tgetX σ.t) σ.h Φ0 o.op)).sel ρ = some (r, d) → ∀ y : X, y.den ρ = r.den ρ →
        (goX ti call ms ops l Φ ⟨tputX o.dst y σ.t, hapX d σ.h, σ.nx + 1⟩).sel ρ = some σ' → Region.wanted o (yielded ops.toArray a.tmps) = true → wpList P ops.toArray Q (o :: l) a C.w := by
      intro Φ0 Φ r d hk0 hk h1 y hyr h2 hw
      rw [sel_lab] at h1
      have hy := doX_yields hti hcall hg hk0 h1
      unfold wpList
      rw [if_pos hw]
      refine .inl (hy C a o _ _ rfl hC.heap hC.t (fun k hkn => absurd (hC.kn _ hkn) (by simp [XS.den])) fun u C' hp => ?_)
      refine goX_sound hti hcall hQ l Φ _ _ _ hk hfit' h2 ⟨C', rfl, ?_⟩
      have := hC.step hp hd
      simp only [XS.den, denT_put, denH_hap, hyr] at this ⊢
      exact this
    have skipped : ∀ Φ (y : X) n, σ.nx ≤ n → Facts.ok ρ Φ → y.den ρ = .sc undef → (goX ti call ms ops l Φ ⟨tputX o.dst y σ.t, σ.h, n⟩).sel ρ = some σ' → Region.wanted o (yielded ops.toArray a.tmps) = false → wpList P ops.toArray Q (o :: l) a C.w := by
      intro Φ y n hn hk hy hs hw
      unfold wpList
      rw [if_neg (by rw [hw]; simp)]
      refine goX_sound hti hcall hQ l Φ _ _ _ hk hfit' hs ?_
      have := hC.skip (dst := o.dst) hd
      simp only [XS.den, denT_put, hy] at this ⊢
      exact Rel.nx hn ⟨C, rfl, this⟩
    unfold goX at h
    cases hgd : o.guard with
    | none =>
      rw [hgd] at h
      obtain ⟨Φ', p, hk', h1, h2⟩ := T.sel_bind _ hk h
      exact stepped Φ Φ' p.1 p.2 hk hk' h1 p.1 rfl h2 (by simp [Region.wanted, hgd])
    | some jw =>
      obtain ⟨j, want⟩ := jw
      rw [hgd] at h
      obtain ⟨y1, y2⟩ := yielded_conc hC.t ops j
      have hyv := yvX_den (ρ := ρ) (ops := ops) hg j
      have wyes : (yvX ops (tgetX σ.t) j).den ρ = .sc (.bool want) → Region.wanted o (yielded ops.toArray a.tmps) = true := fun hh => by
        rw [hyv] at hh; simp [Region.wanted, hgd, y1 _ hh]
      have wno : ((∃ b, (yvX ops (tgetX σ.t) j).den ρ = .sc (.bool b) ∧ b ≠ want) ∨ ∃ x, (yvX ops (tgetX σ.t) j).den ρ = .sc (.tuple x)) → Region.wanted o (yielded ops.toArray a.tmps) = false := fun hh => by
        rw [hyv] at hh
        rcases hh with ⟨b, h1, hb⟩ | ⟨x, h1⟩
        · simp [Region.wanted, hgd, y1 _ h1, hb]
        · simp [Region.wanted, hgd, y2 _ h1]
      rcases sel_guardX hk h with ⟨hv, Φ0, Φ', r, d, hk0, hk', h1, h2⟩ | ⟨hv, Φ', hk', h2⟩ | ⟨Φ', y, hk', h2, hq⟩
      · exact stepped Φ0 Φ' r d hk0 hk' h1 r rfl h2 (wyes hv)
      · exact skipped Φ' (.k undef) σ.nx (Nat.le_refl _) hk' rfl h2 (wno hv)
      · rcases hq with ⟨hv, Φ0, r, hk0, h1, hyr⟩ | ⟨hv, hyu⟩
        · exact stepped Φ0 Φ' r [] hk0 hk' h1 y hyr h2 (wyes hv)
        · exact skipped Φ' y (σ.nx + 1) (Nat.le_succ _) hk' hyu h2 (wno hv)

/-! ### In an order that is drawn -/
structure XEn where
  dst : Option Tmp
  r : X
  d : XDl
  ms : Nat
def XEn.den (ρ : Rho) (e : XEn) : En := ⟨e.dst, e.r.den ρ, denD ρ e.d, e.ms⟩
def denEn (ρ : Rho) (es : List XEn) : List En := es.map (XEn.den ρ)
def dstIs (d : Option Tmp) (x : Nat) : Bool := match d with | some d => Nat.beq d x | none => false
theorem dstIs_iff {d : Option Tmp} {x : Nat} : dstIs d x = true ↔ d = some x := by
  cases d with
  | none => simp [dstIs]
  | some d => simp [dstIs]
/-- What a slot holds, of what has been done as far as A tells. -/
def viewX (A : Nat → Bool) (base : Nat → X) : List XEn → Nat → X
  | [], x => base x
  | e :: es, x => if dstIs e.dst x = true then (if A es.length = true then e.r else .top) else viewX A base es x
def baseX' (ops : List Oper) (t0 : XTp) (x : Nat) : X := if ops.any (fun o => dstIs o.dst x) = true then .top else tgetX t0 x
theorem baseX'_den (ρ : Rho) (ops : List Oper) (t0 : XTp) (x : Nat) : (baseX' ops t0 x).den ρ = tget (tdel ops (denT ρ t0)) x := by
  rw [tget_tdel]
  unfold baseX'
  have e : (ops.any fun o => dstIs o.dst x) = (ops.any fun o => o.dst == some x) := by
    congr 1; funext o; rw [Bool.eq_iff_iff, dstIs_iff]; simp
  rw [e]
  split
  · rfl
  · exact (tget_denT ρ x t0).symm
theorem viewX_den {ρ : Rho} {A : Nat → Bool} {base : Nat → X} {t : Tp} (hb : ∀ x, (base x).den ρ = tget t x) : ∀ (es : List XEn) (x : Nat), (viewX A base es x).den ρ = tget (tview A (denEn ρ es) t) x
  | [], x => hb x
  | e :: es, x => by
    have ih := viewX_den (A := A) hb es x
    have hl : (denEn ρ es).length = es.length := by simp [denEn]
    simp only [denEn, List.map_cons, tview, tget_tput, viewX] at ih hl ⊢
    by_cases hd : e.dst = some x
    · rw [if_pos (dstIs_iff.2 hd), if_pos (show (XEn.den ρ e).dst = some x from hd), hl]
      split <;> rfl
    · rw [if_neg (fun h => hd (dstIs_iff.1 h)), if_neg (show ¬ (XEn.den ρ e).dst = some x from hd)]
      exact ih
def hviewX (A : Nat → Bool) : List XEn → XHp → XHp
  | [], h => h
  | e :: es, h => match e.d with
    | [] => hviewX A es h
    | d => if A es.length = true then hapX d (hviewX A es h) else hviewX A es h
theorem hviewX_den {ρ : Rho} {A : Nat → Bool} {h : XHp} : ∀ es : List XEn, denH ρ (hviewX A es h) = hview A (denEn ρ es) (denH ρ h)
  | [] => rfl
  | e :: es => by
    have ih := hviewX_den (ρ := ρ) (A := A) (h := h) es
    have hl : (denEn ρ es).length = es.length := by simp [denEn]
    simp only [denEn, List.map_cons, hview, hviewX] at ih hl ⊢
    rw [hl]
    split
    · rename_i hd
      have : (XEn.den ρ e).d = [] := by simp only [XEn.den, hd, denD, List.map_nil]
      rw [this]
      simp only [hap, ite_self]
      exact ih
    · split
      · rw [denH_hap, ih]; rfl
      · exact ih
def entMkX : List XEn → Nat → Nat
  | [], _ => 0
  | e :: es, j => if Nat.beq j es.length = true then e.ms else entMkX es j
def maskX (es : List XEn) : List Edge → Nat
  | [] => 0
  | e :: l => if Region.binds .any e = true then (2 ^ e.on ||| entMkX es e.on) ||| maskX es l else maskX es l
theorem entMkX_den (ρ : Rho) (j : Nat) : ∀ es : List XEn, entMk (denEn ρ es) j = entMkX es j
  | [] => rfl
  | e :: es => by
    have ih := entMkX_den ρ j es
    have hl : (denEn ρ es).length = es.length := by simp [denEn]
    unfold entMk at ih ⊢
    simp only [denEn, List.map_cons, ent, entMkX] at ih hl ⊢
    rw [hl]
    by_cases hj : j = es.length
    · rw [if_pos hj, if_pos (by simpa using hj)]; rfl
    · rw [if_neg hj, if_neg (by simpa using hj)]; exact ih
theorem maskX_den (ρ : Rho) (es : List XEn) : ∀ l : List Edge, maskE (denEn ρ es) l = maskX es l
  | [] => rfl
  | e :: l => by simp only [maskE, maskX, entMkX_den, maskX_den ρ es l]
def freshX (n : Nat) : XDl → Bool
  | [] => true
  | (m, some _) :: d => Nat.beq m.1 n && freshX n d
  | (_, none) :: _ => false
theorem freshX_den (ρ : Rho) (n : Nat) : ∀ d : XDl, freshD n (denD ρ d) = freshX n d
  | [] => rfl
  | (m, some _) :: d => by
    have ih := freshX_den ρ n d
    simp only [denD, List.map_cons, Option.map_some, freshD, freshX, natbeq] at ih ⊢
    rw [ih]
  | (_, none) :: _ => rfl
def drX (ti : Nat → Option TI) (call : CallF) (ms : List Nat) (ops : List Oper) (nx : Nat) (base : Nat → X) (h0 : XHp) : List Oper → Facts → List XEn → Nat → T (List XEn)
  | [], _, es, _ => .ret es
  | o :: l, Φ, es, bm =>
    let mk := maskX es o.after.toList
    if (Nat.blt mk (2 ^ es.length) && Nat.beq (bm &&& mk) bm) = true then
      let g := viewX mk.testBit base es
      let run : Facts → T (X × XDl) := fun Φ => lab o.pos (doX ti call (nx + es.length) (o.dst.any ms.contains) g (hviewX mk.testBit es h0) Φ o.op)
      let go : Facts → X → XDl → T (List XEn) := fun Φ r d =>
        if freshX (nx + es.length) d = true then drX ti call ms ops nx base h0 l Φ (⟨o.dst, r, d, mk⟩ :: es) bm
        else if Nat.beq (mk + 1) (2 ^ es.length) = true then drX ti call ms ops nx base h0 l Φ (⟨o.dst, r, d, mk⟩ :: es) (bm ||| 2 ^ es.length) else .fail ["write", o.pos]
      match o.guard with
      | none => (run Φ).bind Φ fun Φ p => go Φ p.1 p.2
      | some (j, want) => guardX Φ (yvX ops g j) want run go (fun Φ => drX ti call ms ops nx base h0 l Φ (⟨o.dst, .k undef, [], mk⟩ :: es) bm) (fun Φ y => drX ti call ms ops nx base h0 l Φ (⟨o.dst, y, [], mk⟩ :: es) bm)
    else .fail ["order", o.pos]
theorem drX_walked {P : Program} {ρ : Rho} {ti : Nat → Option TI} (hti : TIs.ok P ti) {call : CallF} (hcall : CallOk P ρ call) {ms : List Nat} {ops : List Oper} {nx : Nat} {base : Nat → X} {t0 : Tp} (hb : ∀ x, (base x).den ρ = tget t0 x) {h0 : XHp} :
    ∀ (l : List Oper) (Φ : Facts) (es : List XEn) (bm : Nat) (es' : List XEn), Facts.ok ρ Φ → (∀ j, l[j]? = ops[es.length + j]?) → Walked P ops nx t0 (denH ρ h0) (denEn ρ es) →
    (∀ j e, ent (denEn ρ es) j = some e → freshD (nx + j) e.d = false → bm.testBit j = true) → (drX ti call ms ops nx base h0 l Φ es bm).sel ρ = some es' → Walked P ops nx t0 (denH ρ h0) (denEn ρ es') ∧ es'.length = es.length + l.length
  | [], Φ, es, bm, es', _, _, hw, _, h => by cases h; exact ⟨hw, by simp⟩
  | o :: l, Φ, es, bm, es', hk, hl, hw, hbm, h => by
    have hlen : (denEn ρ es).length = es.length := by simp [denEn]
    have ho : ops[es.length]? = some o := by have := hl 0; simpa using this.symm
    have hl' : ∀ j, l[j]? = ops[es.length + 1 + j]? := fun j => by
      have := hl (j + 1)
      rw [List.getElem?_cons_succ] at this
      rw [this]; congr 1; omega
    unfold drX at h
    simp only at h
    split at h
    case isFalse => cases h
    rename_i hc
    simp only [Bool.and_eq_true] at hc
    have hlt : maskX es o.after.toList < 2 ^ es.length := by simpa [Nat.blt_eq] using hc.1
    have hbq := Nat.eq_of_beq_eq_true hc.2
    have wait : ∀ j e', ent (denEn ρ es) j = some e' → freshD (nx + j) e'.d = false → (maskX es o.after.toList).testBit j = true := fun j e' he hf => by
      have h1 := hbm j e' he hf
      rw [← hbq, Nat.testBit_and, Bool.and_eq_true] at h1
      exact h1.2
    have hgv : ∀ x, (viewX (maskX es o.after.toList).testBit base es x).den ρ = tget (tview (maskX es o.after.toList).testBit (denEn ρ es) t0) x := fun x => viewX_den hb es x
    -- one operation more
    have goOn : ∀ (r : X) (d : XDl) (bm' : Nat) (Φ : Facts), Facts.ok ρ Φ → Shown P ops nx t0 (denH ρ h0) (denEn ρ es) (XEn.den ρ ⟨o.dst, r, d, maskX es o.after.toList⟩) o →
        (∀ j e, ent (denEn ρ (⟨o.dst, r, d, maskX es o.after.toList⟩ :: es)) j = some e → freshD (nx + j) e.d = false → bm'.testBit j = true) →
        (drX ti call ms ops nx base h0 l Φ (⟨o.dst, r, d, maskX es o.after.toList⟩ :: es) bm').sel ρ = some es' → Walked P ops nx t0 (denH ρ h0) (denEn ρ es') ∧ es'.length = es.length + (o :: l).length := by
      intro r d bm' Φ hk hs hbm' hd
      have hw' : Walked P ops nx t0 (denH ρ h0) (denEn ρ (⟨o.dst, r, d, maskX es o.after.toList⟩ :: es)) := ⟨hw, o, by rw [show (List.map (XEn.den ρ) es).length = es.length from by simp]; exact ho, hs⟩
      obtain ⟨h1, h2⟩ := drX_walked hti hcall hb l Φ _ bm' es' hk hl' hw' hbm' hd
      exact ⟨h1, by rw [h2]; simp; omega⟩
    have fresh' : ∀ (r : X) (d : XDl), freshX (nx + es.length) d = true → ∀ j e, ent (denEn ρ (⟨o.dst, r, d, maskX es o.after.toList⟩ :: es)) j = some e → freshD (nx + j) e.d = false → bm.testBit j = true := by
      intro r d hf j e he hf'
      simp only [denEn, List.map_cons, ent] at he
      split at he
      · rename_i hj
        cases he
        rw [show (List.map (XEn.den ρ) es).length = es.length from by simp] at hj
        subst hj
        simp only [XEn.den] at hf'
        rw [freshX_den, hf] at hf'; cases hf'
      · exact hbm j e he hf'
    have skipped : ∀ Φ (y : X), Facts.ok ρ Φ → y.den ρ = .sc undef → ∀ (j : Nat) (want : Bool), o.guard = some (j, want) → ((∃ b, yv ops (tview (maskX es o.after.toList).testBit (denEn ρ es) t0) j = .sc (.bool b) ∧ b ≠ want) ∨ ∃ x, yv ops (tview (maskX es o.after.toList).testBit (denEn ρ es) t0) j = .sc (.tuple x)) →
        (drX ti call ms ops nx base h0 l Φ (⟨o.dst, y, [], maskX es o.after.toList⟩ :: es) bm).sel ρ = some es' → Walked P ops nx t0 (denH ρ h0) (denEn ρ es') ∧ es'.length = es.length + (o :: l).length := by
      intro Φ y hk hy j want hg hno hd
      refine goOn y [] bm Φ hk ⟨rfl, (maskX_den ρ es _).symm, by rw [hlen]; exact hlt, .inr (.inr ⟨j, want, hg, hno, hy, rfl⟩), .inl rfl, wait⟩ (fresh' _ _ rfl) hd
    have shown : ∀ Φ0 (r y : X) (d : XDl), Facts.ok ρ Φ0 → (o.guard = none ∨ ∃ j want, o.guard = some (j, want) ∧ yv ops (tview (maskX es o.after.toList).testBit (denEn ρ es) t0) j = .sc (.bool want)) →
        (lab o.pos (doX ti call (nx + es.length) (o.dst.any ms.contains) (viewX (maskX es o.after.toList).testBit base es) (hviewX (maskX es o.after.toList).testBit es h0) Φ0 o.op)).sel ρ = some (r, d) → y.den ρ = r.den ρ →
        (freshX (nx + es.length) d = true ∨ maskX es o.after.toList + 1 = 2 ^ es.length) → Shown P ops nx t0 (denH ρ h0) (denEn ρ es) (XEn.den ρ ⟨o.dst, y, d, maskX es o.after.toList⟩) o := by
      intro Φ0 r y d hk0 hgd h1 hyr hf
      rw [sel_lab] at h1
      have hy := doX_yields hti hcall hgv hk0 h1
      rw [hviewX_den, ← hyr] at hy
      have hy' : (o.guard = none ∧ Aw.Yields P (nx + (denEn ρ es).length) o.op (tview (maskX es o.after.toList).testBit (denEn ρ es) t0) (hview (maskX es o.after.toList).testBit (denEn ρ es) (denH ρ h0)) (y.den ρ) (denD ρ d)) ∨
          (∃ j want b, o.guard = some (j, want) ∧ yv ops (tview (maskX es o.after.toList).testBit (denEn ρ es) t0) j = .sc (.bool b) ∧ b = want ∧ Aw.Yields P (nx + (denEn ρ es).length) o.op (tview (maskX es o.after.toList).testBit (denEn ρ es) t0) (hview (maskX es o.after.toList).testBit (denEn ρ es) (denH ρ h0)) (y.den ρ) (denD ρ d)) := by
        rw [hlen]
        rcases hgd with hg | ⟨j, want, hg, hv⟩
        · exact .inl ⟨hg, hy⟩
        · exact .inr ⟨j, want, want, hg, hv, rfl, hy⟩
      exact ⟨rfl, (maskX_den ρ es _).symm, by rw [hlen]; exact hlt, by
          rcases hy' with h3 | h3
          · exact .inl h3
          · exact .inr (.inl h3), by rw [hlen]; simpa only [XEn.den, freshX_den] using hf, wait⟩
    have ran : ∀ Φ0 Φ (r : X) (d : XDl), Facts.ok ρ Φ0 → Facts.ok ρ Φ → (o.guard = none ∨ ∃ j want, o.guard = some (j, want) ∧ yv ops (tview (maskX es o.after.toList).testBit (denEn ρ es) t0) j = .sc (.bool want)) →
        (lab o.pos (doX ti call (nx + es.length) (o.dst.any ms.contains) (viewX (maskX es o.after.toList).testBit base es) (hviewX (maskX es o.after.toList).testBit es h0) Φ0 o.op)).sel ρ = some (r, d) →
        (if freshX (nx + es.length) d = true then drX ti call ms ops nx base h0 l Φ (⟨o.dst, r, d, maskX es o.after.toList⟩ :: es) bm
          else if Nat.beq (maskX es o.after.toList + 1) (2 ^ es.length) = true then drX ti call ms ops nx base h0 l Φ (⟨o.dst, r, d, maskX es o.after.toList⟩ :: es) (bm ||| 2 ^ es.length) else .fail ["write", o.pos]).sel ρ = some es' →
        Walked P ops nx t0 (denH ρ h0) (denEn ρ es') ∧ es'.length = es.length + (o :: l).length := by
      intro Φ0 Φ r d hk0 hk hgd h1 h2
      split at h2
      · rename_i hf
        exact goOn r d bm Φ hk (shown Φ0 r r d hk0 hgd h1 rfl (.inl hf)) (fresh' r d hf) h2
      · split at h2
        · rename_i hf hm
          have hm := Nat.eq_of_beq_eq_true hm
          refine goOn r d (bm ||| 2 ^ es.length) Φ hk (shown Φ0 r r d hk0 hgd h1 rfl (.inr hm)) (fun j e he hf' => ?_) h2
          rw [Nat.testBit_or]
          simp only [denEn, List.map_cons, ent] at he
          split at he
          · rename_i hj
            rw [show (List.map (XEn.den ρ) es).length = es.length from by simp] at hj
            subst hj; rw [Nat.testBit_two_pow_self, Bool.or_true]
          · rw [hbm j e he hf']; rfl
        · cases h2
    cases hg : o.guard with
    | none =>
      rw [hg] at h
      obtain ⟨Φ', p, hk', h1, h2⟩ := T.sel_bind _ hk h
      exact ran Φ Φ' p.1 p.2 hk hk' (.inl hg) h1 h2
    | some jw =>
      obtain ⟨j, want⟩ := jw
      rw [hg] at h
      have hyv := yvX_den (ρ := ρ) (ops := ops) hgv j
      rcases sel_guardX hk h with ⟨hv, Φ0, Φ', r, d, hk0, hk', h1, h2⟩ | ⟨hv, Φ', hk', h2⟩ | ⟨Φ', y, hk', h2, hq⟩
      · rw [hyv] at hv
        exact ran Φ0 Φ' r d hk0 hk' (.inr ⟨j, want, hg, hv⟩) h1 h2
      · rw [hyv] at hv
        exact skipped Φ' (.k undef) hk' rfl j want hg hv h2
      · rcases hq with ⟨hv, Φ0, r, hk0, h1, hyr⟩ | ⟨hv, hyu⟩
        · rw [hyv] at hv
          exact goOn y [] bm Φ' hk' (shown Φ0 r y [] hk0 (.inr ⟨j, want, hg, hv⟩) h1 hyr (.inl rfl)) (fresh' y [] rfl) h2
        · rw [hyv] at hv
          exact skipped Φ' y hk' hyu j want hg hv h2
def finT : List XEn → XTp → XTp
  | [], t => t
  | e :: es, t => tputX e.dst e.r (finT es t)
def drawX (ti : Nat → Option TI) (call : CallF) (ms : List Nat) (ops : List Oper) (Φ : Facts) (σ : XS) : T XS :=
  (drX ti call ms ops σ.nx (baseX' ops σ.t) σ.h ops Φ [] 0).map fun es => ⟨finT es σ.t, hviewX (fun _ => true) es σ.h, σ.nx + ops.length⟩
end Go.Proofs.Xw
