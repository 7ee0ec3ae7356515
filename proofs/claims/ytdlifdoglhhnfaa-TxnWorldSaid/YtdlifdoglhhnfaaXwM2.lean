/- Parts of the logic that the proof runs in, one behind the other. -/
import Derived.Test.YtdlifdoglhhnfaaXwM1
import Derived.Test.YtdlifdoglhhnfaaAwM2
import Derived.ChangeReads
import Derived.ChangeShapes
import Derived.RowKit
import Derived.RowKit3
/- Symbolic runs, part 8: regions. -/
namespace Go.Proofs.Xw
open Go Go.Proofs.Aw

/-! ### Calls, and one operation with them -/
abbrev CallF := Nat → FuncId → List X → XHp → Facts → T (X × XDl)
def CallOk (P : Program) (ρ : Rho) (call : CallF) : Prop := ∀ n f args h Φ r d, Facts.ok ρ Φ → (call n f args h Φ).sel ρ = some (r, d) → hasBody P f = true ∧ CY P n f (X.denL ρ args) (denH ρ h) (r.den ρ) (denD ρ d)
def doX (ti : Nat → Option TI) (call : CallF) (n : Nat) (mu : Bool) (g : Nat → X) (h : XHp) (Φ : Facts) (op : Op) : T (X × XDl) :=
  (stepX ti n mu (fun i => strip Φ (g i)) h Φ op).bind Φ fun Φ a => match a with
    | .ok r d => .ret (r, d)
    | .call f args => call n f args h Φ
theorem doX_yields {P : Program} {ρ : Rho} {ti : Nat → Option TI} (hti : TIs.ok P ti) {call : CallF} (hcall : CallOk P ρ call) {n : Nat} {mu : Bool} {g : Nat → X} {t : Tp} (hg : ∀ i, (g i).den ρ = tget t i) {h : XHp} {Φ : Facts} (hk : Facts.ok ρ Φ) {op : Op} {r : X} {d : XDl}
    (hs : (doX ti call n mu g h Φ op).sel ρ = some (r, d)) : Aw.Yields P n op t (denH ρ h) (r.den ρ) (denD ρ d) := by
  obtain ⟨Φ', a, hk', h1, h2⟩ := T.sel_bind _ hk hs
  have hsh := stepX_shows hti (g := fun i => strip Φ (g i)) (fun i => (strip_den hk (g i)).trans (hg i)) hk h1
  cases a with
  | ok r' d' => cases h2; exact hsh
  | call f args =>
    obtain ⟨hb, hcy⟩ := hcall _ _ _ _ _ _ _ hk' h2
    obtain ⟨r', d', hy, h3, h4⟩ := stepK_sound (stepN_call (K := fun a b => a = r.den ρ ∧ b = denD ρ d) hsh ⟨_, _, hb, hcy, rfl, rfl⟩)
    subst h3 h4; exact hy

/-! ### States -/
structure XS where
  t : XTp
  h : XHp
  nx : Nat
def XS.den (ρ : Rho) (σ : XS) : St := ⟨denT ρ σ.t, denH ρ σ.h, σ.nx⟩
def yvX (ops : List Oper) (g : Nat → X) (j : Nat) : X :=
  match (ops[j]?).bind (·.dst) with
  | some d => g d
  | none => .top
theorem yvX_den {ρ : Rho} {ops : List Oper} {g : Nat → X} {t : Tp} (hg : ∀ i, (g i).den ρ = tget t i) (j : Nat) : (yvX ops g j).den ρ = yv ops t j := by
  unfold yvX yv
  split
  · rename_i d h; rw [h]; exact hg d
  · rename_i h; rw [h]; rfl

/-! ### In the order of the text -/
/-- One way alone, and nothing written. -/
def quiet : T (X × XDl) → Option (BE × X)
  | .ret (r, []) => some (.lit true, r)
  | .need p (.ret (r, [])) => some (p, r)
  | _ => none
theorem quiet_ok {ρ : Rho} {t : T (X × XDl)} {p : BE} {r : X} (h : quiet t = some (p, r)) (hp : p.den ρ = true) : t.sel ρ = some (r, []) := by
  unfold quiet at h
  split at h
  · cases h; rfl
  · cases h; simp only [T.sel, hp, if_true]
  · cases h
/-- When a guarded operation is run. -/
def whenX (want' : Bool) : X → Option BE
  | .sc (.b c) => some (if want' = true then c else mkNot c)
  | .gd d (.sc (.b c)) => some (mkAnd d (if want' = true then c else mkNot c))
  | .k (.tuple _) => some (.lit false)
  | _ => none
theorem whenX_den {ρ : Rho} {want' : Bool} {v : X} {e : BE} (h : whenX want' v = some e) : (e.den ρ = true → v.den ρ = .sc (.bool want')) ∧ (e.den ρ = false → (∃ b, v.den ρ = .sc (.bool b) ∧ b ≠ want') ∨ ∃ x, v.den ρ = .sc (.tuple x)) := by
  have ew : ∀ c : BE, (if want' = true then c else mkNot c).den ρ = (c.den ρ == want') := fun c => by
    cases want' with
    | true => rw [if_pos rfl]; cases BE.den ρ c <;> rfl
    | false => rw [if_neg (by simp), mkNot_den]; cases BE.den ρ c <;> rfl
  unfold whenX at h
  split at h
  · rename_i c
    cases h
    rw [ew]
    refine ⟨fun hh => ?_, fun hh => .inl ⟨c.den ρ, rfl, by simpa using hh⟩⟩
    simp only [beq_iff_eq] at hh
    simp only [X.den, Sc.den, hh]
  · rename_i d c
    cases h
    rw [mkAnd_den, ew]
    simp only [X.den, Sc.den]
    cases hd : d.den ρ with
    | true =>
      refine ⟨fun hh => ?_, fun hh => .inl ⟨c.den ρ, rfl, by simpa using hh⟩⟩
      simp only [Bool.true_and, beq_iff_eq] at hh
      simp only [if_true, hh]
    | false => exact ⟨fun hh => by simp at hh, fun _ => .inr ⟨#[], rfl⟩⟩
  · rename_i x
    cases h
    exact ⟨fun hh => by simp [BE.den] at hh, fun _ => .inr ⟨x, rfl⟩⟩
  · cases h
def guardX {α : Type} (Φ : Facts) (v : X) (want' : Bool) (run : Facts → T (X × XDl)) (go : Facts → X → XDl → T α) (skip : Facts → T α) (both : Facts → X → T α) : T α :=
  match whenX want' v with
  | some e => match red Φ e with
    | .lit true => (run Φ).bind Φ fun Φ p => go Φ p.1 p.2
    | .lit false => skip Φ
    | d => match quiet (run (assume d true Φ)) with
      | some (p, r) => want Φ (mkOr (mkNot d) p) fun Φ => both Φ (.gd d r)
      | none => .br d ((run (assume d true Φ)).bind (assume d true Φ) fun Φ p => go Φ p.1 p.2) (skip (assume d false Φ))
  | none => .fail ["guard"]
theorem sel_guardX {α : Type} {ρ : Rho} {Φ : Facts} {v : X} {want' : Bool} {run : Facts → T (X × XDl)} {go : Facts → X → XDl → T α} {skip : Facts → T α} {both : Facts → X → T α} {a : α} (hk : Facts.ok ρ Φ) (h : (guardX Φ v want' run go skip both).sel ρ = some a) :
    (v.den ρ = .sc (.bool want') ∧ ∃ Φ0 Φ' r d, Facts.ok ρ Φ0 ∧ Facts.ok ρ Φ' ∧ (run Φ0).sel ρ = some (r, d) ∧ (go Φ' r d).sel ρ = some a) ∨
    (((∃ b, v.den ρ = .sc (.bool b) ∧ b ≠ want') ∨ ∃ x, v.den ρ = .sc (.tuple x)) ∧ ∃ Φ', Facts.ok ρ Φ' ∧ (skip Φ').sel ρ = some a) ∨
    (∃ Φ' y, Facts.ok ρ Φ' ∧ (both Φ' y).sel ρ = some a ∧ ((v.den ρ = .sc (.bool want') ∧ ∃ Φ0 r, Facts.ok ρ Φ0 ∧ (run Φ0).sel ρ = some (r, []) ∧ y.den ρ = r.den ρ) ∨ (((∃ b, v.den ρ = .sc (.bool b) ∧ b ≠ want') ∨ ∃ x, v.den ρ = .sc (.tuple x)) ∧ y.den ρ = .sc undef))) := by
  unfold guardX at h
  split at h
  · rename_i e hw
    obtain ⟨yes, no⟩ := whenX_den (ρ := ρ) hw
    have hr := red_den hk e
    rw [← hr] at yes no
    split at h
    · rename_i hd
      rw [hd] at yes
      obtain ⟨Φ', p, hk', h1, h2⟩ := T.sel_bind _ hk h
      exact .inl ⟨yes rfl, Φ, Φ', p.1, p.2, hk, hk', h1, h2⟩
    · rename_i hd
      rw [hd] at no
      exact .inr (.inl ⟨no rfl, Φ, hk, h⟩)
    · rename_i d hd1 hd2
      split at h
      · rename_i p r hq
        obtain ⟨Φ', hk', h1, h2⟩ := sel_want hk h
        rw [mkOr_den, mkNot_den] at h1
        refine .inr (.inr ⟨Φ', _, hk', h2, ?_⟩)
        by_cases hdt : (red Φ e).den ρ = true
        · rw [hdt] at h1
          refine .inl ⟨yes hdt, _, r, assume_ok _ true Φ hdt hk, quiet_ok hq (by simpa using h1), ?_⟩
          simp only [X.den, hdt, if_true]
        · have hdf : (red Φ e).den ρ = false := Bool.eq_false_iff.2 hdt
          refine .inr ⟨no hdf, ?_⟩
          simp only [X.den, hdf]; rfl
      · simp only [T.sel] at h
        by_cases hdt : (red Φ e).den ρ = true
        · rw [if_pos hdt] at h
          have hk1 := assume_ok _ true Φ hdt hk
          obtain ⟨Φ', p, hk', h1, h2⟩ := T.sel_bind _ hk1 h
          exact .inl ⟨yes hdt, _, Φ', p.1, p.2, hk1, hk', h1, h2⟩
        · rw [if_neg hdt] at h
          have hdf : (red Φ e).den ρ = false := Bool.eq_false_iff.2 hdt
          exact .inr (.inl ⟨no hdf, _, assume_ok _ false Φ hdf hk, h⟩)
  · cases h
def goX (ti : Nat → Option TI) (call : CallF) (ms : List Nat) (ops : List Oper) : List Oper → Facts → XS → T XS
  | [], _, σ => .ret σ
  | o :: l, Φ, σ =>
    let run : Facts → T (X × XDl) := fun Φ => lab o.pos (doX ti call σ.nx (o.dst.any ms.contains) (tgetX σ.t) σ.h Φ o.op)
    let go : Facts → X → XDl → T XS := fun Φ r d => goX ti call ms ops l Φ ⟨tputX o.dst r σ.t, hapX d σ.h, σ.nx + 1⟩
    match o.guard with
    | none => (run Φ).bind Φ fun Φ p => go Φ p.1 p.2
    | some (j, want) => guardX Φ (yvX ops (tgetX σ.t) j) want run go (fun Φ => goX ti call ms ops l Φ ⟨tputX o.dst (.k undef) σ.t, σ.h, σ.nx⟩) (fun Φ y => goX ti call ms ops l Φ ⟨tputX o.dst y σ.t, σ.h, σ.nx + 1⟩)
theorem Rel.nx {E : Aw.Env} {t : Tp} {h : Hp} {n n' : Nat} {a : Act} {w : World} (hn : n ≤ n') (hr : Rel E ⟨t, h, n⟩ a w) : Rel E ⟨t, h, n'⟩ a w := by
  obtain ⟨C, rfl, hC⟩ := hr
  exact ⟨C, rfl, hC.heap, hC.t, hC.size, hC.defers, fun m hm => Nat.lt_of_lt_of_le (hC.kn m hm) hn, hC.frame⟩
theorem goX_sound {P : Program} {ρ : Rho} {E : Env} {ti : Nat → Option TI} (hti : TIs.ok P ti) {call : CallF} (hcall : CallOk P ρ call) {ms : List Nat} {ops : List Oper} {Q : Exit → Act → World → Prop} {σ' : XS} (hQ : ∀ a w, Rel E (σ'.den ρ) a w → Q .normal a w) :
    ∀ (l : List Oper) (Φ : Facts) (σ : XS) (a : Act) (w : World), Facts.ok ρ Φ → fits E.N l = true → (goX ti call ms ops l Φ σ).sel ρ = some σ' → Rel E (σ.den ρ) a w → wpList P ops.toArray Q l a w
  | [], Φ, σ, a, w, _, _, h, hr => by
    cases h; exact hQ a w hr
  | o :: l, Φ, σ, a, w, hk, hfit, h, hr => by
    obtain ⟨hd, hfit'⟩ := fits_cons hfit
    obtain ⟨C, rfl, hC⟩ := hr
    have hg : ∀ i, (tgetX σ.t i).den ρ = tget (denT ρ σ.t) i := fun i => (tget_denT ρ i σ.t).symm
    have stepped : ∀ Φ0 Φ r d, Facts.ok ρ Φ0 → Facts.ok ρ Φ → (lab o.pos (doX ti call σ.nx (o.dst.any ms.contains) (tgetX σ.t) σ.h Φ0 o.op)).sel ρ = some (r, d) → ∀ y : X, y.den ρ = r.den ρ →
        (goX ti call ms ops l Φ ⟨tputX o.dst y σ.t, hapX d σ.h, σ.nx + 1⟩).sel ρ = some σ' → Region.wanted o (yielded ops.toArray a.tmps) = true → wpList P ops.toArray Q (o :: l) a C.w := by
      intro Φ0 Φ r d hk0 hk h1 y hyr h2 hw
      rw [sel_lab] at h1
      have hy := doX_yields hti hcall hg hk0 h1
      unfold wpList
      rw [if_pos hw]
      refine .inl (hy C a o _ _ rfl hC.heap hC.t (fun k hkn => absurd (hC.kn _ hkn) (by simp [XS.den])) fun u C' hp => ?_)
      refine goX_sound hti hcall hQ l Φ _ _ _ hk hfit' h2 ⟨C', rfl, ?_⟩
      have := hC.step hp hd
      simp only [XS.den, denT_put, denH_hap, hyr] at this ⊢
      exact this
    have skipped : ∀ Φ (y : X) n, σ.nx ≤ n → Facts.ok ρ Φ → y.den ρ = .sc undef → (goX ti call ms ops l Φ ⟨tputX o.dst y σ.t, σ.h, n⟩).sel ρ = some σ' → Region.wanted o (yielded ops.toArray a.tmps) = false → wpList P ops.toArray Q (o :: l) a C.w := by
      intro Φ y n hn hk hy hs hw
      unfold wpList
      rw [if_neg (by rw [hw]; simp)]
      refine goX_sound hti hcall hQ l Φ _ _ _ hk hfit' hs ?_
      have := hC.skip (dst := o.dst) hd
      simp only [XS.den, denT_put, hy] at this ⊢
      exact Rel.nx hn ⟨C, rfl, this⟩
    unfold goX at h
    cases hgd : o.guard with
    | none =>
      rw [hgd] at h
      obtain ⟨Φ', p, hk', h1, h2⟩ := T.sel_bind _ hk h
      exact stepped Φ Φ' p.1 p.2 hk hk' h1 p.1 rfl h2 (by simp [Region.wanted, hgd])
    | some jw =>
      obtain ⟨j, want⟩ := jw
      rw [hgd] at h
      obtain ⟨y1, y2⟩ := yielded_conc hC.t ops j
      have hyv := yvX_den (ρ := ρ) (ops := ops) hg j
      have wyes : (yvX ops (tgetX σ.t) j).den ρ = .sc (.bool want) → Region.wanted o (yielded ops.toArray a.tmps) = true := fun hh => by
        rw [hyv] at hh; simp [Region.wanted, hgd, y1 _ hh]
      have wno : ((∃ b, (yvX ops (tgetX σ.t) j).den ρ = .sc (.bool b) ∧ b ≠ want) ∨ ∃ x, (yvX ops (tgetX σ.t) j).den ρ = .sc (.tuple x)) → Region.wanted o (yielded ops.toArray a.tmps) = false := fun hh => by
        rw [hyv] at hh
        rcases hh with ⟨b, h1, hb⟩ | ⟨x, h1⟩
        · simp [Region.wanted, hgd, y1 _ h1, hb]
        · simp [Region.wanted, hgd, y2 _ h1]
      rcases sel_guardX hk h with ⟨hv, Φ0, Φ', r, d, hk0, hk', h1, h2⟩ | ⟨hv, Φ', hk', h2⟩ | ⟨Φ', y, hk', h2, hq⟩
      · exact stepped Φ0 Φ' r d hk0 hk' h1 r rfl h2 (wyes hv)
      · exact skipped Φ' (.k undef) σ.nx (Nat.le_refl _) hk' rfl h2 (wno hv)
      · rcases hq with ⟨hv, Φ0, r, hk0, h1, hyr⟩ | ⟨hv, hyu⟩
        · exact stepped Φ0 Φ' r [] hk0 hk' h1 y hyr h2 (wyes hv)
        · exact skipped Φ' y (σ.nx + 1) (Nat.le_succ _) hk' hyu h2 (wno hv)

/-! ### In an order that is drawn -/
structure XEn where
  dst : Option Tmp
  r : X
  d : XDl
  ms : Nat
def XEn.den (ρ : Rho) (e : XEn) : En := ⟨e.dst, e.r.den ρ, denD ρ e.d, e.ms⟩
def denEn (ρ : Rho) (es : List XEn) : List En := es.map (XEn.den ρ)
def dstIs (d : Option Tmp) (x : Nat) : Bool := match d with | some d => Nat.beq d x | none => false
theorem dstIs_iff {d : Option Tmp} {x : Nat} : dstIs d x = true ↔ d = some x := by
  cases d with
  | none => simp [dstIs]
  | some d => simp [dstIs]
/-- What a slot holds, of what has been done as far as A tells. -/
def viewX (A : Nat → Bool) (base : Nat → X) : List XEn → Nat → X
  | [], x => base x
  | e :: es, x => if dstIs e.dst x = true then (if A es.length = true then e.r else .top) else viewX A base es x
def baseX' (ops : List Oper) (t0 : XTp) (x : Nat) : X := if ops.any (fun o => dstIs o.dst x) = true then .top else tgetX t0 x
theorem baseX'_den (ρ : Rho) (ops : List Oper) (t0 : XTp) (x : Nat) : (baseX' ops t0 x).den ρ = tget (tdel ops (denT ρ t0)) x := by
  rw [tget_tdel]
  unfold baseX'
  have e : (ops.any fun o => dstIs o.dst x) = (ops.any fun o => o.dst == some x) := by
    congr 1; funext o; rw [Bool.eq_iff_iff, dstIs_iff]; simp
  rw [e]
  split
  · rfl
  · exact (tget_denT ρ x t0).symm
theorem viewX_den {ρ : Rho} {A : Nat → Bool} {base : Nat → X} {t : Tp} (hb : ∀ x, (base x).den ρ = tget t x) : ∀ (es : List XEn) (x : Nat), (viewX A base es x).den ρ = tget (tview A (denEn ρ es) t) x
  | [], x => hb x
  | e :: es, x => by
    have ih := viewX_den (A := A) hb es x
    have hl : (denEn ρ es).length = es.length := by simp [denEn]
    simp only [denEn, List.map_cons, tview, tget_tput, viewX] at ih hl ⊢
    by_cases hd : e.dst = some x
    · rw [if_pos (dstIs_iff.2 hd), if_pos (show (XEn.den ρ e).dst = some x from hd), hl]
      split <;> rfl
    · rw [if_neg (fun h => hd (dstIs_iff.1 h)), if_neg (show ¬ (XEn.den ρ e).dst = some x from hd)]
      exact ih
def hviewX (A : Nat → Bool) : List XEn → XHp → XHp
  | [], h => h
  | e :: es, h => match e.d with
    | [] => hviewX A es h
    | d => if A es.length = true then hapX d (hviewX A es h) else hviewX A es h
theorem hviewX_den {ρ : Rho} {A : Nat → Bool} {h : XHp} : ∀ es : List XEn, denH ρ (hviewX A es h) = hview A (denEn ρ es) (denH ρ h)
  | [] => rfl
  | e :: es => by
    have ih := hviewX_den (ρ := ρ) (A := A) (h := h) es
    have hl : (denEn ρ es).length = es.length := by simp [denEn]
    simp only [denEn, List.map_cons, hview, hviewX] at ih hl ⊢
    rw [hl]
    split
    · rename_i hd
      have : (XEn.den ρ e).d = [] := by simp only [XEn.den, hd, denD, List.map_nil]
      rw [this]
      simp only [hap, ite_self]
      exact ih
    · split
      · rw [denH_hap, ih]; rfl
      · exact ih
def entMkX : List XEn → Nat → Nat
  | [], _ => 0
  | e :: es, j => if Nat.beq j es.length = true then e.ms else entMkX es j
def maskX (es : List XEn) : List Edge → Nat
  | [] => 0
  | e :: l => if Region.binds .any e = true then (2 ^ e.on ||| entMkX es e.on) ||| maskX es l else maskX es l
theorem entMkX_den (ρ : Rho) (j : Nat) : ∀ es : List XEn, entMk (denEn ρ es) j = entMkX es j
  | [] => rfl
  | e :: es => by
    have ih := entMkX_den ρ j es
    have hl : (denEn ρ es).length = es.length := by simp [denEn]
    unfold entMk at ih ⊢
    simp only [denEn, List.map_cons, ent, entMkX] at ih hl ⊢
    rw [hl]
    by_cases hj : j = es.length
    · rw [if_pos hj, if_pos (by simpa using hj)]; rfl
    · rw [if_neg hj, if_neg (by simpa using hj)]; exact ih
theorem maskX_den (ρ : Rho) (es : List XEn) : ∀ l : List Edge, maskE (denEn ρ es) l = maskX es l
  | [] => rfl
  | e :: l => by simp only [maskE, maskX, entMkX_den, maskX_den ρ es l]
def freshX (n : Nat) : XDl → Bool
  | [] => true
  | (m, some _) :: d => Nat.beq m.1 n && freshX n d
  | (_, none) :: _ => false
theorem freshX_den (ρ : Rho) (n : Nat) : ∀ d : XDl, freshD n (denD ρ d) = freshX n d
  | [] => rfl
  | (m, some _) :: d => by
    have ih := freshX_den ρ n d
    simp only [denD, List.map_cons, Option.map_some, freshD, freshX, natbeq] at ih ⊢
    rw [ih]
  | (_, none) :: _ => rfl
/-- What is ahead of a write and need not be waited for yields the same behind it. -/
def lateX (ti : Nat → Option TI) (call : CallF) (ms : List Nat) (ops : List Oper) (nx : Nat) (base : Nat → X) (h0 : XHp) (Φ : Facts) (all : List XEn) (mk : Nat) : List XEn → Bool
  | [] => true
  | ek :: es => (Nat.testBit mk es.length || (match ops[es.length]?, ek.d with
      | some o, [] => (match o.guard with | none => true | some _ => false) && (match quiet (doX ti call (nx + es.length) (o.dst.any ms.contains) (viewX ((ek.ms ||| mk) ||| 2 ^ (all.length - 1)).testBit base all) (hviewX ((ek.ms ||| mk) ||| 2 ^ (all.length - 1)).testBit all h0) Φ o.op) with
        | some (.lit true, r) => X.beq r ek.r
        | _ => false)
      | _, _ => false)) && lateX ti call ms ops nx base h0 Φ all mk es
def oneD (n : Nat) : XDl → Bool
  | [(_, some _)] => true
  | [(m, none), (q, some _)] => !Nat.beq m.1 n && Nat.beq q.1 n
  | _ => false
def lateOk (ti : Nat → Option TI) (call : CallF) (ms : List Nat) (ops : List Oper) (nx : Nat) (base : Nat → X) (h0 : XHp) (Φ : Facts) (e : XEn) (es : List XEn) : Bool :=
  oneD (nx + es.length) e.d && lateX ti call ms ops nx base h0 Φ (e :: es) e.ms es
theorem lateX_ok {P : Program} {ρ : Rho} {ti : Nat → Option TI} (hti : TIs.ok P ti) {call : CallF} (hcall : CallOk P ρ call) {ms : List Nat} {ops : List Oper} {nx : Nat} {base : Nat → X} {t0 : Tp} (hb : ∀ x, (base x).den ρ = tget t0 x) {h0 : XHp} {Φ : Facts} (hk : Facts.ok ρ Φ) {all : List XEn} {mk : Nat} :
    ∀ (es : List XEn), lateX ti call ms ops nx base h0 Φ all mk es = true → ∀ k ek o, k < es.length → mk.testBit k = false → ent (denEn ρ es) k = some ek → ops[k]? = some o →
      ek.d = [] ∧ YieldsG P ops (nx + k) o (tview ((ek.ms ||| mk) ||| 2 ^ (all.length - 1)).testBit (denEn ρ all) t0) (hview ((ek.ms ||| mk) ||| 2 ^ (all.length - 1)).testBit (denEn ρ all) (denH ρ h0)) ek.r []
  | [], _, k, _, _, hlt, _, _, _ => by simp at hlt
  | e :: es, h, k, ek, o, hlt, hm, he, ho => by
    unfold lateX at h
    rw [Bool.and_eq_true] at h
    obtain ⟨h1, h2⟩ := h
    have hlen : (denEn ρ es).length = es.length := by simp [denEn]
    by_cases hj : k = es.length
    · subst hj
      simp only [denEn, List.map_cons, ent] at he
      rw [if_pos (by simp)] at he
      cases he
      rw [hm, Bool.false_or] at h1
      split at h1
      case h_2 => cases h1
      rename_i o' ho' hd
      rw [ho] at ho'; cases ho'
      rw [Bool.and_eq_true] at h1
      obtain ⟨h3, h4⟩ := h1
      split at h3
      case h_2 => cases h3
      rename_i hg
      split at h4
      case h_2 => cases h4
      rename_i r hq
      refine ⟨by simp only [XEn.den, hd, denD, List.map_nil], .inl ⟨hg, ?_⟩⟩
      have hy := doX_yields hti hcall (fun x => viewX_den hb all x) hk (quiet_ok (ρ := ρ) hq rfl)
      rw [hviewX_den, X.beq_eq _ _ h4] at hy
      exact hy
    · have hlt' : k < es.length := by simp at hlt; omega
      simp only [denEn, List.map_cons, ent] at he
      rw [if_neg (by simpa using hj)] at he
      exact lateX_ok hti hcall hb hk es h2 k ek o hlt' hm he ho
theorem lateOk_ok {P : Program} {ρ : Rho} {ti : Nat → Option TI} (hti : TIs.ok P ti) {call : CallF} (hcall : CallOk P ρ call) {ms : List Nat} {ops : List Oper} {nx : Nat} {base : Nat → X} {t0 : Tp} (hb : ∀ x, (base x).den ρ = tget t0 x) {h0 : XHp} {Φ : Facts} (hk : Facts.ok ρ Φ) {e : XEn} {es : List XEn}
    (h : lateOk ti call ms ops nx base h0 Φ e es = true) : Later P ops nx t0 (denH ρ h0) (denEn ρ es) (XEn.den ρ e) := by
  unfold lateOk at h
  rw [Bool.and_eq_true] at h
  refine ⟨?_, fun k ek o hlt hm he ho => ?_⟩
  · have h1 := h.1
    have hl : (denEn ρ es).length = es.length := by simp [denEn]
    unfold oneD at h1
    split at h1
    · rename_i m cs hd
      exact .inl ⟨m, _, by simp only [XEn.den, hd, denD, List.map_cons, List.map_nil]; rfl⟩
    · rename_i m q cs hd
      simp only [Bool.and_eq_true, Bool.not_eq_true'] at h1
      refine .inr ⟨m, q, _, by simp only [XEn.den, hd, denD, List.map_cons, List.map_nil]; rfl, fun h => ?_, by rw [hl]; exact Nat.eq_of_beq_eq_true h1.2⟩
      rw [hl] at h
      rw [h] at h1
      simp at h1
    · cases h1
  · have := lateX_ok hti hcall hb hk es h.2 k ek o (by simpa [denEn] using hlt) hm he ho
    simpa [denEn, show (XEn.den ρ e).ms = e.ms from rfl] using this
/-- A guard that is decided, and lets by. -/
def gd (Φ : Facts) (x : X) (want : Bool) : Bool := match x with
  | .sc (.b e) => (match red Φ e with
    | .lit b => b == want
    | _ => false)
  | _ => false
theorem gd_ok {ρ : Rho} {Φ : Facts} (hk : Facts.ok ρ Φ) {x : X} {want : Bool} (h : gd Φ x want = true) : x.den ρ = .sc (.bool want) := by
  unfold gd at h
  split at h
  · rename_i e
    have hr := red_den hk e
    split at h
    · rename_i b he
      rw [he] at hr
      simp only [X.den, Sc.den, ← hr, BE.den, beq_iff_eq] at h ⊢
      rw [h]
    · cases h
  · cases h
def gdO (Φ : Facts) (ops : List Oper) (o : Oper) (g : Nat → X) : Bool := match o.guard with
  | none => true
  | some (j, want) => gd Φ (yvX ops g j) want
/-- The guard lets by. -/
def Lets (ops : List Oper) (o : Oper) (t : Tp) : Prop := o.guard = none ∨ ∃ j want, o.guard = some (j, want) ∧ yv ops t j = .sc (.bool want)
theorem gdO_ok {ρ : Rho} {Φ : Facts} (hk : Facts.ok ρ Φ) {ops : List Oper} {o : Oper} {g : Nat → X} {t : Tp} (hg : ∀ i, (g i).den ρ = tget t i) (h : gdO Φ ops o g = true) : Lets ops o t := by
  unfold gdO at h
  split at h
  · rename_i hn; exact .inl hn
  · rename_i j want hn
    refine .inr ⟨j, want, hn, ?_⟩
    rw [← yvX_den hg j]
    exact gd_ok hk h
theorem Lets.yields {P : Program} {ops : List Oper} {n : Nat} {o : Oper} {t : Tp} {h : Hp} {r : AV} {d : Dl} (hl : Lets ops o t) (hy : Aw.Yields P n o.op t h r d) : YieldsG P ops n o t h r d := by
  rcases hl with hl | ⟨j, want, h1, h2⟩
  · exact .inl ⟨hl, hy⟩
  · exact .inr (.inl ⟨j, want, want, h1, h2, rfl, hy⟩)
/-- What only reads yields the same behind each write that it need not wait for. -/
def earlyX (ti : Nat → Option TI) (call : CallF) (ms : List Nat) (ops : List Oper) (o : Oper) (n : Nat) (base : Nat → X) (h0 : XHp) (Φ : Facts) (all : List XEn) (bm mk : Nat) (r : X) : List XEn → Bool
  | [] => true
  | ek :: es => (!(Nat.testBit bm es.length) || (Nat.testBit mk es.length || (gdO Φ ops o (viewX ((mk ||| ek.ms) ||| 2 ^ es.length).testBit base all) && (match quiet (doX ti call n (o.dst.any ms.contains) (viewX ((mk ||| ek.ms) ||| 2 ^ es.length).testBit base all) (hviewX ((mk ||| ek.ms) ||| 2 ^ es.length).testBit all h0) Φ o.op) with
      | some (.lit true, r') => X.beq r' r
      | _ => false)))) && earlyX ti call ms ops o n base h0 Φ all bm mk r es
theorem earlyX_ok {P : Program} {ρ : Rho} {ti : Nat → Option TI} (hti : TIs.ok P ti) {call : CallF} (hcall : CallOk P ρ call) {ms : List Nat} {ops : List Oper} {o : Oper} {n : Nat} {base : Nat → X} {t0 : Tp} (hb : ∀ x, (base x).den ρ = tget t0 x) {h0 : XHp} {Φ : Facts} (hk : Facts.ok ρ Φ) {all : List XEn} {bm mk : Nat} {r : X} :
    ∀ (es : List XEn), earlyX ti call ms ops o n base h0 Φ all bm mk r es = true → ∀ j ej, ent (denEn ρ es) j = some ej → bm.testBit j = true → mk.testBit j = false →
      YieldsG P ops n o (tview ((mk ||| ej.ms) ||| 2 ^ j).testBit (denEn ρ all) t0) (hview ((mk ||| ej.ms) ||| 2 ^ j).testBit (denEn ρ all) (denH ρ h0)) (r.den ρ) []
  | [], _, _, _, he, _, _ => by simp [denEn, ent] at he
  | e :: es, h, j, ej, he, h1, h2 => by
    unfold earlyX at h
    rw [Bool.and_eq_true] at h
    obtain ⟨g1, g2⟩ := h
    simp only [denEn, List.map_cons, ent] at he
    split at he
    · rename_i hj
      rw [show (List.map (XEn.den ρ) es).length = es.length from by simp] at hj
      subst hj
      cases he
      rw [h1, h2, Bool.not_true, Bool.false_or, Bool.false_or, Bool.and_eq_true] at g1
      obtain ⟨g5, g4⟩ := g1
      refine (gdO_ok hk (fun x => viewX_den hb all x) g5).yields ?_
      split at g4
      case h_2 => cases g4
      rename_i r' hq
      have hy := doX_yields hti hcall (fun x => viewX_den hb all x) hk (quiet_ok (ρ := ρ) hq rfl)
      rw [hviewX_den, X.beq_eq _ _ g4] at hy
      exact hy
    · exact earlyX_ok hti hcall hb hk es g2 j ej he h1 h2
def drX (ti : Nat → Option TI) (call : CallF) (ms : List Nat) (ops : List Oper) (nx : Nat) (base : Nat → X) (h0 : XHp) : List Oper → Facts → List XEn → Nat → T (List XEn)
  | [], _, es, _ => .ret es
  | o :: l, Φ, es, bm =>
    let mk := maskX es o.after.toList
    if (Nat.blt mk (2 ^ es.length) && Nat.beq (bm &&& mk) bm) = true then
      let g := viewX mk.testBit base es
      let run : Facts → T (X × XDl) := fun Φ => lab o.pos (doX ti call (nx + es.length) (o.dst.any ms.contains) g (hviewX mk.testBit es h0) Φ o.op)
      let go : Facts → X → XDl → T (List XEn) := fun Φ r d =>
        if freshX (nx + es.length) d = true then drX ti call ms ops nx base h0 l Φ (⟨o.dst, r, d, mk⟩ :: es) bm
        else if Nat.beq (mk + 1) (2 ^ es.length) = true then drX ti call ms ops nx base h0 l Φ (⟨o.dst, r, d, mk⟩ :: es) (bm ||| 2 ^ es.length)
        else if lateOk ti call ms ops nx base h0 Φ ⟨o.dst, r, d, mk⟩ es = true then drX ti call ms ops nx base h0 l Φ (⟨o.dst, r, d, mk⟩ :: es) (bm ||| 2 ^ es.length) else .fail ["write", o.pos]
      match o.guard with
      | none => (run Φ).bind Φ fun Φ p => go Φ p.1 p.2
      | some (j, want) => guardX Φ (yvX ops g j) want run go (fun Φ => drX ti call ms ops nx base h0 l Φ (⟨o.dst, .k undef, [], mk⟩ :: es) bm) (fun Φ y => drX ti call ms ops nx base h0 l Φ (⟨o.dst, y, [], mk⟩ :: es) bm)
    else if Nat.blt mk (2 ^ es.length) = true then
      if gdO Φ ops o (viewX mk.testBit base es) = true then
        match quiet (doX ti call (nx + es.length) (o.dst.any ms.contains) (viewX mk.testBit base es) (hviewX mk.testBit es h0) Φ o.op) with
        | some (.lit true, r) => if earlyX ti call ms ops o (nx + es.length) base h0 Φ es bm mk r es = true then drX ti call ms ops nx base h0 l Φ (⟨o.dst, r, [], mk⟩ :: es) bm else .fail ["order", o.pos]
        | _ => .fail ["order", o.pos]
      else .fail ["order", o.pos]
    else .fail ["order", o.pos]
theorem drX_walked {P : Program} {ρ : Rho} {ti : Nat → Option TI} (hti : TIs.ok P ti) {call : CallF} (hcall : CallOk P ρ call) {ms : List Nat} {ops : List Oper} {nx : Nat} {base : Nat → X} {t0 : Tp} (hb : ∀ x, (base x).den ρ = tget t0 x) {h0 : XHp} :
    ∀ (l : List Oper) (Φ : Facts) (es : List XEn) (bm : Nat) (es' : List XEn), Facts.ok ρ Φ → (∀ j, l[j]? = ops[es.length + j]?) → Walked P ops nx t0 (denH ρ h0) (denEn ρ es) →
    (∀ j e, ent (denEn ρ es) j = some e → freshD (nx + j) e.d = false → bm.testBit j = true) → (drX ti call ms ops nx base h0 l Φ es bm).sel ρ = some es' → Walked P ops nx t0 (denH ρ h0) (denEn ρ es') ∧ es'.length = es.length + l.length
  | [], Φ, es, bm, es', _, _, hw, _, h => by cases h; exact ⟨hw, by simp⟩
  | o :: l, Φ, es, bm, es', hk, hl, hw, hbm, h => by
    have hlen : (denEn ρ es).length = es.length := by simp [denEn]
    have ho : ops[es.length]? = some o := by have := hl 0; simpa using this.symm
    have hl' : ∀ j, l[j]? = ops[es.length + 1 + j]? := fun j => by
      have := hl (j + 1)
      rw [List.getElem?_cons_succ] at this
      rw [this]; congr 1; omega
    unfold drX at h
    simp only at h
    split at h
    case isFalse =>
      split at h
      case isFalse => cases h
      rename_i hc
      have hlt : maskX es o.after.toList < 2 ^ es.length := by simpa [Nat.blt_eq] using hc
      split at h
      case isFalse => cases h
      rename_i hg
      split at h
      case h_2 => cases h
      rename_i r hq
      split at h
      case isFalse => cases h
      rename_i hearly
      have hlets := gdO_ok (ρ := ρ) hk (fun x => viewX_den hb es x) hg
      have hy := doX_yields hti hcall (fun x => viewX_den hb es x) hk (quiet_ok (ρ := ρ) hq rfl)
      rw [hviewX_den] at hy
      have hs : Shown P ops nx t0 (denH ρ h0) (denEn ρ es) (XEn.den ρ ⟨o.dst, r, [], maskX es o.after.toList⟩) o := by
        refine ⟨rfl, (maskX_den ρ es _).symm, by rw [hlen]; exact hlt, ?_, .inl rfl, fun j e' he hf => ?_⟩
        · rcases hlets with hg | ⟨j, want, hg, hv⟩
          · exact .inl ⟨hg, by rw [hlen]; exact hy⟩
          · exact .inr (.inl ⟨j, want, want, hg, hv, rfl, by rw [hlen]; exact hy⟩)
        · cases hj : (maskX es o.after.toList).testBit j with
          | true => exact .inl hj
          | false =>
            exact .inr ⟨rfl, by rw [hlen]; exact earlyX_ok hti hcall hb hk es hearly j e' he (hbm j e' he hf) hj⟩
      have hw' : Walked P ops nx t0 (denH ρ h0) (denEn ρ (⟨o.dst, r, [], maskX es o.after.toList⟩ :: es)) := ⟨hw, o, by rw [show (List.map (XEn.den ρ) es).length = es.length from by simp]; exact ho, hs⟩
      obtain ⟨h1, h2⟩ := drX_walked hti hcall hb l Φ _ bm es' hk hl' hw' (fun j e he hf' => by
        simp only [denEn, List.map_cons, ent] at he
        split at he
        · cases he; cases hf'
        · exact hbm j e he hf') h
      exact ⟨h1, by rw [h2]; simp; omega⟩
    rename_i hc
    simp only [Bool.and_eq_true] at hc
    have hlt : maskX es o.after.toList < 2 ^ es.length := by simpa [Nat.blt_eq] using hc.1
    have hbq := Nat.eq_of_beq_eq_true hc.2
    have wait : ∀ j e', ent (denEn ρ es) j = some e' → freshD (nx + j) e'.d = false → (maskX es o.after.toList).testBit j = true := fun j e' he hf => by
      have h1 := hbm j e' he hf
      rw [← hbq, Nat.testBit_and, Bool.and_eq_true] at h1
      exact h1.2
    have hgv : ∀ x, (viewX (maskX es o.after.toList).testBit base es x).den ρ = tget (tview (maskX es o.after.toList).testBit (denEn ρ es) t0) x := fun x => viewX_den hb es x
    -- one operation more
    have goOn : ∀ (r : X) (d : XDl) (bm' : Nat) (Φ : Facts), Facts.ok ρ Φ → Shown P ops nx t0 (denH ρ h0) (denEn ρ es) (XEn.den ρ ⟨o.dst, r, d, maskX es o.after.toList⟩) o →
        (∀ j e, ent (denEn ρ (⟨o.dst, r, d, maskX es o.after.toList⟩ :: es)) j = some e → freshD (nx + j) e.d = false → bm'.testBit j = true) →
        (drX ti call ms ops nx base h0 l Φ (⟨o.dst, r, d, maskX es o.after.toList⟩ :: es) bm').sel ρ = some es' → Walked P ops nx t0 (denH ρ h0) (denEn ρ es') ∧ es'.length = es.length + (o :: l).length := by
      intro r d bm' Φ hk hs hbm' hd
      have hw' : Walked P ops nx t0 (denH ρ h0) (denEn ρ (⟨o.dst, r, d, maskX es o.after.toList⟩ :: es)) := ⟨hw, o, by rw [show (List.map (XEn.den ρ) es).length = es.length from by simp]; exact ho, hs⟩
      obtain ⟨h1, h2⟩ := drX_walked hti hcall hb l Φ _ bm' es' hk hl' hw' hbm' hd
      exact ⟨h1, by rw [h2]; simp; omega⟩
    have fresh' : ∀ (r : X) (d : XDl), freshX (nx + es.length) d = true → ∀ j e, ent (denEn ρ (⟨o.dst, r, d, maskX es o.after.toList⟩ :: es)) j = some e → freshD (nx + j) e.d = false → bm.testBit j = true := by
      intro r d hf j e he hf'
      simp only [denEn, List.map_cons, ent] at he
      split at he
      · rename_i hj
        cases he
        rw [show (List.map (XEn.den ρ) es).length = es.length from by simp] at hj
        subst hj
        simp only [XEn.den] at hf'
        rw [freshX_den, hf] at hf'; cases hf'
      · exact hbm j e he hf'
    have skipped : ∀ Φ (y : X), Facts.ok ρ Φ → y.den ρ = .sc undef → ∀ (j : Nat) (want : Bool), o.guard = some (j, want) → ((∃ b, yv ops (tview (maskX es o.after.toList).testBit (denEn ρ es) t0) j = .sc (.bool b) ∧ b ≠ want) ∨ ∃ x, yv ops (tview (maskX es o.after.toList).testBit (denEn ρ es) t0) j = .sc (.tuple x)) →
        (drX ti call ms ops nx base h0 l Φ (⟨o.dst, y, [], maskX es o.after.toList⟩ :: es) bm).sel ρ = some es' → Walked P ops nx t0 (denH ρ h0) (denEn ρ es') ∧ es'.length = es.length + (o :: l).length := by
      intro Φ y hk hy j want hg hno hd
      refine goOn y [] bm Φ hk ⟨rfl, (maskX_den ρ es _).symm, by rw [hlen]; exact hlt, .inr (.inr ⟨j, want, hg, hno, hy, rfl⟩), .inl rfl, fun j e' h1 h2 => .inl (wait j e' h1 h2)⟩ (fresh' _ _ rfl) hd
    have shown : ∀ Φ0 (r y : X) (d : XDl), Facts.ok ρ Φ0 → (o.guard = none ∨ ∃ j want, o.guard = some (j, want) ∧ yv ops (tview (maskX es o.after.toList).testBit (denEn ρ es) t0) j = .sc (.bool want)) →
        (lab o.pos (doX ti call (nx + es.length) (o.dst.any ms.contains) (viewX (maskX es o.after.toList).testBit base es) (hviewX (maskX es o.after.toList).testBit es h0) Φ0 o.op)).sel ρ = some (r, d) → y.den ρ = r.den ρ →
        (freshX (nx + es.length) d = true ∨ maskX es o.after.toList + 1 = 2 ^ es.length ∨ Later P ops nx t0 (denH ρ h0) (denEn ρ es) (XEn.den ρ ⟨o.dst, y, d, maskX es o.after.toList⟩)) → Shown P ops nx t0 (denH ρ h0) (denEn ρ es) (XEn.den ρ ⟨o.dst, y, d, maskX es o.after.toList⟩) o := by
      intro Φ0 r y d hk0 hgd h1 hyr hf
      rw [sel_lab] at h1
      have hy := doX_yields hti hcall hgv hk0 h1
      rw [hviewX_den, ← hyr] at hy
      have hy' : (o.guard = none ∧ Aw.Yields P (nx + (denEn ρ es).length) o.op (tview (maskX es o.after.toList).testBit (denEn ρ es) t0) (hview (maskX es o.after.toList).testBit (denEn ρ es) (denH ρ h0)) (y.den ρ) (denD ρ d)) ∨
          (∃ j want b, o.guard = some (j, want) ∧ yv ops (tview (maskX es o.after.toList).testBit (denEn ρ es) t0) j = .sc (.bool b) ∧ b = want ∧ Aw.Yields P (nx + (denEn ρ es).length) o.op (tview (maskX es o.after.toList).testBit (denEn ρ es) t0) (hview (maskX es o.after.toList).testBit (denEn ρ es) (denH ρ h0)) (y.den ρ) (denD ρ d)) := by
        rw [hlen]
        rcases hgd with hg | ⟨j, want, hg, hv⟩
        · exact .inl ⟨hg, hy⟩
        · exact .inr ⟨j, want, want, hg, hv, rfl, hy⟩
      exact ⟨rfl, (maskX_den ρ es _).symm, by rw [hlen]; exact hlt, by
          rcases hy' with h3 | h3
          · exact .inl h3
          · exact .inr (.inl h3), by rw [hlen]; simpa only [XEn.den, freshX_den] using hf, fun j e' h1 h2 => .inl (wait j e' h1 h2)⟩
    have ran : ∀ Φ0 Φ (r : X) (d : XDl), Facts.ok ρ Φ0 → Facts.ok ρ Φ → (o.guard = none ∨ ∃ j want, o.guard = some (j, want) ∧ yv ops (tview (maskX es o.after.toList).testBit (denEn ρ es) t0) j = .sc (.bool want)) →
        (lab o.pos (doX ti call (nx + es.length) (o.dst.any ms.contains) (viewX (maskX es o.after.toList).testBit base es) (hviewX (maskX es o.after.toList).testBit es h0) Φ0 o.op)).sel ρ = some (r, d) →
        (if freshX (nx + es.length) d = true then drX ti call ms ops nx base h0 l Φ (⟨o.dst, r, d, maskX es o.after.toList⟩ :: es) bm
          else if Nat.beq (maskX es o.after.toList + 1) (2 ^ es.length) = true then drX ti call ms ops nx base h0 l Φ (⟨o.dst, r, d, maskX es o.after.toList⟩ :: es) (bm ||| 2 ^ es.length)
          else if lateOk ti call ms ops nx base h0 Φ ⟨o.dst, r, d, maskX es o.after.toList⟩ es = true then drX ti call ms ops nx base h0 l Φ (⟨o.dst, r, d, maskX es o.after.toList⟩ :: es) (bm ||| 2 ^ es.length) else .fail ["write", o.pos]).sel ρ = some es' →
        Walked P ops nx t0 (denH ρ h0) (denEn ρ es') ∧ es'.length = es.length + (o :: l).length := by
      intro Φ0 Φ r d hk0 hk hgd h1 h2
      split at h2
      · rename_i hf
        exact goOn r d bm Φ hk (shown Φ0 r r d hk0 hgd h1 rfl (.inl hf)) (fresh' r d hf) h2
      · have more : ∀ j e, ent (denEn ρ (⟨o.dst, r, d, maskX es o.after.toList⟩ :: es)) j = some e → freshD (nx + j) e.d = false → (bm ||| 2 ^ es.length).testBit j = true := fun j e he hf' => by
          rw [Nat.testBit_or]
          simp only [denEn, List.map_cons, ent] at he
          split at he
          · rename_i hj
            rw [show (List.map (XEn.den ρ) es).length = es.length from by simp] at hj
            subst hj; rw [Nat.testBit_two_pow_self, Bool.or_true]
          · rw [hbm j e he hf']; rfl
        split at h2
        · rename_i hf hm
          have hm := Nat.eq_of_beq_eq_true hm
          exact goOn r d (bm ||| 2 ^ es.length) Φ hk (shown Φ0 r r d hk0 hgd h1 rfl (.inr (.inl hm))) more h2
        · split at h2
          · rename_i hf _ hm
            exact goOn r d (bm ||| 2 ^ es.length) Φ hk (shown Φ0 r r d hk0 hgd h1 rfl (.inr (.inr (lateOk_ok hti hcall hb hk hm)))) more h2
          · cases h2
    cases hg : o.guard with
    | none =>
      rw [hg] at h
      obtain ⟨Φ', p, hk', h1, h2⟩ := T.sel_bind _ hk h
      exact ran Φ Φ' p.1 p.2 hk hk' (.inl hg) h1 h2
    | some jw =>
      obtain ⟨j, want⟩ := jw
      rw [hg] at h
      have hyv := yvX_den (ρ := ρ) (ops := ops) hgv j
      rcases sel_guardX hk h with ⟨hv, Φ0, Φ', r, d, hk0, hk', h1, h2⟩ | ⟨hv, Φ', hk', h2⟩ | ⟨Φ', y, hk', h2, hq⟩
      · rw [hyv] at hv
        exact ran Φ0 Φ' r d hk0 hk' (.inr ⟨j, want, hg, hv⟩) h1 h2
      · rw [hyv] at hv
        exact skipped Φ' (.k undef) hk' rfl j want hg hv h2
      · rcases hq with ⟨hv, Φ0, r, hk0, h1, hyr⟩ | ⟨hv, hyu⟩
        · rw [hyv] at hv
          exact goOn y [] bm Φ' hk' (shown Φ0 r y [] hk0 (.inr ⟨j, want, hg, hv⟩) h1 hyr (.inl rfl)) (fresh' y [] rfl) h2
        · rw [hyv] at hv
          exact skipped Φ' y hk' hyu j want hg hv h2
def finT : List XEn → XTp → XTp
  | [], t => t
  | e :: es, t => tputX e.dst e.r (finT es t)
def drawX (ti : Nat → Option TI) (call : CallF) (ms : List Nat) (ops : List Oper) (Φ : Facts) (σ : XS) : T XS :=
  (drX ti call ms ops σ.nx (baseX' ops σ.t) σ.h ops Φ [] 0).map fun es => ⟨finT es σ.t, hviewX (fun _ => true) es σ.h, σ.nx + ops.length⟩

/-! ### The last operation that waits for all others -/
def splitLast : List Oper → Option (List Oper × Oper)
  | [] => none
  | [o] => some ([], o)
  | p :: q :: l => match splitLast (q :: l) with
    | some (i, o) => some (p :: i, o)
    | none => none
theorem splitLast_eq : ∀ {l i : List Oper} {o : Oper}, splitLast l = some (i, o) → l = i ++ [o]
  | [], _, _, h => by cases h
  | [p], _, _, h => by cases h; rfl
  | p :: q :: l, i, o, h => by
    simp only [splitLast] at h
    split at h
    · rename_i i' o' h1
      cases h
      rw [splitLast_eq h1]; rfl
    · cases h
def edgesLt : Nat → List Oper → Bool
  | _, [] => true
  | n, p :: l => p.after.toList.all (fun ed => !Region.binds .any ed || Nat.blt ed.on n) && edgesLt (n + 1) l
theorem edgesLt_ok : ∀ {l : List Oper} {n : Nat}, edgesLt n l = true → ∀ i p, l[i]? = some p → ∀ ed ∈ p.after, Region.binds .any ed = true → ed.on < n + i
  | [], _, _, i, p, hp => by simp at hp
  | q :: l, n, h, i, p, hp => by
    simp only [edgesLt, Bool.and_eq_true] at h
    intro ed hed hb
    cases i with
    | zero =>
      simp at hp; subst hp
      have := List.all_eq_true.1 h.1 ed (by simpa using hed)
      simpa [hb, Nat.blt_eq] using this
    | succ i =>
      have := edgesLt_ok h.2 i p (by simpa using hp) ed hed hb
      omega
def guardsLt (n : Nat) (l : List Oper) : Bool := l.all fun p => match p.guard with
  | some (j, _) => Nat.blt j n
  | none => true
def coversAll : Nat → List Edge → Bool
  | 0, _ => true
  | n + 1, l => l.any (fun ed => Region.binds .any ed && Nat.beq ed.on n) && coversAll n l
theorem coversAll_ok {l : List Edge} : ∀ {n : Nat}, coversAll n l = true → ∀ j, j < n → ∃ ed ∈ l, Region.binds .any ed = true ∧ ed.on = j
  | 0, _, j, hj => by omega
  | n + 1, h, j, hj => by
    simp only [coversAll, Bool.and_eq_true] at h
    by_cases hjn : j = n
    · subst hjn
      obtain ⟨ed, h1, h2⟩ := List.any_eq_true.1 h.1
      simp only [Bool.and_eq_true] at h2
      exact ⟨ed, h1, h2.1, Nat.eq_of_beq_eq_true h2.2⟩
    · exact coversAll_ok h.2 j (by omega)
def waits (l : List Oper) (o : Oper) : Bool :=
  (match o.guard with | none => true | some _ => false) && (o.after.toList.all (fun ed => !Region.binds .any ed || Nat.blt ed.on l.length) && (coversAll l.length o.after.toList && (guardsLt l.length l && (edgesLt 0 l && once l))))
theorem waits_ok {l : List Oper} {o : Oper} (h : waits l o = true) : LastOp l o ∧ once l = true := by
  simp only [waits, Bool.and_eq_true] at h
  obtain ⟨h1, h2, h3, h4, h5, h6⟩ := h
  refine ⟨⟨fun j hj => ?_, fun ed hed hb => ?_, ?_, fun p hp j want hg => ?_, fun i p hp ed hed hb => ?_⟩, h6⟩
  · obtain ⟨ed, g1, g2⟩ := coversAll_ok h3 j hj
    exact ⟨ed, by simpa using g1, g2⟩
  · have := List.all_eq_true.1 h2 ed (by simpa using hed)
    simpa [hb, Nat.blt_eq] using this
  · cases hg : o.guard with
    | none => rfl
    | some _ => rw [hg] at h1; cases h1
  · have := List.all_eq_true.1 h4 p hp
    rw [hg] at this
    simpa [Nat.blt_eq] using this
  · have := edgesLt_ok h5 i p hp ed hed hb
    omega
def lastX (ti : Nat → Option TI) (call : CallF) (ms : List Nat) (o : Oper) (Φ : Facts) (σ : XS) : T XS :=
  (lab o.pos (doX ti call σ.nx (o.dst.any ms.contains) (tgetX σ.t) σ.h Φ o.op)).bind Φ fun _ p => .ret ⟨tputX o.dst p.1 σ.t, hapX p.2 σ.h, σ.nx + 1⟩
def drawL (ti : Nat → Option TI) (call : CallF) (ms : List Nat) (ops : List Oper) (Φ : Facts) (σ : XS) : T XS :=
  match splitLast ops with
  | some (i, o) => if waits i o = true then (drawX ti call ms i Φ σ).bind Φ fun Φ s => lastX ti call ms o Φ s else drawX ti call ms ops Φ σ
  | none => drawX ti call ms ops Φ σ
end Go.Proofs.Xw

/- Symbolic runs, part 9: ways put together again. -/
namespace Go.Proofs.Xw
open Go Go.Proofs.Aw

/-! ### One state says no more than another one -/
def LeC (a b : List AV) : Prop := a.length = b.length ∧ ∀ (j : Nat) (x : AV), a[j]? = some x → ∃ y, b[j]? = some y ∧ LeA x y
theorem LeA.trans {a b c : AV} (h : LeA a b) (k : LeA b c) : LeA a c := fun C u hu => h C u (k C u hu)
theorem LeC.refl (a : List AV) : LeC a a := ⟨rfl, fun _ x hx => ⟨x, hx, LeA.refl x⟩⟩
theorem LeC.trans {a b c : List AV} (h : LeC a b) (k : LeC b c) : LeC a c := ⟨h.1.trans k.1, fun j x hx => by
  obtain ⟨y, hy, h1⟩ := h.2 j x hx
  obtain ⟨z, hz, h2⟩ := k.2 j y hy
  exact ⟨z, hz, h1.trans h2⟩⟩
structure LeS (σ' σ : St) : Prop where
  t : ∀ i, LeA (tget σ'.t i) (tget σ.t i)
  h : ∀ m cs', hget σ'.h m = some cs' → ∃ cs, hget σ.h m = some cs ∧ LeC cs' cs
  nx : σ.nx ≤ σ'.nx
theorem LeS.refl (σ : St) : LeS σ σ := ⟨fun _ => LeA.refl _, fun _ cs h => ⟨cs, h, LeC.refl cs⟩, Nat.le_refl _⟩
theorem LeS.trans {a b c : St} (h : LeS a b) (k : LeS b c) : LeS a c := ⟨fun i => (h.t i).trans (k.t i), fun m cs hcs => by
  obtain ⟨ds, hd, h1⟩ := h.h m cs hcs
  obtain ⟨es, he, h2⟩ := k.h m ds hd
  exact ⟨es, he, h1.trans h2⟩, Nat.le_trans k.nx h.nx⟩
theorem Imp_le {E : Env} {σ σ' : St} (hl : LeS σ' σ) : Imp E σ σ' := by
  rintro a w ⟨C, rfl, hC⟩
  have hlive : ∀ m, (hget σ'.h m).isSome = true → C.live m := fun m hm => by
    obtain ⟨cs, hcs⟩ := Option.isSome_iff_exists.1 hm
    obtain ⟨ds, hd, _⟩ := hl.h m cs hcs
    exact hC.heap.get hd
  let C' : Ctx := { C with live := fun m => (hget σ'.h m).isSome = true }
  have le : C.le C' := ⟨Nat.le_refl _, fun _ _ _ => rfl, fun _ _ h => h, fun _ h => h, fun m _ hm => ⟨hlive m hm, rfl, rfl⟩, fun _ _ _ cs ty h => ⟨cs, ty, h, rfl⟩⟩
  refine ⟨C', rfl, ⟨⟨fun _ => Iff.rfl, fun m cs hg => ?_, fun m m' hm hm' he => hC.heap.inj m m' (hlive m hm) (hlive m' hm') he, fun m hm => hC.heap.mt _ (hlive m hm), fun m hm => hC.heap.kn m (hlive m hm)⟩, fun i => ?_, hC.size, hC.defers, fun m hm => Nat.lt_of_lt_of_le (hC.kn m hm) hl.nx, ⟨hC.frame.os, hC.frame.tape, hC.frame.output, hC.frame.size, hC.frame.same, hC.frame.mt, fun m hm hb => hC.frame.wr _ (hlive m hm) hb, hC.frame.le.trans le⟩⟩⟩
  · obtain ⟨ds, hd, _, hle⟩ := hl.h m cs hg
    obtain ⟨arr, ty, ha, hc⟩ := hC.heap.obj m ds hd
    refine ⟨arr, ty, ha, fun j c hj => ?_⟩
    obtain ⟨y, hy, hyl⟩ := hle j c hj
    obtain ⟨u, hu, hcu⟩ := hc j y hy
    exact ⟨u, hu, Conc.mono le _ _ (hyl C u hcu)⟩
  · exact Conc.mono le _ _ (hl.t i C _ (hC.t i))

/-! ### Two states put together -/
def mixTop (c : BE) (x y : X) : X := match X.mix c x y with
  | some z => z
  | none => .top
theorem mixTop_le (ρ : Rho) (c : BE) (x y : X) : LeA ((mixTop c x y).den ρ) (if c.den ρ = true then x.den ρ else y.den ρ) := by
  unfold mixTop
  split
  · rename_i z hz; exact LeA.of_eq (X.mix_den _ _ _ hz)
  · exact LeA.top _
def mixK (c : BE) (t1 t2 : XTp) : List Nat → List Nat → XTp → XTp
  | [], _, b => b
  | k :: ks, seen, b => if seen.any (Nat.beq k) = true then mixK c t1 t2 ks seen b else (k, mixTop c (tgetX t1 k) (tgetX t2 k)) :: mixK c t1 t2 ks (k :: seen) b
theorem any_beq {k : Nat} {l : List Nat} : l.any (Nat.beq k) = true ↔ k ∈ l := by
  rw [List.any_eq_true]
  constructor
  · rintro ⟨x, hx, h⟩; rw [Nat.eq_of_beq_eq_true h]; exact hx
  · intro h; exact ⟨k, h, Nat.beq_refl k⟩
theorem tget_mixK (c : BE) (t1 t2 b : XTp) (i : Nat) : ∀ (ks seen : List Nat), tgetX (mixK c t1 t2 ks seen b) i = if i ∈ ks ∧ i ∉ seen then mixTop c (tgetX t1 i) (tgetX t2 i) else tgetX b i
  | [], seen => by simp [mixK]
  | k :: ks, seen => by
    simp only [mixK, any_beq]
    by_cases hk : k ∈ seen
    · rw [if_pos hk, tget_mixK c t1 t2 b i ks seen]
      by_cases hi : i = k
      · subst hi; simp [hk]
      · simp [hi]
    · rw [if_neg hk]
      simp only [tgetX]
      by_cases hi : k = i
      · subst hi; simp [hk]
      · rw [if_neg (by simpa using hi), tget_mixK c t1 t2 b i ks (k :: seen)]
        simp [Ne.symm hi]
def keysT (n : Nat) (t : XTp) : List Nat := (t.take n).map (·.1)
def mixT (c : BE) (b t1 t2 : XTp) : XTp := mixK c t1 t2 (keysT (t1.length - b.length) t1 ++ keysT (t2.length - b.length) t2) [] b
def Ext (b t : XTp) : Prop := ∃ u, t = u ++ b
theorem Ext.refl (b : XTp) : Ext b b := ⟨[], rfl⟩
theorem Ext.trans {a b c : XTp} (h : Ext a b) (k : Ext b c) : Ext a c := by
  obtain ⟨u, rfl⟩ := h
  obtain ⟨v, rfl⟩ := k
  exact ⟨v ++ u, by simp⟩
theorem tget_ext {b u : XTp} {i : Nat} (h : i ∉ keysT ((u ++ b).length - b.length) (u ++ b)) : tgetX (u ++ b) i = tgetX b i := by
  have e : keysT ((u ++ b).length - b.length) (u ++ b) = u.map (·.1) := by
    unfold keysT
    rw [List.length_append, Nat.add_sub_cancel, List.take_left]
  rw [e] at h
  clear e
  induction u with
  | nil => rfl
  | cons p u ih =>
    obtain ⟨j, v⟩ := p
    simp only [List.map_cons, List.mem_cons, not_or] at h
    simp only [List.cons_append, tgetX]
    rw [if_neg (by simpa using Ne.symm h.1), ih h.2]
theorem mixT_le {ρ : Rho} {c : BE} {b t1 t2 : XTp} (h1 : Ext b t1) (h2 : Ext b t2) (i : Nat) : LeA ((tgetX (mixT c b t1 t2) i).den ρ) (if c.den ρ = true then (tgetX t1 i).den ρ else (tgetX t2 i).den ρ) := by
  unfold mixT
  rw [tget_mixK]
  split
  · exact mixTop_le ρ c _ _
  · rename_i hn
    simp only [List.mem_append, List.not_mem_nil, not_false_eq_true, and_true, not_or] at hn
    obtain ⟨u1, rfl⟩ := h1
    obtain ⟨u2, rfl⟩ := h2
    rw [tget_ext hn.1, tget_ext hn.2]
    split <;> exact LeA.refl _
theorem mixK_ext (c : BE) (t1 t2 b : XTp) : ∀ ks seen, Ext b (mixK c t1 t2 ks seen b)
  | [], _ => Ext.refl b
  | k :: ks, seen => by
    simp only [mixK]
    split
    · exact mixK_ext c t1 t2 b ks seen
    · obtain ⟨u, hu⟩ := mixK_ext c t1 t2 b ks (k :: seen)
      exact ⟨_ :: u, by rw [hu]; rfl⟩
def mixC (c : BE) : List X → List X → List X
  | a :: as, b :: bs => mixTop c a b :: mixC c as bs
  | _, _ => []
theorem mixC_le {ρ : Rho} {c : BE} : ∀ {a b : List X}, a.length = b.length → LeC (X.denL ρ (mixC c a b)) (if c.den ρ = true then X.denL ρ a else X.denL ρ b)
  | [], [], _ => by simp only [mixC, X.denL, ite_self]; exact LeC.refl _
  | a :: as, b :: bs, h => by
    obtain ⟨h1, h2⟩ := mixC_le (ρ := ρ) (c := c) (a := as) (b := bs) (by simpa using h)
    have hm := mixTop_le ρ c a b
    simp only [mixC, X.denL]
    by_cases hc : c.den ρ = true
    · rw [if_pos hc] at h1 h2 hm ⊢
      refine ⟨by simp [h1], fun j x hx => ?_⟩
      cases j with
      | zero => simp at hx ⊢; subst hx; exact hm
      | succ j => simpa using h2 j x (by simpa using hx)
    · rw [if_neg hc] at h1 h2 hm ⊢
      refine ⟨by simp [h1], fun j x hx => ?_⟩
      cases j with
      | zero => simp at hx ⊢; subst hx; exact hm
      | succ j => simpa using h2 j x (by simpa using hx)
  | [], _ :: _, h => by simp at h
  | _ :: _, [], h => by simp at h
/-- Two objects put together. -/
def mixP (c : BE) (a b : List X) : Option (List X) := if (!isRows a && (!isRows b && (Nat.beq a.length b.length && !isRows (mixC c a b)))) = true then some (mixC c a b) else none
def mixO (c : BE) (a b : List X) : Option (List X) :=
  match a, b with
  | [.rows z n l], [.rows z' n' l'] => if Nat.beq z z' = true then some [.rows z (mkIteI c n n') (mkRL c l l')] else none
  | a, b => mixP c a b
theorem mixP_le {ρ : Rho} {c : BE} {a b r : List X} (h : mixP c a b = some r) : LeC (denO ρ r) (if c.den ρ = true then denO ρ a else denO ρ b) := by
  unfold mixP at h
  split at h
  · rename_i hc
    simp only [Bool.and_eq_true, Bool.not_eq_true'] at hc
    obtain ⟨h1, h2, h3, h4⟩ := hc
    cases h
    rw [denO_of h1, denO_of h2, denO_of h4]
    exact mixC_le (Nat.eq_of_beq_eq_true h3)
  · cases h
theorem mixO_le {ρ : Rho} {c : BE} {a b r : List X} (h : mixO c a b = some r) : LeC (denO ρ r) (if c.den ρ = true then denO ρ a else denO ρ b) := by
  unfold mixO at h
  split at h
  · split at h
    · rename_i z n l z' n' l' hz
      have hz := Nat.eq_of_beq_eq_true hz
      subst hz
      cases h
      simp only [denO]
      have : rowsD ρ (mkIteI c n n') (mkRL c l l') = if c.den ρ = true then rowsD ρ n l else rowsD ρ n' l' := by
        unfold rowsD
        rw [mkIteI_den]
        simp only [mkRL_row]
        split <;> rfl
      rw [this]
      split <;> exact LeC.refl _
    · cases h
  · exact mixP_le h
def mixH (c : BE) (h1 h2 : XHp) : List Nm → XHp
  | [] => []
  | m :: ms => match hgetO h1 m, hgetO h2 m with
    | some a, some b => match mixO c a b with
      | some r => (m, r) :: mixH c h1 h2 ms
      | none => mixH c h1 h2 ms
    | _, _ => mixH c h1 h2 ms
theorem mixH_get {c : BE} {h1 h2 : XHp} {m : Nm} {cs : List X} : ∀ {ms : List Nm}, hgetO (mixH c h1 h2 ms) m = some cs → ∃ a b, hgetO h1 m = some a ∧ hgetO h2 m = some b ∧ mixO c a b = some cs
  | [], h => by cases h
  | k :: ms, h => by
    simp only [mixH] at h
    split at h
    · rename_i a b ha hb
      split at h
      · rename_i r hl
        simp only [hgetO] at h
        split at h
        · rename_i hk
          cases h
          have := nmbeq_eq hk
          subst this
          exact ⟨a, b, ha, hb, hl⟩
        · exact mixH_get h
      · exact mixH_get h
    · exact mixH_get h
def mixS (c : BE) (b : XTp) (s1 s2 : XS) : XS := ⟨mixT c b s1.t s2.t, mixH c s1.h s2.h (s1.h.map (·.1)), Nat.max s1.nx s2.nx⟩
theorem mixS_le {ρ : Rho} {c : BE} {b : XTp} {s1 s2 : XS} (h1 : Ext b s1.t) (h2 : Ext b s2.t) : LeS ((mixS c b s1 s2).den ρ) (if c.den ρ = true then s1.den ρ else s2.den ρ) := by
  refine ⟨fun i => ?_, fun m cs hcs => ?_, ?_⟩
  · have := mixT_le (ρ := ρ) (c := c) h1 h2 i
    by_cases hc : c.den ρ = true
    · rw [if_pos hc] at this ⊢; simp only [XS.den, mixS, tget_denT]; exact this
    · rw [if_neg hc] at this ⊢; simp only [XS.den, mixS, tget_denT]; exact this
  · simp only [XS.den, mixS, hget_denO] at hcs
    obtain ⟨ds, hd, rfl⟩ := Option.map_eq_some_iff.1 hcs
    obtain ⟨a, b', ha, hb, hl⟩ := mixH_get hd
    have := mixO_le (ρ := ρ) (c := c) hl
    by_cases hc : c.den ρ = true
    · rw [if_pos hc] at this ⊢
      exact ⟨_, by simp only [XS.den, hget_denO, ha, Option.map_some], this⟩
    · rw [if_neg hc] at this ⊢
      exact ⟨_, by simp only [XS.den, hget_denO, hb, Option.map_some], this⟩
  · simp only [mixS, XS.den]
    split
    · exact Nat.le_max_left _ _
    · exact Nat.le_max_right _ _

/-- The slots that lie ahead of b, each once. -/
def sqK (t : XTp) : List Nat → List Nat → XTp → XTp
  | [], _, b => b
  | k :: ks, seen, b => if seen.any (Nat.beq k) = true then sqK t ks seen b else (k, tgetX t k) :: sqK t ks (k :: seen) b
theorem tget_sqK (t b : XTp) (i : Nat) : ∀ (ks seen : List Nat), tgetX (sqK t ks seen b) i = if i ∈ ks ∧ i ∉ seen then tgetX t i else tgetX b i
  | [], seen => by simp [sqK]
  | k :: ks, seen => by
    simp only [sqK, any_beq]
    by_cases hk : k ∈ seen
    · rw [if_pos hk, tget_sqK t b i ks seen]
      by_cases hi : i = k
      · subst hi; simp [hk]
      · simp [hi]
    · rw [if_neg hk]
      simp only [tgetX]
      by_cases hi : k = i
      · subst hi; simp [hk]
      · rw [if_neg (by simpa using hi), tget_sqK t b i ks (k :: seen)]
        simp [Ne.symm hi]
theorem sqK_ext (t b : XTp) : ∀ ks seen, Ext b (sqK t ks seen b)
  | [], _ => Ext.refl b
  | k :: ks, seen => by
    simp only [sqK]
    split
    · exact sqK_ext t b ks seen
    · obtain ⟨u, hu⟩ := sqK_ext t b ks (k :: seen)
      exact ⟨_ :: u, by rw [hu]; rfl⟩
def squeeze (b : XTp) (s : XS) : XS := ⟨sqK s.t (keysT (s.t.length - b.length) s.t) [] b, s.h, s.nx⟩
theorem squeeze_le {ρ : Rho} {b : XTp} {s : XS} (h : Ext b s.t) : LeS ((squeeze b s).den ρ) (s.den ρ) := by
  refine ⟨fun i => ?_, fun m cs hcs => ⟨cs, hcs, LeC.refl cs⟩, Nat.le_refl _⟩
  simp only [XS.den, squeeze, tget_denT, tget_sqK]
  split
  · exact LeA.refl _
  · rename_i hn
    simp only [List.not_mem_nil, not_false_eq_true, and_true] at hn
    obtain ⟨u, hu⟩ := h
    rw [hu] at hn ⊢
    rw [tget_ext hn]
    exact LeA.refl _

/-! ### Ways put together -/
inductive XE where
  | normal
  | exit (id : Nat)
  | ret
def XE.to : XE → Exit
  | .normal => .normal
  | .exit id => .exit id
  | .ret => .ret
def XE.beq : XE → XE → Bool
  | .normal, .normal => true
  | .exit a, .exit b => Nat.beq a b
  | .ret, .ret => true
  | _, _ => false
theorem XE.beq_eq {a b : XE} (h : a.beq b = true) : a = b := by
  cases a <;> cases b <;> simp [XE.beq] at h ⊢; exact h
def T.All {α : Type} (p : α → Prop) : T α → Prop
  | .ret a => p a
  | .br _ x y => x.All p ∧ y.All p
  | .need _ x => x.All p
  | .fail _ => True
theorem T.All_true {α : Type} : ∀ t : T α, t.All fun _ => True
  | .ret _ => trivial
  | .br _ x y => ⟨T.All_true x, T.All_true y⟩
  | .need _ x => T.All_true x
  | .fail _ => trivial
theorem T.All_mono {α : Type} {p q : α → Prop} (h : ∀ a, p a → q a) : ∀ {t : T α}, t.All p → t.All q
  | .ret a, ht => h a ht
  | .br _ _ _, ht => ⟨T.All_mono h ht.1, T.All_mono h ht.2⟩
  | .need _ x, ht => T.All_mono (t := x) h ht
  | .fail _, _ => trivial
theorem T.All_bind {α β : Type} {p : α → Prop} {q : β → Prop} {f : Facts → α → T β} (hf : ∀ Φ a, p a → (f Φ a).All q) : ∀ {t : T α} {Φ : Facts}, t.All p → (t.bind Φ f).All q
  | .ret a, Φ, h => hf Φ a h
  | .br _ _ _, _, h => ⟨T.All_bind hf h.1, T.All_bind hf h.2⟩
  | .need _ x, _, h => T.All_bind (t := x) hf h
  | .fail _, _, _ => trivial
theorem T.All_map {α β : Type} {p : α → Prop} {q : β → Prop} {f : α → β} (hf : ∀ a, p a → q (f a)) : ∀ {t : T α}, t.All p → (t.map f).All q
  | .ret a, h => hf a h
  | .br _ _ _, h => ⟨T.All_map hf h.1, T.All_map hf h.2⟩
  | .need _ x, h => T.All_map (t := x) hf h
  | .fail _, _ => trivial
theorem All_part {α : Type} {p : α → Prop} {Φ : Facts} {c : BE} {x y : Facts → T α} (hx : ∀ Φ, (x Φ).All p) (hy : ∀ Φ, (y Φ).All p) : (part Φ c x y).All p := by
  unfold part
  split
  · exact hx _
  · exact hy _
  · exact ⟨hx _, hy _⟩
theorem All_want {α : Type} {p : α → Prop} {Φ : Facts} {c : BE} {x : Facts → T α} (hx : ∀ Φ, (x Φ).All p) : (want Φ c x).All p := by
  unfold want
  split
  · exact hx _
  · trivial
  · exact hx _
theorem All_guardX {α : Type} {p : α → Prop} {Φ : Facts} {v : X} {want' : Bool} {run : Facts → T (X × XDl)} {go : Facts → X → XDl → T α} {skip : Facts → T α} {both : Facts → X → T α} (hg : ∀ Φ r d, (go Φ r d).All p) (hs : ∀ Φ, (skip Φ).All p) (hb : ∀ Φ y, (both Φ y).All p) :
    (guardX Φ v want' run go skip both).All p := by
  have hrun : ∀ (Φ Φ' : Facts), ((run Φ).bind Φ' fun Φ p => go Φ p.1 p.2).All p := fun Φ Φ' => T.All_bind (p := fun _ => True) (fun Φ q _ => hg Φ q.1 q.2) (T.All_true _)
  unfold guardX
  split
  · split
    · exact hrun _ _
    · exact hs _
    · split
      · exact All_want fun Φ => hb Φ _
      · exact ⟨hrun _ _, hs _⟩
  · trivial

structure Ent where
  c : BE
  e : XE
  s : XS
def isSlc : X → Bool
  | .sl _ _ _ _ _ => true
  | .slv _ _ _ _ _ => true
  | _ => false
/-- Objects that hold slices which are not the same: such ways stay apart. -/
def clashL : List X → List X → Bool
  | x :: xs, y :: ys => ((isSlc x || isSlc y) && !X.beq x y) || clashL xs ys
  | _, _ => false
def apart (a b : XS) : Bool := a.h.any fun p => match hgetO b.h p.1 with
  | some ds => clashL p.2 ds
  | none => false
def insE (b : XTp) (c : BE) (e : XE) (s : XS) : List Ent → List Ent
  | [] => [⟨c, e, s⟩]
  | x :: r => if (x.e.beq e && !apart x.s s) = true then ⟨mkOr x.c c, e, mixS x.c b x.s s⟩ :: r else x :: insE b c e s r
def grp (b : XTp) : List Ent → List Ent → List Ent
  | [], acc => acc
  | x :: l, acc => grp b l (insE b x.c x.e x.s acc)
def Ent.and (c : BE) (x : Ent) : Ent := ⟨mkAnd c x.c, x.e, x.s⟩
def fixLast : BE → List Ent → List Ent
  | _, [] => []
  | acc, [x] => [⟨mkNot acc, x.e, x.s⟩]
  | acc, x :: r => x :: fixLast (mkOr acc x.c) r
def flat (b : XTp) : T (XE × XS) → BE × List Ent
  | .ret (e, s) => (.lit true, [⟨.lit true, e, s⟩])
  | .br c x y => match flat b x, flat b y with
    | (p, l), (q, m) => (mkIteB c p q, fixLast (.lit false) (grp b (m.map (Ent.and (mkNot c))) (l.map (Ent.and c))))
  | .need c x => match flat b x with
    | (p, l) => (mkAnd c p, l)
  | .fail _ => (.lit false, [])
/-- An entry is right: where its condition holds, the way comes to its end, and there is as much as it says. -/
def Ent.right (ρ : Rho) (t : Option (XE × XS)) (x : Ent) : Prop := x.c.den ρ = true → ∃ s, t = some (x.e, s) ∧ LeS (x.s.den ρ) (s.den ρ)
structure EntsOk (ρ : Rho) (b : XTp) (t : Option (XE × XS)) (l : List Ent) : Prop where
  right : ∀ x ∈ l, x.right ρ t
  ext : ∀ x ∈ l, Ext b x.s.t
theorem mixS_ext (c : BE) (b : XTp) (s1 s2 : XS) : Ext b (mixS c b s1 s2).t := mixK_ext _ _ _ _ _ _
theorem insE_ok {ρ : Rho} {b : XTp} {t : Option (XE × XS)} {n : Ent} (hn : n.right ρ t) (he : Ext b n.s.t) : ∀ {l : List Ent}, EntsOk ρ b t l →
    EntsOk ρ b t (insE b n.c n.e n.s l) ∧ ((n.c.den ρ = true ∨ ∃ x ∈ l, x.c.den ρ = true) → ∃ x ∈ insE b n.c n.e n.s l, x.c.den ρ = true)
  | [], _ => by
    refine ⟨⟨fun x hx => ?_, fun x hx => ?_⟩, fun h => ?_⟩
    · simp only [insE, List.mem_singleton] at hx; subst hx; exact hn
    · simp only [insE, List.mem_singleton] at hx; subst hx; exact he
    · rcases h with h | ⟨x, hx, _⟩
      · exact ⟨_, by simp only [insE, List.mem_singleton], h⟩
      · cases hx
  | y :: r, ho => by
    have hy := ho.right y List.mem_cons_self
    have hye := ho.ext y List.mem_cons_self
    have ho' : EntsOk ρ b t r := ⟨fun x hx => ho.right x (List.mem_cons_of_mem _ hx), fun x hx => ho.ext x (List.mem_cons_of_mem _ hx)⟩
    simp only [insE]
    split
    · rename_i hb
      rw [Bool.and_eq_true] at hb
      have hb := XE.beq_eq hb.1
      have hle := mixS_le (ρ := ρ) (c := y.c) hye he
      refine ⟨⟨fun x hx => ?_, fun x hx => ?_⟩, fun h => ?_⟩
      · rcases List.mem_cons.1 hx with rfl | hx
        · intro hc
          simp only [mkOr_den, Bool.or_eq_true] at hc
          by_cases hyc : y.c.den ρ = true
          · obtain ⟨s, h1, h2⟩ := hy hyc
            rw [if_pos hyc] at hle
            exact ⟨s, by rw [h1, hb], hle.trans h2⟩
          · obtain ⟨s, h1, h2⟩ := hn (hc.resolve_left hyc)
            rw [if_neg hyc] at hle
            exact ⟨s, h1, hle.trans h2⟩
        · exact ho'.right x hx
      · rcases List.mem_cons.1 hx with rfl | hx
        · exact mixS_ext _ _ _ _
        · exact ho'.ext x hx
      · rcases h with h | ⟨x, hx, h⟩
        · exact ⟨_, List.mem_cons_self, by simp only [mkOr_den, h, Bool.or_true]⟩
        · rcases List.mem_cons.1 hx with rfl | hx
          · exact ⟨_, List.mem_cons_self, by simp only [mkOr_den, h, Bool.true_or]⟩
          · exact ⟨x, List.mem_cons_of_mem _ hx, h⟩
    · obtain ⟨ih1, ih2⟩ := insE_ok hn he ho'
      refine ⟨⟨fun x hx => ?_, fun x hx => ?_⟩, fun h => ?_⟩
      · rcases List.mem_cons.1 hx with rfl | hx
        · exact hy
        · exact ih1.right x hx
      · rcases List.mem_cons.1 hx with rfl | hx
        · exact hye
        · exact ih1.ext x hx
      · rcases h with h | ⟨x, hx, h⟩
        · obtain ⟨z, hz, hzc⟩ := ih2 (.inl h)
          exact ⟨z, List.mem_cons_of_mem _ hz, hzc⟩
        · rcases List.mem_cons.1 hx with rfl | hx
          · exact ⟨_, List.mem_cons_self, h⟩
          · obtain ⟨z, hz, hzc⟩ := ih2 (.inr ⟨x, hx, h⟩)
            exact ⟨z, List.mem_cons_of_mem _ hz, hzc⟩
theorem grp_ok {ρ : Rho} {b : XTp} {t : Option (XE × XS)} : ∀ {m l : List Ent}, EntsOk ρ b t m → EntsOk ρ b t l → EntsOk ρ b t (grp b m l) ∧ (((∃ x ∈ m, x.c.den ρ = true) ∨ ∃ x ∈ l, x.c.den ρ = true) → ∃ x ∈ grp b m l, x.c.den ρ = true)
  | [], l, _, hl => ⟨hl, fun h => by
      rcases h with ⟨x, hx, _⟩ | h
      · cases hx
      · exact h⟩
  | y :: m, l, hm, hl => by
    have hm' : EntsOk ρ b t m := ⟨fun x hx => hm.right x (List.mem_cons_of_mem _ hx), fun x hx => hm.ext x (List.mem_cons_of_mem _ hx)⟩
    obtain ⟨h1, h2⟩ := insE_ok (hm.right y List.mem_cons_self) (hm.ext y List.mem_cons_self) hl
    obtain ⟨h3, h4⟩ := grp_ok hm' h1
    refine ⟨h3, fun h => h4 ?_⟩
    rcases h with ⟨x, hx, hc⟩ | h
    · rcases List.mem_cons.1 hx with rfl | hx
      · exact .inr (h2 (.inl hc))
      · exact .inl ⟨x, hx, hc⟩
    · exact .inr (h2 (.inr h))
theorem fixLast_ok {ρ : Rho} {b : XTp} {t : Option (XE × XS)} : ∀ {l : List Ent} {acc : BE}, EntsOk ρ b t l → (acc.den ρ = true ∨ ∃ x ∈ l, x.c.den ρ = true) → EntsOk ρ b t (fixLast acc l) ∧ (acc.den ρ = true ∨ ∃ x ∈ fixLast acc l, x.c.den ρ = true)
  | [], acc, ho, hx => ⟨ho, hx⟩
  | [x], acc, ho, hx => by
    have hr := ho.right x List.mem_cons_self
    refine ⟨⟨fun y hy => ?_, fun y hy => ?_⟩, ?_⟩
    · simp only [fixLast, List.mem_singleton] at hy
      subst hy
      intro hc
      simp only [mkNot_den, Bool.not_eq_true'] at hc
      refine hr ?_
      rcases hx with h | ⟨z, hz, h⟩
      · rw [hc] at h; cases h
      · simp only [List.mem_singleton] at hz; subst hz; exact h
    · simp only [fixLast, List.mem_singleton] at hy
      subst hy
      exact ho.ext x List.mem_cons_self
    · by_cases ha : acc.den ρ = true
      · exact .inl ha
      · exact .inr ⟨⟨mkNot acc, x.e, x.s⟩, by simp only [fixLast, List.mem_singleton], by simp only [mkNot_den]; simpa using ha⟩
  | x :: y :: r, acc, ho, hx => by
    have ho' : EntsOk ρ b t (y :: r) := ⟨fun z hz => ho.right z (List.mem_cons_of_mem _ hz), fun z hz => ho.ext z (List.mem_cons_of_mem _ hz)⟩
    obtain ⟨h1, h2⟩ := fixLast_ok (acc := mkOr acc x.c) ho' (by
      rw [mkOr_den]
      rcases hx with h | ⟨z, hz, h⟩
      · exact .inl (by rw [h]; rfl)
      · rcases List.mem_cons.1 hz with rfl | hz
        · exact .inl (by rw [h]; simp)
        · exact .inr ⟨z, hz, h⟩)
    refine ⟨⟨fun z hz => ?_, fun z hz => ?_⟩, ?_⟩
    · simp only [fixLast] at hz
      rcases List.mem_cons.1 hz with rfl | hz
      · exact ho.right _ List.mem_cons_self
      · exact h1.right z hz
    · simp only [fixLast] at hz
      rcases List.mem_cons.1 hz with rfl | hz
      · exact ho.ext _ List.mem_cons_self
      · exact h1.ext z hz
    · rw [mkOr_den, Bool.or_eq_true] at h2
      rcases h2 with (h2 | h2) | ⟨z, hz, h2⟩
      · exact .inl h2
      · exact .inr ⟨x, by simp only [fixLast]; exact List.mem_cons_self, h2⟩
      · exact .inr ⟨z, by simp only [fixLast]; exact List.mem_cons_of_mem _ hz, h2⟩
theorem flat_ok {ρ : Rho} {b : XTp} : ∀ {t : T (XE × XS)}, t.All (fun p => Ext b p.2.t) → (flat b t).1.den ρ = true → EntsOk ρ b (t.sel ρ) (flat b t).2 ∧ ∃ x ∈ (flat b t).2, x.c.den ρ = true
  | .ret (e, s), ha, _ => by
    refine ⟨⟨fun x hx => ?_, fun x hx => ?_⟩, ?_⟩
    · simp only [flat, List.mem_singleton] at hx; subst hx; exact fun _ => ⟨s, rfl, LeS.refl _⟩
    · simp only [flat, List.mem_singleton] at hx; subst hx; exact ha
    · exact ⟨⟨.lit true, e, s⟩, by simp only [flat, List.mem_singleton], by simp only [BE.den]⟩
  | .br c x y, ha, hok => by
    simp only [flat] at hok ⊢
    rw [mkIteB_den] at hok
    have hx := fun h => flat_ok (ρ := ρ) (b := b) (t := x) ha.1 h
    have hy := fun h => flat_ok (ρ := ρ) (b := b) (t := y) ha.2 h
    have key : EntsOk ρ b ((T.br c x y).sel ρ) ((flat b x).2.map (Ent.and c)) ∧ EntsOk ρ b ((T.br c x y).sel ρ) ((flat b y).2.map (Ent.and (mkNot c))) ∧ ((∃ z ∈ (flat b y).2.map (Ent.and (mkNot c)), z.c.den ρ = true) ∨ ∃ z ∈ (flat b x).2.map (Ent.and c), z.c.den ρ = true) := by
      have extOf : ∀ {t : T (XE × XS)}, t.All (fun p => Ext b p.2.t) → ∀ z ∈ (flat b t).2, Ext b z.s.t := fun {t} ht z hz => flat_ext ht z hz
      by_cases hc : c.den ρ = true
      · rw [if_pos hc] at hok
        obtain ⟨h1, z, hz, hzc⟩ := hx hok
        have hsel : (T.br c x y).sel ρ = x.sel ρ := by simp only [T.sel, hc, if_true]
        rw [hsel]
        refine ⟨⟨fun v hv => ?_, fun v hv => ?_⟩, ⟨fun v hv => ?_, fun v hv => ?_⟩, .inr ⟨Ent.and c z, List.mem_map.2 ⟨z, hz, rfl⟩, by simp only [Ent.and, mkAnd_den, hc, hzc, Bool.and_self]⟩⟩
        · obtain ⟨w, hw, rfl⟩ := List.mem_map.1 hv
          intro hh
          simp only [Ent.and, mkAnd_den, Bool.and_eq_true] at hh
          exact h1.right w hw hh.2
        · obtain ⟨w, hw, rfl⟩ := List.mem_map.1 hv
          exact h1.ext w hw
        · obtain ⟨w, hw, rfl⟩ := List.mem_map.1 hv
          intro hh
          simp only [Ent.and, mkAnd_den, mkNot_den, hc, Bool.not_true, Bool.false_and] at hh
          cases hh
        · obtain ⟨w, hw, rfl⟩ := List.mem_map.1 hv
          exact extOf ha.2 w hw
      · rw [if_neg hc] at hok
        obtain ⟨h1, z, hz, hzc⟩ := hy hok
        have hsel : (T.br c x y).sel ρ = y.sel ρ := by simp only [T.sel, hc]; rfl
        have hcf : c.den ρ = false := by simpa using hc
        rw [hsel]
        refine ⟨⟨fun v hv => ?_, fun v hv => ?_⟩, ⟨fun v hv => ?_, fun v hv => ?_⟩, .inl ⟨Ent.and (mkNot c) z, List.mem_map.2 ⟨z, hz, rfl⟩, by simp only [Ent.and, mkAnd_den, mkNot_den, hcf, hzc, Bool.not_false, Bool.and_self]⟩⟩
        · obtain ⟨w, hw, rfl⟩ := List.mem_map.1 hv
          intro hh
          simp only [Ent.and, mkAnd_den, hcf, Bool.false_and] at hh
          cases hh
        · obtain ⟨w, hw, rfl⟩ := List.mem_map.1 hv
          exact extOf ha.1 w hw
        · obtain ⟨w, hw, rfl⟩ := List.mem_map.1 hv
          intro hh
          simp only [Ent.and, mkAnd_den, Bool.and_eq_true] at hh
          exact h1.right w hw hh.2
        · obtain ⟨w, hw, rfl⟩ := List.mem_map.1 hv
          exact h1.ext w hw
    obtain ⟨k1, k2, k3⟩ := key
    obtain ⟨g1, g2⟩ := grp_ok k2 k1
    obtain ⟨f1, f2⟩ := fixLast_ok (acc := .lit false) g1 (.inr (g2 k3))
    refine ⟨f1, ?_⟩
    rcases f2 with f2 | f2
    · simp [BE.den] at f2
    · exact f2
  | .need c x, ha, hok => by
    simp only [flat, mkAnd_den, Bool.and_eq_true] at hok ⊢
    obtain ⟨h1, h2⟩ := flat_ok (ρ := ρ) (b := b) (t := x) ha hok.2
    have hsel : (T.need c x).sel ρ = x.sel ρ := by simp only [T.sel, hok.1, if_true]
    rw [hsel]
    exact ⟨h1, h2⟩
  | .fail _, _, hok => by simp [flat, BE.den] at hok
where
  flat_ext : ∀ {t : T (XE × XS)}, t.All (fun p => Ext b p.2.t) → ∀ z ∈ (flat b t).2, Ext b z.s.t := by
    intro t
    induction t with
    | ret a => intro ha z hz; obtain ⟨e, s⟩ := a; simp only [flat, List.mem_singleton] at hz; subst hz; exact ha
    | fail _ => intro _ z hz; simp [flat] at hz
    | need c x ih => intro ha z hz; simp only [flat] at hz; exact ih ha z hz
    | br c x y ih1 ih2 =>
      intro ha z hz
      simp only [flat] at hz
      have i1 := ih1 ha.1
      have i2 := ih2 ha.2
      have fx : ∀ (l : List Ent) (acc : BE), (∀ z ∈ l, Ext b z.s.t) → ∀ z ∈ fixLast acc l, Ext b z.s.t := by
        intro l
        induction l with
        | nil => intro acc h z hz; simp [fixLast] at hz
        | cons x r ih =>
          intro acc h z hz
          cases r with
          | nil => simp only [fixLast, List.mem_singleton] at hz; subst hz; exact h x List.mem_cons_self
          | cons y r =>
            simp only [fixLast] at hz
            rcases List.mem_cons.1 hz with rfl | hz
            · exact h _ List.mem_cons_self
            · exact ih _ (fun z hz => h z (List.mem_cons_of_mem _ hz)) z hz
      have ins : ∀ (l : List Ent) (n : Ent), (∀ z ∈ l, Ext b z.s.t) → Ext b n.s.t → ∀ z ∈ insE b n.c n.e n.s l, Ext b z.s.t := by
        intro l n
        induction l with
        | nil => intro _ hn z hz; simp only [insE, List.mem_singleton] at hz; subst hz; exact hn
        | cons x r ih =>
          intro h hn z hz
          simp only [insE] at hz
          split at hz
          · rcases List.mem_cons.1 hz with rfl | hz
            · exact mixS_ext _ _ _ _
            · exact h z (List.mem_cons_of_mem _ hz)
          · rcases List.mem_cons.1 hz with rfl | hz
            · exact h _ List.mem_cons_self
            · exact ih (fun z hz => h z (List.mem_cons_of_mem _ hz)) hn z hz
      have gr : ∀ (m l : List Ent), (∀ z ∈ m, Ext b z.s.t) → (∀ z ∈ l, Ext b z.s.t) → ∀ z ∈ grp b m l, Ext b z.s.t := by
        intro m
        induction m with
        | nil => intro l _ hl; exact hl
        | cons x m ih => intro l hm hl; exact ih _ (fun z hz => hm z (List.mem_cons_of_mem _ hz)) (ins l x hl (hm x List.mem_cons_self))
      refine fx _ _ (gr _ _ (fun z hz => ?_) (fun z hz => ?_)) z hz
      · obtain ⟨w, hw, rfl⟩ := List.mem_map.1 hz; exact i2 w hw
      · obtain ⟨w, hw, rfl⟩ := List.mem_map.1 hz; exact i1 w hw
def bt : List Ent → T (XE × XS)
  | [] => (.fail [])
  | [x] => .ret (x.e, x.s)
  | x :: r => match x.c with
    | .lit true => .ret (x.e, x.s)
    | .lit false => bt r
    | c => .br c (.ret (x.e, x.s)) (bt r)
theorem bt_ok {ρ : Rho} {b : XTp} {t : Option (XE × XS)} {e : XE} {s' : XS} : ∀ {l : List Ent}, EntsOk ρ b t l → (∃ x ∈ l, x.c.den ρ = true) → (bt l).sel ρ = some (e, s') → ∃ s, t = some (e, s) ∧ LeS (s'.den ρ) (s.den ρ)
  | [], _, hx, _ => by obtain ⟨x, hx, _⟩ := hx; cases hx
  | [x], ho, hx, h => by
    obtain ⟨y, hy, hc⟩ := hx
    simp only [List.mem_singleton] at hy
    subst hy
    cases h
    exact ho.right _ List.mem_cons_self hc
  | x :: y :: r, ho, hx, h => by
    have ho' : EntsOk ρ b t (y :: r) := ⟨fun z hz => ho.right z (List.mem_cons_of_mem _ hz), fun z hz => ho.ext z (List.mem_cons_of_mem _ hz)⟩
    have hr := ho.right x List.mem_cons_self
    have next : ¬ x.c.den ρ = true → ∃ z ∈ y :: r, z.c.den ρ = true := fun hn => by
      obtain ⟨z, hz, hc⟩ := hx
      rcases List.mem_cons.1 hz with rfl | hz
      · exact absurd hc hn
      · exact ⟨z, hz, hc⟩
    simp only [bt] at h
    split at h
    · rename_i hc
      cases h
      exact hr (by rw [hc]; rfl)
    · rename_i hc
      exact bt_ok ho' (next (by rw [hc]; simp [BE.den])) h
    · simp only [T.sel] at h
      split at h
      · rename_i hc; cases h; exact hr hc
      · rename_i hc; exact bt_ok ho' (next hc) h
theorem bt_ext {b : XTp} : ∀ {l : List Ent}, (∀ z ∈ l, Ext b z.s.t) → (bt l).All fun p => Ext b p.2.t
  | [], _ => trivial
  | [x], h => h x List.mem_cons_self
  | x :: y :: r, h => by
    have ih := bt_ext (l := y :: r) fun z hz => h z (List.mem_cons_of_mem _ hz)
    simp only [bt]
    split
    · exact h x List.mem_cons_self
    · exact ih
    · exact ⟨h x List.mem_cons_self, ih⟩
def joinB (b : XTp) (t : T (XE × XS)) : T (XE × XS) :=
  match t with
  | .ret p => .ret p
  | .fail w => .fail w
  | t => match flat b t with
    | (.lit true, l) => bt l
    | (.lit false, _) => .fail t.why
    | (c, l) => .need c (bt l)
theorem joinB_ok {ρ : Rho} {b : XTp} {t : T (XE × XS)} (ha : t.All fun p => Ext b p.2.t) {e : XE} {s' : XS} (h : (joinB b t).sel ρ = some (e, s')) : ∃ s, t.sel ρ = some (e, s) ∧ LeS (s'.den ρ) (s.den ρ) := by
  unfold joinB at h
  split at h
  · cases h; exact ⟨s', rfl, LeS.refl _⟩
  · cases h
  · have hf := flat_ok (ρ := ρ) (b := b) ha
    split at h
    · rename_i l hl
      rw [hl] at hf
      obtain ⟨h1, h2⟩ := hf rfl
      exact bt_ok h1 h2 h
    · cases h
    · rename_i c l _ _ hl
      rw [hl] at hf
      simp only [T.sel] at h
      split at h
      · rename_i hc
        obtain ⟨h1, h2⟩ := hf hc
        exact bt_ok h1 h2 h
      · cases h
theorem joinB_ext {b : XTp} {t : T (XE × XS)} (ha : t.All fun p => Ext b p.2.t) : (joinB b t).All fun p => Ext b p.2.t := by
  unfold joinB
  split
  · exact ha
  · trivial
  · have hx := flat_ok.flat_ext ha
    split
    · rename_i l hl; rw [hl] at hx; exact bt_ext hx
    · trivial
    · rename_i c l _ _ hl; rw [hl] at hx; exact bt_ext hx
end Go.Proofs.Xw

/- Symbolic runs, part 20: the names in a value, and other names in each place. -/
namespace Go.Proofs.Xw
open Go Go.Proofs.Aw

theorem nms_rows {p : Nm → Bool} {ρ : Rho} {n : IE} {l : RL} : nmsE p (rowsD ρ n l) = true := by
  have sc : ∀ r : List Sc, nmsL p (scL ρ r) = true := fun r => by
    induction r with
    | nil => rfl
    | cons s r ih => simp only [scL, List.map_cons, nmsL, nms, Bool.true_and] at ih ⊢; exact ih
  have cv : ∀ (l : Nat) (ks : List Kd) (k j : Nat), nmsL p (cellsV ρ l k ks j) = true := fun l ks => by
    induction ks with
    | nil => intro k j; rfl
    | cons kd ks ih => intro k j; cases kd <;> simp only [cellsV, nmsL, nms, Bool.true_and] <;> exact ih _ _
  have row : ∀ (l : RL) (j : Int), nmsL p (l.row ρ j) = true := fun l => by
    induction l with
    | var l ks => intro j; exact cv _ _ _ _
    | one r => intro j; exact sc r
    | app n a b ih1 ih2 => intro j; simp only [RL.row]; split <;> first | exact ih1 _ | exact ih2 _
    | drop n a ih => intro j; exact ih _
    | upd i r a ih => intro j; simp only [RL.row]; split <;> first | exact sc _ | exact ih _
    | ite c a b ih1 ih2 => intro j; simp only [RL.row]; split <;> first | exact ih1 _ | exact ih2 _
  unfold rowsD
  generalize List.range (n.den ρ).toNat = L
  induction L with
  | nil => rfl
  | cons j L ih => simp only [List.map_cons, nmsE, row, Bool.true_and]; exact ih
theorem nms_rowsN {p : Nm → Bool} {ρ : Rho} {n : IE} {l : Nat} {ks : List Nk} : nmsE p (rowsN ρ n l ks) = true := by
  have cv : ∀ (l : Nat) (ks : List Kd) (k j : Nat), nmsL p (cellsV ρ l k ks j) = true := fun l ks => by
    induction ks with
    | nil => intro k j; rfl
    | cons kd ks ih => intro k j; cases kd <;> simp only [cellsV, nmsL, nms, Bool.true_and] <;> exact ih _ _
  have all : ∀ (f : Nat → List AV), (∀ j, nmsL p (f j) = true) → ∀ L : List Nat, nmsE p (L.map f) = true := fun f hf L => by
    induction L with
    | nil => rfl
    | cons j L ih => simp only [List.map_cons, nmsE, hf, Bool.true_and]; exact ih
  have cn : ∀ (ks : List Nk) (k j : Nat), nmsL p (cellsN ρ l k ks j) = true := fun ks => by
    induction ks with
    | nil => intro k j; rfl
    | cons kd ks ih =>
      intro k j
      cases kd with
      | f kd => cases kd <;> simp only [cellsN, cellV1, nmsL, nms, Bool.true_and] <;> exact ih _ _
      | r z S kk =>
        simp only [cellsN, nmsL, nms, Bool.and_eq_true]
        exact ⟨all _ (fun e => cv S kk 0 _) _, ih _ _⟩
  exact all _ (fun j => cn ks 0 j) _
/-! ### Names of a value -/
mutual
def X.nms (p : Nm → Bool) : X → Bool
  | .top | .k _ | .sc _ | .rl _ _ _ _ | .rows _ _ _ | .rn _ _ _ _ _ => true
  | .slv n _ _ _ _ => p n
  | .ptrv n _ _ _ => p n
  | .agg cs | .tup cs | .ip cs _ _ => X.nmsL p cs
  | .ptr n _ _ => p n
  | .sl n _ _ _ _ => p n
  | .ro _ es _ => X.nmsE p es
  | .fn _ xs ys => X.nmsL p xs && X.nmsL p ys
  | .gd _ x => x.nms p
def X.nmsL (p : Nm → Bool) : List X → Bool
  | [] => true
  | x :: xs => x.nms p && X.nmsL p xs
def X.nmsE (p : Nm → Bool) : List (List X) → Bool
  | [] => true
  | e :: es => X.nmsL p e && X.nmsE p es
end
mutual
theorem X.nms_den {p : Nm → Bool} (ρ : Rho) : ∀ x : X, x.nms p = true → Aw.nms p (x.den ρ) = true
  | .top, _ => rfl
  | .k _, _ => rfl
  | .sc _, _ => rfl
  | .rl _ _ _ _, _ => nms_rows
  | .rn _ _ _ _ _, _ => nms_rowsN
  | .rows _ _ _, _ => rfl
  | .slv _ _ _ _ _, h => h
  | .ptrv _ _ _ _, h => h
  | .agg cs, h => X.nmsL_den ρ cs h
  | .tup cs, h => X.nmsL_den ρ cs h
  | .ip cs _ _, h => X.nmsL_den ρ cs h
  | .ro _ es _, h => X.nmsE_den ρ es h
  | .fn _ xs ys, h => by
    simp only [X.nms, Bool.and_eq_true] at h
    simp only [X.den, Aw.nms, X.nmsL_den ρ xs h.1, X.nmsL_den ρ ys h.2, Bool.and_self]
  | .ptr _ _ _, h => h
  | .sl _ _ _ _ _, h => h
  | .gd c x, h => by
    simp only [X.den]
    split
    · exact X.nms_den ρ x h
    · rfl
theorem X.nmsL_den {p : Nm → Bool} (ρ : Rho) : ∀ l : List X, X.nmsL p l = true → Aw.nmsL p (X.denL ρ l) = true
  | [], _ => rfl
  | x :: xs, h => by
    simp only [X.nmsL, Bool.and_eq_true] at h
    simp only [X.denL, Aw.nmsL, X.nms_den ρ x h.1, X.nmsL_den ρ xs h.2, Bool.and_self]
theorem X.nmsE_den {p : Nm → Bool} (ρ : Rho) : ∀ l : List (List X), X.nmsE p l = true → Aw.nmsE p (X.denE ρ l) = true
  | [], _ => rfl
  | x :: xs, h => by
    simp only [X.nmsE, Bool.and_eq_true] at h
    simp only [X.denE, Aw.nmsE, X.nmsL_den ρ x h.1, X.nmsE_den ρ xs h.2, Bool.and_self]
end
mutual
def X.ren (f : Nm → Nm) : X → X
  | .agg cs => .agg (X.renL f cs)
  | .tup cs => .tup (X.renL f cs)
  | .ip cs as d => .ip (X.renL f cs) as d
  | .ptr n as d => .ptr (f n) as d
  | .sl n z off len own => .sl (f n) z off len own
  | .ro z es full => .ro z (X.renE f es) full
  | .fn g xs ys => .fn g (X.renL f xs) (X.renL f ys)
  | .gd c x => .gd c (x.ren f)
  | .top => .top
  | .k v => .k v
  | .sc s => .sc s
  | .rl z n l full => .rl z n l full
  | .rn z n l ks full => .rn z n l ks full
  | .rows z n l => .rows z n l
  | .slv n z o l w => .slv (f n) z o l w
  | .ptrv n z j o => .ptrv (f n) z j o
def X.renL (f : Nm → Nm) : List X → List X
  | [] => []
  | x :: xs => x.ren f :: X.renL f xs
def X.renE (f : Nm → Nm) : List (List X) → List (List X)
  | [] => []
  | e :: es => X.renL f e :: X.renE f es
end
mutual
theorem X.ren_den {f : Nm → Nm} (ρ : Rho) : ∀ x : X, (x.ren f).den ρ = Aw.ren f (x.den ρ)
  | .top => rfl
  | .k _ => rfl
  | .sc _ => rfl
  | .rl _ _ _ _ => by simp only [X.ren, X.den, Aw.ren]; rw [renE_none f _ nms_rows]
  | .rn _ _ _ _ _ => by simp only [X.ren, X.den, Aw.ren]; rw [renE_none f _ nms_rowsN]
  | .rows _ _ _ => rfl
  | .slv _ _ _ _ _ => rfl
  | .ptrv _ _ _ _ => rfl
  | .agg cs => by simp only [X.ren, X.den, Aw.ren, X.renL_den ρ cs]
  | .tup cs => by simp only [X.ren, X.den, Aw.ren, X.renL_den ρ cs]
  | .ip cs _ _ => by simp only [X.ren, X.den, Aw.ren, X.renL_den ρ cs]
  | .ro _ es _ => by simp only [X.ren, X.den, Aw.ren, X.renE_den ρ es]
  | .fn _ xs ys => by simp only [X.ren, X.den, Aw.ren, X.renL_den ρ xs, X.renL_den ρ ys]
  | .ptr _ _ _ => rfl
  | .sl _ _ _ _ _ => rfl
  | .gd c x => by
    simp only [X.ren, X.den]
    split
    · exact X.ren_den ρ x
    · rfl
theorem X.renL_den {f : Nm → Nm} (ρ : Rho) : ∀ l : List X, X.denL ρ (X.renL f l) = Aw.renL f (X.denL ρ l)
  | [] => rfl
  | x :: xs => by simp only [X.renL, X.denL, Aw.renL, X.ren_den ρ x, X.renL_den ρ xs]
theorem X.renE_den {f : Nm → Nm} (ρ : Rho) : ∀ l : List (List X), X.denE ρ (X.renE f l) = Aw.renE f (X.denE ρ l)
  | [] => rfl
  | x :: xs => by simp only [X.renE, X.denE, Aw.renE, X.renL_den ρ x, X.renE_den ρ xs]
end
mutual
def X.names : X → List Nm
  | .top | .k _ | .sc _ | .rl _ _ _ _ | .rows _ _ _ | .rn _ _ _ _ _ => []
  | .slv n _ _ _ _ => [n]
  | .ptrv n _ _ _ => [n]
  | .agg cs | .tup cs | .ip cs _ _ => X.namesL cs
  | .ptr n _ _ => [n]
  | .sl n _ _ _ _ => [n]
  | .ro _ es _ => X.namesE es
  | .fn _ xs ys => X.namesL xs ++ X.namesL ys
  | .gd _ x => x.names
def X.namesL : List X → List Nm
  | [] => []
  | x :: xs => x.names ++ X.namesL xs
def X.namesE : List (List X) → List Nm
  | [] => []
  | e :: es => X.namesL e ++ X.namesE es
end
theorem nmsL_flat {p : Nm → Bool} : ∀ {es : List (List AV)}, nmsE p es = true → Aw.nmsL p es.flatten = true
  | [], _ => rfl
  | e :: es, h => by
    simp only [nmsE, Bool.and_eq_true] at h
    have app : ∀ (a b : List AV), Aw.nmsL p a = true → Aw.nmsL p b = true → Aw.nmsL p (a ++ b) = true := fun a b ha hb => by
      induction a with
      | nil => exact hb
      | cons x a ih =>
        simp only [Aw.nmsL, Bool.and_eq_true] at ha
        simp only [List.cons_append, Aw.nmsL, Bool.and_eq_true]
        exact ⟨ha.1, ih ha.2⟩
    rw [List.flatten_cons]
    exact app _ _ h.1 (nmsL_flat h.2)
theorem X.nmsO_den {p : Nm → Bool} (ρ : Rho) (cs : List X) (h : X.nmsL p cs = true) : Aw.nmsL p (denO ρ cs) = true := by
  unfold denO
  split
  · exact nmsL_flat nms_rows
  · exact X.nmsL_den ρ cs h
theorem X.renO_den {f : Nm → Nm} (ρ : Rho) (cs : List X) : denO ρ (X.renL f cs) = Aw.renL f (denO ρ cs) := by
  by_cases h : isRows cs = true
  · unfold isRows at h
    split at h
    · rename_i z n l
      have e : X.renL f [.rows z n l] = [.rows z n l] := rfl
      rw [e, renL_none f _ (by simp only [denO]; exact nmsL_flat nms_rows)]
    · cases h
  · have h1 : isRows cs = false := by simpa using h
    have h2 : isRows (X.renL f cs) = false := by
      match cs, h1 with
      | [], _ => rfl
      | [x], h1 => cases x <;> first | rfl | (simp [isRows] at h1)
      | x :: y :: r, _ =>
        simp only [X.renL]
        unfold isRows
        split
        · rename_i heq; simp at heq
        · rfl
    rw [denO_of h1, denO_of h2, X.renL_den]
end Go.Proofs.Xw

/- Symbolic runs, part 19: letters that are put anew at each round of a loop; a state under a loop's pattern. -/
namespace Go.Proofs.Xw
open Go Go.Proofs.Aw

/-! ### Letters below a number -/
structure Agree (n : Nat) (ρ ρ' : Rho) : Prop where
  i : ∀ k, k < n → ρ.i k = ρ'.i k
  b : ∀ k, k < n → ρ.b k = ρ'.b k
  s : ∀ k, k < n → ρ.s k = ρ'.s k
  len : ∀ k, k < n → ρ.len k = ρ'.len k
  ci : ∀ k, k < n → ρ.ci k = ρ'.ci k
  cb : ∀ k, k < n → ρ.cb k = ρ'.cb k
  cs : ∀ k, k < n → ρ.cs k = ρ'.cs k
theorem Agree.refl (n : Nat) (ρ : Rho) : Agree n ρ ρ := ⟨fun _ _ => rfl, fun _ _ => rfl, fun _ _ => rfl, fun _ _ => rfl, fun _ _ => rfl, fun _ _ => rfl, fun _ _ => rfl⟩
theorem Agree.symm {n : Nat} {ρ ρ' : Rho} (h : Agree n ρ ρ') : Agree n ρ' ρ :=
  ⟨fun k hk => (h.i k hk).symm, fun k hk => (h.b k hk).symm, fun k hk => (h.s k hk).symm, fun k hk => (h.len k hk).symm, fun k hk => (h.ci k hk).symm, fun k hk => (h.cb k hk).symm, fun k hk => (h.cs k hk).symm⟩
theorem Agree.trans {n : Nat} {a b c : Rho} (h : Agree n a b) (k : Agree n b c) : Agree n a c :=
  ⟨fun j hj => (h.i j hj).trans (k.i j hj), fun j hj => (h.b j hj).trans (k.b j hj), fun j hj => (h.s j hj).trans (k.s j hj), fun j hj => (h.len j hj).trans (k.len j hj), fun j hj => (h.ci j hj).trans (k.ci j hj), fun j hj => (h.cb j hj).trans (k.cb j hj), fun j hj => (h.cs j hj).trans (k.cs j hj)⟩
theorem Agree.le {m n : Nat} {ρ ρ' : Rho} (h : Agree n ρ ρ') (hm : m ≤ n) : Agree m ρ ρ' :=
  ⟨fun k hk => h.i k (by omega), fun k hk => h.b k (by omega), fun k hk => h.s k (by omega), fun k hk => h.len k (by omega), fun k hk => h.ci k (by omega), fun k hk => h.cb k (by omega), fun k hk => h.cs k (by omega)⟩
mutual
def IE.bel (n : Nat) : IE → Bool
  | .lit _ => true
  | .var i => Nat.blt i n
  | .cl l _ j => Nat.blt l n && j.bel n
  | .len l => Nat.blt l n
  | .slen t => t.bel n
  | .byt t j => t.bel n && j.bel n
  | .op _ _ a b => a.bel n && b.bel n
  | .ite c a b => c.bel n && (a.bel n && b.bel n)
def BE.bel (n : Nat) : BE → Bool
  | .lit _ => true
  | .var i => Nat.blt i n
  | .cl l _ j => Nat.blt l n && j.bel n
  | .lt a b => a.bel n && b.bel n
  | .eq a b => a.bel n && b.bel n
  | .seq a b => a.bel n && b.bel n
  | .slt a b => a.bel n && b.bel n
  | .not a => a.bel n
  | .and a b => a.bel n && b.bel n
  | .or a b => a.bel n && b.bel n
  | .ite c a b => c.bel n && (a.bel n && b.bel n)
def TE.bel (n : Nat) : TE → Bool
  | .lit _ => true
  | .var i => Nat.blt i n
  | .cl l _ j => Nat.blt l n && j.bel n
  | .sub t a b => t.bel n && (a.bel n && b.bel n)
  | .ite c a b => c.bel n && (a.bel n && b.bel n)
end
mutual
theorem IE.bel_den {n : Nat} {ρ ρ' : Rho} (h : Agree n ρ ρ') : ∀ e : IE, e.bel n = true → e.den ρ = e.den ρ'
  | .lit _, _ => rfl
  | .var i, hb => h.i i (by simpa [IE.bel] using hb)
  | .cl l k j, hb => by
    simp only [IE.bel, Bool.and_eq_true] at hb
    simp only [IE.den, IE.bel_den h j hb.2, h.ci l (by simpa using hb.1)]
  | .len l, hb => by simp only [IE.den, h.len l (by simpa [IE.bel] using hb)]
  | .slen t, hb => by simp only [IE.den, TE.bel_den h t hb]
  | .byt t j, hb => by
    simp only [IE.bel, Bool.and_eq_true] at hb
    simp only [IE.den, TE.bel_den h t hb.1, IE.bel_den h j hb.2]
  | .op o k a b, hb => by
    simp only [IE.bel, Bool.and_eq_true] at hb
    simp only [IE.den, IE.bel_den h a hb.1, IE.bel_den h b hb.2]
  | .ite c a b, hb => by
    simp only [IE.bel, Bool.and_eq_true] at hb
    simp only [IE.den, BE.bel_den h c hb.1, IE.bel_den h a hb.2.1, IE.bel_den h b hb.2.2]
theorem BE.bel_den {n : Nat} {ρ ρ' : Rho} (h : Agree n ρ ρ') : ∀ e : BE, e.bel n = true → e.den ρ = e.den ρ'
  | .lit _, _ => rfl
  | .var i, hb => h.b i (by simpa [BE.bel] using hb)
  | .cl l k j, hb => by
    simp only [BE.bel, Bool.and_eq_true] at hb
    simp only [BE.den, IE.bel_den h j hb.2, h.cb l (by simpa using hb.1)]
  | .lt a b, hb => by
    simp only [BE.bel, Bool.and_eq_true] at hb
    simp only [BE.den, IE.bel_den h a hb.1, IE.bel_den h b hb.2]
  | .eq a b, hb => by
    simp only [BE.bel, Bool.and_eq_true] at hb
    simp only [BE.den, IE.bel_den h a hb.1, IE.bel_den h b hb.2]
  | .seq a b, hb => by
    simp only [BE.bel, Bool.and_eq_true] at hb
    simp only [BE.den, TE.bel_den h a hb.1, TE.bel_den h b hb.2]
  | .slt a b, hb => by
    simp only [BE.bel, Bool.and_eq_true] at hb
    simp only [BE.den, TE.bel_den h a hb.1, TE.bel_den h b hb.2]
  | .not a, hb => by simp only [BE.den, BE.bel_den h a hb]
  | .and a b, hb => by
    simp only [BE.bel, Bool.and_eq_true] at hb
    simp only [BE.den, BE.bel_den h a hb.1, BE.bel_den h b hb.2]
  | .or a b, hb => by
    simp only [BE.bel, Bool.and_eq_true] at hb
    simp only [BE.den, BE.bel_den h a hb.1, BE.bel_den h b hb.2]
  | .ite c a b, hb => by
    simp only [BE.bel, Bool.and_eq_true] at hb
    simp only [BE.den, BE.bel_den h c hb.1, BE.bel_den h a hb.2.1, BE.bel_den h b hb.2.2]
theorem TE.bel_den {n : Nat} {ρ ρ' : Rho} (h : Agree n ρ ρ') : ∀ e : TE, e.bel n = true → e.den ρ = e.den ρ'
  | .lit _, _ => rfl
  | .var i, hb => h.s i (by simpa [TE.bel] using hb)
  | .cl l k j, hb => by
    simp only [TE.bel, Bool.and_eq_true] at hb
    simp only [TE.den, IE.bel_den h j hb.2, h.cs l (by simpa using hb.1)]
  | .sub t a b, hb => by
    simp only [TE.bel, Bool.and_eq_true] at hb
    simp only [TE.den, TE.bel_den h t hb.1, IE.bel_den h a hb.2.1, IE.bel_den h b hb.2.2]
  | .ite c a b, hb => by
    simp only [TE.bel, Bool.and_eq_true] at hb
    simp only [TE.den, BE.bel_den h c hb.1, TE.bel_den h a hb.2.1, TE.bel_den h b hb.2.2]
end
def Sc.bel (n : Nat) : Sc → Bool
  | .i _ e => e.bel n
  | .b e => e.bel n
  | .s e => e.bel n
  | .f a z => a.bel n && z.bel n
  | .c a z m y => a.bel n && (z.bel n && (m.bel n && y.bel n))
theorem Sc.bel_den {n : Nat} {ρ ρ' : Rho} (h : Agree n ρ ρ') (s : Sc) (hb : s.bel n = true) : s.den ρ = s.den ρ' := by
  cases s with
  | i k e => simp only [Sc.den, IE.bel_den h e hb]
  | b e => simp only [Sc.den, BE.bel_den h e hb]
  | s e => simp only [Sc.den, TE.bel_den h e hb]
  | f a z =>
    simp only [Sc.bel, Bool.and_eq_true] at hb
    simp only [Sc.den, IE.bel_den h a hb.1, BE.bel_den h z hb.2]
  | c a z m y =>
    simp only [Sc.bel, Bool.and_eq_true] at hb
    simp only [Sc.den, IE.bel_den h a hb.1, BE.bel_den h z hb.2.1, IE.bel_den h m hb.2.2.1, BE.bel_den h y hb.2.2.2]
theorem scL_bel {n : Nat} {ρ ρ' : Rho} (h : Agree n ρ ρ') : ∀ (r : List Sc), r.all (Sc.bel n) = true → scL ρ r = scL ρ' r
  | [], _ => rfl
  | s :: r, hb => by
    simp only [List.all_cons, Bool.and_eq_true] at hb
    have ih := scL_bel h r hb.2
    simp only [scL] at ih
    simp only [scL, List.map_cons, Sc.bel_den h s hb.1, ih]
theorem cellsV_agree {n : Nat} {ρ ρ' : Rho} (h : Agree n ρ ρ') {l : Nat} (hl : l < n) (j : Nat) : ∀ (ks : List Kd) (k : Nat), cellsV ρ l k ks j = cellsV ρ' l k ks j
  | [], _ => rfl
  | .i K :: ks, k => by simp only [cellsV, h.ci l hl, cellsV_agree h hl j ks (k + 1)]
  | .b :: ks, k => by simp only [cellsV, h.cb l hl, cellsV_agree h hl j ks (k + 1)]
  | .s :: ks, k => by simp only [cellsV, h.cs l hl, cellsV_agree h hl j ks (k + 1)]
def RL.bel (n : Nat) : RL → Bool
  | .var l _ => Nat.blt l n
  | .one r => r.all (Sc.bel n)
  | .app m a b => m.bel n && (a.bel n && b.bel n)
  | .drop m a => m.bel n && a.bel n
  | .upd i r a => i.bel n && (r.all (Sc.bel n) && a.bel n)
  | .ite c a b => c.bel n && (a.bel n && b.bel n)
theorem RL.bel_row {n : Nat} {ρ ρ' : Rho} (h : Agree n ρ ρ') : ∀ (l : RL) (j : Int), l.bel n = true → l.row ρ j = l.row ρ' j
  | .var l ks, j, hb => cellsV_agree h (by simpa [RL.bel] using hb) _ ks 0
  | .one r, j, hb => scL_bel h r hb
  | .app m a b, j, hb => by
    simp only [RL.bel, Bool.and_eq_true] at hb
    simp only [RL.row, IE.bel_den h m hb.1, RL.bel_row h a _ hb.2.1, RL.bel_row h b _ hb.2.2]
  | .drop m a, j, hb => by
    simp only [RL.bel, Bool.and_eq_true] at hb
    simp only [RL.row, IE.bel_den h m hb.1, RL.bel_row h a _ hb.2]
  | .upd i r a, j, hb => by
    simp only [RL.bel, Bool.and_eq_true] at hb
    simp only [RL.row, IE.bel_den h i hb.1, scL_bel h r hb.2.1, RL.bel_row h a _ hb.2.2]
  | .ite c a b, j, hb => by
    simp only [RL.bel, Bool.and_eq_true] at hb
    simp only [RL.row, BE.bel_den h c hb.1, RL.bel_row h a _ hb.2.1, RL.bel_row h b _ hb.2.2]
theorem rowsD_bel {n : Nat} {ρ ρ' : Rho} (h : Agree n ρ ρ') {m : IE} {l : RL} (hm : m.bel n = true) (hl : l.bel n = true) : rowsD ρ m l = rowsD ρ' m l := by
  unfold rowsD
  rw [IE.bel_den h m hm]
  congr 1
  funext j
  exact RL.bel_row h l j hl
def nkBel (n : Nat) : List Nk → Bool
  | [] => true
  | .f _ :: ks => nkBel n ks
  | .r _ S _ :: ks => Nat.blt S n && nkBel n ks
theorem cellsN_agree {n : Nat} {ρ ρ' : Rho} (h : Agree n ρ ρ') {l : Nat} (hl : l < n) (j : Nat) : ∀ (ks : List Nk) (k : Nat), nkBel n ks = true → cellsN ρ l k ks j = cellsN ρ' l k ks j
  | [], _, _ => rfl
  | .f kd :: ks, k, hb => by
    simp only [cellsN, cellsN_agree h hl j ks (k + 1) hb]
    congr 1
    cases kd
    · simp only [cellV1, h.ci l hl]
    · simp only [cellV1, h.cb l hl]
    · simp only [cellV1, h.cs l hl]
  | .r z S kk :: ks, k, hb => by
    simp only [nkBel, Bool.and_eq_true] at hb
    simp only [cellsN, cellsN_agree h hl j ks (k + 1) hb.2, rowsS, h.ci l hl]
    congr 2
    congr 1
    funext e
    exact cellsV_agree h (by simpa using hb.1) _ kk 0
theorem rowsN_bel {n : Nat} {ρ ρ' : Rho} (h : Agree n ρ ρ') {m : IE} {l : Nat} {ks : List Nk} (hm : m.bel n = true) (hl : Nat.blt l n = true) (hk : nkBel n ks = true) : rowsN ρ m l ks = rowsN ρ' m l ks := by
  unfold rowsN
  rw [IE.bel_den h m hm]
  congr 1
  funext j
  exact cellsN_agree h (by simpa using hl) j ks 0 hk
def asBel (n : Nat) : List (BE × Nat) → Bool
  | [] => true
  | (c, _) :: r => c.bel n && asBel n r
theorem choose_bel {n : Nat} {ρ ρ' : Rho} (h : Agree n ρ ρ') (d : Nat) : ∀ as, asBel n as = true → choose ρ as d = choose ρ' as d
  | [], _ => rfl
  | (c, o) :: r, hb => by
    simp only [asBel, Bool.and_eq_true] at hb
    simp only [choose, BE.bel_den h c hb.1, choose_bel h d r hb.2]
mutual
def X.bel (n : Nat) : X → Bool
  | .top | .k _ => true
  | .sc s => s.bel n
  | .agg cs | .tup cs => X.belL n cs
  | .ptr _ as _ => asBel n as
  | .sl _ _ _ _ _ => true
  | .ip cs as _ => X.belL n cs && asBel n as
  | .ro _ es _ => X.belE n es
  | .rl _ m l _ => m.bel n && l.bel n
  | .rn _ m l ks _ => m.bel n && (Nat.blt l n && nkBel n ks)
  | .fn _ xs ys => X.belL n xs && X.belL n ys
  | .gd c x => c.bel n && x.bel n
  | .rows _ m l => m.bel n && l.bel n
  | .slv _ _ o l _ => o.bel n && l.bel n
  | .ptrv _ _ j _ => j.bel n
def X.belL (n : Nat) : List X → Bool
  | [] => true
  | x :: xs => x.bel n && X.belL n xs
def X.belE (n : Nat) : List (List X) → Bool
  | [] => true
  | e :: es => X.belL n e && X.belE n es
end
mutual
theorem X.bel_den {n : Nat} {ρ ρ' : Rho} (h : Agree n ρ ρ') : ∀ x : X, x.bel n = true → x.den ρ = x.den ρ'
  | .top, _ => rfl
  | .k _, _ => rfl
  | .sc s, hb => by simp only [X.den, Sc.bel_den h s hb]
  | .agg cs, hb => by simp only [X.den, X.belL_den h cs hb]
  | .tup cs, hb => by simp only [X.den, X.belL_den h cs hb]
  | .ptr _ as d, hb => by simp only [X.den, choose_bel h d as hb]
  | .sl _ _ _ _ _, _ => rfl
  | .ip cs as d, hb => by
    simp only [X.bel, Bool.and_eq_true] at hb
    simp only [X.den, X.belL_den h cs hb.1, choose_bel h d as hb.2]
  | .ro _ es _, hb => by simp only [X.den, X.belE_den h es hb]
  | .rl _ m l _, hb => by
    simp only [X.bel, Bool.and_eq_true] at hb
    simp only [X.den, rowsD_bel h hb.1 hb.2]
  | .rn _ m l ks _, hb => by
    simp only [X.bel, Bool.and_eq_true] at hb
    simp only [X.den, rowsN_bel h hb.1 hb.2.1 hb.2.2]
  | .fn _ xs ys, hb => by
    simp only [X.bel, Bool.and_eq_true] at hb
    simp only [X.den, X.belL_den h xs hb.1, X.belL_den h ys hb.2]
  | .gd c x, hb => by
    simp only [X.bel, Bool.and_eq_true] at hb
    simp only [X.den, BE.bel_den h c hb.1, X.bel_den h x hb.2]
  | .rows _ _ _, _ => rfl
  | .slv _ _ o l _, hb => by
    simp only [X.bel, Bool.and_eq_true] at hb
    simp only [X.den, IE.bel_den h o hb.1, IE.bel_den h l hb.2]
  | .ptrv _ _ j _, hb => by
    simp only [X.den, IE.bel_den h j hb]
theorem X.belL_den {n : Nat} {ρ ρ' : Rho} (h : Agree n ρ ρ') : ∀ l : List X, X.belL n l = true → X.denL ρ l = X.denL ρ' l
  | [], _ => rfl
  | x :: xs, hb => by
    simp only [X.belL, Bool.and_eq_true] at hb
    simp only [X.denL, X.bel_den h x hb.1, X.belL_den h xs hb.2]
theorem X.belE_den {n : Nat} {ρ ρ' : Rho} (h : Agree n ρ ρ') : ∀ l : List (List X), X.belE n l = true → X.denE ρ l = X.denE ρ' l
  | [], _ => rfl
  | x :: xs, hb => by
    simp only [X.belE, Bool.and_eq_true] at hb
    simp only [X.denE, X.belL_den h x hb.1, X.belE_den h xs hb.2]
end
theorem denO_bel {n : Nat} {ρ ρ' : Rho} (h : Agree n ρ ρ') (cs : List X) (hb : X.belL n cs = true) : denO ρ cs = denO ρ' cs := by
  unfold denO
  split
  · simp only [X.belL, X.bel, Bool.and_eq_true] at hb
    simp only [rowsD_bel h hb.1.1 hb.1.2]
  · exact X.belL_den h cs hb
def XS.bel (n : Nat) (s : XS) : Bool := s.t.all (fun p => p.2.bel n) && s.h.all fun p => X.belL n p.2
theorem XS.bel_den {n : Nat} {ρ ρ' : Rho} (h : Agree n ρ ρ') (s : XS) (hb : s.bel n = true) : s.den ρ = s.den ρ' := by
  simp only [XS.bel, Bool.and_eq_true, List.all_eq_true] at hb
  simp only [XS.den, denT, denH]
  congr 1
  · exact List.map_congr_left fun p hp => by rw [X.bel_den h p.2 (hb.1 p hp)]
  · exact List.map_congr_left fun p hp => by rw [denO_bel h p.2 (hb.2 p hp)]

/-! ### Letters that are put anew -/
structure Bind where
  i : List (Nat × IE)
  b : List (Nat × BE)
  s : List (Nat × TE)
  r : List (Nat × IE × RL)
def lassoc {α : Type} (k : Nat) : List (Nat × α) → Option α
  | [] => none
  | (j, v) :: r => if Nat.beq j k = true then some v else lassoc k r
def cellI : Option AV → Int
  | some (.sc (.int _ v)) => v
  | _ => 0
def cellB : Option AV → Bool
  | some (.sc (.bool v)) => v
  | _ => false
def cellS : Option AV → ByteArray
  | some (.sc (.string v)) => v
  | _ => ⟨#[]⟩
def Bind.ap (β : Bind) (ρ : Rho) : Rho where
  i k := match lassoc k β.i with | some e => e.den ρ | none => ρ.i k
  b k := match lassoc k β.b with | some e => e.den ρ | none => ρ.b k
  s k := match lassoc k β.s with | some e => e.den ρ | none => ρ.s k
  len k := match lassoc k β.r with | some (n, _) => (n.den ρ).toNat | none => ρ.len k
  ci l k j := match lassoc l β.r with | some (_, r) => cellI (r.row ρ j)[k]? | none => ρ.ci l k j
  cb l k j := match lassoc l β.r with | some (_, r) => cellB (r.row ρ j)[k]? | none => ρ.cb l k j
  cs l k j := match lassoc l β.r with | some (_, r) => cellS (r.row ρ j)[k]? | none => ρ.cs l k j
def keysGe {α : Type} (n : Nat) : List (Nat × α) → Bool
  | [] => true
  | (j, _) :: r => Nat.ble n j && keysGe n r
theorem lassoc_ge {α : Type} {n k : Nat} : ∀ {l : List (Nat × α)}, keysGe n l = true → k < n → lassoc k l = none
  | [], _, _ => rfl
  | (j, v) :: r, h, hk => by
    simp only [keysGe, Bool.and_eq_true, Nat.ble_eq] at h
    simp only [lassoc]
    rw [if_neg (by simp; omega)]
    exact lassoc_ge h.2 hk
def Bind.ge (n : Nat) (β : Bind) : Bool := keysGe n β.i && (keysGe n β.b && (keysGe n β.s && keysGe n β.r))
theorem Bind.agree {n : Nat} {β : Bind} (h : β.ge n = true) (ρ : Rho) : Agree n ρ (β.ap ρ) := by
  simp only [Bind.ge, Bool.and_eq_true] at h
  obtain ⟨h1, h2, h3, h4⟩ := h
  refine ⟨fun k hk => ?_, fun k hk => ?_, fun k hk => ?_, fun k hk => ?_, fun k hk => ?_, fun k hk => ?_, fun k hk => ?_⟩
  · simp only [Bind.ap, lassoc_ge h1 hk]
  · simp only [Bind.ap, lassoc_ge h2 hk]
  · simp only [Bind.ap, lassoc_ge h3 hk]
  · simp only [Bind.ap, lassoc_ge h4 hk]
  · funext a b; simp only [Bind.ap, lassoc_ge h4 hk]
  · funext a b; simp only [Bind.ap, lassoc_ge h4 hk]
  · funext a b; simp only [Bind.ap, lassoc_ge h4 hk]
/-- It is no negative number. -/
def IE.nn : IE → Bool
  | .lit n => decide (0 ≤ n)
  | .len _ | .slen _ | .byt _ _ => true
  | .op .padd _ a b => a.nn && b.nn
  | .ite _ a b => a.nn && b.nn
  | _ => false
theorem IE.nn_den (ρ : Rho) : ∀ e : IE, e.nn = true → 0 ≤ e.den ρ
  | .lit n, h => by simpa [IE.nn, IE.den] using h
  | .len l, _ => by simp only [IE.den]; omega
  | .slen t, _ => by simp only [IE.den]; omega
  | .byt t j, _ => by simp only [IE.den]; omega
  | .op .padd k a b, h => by
    simp only [IE.nn, Bool.and_eq_true] at h
    have h1 := IE.nn_den ρ a h.1
    have h2 := IE.nn_den ρ b h.2
    simp only [IE.den, IOp.den]; omega
  | .ite c a b, h => by
    simp only [IE.nn, Bool.and_eq_true] at h
    simp only [IE.den]
    split
    · exact IE.nn_den ρ a h.1
    · exact IE.nn_den ρ b h.2
/-- The rows' cells are of these kinds. -/
def scKd : Kd → Sc → Bool
  | .i k, .i k' _ => kbeq k k'
  | .b, .b _ => true
  | .s, .s _ => true
  | _, _ => false
def scKds : List Kd → List Sc → Bool
  | [], [] => true
  | k :: ks, s :: ss => scKd k s && scKds ks ss
  | _, _ => false
def RL.kd (ks : List Kd) : RL → Bool
  | .var _ ks' => lbeq kdbeq ks ks'
  | .one r => scKds ks r
  | .app _ a b => a.kd ks && b.kd ks
  | .drop _ a => a.kd ks
  | .upd _ r a => scKds ks r && a.kd ks
  | .ite _ a b => a.kd ks && b.kd ks
/-- Cells of these kinds. -/
def avKds : List Kd → List AV → Prop
  | [], l => l = []
  | .i k :: ks, l => ∃ v r, l = .sc (.int k v) :: r ∧ avKds ks r
  | .b :: ks, l => ∃ v r, l = .sc (.bool v) :: r ∧ avKds ks r
  | .s :: ks, l => ∃ v r, l = .sc (.string v) :: r ∧ avKds ks r
theorem scKds_av {ρ : Rho} : ∀ {ks : List Kd} {r : List Sc}, scKds ks r = true → avKds ks (scL ρ r)
  | [], [], _ => rfl
  | [], _ :: _, h => by cases h
  | _ :: _, [], h => by simp [scKds] at h
  | k :: ks, s :: r, h => by
    simp only [scKds, Bool.and_eq_true] at h
    have ih := scKds_av (ρ := ρ) h.2
    have h1 := h.1
    cases k <;> cases s <;> simp only [scKd, Bool.false_eq_true] at h1
    · rw [kbeq_eq h1]; exact ⟨_, _, rfl, ih⟩
    · exact ⟨_, _, rfl, ih⟩
    · exact ⟨_, _, rfl, ih⟩
theorem cellsV_av (ρ : Rho) (l j : Nat) : ∀ (ks : List Kd) (k : Nat), avKds ks (cellsV ρ l k ks j)
  | [], _ => rfl
  | .i _ :: ks, k => ⟨_, _, rfl, cellsV_av ρ l j ks (k + 1)⟩
  | .b :: ks, k => ⟨_, _, rfl, cellsV_av ρ l j ks (k + 1)⟩
  | .s :: ks, k => ⟨_, _, rfl, cellsV_av ρ l j ks (k + 1)⟩
theorem RL.kd_av {ρ : Rho} {ks : List Kd} : ∀ {l : RL} {j : Int}, l.kd ks = true → avKds ks (l.row ρ j)
  | .var l ks', j, h => by
    have := lbeq_eq (fun _ _ => kdbeq_eq) h
    subst this
    exact cellsV_av ρ l _ _ 0
  | .one r, j, h => scKds_av h
  | .app n a b, j, h => by
    simp only [RL.kd, Bool.and_eq_true] at h
    simp only [RL.row]
    split
    · exact RL.kd_av h.1
    · exact RL.kd_av h.2
  | .drop n a, j, h => by simp only [RL.row]; exact RL.kd_av (l := a) h
  | .upd i r a, j, h => by
    simp only [RL.kd, Bool.and_eq_true] at h
    simp only [RL.row]
    split
    · exact scKds_av h.1
    · exact RL.kd_av h.2
  | .ite c a b, j, h => by
    simp only [RL.kd, Bool.and_eq_true] at h
    simp only [RL.row]
    split
    · exact RL.kd_av h.1
    · exact RL.kd_av h.2
/-- A letter's rows, where the letter is put. -/
theorem cellsV_put {ρ ρ' : Rho} {l j : Nat} {row : List AV} (hi : ∀ k, ρ'.ci l k j = cellI row[k]?) (hb : ∀ k, ρ'.cb l k j = cellB row[k]?) (hs : ∀ k, ρ'.cs l k j = cellS row[k]?) :
    ∀ (ks : List Kd) (k : Nat) (tl : List AV), (∀ i, tl[i]? = row[k + i]?) → avKds ks tl → cellsV ρ' l k ks j = tl
  | [], k, tl, _, h => by simp only [avKds] at h; subst h; rfl
  | .i K :: ks, k, tl, ht, h => by
    obtain ⟨v, r, rfl, h⟩ := h
    have h0 := ht 0
    simp only [List.getElem?_cons_zero, Nat.add_zero] at h0
    simp only [cellsV, hi, ← h0, cellI, cellsV_put (ρ := ρ) hi hb hs ks (k + 1) r (fun i => by have := ht (i + 1); rw [List.getElem?_cons_succ] at this; rw [this]; congr 1; omega) h]
  | .b :: ks, k, tl, ht, h => by
    obtain ⟨v, r, rfl, h⟩ := h
    have h0 := ht 0
    simp only [List.getElem?_cons_zero, Nat.add_zero] at h0
    simp only [cellsV, hb, ← h0, cellB, cellsV_put (ρ := ρ) hi hb hs ks (k + 1) r (fun i => by have := ht (i + 1); rw [List.getElem?_cons_succ] at this; rw [this]; congr 1; omega) h]
  | .s :: ks, k, tl, ht, h => by
    obtain ⟨v, r, rfl, h⟩ := h
    have h0 := ht 0
    simp only [List.getElem?_cons_zero, Nat.add_zero] at h0
    simp only [cellsV, hs, ← h0, cellS, cellsV_put (ρ := ρ) hi hb hs ks (k + 1) r (fun i => by have := ht (i + 1); rw [List.getElem?_cons_succ] at this; rw [this]; congr 1; omega) h]
theorem Bind.rows {β : Bind} {ρ : Rho} {l : Nat} {n : IE} {r : RL} {ks : List Kd} (h : lassoc l β.r = some (n, r)) (hk : r.kd ks = true) (j : Nat) : cellsV (β.ap ρ) l 0 ks j = r.row ρ j :=
  cellsV_put (ρ := ρ) (row := r.row ρ j) (fun k => by simp only [Bind.ap, h]) (fun k => by simp only [Bind.ap, h]) (fun k => by simp only [Bind.ap, h]) ks 0 _ (fun i => by rw [Nat.zero_add]) (RL.kd_av hk)
end Go.Proofs.Xw

/- Symbolic runs, part 21: when a state fits a pattern; what is shown of a loop once. -/
namespace Go.Proofs.Xw
open Go Go.Proofs.Aw

/-! ### A value fits a pattern -/
/-- The letters below n stay; those from n on are put by β. -/
def okI (n : Nat) (β : Bind) (p e : IE) : Bool :=
  match p with
  | .var v => if Nat.ble n v = true then (match lassoc v β.i with | some e' => e'.beq e | none => false) else e.beq (.var v)
  | .len l => if Nat.ble n l = true then (match lassoc l β.r with | some (m, _) => m.beq e && m.nn | none => false) else e.beq (.len l)
  | p => p.bel n && p.beq e
def okB (n : Nat) (β : Bind) (p e : BE) : Bool :=
  match p with
  | .var v => if Nat.ble n v = true then (match lassoc v β.b with | some e' => e'.beq e | none => false) else e.beq (.var v)
  | p => p.bel n && p.beq e
def okT (n : Nat) (β : Bind) (p e : TE) : Bool :=
  match p with
  | .var v => if Nat.ble n v = true then (match lassoc v β.s with | some e' => e'.beq e | none => false) else e.beq (.var v)
  | p => p.bel n && p.beq e
section
variable {n : Nat} {β : Bind} (hg : β.ge n = true) {ρ : Rho}
include hg
theorem okI_den {p e : IE} (h : okI n β p e = true) : p.den (β.ap ρ) = e.den ρ := by
  unfold okI at h
  split at h
  · rename_i v
    split at h
    · split at h
      · rename_i e' he
        rw [← IE.beq_eq _ _ h]
        simp only [IE.den, Bind.ap, he]
      · cases h
    · rename_i hv
      rw [IE.beq_eq _ _ h]
      exact ((Bind.agree hg ρ).i v (by simpa using hv)).symm
  · rename_i l
    split at h
    · split at h
      · rename_i m r he
        simp only [Bool.and_eq_true] at h
        rw [← IE.beq_eq _ _ h.1]
        have := IE.nn_den ρ m h.2
        simp only [IE.den, Bind.ap, he]
        omega
      · cases h
    · rename_i hv
      rw [IE.beq_eq _ _ h]
      simp only [IE.den, (Bind.agree hg ρ).len l (by simpa using hv)]
  · simp only [Bool.and_eq_true] at h
    rw [← IE.beq_eq _ _ h.2]
    exact (IE.bel_den (Bind.agree hg ρ) _ h.1).symm
theorem okB_den {p e : BE} (h : okB n β p e = true) : p.den (β.ap ρ) = e.den ρ := by
  unfold okB at h
  split at h
  · rename_i v
    split at h
    · split at h
      · rename_i e' he
        rw [← BE.beq_eq _ _ h]
        simp only [BE.den, Bind.ap, he]
      · cases h
    · rename_i hv
      rw [BE.beq_eq _ _ h]
      exact ((Bind.agree hg ρ).b v (by simpa using hv)).symm
  · simp only [Bool.and_eq_true] at h
    rw [← BE.beq_eq _ _ h.2]
    exact (BE.bel_den (Bind.agree hg ρ) _ h.1).symm
theorem okT_den {p e : TE} (h : okT n β p e = true) : p.den (β.ap ρ) = e.den ρ := by
  unfold okT at h
  split at h
  · rename_i v
    split at h
    · split at h
      · rename_i e' he
        rw [← TE.beq_eq _ _ h]
        simp only [TE.den, Bind.ap, he]
      · cases h
    · rename_i hv
      rw [TE.beq_eq _ _ h]
      exact ((Bind.agree hg ρ).s v (by simpa using hv)).symm
  · simp only [Bool.and_eq_true] at h
    rw [← TE.beq_eq _ _ h.2]
    exact (TE.bel_den (Bind.agree hg ρ) _ h.1).symm
end
def okC (n : Nat) (β : Bind) : Sc → Sc → Bool
  | .i k p, .i k' e => kbeq k k' && okI n β p e
  | .b p, .b e => okB n β p e
  | .s p, .s e => okT n β p e
  | .f p z, .f e y => okI n β p e && okB n β z y
  | .c p z q w, .c e y d v => okI n β p e && (okB n β z y && (okI n β q d && okB n β w v))
  | _, _ => false
theorem okC_den {n : Nat} {β : Bind} (hg : β.ge n = true) {ρ : Rho} {p e : Sc} (h : okC n β p e = true) : p.den (β.ap ρ) = e.den ρ := by
  unfold okC at h
  split at h
  · simp only [Bool.and_eq_true] at h
    simp only [Sc.den, kbeq_eq h.1, okI_den hg h.2]
  · simp only [Sc.den, okB_den hg h]
  · simp only [Sc.den, okT_den hg h]
  · simp only [Bool.and_eq_true] at h
    simp only [Sc.den, okI_den hg h.1, okB_den hg h.2]
  · simp only [Bool.and_eq_true] at h
    simp only [Sc.den, okI_den hg h.1, okB_den hg h.2.1, okI_den hg h.2.2.1, okB_den hg h.2.2.2]
  · cases h
def okRL (n : Nat) (β : Bind) (p e : RL) : Bool :=
  match p with
  | .var l ks => if Nat.ble n l = true then (match lassoc l β.r with | some (_, r) => r.beq e && r.kd ks | none => false) else e.beq (.var l ks)
  | p => p.bel n && p.beq e
theorem okRL_row {n : Nat} {β : Bind} (hg : β.ge n = true) {ρ : Rho} {p e : RL} (h : okRL n β p e = true) (j : Nat) : p.row (β.ap ρ) j = e.row ρ j := by
  unfold okRL at h
  split at h
  · rename_i l ks
    split at h
    · split at h
      · rename_i m r he
        simp only [Bool.and_eq_true] at h
        rw [← RL.beq_eq h.1]
        simp only [RL.row, Int.toNat_natCast]
        exact Bind.rows he h.2 j
      · cases h
    · rename_i hv
      rw [RL.beq_eq h]
      exact (RL.bel_row (Bind.agree hg ρ) (.var l ks) j (by simp only [RL.bel]; simpa using hv)).symm
  · simp only [Bool.and_eq_true] at h
    rw [← RL.beq_eq h.2]
    exact (RL.bel_row (Bind.agree hg ρ) _ j h.1).symm
theorem okRows {n : Nat} {β : Bind} (hg : β.ge n = true) {ρ : Rho} {m m' : IE} {p e : RL} (hm : okI n β m m' = true) (h : okRL n β p e = true) : rowsD (β.ap ρ) m p = rowsD ρ m' e := by
  unfold rowsD
  rw [okI_den hg hm]
  congr 1
  funext j
  exact okRL_row hg h j
/-- Concrete rows under a pattern. -/
def okRws (n : Nat) (β : Bind) (m : IE) (p : RL) (es : List (List X)) : Bool :=
  okI n β m (.lit es.length) && match es with
    | [] => true
    | es => match toRL es with
      | some e => okRL n β p e
      | none => false
theorem okRws_den {n : Nat} {β : Bind} (hg : β.ge n = true) {ρ : Rho} {m : IE} {p : RL} {es : List (List X)} (h : okRws n β m p es = true) : rowsD (β.ap ρ) m p = X.denE ρ es := by
  unfold okRws at h
  simp only [Bool.and_eq_true] at h
  obtain ⟨h1, h2⟩ := h
  split at h2
  · have := okI_den hg (ρ := ρ) h1
    simp only [IE.den, List.length_nil] at this
    simp [rowsD, this, X.denE]
  · split at h2
    · rename_i e he
      rw [okRows hg h1 h2, toRL_den he]
    · cases h2
mutual
/-- The pattern p, with other names, says of the letters put anew what e says. -/
def okX (n : Nat) (β : Bind) (φ : Nm → Nm) : X → X → Bool
  | .sc p, .sc e => okC n β p e
  | .agg cs, .agg ds => okXL n β φ cs ds
  | .tup cs, .tup ds => okXL n β φ cs ds
  | .sl a z o l w, .sl a' z' o' l' w' => nmbeq (φ a) a' && (Nat.beq z z' && (Nat.beq o o' && (Nat.beq l l' && w == w')))
  | .slv a z o l w, .slv a' z' o' l' w' => nmbeq (φ a) a' && (Nat.beq z z' && (okI n β o o' && (okI n β l l' && w == w')))
  | .slv a z o l w, .sl a' z' o' l' w' => nmbeq (φ a) a' && (Nat.beq z z' && (o.beq (.lit 0) && (Nat.beq o' 0 && (okI n β l (.lit l') && w == w'))))
  | .ptr a as d, .ptr a' as' d' => nmbeq (φ a) a' && (Nat.beq d d' && (asBel n as && lbeq asbeq as as'))
  | .ptrv a z j o, .ptrv a' z' j' o' => nmbeq (φ a) a' && (Nat.beq z z' && (okI n β j j' && Nat.beq o o'))
  | .rl z m l f, .rl z' m' l' f' => Nat.beq z z' && (f == f' && (okI n β m m' && okRL n β l l'))
  | .rl z m l f, .ro z' es f' => Nat.beq z z' && (f == f' && okRws n β m l es)
  | .rn z m l ks f, .rn z' m' l' ks' f' => Nat.beq z z' && (f == f' && (okI n β m m' && (Nat.beq l l' && (lbeq nkbeq ks ks' && (Nat.blt l n && nkBel n ks)))))
  | .ro z es f, .ro z' es' f' => Nat.beq z z' && (f == f' && okXE n β φ es es')
  | .ip cs as d, .ip cs' as' d' => okXL n β φ cs cs' && (Nat.beq d d' && (asBel n as && lbeq asbeq as as'))
  | .fn f xs ys, .fn f' xs' ys' => fnbeq f f' && (okXL n β φ xs xs' && okXL n β φ ys ys')
  | .gd c x, .gd c' x' => okB n β c c' && okX n β φ x x'
  | .k v, .k v' => vbeq v v'
  | .top, .top => true
  | _, _ => false
def okXL (n : Nat) (β : Bind) (φ : Nm → Nm) : List X → List X → Bool
  | [], [] => true
  | a :: as, b :: bs => okX n β φ a b && okXL n β φ as bs
  | _, _ => false
def okXE (n : Nat) (β : Bind) (φ : Nm → Nm) : List (List X) → List (List X) → Bool
  | [], [] => true
  | a :: as, b :: bs => okXL n β φ a b && okXE n β φ as bs
  | _, _ => false
end
theorem renE_rows (φ : Nm → Nm) (ρ : Rho) (n : IE) (l : RL) : Aw.renE φ (rowsD ρ n l) = rowsD ρ n l := renE_none φ _ nms_rows
mutual
theorem okX_den {n : Nat} {β : Bind} (hg : β.ge n = true) {φ : Nm → Nm} {ρ : Rho} : ∀ (p e : X), okX n β φ p e = true → e.den ρ = Aw.ren φ (p.den (β.ap ρ))
  | .sc p, e, h => by
    cases e <;> simp only [okX, Bool.false_eq_true] at h
    simp only [X.den, Aw.ren, okC_den hg h]
  | .agg cs, e, h => by
    cases e <;> simp only [okX, Bool.false_eq_true] at h
    simp only [X.den, Aw.ren, okXL_den hg _ _ h]
  | .tup cs, e, h => by
    cases e <;> simp only [okX, Bool.false_eq_true] at h
    simp only [X.den, Aw.ren, okXL_den hg _ _ h]
  | .sl a z o l w, e, h => by
    cases e <;> simp only [okX, Bool.false_eq_true] at h
    simp only [Bool.and_eq_true, beq_iff_eq] at h
    obtain ⟨h1, h2, h3, h4, h5⟩ := h
    simp only [X.den, Aw.ren, nmbeq_eq h1, Nat.eq_of_beq_eq_true h2, Nat.eq_of_beq_eq_true h3, Nat.eq_of_beq_eq_true h4, h5]
  | .slv a z o l w, e, h => by
    cases e <;> simp only [okX, Bool.false_eq_true] at h
    · simp only [Bool.and_eq_true, beq_iff_eq] at h
      obtain ⟨h1, h2, h3, h4, h5, h6⟩ := h
      have h3 := IE.beq_eq _ _ h3
      have h5 := okI_den hg (ρ := ρ) h5
      subst h3
      simp only [IE.den] at h5
      simp only [X.den, Aw.ren, nmbeq_eq h1, Nat.eq_of_beq_eq_true h2, Nat.eq_of_beq_eq_true h4, h5, h6, IE.den, Int.toNat_zero, Nat.zero_mul, Int.toNat_natCast]
    · simp only [Bool.and_eq_true, beq_iff_eq] at h
      obtain ⟨h1, h2, h3, h4, h5⟩ := h
      simp only [X.den, Aw.ren, nmbeq_eq h1, Nat.eq_of_beq_eq_true h2, okI_den hg h3, okI_den hg h4, h5]
  | .ptr a as d, e, h => by
    cases e <;> simp only [okX, Bool.false_eq_true] at h
    simp only [Bool.and_eq_true] at h
    obtain ⟨h1, h2, h3, h4⟩ := h
    simp only [X.den, Aw.ren, nmbeq_eq h1, Nat.eq_of_beq_eq_true h2, lbeq_eq asbeq_eq h4]
    rw [← lbeq_eq asbeq_eq h4, choose_bel (Bind.agree hg ρ) _ as h3]
  | .ptrv a z j o, e, h => by
    cases e <;> simp only [okX, Bool.false_eq_true] at h
    simp only [Bool.and_eq_true] at h
    obtain ⟨h1, h2, h3, h4⟩ := h
    simp only [X.den, Aw.ren, nmbeq_eq h1, Nat.eq_of_beq_eq_true h2, okI_den hg h3, Nat.eq_of_beq_eq_true h4]
  | .rl z m l f, e, h => by
    cases e <;> simp only [okX, Bool.false_eq_true] at h
    · simp only [Bool.and_eq_true, beq_iff_eq] at h
      obtain ⟨h1, h2, h3⟩ := h
      simp only [X.den, Aw.ren, renE_rows, Nat.eq_of_beq_eq_true h1, h2]
      rw [okRws_den hg h3]
    · simp only [Bool.and_eq_true, beq_iff_eq] at h
      obtain ⟨h1, h2, h3, h4⟩ := h
      simp only [X.den, Aw.ren, renE_rows, okRows hg h3 h4, Nat.eq_of_beq_eq_true h1, h2]
  | .ro z es f, e, h => by
    cases e <;> simp only [okX, Bool.false_eq_true] at h
    simp only [Bool.and_eq_true, beq_iff_eq] at h
    obtain ⟨h1, h2, h3⟩ := h
    simp only [X.den, Aw.ren, Nat.eq_of_beq_eq_true h1, h2, okXE_den hg _ _ h3]
  | .ip cs as d, e, h => by
    cases e <;> simp only [okX, Bool.false_eq_true] at h
    simp only [Bool.and_eq_true] at h
    obtain ⟨h1, h2, h3, h4⟩ := h
    simp only [X.den, Aw.ren, okXL_den hg _ _ h1, Nat.eq_of_beq_eq_true h2]
    rw [← lbeq_eq asbeq_eq h4, choose_bel (Bind.agree hg ρ) _ as h3]
  | .fn f xs ys, e, h => by
    cases e <;> simp only [okX, Bool.false_eq_true] at h
    simp only [Bool.and_eq_true] at h
    obtain ⟨h1, h2, h3⟩ := h
    simp only [X.den, Aw.ren, fnbeq_eq h1, okXL_den hg _ _ h2, okXL_den hg _ _ h3]
  | .gd c x, e, h => by
    cases e <;> simp only [okX, Bool.false_eq_true] at h
    simp only [Bool.and_eq_true] at h
    obtain ⟨h1, h2⟩ := h
    simp only [X.den, okB_den hg h1, okX_den hg _ _ h2]
    split <;> rfl
  | .k v, e, h => by
    cases e <;> simp only [okX, Bool.false_eq_true] at h
    simp only [X.den, Aw.ren, vbeq_eq h]
  | .top, e, h => by
    cases e <;> simp only [okX, Bool.false_eq_true] at h
    rfl
  | .rows _ _ _, e, h => by cases e <;> simp only [okX, Bool.false_eq_true] at h
  | .rn z m l ks f, e, h => by
    cases e <;> simp only [okX, Bool.false_eq_true] at h
    simp only [Bool.and_eq_true, beq_iff_eq] at h
    obtain ⟨h1, h2, h3, h4, h5, h6, h7⟩ := h
    have e1 := Nat.eq_of_beq_eq_true h1
    have e4 := Nat.eq_of_beq_eq_true h4
    have e5 := lbeq_eq (fun _ _ => nkbeq_eq) h5
    subst e1 h2 e4 e5
    have hr : ∀ m', okI n β m m' = true → rowsN (β.ap ρ) m l ks = rowsN ρ m' l ks := fun m' hm => by
      unfold rowsN
      rw [okI_den hg hm]
      congr 1
      funext j
      exact (cellsN_agree (Bind.agree hg ρ) (by simpa using h6) j ks 0 h7).symm
    simp only [X.den, Aw.ren, hr _ h3]
    rw [renE_none φ _ nms_rowsN]
theorem okXL_den {n : Nat} {β : Bind} (hg : β.ge n = true) {φ : Nm → Nm} {ρ : Rho} : ∀ (p e : List X), okXL n β φ p e = true → X.denL ρ e = Aw.renL φ (X.denL (β.ap ρ) p)
  | [], [], _ => rfl
  | [], _ :: _, h => by simp [okXL] at h
  | _ :: _, [], h => by simp [okXL] at h
  | a :: as, b :: bs, h => by
    simp only [okXL, Bool.and_eq_true] at h
    simp only [X.denL, Aw.renL, okX_den hg a b h.1, okXL_den hg as bs h.2]
theorem okXE_den {n : Nat} {β : Bind} (hg : β.ge n = true) {φ : Nm → Nm} {ρ : Rho} : ∀ (p e : List (List X)), okXE n β φ p e = true → X.denE ρ e = Aw.renE φ (X.denE (β.ap ρ) p)
  | [], [], _ => rfl
  | [], _ :: _, h => by simp [okXE] at h
  | _ :: _, [], h => by simp [okXE] at h
  | a :: as, b :: bs, h => by
    simp only [okXE, Bool.and_eq_true] at h
    simp only [X.denE, Aw.renE, okXL_den hg a b h.1, okXE_den hg as bs h.2]
end
/-- An object under a pattern. -/
def okO (n : Nat) (β : Bind) (φ : Nm → Nm) (p e : List X) : Bool :=
  match p with
  | [.rows z m l] => l.wd z && match e with
    | [.rows z' m' l'] => Nat.beq z z' && (okI n β m m' && okRL n β l l')
    | e => !isRows e && (Nat.blt 0 z && (Nat.beq e.length (e.length / z * z) && okRws n β m l (chunkX z (e.length / z) e)))
  | p => !isRows e && (!isRows p && okXL n β φ p e)
theorem nmsL_rowsF {p : Nm → Bool} {ρ : Rho} {n : IE} {l : RL} : Aw.nmsL p (rowsD ρ n l).flatten = true := nmsL_flat nms_rows
theorem okO_den {n : Nat} {β : Bind} (hg : β.ge n = true) {φ : Nm → Nm} {ρ : Rho} {p e : List X} (h : okO n β φ p e = true) : denO ρ e = Aw.renL φ (denO (β.ap ρ) p) := by
  unfold okO at h
  split at h
  · rename_i z m l
    simp only [Bool.and_eq_true] at h
    obtain ⟨hw, h⟩ := h
    have e1 : Aw.renL φ (denO (β.ap ρ) [.rows z m l]) = (rowsD (β.ap ρ) m l).flatten := renL_none φ _ nmsL_rowsF
    rw [e1]
    split at h
    · simp only [Bool.and_eq_true] at h
      simp only [denO, okRows hg h.2.1 h.2.2]
    · simp only [Bool.and_eq_true, Bool.not_eq_true'] at h
      obtain ⟨h1, h2, h3, h4⟩ := h
      rw [denO_of h1, okRws_den hg h4, chunkX_den, chunk_flatten _ _ _ (by rw [X.denL_len]; exact Nat.eq_of_beq_eq_true h3)]
  · simp only [Bool.and_eq_true, Bool.not_eq_true'] at h
    rw [denO_of h.1, denO_of h.2.1]
    exact okXL_den hg _ _ h.2.2

/-! ### A state fits a pattern -/
def nmMap : List (Nm × Nm) → Nm → Nm
  | [], m => m
  | (a, b) :: r, m => if nmbeq a m = true then b else nmMap r m
def okTop (n : Nat) (β : Bind) (φ : Nm → Nm) (nx : Nat) (p e : X) : Bool := match p with
  | .top => true
  | p => X.nms (fun m => Nat.blt m.1 nx) p && okX n β φ p e
/-- The names that the pattern has are those of different objects. -/
def injB (φ : Nm → Nm) : List Nm → Bool
  | [] => true
  | m :: r => r.all (fun k => nmbeq m k || !nmbeq (φ m) (φ k)) && injB φ r
def lowB (k0 : Nat) : List (Nm × Nm) → Bool
  | [] => true
  | (a, b) :: r => (Nat.ble k0 a.1 || nmbeq a b) && lowB k0 r
structure Pat where
  n : Nat
  S : XS
def okS (k0 n : Nat) (β : Bind) (nm : List (Nm × Nm)) (S σ : XS) : Bool :=
  β.ge n && (Nat.ble k0 S.nx && (lowB k0 nm && (injB (nmMap nm) (S.h.map (·.1)) &&
  (S.t.all (fun p => okTop n β (nmMap nm) S.nx (tgetX S.t p.1) (tgetX σ.t p.1)) &&
   S.h.all (fun p => match hgetO S.h p.1 with
    | some cs => X.nmsL (fun m => Nat.blt m.1 S.nx) cs && (Nat.blt p.1.1 S.nx && (match hgetO σ.h (nmMap nm p.1) with
      | some es => okO n β (nmMap nm) cs es
      | none => false))
    | none => true)))))
theorem nmMap_low {k0 : Nat} : ∀ {nm : List (Nm × Nm)} {m : Nm}, lowB k0 nm = true → m.1 < k0 → nmMap nm m = m
  | [], _, _, _ => rfl
  | (a, b) :: r, m, h, hm => by
    simp only [lowB, Bool.and_eq_true, Bool.or_eq_true, Nat.ble_eq] at h
    simp only [nmMap]
    split
    · rename_i ha
      have := nmbeq_eq ha
      subst this
      rcases h.1 with h1 | h1
      · omega
      · exact (nmbeq_eq h1).symm
    · exact nmMap_low h.2 hm
theorem injB_ok {φ : Nm → Nm} : ∀ {l : List Nm}, injB φ l = true → ∀ m ∈ l, ∀ m' ∈ l, φ m = φ m' → m = m'
  | [], _, m, hm, _, _, _ => by cases hm
  | a :: r, h, m, hm, m', hm', he => by
    simp only [injB, Bool.and_eq_true, List.all_eq_true, Bool.or_eq_true, Bool.not_eq_true'] at h
    rcases List.mem_cons.1 hm with rfl | hm1
    · rcases List.mem_cons.1 hm' with rfl | hm2
      · rfl
      · rcases h.1 m' hm2 with h1 | h1
        · exact nmbeq_eq h1
        · rw [he] at h1; simp [nmbeq] at h1
    · rcases List.mem_cons.1 hm' with rfl | hm2
      · rcases h.1 m hm1 with h1 | h1
        · exact (nmbeq_eq h1).symm
        · rw [he] at h1; simp [nmbeq] at h1
      · exact injB_ok h.2 m hm1 m' hm2 he
theorem tgetX_key : ∀ (t : XTp) (i : Nat), tgetX t i = .top ∨ ∃ v, (i, v) ∈ t
  | [], i => .inl rfl
  | (j, v) :: l, i => by
    simp only [tgetX]
    split
    · rename_i h; have h := Nat.eq_of_beq_eq_true h; subst h; exact .inr ⟨v, List.mem_cons_self⟩
    · rcases tgetX_key l i with h | ⟨w, h⟩
      · exact .inl h
      · exact .inr ⟨w, List.mem_cons_of_mem _ h⟩
theorem hgetO_key : ∀ (h : XHp) (m : Nm) (cs : List X), hgetO h m = some cs → (m, cs) ∈ h
  | [], _, _, h => by cases h
  | (k, v) :: l, m, cs, h => by
    simp only [hgetO] at h
    split at h
    · rename_i e; have := nmbeq_eq e; subst this; cases h; exact List.mem_cons_self
    · exact List.mem_cons_of_mem _ (hgetO_key l m cs h)
theorem okS_imp {E : Aw.Env} {k0 n : Nat} (hb : ∀ m, E.c0.kn m → m.1 < k0) {β : Bind} {nm : List (Nm × Nm)} {S σ : XS} (h : okS k0 n β nm S σ = true) (ρ : Rho) : Imp E (σ.den ρ) (S.den (β.ap ρ)) := by
  simp only [okS, Bool.and_eq_true, Nat.ble_eq] at h
  obtain ⟨hg, hk, hlow, hinj, ht, hh⟩ := h
  have key : ∀ m cs, hget (denH (β.ap ρ) S.h) m = some cs → ∃ ds es, hgetO S.h m = some ds ∧ cs = denO (β.ap ρ) ds ∧ X.nmsL (fun m => Nat.blt m.1 S.nx) ds = true ∧ m.1 < S.nx ∧ hgetO σ.h (nmMap nm m) = some es ∧ okO n β (nmMap nm) ds es = true := fun m cs hcs => by
    rw [hget_denO] at hcs
    obtain ⟨ds, hd, rfl⟩ := Option.map_eq_some_iff.1 hcs
    have := List.all_eq_true.1 hh _ (hgetO_key _ _ _ hd)
    simp only [hd, Bool.and_eq_true, Nat.blt_eq] at this
    obtain ⟨h1, h2, h3⟩ := this
    split at h3
    · rename_i es he
      exact ⟨ds, es, hd, rfl, h1, h2, he, h3⟩
    · cases h3
  refine Imp_ren (σ' := S.den (β.ap ρ)) (nmMap nm) hb (fun m hm => nmMap_low hlow hm) hk (fun i => ?_) (fun m cs hcs => ?_) (fun m m' hm hm' he => ?_)
  · simp only [XS.den, tget_denT]
    rcases tgetX_key S.t i with h | ⟨v, hv⟩
    · rw [h]; exact .inl rfl
    · have := List.all_eq_true.1 ht _ hv
      simp only [okTop] at this
      split at this
      · rename_i hp; rw [hp]; exact .inl rfl
      · simp only [Bool.and_eq_true] at this
        exact .inr ⟨X.nms_den _ _ this.1, okX_den hg _ _ this.2⟩
  · obtain ⟨ds, es, h1, rfl, h3, h4, h5, h6⟩ := key m cs hcs
    refine ⟨X.nmsO_den _ _ h3, h4, ?_⟩
    simp only [XS.den]
    rw [hget_denO, h5, Option.map_some, okO_den hg h6]
  · obtain ⟨cs, hcs⟩ := Option.isSome_iff_exists.1 hm
    obtain ⟨cs', hcs'⟩ := Option.isSome_iff_exists.1 hm'
    obtain ⟨ds, _, h1, _⟩ := key m cs hcs
    obtain ⟨ds', _, h1', _⟩ := key m' cs' hcs'
    exact injB_ok hinj m (List.mem_map.2 ⟨_, hgetO_key _ _ _ h1, rfl⟩) m' (List.mem_map.2 ⟨_, hgetO_key _ _ _ h1', rfl⟩) he

/-! ### What is shown of a loop once -/
/-- The number of the first region. -/
def codeKey : Code → Option Nat
  | .region id _ _ => some id
  | .seq a b => match codeKey a with
    | some k => some k
    | none => codeKey b
  | .cond _ a b => match codeKey a with
    | some k => some k
    | none => codeKey b
  | .block _ c => codeKey c
  | .loop c => codeKey c
  | _ => none
structure LoopX where
  key : Nat
  k0 : Nat
  /-- The loop's letters are those from n on. -/
  n : Nat
  S : XS
  init : Bind
  nm : List (Nm × Nm)
  out : T (XE × XS)
/-- At the letters' last values: the loop, from its first state, ends as is told. -/
def LoopOk (P : Program) (ρ : Rho) (N : Nat) (c : Code) (L : LoopX) : Prop :=
  ∀ E : Aw.Env, E.N = N → (∀ m, E.c0.kn m → m.1 < L.k0) → AW P E (.loop c) (fun e σ => ∃ e' s, L.out.sel ρ = some (e', s) ∧ e = e'.to ∧ Imp E σ (s.den ρ)) (L.S.den (L.init.ap ρ))
def lookL (k : Option Nat) : List LoopX → List LoopX
  | [] => []
  | L :: r => match k with
    | some k => if Nat.beq L.key k = true then L :: lookL (some k) r else lookL (some k) r
    | none => []
def keysIn (b t : XTp) : Bool := b.all fun p => t.any fun q => Nat.beq q.1 p.1
/-- A way out, laid over the slots that were there. -/
def rebase (b : XTp) (p : XE × XS) : T (XE × XS) := if keysIn b p.2.t = true then .ret (p.1, ⟨sqK p.2.t (p.2.t.map (·.1)) [] b, p.2.h, p.2.nx⟩) else .fail ["keys"]
theorem rebase_ok {ρ : Rho} {b : XTp} {p : XE × XS} {e : XE} {s : XS} (h : (rebase b p).sel ρ = some (e, s)) : e = p.1 ∧ LeS (s.den ρ) (p.2.den ρ) ∧ Ext b s.t := by
  unfold rebase at h
  split at h
  · rename_i hk
    cases h
    refine ⟨rfl, ⟨fun i => ?_, fun m cs hcs => ⟨cs, hcs, LeC.refl cs⟩, Nat.le_refl _⟩, sqK_ext _ _ _ _⟩
    simp only [XS.den, tget_denT, tget_sqK]
    split
    · exact LeA.refl _
    · rename_i hn
      simp only [List.not_mem_nil, not_false_eq_true, and_true] at hn
      have h1 : tgetX b i = .top := by
        rcases tgetX_key b i with h | ⟨v, hv⟩
        · exact h
        · have := List.all_eq_true.1 hk _ hv
          obtain ⟨q, hq, he⟩ := List.any_eq_true.1 this
          have he := Nat.eq_of_beq_eq_true he
          exact absurd (List.mem_map.2 ⟨q, hq, he⟩) hn
      rw [h1]; exact LeA.top _
  · cases h
def loopX (k0 : Nat) (L : LoopX) (Φ : Facts) (σ : XS) : T (XE × XS) :=
  if (Nat.beq L.k0 k0 && okS k0 L.n L.init L.nm L.S σ) = true then L.out.bind Φ fun _ p => rebase σ.t p else .fail ["loop", Nat.repr k0, Nat.repr σ.nx]
/-- The first of them that fits. -/
def loopsX (k0 : Nat) (Φ : Facts) (σ : XS) : List LoopX → T (XE × XS)
  | [] => .fail ["loops"]
  | [L] => loopX k0 L Φ σ
  | L :: r => if (Nat.beq L.k0 k0 && okS k0 L.n L.init L.nm L.S σ) = true then loopX k0 L Φ σ else loopsX k0 Φ σ r
theorem loopX_ok {P : Program} {E : Aw.Env} {ρ : Rho} {k0 : Nat} {L : LoopX} {c : Code} (hb : ∀ m, E.c0.kn m → m.1 < k0) (hL : LoopOk P ρ E.N c L) {Φ : Facts} (hk : Facts.ok ρ Φ) {σ σ' : XS} {e : XE} (h : (loopX k0 L Φ σ).sel ρ = some (e, σ')) :
    AW P E (.loop c) (fun e' s => e' = e.to ∧ Imp E s (σ'.den ρ)) (σ.den ρ) := by
  unfold loopX at h
  split at h
  · rename_i hc
    simp only [Bool.and_eq_true] at hc
    have hk0 := Nat.eq_of_beq_eq_true hc.1
    subst hk0
    obtain ⟨_, p, _, h1, h2⟩ := T.sel_bind _ hk h
    obtain ⟨rfl, hle, _⟩ := rebase_ok h2
    refine AW_imp (okS_imp hb hc.2 ρ) (AW_mono (fun e' s hq => ?_) (hL E rfl hb))
    obtain ⟨e1, s1, g1, g2, g3⟩ := hq
    rw [h1] at g1
    cases g1
    exact ⟨g2, fun a w hr => Imp_le hle a w (g3 a w hr)⟩
  · cases h
theorem loopX_ext {k0 : Nat} {L : LoopX} {Φ : Facts} {σ : XS} : (loopX k0 L Φ σ).All fun p => Ext σ.t p.2.t := by
  unfold loopX
  split
  · refine T.All_bind (p := fun _ => True) (fun Φ p _ => ?_) (T.All_true _)
    unfold rebase
    split
    · exact sqK_ext _ _ _ _
    · trivial
  · trivial
theorem loopsX_mem {ρ : Rho} {k0 : Nat} {Φ : Facts} {σ σ' : XS} {e : XE} : ∀ {Ls : List LoopX}, (loopsX k0 Φ σ Ls).sel ρ = some (e, σ') → ∃ L ∈ Ls, (loopX k0 L Φ σ).sel ρ = some (e, σ')
  | [], h => by cases h
  | [L], h => ⟨L, List.mem_singleton.2 rfl, h⟩
  | L :: M :: r, h => by
    simp only [loopsX] at h
    split at h
    · exact ⟨L, List.mem_cons_self, h⟩
    · obtain ⟨K, hK, h2⟩ := loopsX_mem (Ls := M :: r) h
      exact ⟨K, List.mem_cons_of_mem _ hK, h2⟩
theorem loopsX_ext {k0 : Nat} {Φ : Facts} {σ : XS} : ∀ {Ls : List LoopX}, (loopsX k0 Φ σ Ls).All fun p => Ext σ.t p.2.t
  | [] => trivial
  | [L] => loopX_ext
  | L :: M :: r => by
    simp only [loopsX]
    split
    · exact loopX_ext
    · exact loopsX_ext (Ls := M :: r)
end Go.Proofs.Xw

/- Symbolic runs, part 10: code, and calls. -/
namespace Go.Proofs.Xw
open Go Go.Proofs.Aw

/-! ### Code -/
def iterX (b : XTp) (body : Facts → XS → T (XE × XS)) : Nat → Facts → XS → T (XE × XS)
  | 0, _, _ => (.fail [])
  | n + 1, Φ, σ => joinB b ((body Φ σ).bind Φ fun Φ p => match p.1 with
    | .normal => iterX b body n Φ (squeeze b p.2)
    | e => .ret (e, p.2))
def leave (id : Nat) (p : XE × XS) : XE × XS :=
  match p.1 with
  | .exit j => if Nat.beq j id = true then (.normal, p.2) else p
  | _ => p
def codeX (ti : Nat → Option TI) (call : CallF) (ms : List Nat) (k0 : Nat) (lps : List LoopX) (fuel : Nat) : Code → Facts → XS → T (XE × XS)
  | .skip, _, σ => .ret (.normal, σ)
  | .label _, _, σ => .ret (.normal, σ)
  | .region _ ops draw, Φ, σ => joinB σ.t ((if draw = true then drawL ti call ms ops.toList Φ σ else goX ti call ms ops.toList ops.toList Φ σ).map fun s => (.normal, s))
  | .seq a b, Φ, σ => (codeX ti call ms k0 lps fuel a Φ σ).bind Φ fun Φ p => match p.1 with
    | .normal => codeX ti call ms k0 lps fuel b Φ p.2
    | e => .ret (e, p.2)
  | .cond c x y, Φ, σ => match evX (tgetX σ.t) c with
    | .sc (.b e) => joinB σ.t (part Φ e (fun Φ => codeX ti call ms k0 lps fuel x Φ σ) (fun Φ => codeX ti call ms k0 lps fuel y Φ σ))
    | _ => .fail ["cond"]
  | .block id c, Φ, σ => joinB σ.t ((codeX ti call ms k0 lps fuel c Φ σ).map (leave id))
  | .loop c, Φ, σ => match lookL (codeKey c) lps with
    | L :: Ls => joinB σ.t (loopsX k0 Φ σ (L :: Ls))
    | [] => iterX σ.t (fun Φ σ => codeX ti call ms k0 lps fuel c Φ σ) fuel Φ σ
  | .exit id, _, σ => .ret (.exit id, σ)
  | .ret, _, σ => .ret (.ret, σ)
  | _, _, _ => (.fail [])
def fitsC (N : Nat) : Code → Bool
  | .region _ ops draw => fits N ops.toList && (!draw || once ops.toList)
  | .seq a b => fitsC N a && fitsC N b
  | .cond _ a b => fitsC N a && fitsC N b
  | .block _ c => fitsC N c
  | .loop c => fitsC N c
  | _ => true

/-- The bodies of all loops. -/
def loopsOf : Code → List Code
  | .seq a b => loopsOf a ++ loopsOf b
  | .cond _ a b => loopsOf a ++ loopsOf b
  | .block _ c => loopsOf c
  | .loop c => c :: loopsOf c
  | _ => []
/-- What is shown of the loops holds. -/
def LpsOk (P : Program) (ρ : Rho) (N : Nat) (lps : List LoopX) (c : Code) : Prop := ∀ c' ∈ loopsOf c, ∀ L ∈ lookL (codeKey c') lps, LoopOk P ρ N c' L
theorem LpsOk.nil (P : Program) (ρ : Rho) (N : Nat) (c : Code) : LpsOk P ρ N [] c := fun _ _ L h => by simp [lookL] at h
/-! ### What is assigned lies ahead -/
theorem goX_ext {ti : Nat → Option TI} {call : CallF} {ms : List Nat} {ops : List Oper} : ∀ (l : List Oper) (Φ : Facts) (σ : XS), (goX ti call ms ops l Φ σ).All fun s => Ext σ.t s.t
  | [], _, σ => Ext.refl _
  | o :: l, Φ, σ => by
    have put : ∀ (v : X) (h : XHp) (n : Nat), Ext σ.t (XS.mk (tputX o.dst v σ.t) h n).t := fun v h n => by
      cases o.dst with
      | none => exact Ext.refl _
      | some d => exact ⟨[(d, v)], rfl⟩
    have step : ∀ (v : X) (h : XHp) (n : Nat) Φ, (goX ti call ms ops l Φ ⟨tputX o.dst v σ.t, h, n⟩).All fun s => Ext σ.t s.t := fun v h n Φ => T.All_mono (fun s hs => Ext.trans (put v h n) hs) (goX_ext l Φ _)
    unfold goX
    cases o.guard with
    | none => exact T.All_bind (p := fun _ => True) (fun Φ p _ => step p.1 _ _ Φ) (T.All_true _)
    | some jw => exact All_guardX (fun Φ r d => step r _ _ Φ) (fun Φ => step _ _ _ Φ) (fun Φ y => step y _ _ Φ)
theorem finT_ext : ∀ (es : List XEn) (t : XTp), Ext t (finT es t)
  | [], t => Ext.refl t
  | e :: es, t => by
    obtain ⟨u, hu⟩ := finT_ext es t
    unfold finT
    cases e.dst with
    | none => exact ⟨u, hu⟩
    | some d => exact ⟨(d, e.r) :: u, by simp only [tputX, hu]; rfl⟩
theorem drawX_ext {ti : Nat → Option TI} {call : CallF} {ms : List Nat} {ops : List Oper} {Φ : Facts} {σ : XS} : (drawX ti call ms ops Φ σ).All fun s => Ext σ.t s.t :=
  T.All_map (p := fun _ => True) (q := fun s : XS => Ext σ.t s.t) (fun es _ => finT_ext es σ.t) (T.All_true _)
theorem drawL_ext {ti : Nat → Option TI} {call : CallF} {ms : List Nat} {ops : List Oper} {Φ : Facts} {σ : XS} : (drawL ti call ms ops Φ σ).All fun s => Ext σ.t s.t := by
  unfold drawL
  split
  · split
    · rename_i i o _ _
      refine T.All_bind (p := fun s : XS => Ext σ.t s.t) (fun Φ s hs => ?_) drawX_ext
      unfold lastX
      refine T.All_bind (p := fun _ => True) (fun Φ p _ => ?_) (T.All_true _)
      refine Ext.trans hs ?_
      show Ext s.t (tputX o.dst p.1 s.t)
      cases o.dst with
      | none => exact Ext.refl _
      | some d => exact ⟨[(d, p.1)], rfl⟩
    · exact drawX_ext
  · exact drawX_ext
theorem regX_ext {ti : Nat → Option TI} {call : CallF} {ms : List Nat} {ops : List Oper} {draw : Bool} {Φ : Facts} {σ : XS} : ((if draw = true then drawL ti call ms ops Φ σ else goX ti call ms ops ops Φ σ).map fun s => (XE.normal, s)).All fun p => Ext σ.t p.2.t := by
  refine T.All_map (p := fun s : XS => Ext σ.t s.t) (q := fun p : XE × XS => Ext σ.t p.2.t) (fun s hs => hs) ?_
  split
  · exact drawL_ext
  · exact goX_ext _ _ _
theorem iterX_ext {b : XTp} {body : Facts → XS → T (XE × XS)} (hb : ∀ Φ σ, (body Φ σ).All fun p => Ext σ.t p.2.t) : ∀ (n : Nat) (Φ : Facts) (σ : XS), Ext b σ.t → (iterX b body n Φ σ).All fun p => Ext b p.2.t
  | 0, _, _, _ => trivial
  | n + 1, Φ, σ, h => by
    unfold iterX
    refine joinB_ext (T.All_bind (p := fun p => Ext σ.t p.2.t) (fun Φ p hp => ?_) (hb Φ σ))
    split
    · exact iterX_ext hb n Φ (squeeze b p.2) (sqK_ext _ _ _ _)
    · exact Ext.trans h hp
theorem codeX_ext {ti : Nat → Option TI} {call : CallF} {ms : List Nat} {k0 : Nat} {lps : List LoopX} {fuel : Nat} : ∀ (c : Code) (Φ : Facts) (σ : XS), (codeX ti call ms k0 lps fuel c Φ σ).All fun p => Ext σ.t p.2.t
  | .skip, _, σ => Ext.refl _
  | .label _, _, σ => Ext.refl _
  | .region _ ops draw, Φ, σ => by
    unfold codeX
    exact joinB_ext regX_ext
  | .seq a b, Φ, σ => by
    unfold codeX
    refine T.All_bind (p := fun p => Ext σ.t p.2.t) (fun Φ p hp => ?_) (codeX_ext a Φ σ)
    split
    · exact T.All_mono (fun q hq => Ext.trans hp hq) (codeX_ext b Φ p.2)
    · exact hp
  | .cond c x y, Φ, σ => by
    unfold codeX
    split
    · exact joinB_ext (All_part (fun Φ => codeX_ext x Φ σ) (fun Φ => codeX_ext y Φ σ))
    · trivial
  | .block id c, Φ, σ => by
    unfold codeX
    refine joinB_ext (T.All_map (p := fun p => Ext σ.t p.2.t) (fun p hp => ?_) (codeX_ext c Φ σ))
    unfold leave
    split
    · split
      · exact hp
      · exact hp
    · exact hp
  | .loop c, Φ, σ => by
    unfold codeX
    split
    · exact joinB_ext loopsX_ext
    · exact iterX_ext (fun Φ σ => codeX_ext c Φ σ) fuel Φ σ (Ext.refl _)
  | .exit id, _, σ => Ext.refl _
  | .ret, _, σ => Ext.refl _
  | .rangeFunc _ _ _ _, _, _ => trivial
  | .scope _, _, _ => trivial
  | .goto _, _, _ => trivial
  | .refuse _, _, _ => trivial

/-! ### It is so -/
/-- From σ the code comes to the end e, with no less than σ' says. -/
def Goes (P : Program) (E : Aw.Env) (ρ : Rho) (c : Code) (σ : XS) (e : XE) (σ' : XS) : Prop := AW P E c (fun e' s => e' = e.to ∧ Imp E s (σ'.den ρ)) (σ.den ρ)
theorem impRefl (E : Aw.Env) (s : St) : Imp E s s := fun _ _ h => h
theorem impLe {E : Aw.Env} {a b c : St} (h : Imp E a b) (k : LeS c b) : Imp E a c := fun x w hr => Imp_le k x w (h x w hr)
theorem impTrans {E : Aw.Env} {a b c : St} (h : Imp E a b) (k : Imp E b c) : Imp E a c := fun x w hr => k x w (h x w hr)
/-- What the walk of a drawn region shows. -/
theorem drawX_walk {P : Program} {ρ : Rho} {ti : Nat → Option TI} (hti : TIs.ok P ti) {call : CallF} (hcall : CallOk P ρ call) {ms : List Nat} {ops : List Oper} {Φ : Facts} {σ σ' : XS} (hk : Facts.ok ρ Φ)
    (h : (drawX ti call ms ops Φ σ).sel ρ = some σ') : ∃ es, Walked P ops σ.nx (tdel ops (denT ρ σ.t)) (denH ρ σ.h) es ∧ es.length = ops.length ∧ (∀ i, LeA (tget (denT ρ σ'.t) i) (tget (tview (fun _ => true) es (tdel ops (denT ρ σ.t))) i)) ∧
      denH ρ σ'.h = hview (fun _ => true) es (denH ρ σ.h) ∧ σ'.nx = σ.nx + ops.length := by
  obtain ⟨es, h1, rfl⟩ := T.sel_map _ h
  obtain ⟨hw, hl⟩ := drX_walked hti hcall (t0 := tdel ops (denT ρ σ.t)) (baseX'_den ρ ops σ.t) ops Φ [] 0 es hk (fun j => by simp) trivial (fun j e he => by simp [denEn, ent] at he) h1
  simp only [List.length_nil, Nat.zero_add] at hl
  have hl' : (denEn ρ es).length = ops.length := by simp [denEn, hl]
  refine ⟨denEn ρ es, hw, hl', fun i => ?_, ?_, rfl⟩
  · -- the slots
    have hfin : ∀ (l : List XEn) (i : Nat), tget (denT ρ (finT l σ.t)) i = tget (tview (fun _ => true) (denEn ρ l) (denT ρ σ.t)) i := by
      intro l
      induction l with
      | nil => intro i; rfl
      | cons e l ih =>
        intro i
        simp only [finT, denT_put, denEn, List.map_cons, tview, if_true, tget_tput] at ih ⊢
        rw [ih]; rfl
    rw [hfin]
    rcases tget_view (fun _ => true) (denT ρ σ.t) i (denEn ρ es) with ⟨j, e, h2, h3, h4⟩ | ⟨h2, h3⟩
    · rcases tget_view (fun _ => true) (tdel ops (denT ρ σ.t)) i (denEn ρ es) with ⟨j', e', h2', h3', h4'⟩ | ⟨h2', _⟩
      · have hv : ∀ (l : List En) (t t' : Tp), (∃ j e, ent l j = some e ∧ e.dst = some i) → tget (tview (fun _ => true) l t) i = tget (tview (fun _ => true) l t') i := by
          intro l
          induction l with
          | nil => rintro t t' ⟨j, e, h, _⟩; simp [ent] at h
          | cons x l ih =>
            rintro t t' ⟨j, e, h, hd⟩
            simp only [tview, if_true, tget_tput]
            split
            · rfl
            · rename_i hne
              refine ih t t' ⟨j, e, ?_, hd⟩
              simp only [ent] at h
              split at h
              · cases h; exact absurd hd hne
              · exact h
        rw [hv _ _ (tdel ops (denT ρ σ.t)) ⟨j, e, h2, h3⟩]
        exact LeA.refl _
      · exact absurd h3 (h2' j e h2)
    · rcases tget_view (fun _ => true) (tdel ops (denT ρ σ.t)) i (denEn ρ es) with ⟨j', e', h2', h3', _⟩ | ⟨_, h3'⟩
      · exact absurd h3' (h2 j' e' h2')
      · rw [h3, h3', tget_tdel]
        split
        · rename_i ha
          obtain ⟨o, ho1, ho2⟩ := List.any_eq_true.1 ha
          obtain ⟨j, hj⟩ := List.mem_iff_getElem?.1 ho1
          have hjl := (List.getElem?_eq_some_iff.1 hj).1
          obtain ⟨e, he⟩ := ent_some (es := denEn ρ es) (j := j) (by omega)
          obtain ⟨es', o', _, _, g3, hs, _, _⟩ := hw.get he
          rw [hj] at g3; cases g3
          exact absurd (by rw [hs.dst]; simpa using ho2) (h2 j e he)
        · exact LeA.refl _
  · rw [hviewX_den]
theorem drawX_goes {P : Program} {E : Aw.Env} {ρ : Rho} {ti : Nat → Option TI} (hm : P.follows .mixedOrders = true) (hti : TIs.ok P ti) {call : CallF} (hcall : CallOk P ρ call) {ms : List Nat} {ops : List Oper} {Φ : Facts} {σ σ' : XS} (hk : Facts.ok ρ Φ) (hf : fits E.N ops = true) (ho : once ops = true) {id : Nat}
    (h : (drawX ti call ms ops Φ σ).sel ρ = some σ') : Goes P E ρ (.region id ops.toArray true) σ .normal σ' := by
  obtain ⟨es, hw, hl, h1, h2, h3⟩ := drawX_walk hti hcall hk h
  refine AW_drawn (E := E) (σ := σ.den ρ) hm hf ho es hw hl ⟨rfl, Imp_le ⟨h1, fun m cs hcs => ⟨cs, ?_, LeC.refl cs⟩, by simp only [XS.den, h3]; exact Nat.le_refl _⟩⟩
  simp only [XS.den] at hcs ⊢
  rw [← h2]; exact hcs
theorem drawL_goes {P : Program} {E : Aw.Env} {ρ : Rho} {ti : Nat → Option TI} (hm : P.follows .mixedOrders = true) (hti : TIs.ok P ti) {call : CallF} (hcall : CallOk P ρ call) {ms : List Nat} {ops : List Oper} {Φ : Facts} {σ σ' : XS} (hk : Facts.ok ρ Φ) (hf : fits E.N ops = true) (ho : once ops = true) {id : Nat}
    (h : (drawL ti call ms ops Φ σ).sel ρ = some σ') : Goes P E ρ (.region id ops.toArray true) σ .normal σ' := by
  unfold drawL at h
  split at h
  · rename_i i o hs
    split at h
    · rename_i hw
      obtain ⟨H, hoi⟩ := waits_ok hw
      have e := splitLast_eq hs
      subst e
      have hfi : fits E.N i = true ∧ (∀ d, o.dst = some d → d < E.N) := by
        simp only [fits, List.all_append, List.all_cons, List.all_nil, Bool.and_true, Bool.and_eq_true] at hf
        refine ⟨hf.1, fun d hd => ?_⟩
        have := hf.2
        rw [hd] at this
        simpa [Nat.blt_eq] using this
      obtain ⟨Φ1, s1, hk1, h1, h2⟩ := T.sel_bind _ hk h
      obtain ⟨es, g1, g2, g3, g4, g5⟩ := drawX_walk hti hcall hk h1
      unfold lastX at h2
      obtain ⟨_, p, _, h3, h4⟩ := T.sel_bind _ hk1 h2
      obtain ⟨r, d⟩ := p
      cases h4
      rw [sel_lab] at h3
      have hy := doX_yields (t := denT ρ s1.t) hti hcall (fun i => (tget_denT ρ i s1.t).symm) hk1 h3
      have hy' : Aw.Yields P (σ.nx + i.length) o.op (tview (fun _ => true) es (tdel i (denT ρ σ.t))) (hview (fun _ => true) es (denH ρ σ.h)) (r.den ρ) (denD ρ d) := by
        rw [← g5, ← g4]
        intro C a o' next Q ho' hh ht hn hk'
        exact hy C a o' next Q ho' hh (fun j => g3 j _ _ (ht j)) hn hk'
      refine AW_lastR (σ := σ.den ρ) hm H hfi.2 hfi.1 hoi es g1 g2 hy' ⟨rfl, Imp_le ⟨fun j => ?_, fun m cs hcs => ⟨cs, ?_, LeC.refl cs⟩, by simp only [XS.den, g5]; exact Nat.le_refl _⟩⟩
      · simp only [XS.den, denT_put, tget_tput]
        split
        · exact LeA.refl _
        · exact g3 j
      · simp only [XS.den] at hcs ⊢
        rw [denH_hap, g4] at hcs
        exact hcs
    · exact drawX_goes hm hti hcall hk hf ho h
  · exact drawX_goes hm hti hcall hk hf ho h
theorem codeX_goes {P : Program} {E : Aw.Env} {ρ : Rho} {ti : Nat → Option TI} (hm : P.follows .mixedOrders = true) (hti : TIs.ok P ti) {call : CallF} (hcall : CallOk P ρ call) {ms : List Nat} {k0 : Nat} (hb : ∀ m, E.c0.kn m → m.1 < k0) {lps : List LoopX} {fuel : Nat} :
    ∀ (c : Code) (Φ : Facts) (σ : XS) (e : XE) (σ' : XS), Facts.ok ρ Φ → fitsC E.N c = true → LpsOk P ρ E.N lps c → (codeX ti call ms k0 lps fuel c Φ σ).sel ρ = some (e, σ') → Goes P E ρ c σ e σ'
  | .skip, Φ, σ, e, σ', hk, _, _, h => by cases h; exact AW_skip ⟨rfl, impRefl _ _⟩
  | .label _, Φ, σ, e, σ', hk, _, _, h => by cases h; exact AW_label ⟨rfl, impRefl _ _⟩
  | .region id ops draw, Φ, σ, e, σ', hk, hf, _, h => by
    unfold codeX at h
    simp only [fitsC, Bool.and_eq_true, Bool.or_eq_true, Bool.not_eq_true'] at hf
    obtain ⟨s, h1, hle⟩ := joinB_ok regX_ext h
    obtain ⟨s1, h2, h3⟩ := T.sel_map _ h1
    cases h3
    cases draw with
    | true =>
      rw [if_pos rfl] at h2
      have := drawL_goes (E := E) hm hti hcall (id := id) hk hf.1 (hf.2.resolve_left (by simp)) h2
      rw [show ops.toList.toArray = ops from by simp] at this
      exact AW_mono (fun e' s' hq => ⟨hq.1, impLe hq.2 hle⟩) this
    | false =>
      rw [if_neg (by simp)] at h2
      intro a w hr
      refine wp_region_lit ?_
      have := goX_sound (E := E) (P := P) (Q := fun e a' w' => ∃ σ'', Rel E σ'' a' w' ∧ e = XE.normal.to ∧ Imp E σ'' (σ'.den ρ)) hti hcall (fun a' w' hr' => ⟨_, hr', rfl, Imp_le hle⟩) ops.toList Φ σ a w hk hf.1 h2 hr
      simpa using this
  | .seq x y, Φ, σ, e, σ', hk, hf, hl, h => by
    unfold codeX at h
    simp only [fitsC, Bool.and_eq_true] at hf
    obtain ⟨Φ', p, hk', h1, h2⟩ := T.sel_bind _ hk h
    obtain ⟨e1, σ1⟩ := p
    have g1 := codeX_goes hm hti hcall hb x Φ σ e1 σ1 hk hf.1 (fun c' hc' => hl c' (List.mem_append_left _ hc')) h1
    refine AW_seq fun K hK => AW_mono (fun e' s hq => ?_) g1
    obtain ⟨rfl, hle⟩ := hq
    cases e1 with
    | normal =>
      simp only at h2
      exact hK s (AW_imp hle (codeX_goes hm hti hcall hb y Φ' σ1 e σ' hk' hf.2 (fun c' hc' => hl c' (List.mem_append_right _ hc')) h2))
    | exit id => cases h2; exact ⟨rfl, hle⟩
    | ret => cases h2; exact ⟨rfl, hle⟩
  | .cond c x y, Φ, σ, e, σ', hk, hf, hl, h => by
    unfold codeX at h
    simp only [fitsC, Bool.and_eq_true] at hf
    have hev := evX_den (ρ := ρ) (g := tgetX σ.t) (t := denT ρ σ.t) (fun i => (tget_denT ρ i σ.t).symm) c
    split at h
    · rename_i b hbe
      rw [hbe] at hev
      obtain ⟨s, h1, hle⟩ := joinB_ok (All_part (fun Φ => codeX_ext x Φ σ) (fun Φ => codeX_ext y Φ σ)) h
      obtain ⟨Φ', hk', ⟨hc, h2⟩ | ⟨hc, h2⟩⟩ := sel_part hk h1
      · refine AW_condT (σ := σ.den ρ) (by rw [show ev (σ.den ρ).t c = _ from hev.symm]; simp only [X.den, Sc.den, hc]) ?_
        exact AW_mono (fun e' s' hq => ⟨hq.1, impLe hq.2 hle⟩) (codeX_goes hm hti hcall hb x Φ' σ e s hk' hf.1 (fun c' hc' => hl c' (List.mem_append_left _ hc')) h2)
      · refine AW_condF (σ := σ.den ρ) (by rw [show ev (σ.den ρ).t c = _ from hev.symm]; simp only [X.den, Sc.den, hc]) ?_
        exact AW_mono (fun e' s' hq => ⟨hq.1, impLe hq.2 hle⟩) (codeX_goes hm hti hcall hb y Φ' σ e s hk' hf.2 (fun c' hc' => hl c' (List.mem_append_right _ hc')) h2)
    · cases h
  | .block id c, Φ, σ, e, σ', hk, hf, hl, h => by
    unfold codeX at h
    simp only [fitsC] at hf
    obtain ⟨s, h1, hle⟩ := joinB_ok (T.All_map (p := fun p => Ext σ.t p.2.t) (fun p hp => by
      unfold leave
      split
      · split
        · exact hp
        · exact hp
      · exact hp) (codeX_ext c Φ σ)) h
    obtain ⟨p, h2, h3⟩ := T.sel_map _ h1
    obtain ⟨e1, σ1⟩ := p
    have g1 := codeX_goes hm hti hcall hb c Φ σ e1 σ1 hk hf hl h2
    refine AW_block (AW_mono (fun e' s' hq => ?_) g1)
    obtain ⟨rfl, hle'⟩ := hq
    cases e1 with
    | normal => cases h3; exact ⟨rfl, impLe hle' hle⟩
    | ret => cases h3; exact ⟨rfl, impLe hle' hle⟩
    | exit j =>
      simp only [leave] at h3
      simp only [XE.to, ExBlock]
      by_cases hj : j = id
      · subst hj
        simp at h3
        rw [if_pos rfl]
        obtain ⟨rfl, rfl⟩ := h3
        exact ⟨rfl, impLe hle' hle⟩
      · rw [if_neg hj]
        rw [if_neg (by simpa using hj)] at h3
        cases h3
        exact ⟨rfl, impLe hle' hle⟩
  | .loop c, Φ, σ, e, σ', hk, hf, hl, h => by
    unfold codeX at h
    simp only [fitsC] at hf
    split at h
    · rename_i L Ls hL
      obtain ⟨s, h1, hle⟩ := joinB_ok loopsX_ext h
      obtain ⟨K, hK, h1⟩ := loopsX_mem h1
      exact AW_mono (fun e' s' hq => ⟨hq.1, impLe hq.2 hle⟩) (loopX_ok hb (hl c List.mem_cons_self K (by rw [hL]; exact hK)) hk h1)
    have key : ∀ (n : Nat) (Φ : Facts) (s : XS) (σ' : XS), Facts.ok ρ Φ → Ext σ.t s.t → (iterX σ.t (fun Φ σ => codeX ti call ms k0 lps fuel c Φ σ) n Φ s).sel ρ = some (e, σ') → AWR P E c (fun e' s => e' = e.to ∧ Imp E s (σ'.den ρ)) n (s.den ρ) := by
      intro n
      induction n with
      | zero => intro Φ s σ' _ _ h; cases h
      | succ n ih =>
        intro Φ s σ' hk hx h
        unfold iterX at h
        obtain ⟨s1, h1, hle⟩ := joinB_ok (T.All_bind (p := fun p => Ext s.t p.2.t) (fun Φ p hp => by
          split
          · exact iterX_ext (fun Φ σ => codeX_ext c Φ σ) n Φ (squeeze σ.t p.2) (sqK_ext _ _ _ _)
          · exact Ext.trans hx hp) (codeX_ext c Φ s)) h
        obtain ⟨Φ', p, hk', h2, h3⟩ := T.sel_bind _ hk h1
        obtain ⟨e1, σ1⟩ := p
        have g1 := codeX_goes hm hti hcall hb c Φ s e1 σ1 hk hf (fun c' hc' => hl c' (List.mem_cons_of_mem _ hc')) h2
        have hx1 : Ext s.t σ1.t := by
          have := codeX_ext (ti := ti) (call := call) (ms := ms) (k0 := k0) (lps := lps) (fuel := fuel) c Φ s
          exact T.All_sel (p := fun p : XE × XS => Ext s.t p.2.t) this h2
        refine AWR_step (AW_mono (fun e' s' hq => ?_) g1)
        obtain ⟨rfl, hle'⟩ := hq
        cases e1 with
        | normal =>
          simp only at h3
          have := ih Φ' (squeeze σ.t σ1) s1 hk' (sqK_ext _ _ _ _) h3
          refine AWR_le (impLe hle' (squeeze_le (Ext.trans hx hx1))) (AWR_post (fun e' s' hq => ⟨hq.1, impLe hq.2 hle⟩) n _ this)
        | exit j => cases h3; exact ⟨rfl, impLe hle' hle⟩
        | ret => cases h3; exact ⟨rfl, impLe hle' hle⟩
    exact AW_rounds fuel (key fuel Φ σ σ' hk (Ext.refl _) h)
  | .exit id, Φ, σ, e, σ', hk, _, _, h => by cases h; exact AW_exit ⟨rfl, impRefl _ _⟩
  | .ret, Φ, σ, e, σ', hk, _, _, h => by cases h; exact AW_ret ⟨rfl, impRefl _ _⟩
  | .rangeFunc _ _ _ _, _, _, _, _, _, _, _, h => by cases h
  | .scope _, _, _, _, _, _, _, _, h => by cases h
  | .goto _, _, _, _, _, _, _, _, h => by cases h
  | .refuse _, _, _, _, _, _, _, _, h => by cases h
where
  T.All_sel {α : Type} {ρ : Rho} {p : α → Prop} : ∀ {t : T α} {a : α}, t.All p → t.sel ρ = some a → p a
    | .ret a, _, h, hs => by cases hs; exact h
    | .br c x y, a, h, hs => by
      simp only [T.sel] at hs
      split at hs
      · exact T.All_sel h.1 hs
      · exact T.All_sel h.2 hs
    | .need c x, a, h, hs => by
      simp only [T.sel] at hs
      split at hs
      · exact T.All_sel (t := x) h hs
      · cases hs
    | .fail _, _, _, hs => by cases hs
  AWR_post {P : Program} {E : Aw.Env} {c : Code} {Q Q' : Exit → St → Prop} (hq : ∀ e s, Q e s → Q' e s) : ∀ (n : Nat) (s : St), AWR P E c Q n s → AWR P E c Q' n s
    | 0, _, h => h
    | n + 1, s, h => AW_mono (fun e s' hh => by
        cases e with
        | normal => exact AWR_post hq n s' hh
        | _ => exact hq _ _ hh) h
  AWR_le {P : Program} {E : Aw.Env} {c : Code} {Q : Exit → St → Prop} {n : Nat} {s σ : St} (h : Imp E s σ) (hk : AWR P E c Q n σ) : AWR P E c Q n s := by
    cases n with
    | zero => exact hk
    | succ n => exact AW_imp h hk
end Go.Proofs.Xw

/- Symbolic runs, part 11: calls. -/
namespace Go.Proofs.Xw
open Go Go.Proofs.Aw

structure FnI where
  body : Code
  results : List ResultVar
  ntmps : Nat
  ms : List Nat
def FnOk (P : Program) (f : FuncId) (i : FnI) : Prop := ∃ fn, P.funcs[f]? = some fn ∧ fn.body = some i.body ∧ fn.results.toList = i.results ∧ fn.ntmps = i.ntmps ∧ fitsC i.ntmps i.body = true ∧ hasBody P f = true

/-! ### Results -/
def resX (ti : Nat → Option TI) (σ : XS) : List ResultVar → Option (List X)
  | [] => some []
  | .tmp i :: rs => (resX ti σ rs).map (tgetX σ.t i :: ·)
  | .cell p ty :: rs => match ti ty with
    | some i => match loadX i σ.h (tgetX σ.t p), resX ti σ rs with
      | some v, some vs => some (v :: vs)
      | _, _ => none
    | none => none
theorem resX_den {P : Program} {ρ : Rho} {ti : Nat → Option TI} (hti : TIs.ok P ti) {σ : XS} : ∀ {rs : List ResultVar} {vs : List X} {K : List AV → Prop}, resX ti σ rs = some vs → K (X.denL ρ vs) → resK P (σ.den ρ) rs K
  | [], vs, K, h, hk => by simp only [resX, Option.some.injEq] at h; subst h; exact hk
  | .tmp i :: rs, vs, K, h, hk => by
    simp only [resX] at h
    obtain ⟨ws, hw, rfl⟩ := Option.map_eq_some_iff.1 h
    simp only [resK]
    refine resX_den hti hw ?_
    simp only [XS.den, tget_denT]
    exact hk
  | .cell p ty :: rs, vs, K, h, hk => by
    simp only [resX] at h
    split at h
    · rename_i i hi
      have hi := hti _ _ hi
      subst hi
      split at h
      · rename_i v ws h1 h2
        cases h
        simp only [resK]
        have := loadX_den (P := P) (ρ := ρ) (ty := ty) h1
        simp only [XS.den, tget_denT]
        exact loadN_K this (resX_den hti h2 hk)
      · cases h
    · cases h
def oneX : List X → X
  | [v] => v
  | vs => .tup vs
theorem oneX_den (ρ : Rho) (vs : List X) : (oneX vs).den ρ = oneOf (X.denL ρ vs) := by
  match vs with
  | [] => rfl
  | [v] => rfl
  | v :: w :: vs => rfl
def slotsX : Nat → List X → XTp
  | _, [] => []
  | i, v :: vs => (i, v) :: slotsX (i + 1) vs
theorem slotsX_den (ρ : Rho) : ∀ (i : Nat) (vs : List X), denT ρ (slotsX i vs) = slots i (X.denL ρ vs)
  | _, [] => rfl
  | i, v :: vs => by
    have := slotsX_den ρ (i + 1) vs
    simp only [denT] at this
    simp only [slotsX, denT, List.map_cons, slots, X.denL, this]

/-! ### Results of all ways in one -/
def collapse : T X → Option (BE × Option X)
  | .ret a => some (.lit true, some a)
  | .br c x y => match collapse x, collapse y with
    | some (p, some a), some (q, some b) => match X.mix c a b with
      | some z => some (mkIteB c p q, some z)
      | none => none
    | some (p, some a), some (q, none) => some (mkIteB c p q, some a)
    | some (p, none), some (q, b) => some (mkIteB c p q, b)
    | _, _ => none
  | .need c x => match collapse x with
    | some (p, a) => some (mkAnd c p, a)
    | none => none
  | .fail _ => some (.lit false, none)
theorem collapse_den {ρ : Rho} : ∀ {t : T X} {ok : BE} {o : Option X}, collapse t = some (ok, o) → ok.den ρ = true → ∃ a, t.sel ρ = some a ∧ (∀ z, o = some z → z.den ρ = a.den ρ) ∧ (o = none → False)
  | .ret a, ok, o, h, _ => by
    simp only [collapse, Option.some.injEq, Prod.mk.injEq] at h
    obtain ⟨rfl, rfl⟩ := h
    exact ⟨a, rfl, fun z hz => by cases hz; rfl, fun hn => by cases hn⟩
  | .br c x y, ok, o, h, hok => by
    simp only [collapse] at h
    simp only [T.sel]
    split at h
    · rename_i p a q b h1 h2
      split at h
      · rename_i z hz
        cases h
        rw [mkIteB_den] at hok
        have hd := X.mix_den (ρ := ρ) _ _ _ hz
        split at hok
        · rename_i hc
          obtain ⟨w, g1, g2, _⟩ := collapse_den h1 hok
          rw [if_pos hc] at hd ⊢
          exact ⟨w, g1, fun z' hz' => by cases hz'; rw [hd]; exact g2 a rfl, fun hn => by cases hn⟩
        · rename_i hc
          obtain ⟨w, g1, g2, _⟩ := collapse_den h2 hok
          rw [if_neg hc] at hd ⊢
          exact ⟨w, g1, fun z' hz' => by cases hz'; rw [hd]; exact g2 b rfl, fun hn => by cases hn⟩
      · cases h
    · rename_i p a q h1 h2
      cases h
      rw [mkIteB_den] at hok
      split at hok
      · rename_i hc
        rw [if_pos hc]
        exact collapse_den h1 hok
      · obtain ⟨w, _, _, g3⟩ := collapse_den h2 hok
        exact (g3 rfl).elim
    · rename_i p q b h1 h2
      cases h
      rw [mkIteB_den] at hok
      split at hok
      · obtain ⟨w, _, _, g3⟩ := collapse_den h1 hok
        exact (g3 rfl).elim
      · rename_i hc
        rw [if_neg hc]
        exact collapse_den h2 hok
    · cases h
  | .need c x, ok, o, h, hok => by
    simp only [collapse] at h
    split at h
    · rename_i p a h1
      cases h
      rw [mkAnd_den, Bool.and_eq_true] at hok
      simp only [T.sel, hok.1, if_true]
      exact collapse_den h1 hok.2
    · cases h
  | .fail _, ok, o, h, hok => by
    simp only [collapse, Option.some.injEq, Prod.mk.injEq] at h
    rw [← h.1] at hok
    simp [BE.den] at hok
def mergeR (t : T X) : T X :=
  match t with
  | .ret a => .ret a
  | t => match collapse t with
    | some (.lit true, some a) => .ret a
    | some (c, some a) => .need c (.ret a)
    | some (_, none) => .fail t.why
    | none => t
theorem mergeR_den {ρ : Rho} {t : T X} {z : X} (h : (mergeR t).sel ρ = some z) : ∃ a, t.sel ρ = some a ∧ z.den ρ = a.den ρ := by
  unfold mergeR at h
  split at h
  · cases h; exact ⟨z, rfl, rfl⟩
  · split at h
    · rename_i a hc
      cases h
      obtain ⟨w, g1, g2, _⟩ := collapse_den (ρ := ρ) hc rfl
      exact ⟨w, g1, g2 _ rfl⟩
    · rename_i c a _ hc
      simp only [T.sel] at h
      split at h
      · rename_i hok
        cases h
        obtain ⟨w, g1, g2, _⟩ := collapse_den (ρ := ρ) hc hok
        exact ⟨w, g1, g2 _ rfl⟩
      · cases h
    · cases h
    · exact ⟨z, h, rfl⟩

/-! ### Values without names -/
mutual
def X.nn : X → Bool
  | .top | .k _ | .sc _ | .rl _ _ _ _ | .rows _ _ _ | .rn _ _ _ _ _ => true
  | .slv _ _ _ _ _ | .ptrv _ _ _ _ => false
  | .agg cs | .tup cs | .ip cs _ _ => X.nnL cs
  | .ptr _ _ _ | .sl _ _ _ _ _ => false
  | .ro _ es _ => X.nnE es
  | .fn _ xs ys => X.nnL xs && X.nnL ys
  | .gd _ x => x.nn
def X.nnL : List X → Bool
  | [] => true
  | x :: xs => x.nn && X.nnL xs
def X.nnE : List (List X) → Bool
  | [] => true
  | e :: es => X.nnL e && X.nnE es
end
mutual
theorem X.nn_den {p : Nm → Bool} (ρ : Rho) : ∀ x : X, x.nn = true → Aw.nms p (x.den ρ) = true
  | .top, _ => rfl
  | .k _, _ => rfl
  | .sc _, _ => rfl
  | .rl _ _ _ _, _ => nms_rows
  | .rn _ _ _ _ _, _ => nms_rowsN
  | .rows _ _ _, _ => rfl
  | .agg cs, h => X.nnL_den ρ cs h
  | .tup cs, h => X.nnL_den ρ cs h
  | .ip cs _ _, h => X.nnL_den ρ cs h
  | .ro _ es _, h => X.nnE_den ρ es h
  | .fn _ xs ys, h => by
    simp only [X.nn, Bool.and_eq_true] at h
    simp only [X.den, Aw.nms, X.nnL_den ρ xs h.1, X.nnL_den ρ ys h.2, Bool.and_self]
  | .ptr _ _ _, h => by cases h
  | .sl _ _ _ _ _, h => by cases h
  | .gd c x, h => by
    simp only [X.den]
    split
    · exact X.nn_den ρ x h
    · rfl
theorem X.nnL_den {p : Nm → Bool} (ρ : Rho) : ∀ l : List X, X.nnL l = true → Aw.nmsL p (X.denL ρ l) = true
  | [], _ => rfl
  | x :: xs, h => by
    simp only [X.nnL, Bool.and_eq_true] at h
    simp only [X.denL, Aw.nmsL, X.nn_den ρ x h.1, X.nnL_den ρ xs h.2, Bool.and_self]
theorem X.nnE_den {p : Nm → Bool} (ρ : Rho) : ∀ l : List (List X), X.nnE l = true → Aw.nmsE p (X.denE ρ l) = true
  | [], _ => rfl
  | x :: xs, h => by
    simp only [X.nnE, Bool.and_eq_true] at h
    simp only [X.denE, Aw.nmsE, X.nnL_den ρ x h.1, X.nnE_den ρ xs h.2, Bool.and_self]
end

/-! ### Calls -/
/-- What a function answers, and how it turns the one object that it is handed: in the arguments the object bears the name (0, 0). -/
structure HK where
  f : Nat
  args : List X
  inn : List X
  out : List X
  r : X
def HKOk (P : Program) (ρ : Rho) (k : HK) : Prop := hasBody P k.f = true ∧ ∀ n m h, hget h m = some (denO ρ k.inn) → CY P n k.f (Aw.renL (fun _ => m) (X.denL ρ k.args)) h (k.r.den ρ) [(m, some (denO ρ k.out))]
structure Cfg where
  ti : Nat → Option TI
  ft : Nat → Option FnI
  fuel : Nat
  ks : List (Nat × List X × X)
  lp : Nat → List LoopX
  kh : List HK
structure CfgOk (P : Program) (ρ : Rho) (c : Cfg) : Prop where
  mixed : P.follows .mixedOrders = true
  ti : TIs.ok P c.ti
  ft : ∀ f i, c.ft f = some i → FnOk P f i
  ks : ∀ p ∈ c.ks, hasBody P p.1 = true ∧ ∀ n h, CY P n p.1 (X.denL ρ p.2.1) h (p.2.2.den ρ) []
  lp : ∀ f i, c.ft f = some i → LpsOk P ρ i.ntmps (c.lp f) i.body
  kh : ∀ k ∈ c.kh, HKOk P ρ k
def inH (h : XHp) (m : Nm) (cs : List X) : Bool := match hgetO h m with
  | some ds => X.beqL cs ds
  | none => false
theorem inH_ok {h : XHp} {m : Nm} {cs : List X} (hq : inH h m cs = true) : hgetO h m = some cs := by
  unfold inH at hq
  split at hq
  · rename_i ds hg; rw [hg, X.beqL_eq _ _ hq]
  · cases hq
def lookH (f : Nat) (args : List X) (h : XHp) (m : Nm) : List HK → Option (X × XDl)
  | [] => none
  | k :: l => if (Nat.beq k.f f && (X.beqL (X.renL (fun _ => m) k.args) args && inH h m k.inn)) = true then some (k.r, [(m, some k.out)]) else lookH f args h m l
theorem lookH_ok {P : Program} {ρ : Rho} {f : Nat} {args : List X} {h : XHp} {m : Nm} {r : X} {d : XDl} {n : Nat} : ∀ {l : List HK}, (∀ k ∈ l, HKOk P ρ k) → lookH f args h m l = some (r, d) → hasBody P f = true ∧ CY P n f (X.denL ρ args) (denH ρ h) (r.den ρ) (denD ρ d)
  | [], _, h => by cases h
  | k :: l, hk, hq => by
    simp only [lookH] at hq
    split at hq
    · rename_i hc
      simp only [Bool.and_eq_true] at hc
      obtain ⟨h1, h2, h3⟩ := hc
      obtain ⟨g1, g2⟩ := hk k List.mem_cons_self
      cases hq
      have e := g2 n m (denH ρ h) (by rw [hget_denO, inH_ok h3]; rfl)
      rw [← X.renL_den, X.beqL_eq _ _ h2] at e
      rw [← Nat.eq_of_beq_eq_true h1]
      exact ⟨g1, e⟩
    · exact lookH_ok (fun q hq' => hk q (List.mem_cons_of_mem _ hq')) hq
def lookHn (f : Nat) (args : List X) (h : XHp) (l : List HK) : Option (X × XDl) := match X.namesL args with
  | m :: _ => lookH f args h m l
  | [] => none
theorem lookHn_ok {P : Program} {ρ : Rho} {f : Nat} {args : List X} {h : XHp} {r : X} {d : XDl} {n : Nat} {l : List HK} (hk : ∀ k ∈ l, HKOk P ρ k) (hq : lookHn f args h l = some (r, d)) : hasBody P f = true ∧ CY P n f (X.denL ρ args) (denH ρ h) (r.den ρ) (denD ρ d) := by
  unfold lookHn at hq
  split at hq
  · exact lookH_ok hk hq
  · cases hq
def lookK (f : Nat) (args : List X) : List (Nat × List X × X) → Option X
  | [] => none
  | (g, as, r) :: l => if (Nat.beq g f && X.beqL as args) = true then some r else lookK f args l
theorem lookK_mem {f : Nat} {args : List X} {r : X} : ∀ {l : List (Nat × List X × X)}, lookK f args l = some r → (f, args, r) ∈ l
  | [], h => by cases h
  | (g, as, s) :: l, h => by
    simp only [lookK] at h
    split at h
    · rename_i hc
      simp only [Bool.and_eq_true] at hc
      cases h
      rw [← Nat.eq_of_beq_eq_true hc.1, ← X.beqL_eq _ _ hc.2]
      exact List.mem_cons_self
    · exact List.mem_cons_of_mem _ (lookK_mem h)
def runX (c : Cfg) (call : CallF) (f : Nat) (i : FnI) (args : List X) (Φ : Facts) : T X :=
  if Nat.ble args.length i.ntmps = true then
    (codeX c.ti call i.ms 0 (c.lp f) c.fuel i.body Φ ⟨slotsX 0 args, [], 0⟩).bind Φ fun _ p => match p.1 with
      | .exit _ => .fail ["exit"]
      | _ => retO ((resX c.ti p.2 i.results).map oneX)
  else (.fail [])
theorem runX_body {P : Program} {ρ : Rho} {c : Cfg} (hc : CfgOk P ρ c) {call : CallF} (hcall : CallOk P ρ call) {f : FuncId} {i : FnI} (hi : FnOk P f i) (hlp : LpsOk P ρ i.ntmps (c.lp f) i.body) {args : List X} {Φ : Facts} (hk : Facts.ok ρ Φ) {r : X} (h : (runX c call f i args Φ).sel ρ = some r) :
    args.length ≤ i.ntmps ∧ ∀ E : Aw.Env, E.N = i.ntmps → AW P E i.body (RetP P i.results (r.den ρ)) ⟨slots 0 (X.denL ρ args), [], 0⟩ := by
  unfold runX at h
  split at h
  · rename_i hl
    refine ⟨by simpa using hl, fun E hE => ?_⟩
    obtain ⟨fn, _, _, _, _, hf, _⟩ := hi
    obtain ⟨Φ', p, hk', h1, h2⟩ := T.sel_bind _ hk h
    obtain ⟨e, σ'⟩ := p
    refine AW_base fun hb => ?_
    have g := codeX_goes (E := E) hc.mixed hc.ti hcall (k0 := 0) hb i.body Φ _ e σ' hk (by rw [hE]; exact hf) (by rw [hE]; exact hlp) h1
    have hst : (XS.mk (slotsX 0 args) [] 0).den ρ = ⟨slots 0 (X.denL ρ args), [], 0⟩ := by simp only [XS.den, slotsX_den]; rfl
    have g' : AW P E i.body (fun e' s => e' = e.to ∧ s = σ'.den ρ) ⟨slots 0 (X.denL ρ args), [], 0⟩ := by
      rw [← hst]
      intro a w hr
      exact Code.wp_mono (fun e' a' w' ⟨s, q1, q2, q3⟩ => ⟨σ'.den ρ, q3 a' w' q1, q2, rfl⟩) (g a w hr)
    have fin : ∀ {o : Option X}, (retO ((resX c.ti σ' i.results).map oneX) : T X).sel ρ = o → o = some r → resK P (σ'.den ρ) i.results fun vs => oneOf vs = r.den ρ := by
      intro o h3 h4
      obtain ⟨vs, hv, rfl⟩ := Option.map_eq_some_iff.1 (sel_retO (h3.trans h4))
      exact resX_den hc.ti hv (oneX_den ρ vs).symm
    refine AW_mono (fun e' s hq => ?_) g'
    obtain ⟨rfl, rfl⟩ := hq
    cases e with
    | exit id => cases h2
    | normal => exact ⟨.inr rfl, fin h2 rfl⟩
    | ret => exact ⟨.inl rfl, fin h2 rfl⟩
  · cases h
def pureX (c : Cfg) (call : CallF) (f : Nat) (args : List X) (Φ : Facts) : T (X × XDl) :=
  match c.ft f with
  | some i => (mergeR (runX c call f i args Φ)).bind Φ fun _ r => if r.nn = true then .ret (r, []) else .fail ["names"]
  | none => .fail ["table"]
theorem pureX_ok {P : Program} {ρ : Rho} {c : Cfg} (hc : CfgOk P ρ c) {call : CallF} (hcall : CallOk P ρ call) {n : Nat} {f : FuncId} {args : List X} (ha : X.nnL args = true) {h : Hp} {Φ : Facts} (hk : Facts.ok ρ Φ) {r : X} {d : XDl} (hs : (pureX c call f args Φ).sel ρ = some (r, d)) :
    hasBody P f = true ∧ CY P n f (X.denL ρ args) h (r.den ρ) (denD ρ d) := by
  unfold pureX at hs
  split at hs
  · rename_i i hi
    have hlp := hc.lp f i hi
    have hi := hc.ft f i hi
    obtain ⟨_, z, _, h1, h2⟩ := T.sel_bind _ hk hs
    obtain ⟨a, h3, h4⟩ := mergeR_den h1
    split at h2
    · rename_i hn
      cases h2
      obtain ⟨hlen, hb⟩ := runX_body hc hcall hi hlp hk h3
      obtain ⟨fn, g1, g2, g3, g4, _, g6⟩ := hi
      refine ⟨g6, ?_⟩
      rw [← h4, ← g3, ← g4] at hb
      exact CY_pure g1 g2 (by rw [X.denL_len, g4]; exact hlen) (X.nnL_den ρ args ha) (X.nn_den ρ _ hn) hb n h
    · cases h2
  · cases hs
/-! ### Tables -/
inductive BT (α : Type) where
  | leaf
  | node (l : BT α) (k : Nat) (v : α) (r : BT α)
def btLook {α : Type} (k : Nat) : BT α → Option α
  | .leaf => none
  | .node l j v r => if Nat.beq j k = true then some v else if Nat.ble k j = true then btLook k l else btLook k r
def BT.mem {α : Type} (p : Nat × α) : BT α → Prop
  | .leaf => False
  | .node l j v r => p = (j, v) ∨ l.mem p ∨ r.mem p
theorem btLook_mem {α : Type} {k : Nat} {v : α} : ∀ {t : BT α}, btLook k t = some v → t.mem (k, v)
  | .leaf, h => by cases h
  | .node l j u r, h => by
    simp only [btLook] at h
    split at h
    · rename_i hj; cases h; rw [Nat.eq_of_beq_eq_true hj]; exact .inl rfl
    · split at h
      · exact .inr (.inl (btLook_mem h))
      · exact .inr (.inr (btLook_mem h))
/-- A list, sorted by its numbers, as a tree. -/
def bt_of {α : Type} (l : List (Nat × α)) : Nat → BT α
  | 0 => .leaf
  | d + 1 => match l.drop (l.length / 2) with
    | [] => .leaf
    | (k, v) :: r => .node (bt_of (l.take (l.length / 2)) d) k v (bt_of r d)
theorem bt_of_mem {α : Type} {p : Nat × α} : ∀ (l : List (Nat × α)) (d : Nat), (bt_of l d).mem p → p ∈ l
  | l, 0, h => by cases h
  | l, d + 1, h => by
    simp only [bt_of] at h
    split at h
    · cases h
    · rename_i k v r he
      have hm : ∀ q ∈ (k, v) :: r, q ∈ l := fun q hq => List.mem_of_mem_drop (by rw [he]; exact hq)
      rcases h with h | h | h
      · exact hm p (by rw [h]; exact List.mem_cons_self)
      · exact List.mem_of_mem_take (bt_of_mem _ d h)
      · exact hm p (List.mem_cons_of_mem _ (bt_of_mem r d h))
end Go.Proofs.Xw

/- Symbolic runs, part 17: calls that are handed objects, and hand objects back. -/
namespace Go.Proofs.Xw
open Go Go.Proofs.Aw

def nmIn (m : Nm) : List Nm → Bool
  | [] => false
  | k :: l => nmbeq k m || nmIn m l
/-- What can be reached from the names L. -/
def reachX (h : XHp) : Nat → List Nm → List Nm → List Nm
  | 0, _, acc => acc
  | _ + 1, [], acc => acc
  | k + 1, m :: l, acc => if nmIn m acc = true then reachX h k l acc else match hgetO h m with
    | some cs => reachX h k (X.namesL cs ++ l) (acc ++ [m])
    | none => reachX h k l acc
def hkeepX (W : List Nm) : XHp → XHp
  | [] => []
  | (m, v) :: l => if nmIn m W = true then (m, v) :: hkeepX W l else hkeepX W l
theorem hkeepX_get (W : List Nm) (m : Nm) : ∀ h : XHp, hgetO (hkeepX W h) m = if nmIn m W = true then hgetO h m else none
  | [] => by simp [hkeepX, hgetO]
  | (k, v) :: l => by
    have ih := hkeepX_get W m l
    simp only [hkeepX]
    by_cases hk : nmbeq k m = true
    · have := nmbeq_eq hk
      subst this
      by_cases hw : nmIn k W = true
      · simp only [hw, if_true, hgetO, hk]
      · simp only [hw] at ih ⊢
        simpa using ih
    · by_cases hw : nmIn k W = true
      · simp only [hw, if_true, hgetO, hk]
        simpa using ih
      · simp only [hw, hgetO, hk]
        simpa using ih
theorem hgetO_mem : ∀ (h : XHp) (m : Nm) (cs : List X), hgetO h m = some cs → (m, cs) ∈ h
  | [], _, _, h => by cases h
  | (k, v) :: l, m, cs, h => by
    simp only [hgetO] at h
    split at h
    · rename_i e; have := nmbeq_eq e; subst this; cases h; exact List.mem_cons_self
    · exact List.mem_cons_of_mem _ (hgetO_mem l m cs h)
def idxNm (m : Nm) : List Nm → Nat → Option Nat
  | [], _ => none
  | k :: l, i => if nmbeq k m = true then some i else idxNm m l (i + 1)
def newsD (n : Nat) (ψ : Nm → Nm) (h1 : XHp) : Nat → List Nm → XDl
  | _, [] => []
  | k, m :: l => match hgetO h1 m with
    | some cs => ((n, k), some (X.renL ψ cs)) :: newsD n ψ h1 (k + 1) l
    | none => newsD n ψ h1 (k + 1) l
def nmPX (n : Nat) (hs : XHp) (m : Nm) : Bool := Nat.beq m.1 n || (hgetO hs m).isSome
/-- All that must hold of what is handed back. -/
def okH (n : Nat) (φ : Nat → Nm) (hs h h1 : XHp) (r r' : X) (d : XDl) : Bool :=
  let p := nmPX n hs
  let h' := hapX d h
  d.all (fun q => p q.1) && (hs.all (fun q => d.any fun e => nmbeq e.1 q.1) && (r'.nms p && (X.beq (r'.ren (nmF n φ)) r &&
    (h'.all (fun q => !p q.1 || (X.nmsL p q.2 && match hgetO h1 (nmF n φ q.1) with | some cs => X.beqL (X.renL (nmF n φ) q.2) cs | none => false)) &&
    h'.all (fun q => !Nat.beq q.1.1 n || (Nat.blt n (φ q.1.2).1 && h'.all fun e => !Nat.beq e.1.1 n || (!nmbeq (φ q.1.2) (φ e.1.2) || Nat.beq q.1.2 e.1.2)))))))
def handX (n : Nat) (W : List Nm) (hs h : XHp) (h1 : XHp) (r : X) : T (X × XDl) :=
  let L := (reachX h1 200 (r.names ++ W) []).filter fun m => !nmIn m W
  let ψ : Nm → Nm := fun m => match idxNm m L 0 with | some k => (n, k) | none => m
  let φ : Nat → Nm := fun k => (L[k]?).getD (n + 1, 0)
  let d : XDl := (W.map fun m => (m, (hgetO h1 m).map (X.renL ψ))) ++ newsD n ψ h1 0 L
  if okH n φ hs h h1 r (r.ren ψ) d = true then .ret (r.ren ψ, d) else .fail ["hand"]
def heapX (c : Cfg) (call : CallF) (n : Nat) (f : Nat) (args : List X) (h : XHp) (Φ : Facts) : T (X × XDl) :=
  match c.ft f with
  | some i =>
    let W := reachX h 200 (X.namesL args) []
    let hs := hkeepX W h
    if (Nat.ble args.length i.ntmps && (X.nmsL (fun k => Nat.blt k.1 n) args && hs.all fun q => Nat.blt q.1.1 n && X.nmsL (fun k => Nat.blt k.1 n) q.2)) = true then
      (joinB (slotsX 0 args) (codeX c.ti call i.ms (n + 1) (c.lp f) c.fuel i.body Φ ⟨slotsX 0 args, hs, n + 1⟩)).bind Φ fun _ p => match p.1 with
        | .exit _ => .fail ["exit"]
        | _ => match resX c.ti p.2 i.results with
          | some vs => handX n W hs h p.2.h (oneX vs)
          | none => .fail ["res"]
    else .fail ["heap"]
  | none => .fail ["table"]
theorem nmP_den (ρ : Rho) (n : Nat) (hs : XHp) : nmPX n hs = nmP n (denH ρ hs) := by
  funext m
  simp only [nmPX, nmP, hget_denO, Option.isSome_map]
  have : Nat.beq m.1 n = (m.1 == n) := by rw [Bool.eq_iff_iff]; simp
  rw [this]
theorem okH_ok {P : Program} {ρ : Rho} {f : FuncId} {fn : Func} {c : Code} {args : List X} {r r' : X} {n : Nat} {W : List Nm} {h h1 : XHp} {d : XDl} {φ : Nat → Nm} (hf : P.funcs[f]? = some fn) (hb : fn.body = some c) (hN : args.length ≤ fn.ntmps)
    (hlt : ((hkeepX W h).all fun q => Nat.blt q.1.1 n && X.nmsL (fun k => Nat.blt k.1 n) q.2) = true) (hA : X.nmsL (fun k => Nat.blt k.1 n) args = true) (hok : okH n φ (hkeepX W h) h h1 r r' d = true)
    (hrun : ∀ E : Aw.Env, E.N = fn.ntmps → AW P E c (fun e σ => (e = .ret ∨ e = .normal) ∧ (resK P σ fn.results.toList fun vs => oneOf vs = r.den ρ) ∧ σ.h = denH ρ h1) ⟨slots 0 (X.denL ρ args), denH ρ (hkeepX W h), n + 1⟩) :
    CY P n f (X.denL ρ args) (denH ρ h) (r'.den ρ) (denD ρ d) := by
  simp only [okH, Bool.and_eq_true, List.all_eq_true, Bool.or_eq_true, Bool.not_eq_true', List.any_eq_true] at hok
  obtain ⟨q1, q2, q3, q4, q5, q6⟩ := hok
  have q4 := X.beq_eq _ _ q4
  have hget' : ∀ m, hget (hap (denD ρ d) (denH ρ h)) m = (hgetO (hapX d h) m).map (denO ρ) := fun m => by rw [← denH_hap, hget_denO]
  have present : ∀ k, (hget (hap (denD ρ d) (denH ρ h)) (n, k)).isSome = true → ∃ cs, ((n, k), cs) ∈ hapX d h := fun k hk => by
    rw [hget', Option.isSome_map] at hk
    obtain ⟨cs, hcs⟩ := Option.isSome_iff_exists.1 hk
    exact ⟨cs, hgetO_mem _ _ _ hcs⟩
  refine CY_heap (hs := denH ρ (hkeepX W h)) φ hf hb (by rw [X.denL_len]; exact hN) (fun m cs hg => ?_) (fun m cs hg => ?_) (X.nmsL_den ρ args hA) (fun m hm => ?_) (fun m hm => ?_) ?_ (fun m cs hg hp => ?_) (fun k hk => ?_) (fun j k hj hk he => ?_) (fun E hE => ?_)
  · rw [hget_denO, hkeepX_get] at hg
    rw [hget_denO]
    split at hg
    · exact hg
    · cases hg
  · rw [hget_denO] at hg
    obtain ⟨cs', h2, rfl⟩ := Option.map_eq_some_iff.1 hg
    have := List.all_eq_true.1 hlt _ (hgetO_mem _ _ _ h2)
    simp only [Bool.and_eq_true, Nat.blt_eq] at this
    exact ⟨this.1, X.nmsO_den ρ _ this.2⟩
  · simp only [denD, List.map_map, List.mem_map] at hm
    obtain ⟨q, hq, rfl⟩ := hm
    have := q1 q hq
    simp only [nmPX, Bool.or_eq_true] at this
    rcases this with h2 | h2
    · exact .inl (Nat.eq_of_beq_eq_true h2)
    · right; rw [hget_denO, Option.isSome_map]; exact h2
  · rw [hget_denO, Option.isSome_map] at hm
    obtain ⟨cs, hcs⟩ := Option.isSome_iff_exists.1 hm
    obtain ⟨e, he, h2⟩ := q2 _ (hgetO_mem _ _ _ hcs)
    simp only [denD, List.map_map, List.mem_map]
    exact ⟨e, he, nmbeq_eq h2⟩
  · rw [← nmP_den]; exact X.nms_den ρ _ q3
  · rw [hget'] at hg
    obtain ⟨cs', h2, rfl⟩ := Option.map_eq_some_iff.1 hg
    rw [← nmP_den] at hp ⊢
    rcases q5 _ (hgetO_mem _ _ _ h2) with h3 | h3
    · rw [hp] at h3; cases h3
    · exact X.nmsO_den ρ _ h3.1
  · obtain ⟨cs, hcs⟩ := present k hk
    rcases q6 _ hcs with h3 | h3
    · simp at h3
    · simpa using h3.1
  · obtain ⟨cs, hcs⟩ := present j hj
    obtain ⟨cs', hcs'⟩ := present k hk
    rcases q6 _ hcs with h3 | h3
    · simp at h3
    · rcases h3.2 _ hcs' with h4 | h4
      · simp at h4
      · rcases h4 with h4 | h4
        · simp only at h4
          rw [he] at h4
          simp [nmbeq] at h4
        · exact Nat.eq_of_beq_eq_true h4
  · refine AW_mono (fun e σ hq => ⟨hq.1, ?_, fun m cs hg hp => ?_⟩) (hrun E hE)
    · rw [← X.ren_den, q4]; exact hq.2.1
    · rw [hget'] at hg
      obtain ⟨cs', h2, rfl⟩ := Option.map_eq_some_iff.1 hg
      rw [← nmP_den] at hp
      rcases q5 _ (hgetO_mem _ _ _ h2) with h3 | h3
      · rw [hp] at h3; cases h3
      · have h4 := h3.2
        simp only at h4
        split at h4
        · rename_i cs'' h5
          have h6 := X.beqL_eq _ _ h4
          rw [hq.2.2, hget_denO, h5, Option.map_some, ← h6, X.renO_den]
        · cases h4
theorem heapX_ok {P : Program} {ρ : Rho} {c : Cfg} (hc : CfgOk P ρ c) {call : CallF} (hcall : CallOk P ρ call) {n : Nat} {f : FuncId} {args : List X} {h : XHp} {Φ : Facts} (hk : Facts.ok ρ Φ) {r : X} {d : XDl} (hs : (heapX c call n f args h Φ).sel ρ = some (r, d)) :
    hasBody P f = true ∧ CY P n f (X.denL ρ args) (denH ρ h) (r.den ρ) (denD ρ d) := by
  unfold heapX at hs
  split at hs
  · rename_i i hi
    have hlp := hc.lp f i hi
    have hi := hc.ft f i hi
    simp only at hs
    split at hs
    · rename_i hc0
      simp only [Bool.and_eq_true] at hc0
      obtain ⟨hl, hA, hlt⟩ := hc0
      obtain ⟨fn, g1, g2, g3, g4, g5, g6⟩ := hi
      refine ⟨g6, ?_⟩
      obtain ⟨Φ', p, hk', h1, h2⟩ := T.sel_bind _ hk hs
      obtain ⟨e, σ'⟩ := p
      obtain ⟨s1, h3, hle⟩ := joinB_ok (codeX_ext i.body Φ ⟨slotsX 0 args, hkeepX (reachX h 200 (X.namesL args) []) h, n + 1⟩) h1
      have hst : (XS.mk (slotsX 0 args) (hkeepX (reachX h 200 (X.namesL args) []) h) (n + 1)).den ρ = ⟨slots 0 (X.denL ρ args), denH ρ (hkeepX (reachX h 200 (X.namesL args) []) h), n + 1⟩ := by simp only [XS.den, slotsX_den]
      have key : ∀ vs, resX c.ti σ' i.results = some vs → (e = .ret ∨ e = .normal) → ∀ E : Aw.Env, E.N = fn.ntmps → AW P E i.body (fun e σ => (e = .ret ∨ e = .normal) ∧ (resK P σ fn.results.toList fun vs' => oneOf vs' = (oneX vs).den ρ) ∧ σ.h = denH ρ σ'.h) ⟨slots 0 (X.denL ρ args), denH ρ (hkeepX (reachX h 200 (X.namesL args) []) h), n + 1⟩ := fun vs hvs he E hE => by
        refine AW_base fun hb => ?_
        have g := codeX_goes (E := E) hc.mixed hc.ti hcall (k0 := n + 1) hb i.body Φ _ e s1 hk (by rw [hE, g4]; exact g5) (by rw [hE, g4]; exact hlp) h3
        unfold Goes at g
        rw [hst] at g
        have g' : AW P E i.body (fun e' s => e' = e.to ∧ s = σ'.den ρ) ⟨slots 0 (X.denL ρ args), denH ρ (hkeepX (reachX h 200 (X.namesL args) []) h), n + 1⟩ := by
          intro a w hr
          exact Code.wp_mono (fun e' a' w' ⟨s, q1, q2, q3⟩ => ⟨σ'.den ρ, (impLe q3 hle) a' w' q1, q2, rfl⟩) (g a w hr)
        refine AW_mono (fun e' s hq => ?_) g'
        obtain ⟨rfl, rfl⟩ := hq
        refine ⟨by rcases he with rfl | rfl <;> simp [XE.to], ?_, rfl⟩
        rw [g3]
        exact resX_den hc.ti hvs (oneX_den ρ vs).symm
      have fin : ∀ vs, resX c.ti σ' i.results = some vs → (e = .ret ∨ e = .normal) → (handX n (reachX h 200 (X.namesL args) []) (hkeepX (reachX h 200 (X.namesL args) []) h) h σ'.h (oneX vs)).sel ρ = some (r, d) → CY P n f (X.denL ρ args) (denH ρ h) (r.den ρ) (denD ρ d) := fun vs hvs he hh => by
        unfold handX at hh
        simp only at hh
        split at hh
        · rename_i hok
          cases hh
          exact okH_ok g1 g2 (by rw [g4]; simpa using hl) hlt hA hok (key vs hvs he)
        · cases hh
      cases e with
      | exit id => cases h2
      | normal =>
        simp only at h2
        split at h2
        · rename_i vs hvs; exact fin vs hvs (.inr rfl) h2
        · cases h2
      | ret =>
        simp only at h2
        split at h2
        · rename_i vs hvs; exact fin vs hvs (.inl rfl) h2
        · cases h2
    · cases hs
  · cases hs
end Go.Proofs.Xw

/- Symbolic runs, part 12: what is shown of a function once, used at any arguments. -/
namespace Go.Proofs.Xw
open Go Go.Proofs.Aw

/-- What is put for letters. -/
structure Sub where
  i : List (Nat × IE)
  b : List (Nat × BE)
  s : List (Nat × TE)
def assoc {α : Type} (k : Nat) : List (Nat × α) → Option α
  | [] => none
  | (j, v) :: r => if Nat.beq j k = true then some v else assoc k r
def Sub.ap (σ : Sub) (ρ : Rho) : Rho :=
  { ρ with i := fun k => match assoc k σ.i with | some e => e.den ρ | none => ρ.i k,
           b := fun k => match assoc k σ.b with | some e => e.den ρ | none => ρ.b k,
           s := fun k => match assoc k σ.s with | some e => e.den ρ | none => ρ.s k }
mutual
def IE.pu (σ : Sub) : IE → IE
  | .lit n => .lit n
  | .var i => match assoc i σ.i with | some e => e | none => .var i
  | .cl l k j => .cl l k (j.pu σ)
  | .len l => .len l
  | .slen t => mkSlen (t.pu σ)
  | .byt t j => mkByt (t.pu σ) (j.pu σ)
  | .op o k a b => mkOp o k (a.pu σ) (b.pu σ)
  | .ite c a b => mkIteI (c.pu σ) (a.pu σ) (b.pu σ)
def BE.pu (σ : Sub) : BE → BE
  | .lit b => .lit b
  | .var i => match assoc i σ.b with | some e => e | none => .var i
  | .cl l k j => .cl l k (j.pu σ)
  | .lt a b => mkLt (a.pu σ) (b.pu σ)
  | .eq a b => mkEq (a.pu σ) (b.pu σ)
  | .seq a b => mkSeq (a.pu σ) (b.pu σ)
  | .slt a b => .slt (a.pu σ) (b.pu σ)
  | .not a => mkNot (a.pu σ)
  | .and a b => mkAnd (a.pu σ) (b.pu σ)
  | .or a b => mkOr (a.pu σ) (b.pu σ)
  | .ite c a b => mkIteB (c.pu σ) (a.pu σ) (b.pu σ)
def TE.pu (σ : Sub) : TE → TE
  | .lit s => .lit s
  | .var i => match assoc i σ.s with | some e => e | none => .var i
  | .cl l k j => .cl l k (j.pu σ)
  | .sub t a b => .sub (t.pu σ) (a.pu σ) (b.pu σ)
  | .ite c a b => mkIteT (c.pu σ) (a.pu σ) (b.pu σ)
end
mutual
theorem IE.pu_den (σ : Sub) (ρ : Rho) : ∀ e : IE, (e.pu σ).den ρ = e.den (σ.ap ρ)
  | .lit n => rfl
  | .var i => by
    simp only [IE.pu, IE.den, Sub.ap]
    cases h : assoc i σ.i <;> simp only [IE.den]
  | .cl l k j => by simp only [IE.pu, IE.den, IE.pu_den σ ρ j]; rfl
  | .len l => rfl
  | .slen t => by simp only [IE.pu, mkSlen_den, IE.den, TE.pu_den σ ρ t]
  | .byt t j => by simp only [IE.pu, mkByt_den, IE.den, TE.pu_den σ ρ t, IE.pu_den σ ρ j]
  | .op o k a b => by simp only [IE.pu, mkOp_den, IE.den, IE.pu_den σ ρ a, IE.pu_den σ ρ b]
  | .ite c a b => by simp only [IE.pu, mkIteI_den, IE.den, BE.pu_den σ ρ c, IE.pu_den σ ρ a, IE.pu_den σ ρ b]
theorem BE.pu_den (σ : Sub) (ρ : Rho) : ∀ e : BE, (e.pu σ).den ρ = e.den (σ.ap ρ)
  | .lit n => rfl
  | .var i => by
    simp only [BE.pu, BE.den, Sub.ap]
    cases h : assoc i σ.b <;> simp only [BE.den]
  | .cl l k j => by simp only [BE.pu, BE.den, IE.pu_den σ ρ j]; rfl
  | .lt a b => by simp only [BE.pu, mkLt_den, BE.den, IE.pu_den σ ρ a, IE.pu_den σ ρ b]
  | .eq a b => by simp only [BE.pu, mkEq_den, BE.den, IE.pu_den σ ρ a, IE.pu_den σ ρ b]
  | .seq a b => by simp only [BE.pu, mkSeq_den, BE.den, TE.pu_den σ ρ a, TE.pu_den σ ρ b]
  | .slt a b => by simp only [BE.pu, BE.den, TE.pu_den σ ρ a, TE.pu_den σ ρ b]
  | .not a => by simp only [BE.pu, mkNot_den, BE.den, BE.pu_den σ ρ a]
  | .and a b => by simp only [BE.pu, mkAnd_den, BE.den, BE.pu_den σ ρ a, BE.pu_den σ ρ b]
  | .or a b => by simp only [BE.pu, mkOr_den, BE.den, BE.pu_den σ ρ a, BE.pu_den σ ρ b]
  | .ite c a b => by simp only [BE.pu, mkIteB_den, BE.den, BE.pu_den σ ρ c, BE.pu_den σ ρ a, BE.pu_den σ ρ b]
theorem TE.pu_den (σ : Sub) (ρ : Rho) : ∀ e : TE, (e.pu σ).den ρ = e.den (σ.ap ρ)
  | .lit n => rfl
  | .var i => by
    simp only [TE.pu, TE.den, Sub.ap]
    cases h : assoc i σ.s <;> simp only [TE.den]
  | .cl l k j => by simp only [TE.pu, TE.den, IE.pu_den σ ρ j]; rfl
  | .sub t a b => by simp only [TE.pu, TE.den, TE.pu_den σ ρ t, IE.pu_den σ ρ a, IE.pu_den σ ρ b]
  | .ite c a b => by simp only [TE.pu, mkIteT_den, TE.den, BE.pu_den σ ρ c, TE.pu_den σ ρ a, TE.pu_den σ ρ b]
end
def Sc.pu (σ : Sub) : Sc → Sc
  | .i k e => .i k (e.pu σ)
  | .b e => .b (e.pu σ)
  | .s e => .s (e.pu σ)
  | .f n z => .f (n.pu σ) (z.pu σ)
  | .c n z m y => .c (n.pu σ) (z.pu σ) (m.pu σ) (y.pu σ)
theorem Sc.pu_den (σ : Sub) (ρ : Rho) (s : Sc) : (s.pu σ).den ρ = s.den (σ.ap ρ) := by
  cases s <;> simp only [Sc.pu, Sc.den, IE.pu_den, BE.pu_den, TE.pu_den]
def RL.pu (σ : Sub) : RL → RL
  | .var l ks => .var l ks
  | .one r => .one (r.map (Sc.pu σ))
  | .app n a b => .app (n.pu σ) (a.pu σ) (b.pu σ)
  | .drop n a => .drop (n.pu σ) (a.pu σ)
  | .upd i r a => .upd (i.pu σ) (r.map (Sc.pu σ)) (a.pu σ)
  | .ite c a b => .ite (c.pu σ) (a.pu σ) (b.pu σ)
theorem RL.pu_row (σ : Sub) (ρ : Rho) : ∀ (l : RL) (j : Int), (l.pu σ).row ρ j = l.row (σ.ap ρ) j
  | .var l ks, j => by
    simp only [RL.pu, RL.row]
    generalize j.toNat = m
    have : ∀ (ks : List Kd) (k : Nat), cellsV ρ l k ks m = cellsV (σ.ap ρ) l k ks m := fun ks => by
      induction ks with
      | nil => intro k; rfl
      | cons kd ks ih => intro k; cases kd <;> simp only [cellsV, ih] <;> rfl
    exact this ks 0
  | .one r, j => by
    simp only [RL.pu, RL.row, scL, List.map_map]
    congr 1
    funext s
    simp only [Function.comp, Sc.pu_den]
  | .app n a b, j => by
    simp only [RL.pu, RL.row, RL.pu_row σ ρ a, RL.pu_row σ ρ b, IE.pu_den]
  | .drop n a, j => by simp only [RL.pu, RL.row, RL.pu_row σ ρ a, IE.pu_den]
  | .upd i r a, j => by
    simp only [RL.pu, RL.row, RL.pu_row σ ρ a, IE.pu_den, scL, List.map_map]
    congr 2
    funext s
    simp only [Function.comp, Sc.pu_den]
  | .ite c a b, j => by simp only [RL.pu, RL.row, RL.pu_row σ ρ a, RL.pu_row σ ρ b, BE.pu_den]
theorem rowsD_sub (σ : Sub) (ρ : Rho) (n : IE) (l : RL) : rowsD ρ (n.pu σ) (l.pu σ) = rowsD (σ.ap ρ) n l := by
  unfold rowsD
  rw [IE.pu_den]
  congr 1
  funext j
  exact RL.pu_row σ ρ l j
theorem cellsV_sub (σ : Sub) (ρ : Rho) (l m : Nat) : ∀ (ks : List Kd) (k : Nat), cellsV ρ l k ks m = cellsV (σ.ap ρ) l k ks m
  | [], _ => rfl
  | kd :: ks, k => by cases kd <;> simp only [cellsV, cellsV_sub σ ρ l m ks (k + 1)] <;> rfl
theorem cellsN_sub (σ : Sub) (ρ : Rho) (l m : Nat) : ∀ (ks : List Nk) (k : Nat), cellsN ρ l k ks m = cellsN (σ.ap ρ) l k ks m
  | [], _ => rfl
  | .f kd :: ks, k => by cases kd <;> simp only [cellsN, cellV1, cellsN_sub σ ρ l m ks (k + 1)] <;> rfl
  | .r z S kk :: ks, k => by
    simp only [cellsN, rowsS, cellsN_sub σ ρ l m ks (k + 1), cellsV_sub σ ρ S]
    rfl
theorem rowsN_sub (σ : Sub) (ρ : Rho) (n : IE) (l : Nat) (ks : List Nk) : rowsN ρ (n.pu σ) l ks = rowsN (σ.ap ρ) n l ks := by
  unfold rowsN
  rw [IE.pu_den]
  congr 1
  funext j
  exact cellsN_sub σ ρ l j ks 0
def asSub (σ : Sub) : List (BE × Nat) → List (BE × Nat)
  | [] => []
  | (c, o) :: r => (c.pu σ, o) :: asSub σ r
theorem choose_sub (σ : Sub) (ρ : Rho) (d : Nat) : ∀ as, choose ρ (asSub σ as) d = choose (σ.ap ρ) as d
  | [] => rfl
  | (c, o) :: r => by simp only [asSub, choose, BE.pu_den, choose_sub σ ρ d r]
mutual
def X.pu (σ : Sub) : X → X
  | .top => .top
  | .k v => .k v
  | .sc s => .sc (s.pu σ)
  | .agg cs => .agg (X.puL σ cs)
  | .tup cs => .tup (X.puL σ cs)
  | .ptr n as d => .ptr n (asSub σ as) d
  | .sl n z off len own => .sl n z off len own
  | .ip cs as d => .ip (X.puL σ cs) (asSub σ as) d
  | .ro z es full => .ro z (X.puE σ es) full
  | .rl z n l full => .rl z (n.pu σ) (l.pu σ) full
  | .rn z n l ks full => .rn z (n.pu σ) l ks full
  | .fn f xs ys => .fn f (X.puL σ xs) (X.puL σ ys)
  | .gd c x => .gd (c.pu σ) (x.pu σ)
  | .rows z n l => .rows z (n.pu σ) (l.pu σ)
  | .slv n z o l w => .slv n z (o.pu σ) (l.pu σ) w
  | .ptrv n z j o => .ptrv n z (j.pu σ) o
def X.puL (σ : Sub) : List X → List X
  | [] => []
  | x :: xs => x.pu σ :: X.puL σ xs
def X.puE (σ : Sub) : List (List X) → List (List X)
  | [] => []
  | e :: es => X.puL σ e :: X.puE σ es
end
mutual
theorem X.pu_den (σ : Sub) (ρ : Rho) : ∀ x : X, (x.pu σ).den ρ = x.den (σ.ap ρ)
  | .top => rfl
  | .k v => rfl
  | .sc s => by simp only [X.pu, X.den, Sc.pu_den]
  | .agg cs => by simp only [X.pu, X.den, X.puL_den σ ρ cs]
  | .tup cs => by simp only [X.pu, X.den, X.puL_den σ ρ cs]
  | .ptr n as d => by simp only [X.pu, X.den, choose_sub]
  | .sl n z off len own => rfl
  | .ip cs as d => by simp only [X.pu, X.den, X.puL_den σ ρ cs, choose_sub]
  | .ro z es full => by simp only [X.pu, X.den, X.puE_den σ ρ es]
  | .rl z n l full => by simp only [X.pu, X.den, rowsD_sub]
  | .rn z n l ks full => by simp only [X.pu, X.den, rowsN_sub]
  | .fn f xs ys => by simp only [X.pu, X.den, X.puL_den σ ρ xs, X.puL_den σ ρ ys]
  | .gd c x => by simp only [X.pu, X.den, BE.pu_den, X.pu_den σ ρ x]
  | .rows z n l => by simp only [X.pu, X.den]
  | .slv n z o l w => by simp only [X.pu, X.den, IE.pu_den]
  | .ptrv n z j o => by simp only [X.pu, X.den, IE.pu_den]
theorem X.puL_den (σ : Sub) (ρ : Rho) : ∀ x : List X, X.denL ρ (X.puL σ x) = X.denL (σ.ap ρ) x
  | [] => rfl
  | x :: xs => by simp only [X.puL, X.denL, X.pu_den σ ρ x, X.puL_den σ ρ xs]
theorem X.puE_den (σ : Sub) (ρ : Rho) : ∀ x : List (List X), X.denE ρ (X.puE σ x) = X.denE (σ.ap ρ) x
  | [] => rfl
  | x :: xs => by simp only [X.puE, X.denE, X.puL_den σ ρ x, X.puE_den σ ρ xs]
end

/-! ### What must be put for a pattern's letters -/
mutual
def X.fit : X → X → Sub → Option Sub
  | .sc (.i kk (.var i)), .sc (.i kk' e), σ => if kbeq kk kk' = true then some { σ with i := (i, e) :: σ.i } else none
  | .sc (.b (.var i)), .sc (.b e), σ => some { σ with b := (i, e) :: σ.b }
  | .sc (.s (.var i)), .sc (.s e), σ => some { σ with s := (i, e) :: σ.s }
  | .agg cs, .agg ds, σ => X.fitL cs ds σ
  | .tup cs, .tup ds, σ => X.fitL cs ds σ
  | .ro z es _, .ro z' ds _, σ => if Nat.beq z z' = true then X.fitE es ds σ else none
  | _, _, σ => some σ
def X.fitL : List X → List X → Sub → Option Sub
  | [], [], σ => some σ
  | a :: as, b :: bs, σ => match X.fit a b σ with
    | some σ => X.fitL as bs σ
    | none => none
  | _, _, _ => none
def X.fitE : List (List X) → List (List X) → Sub → Option Sub
  | [], [], σ => some σ
  | a :: as, b :: bs, σ => match X.fitL a b σ with
    | some σ => X.fitE as bs σ
    | none => none
  | _, _, _ => none
end
structure Sm where
  f : Nat
  pat : List X
  r : X
def SmOk (P : Program) (s : Sm) : Prop := hasBody P s.f = true ∧ ∀ (ρ : Rho) (n : Nat) (h : Hp), CY P n s.f (X.denL ρ s.pat) h (s.r.den ρ) []
/-- The answer of what is shown once: the pattern with what is put for its letters must be the arguments themselves. -/
def useSm (args : List X) (s : Sm) : Option X :=
  match X.fitL s.pat args ⟨[], [], []⟩ with
  | some σ => if X.beqL (X.puL σ s.pat) args = true then some (s.r.pu σ) else none
  | none => none
def lookS (f : Nat) (args : List X) : List Sm → Option X
  | [] => none
  | s :: l => if Nat.beq s.f f = true then (match useSm args s with
    | some r => some r
    | none => lookS f args l) else lookS f args l
theorem lookS_ok {P : Program} {ρ : Rho} {n : Nat} {h : Hp} {f : Nat} {args : List X} {r : X} : ∀ {l : List Sm}, (∀ s ∈ l, SmOk P s) → lookS f args l = some r → hasBody P f = true ∧ CY P n f (X.denL ρ args) h (r.den ρ) []
  | [], _, hl => by cases hl
  | s :: l, hs, hl => by
    have hs' : ∀ s ∈ l, SmOk P s := fun t ht => hs t (List.mem_cons_of_mem _ ht)
    simp only [lookS] at hl
    split at hl
    · rename_i hf
      have hf := Nat.eq_of_beq_eq_true hf
      split at hl
      · rename_i r' hu
        cases hl
        obtain ⟨h1, h2⟩ := hs s List.mem_cons_self
        unfold useSm at hu
        split at hu
        · rename_i σ _
          split at hu
          · rename_i hb
            cases hu
            have hb := X.beqL_eq _ _ hb
            have := h2 (σ.ap ρ) n h
            rw [hf] at this h1
            rw [← hb, X.puL_den, X.pu_den]
            exact ⟨h1, this⟩
          · cases hu
        · cases hu
      · exact lookS_ok hs' hl
    · exact lookS_ok hs' hl

/-! ### Calls with what is shown -/
structure Cfg2 where
  c : Cfg
  sm : List Sm
  hf : List Nat
def natIn (n : Nat) : List Nat → Bool
  | [] => false
  | k :: l => Nat.beq k n || natIn n l
/-! ### Slices of own objects, handed to a callee that only reads them -/
mutual
def X.plain : X → Bool
  | .top | .k _ | .sc _ | .rows _ _ _ => true
  | .agg cs | .tup cs => X.plainL cs
  | .gd _ x => x.plain
  | _ => false
def X.plainL : List X → Bool
  | [] => true
  | x :: xs => x.plain && X.plainL xs
end
mutual
theorem X.plain_den (ρ : Rho) : ∀ x : X, x.plain = true → plainA (x.den ρ) = true
  | .top, _ => rfl
  | .k _, _ => rfl
  | .sc _, _ => rfl
  | .rows _ _ _, _ => rfl
  | .agg cs, h => X.plainL_den ρ cs h
  | .tup cs, h => X.plainL_den ρ cs h
  | .gd c x, h => by
    simp only [X.den]
    split
    · exact X.plain_den ρ x h
    · rfl
  | .ptr _ _ _, h => by cases h
  | .sl _ _ _ _ _, h => by cases h
  | .ip _ _ _, h => by cases h
  | .ro _ _ _, h => by cases h
  | .rl _ _ _ _, h => by cases h
  | .rn _ _ _ _ _, h => by cases h
  | .fn _ _ _, h => by cases h
  | .slv _ _ _ _ _, h => by cases h
  | .ptrv _ _ _ _, h => by cases h
theorem X.plainL_den (ρ : Rho) : ∀ l : List X, X.plainL l = true → plainAL (X.denL ρ l) = true
  | [], _ => rfl
  | x :: xs, h => by
    simp only [X.plainL, Bool.and_eq_true] at h
    simp only [X.denL, plainAL, X.plain_den ρ x h.1, X.plainL_den ρ xs h.2, Bool.and_self]
end
def rowsNn : Rows → Bool
  | .c es => X.nnE es
  | .r _ _ => true
theorem rowsNn_den {ρ : Rho} {r : Rows} (h : rowsNn r = true) : nmsE (fun _ => false) (r.den ρ) = true := by
  cases r with
  | c es => exact X.nnE_den ρ es h
  | r n l => exact nms_rows
def frzS (h : XHp) (Φ : Facts) (z : Nat) (x : X) : T X := if Nat.blt 0 z = true then (elemsT h Φ z x).bind Φ fun _ r => if rowsNn r = true then .ret (r.ro z) else .fail ["frz"] else .fail ["frz"]
def frzX0 (h : XHp) (Φ : Facts) (x : X) : T X :=
  if x.nn = true then .ret x else match x with
    | .slv m z off len own => frzS h Φ z (.slv m z off len own)
    | .sl m z off len own => frzS h Φ z (.sl m z off len own)
    | _ => .fail ["frz"]
theorem frzS_ok {ρ : Rho} {h : XHp} {Φ : Facts} (hk : Facts.ok ρ Φ) {z : Nat} {x y : X} (hs : (frzS h Φ z x).sel ρ = some y) : 0 < z ∧ ∃ fs, elemsA (denH ρ h) z (x.den ρ) = some fs ∧ nmsE (fun _ => false) fs = true ∧ y.den ρ = .ro z fs false := by
  unfold frzS at hs
  split at hs
  · rename_i hz
    obtain ⟨_, r, hk', h1, h2⟩ := T.sel_bind _ hk hs
    split at h2
    · rename_i hn
      cases h2
      exact ⟨by simpa [Nat.blt_eq] using hz, _, elemsT_den hk h1, rowsNn_den hn, Rows.ro_den ρ z r⟩
    · cases h2
  · cases hs
theorem frzX0_ok {ρ : Rho} {h : XHp} {Φ : Facts} (hk : Facts.ok ρ Φ) {x y : X} (hs : (frzX0 h Φ x).sel ρ = some y)   : Frz0 (denH ρ h) (x.den ρ) (y.den ρ) := by
  unfold frzX0 at hs
  split at hs
  · rename_i hn
    cases hs
    exact .inl ⟨rfl, X.nn_den ρ _ hn⟩
  · split at hs
    · obtain ⟨h0, fs, h1, h2, h3⟩ := frzS_ok hk hs
      exact .inr ⟨_, _, _, _, _, _, rfl, h0, h1, h2, h3⟩
    · obtain ⟨h0, fs, h1, h2, h3⟩ := frzS_ok hk hs
      exact .inr ⟨_, _, _, _, _, _, rfl, h0, h1, h2, h3⟩
    · cases hs
def frzL0 (h : XHp) (Φ : Facts) : List X → T (List X)
  | [] => .ret []
  | x :: xs => (frzX0 h Φ x).bind Φ fun Φ y => (frzL0 h Φ xs).bind Φ fun _ ys => .ret (y :: ys)
theorem frzL0_ok {ρ : Rho} {h : XHp} : ∀ {xs ys : List X} {Φ : Facts}, Facts.ok ρ Φ → (frzL0 h Φ xs).sel ρ = some ys → FrzL0 (denH ρ h) (X.denL ρ xs) (X.denL ρ ys)
  | [], ys, Φ, _, hs => by cases hs; rfl
  | x :: xs, ys, Φ, hk, hs => by
    simp only [frzL0] at hs
    obtain ⟨Φ1, y, hk1, h1, hs⟩ := T.sel_bind _ hk hs
    obtain ⟨_, zs, _, h2, hs⟩ := T.sel_bind _ hk1 hs
    cases hs
    exact ⟨_, _, rfl, frzX0_ok hk h1, frzL0_ok hk1 h2⟩
def frzX1 (h : XHp) (Φ : Facts) (x : X) : T X := match x with
  | .ptr m as d => match hgetO h m with
    | some cs => if isRows cs = true then .fail ["frz"] else (frzL0 h Φ cs).bind Φ fun _ ys => .ret (.ip ys as d)
    | none => .fail ["frz"]
  | x => frzX0 h Φ x
theorem frzX1_ok {ρ : Rho} {h : XHp} {Φ : Facts} (hk : Facts.ok ρ Φ) {x y : X} (hs : (frzX1 h Φ x).sel ρ = some y) : Frz1 (denH ρ h) (x.den ρ) (y.den ρ) := by
  unfold frzX1 at hs
  split at hs
  · split at hs
    · rename_i cs hg
      split at hs
      · cases hs
      · rename_i hr
        obtain ⟨_, ys, _, h1, h2⟩ := T.sel_bind _ hk hs
        cases h2
        refine .inr ⟨_, _, X.denL ρ cs, X.denL ρ ys, rfl, ?_, frzL0_ok hk h1, rfl⟩
        rw [hget_denO, hg, Option.map_some, denO_of (by simpa using hr)]
    · cases hs
  · exact .inl (frzX0_ok hk hs)
def frzL1 (h : XHp) (Φ : Facts) : List X → T (List X)
  | [] => .ret []
  | x :: xs => (frzX1 h Φ x).bind Φ fun Φ y => (frzL1 h Φ xs).bind Φ fun _ ys => .ret (y :: ys)
theorem frzL1_ok {ρ : Rho} {h : XHp} : ∀ {xs ys : List X} {Φ : Facts}, Facts.ok ρ Φ → (frzL1 h Φ xs).sel ρ = some ys → FrzL1 (denH ρ h) (X.denL ρ xs) (X.denL ρ ys)
  | [], ys, Φ, _, hs => by cases hs; rfl
  | x :: xs, ys, Φ, hk, hs => by
    simp only [frzL1] at hs
    obtain ⟨Φ1, y, hk1, h1, hs⟩ := T.sel_bind _ hk hs
    obtain ⟨_, zs, _, h2, hs⟩ := T.sel_bind _ hk1 hs
    cases hs
    exact ⟨_, _, rfl, frzX1_ok hk h1, frzL1_ok hk1 h2⟩
def frzX (h : XHp) (Φ : Facts) (x : X) : T X := match x with
  | .fn f xs ys => (frzL1 h Φ xs).bind Φ fun Φ us => (frzL1 h Φ ys).bind Φ fun _ vs => .ret (.fn f us vs)
  | x => frzX1 h Φ x
theorem frzX_ok {ρ : Rho} {h : XHp} {Φ : Facts} (hk : Facts.ok ρ Φ) {x y : X} (hs : (frzX h Φ x).sel ρ = some y) : Frz (denH ρ h) (x.den ρ) (y.den ρ) := by
  unfold frzX at hs
  split at hs
  · obtain ⟨Φ1, us, hk1, h1, hs⟩ := T.sel_bind _ hk hs
    obtain ⟨_, vs, _, h2, hs⟩ := T.sel_bind _ hk1 hs
    cases hs
    exact .inr ⟨_, _, _, _, _, rfl, frzL1_ok hk h1, frzL1_ok hk1 h2, rfl⟩
  · exact .inl (frzX1_ok hk hs)
def frzL (h : XHp) (Φ : Facts) : List X → T (List X)
  | [] => .ret []
  | x :: xs => (frzX h Φ x).bind Φ fun Φ y => (frzL h Φ xs).bind Φ fun _ ys => .ret (y :: ys)
theorem frzL_ok {ρ : Rho} {h : XHp} : ∀ {xs ys : List X} {Φ : Facts}, Facts.ok ρ Φ → (frzL h Φ xs).sel ρ = some ys → FrzL (denH ρ h) (X.denL ρ xs) (X.denL ρ ys)
  | [], ys, Φ, _, hs => by cases hs; rfl
  | x :: xs, ys, Φ, hk, hs => by
    simp only [frzL] at hs
    obtain ⟨Φ1, y, hk1, h1, hs⟩ := T.sel_bind _ hk hs
    obtain ⟨_, zs, _, h2, hs⟩ := T.sel_bind _ hk1 hs
    cases hs
    exact ⟨_, _, rfl, frzX_ok hk h1, frzL_ok hk1 h2⟩
mutual
/-- A value that points at the objects of the call's own number alone. -/
def X.own (n : Nat) : X → Bool
  | .top | .k _ | .sc _ | .rows _ _ _ => true
  | .agg cs | .tup cs => X.ownL n cs
  | .gd _ x => x.own n
  | .ptr m _ _ => Nat.beq m.1 n
  | .sl m _ _ _ _ => Nat.beq m.1 n
  | .slv m _ _ _ _ => Nat.beq m.1 n
  | _ => false
def X.ownL (n : Nat) : List X → Bool
  | [] => true
  | x :: xs => x.own n && X.ownL n xs
end
mutual
theorem X.own_den (ρ : Rho) (n : Nat) : ∀ x : X, x.own n = true → ownA n (x.den ρ) = true
  | .top, _ => rfl
  | .k _, _ => rfl
  | .sc _, _ => rfl
  | .rows _ _ _, _ => rfl
  | .agg cs, h => X.ownL_den ρ n cs h
  | .tup cs, h => X.ownL_den ρ n cs h
  | .gd c x, h => by
    simp only [X.den]
    split
    · exact X.own_den ρ n x h
    · rfl
  | .ptr _ _ _, h => h
  | .sl _ _ _ _ _, h => h
  | .slv _ _ _ _ _, h => h
  | .ip _ _ _, h => by cases h
  | .ro _ _ _, h => by cases h
  | .rl _ _ _ _, h => by cases h
  | .rn _ _ _ _ _, h => by cases h
  | .fn _ _ _, h => by cases h
  | .ptrv _ _ _ _, h => by cases h
theorem X.ownL_den (ρ : Rho) (n : Nat) : ∀ l : List X, X.ownL n l = true → ownAL n (X.denL ρ l) = true
  | [], _ => rfl
  | x :: xs, h => by
    simp only [X.ownL, Bool.and_eq_true] at h
    simp only [X.denL, ownAL, X.own_den ρ n x h.1, X.ownL_den ρ n xs h.2, Bool.and_self]
end
theorem ownAL_one {n : Nat} : ∀ {l : List AV}, (∀ x ∈ l, ∃ v, x = .sc v) → ownAL n l = true
  | [], _ => rfl
  | x :: l, h => by
    obtain ⟨v, rfl⟩ := h x List.mem_cons_self
    simp only [ownAL, ownA, ownAL_one fun y hy => h y (List.mem_cons_of_mem _ hy), Bool.and_self]
theorem scL_sc (ρ : Rho) (r : List Sc) : ∀ x ∈ scL ρ r, ∃ v, x = AV.sc v := fun x hx => by
  obtain ⟨s, _, rfl⟩ := List.mem_map.1 hx
  exact ⟨_, rfl⟩
theorem cellsV_sc (ρ : Rho) (l j : Nat) : ∀ (ks : List Kd) (k : Nat), ∀ x ∈ cellsV ρ l k ks j, ∃ v, x = AV.sc v
  | [], _, x, hx => by simp [cellsV] at hx
  | .i _ :: ks, k, x, hx => by
    simp only [cellsV, List.mem_cons] at hx
    rcases hx with rfl | hx
    · exact ⟨_, rfl⟩
    · exact cellsV_sc ρ l j ks (k + 1) x hx
  | .b :: ks, k, x, hx => by
    simp only [cellsV, List.mem_cons] at hx
    rcases hx with rfl | hx
    · exact ⟨_, rfl⟩
    · exact cellsV_sc ρ l j ks (k + 1) x hx
  | .s :: ks, k, x, hx => by
    simp only [cellsV, List.mem_cons] at hx
    rcases hx with rfl | hx
    · exact ⟨_, rfl⟩
    · exact cellsV_sc ρ l j ks (k + 1) x hx
theorem row_sc (ρ : Rho) : ∀ (l : RL) (j : Int), ∀ x ∈ l.row ρ j, ∃ v, x = AV.sc v
  | .var l ks, j => cellsV_sc ρ l _ ks 0
  | .one r, j => scL_sc ρ r
  | .app n a b, j => by
    simp only [RL.row]
    split
    · exact row_sc ρ a _
    · exact row_sc ρ b _
  | .drop n a, j => row_sc ρ a _
  | .upd i r a, j => by
    simp only [RL.row]
    split
    · exact scL_sc ρ r
    · exact row_sc ρ a _
  | .ite c a b, j => by
    simp only [RL.row]
    split
    · exact row_sc ρ a _
    · exact row_sc ρ b _
theorem denO_own (ρ : Rho) (n : Nat) (cs : List X) (h : X.ownL n cs = true) : ownAL n (denO ρ cs) = true := by
  unfold denO
  split
  · rename_i z m l
    refine ownAL_one fun x hx => ?_
    obtain ⟨r, hr, hx⟩ := List.mem_flatten.1 hx
    obtain ⟨j, _, rfl⟩ := List.mem_map.1 hr
    exact row_sc ρ l j x hx
  · exact X.ownL_den ρ n cs h
def ownDX (n : Nat) (d : XDl) : Bool := d.all fun q => Nat.beq q.1.1 n && (match q.2 with | some cs => X.ownL n cs | none => false)
theorem ownDX_den (ρ : Rho) {n : Nat} {d : XDl} (h : ownDX n d = true) : ownD n (denD ρ d) := fun q hq => by
  obtain ⟨p, hp, rfl⟩ := List.mem_map.1 hq
  have h := List.all_eq_true.1 h p hp
  rw [Bool.and_eq_true] at h
  obtain ⟨h1, h2⟩ := h
  refine ⟨Nat.eq_of_beq_eq_true h1, ?_⟩
  cases ho : p.2 with
  | none => rw [ho] at h2; cases h2
  | some cs =>
    rw [ho] at h2
    exact ⟨denO ρ cs, by rw [Option.map_some], denO_own ρ n cs h2⟩
/-- A callee that only reads what it is handed, and hands back new objects. -/
def stepG (c : Cfg2) (call : CallF) (n f : Nat) (args : List X) (h : XHp) (Φ : Facts) : T (X × XDl) :=
  (frzL h Φ args).bind Φ fun Φ ys => (heapX c.c call n f ys [] Φ).bind Φ fun _ p => if (p.1.own n && ownDX n p.2) = true then .ret p else .fail ["own"]
def stepP (c : Cfg2) (call : CallF) (f : Nat) (args : List X) (Φ : Facts) : T (X × XDl) := match lookK f args c.c.ks with
  | some r => .ret (r, [])
  | none => match lookS f args c.sm with
    | some r => .ret (r, [])
    | none => if X.nnL args = true then pureX c.c call f args Φ else .fail ["args"]
def stepF (c : Cfg2) (call : CallF) (f : Nat) (args : List X) (h : XHp) (Φ : Facts) : T (X × XDl) :=
  (frzL h Φ args).bind Φ fun Φ ys => (stepP c call f ys Φ).bind Φ fun _ p => match p.2 with
    | [] => if p.1.plain = true then .ret (p.1, []) else .fail ["plain"]
    | _ => .fail ["plain"]
def stepS (c : Cfg2) (call : CallF) : CallF := fun n f args h Φ =>
  match lookHn f args h c.c.kh with
  | some p => .ret p
  | none =>
  if natIn f c.hf = true then heapX c.c call n f args h Φ
  else if natIn (f + 10000) c.hf = true then stepF c call f args h Φ
  else if natIn (f + 20000) c.hf = true then stepG c call n f args h Φ
  else if X.nnL args = true then stepP c call f args Φ
  else if args.all (fun x => x.nn || (match x with | .sl _ _ _ _ _ => true | .slv _ _ _ _ _ => true | _ => false)) = true then stepF c call f args h Φ else heapX c.c call n f args h Φ
def callS (c : Cfg2) : Nat → CallF
  | 0 => fun _ _ _ _ _ => (.fail [])
  | d + 1 => stepS c (callS c d)
theorem stepP_ok {P : Program} {ρ : Rho} {c : Cfg2} (hc : CfgOk P ρ c.c) (hs : ∀ s ∈ c.sm, SmOk P s) {call : CallF} (hcall : CallOk P ρ call) {n : Nat} {f : Nat} {args : List X} {h : Hp} {Φ : Facts} (hk : Facts.ok ρ Φ) {r : X} {d : XDl}
    (hq : (stepP c call f args Φ).sel ρ = some (r, d)) : hasBody P f = true ∧ CY P n f (X.denL ρ args) h (r.den ρ) (denD ρ d) := by
  unfold stepP at hq
  split at hq
  · rename_i r' hl
    cases hq
    obtain ⟨h1, h2⟩ := hc.ks _ (lookK_mem hl)
    exact ⟨h1, h2 n _⟩
  · split at hq
    · rename_i r' hl
      cases hq
      exact lookS_ok hs hl
    · split at hq
      · rename_i ha
        exact pureX_ok hc hcall ha hk hq
      · cases hq
theorem stepF_ok {P : Program} {ρ : Rho} {c : Cfg2} (hc : CfgOk P ρ c.c) (hs : ∀ s ∈ c.sm, SmOk P s) {call : CallF} (hcall : CallOk P ρ call) {n : Nat} {f : Nat} {args : List X} {h : XHp} {Φ : Facts} (hk : Facts.ok ρ Φ) {r : X} {d : XDl}
    (hq : (stepF c call f args h Φ).sel ρ = some (r, d)) : hasBody P f = true ∧ CY P n f (X.denL ρ args) (denH ρ h) (r.den ρ) (denD ρ d) := by
  unfold stepF at hq
  obtain ⟨Φ1, ys, hk1, h1, hq⟩ := T.sel_bind _ hk hq
  obtain ⟨_, p, _, h2, hq⟩ := T.sel_bind _ hk1 hq
  obtain ⟨r', d'⟩ := p
  split at hq
  · rename_i hd
    simp only at hd
    subst hd
    split at hq
    · rename_i hp
      cases hq
      obtain ⟨g1, g2⟩ := stepP_ok (n := n) (h := []) hc hs hcall hk1 h2
      exact ⟨g1, CY_frz (frzL_ok hk h1) (X.plain_den ρ _ hp) g2⟩
    · cases hq
  · cases hq
theorem stepG_ok {P : Program} {ρ : Rho} {c : Cfg2} (hc : CfgOk P ρ c.c) {call : CallF} (hcall : CallOk P ρ call) {n : Nat} {f : Nat} {args : List X} {h : XHp} {Φ : Facts} (hk : Facts.ok ρ Φ) {r : X} {d : XDl}
    (hq : (stepG c call n f args h Φ).sel ρ = some (r, d)) : hasBody P f = true ∧ CY P n f (X.denL ρ args) (denH ρ h) (r.den ρ) (denD ρ d) := by
  unfold stepG at hq
  obtain ⟨Φ1, ys, hk1, h1, hq⟩ := T.sel_bind _ hk hq
  obtain ⟨_, p, _, h2, hq⟩ := T.sel_bind _ hk1 hq
  split at hq
  · rename_i hp
    rw [Bool.and_eq_true] at hp
    cases hq
    obtain ⟨g1, g2⟩ := heapX_ok hc hcall hk1 h2
    exact ⟨g1, CY_frzN (frzL_ok hk h1) (X.own_den ρ n _ hp.1) (ownDX_den ρ hp.2) g2⟩
  · cases hq
theorem callS_ok {P : Program} {ρ : Rho} {c : Cfg2} (hc : CfgOk P ρ c.c) (hs : ∀ s ∈ c.sm, SmOk P s) : ∀ d, CallOk P ρ (callS c d)
  | 0 => fun n f args h Φ r d _ hq => by cases hq
  | k + 1 => fun n f args h Φ r d hk hq => by
    have hcall := callS_ok hc hs k
    simp only [callS] at hq
    unfold stepS at hq
    split at hq
    · rename_i hl
      cases hq
      exact lookHn_ok hc.kh hl
    split at hq
    · exact heapX_ok hc hcall hk hq
    · split at hq
      · exact stepF_ok hc hs hcall hk hq
      split at hq
      · exact stepG_ok hc hcall hk hq
      split at hq
      · exact stepP_ok hc hs hcall hk hq
      · split at hq
        · exact stepF_ok hc hs hcall hk hq
        · exact heapX_ok hc hcall hk hq
/-- What a function answers, run over letters of which something is known. -/
def askF (c : Cfg2) (f : Nat) (args : List X) (Φ : Facts) : T X := if X.nnL args = true then (pureX c.c (callS c 12) f args Φ).map (·.1) else .fail ["args"]
def askS (c : Cfg2) (f : Nat) (args : List X) : T X := askF c f args []
theorem askF_ok {P : Program} {ρ : Rho} {c : Cfg2} (hc : CfgOk P ρ c.c) (hs : ∀ s ∈ c.sm, SmOk P s) {f : Nat} {args : List X} {Φ : Facts} {r : X} (hk : Facts.ok ρ Φ) (h : (askF c f args Φ).sel ρ = some r) : hasBody P f = true ∧ ∀ n h, CY P n f (X.denL ρ args) h (r.den ρ) [] := by
  unfold askF at h
  split at h
  · rename_i ha
    obtain ⟨p, h1, rfl⟩ := T.sel_map _ h
    obtain ⟨r, d⟩ := p
    have hd : d = [] := by
      unfold pureX at h1
      split at h1
      · obtain ⟨_, z, _, _, h4⟩ := T.sel_bind _ hk h1
        split at h4
        · cases h4; rfl
        · cases h4
      · cases h1
    subst hd
    exact ⟨(pureX_ok (n := 0) (h := []) hc (callS_ok hc hs 12) ha hk h1).1, fun n hp => (pureX_ok hc (callS_ok hc hs 12) ha hk h1).2⟩
  · cases h
theorem askS_ok {P : Program} {ρ : Rho} {c : Cfg2} (hc : CfgOk P ρ c.c) (hs : ∀ s ∈ c.sm, SmOk P s) {f : Nat} {args : List X} {r : X} (h : (askS c f args).sel ρ = some r) : hasBody P f = true ∧ ∀ n h, CY P n f (X.denL ρ args) h (r.den ρ) [] :=
  askF_ok hc hs (Facts.ok_nil ρ) h
/-- What is shown of one function. -/
theorem smOk {P : Program} {c : Cfg2} (hc : ∀ ρ, CfgOk P ρ c.c) (hs : ∀ s ∈ c.sm, SmOk P s) {f : Nat} {pat : List X} {r : X} (h : askS c f pat = .ret r) : SmOk P ⟨f, pat, r⟩ :=
  ⟨(askS_ok (ρ := ⟨fun _ => 0, fun _ => false, fun _ => ⟨#[]⟩, fun _ => 0, fun _ _ _ => 0, fun _ _ _ => false, fun _ _ _ => ⟨#[]⟩⟩) (hc _) hs (by rw [h]; rfl)).1, fun ρ n hp => (askS_ok (hc ρ) hs (by rw [h]; rfl)).2 n hp⟩
end Go.Proofs.Xw

/- Symbolic runs, part 13: arguments that can be read as data, as letters. -/
namespace Go.Proofs.Xw
open Go Go.Proofs.Aw

/-! ### Types of plain cells -/
def flatF (P : Program) (p : TypeId → Option (List Kd)) : Nat → List Field → Option (List Kd)
  | _, [] => some []
  | off, f :: fs => if f.offset = off then
      (p f.type).bind fun l => if l.length = P.cellsOf f.type then (flatF P p (off + P.cellsOf f.type) fs).map fun r => l ++ r else none
    else none
def repK : Nat → List Kd → List Kd
  | 0, _ => []
  | n + 1, l => repK n l ++ l
theorem repK_length (l : List Kd) : ∀ n, (repK n l).length = n * l.length
  | 0 => by simp [repK]
  | n + 1 => by simp only [repK, List.length_append, repK_length l n, Nat.succ_mul]
def flatT (P : Program) : Nat → TypeId → Option (List Kd)
  | 0, _ => none
  | d + 1, t => (match P.underlying t with
    | some .bool => some [.b]
    | some (.int k) => some [.i k]
    | some .string => some [.s]
    | some (.struct fs) => flatF P (flatT P d) 0 fs.toList
    | some (.array n e) => (flatT P d e).bind fun l => if l.length = P.cellsOf e then some (repK n l) else none
    | _ => none : Option (List Kd)).bind fun l => if l.length = P.cellsOf t then some l else none
def kOk : Kd → Value → Prop
  | .i k, v => ∃ n, v = .int k n ∧ (Lit.int k n).wf = true
  | .b, v => ∃ b, v = .bool b
  | .s, v => ∃ s, v = .string s ∧ s.size ≤ maxLen
def KS : List Kd → List Value → Prop
  | [], vs => vs = []
  | k :: ks, vs => ∃ v r, vs = v :: r ∧ kOk k v ∧ KS ks r
theorem KS.append : ∀ {l m : List Kd} {c d : List Value}, KS l c → KS m d → KS (l ++ m) (c ++ d)
  | [], m, c, d, h, h' => by simp only [KS] at h; subst h; exact h'
  | k :: l, m, c, d, ⟨v, r, e, hv, hr⟩, h' => by
    subst e
    exact ⟨v, r ++ d, rfl, hv, KS.append hr h'⟩
theorem KS.length : ∀ {l : List Kd} {c : List Value}, KS l c → c.length = l.length
  | [], c, h => by simp only [KS] at h; subst h; rfl
  | k :: l, c, ⟨v, r, e, _, hr⟩ => by subst e; simp [KS.length hr]
theorem KS.get : ∀ {l : List Kd} {c : List Value}, KS l c → ∀ {i : Nat} {k : Kd}, l[i]? = some k → ∃ v, c[i]? = some v ∧ kOk k v
  | [], _, _, i, k, h => by simp at h
  | k' :: l, c, ⟨v, r, e, hv, hr⟩, i, k, h => by
    subst e
    cases i with
    | zero => simp at h; subst h; exact ⟨v, rfl, hv⟩
    | succ i => simpa using KS.get hr (by simpa using h)

section
variable {H : Type} {enc : TypeId × Value → H} {P : Program}
theorem drop_take_add {α : Type} (l : List α) (off a b : Nat) : (l.drop off).take (a + b) = (l.drop off).take a ++ (l.drop (off + a)).take b := by
  rw [List.take_add, List.drop_drop]

/-- What reading shows of a plain type: its cells; nothing of the memory. -/
def FlatOk (_enc : TypeId × Value → H) (_P : Program) (r : World → Nat → (Nat → Bool) → Bool → TypeId → List Value → Option (DataW H × List MemPlace)) (t : TypeId) (ks : List Kd) : Prop :=
  ∀ w base sp held cs x, r w base sp held t cs = some x → x.2 = [] ∧ KS ks cs ∧ ∀ w' base' sp' held', r w' base' sp' held' t cs = some x
theorem flat_fields {r : World → Nat → (Nat → Bool) → Bool → TypeId → List Value → Option (DataW H × List MemPlace)} {p : TypeId → Option (List Kd)} (hp : ∀ t ks, p t = some ks → FlatOk enc P r t ks) {w : World} {base : Nat} {sp : Nat → Bool} {held : Bool} {cs : List Value} :
    ∀ (fs : List Field) (off : Nat) (ks : List Kd) (xs : List (DataW H × List MemPlace)), flatF P p off fs = some ks → fs.mapM (fun f => r w base sp held f.type ((cs.drop f.offset).take (P.cellsOf f.type))) = some xs →
    xs.flatMap (·.2) = [] ∧ KS ks ((cs.drop off).take ks.length) ∧ ∀ w' base' sp' held', fs.mapM (fun f => r w' base' sp' held' f.type ((cs.drop f.offset).take (P.cellsOf f.type))) = some xs
  | [], off, ks, xs, h, hm => by
    simp only [flatF, Option.some.injEq] at h
    subst h
    simp at hm
    subst hm
    exact ⟨rfl, by simp [KS], fun _ _ _ _ => rfl⟩
  | f :: fs, off, ks, xs, h, hm => by
    simp only [flatF] at h
    split at h
    · rename_i hoff
      subst hoff
      obtain ⟨l, hl, h⟩ := Option.bind_eq_some_iff.1 h
      split at h
      · rename_i hlen
        obtain ⟨ks', hk, rfl⟩ := Option.map_eq_some_iff.1 h
        simp only [List.mapM_cons, bind, Option.bind_eq_some_iff, pure, Option.some.injEq] at hm
        obtain ⟨y, hy, ys, hys, rfl⟩ := hm
        obtain ⟨a1, a2, a3⟩ := hp f.type l hl w base sp held _ y hy
        obtain ⟨b1, b2, b3⟩ := flat_fields hp fs _ ks' ys hk hys
        refine ⟨by simp [List.flatMap_cons, a1, b1], ?_, fun w' base' sp' held' => ?_⟩
        · rw [List.length_append, drop_take_add, hlen]
          exact KS.append a2 b2
        · simp only [List.mapM_cons, bind, a3 w' base' sp' held', b3 w' base' sp' held', Option.bind_some, pure]
      · cases h
    · cases h
theorem mapM_snoc {α β : Type} (f : α → Option β) (l : List α) (a : α) (r : List β) : (l ++ [a]).mapM f = some r ↔ ∃ xs y, l.mapM f = some xs ∧ f a = some y ∧ r = xs ++ [y] := by
  rw [List.mapM_append]
  simp only [bind, Option.bind_eq_some_iff, List.mapM_cons, List.mapM_nil, pure, Option.some.injEq]
  constructor
  · rintro ⟨xs, hx, ys, ⟨y, hy, zs, rfl, rfl⟩, rfl⟩; exact ⟨xs, y, hx, hy, rfl⟩
  · rintro ⟨xs, y, hx, hy, rfl⟩; exact ⟨xs, hx, _, ⟨y, hy, _, rfl, rfl⟩, rfl⟩
theorem flat_elems {r : World → Nat → (Nat → Bool) → Bool → TypeId → List Value → Option (DataW H × List MemPlace)} {e : TypeId} {l : List Kd} (hp : FlatOk enc P r e l) (hl : l.length = P.cellsOf e) {w : World} {base : Nat} {sp : Nat → Bool} {held : Bool} {cs : List Value} :
    ∀ (n : Nat) (xs : List (DataW H × List MemPlace)), (List.range n).mapM (fun i => r w base sp held e ((cs.drop (i * P.cellsOf e)).take (P.cellsOf e))) = some xs →
    xs.flatMap (·.2) = [] ∧ KS (repK n l) (cs.take (n * l.length)) ∧ ∀ w' base' sp' held', (List.range n).mapM (fun i => r w' base' sp' held' e ((cs.drop (i * P.cellsOf e)).take (P.cellsOf e))) = some xs
  | 0, xs, hm => by
    simp at hm
    subst hm
    exact ⟨rfl, by simp [KS, repK], fun _ _ _ _ => rfl⟩
  | n + 1, xs, hm => by
    rw [List.range_succ, mapM_snoc] at hm
    obtain ⟨ys, y, hys, hy, rfl⟩ := hm
    obtain ⟨b1, b2, b3⟩ := flat_elems hp hl n ys hys
    obtain ⟨a1, a2, a3⟩ := hp w base sp held _ y hy
    refine ⟨by simp [List.flatMap_append, a1, b1], ?_, fun w' base' sp' held' => ?_⟩
    · simp only [repK, Nat.succ_mul]
      rw [List.take_add, hl]
      rw [hl] at b2
      exact KS.append b2 a2
    · rw [List.range_succ, mapM_snoc]
      exact ⟨ys, y, b3 w' base' sp' held', a3 w' base' sp' held', rfl⟩
theorem flat_trod : ∀ (d n : Nat) (t : TypeId) (ks : List Kd), flatT P d t = some ks → FlatOk enc P (fun w base sp held => DataW.trod enc P w base sp held n) t ks
  | 0, _, _, _, h => by simp [flatT] at h
  | d + 1, 0, t, ks, h => by intro w base sp held cs x hx; simp [DataW.trod] at hx
  | d + 1, n + 1, t, ks, h => by
    intro w base sp held cs x hx
    simp only [flatT] at h
    obtain ⟨l, hl, h⟩ := Option.bind_eq_some_iff.1 h
    have hks : l = ks ∧ ks.length = P.cellsOf t := by
      split at h
      · rename_i he; cases h; exact ⟨rfl, he⟩
      · cases h
    obtain ⟨rfl, hlen⟩ := hks
    clear h
    have goal : x.2 = [] ∧ KS l cs ∧ ∀ w' base' sp' held', DataW.trod enc P w' base' sp' held' (n + 1) t cs = some x := by
      simp only [DataW.trod_step] at hx ⊢
      unfold DataW.trodStep at hx ⊢
      cases hu : P.underlying t with
      | none => rw [hu] at hl; cases hl
      | some ds =>
        rw [hu] at hl hx
        cases ds <;> simp only [reduceCtorEq] at hl
        case bool =>
          cases hl
          match cs, hx with
          | [.bool b], hx => cases hx; exact ⟨rfl, ⟨_, _, rfl, ⟨b, rfl⟩, rfl⟩, fun _ _ _ _ => rfl⟩
        case int k =>
          cases hl
          match cs, hx with
          | [.int k' i], hx =>
            simp only at hx
            split at hx
            · rename_i hc
              cases hx
              obtain ⟨rfl, hw⟩ := hc
              exact ⟨rfl, ⟨_, _, rfl, ⟨i, rfl, hw⟩, rfl⟩, fun _ _ _ _ => by simp [hw]⟩
            · cases hx
        case string =>
          cases hl
          match cs, hx with
          | [.string s], hx =>
            simp only at hx
            split at hx
            · rename_i hc
              cases hx
              exact ⟨rfl, ⟨_, _, rfl, ⟨s, rfl, hc⟩, rfl⟩, fun _ _ _ _ => by simp [hc]⟩
            · cases hx
        case struct fs =>
          simp only at hx
          split at hx
          · rename_i hc
            obtain ⟨xs, hxs, rfl⟩ := Option.map_eq_some_iff.1 hx
            obtain ⟨a1, a2, a3⟩ := flat_fields (enc := enc) (P := P) (r := fun w base sp held => DataW.trod enc P w base sp held n) (p := flatT P d) (fun t ks h => flat_trod d n t ks h) fs.toList 0 l xs hl hxs
            refine ⟨a1, ?_, fun w' base' sp' held' => ?_⟩
            · rw [List.drop_zero, List.take_of_length_le (by omega)] at a2; exact a2
            · simp only [hc, if_true]; rw [a3 w' base' sp' held']; rfl
          · cases hx
        case array m e =>
          obtain ⟨l', hl', hl⟩ := Option.bind_eq_some_iff.1 hl
          split at hl
          · rename_i hz
            cases hl
            simp only at hx
            split at hx
            · rename_i hc
              obtain ⟨xs, hxs, rfl⟩ := Option.map_eq_some_iff.1 hx
              obtain ⟨a1, a2, a3⟩ := flat_elems (enc := enc) (P := P) (r := fun w base sp held => DataW.trod enc P w base sp held n) (flat_trod d n e l' hl') hz m xs hxs
              refine ⟨a1, ?_, fun w' base' sp' held' => ?_⟩
              · rw [repK_length] at hlen
                rw [List.take_of_length_le (by omega)] at a2; exact a2
              · simp only [hc, if_true]; rw [a3 w' base' sp' held']; rfl
            · cases hx
          · cases hl
    exact goal
end
end Go.Proofs.Xw

/- Symbolic runs, part 14: arguments as letters; what a law's run says of its calls. -/
namespace Go.Proofs.Xw
open Go Go.Proofs.Aw Go.ChangeShapes Go.WideShapes

/-! ### The shapes of parameters -/
inductive Sh where
  | flat (ks : List Kd) (agg : Bool)
  | sl (ks : List Kd)
def shT (P : Program) (t : TypeId) : Option Sh :=
  match P.underlying t with
  | some .bool => some (.flat [.b] false)
  | some (.int k) => some (.flat [.i k] false)
  | some .string => some (.flat [.s] false)
  | some (.struct _) => (flatT P 8 t).map fun ks => .flat ks true
  | some (.array _ _) => (flatT P 8 t).map fun ks => .flat ks true
  | some (.slice e) => (flatT P 8 e).bind fun ks => if 0 < ks.length ∧ ks.length = P.cellsOf e then some (.sl ks) else none
  | _ => none

def canon : Nat → List Kd → List X
  | _, [] => []
  | p, .i k :: ks => .sc (.i k (.var p)) :: canon (p + 1) ks
  | p, .b :: ks => .sc (.b (.var p)) :: canon (p + 1) ks
  | p, .s :: ks => .sc (.s (.var p)) :: canon (p + 1) ks
def plain : List Sh → List Value → List Value
  | .flat _ _ :: r, v :: vs => v.cells.toList ++ plain r vs
  | .sl _ :: r, _ :: vs => plain r vs
  | _, _ => []
def intO : Option Value → Int
  | some (.int _ n) => n
  | _ => 0
def boolO : Option Value → Bool
  | some (.bool b) => b
  | _ => false
def strO : Option Value → ByteArray
  | some (.string s) => s
  | _ => ⟨#[]⟩
def rowCell (W : World) (vs : List Value) (zs : List Nat) (l k r : Nat) : Option Value :=
  match vs[l]?, zs[l]? with
  | some (.slice (some a) _ _), some z => W.cell? ((a.add (r * z)).add k)
  | _, _ => none
def lenO : Option Value → Nat
  | some (.slice _ n _) => n
  | _ => 0
def mkR (W : World) (cells vs : List Value) (zs : List Nat) : Rho where
  i p := intO cells[p]?
  b p := boolO cells[p]?
  s p := strO cells[p]?
  len j := lenO vs[j]?
  ci l k r := intO (rowCell W vs zs l k r)
  cb l k r := boolO (rowCell W vs zs l k r)
  cs l k r := strO (rowCell W vs zs l k r)
/-- A value that is read fits its shape. -/
def Fits (W : World) : Sh → Value → Prop
  | .flat ks true, v => ∃ cs, v = .agg cs ∧ KS ks cs.toList
  | .flat ks false, v => ∃ k, ks = [k] ∧ kOk k v
  | .sl ks, v => 0 < ks.length ∧ ∃ A len cap, v = .slice A len cap ∧ len ≤ cap ∧ (0 < len → ∃ a, A = some a ∧ a.block < W.heap.size ∧ ∀ r, r < len → ∃ cs, KS ks cs ∧ ∀ k, k < ks.length → W.cell? ((a.add (r * ks.length)).add k) = cs[k]?)

theorem conc_canon {C : Ctx} {W : World} {cells vs : List Value} {zs : List Nat} : ∀ (ks : List Kd) (p : Nat) (cs : List Value), KS ks cs → (∀ i, i < ks.length → cells[p + i]? = cs[i]?) → ConcL C (X.denL (mkR W cells vs zs) (canon p ks)) cs
  | [], p, cs, h, _ => by simp only [KS] at h; subst h; simp only [canon, X.denL, ConcL]
  | k :: ks, p, cs, ⟨v, r, e, hv, hr⟩, hc => by
    subst e
    have h0 : cells[p]? = some v := by have := hc 0 (by simp); simpa using this
    have ih := conc_canon (C := C) (W := W) (vs := vs) (zs := zs) ks (p + 1) r hr (fun i hi => by
      have := hc (i + 1) (by simp; omega)
      rw [show p + 1 + i = p + (i + 1) from by omega, this]; rfl)
    cases k with
    | i kk =>
      obtain ⟨n, rfl, _⟩ := hv
      simp only [canon, X.denL, X.den, Sc.den, IE.den, ConcL]
      exact ⟨_, _, rfl, by simp only [Conc, mkR, h0, intO], ih⟩
    | b =>
      obtain ⟨n, rfl⟩ := hv
      simp only [canon, X.denL, X.den, Sc.den, BE.den, ConcL]
      exact ⟨_, _, rfl, by simp only [Conc, mkR, h0, boolO], ih⟩
    | s =>
      obtain ⟨n, rfl, _⟩ := hv
      simp only [canon, X.denL, X.den, Sc.den, TE.den, ConcL]
      exact ⟨_, _, rfl, by simp only [Conc, mkR, h0, strO], ih⟩
theorem cellsV_length (ρ : Rho) (l : Nat) : ∀ (ks : List Kd) (k j : Nat), (cellsV ρ l k ks j).length = ks.length
  | [], _, _ => rfl
  | .i _ :: ks, k, j => by simp only [cellsV, List.length_cons, cellsV_length ρ l ks (k + 1) j]
  | .b :: ks, k, j => by simp only [cellsV, List.length_cons, cellsV_length ρ l ks (k + 1) j]
  | .s :: ks, k, j => by simp only [cellsV, List.length_cons, cellsV_length ρ l ks (k + 1) j]
end Go.Proofs.Xw

/- Symbolic runs, part 15: from a row's reading to letters and back. -/
namespace Go.Proofs.Xw
open Go Go.Proofs.Aw Go.ChangeShapes Go.WideShapes

section
variable {H : Type} {enc : TypeId × Value → H} {P : Program}
theorem mapM_all {α β : Type} {f : α → Option β} : ∀ {l : List α} {r : List β}, l.mapM f = some r → ∀ x ∈ l, ∃ y, f x = some y
  | [], _, _, x, hx => by cases hx
  | a :: l, r, h, x, hx => by
    simp only [List.mapM_cons, bind, Option.bind_eq_some_iff, pure] at h
    obtain ⟨y, hy, ys, hys, _⟩ := h
    rcases List.mem_cons.1 hx with rfl | hx
    · exact ⟨y, hy⟩
    · exact mapM_all hys x hx
theorem sameAt_of {W W' : World} (h : ∀ b, b < W.heap.size → W'.heap[b]? = W.heap[b]?) {p : MemPlace} (hp : p.block < W.heap.size) : W.sameAt W' p := by
  cases p with
  | cell b off => simp only [World.sameAt, World.cell?, h b hp]
  | map b => exact h b hp
theorem cells_same {W W' : World} (h : ∀ b, b < W.heap.size → W'.heap[b]? = W.heap[b]?) {base : Nat} {a : Addr} {n : Nat} {cs : List Value} (hn : 0 < n) (hc : W.cells? base a n = some cs) : W'.cells? base a n = some cs := by
  have hb := World.cells?_block hc hn
  refine World.cells?_carry hc fun p hp => ?_
  obtain ⟨i, _, rfl⟩ := MemPlace.mem_row.1 hp
  exact sameAt_of h hb

/-- A slice of plain elements that is read. -/
theorem sl_trod {n : Nat} {t e : TypeId} {ks : List Kd} (hu : P.underlying t = some (.slice e)) (hk : flatT P 8 e = some ks) (hpos : 0 < ks.length) (hz : ks.length = P.cellsOf e) {W : World} {A : Option Addr} {len cap : Nat} {x : DataW H × List MemPlace}
    (h : DataW.trod enc P W 0 (fun _ => true) true (n + 1) t [.slice A len cap] = some x) :
    Fits W (.sl ks) (.slice A len cap) ∧ ∀ (W' : World) (sp : Nat → Bool), (∀ b, b < W.heap.size → W'.heap[b]? = W.heap[b]?) → (∀ q ∈ x.2, sp q.block = true) → DataW.trod enc P W' 0 sp true (n + 1) t [.slice A len cap] = some x := by
  simp only [DataW.trod_step] at h ⊢
  unfold DataW.trodStep at h ⊢
  rw [hu] at h
  simp only [hu] at h ⊢
  cases A with
  | none =>
    have hlc : len = 0 ∧ cap = 0 := by
      cases len <;> cases cap <;> simp_all
    obtain ⟨rfl, rfl⟩ := hlc
    refine ⟨⟨hpos, none, 0, 0, rfl, Nat.le_refl _, fun hh => absurd hh (by omega)⟩, fun W' sp _ _ => ?_⟩
    simpa using h
  | some a =>
    simp only at h ⊢
    split at h
    · rename_i hc
      obtain ⟨elems, he, h⟩ := Option.bind_eq_some_iff.1 h
      obtain ⟨rest, hr, rfl⟩ := Option.map_eq_some_iff.1 h
      simp only [if_true] at hr
      have hflat : ∀ i y, (W.cells? 0 (a.add (i * P.cellsOf e)) (P.cellsOf e)).bind (DataW.trod enc P W 0 (fun _ => true) true n e) = some y →
          ∃ cs, W.cells? 0 (a.add (i * P.cellsOf e)) (P.cellsOf e) = some cs ∧ KS ks cs ∧ ∀ w' b' s' h', DataW.trod enc P w' b' s' h' n e cs = some y := fun i y hy => by
        obtain ⟨cs, h1, h2⟩ := Option.bind_eq_some_iff.1 hy
        obtain ⟨_, g2, g3⟩ := flat_trod (enc := enc) 8 n e ks hk W 0 (fun _ => true) true cs y h2
        exact ⟨cs, h1, g2, g3⟩
      refine ⟨⟨hpos, some a, len, cap, rfl, hc.2.1, fun hl => ⟨a, rfl, ?_, fun r hr' => ?_⟩⟩, fun W' sp hW' hsp => ?_⟩
      · obtain ⟨y, hy⟩ := mapM_all he 0 (by simpa using hl)
        obtain ⟨cs, h1, _⟩ := hflat 0 y hy
        have := World.cells?_block h1 (by omega)
        simpa [block_add] using this
      · obtain ⟨y, hy⟩ := mapM_all he r (by simpa using hr')
        obtain ⟨cs, h1, h2, _⟩ := hflat r y hy
        obtain ⟨_, _, h4⟩ := World.cells?_some h1
        exact ⟨cs, h2, fun k hk' => by rw [hz]; exact h4 k (by omega)⟩
      · rw [if_pos hc]
        have carry : ∀ i y, (W.cells? 0 (a.add (i * P.cellsOf e)) (P.cellsOf e)).bind (DataW.trod enc P W 0 (fun _ => true) true n e) = some y →
            (W'.cells? 0 (a.add (i * P.cellsOf e)) (P.cellsOf e)).bind (DataW.trod enc P W' 0 sp true n e) = some y := fun i y hy => by
          obtain ⟨cs, h1, _, h3⟩ := hflat i y hy
          rw [cells_same hW' (by omega) h1]
          exact h3 _ _ _ _
        have e1 := mapM_carry (g := fun i => (W'.cells? 0 (a.add (i * P.cellsOf e)) (P.cellsOf e)).bind (DataW.trod enc P W' 0 sp true n e)) he fun i y _ _ hy => carry i y hy
        rw [e1]
        simp only [Option.bind_some]
        have e2 : (if sp a.block = true then (List.range (cap - len)).mapM fun j => (W'.cells? 0 (a.add ((len + j) * P.cellsOf e)) (P.cellsOf e)).bind (DataW.trod enc P W' 0 sp true n e) else some []) = some rest := by
          have e3 := mapM_carry (g := fun j => (W'.cells? 0 (a.add ((len + j) * P.cellsOf e)) (P.cellsOf e)).bind (DataW.trod enc P W' 0 sp true n e)) hr fun j y _ _ hy => carry (len + j) y hy
          split
          · exact e3
          · rename_i hsa
            have hrl : rest.length = cap - len := by
              have : ∀ (l : List Nat) (f : Nat → Option (DataW H × List MemPlace)) (r : List (DataW H × List MemPlace)), l.mapM f = some r → r.length = l.length := fun l => by
                induction l with
                | nil => intro f r hh; simp at hh; subst hh; rfl
                | cons x l ih =>
                  intro f r hh
                  simp only [List.mapM_cons, bind, Option.bind_eq_some_iff, pure, Option.some.injEq] at hh
                  obtain ⟨y, _, ys, hys, rfl⟩ := hh
                  simp [ih f ys hys]
              have := this _ _ _ hr
              simpa using this
            by_cases h0 : cap - len = 0
            · rw [h0] at hrl
              rw [List.length_eq_zero_iff.1 hrl]
            · exfalso
              apply hsa
              refine hsp (.cell a.block (a.off + 0)) (List.mem_append_left _ (MemPlace.mem_row.2 ⟨0, ?_, rfl⟩))
              exact Nat.mul_pos (by omega) (by omega)
        rw [e2]; rfl
    · cases h

theorem fits_of_trod {t : TypeId} {sh : Sh} (hs : shT P t = some sh) {W : World} {base : Nat} {v : Value} (hval : Value.okWide P W .any base t v) {d : DataW H} {p : List MemPlace} (h : DataW.Trod enc P W 0 (fun _ => true) true t v d p) :
    Fits W sh v ∧ ∀ (W' : World) (sp : Nat → Bool), (∀ b, b < W.heap.size → W'.heap[b]? = W.heap[b]?) → (∀ q ∈ p, sp q.block = true) → DataW.Trod enc P W' 0 sp true t v d p := by
  obtain ⟨n, hf⟩ := h
  have flatCase : ∀ ks, flatT P 8 t = some ks → KS ks v.cells.toList ∧ ∀ (W' : World) (sp : Nat → Bool), DataW.Trod enc P W' 0 sp true t v d p := fun ks hk => by
    obtain ⟨_, g2, g3⟩ := flat_trod (enc := enc) 8 n t ks hk W 0 (fun _ => true) true _ _ hf
    exact ⟨g2, fun W' sp => ⟨n, g3 W' 0 sp true⟩⟩
  cases hu : P.underlying t with
  | none => unfold shT at hs; rw [hu] at hs; cases hs
  | some ds =>
    unfold shT at hs
    rw [hu] at hs
    cases ds <;> simp only [reduceCtorEq, Option.some.injEq] at hs
    case bool =>
      subst hs
      obtain ⟨b, rfl⟩ := okWide_bool hu hval
      refine ⟨⟨.b, rfl, b, rfl⟩, fun W' sp _ _ => ⟨n, ?_⟩⟩
      cases n with
      | zero => simp [DataW.trod] at hf
      | succ n => simp only [DataW.trod_step, DataW.trodStep, hu, Value.cells] at hf ⊢; exact hf
    case int k =>
      subst hs
      obtain ⟨i, rfl⟩ := okWide_int hu hval
      cases n with
      | zero => simp [DataW.trod] at hf
      | succ n =>
        simp only [DataW.trod_step, DataW.trodStep, hu, Value.cells] at hf
        refine ⟨⟨.i k, rfl, i, rfl, ?_⟩, fun W' sp _ _ => ⟨n + 1, ?_⟩⟩
        · by_cases hw : (Lit.int k i).wf = true
          · exact hw
          · simp [hw] at hf
        · simp only [DataW.trod_step, DataW.trodStep, hu, Value.cells]; exact hf
    case string =>
      subst hs
      obtain ⟨s, rfl⟩ := okWide_string hu hval
      cases n with
      | zero => simp [DataW.trod] at hf
      | succ n =>
        simp only [DataW.trod_step, DataW.trodStep, hu, Value.cells] at hf
        refine ⟨⟨.s, rfl, s, rfl, ?_⟩, fun W' sp _ _ => ⟨n + 1, ?_⟩⟩
        · by_cases hw : s.size ≤ maxLen
          · exact hw
          · simp [hw] at hf
        · simp only [DataW.trod_step, DataW.trodStep, hu, Value.cells]; exact hf
    case struct fs =>
      obtain ⟨ks, hk, rfl⟩ := Option.map_eq_some_iff.1 hs
      obtain ⟨g1, g2⟩ := flatCase ks hk
      have hv : ∃ cs, v = .agg cs := by
        simp only [Value.okWide, hu] at hval
        obtain ⟨cs, h1, _⟩ := hval
        exact ⟨cs, h1⟩
      obtain ⟨cs, rfl⟩ := hv
      exact ⟨⟨cs, rfl, g1⟩, fun W' sp _ _ => g2 W' sp⟩
    case array m e =>
      obtain ⟨ks, hk, rfl⟩ := Option.map_eq_some_iff.1 hs
      obtain ⟨g1, g2⟩ := flatCase ks hk
      have hv : ∃ cs, v = .agg cs := by
        simp only [Value.okWide, hu] at hval
        obtain ⟨cs, h1, _⟩ := hval
        exact ⟨cs, h1⟩
      obtain ⟨cs, rfl⟩ := hv
      exact ⟨⟨cs, rfl, g1⟩, fun W' sp _ _ => g2 W' sp⟩
    case slice e =>
      obtain ⟨ks, hk, hs⟩ := Option.bind_eq_some_iff.1 hs
      split at hs
      · rename_i hc
        cases hs
        obtain ⟨A, len, cap, rfl⟩ := okWide_slice hu hval
        cases n with
        | zero => simp [DataW.trod] at hf
        | succ n =>
          obtain ⟨g1, g2⟩ := sl_trod hu hk hc.1 hc.2 hf
          exact ⟨g1, fun W' sp h1 h2 => ⟨n + 1, g2 W' sp h1 h2⟩⟩
      · cases hs

theorem trod_len {w : World} {base : Nat} {sp : Nat → Bool} {held : Bool} : ∀ {ts : List TypeId} {vs : List Value} {ds : List (DataW H)} {p : List MemPlace}, DataW.TrodAll enc P w base sp held ts vs ds p → ds.length = ts.length
  | [], vs, ds, p, h => by obtain ⟨_, rfl, _⟩ := trodAll_nil h; rfl
  | t :: ts, vs, ds, p, h => by
    obtain ⟨v, vs', d, ds', p1, p2, _, rfl, _, _, h2⟩ := trodAll_cons h
    simp [trod_len h2]
end
end Go.Proofs.Xw
