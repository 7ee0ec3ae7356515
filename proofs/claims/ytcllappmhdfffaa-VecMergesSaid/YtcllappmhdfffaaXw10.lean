/- Symbolic runs, part 10: code, and calls. -/
import Derived.Test.YtcllappmhdfffaaXw21
namespace Go.Proofs.Xw
open Go Go.Proofs.Aw

/-! ### Code -/
def iterX (b : XTp) (body : Facts → XS → T (XE × XS)) : Nat → Facts → XS → T (XE × XS)
  | 0, _, _ => (.fail [])
  | n + 1, Φ, σ => joinB b ((body Φ σ).bind Φ fun Φ p => match p.1 with
    | .normal => iterX b body n Φ (squeeze b p.2)
    | e => .ret (e, p.2))
def leave (id : Nat) (p : XE × XS) : XE × XS :=
  match p.1 with
  | .exit j => if Nat.beq j id = true then (.normal, p.2) else p
  | _ => p
def codeX (ti : Nat → Option TI) (call : CallF) (ms : List Nat) (k0 : Nat) (lps : List LoopX) (fuel : Nat) : Code → Facts → XS → T (XE × XS)
  | .skip, _, σ => .ret (.normal, σ)
  | .label _, _, σ => .ret (.normal, σ)
  | .region _ ops draw, Φ, σ => joinB σ.t ((if draw = true then drawX ti call ms ops.toList Φ σ else goX ti call ms ops.toList ops.toList Φ σ).map fun s => (.normal, s))
  | .seq a b, Φ, σ => (codeX ti call ms k0 lps fuel a Φ σ).bind Φ fun Φ p => match p.1 with
    | .normal => codeX ti call ms k0 lps fuel b Φ p.2
    | e => .ret (e, p.2)
  | .cond c x y, Φ, σ => match evX (tgetX σ.t) c with
    | .sc (.b e) => joinB σ.t (part Φ e (fun Φ => codeX ti call ms k0 lps fuel x Φ σ) (fun Φ => codeX ti call ms k0 lps fuel y Φ σ))
    | _ => .fail ["cond"]
  | .block id c, Φ, σ => joinB σ.t ((codeX ti call ms k0 lps fuel c Φ σ).map (leave id))
  | .loop c, Φ, σ => match lookL (codeKey c) lps with
    | L :: Ls => joinB σ.t (loopsX k0 Φ σ (L :: Ls))
    | [] => iterX σ.t (fun Φ σ => codeX ti call ms k0 lps fuel c Φ σ) fuel Φ σ
  | .exit id, _, σ => .ret (.exit id, σ)
  | .ret, _, σ => .ret (.ret, σ)
  | _, _, _ => (.fail [])
def fitsC (N : Nat) : Code → Bool
  | .region _ ops draw => fits N ops.toList && (!draw || once ops.toList)
  | .seq a b => fitsC N a && fitsC N b
  | .cond _ a b => fitsC N a && fitsC N b
  | .block _ c => fitsC N c
  | .loop c => fitsC N c
  | _ => true

/-- The bodies of all loops. -/
def loopsOf : Code → List Code
  | .seq a b => loopsOf a ++ loopsOf b
  | .cond _ a b => loopsOf a ++ loopsOf b
  | .block _ c => loopsOf c
  | .loop c => c :: loopsOf c
  | _ => []
/-- What is shown of the loops holds. -/
def LpsOk (P : Program) (ρ : Rho) (N : Nat) (lps : List LoopX) (c : Code) : Prop := ∀ c' ∈ loopsOf c, ∀ L ∈ lookL (codeKey c') lps, LoopOk P ρ N c' L
theorem LpsOk.nil (P : Program) (ρ : Rho) (N : Nat) (c : Code) : LpsOk P ρ N [] c := fun _ _ L h => by simp [lookL] at h
/-! ### What is assigned lies ahead -/
theorem goX_ext {ti : Nat → Option TI} {call : CallF} {ms : List Nat} {ops : List Oper} : ∀ (l : List Oper) (Φ : Facts) (σ : XS), (goX ti call ms ops l Φ σ).All fun s => Ext σ.t s.t
  | [], _, σ => Ext.refl _
  | o :: l, Φ, σ => by
    have put : ∀ (v : X) (h : XHp) (n : Nat), Ext σ.t (XS.mk (tputX o.dst v σ.t) h n).t := fun v h n => by
      cases o.dst with
      | none => exact Ext.refl _
      | some d => exact ⟨[(d, v)], rfl⟩
    have step : ∀ (v : X) (h : XHp) (n : Nat) Φ, (goX ti call ms ops l Φ ⟨tputX o.dst v σ.t, h, n⟩).All fun s => Ext σ.t s.t := fun v h n Φ => T.All_mono (fun s hs => Ext.trans (put v h n) hs) (goX_ext l Φ _)
    unfold goX
    cases o.guard with
    | none => exact T.All_bind (p := fun _ => True) (fun Φ p _ => step p.1 _ _ Φ) (T.All_true _)
    | some jw => exact All_guardX (fun Φ r d => step r _ _ Φ) (fun Φ => step _ _ _ Φ) (fun Φ y => step y _ _ Φ)
theorem finT_ext : ∀ (es : List XEn) (t : XTp), Ext t (finT es t)
  | [], t => Ext.refl t
  | e :: es, t => by
    obtain ⟨u, hu⟩ := finT_ext es t
    unfold finT
    cases e.dst with
    | none => exact ⟨u, hu⟩
    | some d => exact ⟨(d, e.r) :: u, by simp only [tputX, hu]; rfl⟩
theorem drawX_ext {ti : Nat → Option TI} {call : CallF} {ms : List Nat} {ops : List Oper} {Φ : Facts} {σ : XS} : (drawX ti call ms ops Φ σ).All fun s => Ext σ.t s.t :=
  T.All_map (p := fun _ => True) (q := fun s : XS => Ext σ.t s.t) (fun es _ => finT_ext es σ.t) (T.All_true _)
theorem regX_ext {ti : Nat → Option TI} {call : CallF} {ms : List Nat} {ops : List Oper} {draw : Bool} {Φ : Facts} {σ : XS} : ((if draw = true then drawX ti call ms ops Φ σ else goX ti call ms ops ops Φ σ).map fun s => (XE.normal, s)).All fun p => Ext σ.t p.2.t := by
  refine T.All_map (p := fun s : XS => Ext σ.t s.t) (q := fun p : XE × XS => Ext σ.t p.2.t) (fun s hs => hs) ?_
  split
  · exact drawX_ext
  · exact goX_ext _ _ _
theorem iterX_ext {b : XTp} {body : Facts → XS → T (XE × XS)} (hb : ∀ Φ σ, (body Φ σ).All fun p => Ext σ.t p.2.t) : ∀ (n : Nat) (Φ : Facts) (σ : XS), Ext b σ.t → (iterX b body n Φ σ).All fun p => Ext b p.2.t
  | 0, _, _, _ => trivial
  | n + 1, Φ, σ, h => by
    unfold iterX
    refine joinB_ext (T.All_bind (p := fun p => Ext σ.t p.2.t) (fun Φ p hp => ?_) (hb Φ σ))
    split
    · exact iterX_ext hb n Φ (squeeze b p.2) (sqK_ext _ _ _ _)
    · exact Ext.trans h hp
theorem codeX_ext {ti : Nat → Option TI} {call : CallF} {ms : List Nat} {k0 : Nat} {lps : List LoopX} {fuel : Nat} : ∀ (c : Code) (Φ : Facts) (σ : XS), (codeX ti call ms k0 lps fuel c Φ σ).All fun p => Ext σ.t p.2.t
  | .skip, _, σ => Ext.refl _
  | .label _, _, σ => Ext.refl _
  | .region _ ops draw, Φ, σ => by
    unfold codeX
    exact joinB_ext regX_ext
  | .seq a b, Φ, σ => by
    unfold codeX
    refine T.All_bind (p := fun p => Ext σ.t p.2.t) (fun Φ p hp => ?_) (codeX_ext a Φ σ)
    split
    · exact T.All_mono (fun q hq => Ext.trans hp hq) (codeX_ext b Φ p.2)
    · exact hp
  | .cond c x y, Φ, σ => by
    unfold codeX
    split
    · exact joinB_ext (All_part (fun Φ => codeX_ext x Φ σ) (fun Φ => codeX_ext y Φ σ))
    · trivial
  | .block id c, Φ, σ => by
    unfold codeX
    refine joinB_ext (T.All_map (p := fun p => Ext σ.t p.2.t) (fun p hp => ?_) (codeX_ext c Φ σ))
    unfold leave
    split
    · split
      · exact hp
      · exact hp
    · exact hp
  | .loop c, Φ, σ => by
    unfold codeX
    split
    · exact joinB_ext loopsX_ext
    · exact iterX_ext (fun Φ σ => codeX_ext c Φ σ) fuel Φ σ (Ext.refl _)
  | .exit id, _, σ => Ext.refl _
  | .ret, _, σ => Ext.refl _
  | .rangeFunc _ _ _ _, _, _ => trivial
  | .scope _, _, _ => trivial
  | .goto _, _, _ => trivial
  | .refuse _, _, _ => trivial

/-! ### It is so -/
/-- From σ the code comes to the end e, with no less than σ' says. -/
def Goes (P : Program) (E : Aw.Env) (ρ : Rho) (c : Code) (σ : XS) (e : XE) (σ' : XS) : Prop := AW P E c (fun e' s => e' = e.to ∧ Imp E s (σ'.den ρ)) (σ.den ρ)
theorem impRefl (E : Aw.Env) (s : St) : Imp E s s := fun _ _ h => h
theorem impLe {E : Aw.Env} {a b c : St} (h : Imp E a b) (k : LeS c b) : Imp E a c := fun x w hr => Imp_le k x w (h x w hr)
theorem impTrans {E : Aw.Env} {a b c : St} (h : Imp E a b) (k : Imp E b c) : Imp E a c := fun x w hr => k x w (h x w hr)
theorem AW_le {P : Program} {E : Aw.Env} {c : Code} {Q : Exit → St → Prop} {s σ : St} (h : LeS σ s) (hk : AW P E c Q σ) : AW P E c Q s := AW_imp (Imp_le h) hk
theorem drawX_goes {P : Program} {E : Aw.Env} {ρ : Rho} {ti : Nat → Option TI} (hm : P.follows .mixedOrders = true) (hti : TIs.ok P ti) {call : CallF} (hcall : CallOk P ρ call) {ms : List Nat} {ops : List Oper} {Φ : Facts} {σ σ' : XS} (hk : Facts.ok ρ Φ) (hf : fits E.N ops = true) (ho : once ops = true) {id : Nat}
    (h : (drawX ti call ms ops Φ σ).sel ρ = some σ') : Goes P E ρ (.region id ops.toArray true) σ .normal σ' := by
  obtain ⟨es, h1, rfl⟩ := T.sel_map _ h
  obtain ⟨hw, hl⟩ := drX_walked hti hcall (t0 := tdel ops (denT ρ σ.t)) (baseX'_den ρ ops σ.t) ops Φ [] 0 es hk (fun j => by simp) trivial (fun j e he => by simp [denEn, ent] at he) h1
  simp only [List.length_nil, Nat.zero_add] at hl
  have hl' : (denEn ρ es).length = ops.length := by simp [denEn, hl]
  refine AW_drawn (E := E) (σ := σ.den ρ) hm hf ho (denEn ρ es) hw hl' ⟨rfl, Imp_le ⟨fun i => ?_, fun m cs hcs => ?_, Nat.le_refl _⟩⟩
  · -- the slots
    have hfin : ∀ (l : List XEn) (i : Nat), tget (denT ρ (finT l σ.t)) i = tget (tview (fun _ => true) (denEn ρ l) (denT ρ σ.t)) i := by
      intro l
      induction l with
      | nil => intro i; rfl
      | cons e l ih =>
        intro i
        simp only [finT, denT_put, denEn, List.map_cons, tview, if_true, tget_tput] at ih ⊢
        rw [ih]; rfl
    simp only [XS.den]
    rw [hfin]
    rcases tget_view (fun _ => true) (denT ρ σ.t) i (denEn ρ es) with ⟨j, e, h2, h3, h4⟩ | ⟨h2, h3⟩
    · rcases tget_view (fun _ => true) (tdel ops (denT ρ σ.t)) i (denEn ρ es) with ⟨j', e', h2', h3', h4'⟩ | ⟨h2', _⟩
      · have hv : ∀ (l : List En) (t t' : Tp), (∃ j e, ent l j = some e ∧ e.dst = some i) → tget (tview (fun _ => true) l t) i = tget (tview (fun _ => true) l t') i := by
          intro l
          induction l with
          | nil => rintro t t' ⟨j, e, h, _⟩; simp [ent] at h
          | cons x l ih =>
            rintro t t' ⟨j, e, h, hd⟩
            simp only [tview, if_true, tget_tput]
            split
            · rfl
            · rename_i hne
              refine ih t t' ⟨j, e, ?_, hd⟩
              simp only [ent] at h
              split at h
              · cases h; exact absurd hd hne
              · exact h
        rw [hv _ _ (tdel ops (denT ρ σ.t)) ⟨j, e, h2, h3⟩]
        exact LeA.refl _
      · exact absurd h3 (h2' j e h2)
    · rcases tget_view (fun _ => true) (tdel ops (denT ρ σ.t)) i (denEn ρ es) with ⟨j', e', h2', h3', _⟩ | ⟨_, h3'⟩
      · exact absurd h3' (h2 j' e' h2')
      · rw [h3, h3', tget_tdel]
        split
        · rename_i ha
          obtain ⟨o, ho1, ho2⟩ := List.any_eq_true.1 ha
          obtain ⟨j, hj⟩ := List.mem_iff_getElem?.1 ho1
          have hjl := (List.getElem?_eq_some_iff.1 hj).1
          obtain ⟨e, he⟩ := ent_some (es := denEn ρ es) (j := j) (by omega)
          obtain ⟨es', o', _, _, g3, hs, _, _⟩ := hw.get he
          rw [hj] at g3; cases g3
          exact absurd (by rw [hs.dst]; simpa using ho2) (h2 j e he)
        · exact LeA.refl _
  · simp only [XS.den, hviewX_den] at hcs
    exact ⟨cs, hcs, LeC.refl cs⟩
theorem codeX_goes {P : Program} {E : Aw.Env} {ρ : Rho} {ti : Nat → Option TI} (hm : P.follows .mixedOrders = true) (hti : TIs.ok P ti) {call : CallF} (hcall : CallOk P ρ call) {ms : List Nat} {k0 : Nat} (hb : ∀ m, E.c0.kn m → m.1 < k0) {lps : List LoopX} {fuel : Nat} :
    ∀ (c : Code) (Φ : Facts) (σ : XS) (e : XE) (σ' : XS), Facts.ok ρ Φ → fitsC E.N c = true → LpsOk P ρ E.N lps c → (codeX ti call ms k0 lps fuel c Φ σ).sel ρ = some (e, σ') → Goes P E ρ c σ e σ'
  | .skip, Φ, σ, e, σ', hk, _, _, h => by cases h; exact AW_skip ⟨rfl, impRefl _ _⟩
  | .label _, Φ, σ, e, σ', hk, _, _, h => by cases h; exact AW_label ⟨rfl, impRefl _ _⟩
  | .region id ops draw, Φ, σ, e, σ', hk, hf, _, h => by
    unfold codeX at h
    simp only [fitsC, Bool.and_eq_true, Bool.or_eq_true, Bool.not_eq_true'] at hf
    obtain ⟨s, h1, hle⟩ := joinB_ok regX_ext h
    obtain ⟨s1, h2, h3⟩ := T.sel_map _ h1
    cases h3
    cases draw with
    | true =>
      rw [if_pos rfl] at h2
      have := drawX_goes (E := E) hm hti hcall (id := id) hk hf.1 (hf.2.resolve_left (by simp)) h2
      rw [show ops.toList.toArray = ops from by simp] at this
      exact AW_mono (fun e' s' hq => ⟨hq.1, impLe hq.2 hle⟩) this
    | false =>
      rw [if_neg (by simp)] at h2
      intro a w hr
      refine wp_region_lit ?_
      have := goX_sound (E := E) (P := P) (Q := fun e a' w' => ∃ σ'', Rel E σ'' a' w' ∧ e = XE.normal.to ∧ Imp E σ'' (σ'.den ρ)) hti hcall (fun a' w' hr' => ⟨_, hr', rfl, Imp_le hle⟩) ops.toList Φ σ a w hk hf.1 h2 hr
      simpa using this
  | .seq x y, Φ, σ, e, σ', hk, hf, hl, h => by
    unfold codeX at h
    simp only [fitsC, Bool.and_eq_true] at hf
    obtain ⟨Φ', p, hk', h1, h2⟩ := T.sel_bind _ hk h
    obtain ⟨e1, σ1⟩ := p
    have g1 := codeX_goes hm hti hcall hb x Φ σ e1 σ1 hk hf.1 (fun c' hc' => hl c' (List.mem_append_left _ hc')) h1
    refine AW_seq fun K hK => AW_mono (fun e' s hq => ?_) g1
    obtain ⟨rfl, hle⟩ := hq
    cases e1 with
    | normal =>
      simp only at h2
      exact hK s (AW_imp hle (codeX_goes hm hti hcall hb y Φ' σ1 e σ' hk' hf.2 (fun c' hc' => hl c' (List.mem_append_right _ hc')) h2))
    | exit id => cases h2; exact ⟨rfl, hle⟩
    | ret => cases h2; exact ⟨rfl, hle⟩
  | .cond c x y, Φ, σ, e, σ', hk, hf, hl, h => by
    unfold codeX at h
    simp only [fitsC, Bool.and_eq_true] at hf
    have hev := evX_den (ρ := ρ) (g := tgetX σ.t) (t := denT ρ σ.t) (fun i => (tget_denT ρ i σ.t).symm) c
    split at h
    · rename_i b hbe
      rw [hbe] at hev
      obtain ⟨s, h1, hle⟩ := joinB_ok (All_part (fun Φ => codeX_ext x Φ σ) (fun Φ => codeX_ext y Φ σ)) h
      obtain ⟨Φ', hk', ⟨hc, h2⟩ | ⟨hc, h2⟩⟩ := sel_part hk h1
      · refine AW_condT (σ := σ.den ρ) (by rw [show ev (σ.den ρ).t c = _ from hev.symm]; simp only [X.den, Sc.den, hc]) ?_
        exact AW_mono (fun e' s' hq => ⟨hq.1, impLe hq.2 hle⟩) (codeX_goes hm hti hcall hb x Φ' σ e s hk' hf.1 (fun c' hc' => hl c' (List.mem_append_left _ hc')) h2)
      · refine AW_condF (σ := σ.den ρ) (by rw [show ev (σ.den ρ).t c = _ from hev.symm]; simp only [X.den, Sc.den, hc]) ?_
        exact AW_mono (fun e' s' hq => ⟨hq.1, impLe hq.2 hle⟩) (codeX_goes hm hti hcall hb y Φ' σ e s hk' hf.2 (fun c' hc' => hl c' (List.mem_append_right _ hc')) h2)
    · cases h
  | .block id c, Φ, σ, e, σ', hk, hf, hl, h => by
    unfold codeX at h
    simp only [fitsC] at hf
    obtain ⟨s, h1, hle⟩ := joinB_ok (T.All_map (p := fun p => Ext σ.t p.2.t) (fun p hp => by
      unfold leave
      split
      · split
        · exact hp
        · exact hp
      · exact hp) (codeX_ext c Φ σ)) h
    obtain ⟨p, h2, h3⟩ := T.sel_map _ h1
    obtain ⟨e1, σ1⟩ := p
    have g1 := codeX_goes hm hti hcall hb c Φ σ e1 σ1 hk hf hl h2
    refine AW_block (AW_mono (fun e' s' hq => ?_) g1)
    obtain ⟨rfl, hle'⟩ := hq
    cases e1 with
    | normal => cases h3; exact ⟨rfl, impLe hle' hle⟩
    | ret => cases h3; exact ⟨rfl, impLe hle' hle⟩
    | exit j =>
      simp only [leave] at h3
      simp only [XE.to, ExBlock]
      by_cases hj : j = id
      · subst hj
        simp at h3
        rw [if_pos rfl]
        obtain ⟨rfl, rfl⟩ := h3
        exact ⟨rfl, impLe hle' hle⟩
      · rw [if_neg hj]
        rw [if_neg (by simpa using hj)] at h3
        cases h3
        exact ⟨rfl, impLe hle' hle⟩
  | .loop c, Φ, σ, e, σ', hk, hf, hl, h => by
    unfold codeX at h
    simp only [fitsC] at hf
    split at h
    · rename_i L Ls hL
      obtain ⟨s, h1, hle⟩ := joinB_ok loopsX_ext h
      obtain ⟨K, hK, h1⟩ := loopsX_mem h1
      exact AW_mono (fun e' s' hq => ⟨hq.1, impLe hq.2 hle⟩) (loopX_ok hb (hl c List.mem_cons_self K (by rw [hL]; exact hK)) hk h1)
    have key : ∀ (n : Nat) (Φ : Facts) (s : XS) (σ' : XS), Facts.ok ρ Φ → Ext σ.t s.t → (iterX σ.t (fun Φ σ => codeX ti call ms k0 lps fuel c Φ σ) n Φ s).sel ρ = some (e, σ') → AWR P E c (fun e' s => e' = e.to ∧ Imp E s (σ'.den ρ)) n (s.den ρ) := by
      intro n
      induction n with
      | zero => intro Φ s σ' _ _ h; cases h
      | succ n ih =>
        intro Φ s σ' hk hx h
        unfold iterX at h
        obtain ⟨s1, h1, hle⟩ := joinB_ok (T.All_bind (p := fun p => Ext s.t p.2.t) (fun Φ p hp => by
          split
          · exact iterX_ext (fun Φ σ => codeX_ext c Φ σ) n Φ (squeeze σ.t p.2) (sqK_ext _ _ _ _)
          · exact Ext.trans hx hp) (codeX_ext c Φ s)) h
        obtain ⟨Φ', p, hk', h2, h3⟩ := T.sel_bind _ hk h1
        obtain ⟨e1, σ1⟩ := p
        have g1 := codeX_goes hm hti hcall hb c Φ s e1 σ1 hk hf (fun c' hc' => hl c' (List.mem_cons_of_mem _ hc')) h2
        have hx1 : Ext s.t σ1.t := by
          have := codeX_ext (ti := ti) (call := call) (ms := ms) (k0 := k0) (lps := lps) (fuel := fuel) c Φ s
          exact T.All_sel (p := fun p : XE × XS => Ext s.t p.2.t) this h2
        refine AWR_step (AW_mono (fun e' s' hq => ?_) g1)
        obtain ⟨rfl, hle'⟩ := hq
        cases e1 with
        | normal =>
          simp only at h3
          have := ih Φ' (squeeze σ.t σ1) s1 hk' (sqK_ext _ _ _ _) h3
          refine AWR_le (impLe hle' (squeeze_le (Ext.trans hx hx1))) (AWR_post (fun e' s' hq => ⟨hq.1, impLe hq.2 hle⟩) n _ this)
        | exit j => cases h3; exact ⟨rfl, impLe hle' hle⟩
        | ret => cases h3; exact ⟨rfl, impLe hle' hle⟩
    exact AW_rounds fuel (key fuel Φ σ σ' hk (Ext.refl _) h)
  | .exit id, Φ, σ, e, σ', hk, _, _, h => by cases h; exact AW_exit ⟨rfl, impRefl _ _⟩
  | .ret, Φ, σ, e, σ', hk, _, _, h => by cases h; exact AW_ret ⟨rfl, impRefl _ _⟩
  | .rangeFunc _ _ _ _, _, _, _, _, _, _, _, h => by cases h
  | .scope _, _, _, _, _, _, _, _, h => by cases h
  | .goto _, _, _, _, _, _, _, _, h => by cases h
  | .refuse _, _, _, _, _, _, _, _, h => by cases h
where
  T.All_sel {α : Type} {ρ : Rho} {p : α → Prop} : ∀ {t : T α} {a : α}, t.All p → t.sel ρ = some a → p a
    | .ret a, _, h, hs => by cases hs; exact h
    | .br c x y, a, h, hs => by
      simp only [T.sel] at hs
      split at hs
      · exact T.All_sel h.1 hs
      · exact T.All_sel h.2 hs
    | .need c x, a, h, hs => by
      simp only [T.sel] at hs
      split at hs
      · exact T.All_sel (t := x) h hs
      · cases hs
    | .fail _, _, _, hs => by cases hs
  AWR_post {P : Program} {E : Aw.Env} {c : Code} {Q Q' : Exit → St → Prop} (hq : ∀ e s, Q e s → Q' e s) : ∀ (n : Nat) (s : St), AWR P E c Q n s → AWR P E c Q' n s
    | 0, _, h => h
    | n + 1, s, h => AW_mono (fun e s' hh => by
        cases e with
        | normal => exact AWR_post hq n s' hh
        | _ => exact hq _ _ hh) h
  AWR_le {P : Program} {E : Aw.Env} {c : Code} {Q : Exit → St → Prop} {n : Nat} {s σ : St} (h : Imp E s σ) (hk : AWR P E c Q n σ) : AWR P E c Q n s := by
    cases n with
    | zero => exact hk
    | succ n => exact AW_imp h hk
end Go.Proofs.Xw
