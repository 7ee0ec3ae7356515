/- Symbolic runs, part 11: calls. -/
import Derived.Test.YtcllappmhdfffaaXw10
namespace Go.Proofs.Xw
open Go Go.Proofs.Aw

structure FnI where
  body : Code
  results : List ResultVar
  ntmps : Nat
  ms : List Nat
def FnOk (P : Program) (f : FuncId) (i : FnI) : Prop := ∃ fn, P.funcs[f]? = some fn ∧ fn.body = some i.body ∧ fn.results.toList = i.results ∧ fn.ntmps = i.ntmps ∧ fitsC i.ntmps i.body = true ∧ hasBody P f = true

/-! ### Results -/
def resX (ti : Nat → Option TI) (σ : XS) : List ResultVar → Option (List X)
  | [] => some []
  | .tmp i :: rs => (resX ti σ rs).map (tgetX σ.t i :: ·)
  | .cell p ty :: rs => match ti ty with
    | some i => match loadX i σ.h (tgetX σ.t p), resX ti σ rs with
      | some v, some vs => some (v :: vs)
      | _, _ => none
    | none => none
theorem resX_den {P : Program} {ρ : Rho} {ti : Nat → Option TI} (hti : TIs.ok P ti) {σ : XS} : ∀ {rs : List ResultVar} {vs : List X} {K : List AV → Prop}, resX ti σ rs = some vs → K (X.denL ρ vs) → resK P (σ.den ρ) rs K
  | [], vs, K, h, hk => by simp only [resX, Option.some.injEq] at h; subst h; exact hk
  | .tmp i :: rs, vs, K, h, hk => by
    simp only [resX] at h
    obtain ⟨ws, hw, rfl⟩ := Option.map_eq_some_iff.1 h
    simp only [resK]
    refine resX_den hti hw ?_
    simp only [XS.den, tget_denT]
    exact hk
  | .cell p ty :: rs, vs, K, h, hk => by
    simp only [resX] at h
    split at h
    · rename_i i hi
      have hi := hti _ _ hi
      subst hi
      split at h
      · rename_i v ws h1 h2
        cases h
        simp only [resK]
        have := loadX_den (P := P) (ρ := ρ) (ty := ty) h1
        simp only [XS.den, tget_denT]
        exact loadN_K this (resX_den hti h2 hk)
      · cases h
    · cases h
def oneX : List X → X
  | [v] => v
  | vs => .tup vs
theorem oneX_den (ρ : Rho) (vs : List X) : (oneX vs).den ρ = oneOf (X.denL ρ vs) := by
  match vs with
  | [] => rfl
  | [v] => rfl
  | v :: w :: vs => rfl
def slotsX : Nat → List X → XTp
  | _, [] => []
  | i, v :: vs => (i, v) :: slotsX (i + 1) vs
theorem slotsX_den (ρ : Rho) : ∀ (i : Nat) (vs : List X), denT ρ (slotsX i vs) = slots i (X.denL ρ vs)
  | _, [] => rfl
  | i, v :: vs => by
    have := slotsX_den ρ (i + 1) vs
    simp only [denT] at this
    simp only [slotsX, denT, List.map_cons, slots, X.denL, this]

/-! ### Results of all ways in one -/
def collapse : T X → Option (BE × Option X)
  | .ret a => some (.lit true, some a)
  | .br c x y => match collapse x, collapse y with
    | some (p, some a), some (q, some b) => match X.mix c a b with
      | some z => some (mkIteB c p q, some z)
      | none => none
    | some (p, some a), some (q, none) => some (mkIteB c p q, some a)
    | some (p, none), some (q, b) => some (mkIteB c p q, b)
    | _, _ => none
  | .need c x => match collapse x with
    | some (p, a) => some (mkAnd c p, a)
    | none => none
  | .fail _ => some (.lit false, none)
theorem collapse_den {ρ : Rho} : ∀ {t : T X} {ok : BE} {o : Option X}, collapse t = some (ok, o) → ok.den ρ = true → ∃ a, t.sel ρ = some a ∧ (∀ z, o = some z → z.den ρ = a.den ρ) ∧ (o = none → False)
  | .ret a, ok, o, h, _ => by
    simp only [collapse, Option.some.injEq, Prod.mk.injEq] at h
    obtain ⟨rfl, rfl⟩ := h
    exact ⟨a, rfl, fun z hz => by cases hz; rfl, fun hn => by cases hn⟩
  | .br c x y, ok, o, h, hok => by
    simp only [collapse] at h
    simp only [T.sel]
    split at h
    · rename_i p a q b h1 h2
      split at h
      · rename_i z hz
        cases h
        rw [mkIteB_den] at hok
        have hd := X.mix_den (ρ := ρ) _ _ _ hz
        split at hok
        · rename_i hc
          obtain ⟨w, g1, g2, _⟩ := collapse_den h1 hok
          rw [if_pos hc] at hd ⊢
          exact ⟨w, g1, fun z' hz' => by cases hz'; rw [hd]; exact g2 a rfl, fun hn => by cases hn⟩
        · rename_i hc
          obtain ⟨w, g1, g2, _⟩ := collapse_den h2 hok
          rw [if_neg hc] at hd ⊢
          exact ⟨w, g1, fun z' hz' => by cases hz'; rw [hd]; exact g2 b rfl, fun hn => by cases hn⟩
      · cases h
    · rename_i p a q h1 h2
      cases h
      rw [mkIteB_den] at hok
      split at hok
      · rename_i hc
        rw [if_pos hc]
        exact collapse_den h1 hok
      · obtain ⟨w, _, _, g3⟩ := collapse_den h2 hok
        exact (g3 rfl).elim
    · rename_i p q b h1 h2
      cases h
      rw [mkIteB_den] at hok
      split at hok
      · obtain ⟨w, _, _, g3⟩ := collapse_den h1 hok
        exact (g3 rfl).elim
      · rename_i hc
        rw [if_neg hc]
        exact collapse_den h2 hok
    · cases h
  | .need c x, ok, o, h, hok => by
    simp only [collapse] at h
    split at h
    · rename_i p a h1
      cases h
      rw [mkAnd_den, Bool.and_eq_true] at hok
      simp only [T.sel, hok.1, if_true]
      exact collapse_den h1 hok.2
    · cases h
  | .fail _, ok, o, h, hok => by
    simp only [collapse, Option.some.injEq, Prod.mk.injEq] at h
    rw [← h.1] at hok
    simp [BE.den] at hok
def mergeR (t : T X) : T X :=
  match t with
  | .ret a => .ret a
  | t => match collapse t with
    | some (.lit true, some a) => .ret a
    | some (c, some a) => .need c (.ret a)
    | some (_, none) => .fail t.why
    | none => t
theorem mergeR_den {ρ : Rho} {t : T X} {z : X} (h : (mergeR t).sel ρ = some z) : ∃ a, t.sel ρ = some a ∧ z.den ρ = a.den ρ := by
  unfold mergeR at h
  split at h
  · cases h; exact ⟨z, rfl, rfl⟩
  · split at h
    · rename_i a hc
      cases h
      obtain ⟨w, g1, g2, _⟩ := collapse_den (ρ := ρ) hc rfl
      exact ⟨w, g1, g2 _ rfl⟩
    · rename_i c a _ hc
      simp only [T.sel] at h
      split at h
      · rename_i hok
        cases h
        obtain ⟨w, g1, g2, _⟩ := collapse_den (ρ := ρ) hc hok
        exact ⟨w, g1, g2 _ rfl⟩
      · cases h
    · cases h
    · exact ⟨z, h, rfl⟩

/-! ### Values without names -/
mutual
def X.nn : X → Bool
  | .top | .k _ | .sc _ | .rl _ _ _ _ | .rows _ _ _ => true
  | .slv _ _ _ _ _ | .ptrv _ _ _ _ => false
  | .agg cs | .tup cs | .ip cs _ _ => X.nnL cs
  | .ptr _ _ _ | .sl _ _ _ _ _ => false
  | .ro _ es _ => X.nnE es
  | .fn _ xs ys => X.nnL xs && X.nnL ys
  | .gd _ x => x.nn
def X.nnL : List X → Bool
  | [] => true
  | x :: xs => x.nn && X.nnL xs
def X.nnE : List (List X) → Bool
  | [] => true
  | e :: es => X.nnL e && X.nnE es
end
mutual
theorem X.nn_den {p : Nm → Bool} (ρ : Rho) : ∀ x : X, x.nn = true → Aw.nms p (x.den ρ) = true
  | .top, _ => rfl
  | .k _, _ => rfl
  | .sc _, _ => rfl
  | .rl _ _ _ _, _ => nms_rows
  | .rows _ _ _, _ => rfl
  | .agg cs, h => X.nnL_den ρ cs h
  | .tup cs, h => X.nnL_den ρ cs h
  | .ip cs _ _, h => X.nnL_den ρ cs h
  | .ro _ es _, h => X.nnE_den ρ es h
  | .fn _ xs ys, h => by
    simp only [X.nn, Bool.and_eq_true] at h
    simp only [X.den, Aw.nms, X.nnL_den ρ xs h.1, X.nnL_den ρ ys h.2, Bool.and_self]
  | .ptr _ _ _, h => by cases h
  | .sl _ _ _ _ _, h => by cases h
  | .gd c x, h => by
    simp only [X.den]
    split
    · exact X.nn_den ρ x h
    · rfl
theorem X.nnL_den {p : Nm → Bool} (ρ : Rho) : ∀ l : List X, X.nnL l = true → Aw.nmsL p (X.denL ρ l) = true
  | [], _ => rfl
  | x :: xs, h => by
    simp only [X.nnL, Bool.and_eq_true] at h
    simp only [X.denL, Aw.nmsL, X.nn_den ρ x h.1, X.nnL_den ρ xs h.2, Bool.and_self]
theorem X.nnE_den {p : Nm → Bool} (ρ : Rho) : ∀ l : List (List X), X.nnE l = true → Aw.nmsE p (X.denE ρ l) = true
  | [], _ => rfl
  | x :: xs, h => by
    simp only [X.nnE, Bool.and_eq_true] at h
    simp only [X.denE, Aw.nmsE, X.nnL_den ρ x h.1, X.nnE_den ρ xs h.2, Bool.and_self]
end

/-! ### Calls -/
structure Cfg where
  ti : Nat → Option TI
  ft : Nat → Option FnI
  fuel : Nat
  ks : List (Nat × List X × X)
  lp : Nat → List LoopX
structure CfgOk (P : Program) (ρ : Rho) (c : Cfg) : Prop where
  mixed : P.follows .mixedOrders = true
  ti : TIs.ok P c.ti
  ft : ∀ f i, c.ft f = some i → FnOk P f i
  ks : ∀ p ∈ c.ks, hasBody P p.1 = true ∧ ∀ n h, CY P n p.1 (X.denL ρ p.2.1) h (p.2.2.den ρ) []
  lp : ∀ f i, c.ft f = some i → LpsOk P ρ i.ntmps (c.lp f) i.body
def lookK (f : Nat) (args : List X) : List (Nat × List X × X) → Option X
  | [] => none
  | (g, as, r) :: l => if (Nat.beq g f && X.beqL as args) = true then some r else lookK f args l
theorem lookK_mem {f : Nat} {args : List X} {r : X} : ∀ {l : List (Nat × List X × X)}, lookK f args l = some r → (f, args, r) ∈ l
  | [], h => by cases h
  | (g, as, s) :: l, h => by
    simp only [lookK] at h
    split at h
    · rename_i hc
      simp only [Bool.and_eq_true] at hc
      cases h
      rw [← Nat.eq_of_beq_eq_true hc.1, ← X.beqL_eq _ _ hc.2]
      exact List.mem_cons_self
    · exact List.mem_cons_of_mem _ (lookK_mem h)
def runX (c : Cfg) (call : CallF) (f : Nat) (i : FnI) (args : List X) (Φ : Facts) : T X :=
  if Nat.ble args.length i.ntmps = true then
    (codeX c.ti call i.ms 0 (c.lp f) c.fuel i.body Φ ⟨slotsX 0 args, [], 0⟩).bind Φ fun _ p => match p.1 with
      | .exit _ => .fail ["exit"]
      | _ => retO ((resX c.ti p.2 i.results).map oneX)
  else (.fail [])
theorem runX_body {P : Program} {ρ : Rho} {c : Cfg} (hc : CfgOk P ρ c) {call : CallF} (hcall : CallOk P ρ call) {f : FuncId} {i : FnI} (hi : FnOk P f i) (hlp : LpsOk P ρ i.ntmps (c.lp f) i.body) {args : List X} {Φ : Facts} (hk : Facts.ok ρ Φ) {r : X} (h : (runX c call f i args Φ).sel ρ = some r) :
    args.length ≤ i.ntmps ∧ ∀ E : Aw.Env, E.N = i.ntmps → AW P E i.body (RetP P i.results (r.den ρ)) ⟨slots 0 (X.denL ρ args), [], 0⟩ := by
  unfold runX at h
  split at h
  · rename_i hl
    refine ⟨by simpa using hl, fun E hE => ?_⟩
    obtain ⟨fn, _, _, _, _, hf, _⟩ := hi
    obtain ⟨Φ', p, hk', h1, h2⟩ := T.sel_bind _ hk h
    obtain ⟨e, σ'⟩ := p
    refine AW_base fun hb => ?_
    have g := codeX_goes (E := E) hc.mixed hc.ti hcall (k0 := 0) hb i.body Φ _ e σ' hk (by rw [hE]; exact hf) (by rw [hE]; exact hlp) h1
    have hst : (XS.mk (slotsX 0 args) [] 0).den ρ = ⟨slots 0 (X.denL ρ args), [], 0⟩ := by simp only [XS.den, slotsX_den]; rfl
    have g' : AW P E i.body (fun e' s => e' = e.to ∧ s = σ'.den ρ) ⟨slots 0 (X.denL ρ args), [], 0⟩ := by
      rw [← hst]
      intro a w hr
      exact Code.wp_mono (fun e' a' w' ⟨s, q1, q2, q3⟩ => ⟨σ'.den ρ, q3 a' w' q1, q2, rfl⟩) (g a w hr)
    have fin : ∀ {o : Option X}, (retO ((resX c.ti σ' i.results).map oneX) : T X).sel ρ = o → o = some r → resK P (σ'.den ρ) i.results fun vs => oneOf vs = r.den ρ := by
      intro o h3 h4
      obtain ⟨vs, hv, rfl⟩ := Option.map_eq_some_iff.1 (sel_retO (h3.trans h4))
      exact resX_den hc.ti hv (oneX_den ρ vs).symm
    refine AW_mono (fun e' s hq => ?_) g'
    obtain ⟨rfl, rfl⟩ := hq
    cases e with
    | exit id => cases h2
    | normal => exact ⟨.inr rfl, fin h2 rfl⟩
    | ret => exact ⟨.inl rfl, fin h2 rfl⟩
  · cases h
def pureX (c : Cfg) (call : CallF) (f : Nat) (args : List X) (Φ : Facts) : T (X × XDl) :=
  match c.ft f with
  | some i => (mergeR (runX c call f i args Φ)).bind Φ fun _ r => if r.nn = true then .ret (r, []) else .fail ["names"]
  | none => .fail ["table"]
theorem pureX_ok {P : Program} {ρ : Rho} {c : Cfg} (hc : CfgOk P ρ c) {call : CallF} (hcall : CallOk P ρ call) {n : Nat} {f : FuncId} {args : List X} (ha : X.nnL args = true) {h : Hp} {Φ : Facts} (hk : Facts.ok ρ Φ) {r : X} {d : XDl} (hs : (pureX c call f args Φ).sel ρ = some (r, d)) :
    hasBody P f = true ∧ CY P n f (X.denL ρ args) h (r.den ρ) (denD ρ d) := by
  unfold pureX at hs
  split at hs
  · rename_i i hi
    have hlp := hc.lp f i hi
    have hi := hc.ft f i hi
    obtain ⟨_, z, _, h1, h2⟩ := T.sel_bind _ hk hs
    obtain ⟨a, h3, h4⟩ := mergeR_den h1
    split at h2
    · rename_i hn
      cases h2
      obtain ⟨hlen, hb⟩ := runX_body hc hcall hi hlp hk h3
      obtain ⟨fn, g1, g2, g3, g4, _, g6⟩ := hi
      refine ⟨g6, ?_⟩
      rw [← h4, ← g3, ← g4] at hb
      exact CY_pure g1 g2 (by rw [X.denL_len, g4]; exact hlen) (X.nnL_den ρ args ha) (X.nn_den ρ _ hn) hb n h
    · cases h2
  · cases hs
def callD (c : Cfg) : Nat → CallF
  | 0 => fun _ _ _ _ _ => (.fail [])
  | d + 1 => fun _ f args _ Φ => match lookK f args c.ks with
    | some r => .ret (r, [])
    | none => if X.nnL args = true then pureX c (callD c d) f args Φ else (.fail [])
theorem callD_ok {P : Program} {ρ : Rho} {c : Cfg} (hc : CfgOk P ρ c) : ∀ d, CallOk P ρ (callD c d)
  | 0 => fun n f args h Φ r d _ hs => by cases hs
  | k + 1 => fun n f args h Φ r d hk hs => by
    simp only [callD] at hs
    split at hs
    · rename_i r' hl
      cases hs
      obtain ⟨h1, h2⟩ := hc.ks _ (lookK_mem hl)
      exact ⟨h1, h2 n _⟩
    · split at hs
      · rename_i ha
        exact pureX_ok hc (callD_ok hc k) ha hk hs
      · cases hs
/-! ### Tables -/
inductive BT (α : Type) where
  | leaf
  | node (l : BT α) (k : Nat) (v : α) (r : BT α)
def btLook {α : Type} (k : Nat) : BT α → Option α
  | .leaf => none
  | .node l j v r => if Nat.beq j k = true then some v else if Nat.ble k j = true then btLook k l else btLook k r
def BT.mem {α : Type} (p : Nat × α) : BT α → Prop
  | .leaf => False
  | .node l j v r => p = (j, v) ∨ l.mem p ∨ r.mem p
theorem btLook_mem {α : Type} {k : Nat} {v : α} : ∀ {t : BT α}, btLook k t = some v → t.mem (k, v)
  | .leaf, h => by cases h
  | .node l j u r, h => by
    simp only [btLook] at h
    split at h
    · rename_i hj; cases h; rw [Nat.eq_of_beq_eq_true hj]; exact .inl rfl
    · split at h
      · exact .inr (.inl (btLook_mem h))
      · exact .inr (.inr (btLook_mem h))
/-- A list, sorted by its numbers, as a tree. -/
def bt_of {α : Type} (l : List (Nat × α)) : Nat → BT α
  | 0 => .leaf
  | d + 1 => match l.drop (l.length / 2) with
    | [] => .leaf
    | (k, v) :: r => .node (bt_of (l.take (l.length / 2)) d) k v (bt_of r d)
theorem bt_of_mem {α : Type} {p : Nat × α} : ∀ (l : List (Nat × α)) (d : Nat), (bt_of l d).mem p → p ∈ l
  | l, 0, h => by cases h
  | l, d + 1, h => by
    simp only [bt_of] at h
    split at h
    · cases h
    · rename_i k v r he
      have hm : ∀ q ∈ (k, v) :: r, q ∈ l := fun q hq => List.mem_of_mem_drop (by rw [he]; exact hq)
      rcases h with h | h | h
      · exact hm p (by rw [h]; exact List.mem_cons_self)
      · exact List.mem_of_mem_take (bt_of_mem _ d h)
      · exact hm p (List.mem_cons_of_mem _ (bt_of_mem r d h))
/-- What a function answers, run over letters. -/
def ask (c : Cfg) (d : Nat) (f : Nat) (args : List X) : T X := (callD c d 0 f args [] []).map (·.1)
end Go.Proofs.Xw
