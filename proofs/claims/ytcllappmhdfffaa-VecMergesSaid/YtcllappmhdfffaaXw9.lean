/- Symbolic runs, part 9: ways put together again. -/
import Derived.Test.YtcllappmhdfffaaXw8
namespace Go.Proofs.Xw
open Go Go.Proofs.Aw

/-! ### One state says no more than another one -/
def LeC (a b : List AV) : Prop := a.length = b.length ∧ ∀ (j : Nat) (x : AV), a[j]? = some x → ∃ y, b[j]? = some y ∧ LeA x y
theorem LeA.trans {a b c : AV} (h : LeA a b) (k : LeA b c) : LeA a c := fun C u hu => h C u (k C u hu)
theorem LeC.refl (a : List AV) : LeC a a := ⟨rfl, fun _ x hx => ⟨x, hx, LeA.refl x⟩⟩
theorem LeC.trans {a b c : List AV} (h : LeC a b) (k : LeC b c) : LeC a c := ⟨h.1.trans k.1, fun j x hx => by
  obtain ⟨y, hy, h1⟩ := h.2 j x hx
  obtain ⟨z, hz, h2⟩ := k.2 j y hy
  exact ⟨z, hz, h1.trans h2⟩⟩
structure LeS (σ' σ : St) : Prop where
  t : ∀ i, LeA (tget σ'.t i) (tget σ.t i)
  h : ∀ m cs', hget σ'.h m = some cs' → ∃ cs, hget σ.h m = some cs ∧ LeC cs' cs
  nx : σ.nx ≤ σ'.nx
theorem LeS.refl (σ : St) : LeS σ σ := ⟨fun _ => LeA.refl _, fun _ cs h => ⟨cs, h, LeC.refl cs⟩, Nat.le_refl _⟩
theorem LeS.trans {a b c : St} (h : LeS a b) (k : LeS b c) : LeS a c := ⟨fun i => (h.t i).trans (k.t i), fun m cs hcs => by
  obtain ⟨ds, hd, h1⟩ := h.h m cs hcs
  obtain ⟨es, he, h2⟩ := k.h m ds hd
  exact ⟨es, he, h1.trans h2⟩, Nat.le_trans k.nx h.nx⟩
theorem Imp_le {E : Env} {σ σ' : St} (hl : LeS σ' σ) : Imp E σ σ' := by
  rintro a w ⟨C, rfl, hC⟩
  have hlive : ∀ m, (hget σ'.h m).isSome = true → C.live m := fun m hm => by
    obtain ⟨cs, hcs⟩ := Option.isSome_iff_exists.1 hm
    obtain ⟨ds, hd, _⟩ := hl.h m cs hcs
    exact hC.heap.get hd
  let C' : Ctx := { C with live := fun m => (hget σ'.h m).isSome = true }
  have le : C.le C' := ⟨Nat.le_refl _, fun _ _ _ => rfl, fun _ _ h => h, fun _ h => h, fun m _ hm => ⟨hlive m hm, rfl⟩, fun _ _ _ cs ty h => ⟨cs, ty, h, rfl⟩⟩
  refine ⟨C', rfl, ⟨⟨fun _ => Iff.rfl, fun m cs hg => ?_, fun m m' hm hm' he => hC.heap.inj m m' (hlive m hm) (hlive m' hm') he, fun m hm => hC.heap.mt _ (hlive m hm), fun m hm => hC.heap.kn m (hlive m hm)⟩, fun i => ?_, hC.size, hC.defers, fun m hm => Nat.lt_of_lt_of_le (hC.kn m hm) hl.nx, ⟨hC.frame.os, hC.frame.tape, hC.frame.output, hC.frame.size, hC.frame.same, hC.frame.mt, fun m hm hb => hC.frame.wr _ (hlive m hm) hb, hC.frame.le.trans le⟩⟩⟩
  · obtain ⟨ds, hd, _, hle⟩ := hl.h m cs hg
    obtain ⟨arr, ty, ha, hc⟩ := hC.heap.obj m ds hd
    refine ⟨arr, ty, ha, fun j c hj => ?_⟩
    obtain ⟨y, hy, hyl⟩ := hle j c hj
    obtain ⟨u, hu, hcu⟩ := hc j y hy
    exact ⟨u, hu, Conc.mono le _ _ (hyl C u hcu)⟩
  · exact Conc.mono le _ _ (hl.t i C _ (hC.t i))

/-! ### Two states put together -/
def mixTop (c : BE) (x y : X) : X := match X.mix c x y with
  | some z => z
  | none => .top
theorem mixTop_le (ρ : Rho) (c : BE) (x y : X) : LeA ((mixTop c x y).den ρ) (if c.den ρ = true then x.den ρ else y.den ρ) := by
  unfold mixTop
  split
  · rename_i z hz; exact LeA.of_eq (X.mix_den _ _ _ hz)
  · exact LeA.top _
def mixK (c : BE) (t1 t2 : XTp) : List Nat → List Nat → XTp → XTp
  | [], _, b => b
  | k :: ks, seen, b => if seen.any (Nat.beq k) = true then mixK c t1 t2 ks seen b else (k, mixTop c (tgetX t1 k) (tgetX t2 k)) :: mixK c t1 t2 ks (k :: seen) b
theorem any_beq {k : Nat} {l : List Nat} : l.any (Nat.beq k) = true ↔ k ∈ l := by
  rw [List.any_eq_true]
  constructor
  · rintro ⟨x, hx, h⟩; rw [Nat.eq_of_beq_eq_true h]; exact hx
  · intro h; exact ⟨k, h, Nat.beq_refl k⟩
theorem tget_mixK (c : BE) (t1 t2 b : XTp) (i : Nat) : ∀ (ks seen : List Nat), tgetX (mixK c t1 t2 ks seen b) i = if i ∈ ks ∧ i ∉ seen then mixTop c (tgetX t1 i) (tgetX t2 i) else tgetX b i
  | [], seen => by simp [mixK]
  | k :: ks, seen => by
    simp only [mixK, any_beq]
    by_cases hk : k ∈ seen
    · rw [if_pos hk, tget_mixK c t1 t2 b i ks seen]
      by_cases hi : i = k
      · subst hi; simp [hk]
      · simp [hi]
    · rw [if_neg hk]
      simp only [tgetX]
      by_cases hi : k = i
      · subst hi; simp [hk]
      · rw [if_neg (by simpa using hi), tget_mixK c t1 t2 b i ks (k :: seen)]
        simp [Ne.symm hi]
def keysT (n : Nat) (t : XTp) : List Nat := (t.take n).map (·.1)
def mixT (c : BE) (b t1 t2 : XTp) : XTp := mixK c t1 t2 (keysT (t1.length - b.length) t1 ++ keysT (t2.length - b.length) t2) [] b
def Ext (b t : XTp) : Prop := ∃ u, t = u ++ b
theorem Ext.refl (b : XTp) : Ext b b := ⟨[], rfl⟩
theorem Ext.trans {a b c : XTp} (h : Ext a b) (k : Ext b c) : Ext a c := by
  obtain ⟨u, rfl⟩ := h
  obtain ⟨v, rfl⟩ := k
  exact ⟨v ++ u, by simp⟩
theorem tget_ext {b u : XTp} {i : Nat} (h : i ∉ keysT ((u ++ b).length - b.length) (u ++ b)) : tgetX (u ++ b) i = tgetX b i := by
  have e : keysT ((u ++ b).length - b.length) (u ++ b) = u.map (·.1) := by
    unfold keysT
    rw [List.length_append, Nat.add_sub_cancel, List.take_left]
  rw [e] at h
  clear e
  induction u with
  | nil => rfl
  | cons p u ih =>
    obtain ⟨j, v⟩ := p
    simp only [List.map_cons, List.mem_cons, not_or] at h
    simp only [List.cons_append, tgetX]
    rw [if_neg (by simpa using Ne.symm h.1), ih h.2]
theorem mixT_le {ρ : Rho} {c : BE} {b t1 t2 : XTp} (h1 : Ext b t1) (h2 : Ext b t2) (i : Nat) : LeA ((tgetX (mixT c b t1 t2) i).den ρ) (if c.den ρ = true then (tgetX t1 i).den ρ else (tgetX t2 i).den ρ) := by
  unfold mixT
  rw [tget_mixK]
  split
  · exact mixTop_le ρ c _ _
  · rename_i hn
    simp only [List.mem_append, List.not_mem_nil, not_false_eq_true, and_true, not_or] at hn
    obtain ⟨u1, rfl⟩ := h1
    obtain ⟨u2, rfl⟩ := h2
    rw [tget_ext hn.1, tget_ext hn.2]
    split <;> exact LeA.refl _
theorem mixK_ext (c : BE) (t1 t2 b : XTp) : ∀ ks seen, Ext b (mixK c t1 t2 ks seen b)
  | [], _ => Ext.refl b
  | k :: ks, seen => by
    simp only [mixK]
    split
    · exact mixK_ext c t1 t2 b ks seen
    · obtain ⟨u, hu⟩ := mixK_ext c t1 t2 b ks (k :: seen)
      exact ⟨_ :: u, by rw [hu]; rfl⟩
def mixC (c : BE) : List X → List X → List X
  | a :: as, b :: bs => mixTop c a b :: mixC c as bs
  | _, _ => []
theorem mixC_le {ρ : Rho} {c : BE} : ∀ {a b : List X}, a.length = b.length → LeC (X.denL ρ (mixC c a b)) (if c.den ρ = true then X.denL ρ a else X.denL ρ b)
  | [], [], _ => by simp only [mixC, X.denL, ite_self]; exact LeC.refl _
  | a :: as, b :: bs, h => by
    obtain ⟨h1, h2⟩ := mixC_le (ρ := ρ) (c := c) (a := as) (b := bs) (by simpa using h)
    have hm := mixTop_le ρ c a b
    simp only [mixC, X.denL]
    by_cases hc : c.den ρ = true
    · rw [if_pos hc] at h1 h2 hm ⊢
      refine ⟨by simp [h1], fun j x hx => ?_⟩
      cases j with
      | zero => simp at hx ⊢; subst hx; exact hm
      | succ j => simpa using h2 j x (by simpa using hx)
    · rw [if_neg hc] at h1 h2 hm ⊢
      refine ⟨by simp [h1], fun j x hx => ?_⟩
      cases j with
      | zero => simp at hx ⊢; subst hx; exact hm
      | succ j => simpa using h2 j x (by simpa using hx)
  | [], _ :: _, h => by simp at h
  | _ :: _, [], h => by simp at h
/-- Two objects put together. -/
def mixP (c : BE) (a b : List X) : Option (List X) := if (!isRows a && (!isRows b && (Nat.beq a.length b.length && !isRows (mixC c a b)))) = true then some (mixC c a b) else none
def mixO (c : BE) (a b : List X) : Option (List X) :=
  match a, b with
  | [.rows z n l], [.rows z' n' l'] => if Nat.beq z z' = true then some [.rows z (mkIteI c n n') (mkRL c l l')] else none
  | a, b => mixP c a b
theorem mixP_le {ρ : Rho} {c : BE} {a b r : List X} (h : mixP c a b = some r) : LeC (denO ρ r) (if c.den ρ = true then denO ρ a else denO ρ b) := by
  unfold mixP at h
  split at h
  · rename_i hc
    simp only [Bool.and_eq_true, Bool.not_eq_true'] at hc
    obtain ⟨h1, h2, h3, h4⟩ := hc
    cases h
    rw [denO_of h1, denO_of h2, denO_of h4]
    exact mixC_le (Nat.eq_of_beq_eq_true h3)
  · cases h
theorem mixO_le {ρ : Rho} {c : BE} {a b r : List X} (h : mixO c a b = some r) : LeC (denO ρ r) (if c.den ρ = true then denO ρ a else denO ρ b) := by
  unfold mixO at h
  split at h
  · split at h
    · rename_i z n l z' n' l' hz
      have hz := Nat.eq_of_beq_eq_true hz
      subst hz
      cases h
      simp only [denO]
      have : rowsD ρ (mkIteI c n n') (mkRL c l l') = if c.den ρ = true then rowsD ρ n l else rowsD ρ n' l' := by
        unfold rowsD
        rw [mkIteI_den]
        simp only [mkRL_row]
        split <;> rfl
      rw [this]
      split <;> exact LeC.refl _
    · cases h
  · exact mixP_le h
def mixH (c : BE) (h1 h2 : XHp) : List Nm → XHp
  | [] => []
  | m :: ms => match hgetO h1 m, hgetO h2 m with
    | some a, some b => match mixO c a b with
      | some r => (m, r) :: mixH c h1 h2 ms
      | none => mixH c h1 h2 ms
    | _, _ => mixH c h1 h2 ms
theorem mixH_get {c : BE} {h1 h2 : XHp} {m : Nm} {cs : List X} : ∀ {ms : List Nm}, hgetO (mixH c h1 h2 ms) m = some cs → ∃ a b, hgetO h1 m = some a ∧ hgetO h2 m = some b ∧ mixO c a b = some cs
  | [], h => by cases h
  | k :: ms, h => by
    simp only [mixH] at h
    split at h
    · rename_i a b ha hb
      split at h
      · rename_i r hl
        simp only [hgetO] at h
        split at h
        · rename_i hk
          cases h
          have := nmbeq_eq hk
          subst this
          exact ⟨a, b, ha, hb, hl⟩
        · exact mixH_get h
      · exact mixH_get h
    · exact mixH_get h
def mixS (c : BE) (b : XTp) (s1 s2 : XS) : XS := ⟨mixT c b s1.t s2.t, mixH c s1.h s2.h (s1.h.map (·.1)), Nat.max s1.nx s2.nx⟩
theorem mixS_le {ρ : Rho} {c : BE} {b : XTp} {s1 s2 : XS} (h1 : Ext b s1.t) (h2 : Ext b s2.t) : LeS ((mixS c b s1 s2).den ρ) (if c.den ρ = true then s1.den ρ else s2.den ρ) := by
  refine ⟨fun i => ?_, fun m cs hcs => ?_, ?_⟩
  · have := mixT_le (ρ := ρ) (c := c) h1 h2 i
    by_cases hc : c.den ρ = true
    · rw [if_pos hc] at this ⊢; simp only [XS.den, mixS, tget_denT]; exact this
    · rw [if_neg hc] at this ⊢; simp only [XS.den, mixS, tget_denT]; exact this
  · simp only [XS.den, mixS, hget_denO] at hcs
    obtain ⟨ds, hd, rfl⟩ := Option.map_eq_some_iff.1 hcs
    obtain ⟨a, b', ha, hb, hl⟩ := mixH_get hd
    have := mixO_le (ρ := ρ) (c := c) hl
    by_cases hc : c.den ρ = true
    · rw [if_pos hc] at this ⊢
      exact ⟨_, by simp only [XS.den, hget_denO, ha, Option.map_some], this⟩
    · rw [if_neg hc] at this ⊢
      exact ⟨_, by simp only [XS.den, hget_denO, hb, Option.map_some], this⟩
  · simp only [mixS, XS.den]
    split
    · exact Nat.le_max_left _ _
    · exact Nat.le_max_right _ _

/-- The slots that lie ahead of b, each once. -/
def sqK (t : XTp) : List Nat → List Nat → XTp → XTp
  | [], _, b => b
  | k :: ks, seen, b => if seen.any (Nat.beq k) = true then sqK t ks seen b else (k, tgetX t k) :: sqK t ks (k :: seen) b
theorem tget_sqK (t b : XTp) (i : Nat) : ∀ (ks seen : List Nat), tgetX (sqK t ks seen b) i = if i ∈ ks ∧ i ∉ seen then tgetX t i else tgetX b i
  | [], seen => by simp [sqK]
  | k :: ks, seen => by
    simp only [sqK, any_beq]
    by_cases hk : k ∈ seen
    · rw [if_pos hk, tget_sqK t b i ks seen]
      by_cases hi : i = k
      · subst hi; simp [hk]
      · simp [hi]
    · rw [if_neg hk]
      simp only [tgetX]
      by_cases hi : k = i
      · subst hi; simp [hk]
      · rw [if_neg (by simpa using hi), tget_sqK t b i ks (k :: seen)]
        simp [Ne.symm hi]
theorem sqK_ext (t b : XTp) : ∀ ks seen, Ext b (sqK t ks seen b)
  | [], _ => Ext.refl b
  | k :: ks, seen => by
    simp only [sqK]
    split
    · exact sqK_ext t b ks seen
    · obtain ⟨u, hu⟩ := sqK_ext t b ks (k :: seen)
      exact ⟨_ :: u, by rw [hu]; rfl⟩
def squeeze (b : XTp) (s : XS) : XS := ⟨sqK s.t (keysT (s.t.length - b.length) s.t) [] b, s.h, s.nx⟩
theorem squeeze_le {ρ : Rho} {b : XTp} {s : XS} (h : Ext b s.t) : LeS ((squeeze b s).den ρ) (s.den ρ) := by
  refine ⟨fun i => ?_, fun m cs hcs => ⟨cs, hcs, LeC.refl cs⟩, Nat.le_refl _⟩
  simp only [XS.den, squeeze, tget_denT, tget_sqK]
  split
  · exact LeA.refl _
  · rename_i hn
    simp only [List.not_mem_nil, not_false_eq_true, and_true] at hn
    obtain ⟨u, hu⟩ := h
    rw [hu] at hn ⊢
    rw [tget_ext hn]
    exact LeA.refl _

/-! ### Ways put together -/
inductive XE where
  | normal
  | exit (id : Nat)
  | ret
def XE.to : XE → Exit
  | .normal => .normal
  | .exit id => .exit id
  | .ret => .ret
def XE.beq : XE → XE → Bool
  | .normal, .normal => true
  | .exit a, .exit b => Nat.beq a b
  | .ret, .ret => true
  | _, _ => false
theorem XE.beq_eq {a b : XE} (h : a.beq b = true) : a = b := by
  cases a <;> cases b <;> simp [XE.beq] at h ⊢; exact h
def T.All {α : Type} (p : α → Prop) : T α → Prop
  | .ret a => p a
  | .br _ x y => x.All p ∧ y.All p
  | .need _ x => x.All p
  | .fail _ => True
theorem T.All_true {α : Type} : ∀ t : T α, t.All fun _ => True
  | .ret _ => trivial
  | .br _ x y => ⟨T.All_true x, T.All_true y⟩
  | .need _ x => T.All_true x
  | .fail _ => trivial
theorem T.All_mono {α : Type} {p q : α → Prop} (h : ∀ a, p a → q a) : ∀ {t : T α}, t.All p → t.All q
  | .ret a, ht => h a ht
  | .br _ _ _, ht => ⟨T.All_mono h ht.1, T.All_mono h ht.2⟩
  | .need _ x, ht => T.All_mono (t := x) h ht
  | .fail _, _ => trivial
theorem T.All_bind {α β : Type} {p : α → Prop} {q : β → Prop} {f : Facts → α → T β} (hf : ∀ Φ a, p a → (f Φ a).All q) : ∀ {t : T α} {Φ : Facts}, t.All p → (t.bind Φ f).All q
  | .ret a, Φ, h => hf Φ a h
  | .br _ _ _, _, h => ⟨T.All_bind hf h.1, T.All_bind hf h.2⟩
  | .need _ x, _, h => T.All_bind (t := x) hf h
  | .fail _, _, _ => trivial
theorem T.All_map {α β : Type} {p : α → Prop} {q : β → Prop} {f : α → β} (hf : ∀ a, p a → q (f a)) : ∀ {t : T α}, t.All p → (t.map f).All q
  | .ret a, h => hf a h
  | .br _ _ _, h => ⟨T.All_map hf h.1, T.All_map hf h.2⟩
  | .need _ x, h => T.All_map (t := x) hf h
  | .fail _, _ => trivial
theorem All_part {α : Type} {p : α → Prop} {Φ : Facts} {c : BE} {x y : Facts → T α} (hx : ∀ Φ, (x Φ).All p) (hy : ∀ Φ, (y Φ).All p) : (part Φ c x y).All p := by
  unfold part
  split
  · exact hx _
  · exact hy _
  · exact ⟨hx _, hy _⟩
theorem All_want {α : Type} {p : α → Prop} {Φ : Facts} {c : BE} {x : Facts → T α} (hx : ∀ Φ, (x Φ).All p) : (want Φ c x).All p := by
  unfold want
  split
  · exact hx _
  · trivial
  · exact hx _
theorem All_guardX {α : Type} {p : α → Prop} {Φ : Facts} {v : X} {want' : Bool} {run : Facts → T (X × XDl)} {go : Facts → X → XDl → T α} {skip : Facts → T α} {both : Facts → X → T α} (hg : ∀ Φ r d, (go Φ r d).All p) (hs : ∀ Φ, (skip Φ).All p) (hb : ∀ Φ y, (both Φ y).All p) :
    (guardX Φ v want' run go skip both).All p := by
  have hrun : ∀ (Φ Φ' : Facts), ((run Φ).bind Φ' fun Φ p => go Φ p.1 p.2).All p := fun Φ Φ' => T.All_bind (p := fun _ => True) (fun Φ q _ => hg Φ q.1 q.2) (T.All_true _)
  unfold guardX
  split
  · split
    · exact hrun _ _
    · exact hs _
    · split
      · exact All_want fun Φ => hb Φ _
      · exact ⟨hrun _ _, hs _⟩
  · trivial

structure Ent where
  c : BE
  e : XE
  s : XS
def insE (b : XTp) (c : BE) (e : XE) (s : XS) : List Ent → List Ent
  | [] => [⟨c, e, s⟩]
  | x :: r => if x.e.beq e = true then ⟨mkOr x.c c, e, mixS x.c b x.s s⟩ :: r else x :: insE b c e s r
def grp (b : XTp) : List Ent → List Ent → List Ent
  | [], acc => acc
  | x :: l, acc => grp b l (insE b x.c x.e x.s acc)
def Ent.and (c : BE) (x : Ent) : Ent := ⟨mkAnd c x.c, x.e, x.s⟩
def fixLast : BE → List Ent → List Ent
  | _, [] => []
  | acc, [x] => [⟨mkNot acc, x.e, x.s⟩]
  | acc, x :: r => x :: fixLast (mkOr acc x.c) r
def flat (b : XTp) : T (XE × XS) → BE × List Ent
  | .ret (e, s) => (.lit true, [⟨.lit true, e, s⟩])
  | .br c x y => match flat b x, flat b y with
    | (p, l), (q, m) => (mkIteB c p q, fixLast (.lit false) (grp b (m.map (Ent.and (mkNot c))) (l.map (Ent.and c))))
  | .need c x => match flat b x with
    | (p, l) => (mkAnd c p, l)
  | .fail _ => (.lit false, [])
/-- An entry is right: where its condition holds, the way comes to its end, and there is as much as it says. -/
def Ent.right (ρ : Rho) (t : Option (XE × XS)) (x : Ent) : Prop := x.c.den ρ = true → ∃ s, t = some (x.e, s) ∧ LeS (x.s.den ρ) (s.den ρ)
structure EntsOk (ρ : Rho) (b : XTp) (t : Option (XE × XS)) (l : List Ent) : Prop where
  right : ∀ x ∈ l, x.right ρ t
  ext : ∀ x ∈ l, Ext b x.s.t
theorem mixS_ext (c : BE) (b : XTp) (s1 s2 : XS) : Ext b (mixS c b s1 s2).t := mixK_ext _ _ _ _ _ _
theorem insE_ok {ρ : Rho} {b : XTp} {t : Option (XE × XS)} {n : Ent} (hn : n.right ρ t) (he : Ext b n.s.t) : ∀ {l : List Ent}, EntsOk ρ b t l →
    EntsOk ρ b t (insE b n.c n.e n.s l) ∧ ((n.c.den ρ = true ∨ ∃ x ∈ l, x.c.den ρ = true) → ∃ x ∈ insE b n.c n.e n.s l, x.c.den ρ = true)
  | [], _ => by
    refine ⟨⟨fun x hx => ?_, fun x hx => ?_⟩, fun h => ?_⟩
    · simp only [insE, List.mem_singleton] at hx; subst hx; exact hn
    · simp only [insE, List.mem_singleton] at hx; subst hx; exact he
    · rcases h with h | ⟨x, hx, _⟩
      · exact ⟨_, by simp only [insE, List.mem_singleton], h⟩
      · cases hx
  | y :: r, ho => by
    have hy := ho.right y List.mem_cons_self
    have hye := ho.ext y List.mem_cons_self
    have ho' : EntsOk ρ b t r := ⟨fun x hx => ho.right x (List.mem_cons_of_mem _ hx), fun x hx => ho.ext x (List.mem_cons_of_mem _ hx)⟩
    simp only [insE]
    split
    · rename_i hb
      have hb := XE.beq_eq hb
      have hle := mixS_le (ρ := ρ) (c := y.c) hye he
      refine ⟨⟨fun x hx => ?_, fun x hx => ?_⟩, fun h => ?_⟩
      · rcases List.mem_cons.1 hx with rfl | hx
        · intro hc
          simp only [mkOr_den, Bool.or_eq_true] at hc
          by_cases hyc : y.c.den ρ = true
          · obtain ⟨s, h1, h2⟩ := hy hyc
            rw [if_pos hyc] at hle
            exact ⟨s, by rw [h1, hb], hle.trans h2⟩
          · obtain ⟨s, h1, h2⟩ := hn (hc.resolve_left hyc)
            rw [if_neg hyc] at hle
            exact ⟨s, h1, hle.trans h2⟩
        · exact ho'.right x hx
      · rcases List.mem_cons.1 hx with rfl | hx
        · exact mixS_ext _ _ _ _
        · exact ho'.ext x hx
      · rcases h with h | ⟨x, hx, h⟩
        · exact ⟨_, List.mem_cons_self, by simp only [mkOr_den, h, Bool.or_true]⟩
        · rcases List.mem_cons.1 hx with rfl | hx
          · exact ⟨_, List.mem_cons_self, by simp only [mkOr_den, h, Bool.true_or]⟩
          · exact ⟨x, List.mem_cons_of_mem _ hx, h⟩
    · obtain ⟨ih1, ih2⟩ := insE_ok hn he ho'
      refine ⟨⟨fun x hx => ?_, fun x hx => ?_⟩, fun h => ?_⟩
      · rcases List.mem_cons.1 hx with rfl | hx
        · exact hy
        · exact ih1.right x hx
      · rcases List.mem_cons.1 hx with rfl | hx
        · exact hye
        · exact ih1.ext x hx
      · rcases h with h | ⟨x, hx, h⟩
        · obtain ⟨z, hz, hzc⟩ := ih2 (.inl h)
          exact ⟨z, List.mem_cons_of_mem _ hz, hzc⟩
        · rcases List.mem_cons.1 hx with rfl | hx
          · exact ⟨_, List.mem_cons_self, h⟩
          · obtain ⟨z, hz, hzc⟩ := ih2 (.inr ⟨x, hx, h⟩)
            exact ⟨z, List.mem_cons_of_mem _ hz, hzc⟩
theorem grp_ok {ρ : Rho} {b : XTp} {t : Option (XE × XS)} : ∀ {m l : List Ent}, EntsOk ρ b t m → EntsOk ρ b t l → EntsOk ρ b t (grp b m l) ∧ (((∃ x ∈ m, x.c.den ρ = true) ∨ ∃ x ∈ l, x.c.den ρ = true) → ∃ x ∈ grp b m l, x.c.den ρ = true)
  | [], l, _, hl => ⟨hl, fun h => by
      rcases h with ⟨x, hx, _⟩ | h
      · cases hx
      · exact h⟩
  | y :: m, l, hm, hl => by
    have hm' : EntsOk ρ b t m := ⟨fun x hx => hm.right x (List.mem_cons_of_mem _ hx), fun x hx => hm.ext x (List.mem_cons_of_mem _ hx)⟩
    obtain ⟨h1, h2⟩ := insE_ok (hm.right y List.mem_cons_self) (hm.ext y List.mem_cons_self) hl
    obtain ⟨h3, h4⟩ := grp_ok hm' h1
    refine ⟨h3, fun h => h4 ?_⟩
    rcases h with ⟨x, hx, hc⟩ | h
    · rcases List.mem_cons.1 hx with rfl | hx
      · exact .inr (h2 (.inl hc))
      · exact .inl ⟨x, hx, hc⟩
    · exact .inr (h2 (.inr h))
theorem fixLast_ok {ρ : Rho} {b : XTp} {t : Option (XE × XS)} : ∀ {l : List Ent} {acc : BE}, EntsOk ρ b t l → (acc.den ρ = true ∨ ∃ x ∈ l, x.c.den ρ = true) → EntsOk ρ b t (fixLast acc l) ∧ (acc.den ρ = true ∨ ∃ x ∈ fixLast acc l, x.c.den ρ = true)
  | [], acc, ho, hx => ⟨ho, hx⟩
  | [x], acc, ho, hx => by
    have hr := ho.right x List.mem_cons_self
    refine ⟨⟨fun y hy => ?_, fun y hy => ?_⟩, ?_⟩
    · simp only [fixLast, List.mem_singleton] at hy
      subst hy
      intro hc
      simp only [mkNot_den, Bool.not_eq_true'] at hc
      refine hr ?_
      rcases hx with h | ⟨z, hz, h⟩
      · rw [hc] at h; cases h
      · simp only [List.mem_singleton] at hz; subst hz; exact h
    · simp only [fixLast, List.mem_singleton] at hy
      subst hy
      exact ho.ext x List.mem_cons_self
    · by_cases ha : acc.den ρ = true
      · exact .inl ha
      · exact .inr ⟨⟨mkNot acc, x.e, x.s⟩, by simp only [fixLast, List.mem_singleton], by simp only [mkNot_den]; simpa using ha⟩
  | x :: y :: r, acc, ho, hx => by
    have ho' : EntsOk ρ b t (y :: r) := ⟨fun z hz => ho.right z (List.mem_cons_of_mem _ hz), fun z hz => ho.ext z (List.mem_cons_of_mem _ hz)⟩
    obtain ⟨h1, h2⟩ := fixLast_ok (acc := mkOr acc x.c) ho' (by
      rw [mkOr_den]
      rcases hx with h | ⟨z, hz, h⟩
      · exact .inl (by rw [h]; rfl)
      · rcases List.mem_cons.1 hz with rfl | hz
        · exact .inl (by rw [h]; simp)
        · exact .inr ⟨z, hz, h⟩)
    refine ⟨⟨fun z hz => ?_, fun z hz => ?_⟩, ?_⟩
    · simp only [fixLast] at hz
      rcases List.mem_cons.1 hz with rfl | hz
      · exact ho.right _ List.mem_cons_self
      · exact h1.right z hz
    · simp only [fixLast] at hz
      rcases List.mem_cons.1 hz with rfl | hz
      · exact ho.ext _ List.mem_cons_self
      · exact h1.ext z hz
    · rw [mkOr_den, Bool.or_eq_true] at h2
      rcases h2 with (h2 | h2) | ⟨z, hz, h2⟩
      · exact .inl h2
      · exact .inr ⟨x, by simp only [fixLast]; exact List.mem_cons_self, h2⟩
      · exact .inr ⟨z, by simp only [fixLast]; exact List.mem_cons_of_mem _ hz, h2⟩
theorem flat_ok {ρ : Rho} {b : XTp} : ∀ {t : T (XE × XS)}, t.All (fun p => Ext b p.2.t) → (flat b t).1.den ρ = true → EntsOk ρ b (t.sel ρ) (flat b t).2 ∧ ∃ x ∈ (flat b t).2, x.c.den ρ = true
  | .ret (e, s), ha, _ => by
    refine ⟨⟨fun x hx => ?_, fun x hx => ?_⟩, ?_⟩
    · simp only [flat, List.mem_singleton] at hx; subst hx; exact fun _ => ⟨s, rfl, LeS.refl _⟩
    · simp only [flat, List.mem_singleton] at hx; subst hx; exact ha
    · exact ⟨⟨.lit true, e, s⟩, by simp only [flat, List.mem_singleton], by simp only [BE.den]⟩
  | .br c x y, ha, hok => by
    simp only [flat] at hok ⊢
    rw [mkIteB_den] at hok
    have hx := fun h => flat_ok (ρ := ρ) (b := b) (t := x) ha.1 h
    have hy := fun h => flat_ok (ρ := ρ) (b := b) (t := y) ha.2 h
    have key : EntsOk ρ b ((T.br c x y).sel ρ) ((flat b x).2.map (Ent.and c)) ∧ EntsOk ρ b ((T.br c x y).sel ρ) ((flat b y).2.map (Ent.and (mkNot c))) ∧ ((∃ z ∈ (flat b y).2.map (Ent.and (mkNot c)), z.c.den ρ = true) ∨ ∃ z ∈ (flat b x).2.map (Ent.and c), z.c.den ρ = true) := by
      have extOf : ∀ {t : T (XE × XS)}, t.All (fun p => Ext b p.2.t) → ∀ z ∈ (flat b t).2, Ext b z.s.t := fun {t} ht z hz => flat_ext ht z hz
      by_cases hc : c.den ρ = true
      · rw [if_pos hc] at hok
        obtain ⟨h1, z, hz, hzc⟩ := hx hok
        have hsel : (T.br c x y).sel ρ = x.sel ρ := by simp only [T.sel, hc, if_true]
        rw [hsel]
        refine ⟨⟨fun v hv => ?_, fun v hv => ?_⟩, ⟨fun v hv => ?_, fun v hv => ?_⟩, .inr ⟨Ent.and c z, List.mem_map.2 ⟨z, hz, rfl⟩, by simp only [Ent.and, mkAnd_den, hc, hzc, Bool.and_self]⟩⟩
        · obtain ⟨w, hw, rfl⟩ := List.mem_map.1 hv
          intro hh
          simp only [Ent.and, mkAnd_den, Bool.and_eq_true] at hh
          exact h1.right w hw hh.2
        · obtain ⟨w, hw, rfl⟩ := List.mem_map.1 hv
          exact h1.ext w hw
        · obtain ⟨w, hw, rfl⟩ := List.mem_map.1 hv
          intro hh
          simp only [Ent.and, mkAnd_den, mkNot_den, hc, Bool.not_true, Bool.false_and] at hh
          cases hh
        · obtain ⟨w, hw, rfl⟩ := List.mem_map.1 hv
          exact extOf ha.2 w hw
      · rw [if_neg hc] at hok
        obtain ⟨h1, z, hz, hzc⟩ := hy hok
        have hsel : (T.br c x y).sel ρ = y.sel ρ := by simp only [T.sel, hc]; rfl
        have hcf : c.den ρ = false := by simpa using hc
        rw [hsel]
        refine ⟨⟨fun v hv => ?_, fun v hv => ?_⟩, ⟨fun v hv => ?_, fun v hv => ?_⟩, .inl ⟨Ent.and (mkNot c) z, List.mem_map.2 ⟨z, hz, rfl⟩, by simp only [Ent.and, mkAnd_den, mkNot_den, hcf, hzc, Bool.not_false, Bool.and_self]⟩⟩
        · obtain ⟨w, hw, rfl⟩ := List.mem_map.1 hv
          intro hh
          simp only [Ent.and, mkAnd_den, hcf, Bool.false_and] at hh
          cases hh
        · obtain ⟨w, hw, rfl⟩ := List.mem_map.1 hv
          exact extOf ha.1 w hw
        · obtain ⟨w, hw, rfl⟩ := List.mem_map.1 hv
          intro hh
          simp only [Ent.and, mkAnd_den, Bool.and_eq_true] at hh
          exact h1.right w hw hh.2
        · obtain ⟨w, hw, rfl⟩ := List.mem_map.1 hv
          exact h1.ext w hw
    obtain ⟨k1, k2, k3⟩ := key
    obtain ⟨g1, g2⟩ := grp_ok k2 k1
    obtain ⟨f1, f2⟩ := fixLast_ok (acc := .lit false) g1 (.inr (g2 k3))
    refine ⟨f1, ?_⟩
    rcases f2 with f2 | f2
    · simp [BE.den] at f2
    · exact f2
  | .need c x, ha, hok => by
    simp only [flat, mkAnd_den, Bool.and_eq_true] at hok ⊢
    obtain ⟨h1, h2⟩ := flat_ok (ρ := ρ) (b := b) (t := x) ha hok.2
    have hsel : (T.need c x).sel ρ = x.sel ρ := by simp only [T.sel, hok.1, if_true]
    rw [hsel]
    exact ⟨h1, h2⟩
  | .fail _, _, hok => by simp [flat, BE.den] at hok
where
  flat_ext : ∀ {t : T (XE × XS)}, t.All (fun p => Ext b p.2.t) → ∀ z ∈ (flat b t).2, Ext b z.s.t := by
    intro t
    induction t with
    | ret a => intro ha z hz; obtain ⟨e, s⟩ := a; simp only [flat, List.mem_singleton] at hz; subst hz; exact ha
    | fail _ => intro _ z hz; simp [flat] at hz
    | need c x ih => intro ha z hz; simp only [flat] at hz; exact ih ha z hz
    | br c x y ih1 ih2 =>
      intro ha z hz
      simp only [flat] at hz
      have i1 := ih1 ha.1
      have i2 := ih2 ha.2
      have fx : ∀ (l : List Ent) (acc : BE), (∀ z ∈ l, Ext b z.s.t) → ∀ z ∈ fixLast acc l, Ext b z.s.t := by
        intro l
        induction l with
        | nil => intro acc h z hz; simp [fixLast] at hz
        | cons x r ih =>
          intro acc h z hz
          cases r with
          | nil => simp only [fixLast, List.mem_singleton] at hz; subst hz; exact h x List.mem_cons_self
          | cons y r =>
            simp only [fixLast] at hz
            rcases List.mem_cons.1 hz with rfl | hz
            · exact h _ List.mem_cons_self
            · exact ih _ (fun z hz => h z (List.mem_cons_of_mem _ hz)) z hz
      have ins : ∀ (l : List Ent) (n : Ent), (∀ z ∈ l, Ext b z.s.t) → Ext b n.s.t → ∀ z ∈ insE b n.c n.e n.s l, Ext b z.s.t := by
        intro l n
        induction l with
        | nil => intro _ hn z hz; simp only [insE, List.mem_singleton] at hz; subst hz; exact hn
        | cons x r ih =>
          intro h hn z hz
          simp only [insE] at hz
          split at hz
          · rcases List.mem_cons.1 hz with rfl | hz
            · exact mixS_ext _ _ _ _
            · exact h z (List.mem_cons_of_mem _ hz)
          · rcases List.mem_cons.1 hz with rfl | hz
            · exact h _ List.mem_cons_self
            · exact ih (fun z hz => h z (List.mem_cons_of_mem _ hz)) hn z hz
      have gr : ∀ (m l : List Ent), (∀ z ∈ m, Ext b z.s.t) → (∀ z ∈ l, Ext b z.s.t) → ∀ z ∈ grp b m l, Ext b z.s.t := by
        intro m
        induction m with
        | nil => intro l _ hl; exact hl
        | cons x m ih => intro l hm hl; exact ih _ (fun z hz => hm z (List.mem_cons_of_mem _ hz)) (ins l x hl (hm x List.mem_cons_self))
      refine fx _ _ (gr _ _ (fun z hz => ?_) (fun z hz => ?_)) z hz
      · obtain ⟨w, hw, rfl⟩ := List.mem_map.1 hz; exact i2 w hw
      · obtain ⟨w, hw, rfl⟩ := List.mem_map.1 hz; exact i1 w hw
def bt : List Ent → T (XE × XS)
  | [] => (.fail [])
  | [x] => .ret (x.e, x.s)
  | x :: r => match x.c with
    | .lit true => .ret (x.e, x.s)
    | .lit false => bt r
    | c => .br c (.ret (x.e, x.s)) (bt r)
theorem bt_ok {ρ : Rho} {b : XTp} {t : Option (XE × XS)} {e : XE} {s' : XS} : ∀ {l : List Ent}, EntsOk ρ b t l → (∃ x ∈ l, x.c.den ρ = true) → (bt l).sel ρ = some (e, s') → ∃ s, t = some (e, s) ∧ LeS (s'.den ρ) (s.den ρ)
  | [], _, hx, _ => by obtain ⟨x, hx, _⟩ := hx; cases hx
  | [x], ho, hx, h => by
    obtain ⟨y, hy, hc⟩ := hx
    simp only [List.mem_singleton] at hy
    subst hy
    cases h
    exact ho.right _ List.mem_cons_self hc
  | x :: y :: r, ho, hx, h => by
    have ho' : EntsOk ρ b t (y :: r) := ⟨fun z hz => ho.right z (List.mem_cons_of_mem _ hz), fun z hz => ho.ext z (List.mem_cons_of_mem _ hz)⟩
    have hr := ho.right x List.mem_cons_self
    have next : ¬ x.c.den ρ = true → ∃ z ∈ y :: r, z.c.den ρ = true := fun hn => by
      obtain ⟨z, hz, hc⟩ := hx
      rcases List.mem_cons.1 hz with rfl | hz
      · exact absurd hc hn
      · exact ⟨z, hz, hc⟩
    simp only [bt] at h
    split at h
    · rename_i hc
      cases h
      exact hr (by rw [hc]; rfl)
    · rename_i hc
      exact bt_ok ho' (next (by rw [hc]; simp [BE.den])) h
    · simp only [T.sel] at h
      split at h
      · rename_i hc; cases h; exact hr hc
      · rename_i hc; exact bt_ok ho' (next hc) h
theorem bt_ext {b : XTp} : ∀ {l : List Ent}, (∀ z ∈ l, Ext b z.s.t) → (bt l).All fun p => Ext b p.2.t
  | [], _ => trivial
  | [x], h => h x List.mem_cons_self
  | x :: y :: r, h => by
    have ih := bt_ext (l := y :: r) fun z hz => h z (List.mem_cons_of_mem _ hz)
    simp only [bt]
    split
    · exact h x List.mem_cons_self
    · exact ih
    · exact ⟨h x List.mem_cons_self, ih⟩
def joinB (b : XTp) (t : T (XE × XS)) : T (XE × XS) :=
  match t with
  | .ret p => .ret p
  | .fail w => .fail w
  | t => match flat b t with
    | (.lit true, l) => bt l
    | (.lit false, _) => .fail t.why
    | (c, l) => .need c (bt l)
theorem joinB_ok {ρ : Rho} {b : XTp} {t : T (XE × XS)} (ha : t.All fun p => Ext b p.2.t) {e : XE} {s' : XS} (h : (joinB b t).sel ρ = some (e, s')) : ∃ s, t.sel ρ = some (e, s) ∧ LeS (s'.den ρ) (s.den ρ) := by
  unfold joinB at h
  split at h
  · cases h; exact ⟨s', rfl, LeS.refl _⟩
  · cases h
  · have hf := flat_ok (ρ := ρ) (b := b) ha
    split at h
    · rename_i l hl
      rw [hl] at hf
      obtain ⟨h1, h2⟩ := hf rfl
      exact bt_ok h1 h2 h
    · cases h
    · rename_i c l _ _ hl
      rw [hl] at hf
      simp only [T.sel] at h
      split at h
      · rename_i hc
        obtain ⟨h1, h2⟩ := hf hc
        exact bt_ok h1 h2 h
      · cases h
theorem joinB_ext {b : XTp} {t : T (XE × XS)} (ha : t.All fun p => Ext b p.2.t) : (joinB b t).All fun p => Ext b p.2.t := by
  unfold joinB
  split
  · exact ha
  · trivial
  · have hx := flat_ok.flat_ext ha
    split
    · rename_i l hl; rw [hl] at hx; exact bt_ext hx
    · trivial
    · rename_i c l _ _ hl; rw [hl] at hx; exact bt_ext hx
end Go.Proofs.Xw
