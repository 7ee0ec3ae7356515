/- Symbolic runs, part 17: calls that are handed objects, and hand objects back. -/
import Derived.Test.YtcllappmhdfffaaXw11
import Derived.Test.YtcllappmhdfffaaAw22
namespace Go.Proofs.Xw
open Go Go.Proofs.Aw

def nmIn (m : Nm) : List Nm → Bool
  | [] => false
  | k :: l => nmbeq k m || nmIn m l
/-- What can be reached from the names L. -/
def reachX (h : XHp) : Nat → List Nm → List Nm → List Nm
  | 0, _, acc => acc
  | _ + 1, [], acc => acc
  | k + 1, m :: l, acc => if nmIn m acc = true then reachX h k l acc else match hgetO h m with
    | some cs => reachX h k (X.namesL cs ++ l) (acc ++ [m])
    | none => reachX h k l acc
def hkeepX (W : List Nm) : XHp → XHp
  | [] => []
  | (m, v) :: l => if nmIn m W = true then (m, v) :: hkeepX W l else hkeepX W l
theorem hkeepX_get (W : List Nm) (m : Nm) : ∀ h : XHp, hgetO (hkeepX W h) m = if nmIn m W = true then hgetO h m else none
  | [] => by simp [hkeepX, hgetO]
  | (k, v) :: l => by
    have ih := hkeepX_get W m l
    simp only [hkeepX]
    by_cases hk : nmbeq k m = true
    · have := nmbeq_eq hk
      subst this
      by_cases hw : nmIn k W = true
      · simp only [hw, if_true, hgetO, hk]
      · simp only [hw] at ih ⊢
        simpa using ih
    · by_cases hw : nmIn k W = true
      · simp only [hw, if_true, hgetO, hk]
        simpa using ih
      · simp only [hw, hgetO, hk]
        simpa using ih
theorem hgetO_mem : ∀ (h : XHp) (m : Nm) (cs : List X), hgetO h m = some cs → (m, cs) ∈ h
  | [], _, _, h => by cases h
  | (k, v) :: l, m, cs, h => by
    simp only [hgetO] at h
    split at h
    · rename_i e; have := nmbeq_eq e; subst this; cases h; exact List.mem_cons_self
    · exact List.mem_cons_of_mem _ (hgetO_mem l m cs h)
def idxNm (m : Nm) : List Nm → Nat → Option Nat
  | [], _ => none
  | k :: l, i => if nmbeq k m = true then some i else idxNm m l (i + 1)
def newsD (n : Nat) (ψ : Nm → Nm) (h1 : XHp) : Nat → List Nm → XDl
  | _, [] => []
  | k, m :: l => match hgetO h1 m with
    | some cs => ((n, k), some (X.renL ψ cs)) :: newsD n ψ h1 (k + 1) l
    | none => newsD n ψ h1 (k + 1) l
def nmPX (n : Nat) (hs : XHp) (m : Nm) : Bool := Nat.beq m.1 n || (hgetO hs m).isSome
/-- All that must hold of what is handed back. -/
def okH (n : Nat) (φ : Nat → Nm) (hs h h1 : XHp) (r r' : X) (d : XDl) : Bool :=
  let p := nmPX n hs
  let h' := hapX d h
  d.all (fun q => p q.1) && (hs.all (fun q => d.any fun e => nmbeq e.1 q.1) && (r'.nms p && (X.beq (r'.ren (nmF n φ)) r &&
    (h'.all (fun q => !p q.1 || (X.nmsL p q.2 && match hgetO h1 (nmF n φ q.1) with | some cs => X.beqL (X.renL (nmF n φ) q.2) cs | none => false)) &&
    h'.all (fun q => !Nat.beq q.1.1 n || (Nat.blt n (φ q.1.2).1 && h'.all fun e => !Nat.beq e.1.1 n || (!nmbeq (φ q.1.2) (φ e.1.2) || Nat.beq q.1.2 e.1.2)))))))
def handX (n : Nat) (W : List Nm) (hs h : XHp) (h1 : XHp) (r : X) : T (X × XDl) :=
  let L := (reachX h1 200 (r.names ++ W) []).filter fun m => !nmIn m W
  let ψ : Nm → Nm := fun m => match idxNm m L 0 with | some k => (n, k) | none => m
  let φ : Nat → Nm := fun k => (L[k]?).getD (n + 1, 0)
  let d : XDl := (W.map fun m => (m, (hgetO h1 m).map (X.renL ψ))) ++ newsD n ψ h1 0 L
  if okH n φ hs h h1 r (r.ren ψ) d = true then .ret (r.ren ψ, d) else .fail ["hand"]
def heapX (c : Cfg) (call : CallF) (n : Nat) (f : Nat) (args : List X) (h : XHp) (Φ : Facts) : T (X × XDl) :=
  match c.ft f with
  | some i =>
    let W := reachX h 200 (X.namesL args) []
    let hs := hkeepX W h
    if (Nat.ble args.length i.ntmps && (X.nmsL (fun k => Nat.blt k.1 n) args && hs.all fun q => Nat.blt q.1.1 n && X.nmsL (fun k => Nat.blt k.1 n) q.2)) = true then
      (joinB (slotsX 0 args) (codeX c.ti call i.ms (n + 1) (c.lp f) c.fuel i.body Φ ⟨slotsX 0 args, hs, n + 1⟩)).bind Φ fun _ p => match p.1 with
        | .exit _ => .fail ["exit"]
        | _ => match resX c.ti p.2 i.results with
          | some vs => handX n W hs h p.2.h (oneX vs)
          | none => .fail ["res"]
    else .fail ["heap"]
  | none => .fail ["table"]
theorem nmP_den (ρ : Rho) (n : Nat) (hs : XHp) : nmPX n hs = nmP n (denH ρ hs) := by
  funext m
  simp only [nmPX, nmP, hget_denO, Option.isSome_map]
  have : Nat.beq m.1 n = (m.1 == n) := by rw [Bool.eq_iff_iff]; simp
  rw [this]
theorem okH_ok {P : Program} {ρ : Rho} {f : FuncId} {fn : Func} {c : Code} {args : List X} {r r' : X} {n : Nat} {W : List Nm} {h h1 : XHp} {d : XDl} {φ : Nat → Nm} (hf : P.funcs[f]? = some fn) (hb : fn.body = some c) (hN : args.length ≤ fn.ntmps)
    (hlt : ((hkeepX W h).all fun q => Nat.blt q.1.1 n && X.nmsL (fun k => Nat.blt k.1 n) q.2) = true) (hA : X.nmsL (fun k => Nat.blt k.1 n) args = true) (hok : okH n φ (hkeepX W h) h h1 r r' d = true)
    (hrun : ∀ E : Aw.Env, E.N = fn.ntmps → AW P E c (fun e σ => (e = .ret ∨ e = .normal) ∧ (resK P σ fn.results.toList fun vs => oneOf vs = r.den ρ) ∧ σ.h = denH ρ h1) ⟨slots 0 (X.denL ρ args), denH ρ (hkeepX W h), n + 1⟩) :
    CY P n f (X.denL ρ args) (denH ρ h) (r'.den ρ) (denD ρ d) := by
  simp only [okH, Bool.and_eq_true, List.all_eq_true, Bool.or_eq_true, Bool.not_eq_true', List.any_eq_true] at hok
  obtain ⟨q1, q2, q3, q4, q5, q6⟩ := hok
  have q4 := X.beq_eq _ _ q4
  have hget' : ∀ m, hget (hap (denD ρ d) (denH ρ h)) m = (hgetO (hapX d h) m).map (denO ρ) := fun m => by rw [← denH_hap, hget_denO]
  have present : ∀ k, (hget (hap (denD ρ d) (denH ρ h)) (n, k)).isSome = true → ∃ cs, ((n, k), cs) ∈ hapX d h := fun k hk => by
    rw [hget', Option.isSome_map] at hk
    obtain ⟨cs, hcs⟩ := Option.isSome_iff_exists.1 hk
    exact ⟨cs, hgetO_mem _ _ _ hcs⟩
  refine CY_heap (hs := denH ρ (hkeepX W h)) φ hf hb (by rw [X.denL_len]; exact hN) (fun m cs hg => ?_) (fun m cs hg => ?_) (X.nmsL_den ρ args hA) (fun m hm => ?_) (fun m hm => ?_) ?_ (fun m cs hg hp => ?_) (fun k hk => ?_) (fun j k hj hk he => ?_) (fun E hE => ?_)
  · rw [hget_denO, hkeepX_get] at hg
    rw [hget_denO]
    split at hg
    · exact hg
    · cases hg
  · rw [hget_denO] at hg
    obtain ⟨cs', h2, rfl⟩ := Option.map_eq_some_iff.1 hg
    have := List.all_eq_true.1 hlt _ (hgetO_mem _ _ _ h2)
    simp only [Bool.and_eq_true, Nat.blt_eq] at this
    exact ⟨this.1, X.nmsO_den ρ _ this.2⟩
  · simp only [denD, List.map_map, List.mem_map] at hm
    obtain ⟨q, hq, rfl⟩ := hm
    have := q1 q hq
    simp only [nmPX, Bool.or_eq_true] at this
    rcases this with h2 | h2
    · exact .inl (Nat.eq_of_beq_eq_true h2)
    · right; rw [hget_denO, Option.isSome_map]; exact h2
  · rw [hget_denO, Option.isSome_map] at hm
    obtain ⟨cs, hcs⟩ := Option.isSome_iff_exists.1 hm
    obtain ⟨e, he, h2⟩ := q2 _ (hgetO_mem _ _ _ hcs)
    simp only [denD, List.map_map, List.mem_map]
    exact ⟨e, he, nmbeq_eq h2⟩
  · rw [← nmP_den]; exact X.nms_den ρ _ q3
  · rw [hget'] at hg
    obtain ⟨cs', h2, rfl⟩ := Option.map_eq_some_iff.1 hg
    rw [← nmP_den] at hp ⊢
    rcases q5 _ (hgetO_mem _ _ _ h2) with h3 | h3
    · rw [hp] at h3; cases h3
    · exact X.nmsO_den ρ _ h3.1
  · obtain ⟨cs, hcs⟩ := present k hk
    rcases q6 _ hcs with h3 | h3
    · simp at h3
    · simpa using h3.1
  · obtain ⟨cs, hcs⟩ := present j hj
    obtain ⟨cs', hcs'⟩ := present k hk
    rcases q6 _ hcs with h3 | h3
    · simp at h3
    · rcases h3.2 _ hcs' with h4 | h4
      · simp at h4
      · rcases h4 with h4 | h4
        · simp only at h4
          rw [he] at h4
          simp [nmbeq] at h4
        · exact Nat.eq_of_beq_eq_true h4
  · refine AW_mono (fun e σ hq => ⟨hq.1, ?_, fun m cs hg hp => ?_⟩) (hrun E hE)
    · rw [← X.ren_den, q4]; exact hq.2.1
    · rw [hget'] at hg
      obtain ⟨cs', h2, rfl⟩ := Option.map_eq_some_iff.1 hg
      rw [← nmP_den] at hp
      rcases q5 _ (hgetO_mem _ _ _ h2) with h3 | h3
      · rw [hp] at h3; cases h3
      · have h4 := h3.2
        simp only at h4
        split at h4
        · rename_i cs'' h5
          have h6 := X.beqL_eq _ _ h4
          rw [hq.2.2, hget_denO, h5, Option.map_some, ← h6, X.renO_den]
        · cases h4
theorem heapX_ok {P : Program} {ρ : Rho} {c : Cfg} (hc : CfgOk P ρ c) {call : CallF} (hcall : CallOk P ρ call) {n : Nat} {f : FuncId} {args : List X} {h : XHp} {Φ : Facts} (hk : Facts.ok ρ Φ) {r : X} {d : XDl} (hs : (heapX c call n f args h Φ).sel ρ = some (r, d)) :
    hasBody P f = true ∧ CY P n f (X.denL ρ args) (denH ρ h) (r.den ρ) (denD ρ d) := by
  unfold heapX at hs
  split at hs
  · rename_i i hi
    have hlp := hc.lp f i hi
    have hi := hc.ft f i hi
    simp only at hs
    split at hs
    · rename_i hc0
      simp only [Bool.and_eq_true] at hc0
      obtain ⟨hl, hA, hlt⟩ := hc0
      obtain ⟨fn, g1, g2, g3, g4, g5, g6⟩ := hi
      refine ⟨g6, ?_⟩
      obtain ⟨Φ', p, hk', h1, h2⟩ := T.sel_bind _ hk hs
      obtain ⟨e, σ'⟩ := p
      obtain ⟨s1, h3, hle⟩ := joinB_ok (codeX_ext i.body Φ ⟨slotsX 0 args, hkeepX (reachX h 200 (X.namesL args) []) h, n + 1⟩) h1
      have hst : (XS.mk (slotsX 0 args) (hkeepX (reachX h 200 (X.namesL args) []) h) (n + 1)).den ρ = ⟨slots 0 (X.denL ρ args), denH ρ (hkeepX (reachX h 200 (X.namesL args) []) h), n + 1⟩ := by simp only [XS.den, slotsX_den]
      have key : ∀ vs, resX c.ti σ' i.results = some vs → (e = .ret ∨ e = .normal) → ∀ E : Aw.Env, E.N = fn.ntmps → AW P E i.body (fun e σ => (e = .ret ∨ e = .normal) ∧ (resK P σ fn.results.toList fun vs' => oneOf vs' = (oneX vs).den ρ) ∧ σ.h = denH ρ σ'.h) ⟨slots 0 (X.denL ρ args), denH ρ (hkeepX (reachX h 200 (X.namesL args) []) h), n + 1⟩ := fun vs hvs he E hE => by
        refine AW_base fun hb => ?_
        have g := codeX_goes (E := E) hc.mixed hc.ti hcall (k0 := n + 1) hb i.body Φ _ e s1 hk (by rw [hE, g4]; exact g5) (by rw [hE, g4]; exact hlp) h3
        unfold Goes at g
        rw [hst] at g
        have g' : AW P E i.body (fun e' s => e' = e.to ∧ s = σ'.den ρ) ⟨slots 0 (X.denL ρ args), denH ρ (hkeepX (reachX h 200 (X.namesL args) []) h), n + 1⟩ := by
          intro a w hr
          exact Code.wp_mono (fun e' a' w' ⟨s, q1, q2, q3⟩ => ⟨σ'.den ρ, (impLe q3 hle) a' w' q1, q2, rfl⟩) (g a w hr)
        refine AW_mono (fun e' s hq => ?_) g'
        obtain ⟨rfl, rfl⟩ := hq
        refine ⟨by rcases he with rfl | rfl <;> simp [XE.to], ?_, rfl⟩
        rw [g3]
        exact resX_den hc.ti hvs (oneX_den ρ vs).symm
      have fin : ∀ vs, resX c.ti σ' i.results = some vs → (e = .ret ∨ e = .normal) → (handX n (reachX h 200 (X.namesL args) []) (hkeepX (reachX h 200 (X.namesL args) []) h) h σ'.h (oneX vs)).sel ρ = some (r, d) → CY P n f (X.denL ρ args) (denH ρ h) (r.den ρ) (denD ρ d) := fun vs hvs he hh => by
        unfold handX at hh
        simp only at hh
        split at hh
        · rename_i hok
          cases hh
          exact okH_ok g1 g2 (by rw [g4]; simpa using hl) hlt hA hok (key vs hvs he)
        · cases hh
      cases e with
      | exit id => cases h2
      | normal =>
        simp only at h2
        split at h2
        · rename_i vs hvs; exact fin vs hvs (.inr rfl) h2
        · cases h2
      | ret =>
        simp only at h2
        split at h2
        · rename_i vs hvs; exact fin vs hvs (.inl rfl) h2
        · cases h2
    · cases hs
  · cases hs
end Go.Proofs.Xw
