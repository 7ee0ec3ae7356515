/- The abstract logic, part 13: states, what holds of code, and the rules. -/
import Derived.Test.YtcllappmhdfffaaAw12
import Derived.LoopN
namespace Go.Proofs.Aw
open Go

structure St where
  t : Tp
  h : Hp
  nx : Nat
/-- What a function's body is run in: its slots; the world at its start; which blocks of that it may write; which anybody may. -/
structure Env where
  N : Nat
  w0 : World
  wr : Nat → Prop
  mt0 : Nat → Prop
  c0 : Ctx

structure FrameOk (E : Env) (C : Ctx) : Prop where
  os : C.w.os = E.w0.os
  tape : C.w.tape = E.w0.tape
  output : C.w.output = E.w0.output
  size : E.w0.heap.size ≤ C.w.heap.size
  same : ∀ b, b < E.w0.heap.size → ¬ E.wr b → C.w.heap[b]? = E.w0.heap[b]?
  mt : ∀ b, b < E.w0.heap.size → (C.mt b ↔ E.mt0 b)
  wr : ∀ n, C.live n → C.ρ n < E.w0.heap.size → E.wr (C.ρ n)
  le : E.c0.le C

theorem FrameOk.step {E : Env} {C C' : Ctx} {n : Nat} {h : Hp} {r : AV} {d : Dl} {u : Value} (hf : FrameOk E C) (hp : Post C n h r d u C') : FrameOk E C' where
  os := hp.os.trans hf.os
  tape := hp.tape.trans hf.tape
  output := hp.output.trans hf.output
  size := Nat.le_trans hf.size hp.le.size
  same b hb hw := (hp.same b (Nat.lt_of_lt_of_le hb hf.size) (fun m _ hl e => hw (by rw [e]; exact hf.wr m hl (by rw [← e]; exact hb)))).trans (hf.same b hb hw)
  mt b hb := (hp.mt b (Nat.lt_of_lt_of_le hb hf.size)).trans (hf.mt b hb)
  wr m hl hb := by
    rcases hp.orig m hl with ⟨h1, h2⟩ | h1 | ⟨m0, _, h1, h2⟩
    · rw [h2] at hb ⊢; exact hf.wr m h1 hb
    · have := hf.size; omega
    · rw [h2] at hb ⊢; exact hf.wr m0 h1 hb
  le := hf.le.trans hp.le

structure RelC (E : Env) (σ : St) (a : Act) (C : Ctx) : Prop where
  heap : HeapOk C σ.h
  t : TOk C σ.t a
  size : a.tmps.size = E.N
  defers : a.defers = []
  kn : ∀ m, C.kn m → m.1 < σ.nx
  frame : FrameOk E C
def Rel (E : Env) (σ : St) (a : Act) (w : World) : Prop := ∃ C, C.w = w ∧ RelC E σ a C

/-! ### Slots -/
theorem TOk.put {C : Ctx} {t : Tp} {a : Act} {d : Option Tmp} {v : AV} {u : Value} (ht : TOk C t a) (hv : Conc C v u) (hd : ∀ i, d = some i → i < a.tmps.size) : TOk C (tput d v t) (a.put d u) := by
  intro i
  cases d with
  | none => exact ht i
  | some j =>
    simp only [tput, tget, Act.put]
    by_cases hij : j = i
    · subst hij
      rw [if_pos rfl]
      have hj := hd j rfl
      have : (a.tmps.setIfInBounds j u).getD j undef = u := by simp [Array.getD, hj]
      rw [this]; exact hv
    · rw [if_neg hij]
      have : (a.tmps.setIfInBounds j u).getD i undef = a.tmps.getD i undef := by
        simp [Array.getD_eq_getD_getElem?, Array.getElem?_setIfInBounds_ne hij]
      rw [this]; exact ht i
theorem put_size (a : Act) (d : Option Tmp) (u : Value) : (a.put d u).tmps.size = a.tmps.size := by cases d <;> simp [Act.put]
theorem put_defers (a : Act) (d : Option Tmp) (u : Value) : (a.put d u).defers = a.defers := by cases d <;> rfl

theorem RelC.step {E : Env} {σ : St} {a : Act} {C C' : Ctx} {r : AV} {d : Dl} {u : Value} {dst : Option Tmp} (h : RelC E σ a C) (hp : Post C σ.nx σ.h r d u C') (hd : ∀ i, dst = some i → i < E.N) :
    RelC E ⟨tput dst r σ.t, hap d σ.h, σ.nx + 1⟩ (a.put dst u) C' where
  heap := hp.heap
  t := TOk.put (h.t.mono hp.le) hp.val (fun i hi => by rw [h.size]; exact hd i hi)
  size := by rw [put_size]; exact h.size
  defers := by rw [put_defers]; exact h.defers
  kn m hm := by
    rcases (hp.kn m).1 hm with h1 | h1
    · exact Nat.lt_succ_of_lt (h.kn m h1)
    · simp only; omega
  frame := h.frame.step hp
theorem RelC.skip {E : Env} {σ : St} {a : Act} {C : Ctx} {dst : Option Tmp} (h : RelC E σ a C) (hd : ∀ i, dst = some i → i < E.N) : RelC E ⟨tput dst (.sc undef) σ.t, σ.h, σ.nx⟩ (a.put dst undef) C where
  heap := h.heap
  t := TOk.put h.t (by simp only [Conc]) (fun i hi => by rw [h.size]; exact hd i hi)
  size := by rw [put_size]; exact h.size
  defers := by rw [put_defers]; exact h.defers
  kn m hm := h.kn m hm
  frame := h.frame

/-! ### A list of operations, in the order of the text -/
def yv (ops : List Oper) (t : Tp) (j : Nat) : AV :=
  match (ops[j]?).bind (·.dst) with
  | some d => tget t d
  | none => .top
/-- The guard decides: A if the operation is wanted, B if not. -/
def gdK (v : AV) (want : Bool) (A B : Prop) : Prop :=
  match v with
  | .sc (.bool b) => (b = want → A) ∧ (b = !want → B)
  | .sc (.tuple _) => B
  | _ => False
def AWops (P : Program) (ms : List Nat) (ops : List Oper) : List Oper → (St → Prop) → St → Prop
  | [], K, σ => K σ
  | o :: l, K, σ =>
    match o.guard with
    | none => stepK P σ.nx (o.dst.any ms.contains) o.op σ.t σ.h fun r d => AWops P ms ops l K ⟨tput o.dst r σ.t, hap d σ.h, σ.nx + 1⟩
    | some (j, want) => gdK (yv ops σ.t j) want
        (stepK P σ.nx (o.dst.any ms.contains) o.op σ.t σ.h fun r d => AWops P ms ops l K ⟨tput o.dst r σ.t, hap d σ.h, σ.nx + 1⟩)
        (AWops P ms ops l K ⟨tput o.dst (.sc undef) σ.t, σ.h, σ.nx⟩)

/-- All slots that are written are there. -/
def fits (N : Nat) (ops : List Oper) : Bool := ops.all fun o => match o.dst with | some d => Nat.blt d N | none => true
theorem fits_cons {N : Nat} {o : Oper} {l : List Oper} (h : fits N (o :: l) = true) : (∀ i, o.dst = some i → i < N) ∧ fits N l = true := by
  simp only [fits, List.all_cons, Bool.and_eq_true] at h
  refine ⟨fun i hi => ?_, h.2⟩
  have := h.1
  rw [hi] at this
  simpa [Nat.blt_eq] using this

theorem yielded_conc {C : Ctx} {t : Tp} {a : Act} (ht : TOk C t a) (ops : List Oper) (j : Nat) : (∀ b, yv ops t j = .sc (.bool b) → yielded ops.toArray a.tmps j = some b) ∧ (∀ x, yv ops t j = .sc (.tuple x) → yielded ops.toArray a.tmps j = none) := by
  unfold yv yielded
  have e : ops.toArray[j]? = ops[j]? := by simp
  rw [e]
  cases hd : (ops[j]?).bind (·.dst) with
  | none => exact ⟨fun b h => (nomatch h), fun b h => (nomatch h)⟩
  | some d =>
    have hc := ht d
    simp only [Option.bind_some]
    refine ⟨fun b h => ?_, fun x h => ?_⟩
    · rw [h] at hc
      simp only [Conc] at hc
      cases hg : a.tmps[d]? with
      | none => simp [Array.getD_eq_getD_getElem?, hg, undef] at hc
      | some v =>
        have : v = .bool b := by simpa [Array.getD_eq_getD_getElem?, hg] using hc
        rw [this]
    · rw [h] at hc
      simp only [Conc] at hc
      cases hg : a.tmps[d]? with
      | none => rfl
      | some v =>
        have : v = .tuple x := by simpa [Array.getD_eq_getD_getElem?, hg] using hc
        rw [this]

theorem AWops_sound {P : Program} {ms : List Nat} {E : Env} {ops : List Oper} {Q : Exit → Act → World → Prop} {K : St → Prop} (hK : ∀ σ a w, K σ → Rel E σ a w → Q .normal a w) :
    ∀ (l : List Oper) (σ : St) (a : Act) (w : World), fits E.N l = true → AWops P ms ops l K σ → Rel E σ a w → wpList P ops.toArray Q l a w
  | [], σ, a, w, _, h, hr => hK σ a w h hr
  | o :: l, σ, a, w, hfit, h, hr => by
    obtain ⟨hd, hfit'⟩ := fits_cons hfit
    obtain ⟨C, rfl, hC⟩ := hr
    have stepped : ∀ (hk : stepK P σ.nx (o.dst.any ms.contains) o.op σ.t σ.h fun r d => AWops P ms ops l K ⟨tput o.dst r σ.t, hap d σ.h, σ.nx + 1⟩), Region.wanted o (yielded ops.toArray a.tmps) = true → wpList P ops.toArray Q (o :: l) a C.w := by
      intro hk hw
      obtain ⟨r, d, hy, hn⟩ := stepK_sound hk
      unfold wpList
      rw [if_pos hw]
      refine .inl (hy C a o _ _ rfl hC.heap hC.t (fun k hkn => absurd (hC.kn _ hkn) (by simp)) fun u C' hp => ?_)
      exact AWops_sound hK l _ _ _ hfit' hn ⟨C', rfl, hC.step hp hd⟩
    have skipped : AWops P ms ops l K ⟨tput o.dst (.sc undef) σ.t, σ.h, σ.nx⟩ → Region.wanted o (yielded ops.toArray a.tmps) = false → wpList P ops.toArray Q (o :: l) a C.w := by
      intro hk hw
      unfold wpList
      rw [if_neg (by rw [hw]; simp)]
      exact AWops_sound hK l _ _ _ hfit' hk ⟨C, rfl, hC.skip hd⟩
    unfold AWops at h
    cases hg : o.guard with
    | none =>
      rw [hg] at h
      exact stepped h (by simp [Region.wanted, hg])
    | some jw =>
      obtain ⟨j, want⟩ := jw
      rw [hg] at h
      obtain ⟨y1, y2⟩ := yielded_conc hC.t ops j
      simp only at h
      unfold gdK at h
      split at h
      · rename_i b hb
        have hy := y1 b hb
        by_cases hbw : b = want
        · exact stepped (h.1 hbw) (by simp [Region.wanted, hg, hy, hbw])
        · exact skipped (h.2 (by cases b <;> cases want <;> simp_all)) (by simp [Region.wanted, hg, hy, hbw])
      · rename_i x hx
        have hy := y2 x hx
        exact skipped h (by simp [Region.wanted, hg, hy])
      · exact h.elim

/-! ### Code -/
def AW (P : Program) (E : Env) (c : Code) (Q : Exit → St → Prop) (σ : St) : Prop :=
  ∀ a w, Rel E σ a w → c.wp P (fun e a' w' => ∃ σ', Rel E σ' a' w' ∧ Q e σ') a w
def ExThen (next : St → Prop) (Q : Exit → St → Prop) : Exit → St → Prop
  | .normal, σ => next σ
  | e, σ => Q e σ
def ExBlock (id : Nat) (Q : Exit → St → Prop) : Exit → St → Prop
  | .exit j, σ => if j = id then Q .normal σ else Q (.exit j) σ
  | e, σ => Q e σ
/-- One state says no more than another one. -/
def Imp (E : Env) (σ σ' : St) : Prop := ∀ a w, Rel E σ a w → Rel E σ' a w

section
variable {P : Program} {E : Env} {Q : Exit → St → Prop} {σ : St}
theorem AW_imp {c : Code} {σ' : St} (hi : Imp E σ σ') (h : AW P E c Q σ') : AW P E c Q σ := fun a w hr => h a w (hi a w hr)
theorem AW_mono {c : Code} {Q' : Exit → St → Prop} (hq : ∀ e σ, Q e σ → Q' e σ) (h : AW P E c Q σ) : AW P E c Q' σ := fun a w hr => Code.wp_mono (fun _ _ _ ⟨σ', h1, h2⟩ => ⟨σ', h1, hq _ _ h2⟩) (h a w hr)
theorem AW_seq {x y : Code} (h : ∀ K : St → Prop, (∀ σ, AW P E y Q σ → K σ) → AW P E x (ExThen K Q) σ) : AW P E (.seq x y) Q σ := fun a w hr =>
  wp_seq (Code.wp_mono (fun e a' w' ⟨σ', h1, h2⟩ => by
    cases e with
    | normal => exact h2 a' w' h1
    | _ => exact ⟨σ', h1, h2⟩) (h _ (fun _ hh => hh) a w hr))
theorem AW_skip (h : Q .normal σ) : AW P E .skip Q σ := fun _ _ hr => wp_skip ⟨σ, hr, h⟩
theorem AW_label {l : Nat} (h : Q .normal σ) : AW P E (.label l) Q σ := fun _ _ hr => wp_label ⟨σ, hr, h⟩
theorem AW_ret (h : Q .ret σ) : AW P E .ret Q σ := fun _ _ hr => wp_ret ⟨σ, hr, h⟩
theorem AW_exit {id : Nat} (h : Q (.exit id) σ) : AW P E (.exit id) Q σ := fun _ _ hr => wp_exit ⟨σ, hr, h⟩
theorem AW_block {id : Nat} {c : Code} (h : AW P E c (ExBlock id Q) σ) : AW P E (.block id c) Q σ := fun a w hr =>
  wp_block (Code.wp_mono (fun e a' w' ⟨σ', h1, h2⟩ => by
    cases e with
    | exit j =>
      simp only [ExBlock] at h2
      simp only [Exit.inBlock]
      split
      · rename_i hj; rw [if_pos hj] at h2; exact ⟨σ', h1, h2⟩
      · rename_i hj; rw [if_neg hj] at h2; exact ⟨σ', h1, h2⟩
    | _ => exact ⟨σ', h1, h2⟩) (h a w hr))
theorem AW_cond {c : Operand} {x y : Code} {b : Bool} (hc : ev σ.t c = .sc (.bool b)) (h1 : b = true → AW P E x Q σ) (h2 : b = false → AW P E y Q σ) : AW P E (.cond c x y) Q σ := fun a w hr => by
  obtain ⟨C, rfl, hC⟩ := hr
  have he := ev_conc hC.t c
  rw [hc] at he
  simp only [Conc] at he
  refine wp_cond he ?_
  cases b with
  | true => exact h1 rfl a _ ⟨C, rfl, hC⟩
  | false => exact h2 rfl a _ ⟨C, rfl, hC⟩
theorem AW_condT {c : Operand} {x y : Code} (hc : ev σ.t c = .sc (.bool true)) (h : AW P E x Q σ) : AW P E (.cond c x y) Q σ := AW_cond hc (fun _ => h) (fun e => nomatch e)
theorem AW_condF {c : Operand} {x y : Code} (hc : ev σ.t c = .sc (.bool false)) (h : AW P E y Q σ) : AW P E (.cond c x y) Q σ := AW_cond hc (fun e => nomatch e) (fun _ => h)
theorem AW_region {id : Nat} {ops : List Oper} (ms : List Nat) (hf : fits E.N ops = true) (h : AWops P ms ops ops (Q .normal) σ) : AW P E (.region id ops.toArray false) Q σ := fun a w hr =>
  wp_region_lit (AWops_sound (fun σ' _ _ hk hr' => ⟨σ', hr', hk⟩) ops σ a w hf h hr)

/-! ### Loops -/
def AWR (P : Program) (E : Env) (c : Code) (Q : Exit → St → Prop) : Nat → St → Prop
  | 0, _ => False
  | n + 1, σ => AW P E c (ExThen (AWR P E c Q n) Q) σ
theorem AWR_step {c : Code} {n : Nat} (h : AW P E c (ExThen (AWR P E c Q n) Q) σ) : AWR P E c Q (n + 1) σ := h
theorem AWR_sound {c : Code} : ∀ (n : Nat) (σ : St) (a : Act) (w : World), AWR P E c Q n σ → Rel E σ a w → Code.rounds P c (fun e a' w' => ∃ σ', Rel E σ' a' w' ∧ Q e σ') n a w
  | 0, _, _, _, h, _ => h.elim
  | n + 1, σ, a, w, h, hr => by
    rw [rounds_succ]
    refine Code.wp_mono (fun e a' w' ⟨σ', h1, h2⟩ => ?_) (h a w hr)
    cases e with
    | normal => exact AWR_sound n σ' a' w' h2 h1
    | _ => exact ⟨σ', h1, h2⟩
theorem AW_rounds {c : Code} (n : Nat) (h : AWR P E c Q n σ) : AW P E (.loop c) Q σ := fun a w hr => wp_loop_rounds n (AWR_sound n σ a w h hr)
theorem AWR_mono {c : Code} : ∀ (n m : Nat) (σ : St), n ≤ m → AWR P E c Q n σ → AWR P E c Q m σ
  | 0, _, _, _, h => h.elim
  | n + 1, 0, _, hle, _ => by omega
  | n + 1, m + 1, σ, hle, h => AW_mono (fun e σ' hq => by
      cases e with
      | normal => exact AWR_mono n m σ' (by omega) hq
      | _ => exact hq) h
/-- A loop: I k says what holds with at most k rounds more. -/
theorem AW_loop {c : Code} (I : Nat → St → Prop) (k : Nat) (h0 : ∃ σ', Imp E σ σ' ∧ I k σ') (round : ∀ k σ, I k σ → AW P E c (ExThen (fun σ' => ∃ k' σ'', k' < k ∧ Imp E σ' σ'' ∧ I k' σ'') Q) σ) : AW P E (.loop c) Q σ := by
  have key : ∀ (n k : Nat), k ≤ n → ∀ σ, I k σ → AWR P E c Q (n + 1) σ := by
    intro n
    induction n with
    | zero =>
      intro k hk σ hI
      refine AW_mono (fun e σ' hq => ?_) (round k σ hI)
      cases e with
      | normal => obtain ⟨k', _, hlt, _⟩ := hq; omega
      | _ => exact hq
    | succ n ih =>
      intro k hk σ hI
      refine AW_mono (fun e σ' hq => ?_) (round k σ hI)
      cases e with
      | normal =>
        obtain ⟨k', σ'', hlt, hi, hI'⟩ := hq
        exact AW_imp hi (ih k' (by omega) σ'' hI')
      | _ => exact hq
  obtain ⟨σ', hi, hI⟩ := h0
  exact AW_imp hi (AW_rounds (k + 1) (key k k (Nat.le_refl _) σ' hI))
end
end Go.Proofs.Aw
