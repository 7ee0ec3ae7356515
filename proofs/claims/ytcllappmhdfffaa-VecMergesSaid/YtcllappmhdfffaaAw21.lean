/- The abstract logic, part 21: regions, one known step after the other. -/
import Derived.Test.YtcllappmhdfffaaAw20
namespace Go.Proofs.Aw
open Go

def nextR (P : Program) (n : Nat) (h : Hp) : Res → (AV → Dl → Prop) → Prop
  | .ok r d, K => K r d
  | .call f args, K => callK P n f args h K
  | .no, _ => False
theorem nextR_K {P : Program} {n : Nat} {mu : Bool} {t : Tp} {h : Hp} {op : Op} {K : AV → Dl → Prop} (hk : nextR P n h (stepN P n mu t h op) K) : stepK P n mu op t h K := by
  cases he : stepN P n mu t h op with
  | no => rw [he] at hk; exact hk.elim
  | ok r d => rw [he] at hk; exact stepN_K he hk
  | call f args => rw [he] at hk; exact stepN_call he hk
def guardR (v : AV) (want : Bool) (A B : Prop) : Prop :=
  match v with
  | .sc (.bool true) => match want with | true => A | false => B
  | .sc (.bool false) => match want with | true => B | false => A
  | .sc (.tuple _) => B
  | _ => False
theorem guardR_mono {v : AV} {want : Bool} {A B A' B' : Prop} (hA : A → A') (hB : B → B') (hk : guardR v want A B) : guardR v want A' B' := by
  cases v with
  | sc x => cases x with
    | bool b => cases b <;> cases want <;> first | exact hA hk | exact hB hk
    | tuple xs => exact hB hk
    | _ => exact hk.elim
  | _ => exact hk.elim
theorem guardR_K {v : AV} {want : Bool} {A B A' : Prop} (hA : A → A') (hk : guardR v want A B) : gdK v want A' B := by
  unfold guardR at hk
  unfold gdK
  split at hk
  · cases want <;> simp_all
  · cases want <;> simp_all
  · exact hk
  · exact hk.elim

def AWn (P : Program) (ms : List Nat) (ops : List Oper) : List Oper → (St → Prop) → Tp → Hp → Nat → Prop
  | [], K, t, h, nx => K ⟨t, h, nx⟩
  | o :: l, K, t, h, nx =>
    match o.guard with
    | none => nextR P nx h (stepN P nx (o.dst.any ms.contains) t h o.op) fun r d => AWn P ms ops l K (tput o.dst r t) (hap d h) (nx + 1)
    | some (j, want) => guardR (yv ops t j) want
        (nextR P nx h (stepN P nx (o.dst.any ms.contains) t h o.op) fun r d => AWn P ms ops l K (tput o.dst r t) (hap d h) (nx + 1))
        (AWn P ms ops l K (tput o.dst (.sc undef) t) h nx)
theorem AWn_AWops {P : Program} {ms : List Nat} {ops : List Oper} {K : St → Prop} : ∀ (l : List Oper) (t : Tp) (h : Hp) (nx : Nat), AWn P ms ops l K t h nx → AWops P ms ops l K ⟨t, h, nx⟩
  | [], _, _, _, hk => hk
  | o :: l, t, h, nx, hk => by
    unfold AWn at hk
    unfold AWops
    have go : nextR P nx h (stepN P nx (o.dst.any ms.contains) t h o.op) (fun r d => AWn P ms ops l K (tput o.dst r t) (hap d h) (nx + 1)) → stepK P nx (o.dst.any ms.contains) o.op t h fun r d => AWops P ms ops l K ⟨tput o.dst r t, hap d h, nx + 1⟩ := fun hh => by
      refine nextR_K ?_
      cases he : stepN P nx (o.dst.any ms.contains) t h o.op with
      | no => rw [he] at hh; exact hh.elim
      | ok r d => rw [he] at hh; exact AWn_AWops l _ _ _ hh
      | call f args =>
        rw [he] at hh
        obtain ⟨r, d, h1, h2, h3⟩ := hh
        exact ⟨r, d, h1, h2, AWn_AWops l _ _ _ h3⟩
    cases hg : o.guard with
    | none => rw [hg] at hk; exact go hk
    | some jw =>
      obtain ⟨j, want⟩ := jw
      rw [hg] at hk
      simp only at hk ⊢
      exact guardR_K go (guardR_mono id (AWn_AWops l _ _ _) hk)

/-! ### The same with no continuation in sight -/
def nextA (P : Program) (ms : List Nat) (ops l : List Oper) (K : St → Prop) (dst : Option Tmp) (t : Tp) (h : Hp) (nx : Nat) (res : Res) : Prop := nextR P nx h res fun r d => AWn P ms ops l K (tput dst r t) (hap d h) (nx + 1)
def guardA (P : Program) (ms : List Nat) (ops l : List Oper) (K : St → Prop) (op : Op) (dst : Option Tmp) (mu : Bool) (t : Tp) (h : Hp) (nx : Nat) (want : Bool) (v : AV) : Prop := guardR v want (nextA P ms ops l K dst t h nx (stepN P nx mu t h op)) (AWn P ms ops l K (tput dst (.sc undef) t) h nx)
section
variable {P : Program} {ms : List Nat} {ops l : List Oper} {K : St → Prop} {t : Tp} {h : Hp} {nx : Nat} {dst : Option Tmp} {op : Op} {mu : Bool} {ty : TypeId} {pos : String} {es : Array Edge}
theorem AWn_nil : AWn P ms ops [] K t h nx = K ⟨t, h, nx⟩ := by unfold AWn; exact rfl
theorem AWn_op : AWn P ms ops (⟨dst, op, ty, pos, es, none⟩ :: l) K t h nx = nextA P ms ops l K dst t h nx (stepN P nx (dst.any ms.contains) t h op) := by unfold nextA; exact rfl
theorem AWn_if {j : Nat} {want : Bool} : AWn P ms ops (⟨dst, op, ty, pos, es, some (j, want)⟩ :: l) K t h nx = guardA P ms ops l K op dst (dst.any ms.contains) t h nx want (yv ops t j) := by unfold guardA nextA; exact rfl
theorem nextA_ok {r : AV} {d : Dl} : nextA P ms ops l K dst t h nx (.ok r d) = AWn P ms ops l K (tput dst r t) (hap d h) (nx + 1) := by unfold nextA; exact rfl
theorem nextA_call {f : FuncId} {args : List AV} (r : AV) (d : Dl) (hb : hasBody P f = true) (hc : CY P nx f args h r d) (hk : AWn P ms ops l K (tput dst r t) (hap d h) (nx + 1)) : nextA P ms ops l K dst t h nx (.call f args) := ⟨r, d, hb, hc, hk⟩
theorem guardA_tt : guardA P ms ops l K op dst mu t h nx true (.sc (.bool true)) = nextA P ms ops l K dst t h nx (stepN P nx mu t h op) := by unfold guardA; exact rfl
theorem guardA_ff : guardA P ms ops l K op dst mu t h nx false (.sc (.bool false)) = nextA P ms ops l K dst t h nx (stepN P nx mu t h op) := by unfold guardA; exact rfl
theorem guardA_tf : guardA P ms ops l K op dst mu t h nx true (.sc (.bool false)) = AWn P ms ops l K (tput dst (.sc undef) t) h nx := by unfold guardA; exact rfl
theorem guardA_ft : guardA P ms ops l K op dst mu t h nx false (.sc (.bool true)) = AWn P ms ops l K (tput dst (.sc undef) t) h nx := by unfold guardA; exact rfl
theorem guardA_tup {want : Bool} {xs : Array Value} : guardA P ms ops l K op dst mu t h nx want (.sc (.tuple xs)) = AWn P ms ops l K (tput dst (.sc undef) t) h nx := by unfold guardA; exact rfl
theorem guardA_on {want b : Bool} (h1 : b = true → guardA P ms ops l K op dst mu t h nx want (.sc (.bool b))) (h2 : b = false → guardA P ms ops l K op dst mu t h nx want (.sc (.bool b))) : guardA P ms ops l K op dst mu t h nx want (.sc (.bool b)) := by
  cases hb : b with
  | true => subst hb; exact h1 rfl
  | false => subst hb; exact h2 rfl
end
theorem AW_reg {P : Program} {E : Env} {Q : Exit → St → Prop} {t : Tp} {h : Hp} {nx : Nat} {id : Nat} {ops : List Oper} (ms : List Nat) (hf : fits E.N ops = true) (hk : AWn P ms ops ops (Q .normal) t h nx) : AW P E (.region id ops.toArray false) Q ⟨t, h, nx⟩ := AW_region ms hf (AWn_AWops ops t h nx hk)

/-! ### Drawn regions -/
def DWn (P : Program) (ms : List Nat) (ops : List Oper) (nx : Nat) (t0 : Tp) (h0 : Hp) (K : Tp → Hp → Prop) : List Oper → List En → Nat → Prop
  | [], es, _ => K (tview (fun _ => true) es t0) (hview (fun _ => true) es h0)
  | o :: l, es, bm => ∀ mk, maskE es o.after.toList = mk → (mk < 2 ^ es.length ∧ (bm &&& mk) = bm) ∧
    match o.guard with
    | none => nextR P (nx + es.length) (hview mk.testBit es h0) (stepN P (nx + es.length) (o.dst.any ms.contains) (tview mk.testBit es t0) (hview mk.testBit es h0) o.op) fun r d =>
        if freshD (nx + es.length) d = true then DWn P ms ops nx t0 h0 K l (⟨o.dst, r, d, mk⟩ :: es) bm
        else mk + 1 = 2 ^ es.length ∧ DWn P ms ops nx t0 h0 K l (⟨o.dst, r, d, mk⟩ :: es) (bm ||| 2 ^ es.length)
    | some (j, want) => guardR (yv ops (tview mk.testBit es t0) j) want
        (nextR P (nx + es.length) (hview mk.testBit es h0) (stepN P (nx + es.length) (o.dst.any ms.contains) (tview mk.testBit es t0) (hview mk.testBit es h0) o.op) fun r d =>
          if freshD (nx + es.length) d = true then DWn P ms ops nx t0 h0 K l (⟨o.dst, r, d, mk⟩ :: es) bm
          else mk + 1 = 2 ^ es.length ∧ DWn P ms ops nx t0 h0 K l (⟨o.dst, r, d, mk⟩ :: es) (bm ||| 2 ^ es.length))
        (DWn P ms ops nx t0 h0 K l (⟨o.dst, .sc undef, [], mk⟩ :: es) bm)
theorem nextR_mono {P : Program} {n : Nat} {h : Hp} {res : Res} {K K' : AV → Dl → Prop} (hm : ∀ r d, K r d → K' r d) (hk : nextR P n h res K) : nextR P n h res K' := by
  cases res with
  | no => exact hk
  | ok r d => exact hm r d hk
  | call f args =>
    obtain ⟨r, d, h1, h2, h3⟩ := hk
    exact ⟨r, d, h1, h2, hm r d h3⟩
theorem DWn_DW {P : Program} {ms : List Nat} {ops : List Oper} {nx : Nat} {t0 : Tp} {h0 : Hp} {K : Tp → Hp → Prop} : ∀ (l : List Oper) (es : List En) (bm : Nat), DWn P ms ops nx t0 h0 K l es bm → DW P ms ops nx t0 h0 K l es bm
  | [], _, _, hk => hk
  | o :: l, es, bm, hk => by
    unfold DWn at hk
    unfold DW
    intro mk hmk
    obtain ⟨⟨h1, h2⟩, h3⟩ := hk mk hmk
    refine ⟨h1, h2, ?_⟩
    have goOn : ∀ (r : AV) (d : Dl), (if freshD (nx + es.length) d = true then DWn P ms ops nx t0 h0 K l (⟨o.dst, r, d, mk⟩ :: es) bm
        else mk + 1 = 2 ^ es.length ∧ DWn P ms ops nx t0 h0 K l (⟨o.dst, r, d, mk⟩ :: es) (bm ||| 2 ^ es.length)) → (if freshD (nx + es.length) d = true then DW P ms ops nx t0 h0 K l (⟨o.dst, r, d, mk⟩ :: es) bm
        else mk + 1 = 2 ^ es.length ∧ DW P ms ops nx t0 h0 K l (⟨o.dst, r, d, mk⟩ :: es) (bm ||| 2 ^ es.length)) := fun r d hh => by
      split
      · rename_i hc; rw [if_pos hc] at hh; exact DWn_DW l _ _ hh
      · rename_i hc; rw [if_neg hc] at hh; exact ⟨hh.1, DWn_DW l _ _ hh.2⟩
    cases hg : o.guard with
    | none => rw [hg] at h3; exact nextR_K (nextR_mono goOn h3)
    | some jw =>
      obtain ⟨j, want⟩ := jw
      rw [hg] at h3
      exact guardR_K (fun hh => nextR_K (nextR_mono goOn hh)) (guardR_mono id (DWn_DW l _ _) h3)

def putD (P : Program) (ms : List Nat) (ops : List Oper) (nx : Nat) (t0 : Tp) (h0 : Hp) (K : Tp → Hp → Prop) (l : List Oper) (dst : Option Tmp) (es : List En) (bm mk : Nat) (r : AV) (d : Dl) (fresh : Bool) : Prop :=
  if fresh = true then DWn P ms ops nx t0 h0 K l (⟨dst, r, d, mk⟩ :: es) bm else mk + 1 = 2 ^ es.length ∧ DWn P ms ops nx t0 h0 K l (⟨dst, r, d, mk⟩ :: es) (bm ||| 2 ^ es.length)
def nextD (P : Program) (ms : List Nat) (ops : List Oper) (nx : Nat) (t0 : Tp) (h0 : Hp) (K : Tp → Hp → Prop) (l : List Oper) (dst : Option Tmp) (es : List En) (bm mk k : Nat) (h : Hp) (res : Res) : Prop :=
  nextR P k h res fun r d => putD P ms ops nx t0 h0 K l dst es bm mk r d (freshD k d)
def guardD (P : Program) (ms : List Nat) (ops : List Oper) (nx : Nat) (t0 : Tp) (h0 : Hp) (K : Tp → Hp → Prop) (l : List Oper) (op : Op) (dst : Option Tmp) (mu : Bool) (es : List En) (bm mk k : Nat) (want : Bool) (v : AV) : Prop :=
  guardR v want (nextD P ms ops nx t0 h0 K l dst es bm mk k (hview mk.testBit es h0) (stepN P k mu (tview mk.testBit es t0) (hview mk.testBit es h0) op)) (DWn P ms ops nx t0 h0 K l (⟨dst, .sc undef, [], mk⟩ :: es) bm)
def maskD (P : Program) (ms : List Nat) (ops : List Oper) (nx : Nat) (t0 : Tp) (h0 : Hp) (K : Tp → Hp → Prop) (o : Oper) (l : List Oper) (es : List En) (bm k mk : Nat) : Prop :=
  (mk < 2 ^ es.length ∧ (bm &&& mk) = bm) ∧ match o.guard with
    | none => nextD P ms ops nx t0 h0 K l o.dst es bm mk k (hview mk.testBit es h0) (stepN P k (o.dst.any ms.contains) (tview mk.testBit es t0) (hview mk.testBit es h0) o.op)
    | some (j, want) => guardD P ms ops nx t0 h0 K l o.op o.dst (o.dst.any ms.contains) es bm mk k want (yv ops (tview mk.testBit es t0) j)
section
variable {P : Program} {ms : List Nat} {ops l : List Oper} {nx : Nat} {t0 : Tp} {h0 : Hp} {K : Tp → Hp → Prop} {es : List En} {bm mk k : Nat} {dst : Option Tmp} {op : Op} {mu : Bool} {ty : TypeId} {pos : String} {ed : Array Edge} {o : Oper}
theorem DWn_nil : DWn P ms ops nx t0 h0 K [] es bm = K (tview (fun _ => true) es t0) (hview (fun _ => true) es h0) := by unfold DWn; exact rfl
theorem DWn_cons : DWn P ms ops nx t0 h0 K (o :: l) es bm = maskD P ms ops nx t0 h0 K o l es bm (nx + es.length) (maskE es o.after.toList) := by
  unfold DWn
  refine propext ⟨fun h => h _ rfl, fun h mk hm => ?_⟩
  subst hm; exact h
theorem maskD_op : maskD P ms ops nx t0 h0 K ⟨dst, op, ty, pos, ed, none⟩ l es bm k mk = ((mk < 2 ^ es.length ∧ (bm &&& mk) = bm) ∧ nextD P ms ops nx t0 h0 K l dst es bm mk k (hview mk.testBit es h0) (stepN P k (dst.any ms.contains) (tview mk.testBit es t0) (hview mk.testBit es h0) op)) := by unfold maskD; exact rfl
theorem maskD_if {j : Nat} {want : Bool} : maskD P ms ops nx t0 h0 K ⟨dst, op, ty, pos, ed, some (j, want)⟩ l es bm k mk = ((mk < 2 ^ es.length ∧ (bm &&& mk) = bm) ∧ guardD P ms ops nx t0 h0 K l op dst (dst.any ms.contains) es bm mk k want (yv ops (tview mk.testBit es t0) j)) := by unfold maskD; exact rfl
theorem nextD_ok {h : Hp} {r : AV} {d : Dl} : nextD P ms ops nx t0 h0 K l dst es bm mk k h (.ok r d) = putD P ms ops nx t0 h0 K l dst es bm mk r d (freshD k d) := by unfold nextD; exact rfl
theorem nextD_call {h : Hp} {f : FuncId} {args : List AV} (r : AV) (d : Dl) (hb : hasBody P f = true) (hc : CY P k f args h r d) (hk : putD P ms ops nx t0 h0 K l dst es bm mk r d (freshD k d)) : nextD P ms ops nx t0 h0 K l dst es bm mk k h (.call f args) := ⟨r, d, hb, hc, hk⟩
theorem putD_t {r : AV} {d : Dl} : putD P ms ops nx t0 h0 K l dst es bm mk r d true = DWn P ms ops nx t0 h0 K l (⟨dst, r, d, mk⟩ :: es) bm := by unfold putD; exact rfl
theorem putD_f {r : AV} {d : Dl} : putD P ms ops nx t0 h0 K l dst es bm mk r d false = (mk + 1 = 2 ^ es.length ∧ DWn P ms ops nx t0 h0 K l (⟨dst, r, d, mk⟩ :: es) (bm ||| 2 ^ es.length)) := by unfold putD; exact if_neg (by simp)
theorem guardD_tt : guardD P ms ops nx t0 h0 K l op dst mu es bm mk k true (.sc (.bool true)) = nextD P ms ops nx t0 h0 K l dst es bm mk k (hview mk.testBit es h0) (stepN P k mu (tview mk.testBit es t0) (hview mk.testBit es h0) op) := by unfold guardD; exact rfl
theorem guardD_ff : guardD P ms ops nx t0 h0 K l op dst mu es bm mk k false (.sc (.bool false)) = nextD P ms ops nx t0 h0 K l dst es bm mk k (hview mk.testBit es h0) (stepN P k mu (tview mk.testBit es t0) (hview mk.testBit es h0) op) := by unfold guardD; exact rfl
theorem guardD_tf : guardD P ms ops nx t0 h0 K l op dst mu es bm mk k true (.sc (.bool false)) = DWn P ms ops nx t0 h0 K l (⟨dst, .sc undef, [], mk⟩ :: es) bm := by unfold guardD; exact rfl
theorem guardD_ft : guardD P ms ops nx t0 h0 K l op dst mu es bm mk k false (.sc (.bool true)) = DWn P ms ops nx t0 h0 K l (⟨dst, .sc undef, [], mk⟩ :: es) bm := by unfold guardD; exact rfl
theorem guardD_tup {want : Bool} {xs : Array Value} : guardD P ms ops nx t0 h0 K l op dst mu es bm mk k want (.sc (.tuple xs)) = DWn P ms ops nx t0 h0 K l (⟨dst, .sc undef, [], mk⟩ :: es) bm := by unfold guardD; exact rfl
theorem guardD_on {want b : Bool} (h1 : b = true → guardD P ms ops nx t0 h0 K l op dst mu es bm mk k want (.sc (.bool b))) (h2 : b = false → guardD P ms ops nx t0 h0 K l op dst mu es bm mk k want (.sc (.bool b))) : guardD P ms ops nx t0 h0 K l op dst mu es bm mk k want (.sc (.bool b)) := by
  cases hb : b with
  | true => subst hb; exact h1 rfl
  | false => subst hb; exact h2 rfl
end
theorem AW_drw {P : Program} {E : Env} {Q : Exit → St → Prop} {t : Tp} {h : Hp} {nx : Nat} {id : Nat} {ops : List Oper} (hm : P.follows .mixedOrders = true) (ms : List Nat) (hf : fits E.N ops = true) (ho : once ops = true)
    (hk : DWn P ms ops nx (tdel ops t) h (fun t' h' => Q .normal ⟨t', h', nx + ops.length⟩) ops [] 0) : AW P E (.region id ops.toArray true) Q ⟨t, h, nx⟩ := AW_draw hm ms hf ho (DWn_DW _ _ _ hk)
end Go.Proofs.Aw
