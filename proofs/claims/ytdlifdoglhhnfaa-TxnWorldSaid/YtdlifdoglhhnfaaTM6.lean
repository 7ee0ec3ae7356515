/- Parts of the proof, one behind the other. -/
import Derived.Test.YtdlifdoglhhnfaaTM5
/- Txn: TxnWorld: a write more. -/
namespace Go.Proofs.Ytdlifdoglhhnfaa
open Go Go.Proofs.Aw Go.Proofs.Xw Go.Proofs.Sr
set_option maxRecDepth 100000
theorem bit_or {b r k : Nat} (hb : b < 8) (hr : r < 3) (hk : k < 3) : bit (orB b r) k = (bit b k || Nat.beq k r) := by
  have := forM (n := 72) (f := fun n => bit (orB (n / 9) (n / 3 % 3)) (n % 3)) (g := fun n => bit (n / 9) (n % 3) || Nat.beq (n % 3) (n / 3 % 3)) (by kernel_rfl) (show 9 * b + 3 * r + k < 72 by omega)
  simp only [show (9 * b + 3 * r + k) / 9 = b by omega, show (9 * b + 3 * r + k) / 3 % 3 = r by omega, show (9 * b + 3 * r + k) % 3 = k by omega] at this
  exact this
theorem or_lt {b r : Nat} (hb : b < 8) (hr : r < 3) : orB b r < 8 ∧ orB b r ≠ 0 := by
  have := forM (n := 24) (f := fun n => Nat.blt (orB (n / 3) (n % 3)) 8 && !Nat.beq (orB (n / 3) (n % 3)) 0) (g := fun _ => true) (by kernel_rfl) (show 3 * b + r < 24 by omega)
  simp only [show (3 * b + r) / 3 = b by omega, show (3 * b + r) % 3 = r by omega, Bool.and_eq_true, Nat.blt_eq] at this
  exact ⟨this.1, fun e => by rw [e] at this; exact absurd this.2 (by decide)⟩
/-- What the letters of rows become. -/
theorem wr_Br {b r k : Nat} (hb : b < 8) (hr : r < 3) (hk : k < 3) : lassoc (411 + k) (wr_B b r).r = if Nat.beq k r = true then some (apW (bit b r) (411 + k) (rwW b r)).2 else if bit b k = true then some (keW (411 + k)).2 else none := by
  have := forM (n := 72) (f := fun n => lassoc (411 + n % 3) (wr_B (n / 9) (n / 3 % 3)).r) (g := fun n => if Nat.beq (n % 3) (n / 3 % 3) = true then some (apW (bit (n / 9) (n / 3 % 3)) (411 + n % 3) (rwW (n / 9) (n / 3 % 3))).2 else if bit (n / 9) (n % 3) = true then some (keW (411 + n % 3)).2 else none) (by kernel_rfl) (show 9 * b + 3 * r + k < 72 by omega)
  simp only [show (9 * b + 3 * r + k) / 9 = b by omega, show (9 * b + 3 * r + k) / 3 % 3 = r by omega, show (9 * b + 3 * r + k) % 3 = k by omega] at this
  exact this
theorem wr_B0 (b r : Nat) : lassoc 410 (wr_B b r).r = some (apW (!Nat.beq b 0) 410 (rwW b r)).2 := by
  unfold wr_B apW
  cases Nat.beq b 0 <;> rfl
theorem rwW_row (ρ : Rho) (b r : Nat) : kcells (scL ρ (rwW b r)) 0 kep = scL ρ (rwW b r) := rfl
theorem apW_t {ρ : Rho} {β : Bind} {b r l c : Nat} (h : lassoc l β.r = some (apW true l (rwW b r)).2) (hc : ρ.len l = c) : (β.ap ρ).len l = c + 1 ∧ ∀ j, rw_ (β.ap ρ) l j = if j < c then rw_ ρ l j else scL ρ (rwW b r) := by
  have h : lassoc l β.r = some (.op .padd .i64 (.len l) (.lit 1), .app (.len l) (.var l kep) (.one (rwW b r))) := h
  refine ⟨?_, fun j => ?_⟩
  · rw [ap_len h]
    show ((ρ.len l : Int) + 1).toNat = _
    rw [hc]; omega
  · rw [ap_row h, app_row ρ hc]
    split
    · exact kc_rw ρ l j
    · exact rwW_row ρ b r
theorem apW_f {ρ : Rho} {β : Bind} {b r l : Nat} (h : lassoc l β.r = some (apW false l (rwW b r)).2) : (β.ap ρ).len l = 1 ∧ ∀ j, rw_ (β.ap ρ) l j = scL ρ (rwW b r) := by
  have h : lassoc l β.r = some (.lit 1, .one (rwW b r)) := h
  exact ⟨ap_len h, fun j => by rw [ap_row h]; exact rwW_row ρ b r⟩
theorem keW_s {ρ : Rho} {β : Bind} {l : Nat} (h : lassoc l β.r = some (keW l).2) : (β.ap ρ).len l = ρ.len l ∧ ∀ j, rw_ (β.ap ρ) l j = rw_ ρ l j := by
  have h : lassoc l β.r = some (.len l, .var l kep) := h
  exact ⟨by rw [ap_len h]; show ((ρ.len l : Int)).toNat = _; omega, fun j => by rw [ap_row h, var_row]; exact kc_rw ρ l j⟩
/-- What a new write stands on. -/
def dpW (ρ : Rho) (b p : Nat) : Int := if b = 0 then 0 else ρ.i (522 + p)
theorem Lr_add {W W' : Nat → List AV} {N r : Nat} (e : ∀ j, j < N → W' j = W j) (k : Nat) (hr : eR (W' N) = r) : Lr W' (N + 1) k = if k = r then Lr W N k ++ [N] else Lr W N k := by
  unfold Lr
  rw [List.range_succ, List.filter_append]
  have : (List.range N).filter (fun j => Nat.beq (eR (W' j)) k) = (List.range N).filter (fun j => Nat.beq (eR (W j)) k) := List.filter_congr fun j hj => by rw [e j (List.mem_range.1 hj)]
  rw [this]
  by_cases q : k = r
  · rw [if_pos q, List.filter_cons_of_pos (by rw [hr, q]; exact Nat.beq_refl r)]; rfl
  · rw [if_neg q, List.filter_cons_of_neg (by rw [hr]; exact fun h => q (Nat.eq_of_beq_eq_true h).symm)]
    simp
theorem AtW.add {ρ : Rho} {b r N d : Nat} {W : Nat → List AV} (h : AtW ρ b N W) (hb : b < 8) (hr : r < 3) (hN : N < 60) (hd : dcE.den ρ = d) (d3 : d < 3) (hg : ρ.i 431 = r) (hv : Vg W N fun x y => dpW ρ b (3 * x + y)) (hge : ∀ j, j < N → eR (W j) = r → GeW W (fun x y => dpW ρ b (3 * x + y)) j) (hs : ∀ j, j < N → eS (W j) ≤ j + 1) :
    ∃ W' : Nat → List AV, AtW ((wr_B b r).ap ρ) (orB b r) (N + 1) W' ∧ (∀ j, j < N → W' j = W j) ∧ eS (W' N) ≤ N + 1 ∧ eR (W' N) = r ∧ eK (W' N) = ρ.cs 1 0 (ρ.i 400).toNat := by
  let W' : Nat → List AV := fun j => if j < N then W j else scL ρ (rwW b r)
  have eo : ∀ j, j < N → W' j = W j := fun j hj => if_pos hj
  have eN : W' N = scL ρ (rwW b r) := if_neg (by omega)
  have c0 : cellI (W' N)[0]? = d := by rw [eN]; exact hd
  have c1 : cellI (W' N)[1]? = r := by rw [eN]; exact hg
  have cK : eK (W' N) = ρ.cs 1 0 (ρ.i 400).toNat := by rw [eN]; rfl
  have cV : ∀ p, p < 9 → cellI (W' N)[9 + p]? = dpW ρ b p := fun p hp => by
    rw [eN]
    have := forM (n := 9) (f := fun p => cellI (scL ρ (rwW b r))[9 + p]?) (g := fun p => (if Nat.beq b 0 = true then .lit 0 else .var (522 + p) : IE).den ρ) (by kernel_rfl) hp
    refine Eq.trans this ?_
    unfold dpW
    by_cases q : b = 0
    · rw [if_pos q, if_pos (by rw [q]; rfl)]; rfl
    · rw [if_neg q, if_neg (fun k => q (Nat.eq_of_beq_eq_true k))]; rfl
  have eDN : eD (W' N) = d := by unfold eD; rw [c0]; rfl
  have eRN : eR (W' N) = r := by unfold eR; rw [c1]; rfl
  have eVN : ∀ x y, x < 3 → y < 3 → eV (W' N) x y = dpW ρ b (3 * x + y) := fun x y hx hy => cV _ (by omega)
  have vb : dpW ρ b (3 * d + r) ≤ N := by
    rcases hv.bd d r d3 hr with q | ⟨i, i1, _, _, i4⟩
    · have q : dpW ρ b (3 * d + r) ≤ 0 := q
      omega
    · have i4 : dpW ρ b (3 * d + r) ≤ eS (W i) := i4
      have := hs i i1
      omega
  have v0 : 0 ≤ dpW ρ b (3 * d + r) := hv.nn d r d3 hr
  have eSN : eS (W' N) = dpW ρ b (3 * d + r) + 1 := by
    unfold eS
    rw [eN]
    show (if Nat.beq b 0 = true then .lit 1 else .op .add .i64 (sqW b r) (.lit 1) : IE).den ρ = _
    by_cases q : b = 0
    · rw [if_pos (by rw [q]; rfl)]
      unfold dpW
      rw [if_pos q]; rfl
    · have q' : ¬ Nat.beq b 0 = true := fun k => q (Nat.eq_of_beq_eq_true k)
      have : (sqW b r).den ρ = dpW ρ b (3 * d + r) := by
        unfold sqW dpW
        rw [if_neg q', if_neg q]
        have hd3 : d = 0 ∨ d = 1 ∨ d = 2 := by omega
        simp only [IE.den, BE.den, hd]
        rcases hd3 with rfl | rfl | rfl
        · simp
        · simp; congr 1; omega
        · simp; congr 1; omega
      rw [if_neg q']
      show IOp.den .add .i64 ((sqW b r).den ρ) 1 = _
      rw [this]
      simp only [IOp.den]
      rw [wrap_id _ (by omega) (by omega)]
  have same : ∀ V, Wd.Bd (fun j => eD (W j)) (fun j => eR (W j)) (fun j => eS (W j)) N V → Wd.Bd (fun j => eD (W' j)) (fun j => eR (W' j)) (fun j => eS (W' j)) N V := fun V h x y hx hy => by
    rcases h x y hx hy with q | ⟨i, i1, i2, i3, i4⟩
    · exact .inl q
    · exact .inr ⟨i, i1, by show eD (W' i) = x; rw [eo i i1]; exact i2, by show eR (W' i) = y; rw [eo i i1]; exact i3, by show V x y ≤ eS (W' i); rw [eo i i1]; exact i4⟩
  have ge' : ∀ i, i < N → GeW W (fun x y => dpW ρ b (3 * x + y)) i → GeW W' (eV (W' N)) i := fun i hi g => by
    refine ⟨fun x y hx hy => ?_, ?_⟩
    · show eV (W' i) x y ≤ eV (W' N) x y
      rw [eo i hi, eVN x y hx hy]; exact g.1 x y hx hy
    · show eS (W' i) ≤ eV (W' N) (eD (W' i)) (eR (W' i))
      rw [eo i hi, eVN _ _ (h.wd.d i hi) (h.wd.r i hi)]; exact g.2
  have wd' : WorldW W' (N + 1) := by
    refine Wd.World.add (WorldW.congr eo h.wd) ?_ ?_ ?_ ?_ ?_ ?_ ?_
    · show eD (W' N) < 3; rw [eDN]; exact d3
    · show eR (W' N) < 3; rw [eRN]; exact hr
    · intro x y hx hy
      show 0 ≤ eV (W' N) x y
      rw [eVN x y hx hy]; exact hv.nn x y hx hy
    · intro i hi hh
      have hh : eS (W' i) ≤ eV (W' N) (eD (W' i)) (eR (W' i)) := hh
      rw [eo i hi, eVN _ _ (h.wd.d i hi) (h.wd.r i hi)] at hh
      exact ge' i hi (hv.cl i hi hh)
    · intro x y hx hy
      show eV (W' N) x y ≤ 0 ∨ _
      rw [eVN x y hx hy]
      exact same _ hv.bd x y hx hy
    · intro i hi e
      have e : eR (W' i) = eR (W' N) := e
      rw [eo i hi, eRN] at e
      exact ge' i hi (hge i hi e)
    · show eS (W' N) = eV (W' N) (eD (W' N)) (eR (W' N)) + 1
      rw [eSN, eDN, eRN, eVN d r d3 hr]
  refine ⟨W', ?_, eo, by omega, eRN, cK⟩
  have all : ((wr_B b r).ap ρ).len 410 = N + 1 ∧ ∀ j, rw_ ((wr_B b r).ap ρ) 410 j = if j < N then rw_ ρ 410 j else scL ρ (rwW b r) := by
    by_cases q : b = 0
    · have N0 := h.b0.1 q
      have := apW_f (ρ := ρ) (b := b) (r := r) (l := 410) (β := wr_B b r) (by rw [wr_B0, q]; rfl)
      exact ⟨by rw [this.1, N0], fun j => by rw [this.2, if_neg (by omega)]⟩
    · have q' : Nat.beq b 0 = false := by
        cases e : Nat.beq b 0 with
        | false => rfl
        | true => exact absurd (Nat.eq_of_beq_eq_true e) q
      exact apW_t (by rw [wr_B0, q']; rfl) (h.n (h.pos q))
  have lr := fun k => Lr_add (r := r) eo k eRN
  refine ⟨fun _ => all.1, fun j hj => ?_, fun j hj => ?_, fun j hj => ?_, wd', ⟨fun e => absurd e (or_lt hb hr).2, fun e => absurd e (by omega)⟩, by omega, fun k hk => ?_, fun k hk q => ?_, fun k hk q m j hm => ?_⟩
  · rw [all.2]
    by_cases q : j < N
    · rw [if_pos q, h.row j q, eo j q]
    · rw [if_neg q]; exact (if_neg q).symm
  · by_cases q : j < N
    · rw [eo j q]; exact h.d0 j q
    · obtain rfl : j = N := by omega
      rw [c0]; omega
  · by_cases q : j < N
    · rw [eo j q]; exact h.d1 j q
    · obtain rfl : j = N := by omega
      rw [c1]; omega
  · rw [bit_or hb hr hk, lr]
    by_cases q : k = r
    · rw [if_pos q, q, Nat.beq_refl, Bool.or_true]; simp
    · have : Nat.beq k r = false := by
        cases e : Nat.beq k r with
        | false => rfl
        | true => exact absurd (Nat.eq_of_beq_eq_true e) q
      rw [if_neg q, this, Bool.or_false]; exact h.lg k hk
  · rw [bit_or hb hr hk] at q
    have B := wr_Br (k := k) hb hr hk
    rw [lr]
    by_cases e : k = r
    · subst e
      rw [if_pos (Nat.beq_refl k)] at B
      rw [if_pos rfl, List.length_append]
      cases qb : bit b k with
      | true =>
        rw [qb] at B
        exact (apW_t B (h.ll k hk qb)).1
      | false =>
        rw [qb] at B
        have : Lr W N k = [] := Classical.byContradiction fun n => by rw [(h.lg k hk).2 n] at qb; cases qb
        rw [this]
        exact (apW_f B).1
    · have e' : Nat.beq k r = false := by
        cases e2 : Nat.beq k r with
        | false => rfl
        | true => exact absurd (Nat.eq_of_beq_eq_true e2) e
      rw [e', Bool.or_false] at q
      rw [e', if_neg (by decide), if_pos q] at B
      rw [if_neg e, (keW_s B).1]
      exact h.ll k hk q
  · rw [bit_or hb hr hk] at q
    have B := wr_Br (k := k) hb hr hk
    rw [lr] at hm
    by_cases e : k = r
    · subst e
      rw [if_pos (Nat.beq_refl k)] at B
      rw [if_pos rfl] at hm
      cases qb : bit b k with
      | true =>
        rw [qb] at B
        rw [(apW_t B (h.ll k hk qb)).2]
        by_cases c : m < (Lr W N k).length
        · rw [if_pos c]
          rw [List.getElem?_append_left c] at hm
          rw [h.lr k hk qb m j hm, eo j (Lr_lt hm).1]
        · rw [if_neg c]
          rw [List.getElem?_append_right (by omega)] at hm
          have : j = N := by
            cases z : m - (Lr W N k).length with
            | zero => rw [z] at hm; simpa using hm.symm
            | succ z' => rw [z] at hm; simp at hm
          rw [this, eN]
      | false =>
        rw [qb] at B
        have : Lr W N k = [] := Classical.byContradiction fun n => by rw [(h.lg k hk).2 n] at qb; cases qb
        rw [this] at hm
        have : j = N := by
          cases m with
          | zero => simpa using hm.symm
          | succ z' => simp at hm
        rw [(apW_f B).2, this, eN]
    · have e' : Nat.beq k r = false := by
        cases e2 : Nat.beq k r with
        | false => rfl
        | true => exact absurd (Nat.eq_of_beq_eq_true e2) e
      rw [e', Bool.or_false] at q
      rw [e', if_neg (by decide), if_pos q] at B
      rw [if_neg e] at hm
      rw [(keW_s B).2, h.lr k hk q m j hm, eo j (Lr_lt hm).1]
end Go.Proofs.Ytdlifdoglhhnfaa

/- Txn: TxnWorld: the loop over the writes. -/
namespace Go.Proofs.Ytdlifdoglhhnfaa
open Go Go.Proofs.Aw Go.Proofs.Xw Go.Proofs.Sr
set_option maxRecDepth 100000
/-- One way out for each number. -/
def chW (f : Nat → XE × XS) (v : Nat) : Nat → Nat → T (XE × XS)
  | 0, k => .ret (f k)
  | n + 1, k => .br (.eq (.var v) (.lit (k : Nat))) (.ret (f k)) (chW f v n (k + 1))
theorem chW_sel (f : Nat → XE × XS) {v b : Nat} {ρ : Rho} (h : ρ.i v = b) : ∀ n k, k ≤ b → b ≤ k + n → (chW f v n k).sel ρ = some (f b)
  | 0, k, h1, h2 => by
    obtain rfl : b = k := by omega
    rfl
  | n + 1, k, h1, h2 => by
    unfold chW
    rw [T.sel]
    by_cases q : b = k
    · subst q
      rw [if_pos (by rw [deq_t]; exact h)]; rfl
    · rw [if_neg (by rw [deq_t]; simp only [IE.den, h]; omega)]
      exact chW_sel f h n (k + 1) (by omega) (by omega)
def wr_out : T (XE × XS) := .br (.var 535) (.ret (.ret, wr_K)) (chW (fun b => (.exit 0, wr_X b)) 536 7 0)
noncomputable def wr : LoopX := ⟨(codeKey wr_c).getD 0, 0, 400, wr_E, noB, [], wr_out⟩
theorem wr_outK {ρ : Rho} (h : ρ.b 535 = true) : wr_out.sel ρ = some (.ret, wr_K) := by
  unfold wr_out; rw [T.sel, if_pos (show (BE.var 535).den ρ = true from h)]; rfl
theorem wr_outX {ρ : Rho} {b : Nat} (hb : b < 8) (h : ρ.b 535 = false) (hi : ρ.i 536 = b) : wr_out.sel ρ = some (.exit 0, wr_X b) := by
  unfold wr_out
  rw [T.sel, if_neg (show ¬ (BE.var 535).den ρ = true from by rw [show (BE.var 535).den ρ = ρ.b 535 from rfl, h]; decide)]
  exact chW_sel _ hi 7 0 (by omega) (by omega)
theorem bit0 {r : Nat} (hr : r < 3) : bit 0 r = false := by
  have : r = 0 ∨ r = 1 ∨ r = 2 := by omega
  rcases this with rfl | rfl | rfl <;> rfl
/-- What is known at the loop's head. -/
structure WR (m : Int) (ρ ρ' : Rho) (b N : Nat) (W : Nat → List AV) : Prop where
  i : ρ'.i 400 = N
  le : N ≤ ρ.len 1
  rg : ρ'.i 401 = m
  at_ : AtW ρ' b N W
  s : ∀ j, j < N → eS (W j) ≤ j + 1
  k : ∀ j, j < N → sec m (pt (eK (W j))) = eR (W j)
def WQ (m : Int) (ρ : Rho) (b : Nat) (ρ' : Rho) : Prop := ρ'.b 535 = true ∨ (ρ'.b 535 = false ∧ ρ'.i 536 = b ∧ b < 8 ∧ ∃ W, WR m ρ ρ' b (ρ.len 1) W)
theorem WR.agree {m : Int} {ρ ρ' ρ1 : Rho} {b N : Nat} {W : Nat → List AV} (h : WR m ρ ρ' b N W) (ag : Agree 414 ρ' ρ1) : WR m ρ ρ1 b N W :=
  ⟨by rw [← ag.i 400 (by decide)]; exact h.i, h.le, by rw [← ag.i 401 (by decide)]; exact h.rg, h.at_.agree ag (by decide), h.s, h.k⟩
theorem log_ok {ρ : Rho} {b N : Nat} {W : Nat → List AV} (h : AtW ρ b N W) : Facts.ok ρ (logF b) := by
  intro p hp
  obtain ⟨r, hr, hp⟩ := List.mem_flatMap.1 hp
  obtain ⟨hr, q⟩ := List.mem_filter.1 hr
  have hr := List.mem_range.1 hr
  have l := h.ll r hr q
  have n := (h.lg r hr).1 q
  have n := List.length_pos_iff.2 n
  have le := Lr_len W N r
  have nb := h.nb
  rcases List.mem_cons.1 hp with rfl | hp
  · show (BE.lt (.lit 0) (.len (411 + r))).den ρ = true
    rw [dlt_t]; simp only [IE.den, l]; omega
  · rcases List.mem_cons.1 hp with rfl | hp
    · show (BE.lt (.lit 60) (.len (411 + r))).den ρ = false
      rw [dlt_f]; simp only [IE.den, l]; omega
    · cases hp
theorem lp0_ok {r : Nat} {ρ : Rho} : ∀ f i, btLook f ftsT = some i → LpsOk Try.prog ρ i.ntmps (lpW 0 r f) i.body := fun f i _ => by
  have : lpW 0 r f = [] := by
    unfold lpW
    split
    · rfl
    · rfl
  rw [this]
  exact LpsOk.nil _ _ _ _
/-- What a write's own round puts. -/
theorem wr_lps {m : Int} {ρ ρ0 : Rho} {b r N : Nat} {W : Nat → List AV} (h : WR m ρ ρ0 b N W) (hb : b < 8) (hr : r < 3) (hg : ρ0.i 431 = r) (hn : 0 ≤ nrE.den ρ0 ∧ nrE.den ρ0 ≤ 10) :
    ∃ ρ1, Agree 432 ρ0 ρ1 ∧ (Vg W N fun x y => dpW ρ1 b (3 * x + y)) ∧ (∀ j, j < N → eR (W j) = r → GeW W (fun x y => dpW ρ1 b (3 * x + y)) j) ∧ ∀ f i, btLook f ftsT = some i → LpsOk Try.prog ρ1 i.ntmps (lpW b r f) i.body := by
  by_cases h0 : b = 0
  · have N0 := h.at_.b0.1 h0
    refine ⟨ρ0, Agree.refl _ _, Vg.zero h.at_.wd fun x y _ _ => if_pos h0, fun j hj => absurd hj (by omega), ?_⟩
    rw [h0]; exact lp0_ok
  · obtain ⟨ρa, aa, va, lA⟩ := la_ok h.at_ hb h0 hn
    have ga : ρa.i 431 = r := by rw [← aa.i 431 (by decide)]; exact hg
    have ha := h.at_.agree aa (by decide)
    have b0 : Nat.beq b 0 = false := by
      cases e : Nat.beq b 0 with
      | false => rfl
      | true => exact absurd (Nat.eq_of_beq_eq_true e) h0
    have la3 : (la b).S.bel 480 = true ∧ (la b).out.belX 480 = true := by
      have := forM (n := 8) (f := fun b => (la b).S.bel 480 && (la b).out.belX 480) (g := fun _ => true) (by kernel_rfl) hb
      simp only [Bool.and_eq_true] at this
      exact this
    have lb3 : (lb b).S.bel 520 = true ∧ (lb b).out.belX 520 = true := by
      have := forM (n := 8) (f := fun b => (lb b).S.bel 520 && (lb b).out.belX 520) (g := fun _ => true) (by kernel_rfl) hb
      simp only [Bool.and_eq_true] at this
      exact this
    cases q : bit b r with
    | true =>
      obtain ⟨ρb, ab, ⟨vb, gb⟩, lb'⟩ := lb_ok ha hb hr q ga va
      obtain ⟨ρc, ac, vc, lc'⟩ := lc_ok false (ha.agree ab (by decide)) hb h0
      have ev : ∀ x y, x < 3 → y < 3 → dpW ρc b (3 * x + y) = vA ρb 490 x y := fun x y hx hy => by
        unfold dpW
        rw [if_neg h0]
        exact vc _ (by omega)
      refine ⟨ρc, (aa.le (by decide)).trans ((ab.le (by decide)).trans (ac.le (by decide))), vb.same h.at_.wd ev, fun j hj e => ?_, ?_⟩
      · exact (gb j hj e).mono (h.at_.wd.d j hj) (h.at_.wd.r j hj) fun x y hx hy => Int.le_of_eq (ev x y hx hy).symm
      · exact lpW_ok b0 (LoopOk.agree la3.1 rfl la3.2 (ab.trans (ac.le (by decide))) lA) (fun _ => LoopOk.agree lb3.1 rfl lb3.2 (show Agree 520 ρb ρc from ac) lb') (by rw [q]; exact lc')
    | false =>
      obtain ⟨ρc, ac, vc, lc'⟩ := lc_ok true ha hb h0
      have ev : ∀ x y, x < 3 → y < 3 → dpW ρc b (3 * x + y) = vA ρa 450 x y := fun x y hx hy => by
        unfold dpW
        rw [if_neg h0]
        exact vc _ (by omega)
      refine ⟨ρc, (aa.le (by decide)).trans (ac.le (by decide)), va.same h.at_.wd ev, fun j hj e => ?_, ?_⟩
      · have : Lr W N r = [] := Classical.byContradiction fun n => by rw [(h.at_.lg r hr).2 n] at q; cases q
        have hm : j ∈ Lr W N r := Lr_mem.2 ⟨hj, e⟩
        rw [this] at hm; cases hm
      · exact lpW_ok b0 (LoopOk.agree la3.1 rfl la3.2 (ac.le (by decide)) lA) (fun k => by rw [q] at k; cases k) (by rw [q]; exact lc')
theorem wr_ok (ρ : Rho) (hl : ρ.len 1 ≤ 60) (hn : ∀ j, 0 ≤ ρ.ci 1 1002 j) : ∃ b ρf, Agree 400 ρ ρf ∧ WQ ((wr_I.ap ρ).i 401) ρ b ρf ∧ LoopOk Try.prog ρf Try.f6.ntmps wr_c wr := by
  generalize hm : (wr_I.ap ρ).i 401 = m
  have m13 : 1 ≤ m ∧ m ≤ 3 := by
    obtain ⟨j, h1, h2⟩ := rem_rng (ρ.i 0) 3 (by decide) (by decide)
    have : m = IOp.den .add .i64 1 (IOp.den .rem .i64 (IOp.den .add .i64 (IOp.den .rem .i64 (ρ.i 0) 3) 3) 3) := hm.symm
    rw [h1] at this
    simp only [IOp.den] at this
    rw [wrap_id _ (by omega) (by omega)] at this
    omega
  have a0 : Agree 400 ρ (wr_I.ap ρ) := Bind.agree (by kernel_rfl) ρ
  refine loopOk_famE (L := wr) (N := Try.f6.ntmps) (body := wr_c) (P := Try.prog) rfl wr_Eb wr_S (fun b ρ' => b < 8 ∧ Agree 400 ρ ρ' ∧ ∃ N W, WR m ρ ρ' b N W) (WQ m ρ) (fun _ ρ' => (ρ.len 1 - ρ'.i 400).toNat) ?_
    ⟨0, wr_I.ap ρ, a0, ⟨by decide, a0, 0, fun _ => [], ⟨rfl, Nat.zero_le _, hm, ⟨fun h => absurd h (by decide), fun j hj => absurd hj (by omega), fun j hj => absurd hj (by omega), fun j hj => absurd hj (by omega), Wd.World.zero, Iff.rfl.trans (by simp), by decide, fun r hr => by rw [bit0 hr]; simp [Lr], fun r hr q => (by rw [bit0 hr] at q; cases q), fun r hr q => (by rw [bit0 hr] at q; cases q)⟩, fun j hj => absurd hj (by omega), fun j hj => absurd hj (by omega)⟩⟩, fun E _ hE => okS_imp hE wr_Ib ρ⟩
  rintro b ρ' ⟨hb, ag, N, W, h⟩
  have l' : ρ'.len 1 = ρ.len 1 := (ag.len 1 (by decide)).symm
  have eb := forB wr_ent hb
  simp only [Bool.and_eq_true] at eb
  have w0 : ∀ {ρ1 : Rho}, Agree 414 ρ' ρ1 → Facts.ok ρ1 w0F := fun {ρ1} a => Facts.ok_cons (by rw [dlt_f]; simp only [IE.den]; rw [← a.len 1 (by decide), l']; omega) (Facts.ok_cons (by rw [dlt_f]; simp only [IE.den]; rw [← a.i 400 (by decide), h.i]; omega) (Facts.ok_nil _))
  have ein : ∀ {ρ1 : Rho}, Agree 414 ρ' ρ1 → inW.den ρ1 = decide (N < ρ.len 1) := fun {ρ1} a => by
    show decide (ρ1.i 400 < (ρ1.len 1 : Int)) = _
    rw [← a.i 400 (by decide), ← a.len 1 (by decide), h.i, l']
    exact decide_eq_decide.2 (by omega)
  have esz : ∀ {ρ1 : Rho}, Agree 414 ρ' ρ1 → szW.den ρ1 = ((ρ'.cs 1 0 N).size : Int) := fun {ρ1} a => by
    show ((ρ1.cs 1 0 (ρ1.i 400).toNat).size : Int) = _
    rw [← a.cs 1 (by decide), ← a.i 400 (by decide), h.i]; rfl
  have enr : ∀ {ρ1 : Rho}, Agree 414 ρ' ρ1 → nrE.den ρ1 = ρ'.ci 1 1002 N := fun {ρ1} a => by
    show ρ1.ci 1 1002 (ρ1.i 400).toNat = _
    rw [← a.ci 1 (by decide), ← a.i 400 (by decide), h.i]; rfl
  have nr0 : 0 ≤ ρ'.ci 1 1002 N := by rw [← ag.ci 1 (by decide)]; exact hn N
  have aK : Agree 535 ρ' (putB ρ' 535 true) := putB_agree ρ' (Nat.le_refl _)
  by_cases c : N < ρ.len 1
  · have cin : ∀ {ρ1 : Rho}, Agree 414 ρ' ρ1 → inW.den ρ1 = true := fun a => by rw [ein a]; exact decide_eq_true c
    by_cases s1 : (ρ'.cs 1 0 N).size < 1
    · refine .inl ⟨putB ρ' 535 true, aK.le (show 400 ≤ 535 by decide), .inl rfl, XS.bel_den (aK.le (by decide)) _ eb.1, ?_⟩
      exact endW (forB wr_bad1 hb) wr_fit (cN_ok _) (LpsOk.nil _ _ _ _) (Facts.ok_cons (cin (aK.le (by decide))) (Facts.ok_cons (by rw [dlt_t, esz (aK.le (by decide))]; simp only [IE.den]; omega) (w0 (aK.le (by decide))))) (wr_outK rfl)
    by_cases s2 : 16 < (ρ'.cs 1 0 N).size
    · refine .inl ⟨putB ρ' 535 true, aK.le (show 400 ≤ 535 by decide), .inl rfl, XS.bel_den (aK.le (by decide)) _ eb.1, ?_⟩
      exact endW (forB wr_bad2 hb) wr_fit (cN_ok _) (LpsOk.nil _ _ _ _) (Facts.ok_cons (cin (aK.le (by decide))) (Facts.ok_cons (by rw [dlt_f, esz (aK.le (by decide))]; simp only [IE.den]; omega) (Facts.ok_cons (by rw [dlt_t, esz (aK.le (by decide))]; simp only [IE.den]; omega) (w0 (aK.le (by decide)))))) (wr_outK rfl)
    by_cases s3 : 10 < ρ'.ci 1 1002 N
    · refine .inl ⟨putB ρ' 535 true, aK.le (show 400 ≤ 535 by decide), .inl rfl, XS.bel_den (aK.le (by decide)) _ eb.1, ?_⟩
      exact endW (forB wr_bad3 hb) wr_fit (cN_ok _) (LpsOk.nil _ _ _ _) (Facts.ok_cons (cin (aK.le (by decide))) (Facts.ok_cons (by rw [dlt_f, esz (aK.le (by decide))]; simp only [IE.den]; omega) (Facts.ok_cons (by rw [dlt_f, esz (aK.le (by decide))]; simp only [IE.den]; omega) (Facts.ok_cons (by rw [dlt_t, enr (aK.le (by decide))]; simp only [IE.den]; omega) (Facts.ok_cons (by rw [dlt_f, enr (aK.le (by decide))]; simp only [IE.den]; omega) (w0 (aK.le (by decide)))))))) (wr_outK rfl)
    · obtain ⟨r, hr⟩ : ∃ r : Nat, sec m (pt (ρ'.cs 1 0 N)) = r := ⟨_, (Int.toNat_of_nonneg (sec_b m _ m13).1).symm⟩
      have hr3 : r < 3 := by have := (sec_b m (pt (ρ'.cs 1 0 N)) m13).2; omega
      have ag0 : Agree 431 ρ' (putI ρ' [(431, (r : Int))]) := putI_agree ρ' rfl
      have g0 : (putI ρ' [(431, (r : Int))]).i 431 = r := rfl
      generalize putI ρ' [(431, (r : Int))] = ρ0 at ag0 g0
      obtain ⟨ρ1, a1, v1, ge1, lp1⟩ := wr_lps (h.agree (ag0.le (by decide))) hb hr3 g0 (by rw [enr (ag0.le (by decide))]; omega)
      have a01 : Agree 431 ρ' ρ1 := ag0.trans (a1.le (by decide))
      have a01' : Agree 414 ρ' ρ1 := a01.le (by decide)
      have g1 : ρ1.i 431 = r := by rw [← a1.i 431 (by decide)]; exact g0
      have h1 := h.agree a01'
      obtain ⟨d, ed, d3⟩ : ∃ d : Nat, dcE.den ρ1 = d ∧ d < 3 := by
        obtain ⟨j, q1, q2⟩ := rem_rng ((IE.cl 1 1 (.var 400)).den ρ1) 3 (by decide) (by decide)
        exact ⟨j, q1, by omega⟩
      have cok : CfgOk Try.prog ρ1 (cfgL [kW] (lpW b r)) := cfgL_ok (List.forall_mem_cons.2 ⟨by
        have e : X.denL ρ1 kW.2.1 = [.sc (.string (ρ'.cs 1 0 N)), .sc (.int .i64 m)] := by
          show [AV.sc (.string (ρ1.cs 1 0 (ρ1.i 400).toNat)), AV.sc (.int .i64 (ρ1.i 401))] = _
          rw [h1.i, h1.rg, ← a01'.cs 1 (by decide)]; rfl
        have e2 : X.den ρ1 kW.2.2 = .sc (.int .i64 (sec m (pt (ρ'.cs 1 0 N)))) := by
          show AV.sc (.int .i64 (ρ1.i 431)) = _
          rw [g1, hr]
        rw [e, e2]
        exact of_cy _ (by omega) m m13, List.forall_mem_nil _⟩) lp1
      obtain ⟨W', hW, eo, es, er, ek⟩ := h1.at_.add hb hr3 (by omega) ed d3 g1 v1 ge1 h1.s
      have a2 : Agree 400 ρ1 ((wr_B b r).ap ρ1) := Bind.agree (by
        have := forM (n := 24) (f := fun n => (wr_B (n / 3) (n % 3)).ge 400) (g := fun _ => true) (by kernel_rfl) (show 3 * b + r < 24 by omega)
        simp only [show (3 * b + r) / 3 = b by omega, show (3 * b + r) % 3 = r by omega] at this
        exact this) ρ1
      have up : ((wr_B b r).ap ρ1).i 400 = ((N + 1 : Nat) : Int) := inc h1.i (by omega)
      have go := forB wr_go (b := 3 * b + r) (by omega)
      simp only [show (3 * b + r) / 3 = b by omega, show (3 * b + r) % 3 = r by omega] at go
      have fs : Facts.ok ρ1 (wr_F b r) := by
        refine Facts.ok_cons (by show (BE.eq (.var 431) (.lit r)).den ρ1 = true; rw [deq_t]; exact g1) (all_ok ?_ (all_ok (all_ok (w0 a01') (Facts.ok_cons (cin a01') ?_)) (all_ok (al_ok h1.at_) (log_ok h1.at_))))
        · exact Facts.ok_cons (by rw [dlt_f, ed]; simp only [IE.den]; omega) (Facts.ok_cons (by rw [dlt_t, ed]; simp only [IE.den]; omega) (Facts.ok_nil _))
        · exact Facts.ok_cons (by rw [dlt_f, esz a01']; simp only [IE.den]; omega) (Facts.ok_cons (by rw [dlt_f, esz a01']; simp only [IE.den]; omega) (Facts.ok_cons (by rw [dlt_f, enr a01']; simp only [IE.den]; omega) (Facts.ok_cons (by rw [dlt_f, enr a01']; simp only [IE.den]; omega) (Facts.ok_cons (by rw [dlt_f]; simp only [IE.den, g1]; omega) (Facts.ok_cons (by rw [dlt_f]; simp only [IE.den, g1]; omega) (Facts.ok_nil _))))))
      refine .inr ⟨orB b r, (wr_B b r).ap ρ1, goW go wr_fit (XS.bel_den a01' _ eb.1) cok (LpsOk.nil _ _ _ _) fs, ⟨(or_lt hb hr3).1, ag.trans ((a01.le (by decide)).trans a2), N + 1, W', up, c, h1.rg, hW, fun j hj => ?_, fun j hj => ?_⟩, ?_, (a01.le (show 400 ≤ 431 by decide)).trans a2⟩
      · by_cases q : j < N
        · rw [eo j q]; exact h.s j q
        · obtain rfl : j = N := by omega
          exact es
      · by_cases q : j < N
        · rw [eo j q]; exact h.k j q
        · obtain rfl : j = N := by omega
          rw [er, ek, h1.i, ← a01'.cs 1 (by decide)]
          exact hr
      · show (ρ.len 1 - _ : Int).toNat < (ρ.len 1 - _ : Int).toNat
        rw [up, h.i]; omega
  · obtain rfl : N = ρ.len 1 := by have := h.le; omega
    have aX : Agree 535 ρ' (putB (putI ρ' [(536, (b : Int))]) 535 false) := (putI_agree (n := 535) ρ' (v := [(536, (b : Int))]) rfl).trans (putB_agree _ (Nat.le_refl _))
    refine .inl ⟨putB (putI ρ' [(536, (b : Int))]) 535 false, aX.le (show 400 ≤ 535 by decide), .inr ⟨rfl, rfl, hb, W, h.agree (aX.le (by decide))⟩, XS.bel_den (aX.le (by decide)) _ eb.1, ?_⟩
    exact endW (forB wr_end hb) wr_fit (cN_ok _) (LpsOk.nil _ _ _ _) (Facts.ok_cons (by rw [ein (aX.le (by decide))]; exact decide_eq_false c) (w0 (aX.le (by decide)))) (wr_outX hb rfl rfl)
end Go.Proofs.Ytdlifdoglhhnfaa

/- Txn: TxnWorld: how far a range's writes go; the greatest of some. -/
namespace Go.Proofs.Ytdlifdoglhhnfaa
open Go Go.Proofs.Aw Go.Proofs.Xw Go.Proofs.Sr
set_option maxRecDepth 100000
noncomputable def lpO (f : Nat) (L : LoopX) (g : Nat) : List LoopX := if Nat.beq g f = true then [L] else []
theorem lpO_ok {ρ : Rho} {f k : Nat} {fn : Func} {c : Code} {L : LoopX} (hf : Try.prog.funcs[f]? = some fn) (ho : othersB [L] [k] 0 (loopsOf (fn.body.getD .skip)) = true) (hc : (loopsOf (fn.body.getD .skip))[k]?.getD .skip = c) (hl : lookL (codeKey c) [L] = [L]) (h : LoopOk Try.prog ρ fn.ntmps c L) : ∀ g i, btLook g ftsT = some i → LpsOk Try.prog ρ i.ntmps (lpO f L g) i.body := by
  intro g i hi
  have hi := fts_ok (g, i) (bt_of_mem _ _ (btLook_mem hi))
  unfold lpO
  split
  · rename_i hg
    obtain rfl := Nat.eq_of_beq_eq_true hg
    refine lps_row hi hf (lps_idx [k] ho (List.forall_mem_cons.2 ⟨?_, List.forall_mem_nil _⟩))
    rw [hc]
    exact look_list hl (List.forall_mem_cons.2 ⟨h, List.forall_mem_nil _⟩)
  · exact LpsOk.nil _ _ _ _
/-! ### Rows, as letters -/
def Kw (e : List AV) : Prop := kcells e 0 kep = e
def rhW (n : Nat) (W : Nat → List AV) (r : Nat → Int) (x : ByteArray) : Rho := ⟨r, fun _ => false, fun _ => x, fun _ => n, fun _ k j => cellI (W j)[k]?, fun _ k j => cellB (W j)[k]?, fun _ k j => cellS (W j)[k]?⟩
theorem rhW_k (n : Nat) (W : Nat → List AV) (r : Nat → Int) (x : ByteArray) (l j : Nat) : ∀ (ks : List Kd) (k : Nat), cellsV (rhW n W r x) l k ks j = kcells (W j) k ks
  | [], _ => rfl
  | .i K :: ks, k => by simp only [cellsV, kcells, kcell, rhW_k n W r x l j ks (k + 1)]; rfl
  | .b :: ks, k => by simp only [cellsV, kcells, kcell, rhW_k n W r x l j ks (k + 1)]; rfl
  | .s :: ks, k => by simp only [cellsV, kcells, kcell, rhW_k n W r x l j ks (k + 1)]; rfl
theorem rhW_row {n : Nat} {W : Nat → List AV} {r : Nat → Int} {x : ByteArray} (l : Nat) {j : Nat} (h : Kw (W j)) : rw_ (rhW n W r x) l j = W j := (rhW_k n W r x l j kep 0).trans h
def roR (n : Nat) (W : Nat → List AV) : AV := .ro 20 ((List.range n).map W) false
def rlW (l : Nat) : X := .rl 20 (.len l) (.var l kep) false
theorem rlW_den {ρ : Rho} {l n : Nat} {W : Nat → List AV} (hn : ρ.len l = n) (h : ∀ j, j < n → rw_ ρ l j = W j) : X.den ρ (rlW l) = roR n W := by
  show AV.ro 20 (rowsD ρ (.len l) (.var l kep)) false = _
  unfold roR rowsD
  simp only [IE.den, Int.toNat_natCast, hn]
  congr 1
  exact List.map_congr_left fun j hj => (var_row ρ l j).trans (h j (List.mem_range.1 hj))
/-! ### Column -/
def coX (n : Nat) (i : IE) (c : List X) : XS := ⟨[(10, .sc (.i .i64 i)), (9, .sc (.i .i64 (.len 601))), (8, rlW 601), (5, .ptr (1, 0) [] 0), (4, .ptr (0, 0) [] 0), (0, xi 600), (1, rlW 601)], [((0, 0), List.replicate 3 (.sc (.i .i64 (.lit 0)))), ((1, 0), c)], n⟩
def co_E : XS := coX 5 (.lit 0) (List.replicate 3 (.sc (.i .i64 (.lit 0))))
def co_S : XS := coX 5 (.var 610) (vi 611 3)
noncomputable def co_c : Code := (loopsOf (Try.f48.body.getD .skip))[0]?.getD .skip
noncomputable def co : LoopX := ⟨(codeKey co_c).getD 0, 0, 610, co_E, noB, [], .ret (.exit 0, co_S)⟩
def co_I : Bind := ⟨[(610, .lit 0), (611, .lit 0), (612, .lit 0), (613, .lit 0)], [], [], []⟩
def co_B (d : Nat) : Bind := ⟨(610, .op .add .i64 (.var 610) (.lit 1)) :: (List.range 3).map fun k => (611 + k, if Nat.beq k d = true then .op .max .i64 (.var (611 + k)) (.cl 601 2 (.var 610)) else .var (611 + k)), [], [], []⟩
def inO : BE := .lt (.var 610) (.len 601)
def co_F (d : Nat) : Facts := [(inO, true), (.eq (.cl 601 1 (.var 610)) (.var 600), true), (.eq (.cl 601 0 (.var 610)) (.lit d), true), (.lt (.var 600) (.lit 0), false), (.lt (.lit 2) (.var 600), false), (.lt (.var 610) (.lit 0), false), (.lt (.lit 60) (.len 601), false)]
theorem co_go : ((List.range 3).all fun d => goB 0 610 (co_B d) [] co_S (runW [] (fun _ => []) 48 0 [] co_c (co_S.t.map (·.1)) (co_F d) co_S)) = true := by kernel_rfl
theorem co_end : endB 0 (.exit 0) co_S (runW [] (fun _ => []) 48 0 [] co_c (co_S.t.map (·.1)) [(inO, false)] co_S) = true := by kernel_rfl
theorem co_ent : okS 0 610 co_I [] co_S co_E = true := by kernel_rfl
theorem co_Eb : co_E.bel 610 = true := by kernel_rfl
theorem co_fit : fitsC Try.f48.ntmps co_c = true := by kernel_rfl
theorem coR : askF ⟨cfgL [] (lpO 48 co), [], []⟩ 48 [xi 600, rlW 601] [] = .ret (.agg (vi 611 3)) := by kernel_rfl
theorem co_o : othersB [co] [0] 0 (loopsOf (Try.f48.body.getD .skip)) = true := by kernel_rfl
/-- How far the writes of a row go, by datacenter. -/
structure Col (W : Nat → List AV) (n : Nat) (c : Nat → Int) : Prop where
  nn : ∀ x, x < 3 → 0 ≤ c x
  ge : ∀ j, j < n → eS (W j) ≤ c (eD (W j))
  at_ : ∀ x, x < 3 → c x = 0 ∨ ∃ j, j < n ∧ eD (W j) = x ∧ c x = eS (W j)
theorem co_ok {ρ : Rho} {r n : Nat} {W : Nat → List AV} (hr : ρ.i 600 = r) (r3 : r < 3) (hn : ρ.len 601 = n) (n60 : n ≤ 60) (hw : ∀ j, j < n → rw_ ρ 601 j = W j) (h0 : ∀ j, j < n → 0 ≤ cellI (W j)[0]? ∧ cellI (W j)[0]? < 3) (h1 : ∀ j, j < n → cellI (W j)[1]? = r) : ∃ ρf, Agree 610 ρ ρf ∧ Col W n (fun x => ρf.i (611 + x)) ∧ LoopOk Try.prog ρf Try.f48.ntmps co_c co := by
  suffices hh : ∃ (_ : Nat) (ρf : Rho), Agree co.n ρ ρf ∧ Col W n (fun x => ρf.i (611 + x)) ∧ LoopOk Try.prog ρf Try.f48.ntmps co_c co by
    obtain ⟨_, ρf, h1, h2, h3⟩ := hh
    exact ⟨ρf, h1, h2, h3⟩
  have a0 : Agree 610 ρ (co_I.ap ρ) := Bind.agree (by kernel_rfl) ρ
  refine loopOk_famE (L := co) (N := Try.f48.ntmps) (body := co_c) (P := Try.prog) rfl co_Eb (fun _ => co_S) (fun _ ρ' => Agree 610 ρ ρ' ∧ ∃ i : Nat, ρ'.i 610 = i ∧ i ≤ n ∧ Col W i (fun x => ρ'.i (611 + x))) (fun _ ρ' => Col W n (fun x => ρ'.i (611 + x))) (fun _ ρ' => (n - ρ'.i 610).toNat) ?_
    ⟨0, co_I.ap ρ, a0, ⟨a0, 0, rfl, Nat.zero_le _, ?_⟩, fun E _ hE => okS_imp hE co_ent ρ⟩
  · rintro _ ρ' ⟨ag, i, hi, hin, hc⟩
    have hr' : ρ'.i 600 = r := by rw [← ag.i 600 (by decide)]; exact hr
    have hn' : ρ'.len 601 = n := by rw [← ag.len 601 (by decide)]; exact hn
    by_cases c : i < n
    · have hwi : rw_ ρ' 601 i = W i := by rw [rw_agree ag (by decide)]; exact hw i c
      have ci : ∀ k, k < 20 → k < 6 ∨ 9 ≤ k → (IE.cl 601 k (.var 610)).den ρ' = cellI (W i)[k]? := fun k h1 h2 => by
        rw [← hwi, rw_ci _ _ _ k h1 h2]; exact cl_i hi
      have hd : cellI (W i)[0]? = (eD (W i) : Int) := by unfold eD; have := h0 i c; omega
      have d3 : eD (W i) < 3 := by have := h0 i c; omega
      have up : ((co_B (eD (W i))).ap ρ').i 610 = ((i + 1 : Nat) : Int) := inc hi (by omega)
      have a1 : Agree 610 ρ' ((co_B (eD (W i))).ap ρ') := Bind.agree (by rfl) _
      have ev : ∀ x, x < 3 → ((co_B (eD (W i))).ap ρ').i (611 + x) = if x = eD (W i) then max (ρ'.i (611 + x)) (eS (W i)) else ρ'.i (611 + x) := fun x hx => by
        have e2 : (IE.cl 601 2 (.var 610)).den ρ' = eS (W i) := ci 2 (by decide) (by decide)
        rw [← e2]
        have hx3 : x = 0 ∨ x = 1 ∨ x = 2 := by omega
        generalize eD (W i) = d at d3
        have hd3 : d = 0 ∨ d = 1 ∨ d = 2 := by omega
        rcases hx3 with rfl | rfl | rfl <;> rcases hd3 with rfl | rfl | rfl <;> rfl
      refine .inr ⟨0, (co_B (eD (W i))).ap ρ', goW (forB co_go d3) co_fit rfl (cN_ok _) (LpsOk.nil _ _ _ _)
        (Facts.ok_cons (show decide (ρ'.i 610 < (ρ'.len 601 : Int)) = true by rw [hi, hn']; exact decide_eq_true (by omega)) (Facts.ok_cons (by rw [deq_t, ci 1 (by decide) (by decide), h1 i c]; exact hr'.symm) (Facts.ok_cons (by rw [deq_t, ci 0 (by decide) (by decide), hd]; rfl) (Facts.ok_cons (by rw [dlt_f]; simp only [IE.den, hr']; omega) (Facts.ok_cons (by rw [dlt_f]; simp only [IE.den, hr']; omega) (Facts.ok_cons (by rw [dlt_f]; simp only [IE.den, hi]; omega) (Facts.ok_cons (by rw [dlt_f]; simp only [IE.den, hn']; omega) (Facts.ok_nil _)))))))),
        ⟨ag.trans a1, i + 1, up, c, fun x hx => ?_, fun j hj => ?_, fun x hx => ?_⟩, ?_, a1⟩
      · rw [ev x hx]
        have := hc.nn x hx
        split <;> omega
      · have dj : eD (W j) < 3 := by have := h0 j (by omega); unfold eD; omega
        rw [ev _ dj]
        by_cases q : j = i
        · subst q; rw [if_pos rfl]; omega
        · have := hc.ge j (by omega)
          have : eS (W j) ≤ ρ'.i (611 + eD (W j)) := this
          split <;> omega
      · rw [ev x hx]
        split
        · rename_i q
          rcases Wd.max_or (ρ'.i (611 + x)) (eS (W i)) with m | m
          · rw [m]
            rcases hc.at_ x hx with z | ⟨j, j1, j2, j3⟩
            · exact .inl z
            · exact .inr ⟨j, by omega, j2, j3⟩
          · exact .inr ⟨i, by omega, q.symm, m⟩
        · rcases hc.at_ x hx with z | ⟨j, j1, j2, j3⟩
          · exact .inl z
          · exact .inr ⟨j, by omega, j2, j3⟩
      · show (n - _ : Int).toNat < (n - _ : Int).toNat
        rw [up, hi]; omega
    · obtain rfl : i = n := by omega
      refine .inl ⟨ρ', Agree.refl _ _, hc, rfl, ?_⟩
      exact endW co_end co_fit (cN_ok _) (LpsOk.nil _ _ _ _) (Facts.ok_cons (show decide (ρ'.i 610 < (ρ'.len 601 : Int)) = false by rw [hi, hn']; exact decide_eq_false (by omega)) (Facts.ok_nil _)) rfl
  · refine ⟨fun x hx => ?_, fun j hj => absurd hj (by omega), fun x hx => .inl ?_⟩ <;>
    · have : x = 0 ∨ x = 1 ∨ x = 2 := by omega
      rcases this with rfl | rfl | rfl <;> first | exact Int.le_refl 0 | rfl
theorem col_cy {r n : Nat} {W : Nat → List AV} (r3 : r < 3) (n60 : n ≤ 60) (hk : ∀ j, j < n → Kw (W j)) (h0 : ∀ j, j < n → 0 ≤ cellI (W j)[0]? ∧ cellI (W j)[0]? < 3) (h1 : ∀ j, j < n → cellI (W j)[1]? = r) : ∃ c : Nat → Int, Col W n c ∧ hasBody Try.prog 48 = true ∧ ∀ k h, CY Try.prog k 48 [.sc (.int .i64 r), roR n W] h (.agg [.sc (.int .i64 (c 0)), .sc (.int .i64 (c 1)), .sc (.int .i64 (c 2))]) [] := by
  obtain ⟨ρf, ag, hc, hl⟩ := co_ok (ρ := rhW n W (fun _ => r) ⟨#[]⟩) (r := r) (n := n) (W := W) rfl r3 rfl n60 (fun j hj => rhW_row 601 (hk j hj)) h0 h1
  have q := askF_ok (c := ⟨cfgL [] (lpO 48 co), [], []⟩) (ρ := ρf) (f := 48) (args := [xi 600, rlW 601]) (Φ := []) (cfgL_ok (List.forall_mem_nil _) (lpO_ok Try.func48 co_o rfl (by kernel_rfl) hl)) (List.forall_mem_nil _) (Facts.ok_nil _) (r := .agg (vi 611 3)) (by rw [coR]; rfl)
  have e : X.denL ρf [xi 600, rlW 601] = [.sc (.int .i64 r), roR n W] := by
    simp only [X.denL]
    rw [rlW_den (ρ := ρf) (n := n) (W := W) (by rw [← ag.len 601 (by decide)]; rfl) fun j hj => by rw [rw_agree ag (by decide)]; exact rhW_row 601 (hk j hj)]
    have : ρf.i 600 = r := by rw [← ag.i 600 (by decide)]; rfl
    simp only [xi, X.den, Sc.den, IE.den, this]
  rw [e] at q
  exact ⟨_, hc, q⟩
end Go.Proofs.Ytdlifdoglhhnfaa

/- Txn: TxnWorld: the greatest of some. -/
namespace Go.Proofs.Ytdlifdoglhhnfaa
open Go Go.Proofs.Aw Go.Proofs.Xw Go.Proofs.Sr
set_option maxRecDepth 100000
/-- A write is greater: by its stamp, then by its number. -/
def gtP (e b : List AV) : Prop := cellI b[3]? < cellI e[3]? ∨ (cellI b[3]? = cellI e[3]? ∧ (cellI b[4]? < cellI e[4]? ∨ (cellI b[4]? = cellI e[4]? ∧ (cellI b[5]? < cellI e[5]? ∨ (cellI b[5]? = cellI e[5]? ∧ cellI b[2]? < cellI e[2]?)))))
theorem gt_as (a b : List AV) (h : gtP a b) : ¬ gtP b a := by unfold gtP at *; omega
theorem gt_tr (a b c : List AV) (h : gtP a b) (k : ¬ gtP c b) : gtP a c := by unfold gtP at *; omega
noncomputable def grW (x : ByteArray) (l : List (List AV)) : Option (List AV) := Wd.gr (fun e => eK e = x) gtP l
def zE : List AV := List.replicate 6 (.sc (.int .i64 0)) ++ [.sc (.string ⟨#[]⟩), .sc (.string ⟨#[]⟩), .sc (.bool false)] ++ List.replicate 11 (.sc (.int .i64 0))
def lcs : Nat → Nat
  | 0 => 3
  | 1 => 4
  | 2 => 5
  | _ => 2
def ltb (k : Nat) : BE := .lt (.var (640 + lcs k)) (.cl 601 (lcs k) (.var 630))
def lta (k : Nat) : BE := .lt (.cl 601 (lcs k) (.var 630)) (.var (640 + lcs k))
def leF (k : Nat) : Facts := (List.range k).flatMap fun i => [(ltb i, false), (lta i, false)]
/-- Ways to stand: 0..3 less at that place; 4..7 greater; 8 alike. -/
def stF (c : Nat) : Facts := if Nat.blt c 4 = true then (lta c, true) :: (ltb c, false) :: leF c else if Nat.blt c 8 = true then (ltb (c - 4), true) :: (lta (c - 4), false) :: leF (c - 4) else leF 4
def isS (k : Nat) : Bool := Nat.beq k 6 || Nat.beq k 7
def beW : List X := (List.range 20).map fun k => if isS k = true then .sc (.s (.var (640 + k))) else if Nat.beq k 8 = true then .sc (.b (.var (640 + k))) else .sc (.i .i64 (.var (640 + k)))
def zeX : List X := (List.range 20).map fun k => if isS k = true then .sc (.s (.lit ⟨#[]⟩)) else if Nat.beq k 8 = true then .sc (.b (.lit false)) else .sc (.i .i64 (.lit 0))
def gxX (n : Nat) (i : IE) (f : Bool) (c : List X) : XS := ⟨[(12, .sc (.i .i64 i)), (11, .sc (.i .i64 (.len 601))), (10, rlW 601), (7, .sc (.b (.lit f))), (6, .ptr (2, 0) [] 0), (5, .sc (.b (.lit false))), (4, .ptr (0, 0) [] 0), (0, .sc (.s (.var 600))), (1, rlW 601)], [((0, 0), zeX), ((2, 0), c)], n⟩
def gx_E : XS := gxX 7 (.lit 0) false zeX
def gx_S : Nat → XS
  | 0 => gxX 7 (.var 630) false zeX
  | _ => gxX 7 (.var 630) true beW
noncomputable def gx_c : Code := (loopsOf (Try.f30.body.getD .skip))[0]?.getD .skip
noncomputable def gx : LoopX := ⟨(codeKey gx_c).getD 0, 0, 630, gx_E, noB, [], .br (.var 631) (.ret (.exit 0, gx_S 1)) (.ret (.exit 0, gx_S 0))⟩
def gx_I : Bind := ⟨[(630, .lit 0)], [], [], []⟩
def upI : Nat × IE := (630, .op .add .i64 (.var 630) (.lit 1))
/-- The best one stays, or is put. -/
def gx_K : Bind := ⟨upI :: (((List.range 20).filter fun k => !(isS k || Nat.beq k 8)).map fun k => (640 + k, .var (640 + k))), [(648, .var 648)], [(646, .var 646), (647, .var 647)], []⟩
def gx_P : Bind := ⟨upI :: (((List.range 20).filter fun k => !(isS k || Nat.beq k 8)).map fun k => (640 + k, .cl 601 k (.var 630))), [(648, .cl 601 8 (.var 630))], [(646, .cl 601 6 (.var 630)), (647, .cl 601 7 (.var 630))], []⟩
def inG : BE := .lt (.var 630) (.len 601)
def eqG : BE := .seq (.cl 601 6 (.var 630)) (.var 600)
def gx_F (e : Bool) : Facts := [(inG, true), (eqG, e), (.lt (.var 630) (.lit 0), false), (.lt (.lit 60) (.len 601), false)]
theorem gx_n0 : goB 0 630 ⟨[upI], [], [], []⟩ [] (gx_S 0) (runW [] (fun _ => []) 30 0 [] gx_c ((gx_S 0).t.map (·.1)) (gx_F false) (gx_S 0)) = true := by kernel_rfl
theorem gx_n1 : goB 0 630 gx_K [] (gx_S 1) (runW [] (fun _ => []) 30 0 [] gx_c ((gx_S 0).t.map (·.1)) (gx_F false) (gx_S 1)) = true := by kernel_rfl
theorem gx_p0 : goB 0 630 gx_P [] (gx_S 1) (runW [] (fun _ => []) 30 0 [] gx_c ((gx_S 0).t.map (·.1)) (gx_F true) (gx_S 0)) = true := by kernel_rfl
theorem gx_p1 : ((List.range 9).all fun c => goB 0 630 (if (Nat.ble 4 c && Nat.blt c 8) = true then gx_P else gx_K) [] (gx_S 1) (runW [] (fun _ => []) 30 0 [] gx_c ((gx_S 0).t.map (·.1)) (gx_F true ++ stF c) (gx_S 1))) = true := by kernel_rfl
theorem gx_end : ((List.range 2).all fun s => endB 0 (.exit 0) (gx_S s) (runW [] (fun _ => []) 30 0 [] gx_c ((gx_S 0).t.map (·.1)) [(inG, false)] (gx_S s))) = true := by kernel_rfl
theorem gx_ent : okS 0 630 gx_I [] (gx_S 0) gx_E = true := by kernel_rfl
theorem gx_Eb : gx_E.bel 630 = true := by kernel_rfl
theorem gx_fit : fitsC Try.f30.ntmps gx_c = true := by kernel_rfl
noncomputable def gxB (s : Nat) : LoopX := ⟨(codeKey gx_c).getD 0, 0, 630, gx_E, noB, [], .ret (.exit 0, gx_S s)⟩
theorem gx_o (s : Nat) : othersB [gxB s] [0] 0 (loopsOf (Try.f30.body.getD .skip)) = true := by kernel_rfl
theorem gxT : askF ⟨cfgL [] (lpO 30 (gxB 1)), [], []⟩ 30 [.sc (.s (.var 600)), rlW 601] [] = .ret (.tup [.agg beW, .sc (.b (.lit true))]) := by kernel_rfl
theorem gxN : askF ⟨cfgL [] (lpO 30 (gxB 0)), [], []⟩ 30 [.sc (.s (.var 600)), rlW 601] [] = .ret (.tup [.agg zeX, .sc (.b (.lit false))]) := by kernel_rfl
/-- The letters tell a write. -/
def beR (ρ : Rho) : List AV := beW.map (X.den ρ)
theorem lvl {e b : List AV} (hn : ¬ (gtP e b)) : (cellI e[3]? < cellI b[3]?) ∨ (cellI e[3]? = cellI b[3]? ∧ (cellI e[4]? < cellI b[4]?)) ∨ (cellI e[3]? = cellI b[3]? ∧ cellI e[4]? = cellI b[4]? ∧ cellI e[5]? < cellI b[5]?) ∨ (cellI e[3]? = cellI b[3]? ∧ cellI e[4]? = cellI b[4]? ∧ cellI e[5]? = cellI b[5]? ∧ cellI e[2]? < cellI b[2]?) ∨ (cellI e[3]? = cellI b[3]? ∧ cellI e[4]? = cellI b[4]? ∧ cellI e[5]? = cellI b[5]? ∧ cellI e[2]? = cellI b[2]?) := by
  unfold gtP at hn; omega
/-- Which way a write stands to the best one. -/
theorem st_ok {ρ : Rho} {e b : List AV} (he : ∀ k, k < 4 → (IE.cl 601 (lcs k) (.var 630)).den ρ = cellI e[lcs k]?) (hb : ∀ k, k < 4 → ρ.i (640 + lcs k) = cellI b[lcs k]?) : ∃ c, c < 9 ∧ Facts.ok ρ (stF c) ∧ ((4 ≤ c ∧ c < 8) ↔ gtP e b) := by
  have e0 := he 0 (by decide)
  have e1 := he 1 (by decide)
  have e2 := he 2 (by decide)
  have e3 := he 3 (by decide)
  have b0 := hb 0 (by decide)
  have b1 := hb 1 (by decide)
  have b2 := hb 2 (by decide)
  have b3 := hb 3 (by decide)
  have f : ∀ {x : BE} {v : Bool} {l : Facts}, x.den ρ = v → Facts.ok ρ l → Facts.ok ρ ((x, v) :: l) := fun h k => Facts.ok_cons h k
  have lt_ : ∀ {k : Nat} {v : Bool} {x y : Int}, (IE.cl 601 (lcs k) (.var 630)).den ρ = x → ρ.i (640 + lcs k) = y → ((lta k).den ρ = decide (x < y)) ∧ (ltb k).den ρ = decide (y < x) := fun {k v x y} h1 h2 => by
    constructor
    · show decide (_ < ρ.i (640 + lcs k)) = _
      rw [h1, h2]
    · show decide (ρ.i (640 + lcs k) < _) = _
      rw [h1, h2]
  have q0 := lt_ (k := 0) (v := true) e0 b0
  have q1 := lt_ (k := 1) (v := true) e1 b1
  have q2 := lt_ (k := 2) (v := true) e2 b2
  have q3 := lt_ (k := 3) (v := true) e3 b3
  have dt : ∀ {p : Prop} [Decidable p], p → decide p = true := fun h => decide_eq_true h
  have df : ∀ {p : Prop} [Decidable p], ¬ p → decide p = false := fun h => decide_eq_false h
  have s0 : lcs 0 = 3 := rfl
  have s1 : lcs 1 = 4 := rfl
  have s2 : lcs 2 = 5 := rfl
  have s3 : lcs 3 = 2 := rfl
  rw [s0] at q0; rw [s1] at q1; rw [s2] at q2; rw [s3] at q3
  by_cases g : gtP e b
  · rcases id g with h | ⟨h0, h | ⟨h1, h | ⟨h2, h⟩⟩⟩
    · exact ⟨4, by decide, f (q0.2.trans (dt h)) (f (q0.1.trans (df (by omega))) (Facts.ok_nil _)), fun _ => g, fun _ => by decide⟩
    · exact ⟨5, by decide, f (q1.2.trans (dt h)) (f (q1.1.trans (df (by omega))) (f (q0.2.trans (df (by omega))) (f (q0.1.trans (df (by omega))) (Facts.ok_nil _)))), fun _ => g, fun _ => by decide⟩
    · exact ⟨6, by decide, f (q2.2.trans (dt h)) (f (q2.1.trans (df (by omega))) (f (q0.2.trans (df (by omega))) (f (q0.1.trans (df (by omega))) (f (q1.2.trans (df (by omega))) (f (q1.1.trans (df (by omega))) (Facts.ok_nil _)))))), fun _ => g, fun _ => by decide⟩
    · exact ⟨7, by decide, f (q3.2.trans (dt h)) (f (q3.1.trans (df (by omega))) (f (q0.2.trans (df (by omega))) (f (q0.1.trans (df (by omega))) (f (q1.2.trans (df (by omega))) (f (q1.1.trans (df (by omega))) (f (q2.2.trans (df (by omega))) (f (q2.1.trans (df (by omega))) (Facts.ok_nil _)))))))), fun _ => g, fun _ => by decide⟩
  · rcases lvl g with h | ⟨h0, h⟩ | ⟨h0, h1, h⟩ | ⟨h0, h1, h2, h⟩ | ⟨h0, h1, h2, h3⟩
    · exact ⟨0, by decide, f (q0.1.trans (dt h)) (f (q0.2.trans (df (by omega))) (Facts.ok_nil _)), fun k => absurd k (by decide), fun k => absurd k g⟩
    · exact ⟨1, by decide, f (q1.1.trans (dt h)) (f (q1.2.trans (df (by omega))) (f (q0.2.trans (df (by omega))) (f (q0.1.trans (df (by omega))) (Facts.ok_nil _)))), fun k => absurd k (by decide), fun k => absurd k g⟩
    · exact ⟨2, by decide, f (q2.1.trans (dt h)) (f (q2.2.trans (df (by omega))) (f (q0.2.trans (df (by omega))) (f (q0.1.trans (df (by omega))) (f (q1.2.trans (df (by omega))) (f (q1.1.trans (df (by omega))) (Facts.ok_nil _)))))), fun k => absurd k (by decide), fun k => absurd k g⟩
    · exact ⟨3, by decide, f (q3.1.trans (dt h)) (f (q3.2.trans (df (by omega))) (f (q0.2.trans (df (by omega))) (f (q0.1.trans (df (by omega))) (f (q1.2.trans (df (by omega))) (f (q1.1.trans (df (by omega))) (f (q2.2.trans (df (by omega))) (f (q2.1.trans (df (by omega))) (Facts.ok_nil _)))))))), fun k => absurd k (by decide), fun k => absurd k g⟩
    · exact ⟨8, by decide, f (q0.2.trans (df (by omega))) (f (q0.1.trans (df (by omega))) (f (q1.2.trans (df (by omega))) (f (q1.1.trans (df (by omega))) (f (q2.2.trans (df (by omega))) (f (q2.1.trans (df (by omega))) (f (q3.2.trans (df (by omega))) (f (q3.1.trans (df (by omega))) (Facts.ok_nil _)))))))), fun k => absurd k (by decide), fun k => absurd k g⟩
/-- What the loop knows: of the first i the greatest. -/
def GxR (x : ByteArray) (n : Nat) (W : Nat → List AV) (ρ : Rho) (s : Nat) (ρ' : Rho) : Prop := Agree 630 ρ ρ' ∧ s < 2 ∧ ∃ i : Nat, ρ'.i 630 = i ∧ i ≤ n ∧ match s with
  | 0 => grW x ((List.range i).map W) = none
  | _ => grW x ((List.range i).map W) = some (beR ρ')
def GxQ (x : ByteArray) (n : Nat) (W : Nat → List AV) (ρ' : Rho) : Prop := if ρ'.b 631 = true then grW x ((List.range n).map W) = some (beR ρ') else grW x ((List.range n).map W) = none
theorem grW_snoc (x : ByteArray) (W : Nat → List AV) (i : Nat) : grW x ((List.range (i + 1)).map W) = Wd.stepG (fun e => eK e = x) gtP (grW x ((List.range i).map W)) (W i) := by
  unfold grW
  rw [List.range_succ, List.map_append]
  exact Wd.gr_snoc _ _
theorem beR_cell (ρ : Rho) : ∀ k, k < 4 → cellI (beR ρ)[lcs k]? = ρ.i (640 + lcs k)
  | 0, _ => rfl
  | 1, _ => rfl
  | 2, _ => rfl
  | 3, _ => rfl
theorem gx_Kb (ρ : Rho) : beR (gx_K.ap ρ) = beR ρ := by kernel_rfl
theorem gx_Pb (ρ : Rho) : beR (gx_P.ap ρ) = rw_ ρ 601 (ρ.i 630).toNat := by kernel_rfl
theorem gx_ok {ρ : Rho} {x : ByteArray} {n : Nat} {W : Nat → List AV} (hx : ρ.s 600 = x) (hn : ρ.len 601 = n) (n60 : n ≤ 60) (hw : ∀ j, j < n → rw_ ρ 601 j = W j) : ∃ ρf, Agree 630 ρ ρf ∧ GxQ x n W ρf ∧ LoopOk Try.prog ρf Try.f30.ntmps gx_c gx := by
  suffices hh : ∃ (_ : Nat) (ρf : Rho), Agree gx.n ρ ρf ∧ GxQ x n W ρf ∧ LoopOk Try.prog ρf Try.f30.ntmps gx_c gx by
    obtain ⟨_, ρf, h1, h2, h3⟩ := hh
    exact ⟨ρf, h1, h2, h3⟩
  have a0 : Agree 630 ρ (gx_I.ap ρ) := Bind.agree (by kernel_rfl) ρ
  refine loopOk_famE (L := gx) (N := Try.f30.ntmps) (body := gx_c) (P := Try.prog) rfl gx_Eb gx_S (GxR x n W ρ) (fun _ => GxQ x n W) (fun _ ρ' => (n - ρ'.i 630).toNat) ?_
    ⟨0, gx_I.ap ρ, a0, ⟨a0, by decide, 0, rfl, Nat.zero_le _, rfl⟩, fun E _ hE => okS_imp hE gx_ent ρ⟩
  rintro s ρ' ⟨ag, hs, i, hi, hin, hg⟩
  have hx' : ρ'.s 600 = x := by rw [← ag.s 600 (by decide)]; exact hx
  have hn' : ρ'.len 601 = n := by rw [← ag.len 601 (by decide)]; exact hn
  by_cases c : i < n
  · have hwi : rw_ ρ' 601 i = W i := by rw [rw_agree ag (by decide)]; exact hw i c
    have ci : ∀ k, k < 20 → k < 6 ∨ 9 ≤ k → (IE.cl 601 k (.var 630)).den ρ' = cellI (W i)[k]? := fun k h1 h2 => by
      rw [← hwi, rw_ci _ _ _ k h1 h2]; exact cl_i hi
    have ek : eqG.den ρ' = true ↔ eK (W i) = x := by
      show (BE.seq (.cl 601 6 (.var 630)) (.var 600)).den ρ' = true ↔ _
      rw [seq_t]
      show ρ'.cs 601 6 (ρ'.i 630).toNat = ρ'.s 600 ↔ _
      rw [hi, hx', ← hwi]
      exact Iff.rfl
    have fs : ∀ {e : Bool}, eqG.den ρ' = e → Facts.ok ρ' (gx_F e) := fun {e} he => Facts.ok_cons (show decide (ρ'.i 630 < (ρ'.len 601 : Int)) = true by rw [hi, hn']; exact decide_eq_true (by omega)) (Facts.ok_cons he (Facts.ok_cons (by rw [dlt_f]; simp only [IE.den, hi]; omega) (Facts.ok_cons (by rw [dlt_f]; simp only [IE.den, hn']; omega) (Facts.ok_nil _))))
    have up : ∀ β : Bind, lassoc 630 β.i = some (.op .add .i64 (.var 630) (.lit 1)) → (β.ap ρ').i 630 = ((i + 1 : Nat) : Int) := fun β h => (ap_i h).trans (inc hi (by omega))
    have me : ∀ β : Bind, lassoc 630 β.i = some (.op .add .i64 (.var 630) (.lit 1)) → (n - (β.ap ρ').i 630).toNat < (n - ρ'.i 630).toNat := fun β h => by rw [up β h, hi]; omega
    have rowi : rw_ ρ' 601 (ρ'.i 630).toNat = W i := by rw [hi]; exact hwi
    by_cases k : eK (W i) = x
    · have ke := ek.2 k
      match s, hs, hg with
      | 0, _, hg =>
        have a1 : Agree 630 ρ' (gx_P.ap ρ') := Bind.agree (by kernel_rfl) _
        refine .inr ⟨1, gx_P.ap ρ', goW gx_p0 gx_fit rfl (cN_ok _) (LpsOk.nil _ _ _ _) (fs ke), ⟨ag.trans a1, by decide, i + 1, up _ rfl, c, ?_⟩, me _ rfl, a1⟩
        show grW x _ = some _
        rw [grW_snoc, hg, gx_Pb, rowi]
        exact Wd.stepG_none k
      | 1, _, hg =>
        have hg : grW x ((List.range i).map W) = some (beR ρ') := hg
        obtain ⟨w, w9, wf, wg⟩ := st_ok (ρ := ρ') (e := W i) (b := beR ρ') (fun k hk => ci _ (by
          match k, hk with
          | 0, _ => decide
          | 1, _ => decide
          | 2, _ => decide
          | 3, _ => decide) (by
          match k, hk with
          | 0, _ => decide
          | 1, _ => decide
          | 2, _ => decide
          | 3, _ => decide)) (fun k hk => (beR_cell ρ' k hk).symm)
        have go := forB gx_p1 w9
        by_cases g : gtP (W i) (beR ρ')
        · have hw' := wg.2 g
          have : (Nat.ble 4 w && Nat.blt w 8) = true := by rw [Bool.and_eq_true]; exact ⟨by simpa using hw'.1, by simpa using hw'.2⟩
          rw [if_pos this] at go
          have a1 : Agree 630 ρ' (gx_P.ap ρ') := Bind.agree (by kernel_rfl) _
          refine .inr ⟨1, gx_P.ap ρ', goW go gx_fit rfl (cN_ok _) (LpsOk.nil _ _ _ _) (all_ok (fs ke) wf), ⟨ag.trans a1, by decide, i + 1, up _ rfl, c, ?_⟩, me _ rfl, a1⟩
          show grW x _ = some _
          rw [grW_snoc, hg, gx_Pb, rowi]
          exact Wd.stepG_gt k g
        · have : ¬ (Nat.ble 4 w && Nat.blt w 8) = true := fun h => by
            rw [Bool.and_eq_true] at h
            exact g (wg.1 ⟨by simpa using h.1, by simpa using h.2⟩)
          rw [if_neg this] at go
          have a1 : Agree 630 ρ' (gx_K.ap ρ') := Bind.agree (by kernel_rfl) _
          refine .inr ⟨1, gx_K.ap ρ', goW go gx_fit rfl (cN_ok _) (LpsOk.nil _ _ _ _) (all_ok (fs ke) wf), ⟨ag.trans a1, by decide, i + 1, up _ rfl, c, ?_⟩, me _ rfl, a1⟩
          show grW x _ = some _
          rw [grW_snoc, hg, gx_Kb]
          exact Wd.stepG_le k g
    · have ke : eqG.den ρ' = false := by
        cases h : eqG.den ρ' with
        | false => rfl
        | true => exact absurd (ek.1 h) k
      match s, hs, hg with
      | 0, _, hg =>
        have a1 : Agree 630 ρ' ((⟨[upI], [], [], []⟩ : Bind).ap ρ') := Bind.agree (by kernel_rfl) _
        refine .inr ⟨0, (⟨[upI], [], [], []⟩ : Bind).ap ρ', goW gx_n0 gx_fit rfl (cN_ok _) (LpsOk.nil _ _ _ _) (fs ke), ⟨ag.trans a1, by decide, i + 1, up _ rfl, c, ?_⟩, me _ rfl, a1⟩
        show grW x _ = none
        rw [grW_snoc, hg]
        exact Wd.stepG_no k
      | 1, _, hg =>
        have hg : grW x ((List.range i).map W) = some (beR ρ') := hg
        have a1 : Agree 630 ρ' (gx_K.ap ρ') := Bind.agree (by kernel_rfl) _
        refine .inr ⟨1, gx_K.ap ρ', goW gx_n1 gx_fit rfl (cN_ok _) (LpsOk.nil _ _ _ _) (fs ke), ⟨ag.trans a1, by decide, i + 1, up _ rfl, c, ?_⟩, me _ rfl, a1⟩
        show grW x _ = some _
        rw [grW_snoc, hg, gx_Kb]
        exact Wd.stepG_no k
  · obtain rfl : i = n := by omega
    have fx : ∀ b : Bool, Facts.ok (putB ρ' 631 b) [(inG, false)] := fun b => Facts.ok_cons (show decide (ρ'.i 630 < (ρ'.len 601 : Int)) = false by rw [hi, hn']; exact decide_eq_false (by omega)) (Facts.ok_nil _)
    match s, hs, hg with
    | 0, _, hg =>
      refine .inl ⟨putB ρ' 631 false, putB_agree ρ' (by decide), hg, XS.bel_den (putB_agree (n := 631) ρ' (Nat.le_refl _)) _ (by kernel_rfl), ?_⟩
      exact endW (forB gx_end (b := 0) (by decide)) gx_fit (cN_ok _) (LpsOk.nil _ _ _ _) (fx false) rfl
    | 1, _, hg =>
      refine .inl ⟨putB ρ' 631 true, putB_agree ρ' (by decide), hg, rfl, ?_⟩
      exact endW (forB gx_end (b := 1) (by decide)) gx_fit (cN_ok _) (LpsOk.nil _ _ _ _) (fx true) rfl
/-- What Greatest answers. -/
def grV (o : Option (List AV)) : AV := match o with
  | none => .tup [.agg zE, .sc (.bool false)]
  | some b => .tup [.agg b, .sc (.bool true)]
theorem gr_cy (x : ByteArray) {n : Nat} {W : Nat → List AV} (n60 : n ≤ 60) (hk : ∀ j, j < n → Kw (W j)) : hasBody Try.prog 30 = true ∧ ∀ k h, CY Try.prog k 30 [.sc (.string x), roR n W] h (grV (grW x ((List.range n).map W))) [] := by
  obtain ⟨ρf, ag, hq, hl⟩ := gx_ok (ρ := rhW n W (fun _ => 0) x) (x := x) (n := n) (W := W) rfl rfl n60 (fun j hj => rhW_row 601 (hk j hj))
  have e : X.denL ρf [.sc (.s (.var 600)), rlW 601] = [.sc (.string x), roR n W] := by
    simp only [X.denL]
    rw [rlW_den (ρ := ρf) (n := n) (W := W) (by rw [← ag.len 601 (by decide)]; rfl) fun j hj => by rw [rw_agree ag (by decide)]; exact rhW_row 601 (hk j hj)]
    have : ρf.s 600 = x := by rw [← ag.s 600 (by decide)]; rfl
    simp only [X.den, Sc.den, TE.den, this]
  unfold GxQ at hq
  cases hb : ρf.b 631 with
  | true =>
    rw [if_pos hb] at hq
    have hl' : LoopOk Try.prog ρf Try.f30.ntmps gx_c (gxB 1) := one_way hl rfl rfl rfl fun e s hs => by
      have : gx.out.sel ρf = some (.exit 0, gx_S 1) := by unfold gx; rw [T.sel, if_pos (show (BE.var 631).den ρf = true from hb)]; rfl
      rw [this] at hs
      exact hs
    have q := askF_ok (c := ⟨cfgL [] (lpO 30 (gxB 1)), [], []⟩) (ρ := ρf) (f := 30) (args := [.sc (.s (.var 600)), rlW 601]) (Φ := []) (cfgL_ok (List.forall_mem_nil _) (lpO_ok Try.func30 (gx_o 1) rfl (by kernel_rfl) hl')) (List.forall_mem_nil _) (Facts.ok_nil _) (r := .tup [.agg beW, .sc (.b (.lit true))]) (by rw [gxT]; rfl)
    rw [e] at q
    rw [hq]
    have : grV (some (beR ρf)) = X.den ρf (.tup [.agg beW, .sc (.b (.lit true))]) := by kernel_rfl
    rw [this]; exact q
  | false =>
    rw [if_neg (by rw [hb]; decide)] at hq
    have hl' : LoopOk Try.prog ρf Try.f30.ntmps gx_c (gxB 0) := one_way hl rfl rfl rfl fun e s hs => by
      have : gx.out.sel ρf = some (.exit 0, gx_S 0) := by unfold gx; rw [T.sel, if_neg (show ¬ (BE.var 631).den ρf = true from by rw [show (BE.var 631).den ρf = ρf.b 631 from rfl, hb]; decide)]; rfl
      rw [this] at hs
      exact hs
    have q := askF_ok (c := ⟨cfgL [] (lpO 30 (gxB 0)), [], []⟩) (ρ := ρf) (f := 30) (args := [.sc (.s (.var 600)), rlW 601]) (Φ := []) (cfgL_ok (List.forall_mem_nil _) (lpO_ok Try.func30 (gx_o 0) rfl (by kernel_rfl) hl')) (List.forall_mem_nil _) (Facts.ok_nil _) (r := .tup [.agg zeX, .sc (.b (.lit false))]) (by rw [gxN]; rfl)
    rw [e] at q
    rw [hq]
    have : grV none = X.den ρf (.tup [.agg zeX, .sc (.b (.lit false))]) := by kernel_rfl
    rw [this]; exact q
end Go.Proofs.Ytdlifdoglhhnfaa
