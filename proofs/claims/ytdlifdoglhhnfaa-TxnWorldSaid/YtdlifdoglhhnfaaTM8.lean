/- Parts of the proof, one behind the other. -/
import Derived.Test.YtdlifdoglhhnfaaTM7
/- Txn: TxnWorld: each key's greatest; the law's end: runs. -/
namespace Go.Proofs.Ytdlifdoglhhnfaa
open Go Go.Proofs.Aw Go.Proofs.Xw Go.Proofs.Sr
set_option maxRecDepth 100000
def fiX (n : Nat) (k : IE) (inn : X) (h : XHp) : XS := ⟨[(25, .sc (.i .i64 k)), (24, inn)] ++ tpW [219, 218, 217, 216] ++ [(23, .sc (.i .i64 (.var 850))), (22, .top)] ++ flW, fhX ++ h, n⟩
def fi_E : XS := fiX 153 (.lit 0) nlW []
def fi_S : Nat → XS
  | 0 => fiX 200 (.var 860) nlW []
  | _ => fiX 200 (.var 860) (.slv (190, 0) 20 (.lit 0) (.len 861) true) [((190, 0), [.rows 20 (.len 861) (.var 861 kep)])]
noncomputable def fiL (s : Nat) : LoopX := ⟨(codeKey fi_c).getD 0, 0, 860, fi_E, noB, [], .ret (.exit 8, fi_S s)⟩
noncomputable def fiB : LoopX := ⟨(codeKey fi_c).getD 0, 0, 860, fi_E, noB, [], .br (.var 862) (.ret (.exit 8, fi_S 1)) (.ret (.exit 8, fi_S 0))⟩
def fi_I : Bind := ⟨[(860, .lit 0)], [], [], []⟩
def fiR : List Sc := (List.range 20).map fun k => if isS k = true then .s (.cl 410 k (.var 860)) else if Nat.beq k 8 = true then .b (.cl 410 k (.var 860)) else .i .i64 (.cl 410 k (.var 860))
def fi_Y (s : Nat) : Bind := ⟨[(860, .op .add .i64 (.var 860) (.lit 1))], [], [], [if Nat.beq s 0 = true then (861, .lit 1, .one fiR) else (861, .op .padd .i64 (.len 861) (.lit 1), .app (.len 861) (.var 861 kep) (.one fiR))]⟩
def fi_N (s : Nat) : Bind := ⟨[(860, .op .add .i64 (.var 860) (.lit 1))], [], [], if Nat.beq s 0 = true then [] else [(861, .len 861, .var 861 kep)]⟩
def fi_F (s : Nat) : Facts := [(.lt (.var 860) (.len 410), true), (.lt (.var 860) (.lit 0), false), (.lt (.lit 60) (.len 410), false)] ++ (if Nat.beq s 0 = true then [] else [(.lt (.lit 60) (.len 861), false)])
theorem fi_y : ((List.range 2).all fun s => goB 0 860 (fi_Y s) [((190, 0), (226, 0))] (fi_S 1) (runH [kHs 860 true] (fun _ => []) 6 0 [] fi_c ((fi_S 0).t.map (·.1)) (fi_F s) (fi_S s))) = true := by kernel_rfl
theorem fi_n : ((List.range 2).all fun s => goB 0 860 (fi_N s) [] (fi_S s) (runH [kHs 860 false] (fun _ => []) 6 0 [] fi_c ((fi_S 0).t.map (·.1)) (fi_F s) (fi_S s))) = true := by kernel_rfl
theorem fi_end : ((List.range 2).all fun s => endB 0 (.exit 8) (fi_S s) (runH [] (fun _ => []) 6 0 [] fi_c ((fi_S 0).t.map (·.1)) [(.lt (.var 860) (.len 410), false)] (fi_S s))) = true := by kernel_rfl
theorem fi_ent : okS 0 860 fi_I [] (fi_S 0) fi_E = true := by kernel_rfl
theorem fi_Eb : fi_E.bel 860 = true := by kernel_rfl
theorem fi_fit : fitsC Try.f6.ntmps fi_c = true := by kernel_rfl
/-! ### Each key -/
noncomputable def fo : LoopX := ⟨(codeKey fo_c).getD 0, 0, 850, fo_E, noB, [], .ret (.exit 6, fo_S)⟩
def fo_I : Bind := ⟨[(850, .lit 0)], [], [], []⟩
def fo_B : Bind := ⟨[(850, .op .add .i64 (.var 850) (.lit 1))], [], [], []⟩
/-- What the results say of a key. -/
def liX : X := .tup [.agg ((List.range 20).map fun k => if isS k = true then .sc (.s (.cl 831 (2 + k) (.var 850))) else if Nat.beq k 8 = true then .sc (.b (.cl 831 (2 + k) (.var 850))) else .sc (.i .i64 (.cl 831 (2 + k) (.var 850)))), .sc (.b (.cl 831 1 (.var 850)))]
def kGr (s : Nat) : Nat × List X × X := (30, [.sc (.s (.cl 2 0 (.var 850))), if Nat.beq s 0 = true then nlW else rlW 861], liX)
def fo_F : Facts := [(.lt (.var 850) (.len 831), true), (.lt (.var 850) (.lit 0), false), (.lt (.var 850) (.len 2), true), (.lt (.lit 6) (.len 2), false)]
theorem fo_go : ((List.range 2).all fun s => goB 0 850 fo_B [] fo_S (runH [kGr s] (fun _ => []) 6 0 [fiL s] fo_c (fo_S.t.map (·.1)) fo_F fo_S)) = true := by kernel_rfl
theorem fo_end : endB 0 (.exit 6) fo_S (runH [] (fun _ => []) 6 0 [] fo_c (fo_S.t.map (·.1)) [(.lt (.var 850) (.len 831), false)] fo_S) = true := by kernel_rfl
theorem fo_ent : okS 0 850 fo_I [] fo_S fo_E = true := by kernel_rfl
theorem fo_Eb : fo_E.bel 850 = true := by kernel_rfl
theorem fo_fit : fitsC Try.f6.ntmps fo_c = true := by kernel_rfl
/-- A way out with the answer true. -/
def okT : XS := ⟨[(8, .sc (.b (.eq (.len 831) (.len 2))))], [], 153⟩
theorem r8_run : endB 0 .ret okT (runH [] (lpO 22 rs) 6 0 [ck, fo] r8 (mn_S.t.map (·.1)) r8F mn_S) = true := by kernel_rfl
end Go.Proofs.Ytdlifdoglhhnfaa

/- Txn: TxnWorld: what a prefix of a log finds, and what a cut finds. -/
namespace Go.Proofs.Ytdlifdoglhhnfaa
open Go Go.Proofs.Aw Go.Proofs.Xw Go.Proofs.Sr
set_option maxRecDepth 100000
/-- A row of a range's log. -/
def lg (W : Nat → List AV) (N r m : Nat) : List AV := W ((Lr W N r)[m]?.getD 0)
theorem lg_get {W : Nat → List AV} {N r m j : Nat} (h : (Lr W N r)[m]? = some j) : lg W N r m = W j := by unfold lg; rw [h]; rfl
theorem lg_lt {W : Nat → List AV} {N r m : Nat} (h : m < (Lr W N r).length) : ∃ j, (Lr W N r)[m]? = some j ∧ j < N ∧ eR (W j) = r ∧ lg W N r m = W j := by
  have e : (Lr W N r)[m]? = some (Lr W N r)[m] := List.getElem?_eq_getElem h
  exact ⟨_, e, (Lr_lt e).1, (Lr_lt e).2, lg_get e⟩
theorem lg_rise {W : Nat → List AV} {N r m m' j j' : Nat} (h : m < m') (e : (Lr W N r)[m]? = some j) (e' : (Lr W N r)[m']? = some j') : j < j' := by
  have p : (Lr W N r).Pairwise (· < ·) := List.Pairwise.filter _ List.pairwise_lt_range
  obtain ⟨h1, e1⟩ := List.getElem?_eq_some_iff.1 e
  obtain ⟨h2, e2⟩ := List.getElem?_eq_some_iff.1 e'
  have := List.pairwise_iff_getElem.1 p m m' h1 h2 h
  rw [e1, e2] at this
  exact this
theorem lr_map (W : Nat → List AV) (N r : Nat) : (List.range (Lr W N r).length).map (lg W N r) = (Lr W N r).map W := by
  apply List.ext_getElem?
  intro m
  rw [List.getElem?_map, List.getElem?_map]
  by_cases c : m < (Lr W N r).length
  · obtain ⟨j, e, _, _, h⟩ := lg_lt c
    rw [List.getElem?_range c, e, Option.map_some, Option.map_some, h]
  · rw [List.getElem?_eq_none (by rw [List.length_range]; omega), List.getElem?_eq_none (by omega)]; rfl
theorem filt_snoc {α : Type} (f : Nat → α) (p : α → Bool) (n : Nat) : ((List.range (n + 1)).map f).filter p = if p (f n) = true then ((List.range n).map f).filter p ++ [f n] else ((List.range n).map f).filter p := by
  rw [List.range_succ, List.map_append, List.filter_append]
  split
  · rename_i h
    rw [show [n].map f = [f n] from rfl, List.filter_cons_of_pos h]; rfl
  · rename_i h
    rw [show [n].map f = [f n] from rfl, List.filter_cons_of_neg h]; simp
/-- What a cut has of a range lies in each prefix whose column covers the cut's. -/
theorem cut_pre {W : Nat → List AV} {N r p : Nat} {V c : Nat → Int} (w : WorldW W N) (hp : p ≤ (Lr W N r).length) (hc : Col (lg W N r) p c) (cv : ∀ k, k < 3 → V (3 * k + r) ≤ c k) : ((List.range p).map (lg W N r)).filter (had V) = ((Lr W N r).map W).filter (had V) := by
  have key : ∀ m, p ≤ m → m < (Lr W N r).length → ¬ had V (lg W N r m) = true := fun m h1 h2 hh => by
    obtain ⟨j, e, jN, jr, h⟩ := lg_lt h2
    have dj : eD (W j) < 3 := w.d j jN
    have hh : eS (lg W N r m) ≤ V (3 * eD (lg W N r m) + eR (lg W N r m)) := of_decide_eq_true hh
    rw [h, jr] at hh
    have s1 : 1 ≤ eS (W j) := w.s j jN
    have h3 := cv _ dj
    rcases hc.at_ _ dj with z | ⟨m', m1, m2, m3⟩
    · omega
    · obtain ⟨j', e', jN', jr', h'⟩ := lg_lt (show m' < (Lr W N r).length by omega)
      rw [h'] at m2 m3
      have : eS (W j') < eS (W j) := Wd.World.mono w (lg_rise (by omega) e' e) jN m2 (jr'.trans jr.symm)
      omega
  have go : ∀ k, p + k ≤ (Lr W N r).length → ((List.range (p + k)).map (lg W N r)).filter (had V) = ((List.range p).map (lg W N r)).filter (had V) := fun k => by
    induction k with
    | zero => exact fun _ => rfl
    | succ k ih =>
      intro h
      rw [← Nat.add_assoc, filt_snoc, if_neg (key _ (by omega) (by omega))]
      exact ih (by omega)
  have := go ((Lr W N r).length - p) (by omega)
  rw [show p + ((Lr W N r).length - p) = (Lr W N r).length by omega, lr_map] at this
  exact this.symm
/-- A key's writes are those of its range. -/
theorem gr_all {W : Nat → List AV} {N r : Nat} {V : Nat → Int} {x : ByteArray} (hk : ∀ j, j < N → eK (W j) = x → eR (W j) = r) : grW x (((Lr W N r).map W).filter (had V)) = grW x (sn true V N W) := by
  have e1 : sn true V N W = ((List.range N).map W).filter (had V) := rfl
  have e2 : (Lr W N r).map W = ((List.range N).map W).filter fun e => Nat.beq (eR e) r := by
    rw [List.filter_map]; rfl
  rw [e1, e2, List.filter_filter]
  have e3 := Wd.gr_key (m := fun e => eK e = x) (gt := gtP) (l := ((List.range N).map W).filter (had V)) (p := fun e => Nat.beq (eR e) r) fun e he hx => by
    have he := (List.mem_filter.1 he).1
    obtain ⟨j, hj, rfl⟩ := List.mem_map.1 he
    rw [hk j (List.mem_range.1 hj) hx]; exact Nat.beq_refl r
  rw [List.filter_filter] at e3
  have e4 : (fun a => had V a && Nat.beq (eR a) r) = fun a => Nat.beq (eR a) r && had V a := funext fun a => Bool.and_comm _ _
  rw [e4]
  exact e3
/-- What is found in the first round. -/
theorem fin_1 {W : Nat → List AV} {N r p : Nat} {V c : Nat → Int} {x : ByteArray} (w : WorldW W N) (hp : p ≤ (Lr W N r).length) (hc : Col (lg W N r) p c) (cv : ∀ k, k < 3 → V (3 * k + r) ≤ c k) (hk : ∀ j, j < N → eK (W j) = x → eR (W j) = r) (ho : ∀ b, grW x ((List.range p).map (lg W N r)) = some b → had V b = true) : grW x ((List.range p).map (lg W N r)) = grW x (sn true V N W) := by
  have h := Wd.gr_filter (m := fun e => eK e = x) gt_as gt_tr (l := (List.range p).map (lg W N r)) (p := had V) ho
  rw [cut_pre w hp hc cv] at h
  exact h.symm.trans (gr_all hk)
/-- What is found in the second round. -/
theorem fin_2 {W : Nat → List AV} {N r p : Nat} {V c : Nat → Int} {x : ByteArray} (w : WorldW W N) (hp : p ≤ (Lr W N r).length) (hc : Col (lg W N r) p c) (cv : ∀ k, k < 3 → V (3 * k + r) ≤ c k) (hk : ∀ j, j < N → eK (W j) = x → eR (W j) = r) : grW x (sn true V p (lg W N r)) = grW x (sn true V N W) := by
  have e1 : sn true V p (lg W N r) = ((List.range p).map (lg W N r)).filter (had V) := rfl
  rw [e1, cut_pre w hp hc cv]
  exact gr_all hk
/-- A whole log goes as far as any cut. -/
theorem col_all {W : Nat → List AV} {N r : Nat} {V c : Nat → Int} (hv : Vg W N fun x y => V (3 * x + y)) (hc : Col (lg W N r) (Lr W N r).length c) (r3 : r < 3) : ∀ k, k < 3 → V (3 * k + r) ≤ c k := fun k hk => by
  rcases hv.bd k r hk r3 with h | ⟨i, i1, i2, i3, i4⟩
  · have h : V (3 * k + r) ≤ 0 := h
    have := hc.nn k hk
    omega
  · have i2 : eD (W i) = k := i2
    have i4 : V (3 * k + r) ≤ eS (W i) := i4
    have hm : i ∈ Lr W N r := Lr_mem.2 ⟨i1, i3⟩
    obtain ⟨m, hm, e⟩ := List.mem_iff_getElem.1 hm
    have e : (Lr W N r)[m]? = some i := by rw [← e]; exact List.getElem?_eq_getElem hm
    have := hc.ge m hm
    rw [lg_get e, i2] at this
    omega
/-- A cut that has a write has all that it stands on. -/
theorem had_ge {W : Nat → List AV} {N j : Nat} {V : Nat → Int} (hv : Vg W N fun x y => V (3 * x + y)) (hj : j < N) (h : had V (W j) = true) (k : Nat) (hk : k < 9) : cellI (W j)[9 + k]? ≤ V k ∧ pvW (W j) k ≤ V k := by
  have h : eS (W j) ≤ V (3 * eD (W j) + eR (W j)) := of_decide_eq_true h
  have g := hv.cl j hj h
  have x3 : k / 3 < 3 := by omega
  have y3 : k % 3 < 3 := by omega
  have ek : 3 * (k / 3) + k % 3 = k := by omega
  have g1 := g.1 (k / 3) (k % 3) x3 y3
  have g1 : cellI (W j)[9 + (3 * (k / 3) + k % 3)]? ≤ V (3 * (k / 3) + k % 3) := g1
  rw [ek] at g1
  refine ⟨g1, ?_⟩
  have v0 : 0 ≤ V (3 * (k / 3) + k % 3) := hv.nn _ _ x3 y3
  rw [ek] at v0
  unfold pvW
  split
  · rename_i q
    rw [← q] at h
    omega
  · omega
end Go.Proofs.Ytdlifdoglhhnfaa

/- Txn: TxnWorld: the answers; the turn's first loop. -/
namespace Go.Proofs.Ytdlifdoglhhnfaa
open Go Go.Proofs.Aw Go.Proofs.Xw Go.Proofs.Sr
set_option maxRecDepth 100000
/-! ### What stays -/
/-- A world, and the keys that are asked for. -/
structure Wk (N : Nat) (W : Nat → List AV) (m : Int) (n : Nat) (g : Nat → ByteArray) : Prop where
  wd : WorldW W N
  nb : N ≤ 60
  kw : ∀ j, j < N → Kw (W j)
  d0 : ∀ j, j < N → 0 ≤ cellI (W j)[0]? ∧ cellI (W j)[0]? < 3
  d1 : ∀ j, j < N → 0 ≤ cellI (W j)[1]? ∧ cellI (W j)[1]? < 3
  m13 : 1 ≤ m ∧ m ≤ 3
  kk : ∀ j, j < N → sec m (pt (eK (W j))) = eR (W j)
  n1 : 1 ≤ n
  n6 : n ≤ 6
  sz : ∀ j, j < n → (g j).size < 9223372036854775808
/-- A key's range. -/
noncomputable def rgK (m : Int) (x : ByteArray) : Nat := (sec m (pt x)).toNat
variable {N n : Nat} {W : Nat → List AV} {m : Int} {g : Nat → ByteArray}
theorem Wk.rg (k : Wk N W m n g) (x : ByteArray) : sec m (pt x) = rgK m x ∧ rgK m x < 3 := by
  have := sec_b m (pt x) k.m13
  have := k.m13
  unfold rgK
  omega
theorem Wk.rk (k : Wk N W m n g) {x : ByteArray} : ∀ j, j < N → eK (W j) = x → eR (W j) = rgK m x := fun j hj e => by
  have h1 := k.kk j hj
  rw [e, (k.rg x).1] at h1
  omega
theorem Wk.lk (k : Wk N W m n g) {r p : Nat} (hp : p < (Lr W N r).length) : Kw (lg W N r p) ∧ (0 ≤ cellI (lg W N r p)[0]? ∧ cellI (lg W N r p)[0]? < 3) ∧ cellI (lg W N r p)[1]? = r := by
  obtain ⟨j, _, jN, jr, e⟩ := lg_lt hp
  rw [e]
  refine ⟨k.kw j jN, k.d0 j jN, ?_⟩
  have := k.d1 j jN
  unfold eR at jr
  omega
/-- The letters tell them. -/
structure Lt (N : Nat) (W : Nat → List AV) (m : Int) (n : Nat) (g : Nat → ByteArray) (ρ : Rho) : Prop where
  n2 : ρ.len 2 = n
  g2 : stR ρ 2 = g
  m1 : ρ.i 401 = m
  ll : ∀ r, r < 3 → ρ.len (411 + r) = (Lr W N r).length
  lr : ∀ r, r < 3 → ∀ p, p < (Lr W N r).length → rw_ ρ (411 + r) p = lg W N r p
  al : ρ.len 410 = N
  ar : ∀ j, j < N → rw_ ρ 410 j = W j
theorem Lt.agree {ρ ρ' : Rho} {k : Nat} (h : Lt N W m n g ρ) (ag : Agree k ρ ρ') (hk : 414 ≤ k) : Lt N W m n g ρ' :=
  ⟨by rw [← ag.len 2 (by omega)]; exact h.n2, by rw [agree_st ag (by omega)]; exact h.g2, by rw [← ag.i 401 (by omega)]; exact h.m1, fun r hr => by rw [← ag.len _ (by omega)]; exact h.ll r hr, fun r hr p hp => by rw [rw_agree ag (by omega)]; exact h.lr r hr p hp, by rw [← ag.len 410 (by omega)]; exact h.al, fun j hj => by rw [rw_agree ag (by omega)]; exact h.ar j hj⟩
/-! ### Answers -/
/-- The j-th row of a letter of answers. -/
def ra_ (ρ : Rho) (l j : Nat) : List AV := cellsV ρ l 0 kaW j
theorem ra_agree {k : Nat} {ρ ρ' : Rho} (h : Agree k ρ ρ') {l : Nat} (hl : l < k) (j : Nat) : ra_ ρ' l j = ra_ ρ l j :=
  cellsV_congr (h.ci l hl).symm (h.cb l hl).symm (h.cs l hl).symm j kaW 0
theorem ap_ra {β : Bind} {ρ : Rho} {l : Nat} {e : IE} {r : RL} (h : lassoc l β.r = some (e, r)) (j : Nat) : ra_ (β.ap ρ) l j = kcells (r.row ρ j) 0 kaW := cellsV_k h j kaW 0
theorem var_ra (ρ : Rho) (l j : Nat) : (RL.var l kaW).row ρ j = ra_ ρ l j := by simp only [RL.row, ra_, Int.toNat_natCast]
theorem kc_ra (ρ : Rho) (l j : Nat) : kcells (ra_ ρ l j) 0 kaW = ra_ ρ l j := rfl
/-- An answer's cells. -/
def anL (o : Option (List AV)) (c : Nat → Int) : List AV := [.sc (.int .i64 0), .sc (.bool o.isSome)] ++ o.getD zE ++ [.sc (.int .i64 (c 0)), .sc (.int .i64 (c 1)), .sc (.int .i64 (c 2))]
theorem Kw.len {e : List AV} (h : Kw e) : e.length = 20 := by rw [← h]; rfl
theorem zE_len : zE.length = 20 := rfl
theorem anL_has (o : Option (List AV)) (c : Nat → Int) : cellB (anL o c)[1]? = o.isSome := rfl
theorem o_len {o : Option (List AV)} (h : ∀ b, o = some b → Kw b) : (o.getD zE).length = 20 := by
  cases o with
  | none => rfl
  | some b => exact (h b rfl).len
theorem anL_en {o : Option (List AV)} {c : Nat → Int} (h : ∀ b, o = some b → Kw b) : ((anL o c).drop 2).take 20 = o.getD zE := by
  have := o_len h
  generalize ho : o.getD zE = l at this
  show ((_ :: _ :: (o.getD zE ++ _)).drop 2).take 20 = l
  rw [ho]
  show (l ++ _).take 20 = l
  rw [← this, List.take_left]
theorem anL_col {o : Option (List AV)} {c : Nat → Int} (h : ∀ b, o = some b → Kw b) {k : Nat} (hk : k < 3) : cellI (anL o c)[22 + k]? = c k := by
  have := o_len h
  show cellI (_ :: _ :: (o.getD zE ++ [.sc (.int .i64 (c 0)), .sc (.int .i64 (c 1)), .sc (.int .i64 (c 2))]))[22 + k]? = c k
  generalize o.getD zE = l at this
  rw [show 22 + k = (20 + k) + 1 + 1 by omega, List.getElem?_cons_succ, List.getElem?_cons_succ, List.getElem?_append_right (by omega), this, show 20 + k - 20 = k by omega]
  have : k = 0 ∨ k = 1 ∨ k = 2 := by omega
  rcases this with rfl | rfl | rfl <;> rfl
theorem enA_den (ρ : Rho) (l : Nat) (i : IE) : X.denL ρ (enA l i) = ((ra_ ρ l (i.den ρ).toNat).drop 2).take 20 := by kernel_rfl
theorem ra_cb (ρ : Rho) (l j : Nat) : cellB (ra_ ρ l j)[1]? = ρ.cb l 1 j := rfl
theorem ra_cc (ρ : Rho) (l j k : Nat) (hk : k < 3) : cellI (ra_ ρ l j)[22 + k]? = ρ.ci l (22 + k) j := by
  have : k = 0 ∨ k = 1 ∨ k = 2 := by omega
  rcases this with rfl | rfl | rfl <;> rfl
/-- What Past answers of a write. -/
theorem past_b {e : List AV} (he : Kw e) (h0 : 0 ≤ cellI e[0]? ∧ cellI e[0]? < 3) (h1 : 0 ≤ cellI e[1]? ∧ cellI e[1]? < 3) : hasBody Try.prog 16 = true ∧ ∀ n h, CY Try.prog n 16 [.ro 20 [e] true] h (nineV (pvW e)) [] := by
  have q := past_w (rhW 1 (fun _ => e) (fun _ => 0) ⟨#[]⟩) 0 (.lit 0) (rhW_row 0 he) h0 h1
  have : X.denL (rhW 1 (fun _ => e) (fun _ => 0) ⟨#[]⟩) [.ro 20 [enW 0 (.lit 0)] true] = [.ro 20 [kcells e 0 kep] true] := by kernel_rfl
  rw [this, he] at q
  exact q
/-- The answers of the first round: what a prefix finds. -/
structure An (N : Nat) (W : Nat → List AV) (o : Nat → Option (List AV)) (n : Nat) : Prop where
  w : ∀ j, j < n → ∀ b, o j = some b → ∃ i, i < N ∧ b = W i
theorem An.kw {o : Nat → Option (List AV)} (k : Wk N W m n g) (h : An N W o n) {j : Nat} (hj : j < n) : ∀ b, o j = some b → Kw b := fun b hb => by
  obtain ⟨i, hi, rfl⟩ := h.w j hj b hb
  exact k.kw i hi
/-! ### All that was found -/
theorem nv_782 (ρ : Rho) (f : Nat → Int) {p : Nat} (hp : p < 9) : (putI ρ (nv 782 f)).i (782 + p) = f p := forM (f := fun p => (putI ρ (nv 782 f)).i (782 + p)) (g := f) (by kernel_rfl) hp
theorem t1_Bt : (List.range 9).map (fun p => lassoc (772 + p) (t1_B true).i) = (List.range 9).map fun p => some (.op .max .i64 (.op .max .i64 (.lit 0) (.var (772 + p))) (.var (782 + p))) := by kernel_rfl
theorem t1_Bf : (List.range 9).map (fun p => lassoc (772 + p) (t1_B false).i) = (List.range 9).map fun p => some (.var (772 + p)) := by kernel_rfl
/-- What the cut has, so far. -/
def Hd (V : Nat → Int) (o : Nat → Option (List AV)) (i : Nat) : Prop := ∀ j, j < i → ∀ b, o j = some b → had V b = true
theorem t1_ok {ρ : Rho} {o : Nat → Option (List AV)} {c : Nat → Nat → Int} (k : Wk N W m n g) (L : Lt N W m n g ρ) (ha : An N W o n) (hr : ∀ j, j < n → kcells ((RL.upd tdE anS (.var 504 kaW)).row ρ j) 0 kaW = anL (o j) (c j)) (hv : Vg W N (vA ρ 510)) :
    ∃ ρf, Agree 770 ρ ρf ∧ ((∀ j, j < n → ra_ ρf 770 j = anL (o j) (c j)) ∧ Vg W N (vA ρf 772) ∧ Hd (fun p => ρf.i (772 + p)) o n) ∧ LoopOk Try.prog ρf Try.f34.ntmps t1_c t1 := by
  suffices hh : ∃ (_ : Nat) (ρf : Rho), Agree t1.n ρ ρf ∧ ((∀ j, j < n → ra_ ρf 770 j = anL (o j) (c j)) ∧ Vg W N (vA ρf 772) ∧ Hd (fun p => ρf.i (772 + p)) o n) ∧ LoopOk Try.prog ρf Try.f34.ntmps t1_c t1 by
    obtain ⟨_, ρf, h1, h2, h3⟩ := hh
    exact ⟨ρf, h1, h2, h3⟩
  have a0 : Agree 770 ρ (t1_I.ap ρ) := Bind.agree (by kernel_rfl) ρ
  have r0 : lassoc 770 t1_I.r = some (.len 2, .upd tdE anS (.var 504 kaW)) := rfl
  have n6 := k.n6
  have n1 := k.n1
  refine loopOk_famE (L := t1) (N := Try.f34.ntmps) (body := t1_c) (P := Try.prog) rfl t1_Eb (fun _ => t1_S) (fun _ ρ' => Agree 770 ρ ρ' ∧ (∀ j, j < n → ra_ ρ' 770 j = anL (o j) (c j)) ∧ ∃ i : Nat, ρ'.i 771 = i ∧ i ≤ n ∧ Vg W N (vA ρ' 772) ∧ Hd (fun p => ρ'.i (772 + p)) o i) (fun _ ρ' => (∀ j, j < n → ra_ ρ' 770 j = anL (o j) (c j)) ∧ Vg W N (vA ρ' 772) ∧ Hd (fun p => ρ'.i (772 + p)) o n) (fun _ ρ' => (n - ρ'.i 771).toNat) ?_
    ⟨0, t1_I.ap ρ, a0, ⟨a0, fun j hj => by rw [ap_ra r0]; exact hr j hj, 0, rfl, Nat.zero_le _, hv.same k.wd fun x y hx hy => forM (n := 9) (f := fun p => (t1_I.ap ρ).i (772 + p)) (g := fun p => ρ.i (510 + p)) (by kernel_rfl) (show 3 * x + y < 9 by omega), fun j hj => absurd hj (by omega)⟩, fun E _ hE => okS_imp hE t1_ent ρ⟩
  rintro _ ρ' ⟨ag, hr, i, hi, hin, hv, hd⟩
  have L' := L.agree ag (by decide)
  have n2 := L'.n2
  by_cases cc : i < n
  · have ri := hr i cc
    have eh : (BE.cl 770 1 (.var 771)).den ρ' = (o i).isSome := by
      rw [cl_b (e := .var 771) (j := i) hi, ← ra_cb, ri]; rfl
    have fs : ∀ {ρ1 : Rho}, Agree 772 ρ' ρ1 → Facts.ok ρ1 (t1_F (o i).isSome) := fun {ρ1} a => by
      have i1 : ρ1.i 771 = i := by rw [← a.i 771 (by decide)]; exact hi
      have l1 : ρ1.len 2 = n := by rw [← a.len 2 (by decide)]; exact n2
      exact Facts.ok_cons (by rw [dlt_t]; simp only [IE.den, i1, l1]; omega) (Facts.ok_cons (by rw [← BE.bel_den a (.cl 770 1 (.var 771)) (by kernel_rfl)]; exact eh) (Facts.ok_cons (by rw [dlt_f]; simp only [IE.den, i1]; omega) (Facts.ok_cons (by rw [dlt_f]; simp only [IE.den, l1]; omega) (Facts.ok_cons (by rw [dlt_f]; simp only [IE.den, l1]; omega) (Facts.ok_nil _)))))
    cases ho : o i with
    | none =>
      rw [ho] at fs
      have a1 : Agree 770 ρ' ((t1_B false).ap ρ') := Bind.agree (by kernel_rfl) _
      have up : ((t1_B false).ap ρ').i 771 = ((i + 1 : Nat) : Int) := inc hi (by omega)
      have rr : lassoc 770 (t1_B false).r = some (.len 2, .var 770 kaW) := rfl
      have ev : ∀ p, p < 9 → ((t1_B false).ap ρ').i (772 + p) = ρ'.i (772 + p) := fun p hp => by rw [ap_i (forM t1_Bf hp)]; rfl
      refine .inr ⟨0, (t1_B false).ap ρ', goH (List.all_eq_true.1 t1_go false (by simp)) t1_fit rfl (cN_ok _) (LpsOk.nil _ _ _ _) (fs (Agree.refl _ _)), ⟨ag.trans a1, fun j hj => ?_, i + 1, up, cc, ?_, fun j hj b hb => ?_⟩, ?_, a1⟩
      · rw [ap_ra rr, var_ra, kc_ra]; exact hr j hj
      · exact hv.same k.wd fun x y hx hy => ev _ (by omega)
      · by_cases q : j = i
        · subst q; rw [ho] at hb; cases hb
        · obtain ⟨ii, hii, rfl⟩ := ha.w j (by omega) b hb
          have d3 : eD (W ii) < 3 := k.wd.d ii hii
          have r3 : eR (W ii) < 3 := k.wd.r ii hii
          have h1 : eS (W ii) ≤ ρ'.i (772 + (3 * eD (W ii) + eR (W ii))) := of_decide_eq_true (hd j (by omega) _ hb)
          refine decide_eq_true (show eS (W ii) ≤ ((t1_B false).ap ρ').i (772 + (3 * eD (W ii) + eR (W ii))) from ?_)
          rw [ev _ (by omega)]
          exact h1
      · show (n - _ : Int).toNat < (n - _ : Int).toNat
        rw [up, hi]; omega
    | some b =>
      rw [ho] at fs
      obtain ⟨jj, hjj, rfl⟩ := ha.w i cc b ho
      have a1 : Agree 782 ρ' (putI ρ' (nv 782 (pvW (W jj)))) := putI_agree ρ' (by kernel_rfl)
      have a2 : Agree 770 (putI ρ' (nv 782 (pvW (W jj)))) ((t1_B true).ap (putI ρ' (nv 782 (pvW (W jj))))) := Bind.agree (by kernel_rfl) _
      generalize hρ : putI ρ' (nv 782 (pvW (W jj))) = ρ1 at a1 a2
      have i1 : ρ1.i 771 = i := by rw [← a1.i 771 (by decide)]; exact hi
      have rows1 : ∀ j, ra_ ρ1 770 j = ra_ ρ' 770 j := fun j => ra_agree a1 (by decide) j
      have cok : CfgOk Try.prog ρ1 (cfgL (t1_k true) (fun _ => [])) := cK_ok (List.forall_mem_cons.2 ⟨by
        have q := past_b (k.kw jj hjj) (k.d0 jj hjj) (k.d1 jj hjj)
        have e : X.den ρ1 (.agg (vi 782 9)) = nineV (pvW (W jj)) := by rw [← hρ]; kernel_rfl
        have e2 : X.denL ρ1 (enA 770 (.var 771)) = W jj := by
          rw [enA_den, show (IE.var 771).den ρ1 = (i : Int) from i1, Int.toNat_natCast, rows1, ri, anL_en (ha.kw k cc), ho]; rfl
        have e3 : X.denL ρ1 [.ro 20 [enA 770 (.var 771)] true] = [.ro 20 [X.denL ρ1 (enA 770 (.var 771))] true] := by kernel_rfl
        rw [← e, ← e2, ← e3] at q
        exact q, List.forall_mem_nil _⟩)
      have up : ((t1_B true).ap ρ1).i 771 = ((i + 1 : Nat) : Int) := inc i1 (by omega)
      have rr : lassoc 770 (t1_B true).r = some (.len 2, .var 770 kaW) := rfl
      have ev : ∀ x y, x < 3 → y < 3 → vA ((t1_B true).ap ρ1) 772 x y = max (max 0 (vA ρ' 772 x y)) (pvW (W jj) (3 * x + y)) := fun x y hx hy => by
        have hp : 3 * x + y < 9 := by omega
        show ((t1_B true).ap ρ1).i (772 + (3 * x + y)) = _
        rw [ap_i (forM t1_Bt hp)]
        show max (max 0 (ρ1.i (772 + (3 * x + y)))) (ρ1.i (782 + (3 * x + y))) = _
        rw [← a1.i _ (by omega), ← hρ, nv_782 _ _ hp]
        rfl
      have J := hv.jn k.wd hjj ev
      refine .inr ⟨0, (t1_B true).ap ρ1, goH (List.all_eq_true.1 t1_go true (by simp)) t1_fit (XS.bel_den a1 _ (by kernel_rfl)) cok (LpsOk.nil _ _ _ _) (fs (a1.le (by decide))), ⟨ag.trans ((a1.le (by decide)).trans a2), fun j hj => ?_, i + 1, up, cc, hv.join k.wd hjj ev, fun j hj b hb => ?_⟩, ?_, (a1.le (show 770 ≤ 782 by decide)).trans a2⟩
      · rw [ap_ra rr, var_ra, kc_ra, rows1]; exact hr j hj
      · by_cases q : j = i
        · subst q
          rw [ho] at hb
          cases hb
          exact decide_eq_true (J.self (k.wd.d jj hjj) (k.wd.r jj hjj))
        · obtain ⟨ii, hii, rfl⟩ := ha.w j (by omega) b hb
          have d3 : eD (W ii) < 3 := k.wd.d ii hii
          have r3 : eR (W ii) < 3 := k.wd.r ii hii
          have h1 : eS (W ii) ≤ ρ'.i (772 + (3 * eD (W ii) + eR (W ii))) := of_decide_eq_true (hd j (by omega) _ hb)
          have h2 : ρ'.i (772 + (3 * eD (W ii) + eR (W ii))) ≤ ((t1_B true).ap ρ1).i (772 + (3 * eD (W ii) + eR (W ii))) := J.le d3 r3
          exact decide_eq_true (Int.le_trans h1 h2)
      · show (n - _ : Int).toNat < (n - _ : Int).toNat
        rw [up, hi]; omega
  · obtain rfl : i = n := by omega
    refine .inl ⟨ρ', Agree.refl _ _, ⟨hr, hv, hd⟩, rfl, ?_⟩
    exact endH t1_end t1_fit (cN_ok _) (LpsOk.nil _ _ _ _) (Facts.ok_cons (show decide (ρ'.i 771 < (ρ'.len 2 : Int)) = false by rw [hi, n2]; exact decide_eq_false (by omega)) (Facts.ok_nil _)) rfl
end Go.Proofs.Ytdlifdoglhhnfaa

/- Txn: TxnWorld: the turn's second loop: what is to be read again. -/
namespace Go.Proofs.Ytdlifdoglhhnfaa
open Go Go.Proofs.Aw Go.Proofs.Xw Go.Proofs.Sr
set_option maxRecDepth 100000
variable {N n : Nat} {W : Nat → List AV} {m : Int} {g : Nat → ByteArray}
/-- An answer's column covers the cut's. -/
def CvK (m : Int) (g : Nat → ByteArray) (V : Nat → Int) (c : Nat → Nat → Int) (j : Nat) : Prop := ∀ k, k < 3 → V (3 * k + rgK m (g j)) ≤ c j k
/-- What is listed. -/
def Ls (ρ : Rho) (l k n : Nat) : Prop := ρ.len l = k ∧ ∀ t, t < k → 0 ≤ ρ.ci l 0 t ∧ ρ.ci l 0 t < n
def t2R (m : Int) (g : Nat → ByteArray) (c : Nat → Nat → Int) (V : Nat → Int) (s i : Nat) (ρ : Rho) : Prop :=
  if s = 0 then ∀ j, j < i → CvK m g V c j else ∃ k, 1 ≤ k ∧ k ≤ i ∧ Ls ρ 801 k i ∧ ∀ j, j < i → CvK m g V c j ∨ ∃ t, t < k ∧ ρ.ci 801 0 t = j
theorem t2_ok {ρ : Rho} {o : Nat → Option (List AV)} {c : Nat → Nat → Int} (k : Wk N W m n g) (L : Lt N W m n g ρ) (ha : An N W o n) (hr : ∀ j, j < n → ra_ ρ 770 j = anL (o j) (c j)) {t : Nat} (ht : t ≤ 6) (h2 : ρ.i 502 = t) (h3 : ρ.i 503 = 1) (h5 : ρ.len 505 = t + 1) :
    ∃ s ρf, Agree 800 ρ ρf ∧ (s < 2 ∧ t2R m g c (fun p => ρ.i (772 + p)) s n ρf) ∧ LoopOk Try.prog ρf Try.f34.ntmps t2_c (t2L s) := by
  let V : Nat → Int := fun p => ρ.i (772 + p)
  suffices hh : ∃ (s : Nat) (ρf : Rho), Agree t2B.n ρ ρf ∧ (s < 2 ∧ t2R m g c V s n ρf ∧ (ρf.b 806 = true ↔ s = 1)) ∧ LoopOk Try.prog ρf Try.f34.ntmps t2_c t2B by
    obtain ⟨s, ρf, h1, ⟨h2, h3, h4⟩, h5⟩ := hh
    refine ⟨s, ρf, h1, ⟨h2, h3⟩, one_way h5 rfl rfl rfl fun e t ht => ?_⟩
    have e0 : t2B.out.sel ρf = some (.exit 2, t2_S s) := by
      unfold t2B
      by_cases q : s = 1
      · rw [T.sel, if_pos (show (BE.var 806).den ρf = true from h4.2 q), q]; rfl
      · have : s = 0 := by omega
        rw [T.sel, if_neg (show ¬ (BE.var 806).den ρf = true from fun k => q (h4.1 k)), this]; rfl
    rw [e0] at ht
    exact ht
  have a0 : Agree 800 ρ (t2_I.ap ρ) := Bind.agree (by kernel_rfl) ρ
  have n6 := k.n6
  have n1 := k.n1
  refine loopOk_famE (L := t2B) (N := Try.f34.ntmps) (body := t2_c) (P := Try.prog) rfl t2_Eb t2_S (fun s ρ' => Agree 800 ρ ρ' ∧ s < 2 ∧ ∃ i : Nat, ρ'.i 800 = i ∧ i ≤ n ∧ t2R m g c V s i ρ') (fun s ρ' => s < 2 ∧ t2R m g c V s n ρ' ∧ (ρ'.b 806 = true ↔ s = 1)) (fun _ ρ' => (n - ρ'.i 800).toNat) ?_
    ⟨0, t2_I.ap ρ, a0, ⟨a0, by decide, 0, rfl, Nat.zero_le _, fun j hj => absurd hj (by omega)⟩, fun E _ hE => okS_imp hE t2_ent ρ⟩
  rintro s ρ' ⟨ag, hs, i, hi, hin, hg⟩
  have L' := L.agree ag (by decide)
  have n2 := L'.n2
  by_cases cc : i < n
  · obtain ⟨kr, r3⟩ := k.rg (g i)
    generalize hrr : rgK m (g i) = r at kr r3
    let ρ1 := putI ρ' ((802, (r : Int)) :: (List.range 3).map fun x => (803 + x, V (3 * x + r)))
    have a1 : Agree 802 ρ' ρ1 := putI_agree ρ' (by kernel_rfl)
    have i1 : ρ1.i 800 = i := by rw [← a1.i 800 (by decide)]; exact hi
    have r1 : ρ1.i 802 = r := rfl
    have c1 : ∀ x, x < 3 → ρ1.i (803 + x) = V (3 * x + r) := fun x hx => by
      have : x = 0 ∨ x = 1 ∨ x = 2 := by omega
      rcases this with rfl | rfl | rfl <;> rfl
    have v1 : ∀ p, p < 9 → ρ1.i (772 + p) = V p := fun p hp => by rw [← a1.i _ (by omega), ← ag.i _ (by omega)]
    have L1 := L'.agree a1 (by decide)
    have row1 : ra_ ρ1 770 i = anL (o i) (c i) := by rw [ra_agree a1 (by decide), ra_agree ag (by decide)]; exact hr i cc
    have cl1 : ∀ x, x < 3 → (IE.cl 770 (22 + x) (.var 800)).den ρ1 = c i x := fun x hx => by
      rw [cl_i (e := .var 800) (j := i) i1, ← ra_cc ρ1 770 i x hx, row1]
      exact anL_col (ha.kw k cc) hx
    have nc : ncE.den ρ1 = true ↔ ¬ CvK m g V c i := by
      unfold ncE
      rw [dor_t, dor_t, dlt_t, dlt_t, dlt_t, cl1 0 (by decide), cl1 1 (by decide), cl1 2 (by decide)]
      show (c i 0 < ρ1.i (803 + 0) ∨ c i 1 < ρ1.i (803 + 1) ∨ c i 2 < ρ1.i (803 + 2)) ↔ _
      rw [c1 0 (by decide), c1 1 (by decide), c1 2 (by decide)]
      unfold CvK
      rw [hrr]
      constructor
      · intro h q
        have q0 := q 0 (by decide)
        have q1 := q 1 (by decide)
        have q2 := q 2 (by decide)
        omega
      · intro h
        refine Classical.byContradiction fun q => h fun x hx => ?_
        have : x = 0 ∨ x = 1 ∨ x = 2 := by omega
        rcases this with rfl | rfl | rfl <;> omega
    have cok : CfgOk Try.prog ρ1 (cfgL t2_k (fun _ => [])) := cK_ok (List.forall_mem_cons.2 ⟨by
      have q := of_cy (g i) (k.sz i cc) m k.m13
      unfold OfG at q
      have e : X.denL ρ1 [.sc (.s (.cl 2 0 (.var 800))), xi 401] = [.sc (.string (g i)), .sc (.int .i64 m)] := by
        show [AV.sc (.string ((TE.cl 2 0 (.var 800)).den ρ1)), AV.sc (.int .i64 (ρ1.i 401))] = _
        rw [sl_den (n := i) (by exact i1), L1.g2, L1.m1]
      show hasBody Try.prog 17 = true ∧ ∀ n h, CY Try.prog n 17 (X.denL ρ1 [.sc (.s (.cl 2 0 (.var 800))), xi 401]) h (.sc (.int .i64 (ρ1.i 802))) []
      rw [e, r1, ← kr]
      exact q, List.forall_mem_cons.2 ⟨by
      have q := part_row ρ1 772 (.var 802)
      rw [show (IE.var 802).den ρ1 = (r : Int) from r1, pc_eq _ r3 (by decide), pc_eq _ r3 (by decide), pc_eq _ r3 (by decide), v1 _ (by omega), v1 _ (by omega), v1 _ (by omega), ← c1 0 (by decide), ← c1 1 (by decide), ← c1 2 (by decide)] at q
      exact q, List.forall_mem_nil _⟩⟩)
    have fs : ∀ y : Bool, ncE.den ρ1 = y → Facts.ok ρ1 (t2_F y s) := fun y hy => by
      have e2 : ρ1.i 502 = t := by rw [← a1.i 502 (by decide), ← ag.i 502 (by decide)]; exact h2
      have e3 : ρ1.i 503 = 1 := by rw [← a1.i 503 (by decide), ← ag.i 503 (by decide)]; exact h3
      have e5 : ρ1.len 505 = t + 1 := by rw [← a1.len 505 (by decide), ← ag.len 505 (by decide)]; exact h5
      refine all_ok (Facts.ok_cons (by rw [dlt_t]; simp only [IE.den, i1, L1.n2]; omega) (Facts.ok_cons hy (Facts.ok_cons (by rw [dlt_f]; simp only [IE.den, i1]; omega) (Facts.ok_cons (by rw [dlt_f]; simp only [IE.den, L1.n2]; omega) (Facts.ok_cons (by rw [dlt_f]; simp only [IE.den, L1.n2]; omega) (Facts.ok_cons (by rw [deq_t]; simp only [IE.den, e3]) (Facts.ok_cons (by rw [dlt_f]; simp only [IE.den, e2]; omega) (Facts.ok_cons (by rw [dlt_f]; simp only [IE.den, e2]; omega) (Facts.ok_cons (by rw [deq_t]; simp only [IE.den, IOp.den, e2, e3, e5]; omega) (Facts.ok_nil _)))))))))) ?_
      split
      · exact Facts.ok_nil _
      · rename_i q
        have s0 : s ≠ 0 := fun e => q (by rw [e]; rfl)
        unfold t2R at hg
        rw [if_neg s0] at hg
        obtain ⟨kk, k1, k2, k3, _⟩ := hg
        exact Facts.ok_cons (by rw [dlt_f]; simp only [IE.den, ← a1.len 801 (by decide), k3.1]; omega) (Facts.ok_nil _)
    have s2 : s = 0 ∨ s = 1 := by omega
    have bel : (t2_S s).bel 802 = true := by rcases s2 with rfl | rfl <;> kernel_rfl
    by_cases q : CvK m g V c i
    · have hy : ncE.den ρ1 = false := by
        cases e : ncE.den ρ1 with
        | false => rfl
        | true => exact absurd q (nc.1 e)
      have a2 : Agree 800 ρ1 ((t2_N s).ap ρ1) := Bind.agree (by rcases s2 with rfl | rfl <;> kernel_rfl) _
      have up : ((t2_N s).ap ρ1).i 800 = ((i + 1 : Nat) : Int) := inc i1 (by omega)
      refine .inr ⟨s, (t2_N s).ap ρ1, goH (forB t2_n hs) t2_fit (XS.bel_den a1 _ bel) cok (LpsOk.nil _ _ _ _) (fs false hy), ⟨ag.trans ((a1.le (by decide)).trans a2), hs, i + 1, up, cc, ?_⟩, ?_, (a1.le (show 800 ≤ 802 by decide)).trans a2⟩
      · unfold t2R at *
        rcases s2 with rfl | rfl
        · rw [if_pos rfl] at *
          intro j hj
          by_cases e : j = i
          · subst e; exact q
          · exact hg j (by omega)
        · rw [if_neg (by decide)] at *
          obtain ⟨kk, k1, k2, k3, k4⟩ := hg
          have rr : lassoc 801 (t2_N 1).r = some (.len 801, .var 801 [.i .i64]) := rfl
          have cl : ∀ t, ((t2_N 1).ap ρ1).ci 801 0 t = ρ'.ci 801 0 t := fun t => by rw [ap_ci rr, row_i, ← a1.ci 801 (by decide)]
          refine ⟨kk, k1, by omega, ⟨?_, fun t ht => ?_⟩, fun j hj => ?_⟩
          · rw [ap_len rr]
            show ((ρ1.len 801 : Int)).toNat = _
            rw [← a1.len 801 (by decide), k3.1]; omega
          · rw [cl]
            have := k3.2 t ht
            omega
          · by_cases e : j = i
            · subst e; exact .inl q
            · rcases k4 j (by omega) with h | ⟨t, t1, t2⟩
              · exact .inl h
              · exact .inr ⟨t, t1, by rw [cl]; exact t2⟩
      · show (n - _ : Int).toNat < (n - _ : Int).toNat
        rw [up, hi]; omega
    · have hy : ncE.den ρ1 = true := nc.2 q
      have a2 : Agree 800 ρ1 ((t2_Y s).ap ρ1) := Bind.agree (by rcases s2 with rfl | rfl <;> kernel_rfl) _
      have up : ((t2_Y s).ap ρ1).i 800 = ((i + 1 : Nat) : Int) := inc i1 (by omega)
      refine .inr ⟨1, (t2_Y s).ap ρ1, goH (forB t2_y hs) t2_fit (XS.bel_den a1 _ bel) cok (LpsOk.nil _ _ _ _) (fs true hy), ⟨ag.trans ((a1.le (by decide)).trans a2), by decide, i + 1, up, cc, ?_⟩, ?_, (a1.le (show 800 ≤ 802 by decide)).trans a2⟩
      · unfold t2R at *
        rw [if_neg (by decide)]
        rcases s2 with rfl | rfl
        · rw [if_pos rfl] at hg
          have rr : lassoc 801 (t2_Y 0).r = some (.lit 1, .one [.i .i64 (.var 800)]) := rfl
          have cl : ∀ t, ((t2_Y 0).ap ρ1).ci 801 0 t = i := fun t => by rw [ap_ci rr, row_one]; exact i1
          refine ⟨1, by omega, by omega, ⟨ap_len rr, fun t ht => by rw [cl]; omega⟩, fun j hj => ?_⟩
          by_cases e : j = i
          · subst e; exact .inr ⟨0, by decide, cl 0⟩
          · exact .inl (hg j (by omega))
        · rw [if_neg (by decide)] at hg
          obtain ⟨kk, k1, k2, k3, k4⟩ := hg
          have rr : lassoc 801 (t2_Y 1).r = some (.op .padd .i64 (.len 801) (.lit 1), .app (.len 801) (.var 801 [.i .i64]) (.one [.i .i64 (.var 800)])) := rfl
          have l1 : ρ1.len 801 = kk := by rw [← a1.len 801 (by decide)]; exact k3.1
          have cl : ∀ t, ((t2_Y 1).ap ρ1).ci 801 0 t = if t < kk then ρ'.ci 801 0 t else i := fun t => by
            rw [ap_ci rr, row_app, l1, ← a1.ci 801 (by decide), show (IE.var 800).den ρ1 = (i : Int) from i1]
          refine ⟨kk + 1, by omega, by omega, ⟨?_, fun t ht => ?_⟩, fun j hj => ?_⟩
          · rw [ap_len rr]
            show ((ρ1.len 801 : Int) + 1).toNat = _
            rw [l1]; omega
          · rw [cl]
            split
            · rename_i h
              have := k3.2 t h
              omega
            · omega
          · by_cases e : j = i
            · subst e; exact .inr ⟨kk, by omega, by rw [cl, if_neg (by omega)]⟩
            · rcases k4 j (by omega) with h | ⟨t, t1, t2⟩
              · exact .inl h
              · exact .inr ⟨t, by omega, by rw [cl, if_pos t1]; exact t2⟩
      · show (n - _ : Int).toNat < (n - _ : Int).toNat
        rw [up, hi]; omega
  · obtain rfl : i = n := by omega
    have s2 : s = 0 ∨ s = 1 := by omega
    have a1 : Agree 806 ρ' (putB ρ' 806 (Nat.beq s 1)) := putB_agree ρ' (Nat.le_refl _)
    have b1 : (putB ρ' 806 (Nat.beq s 1)).b 806 = Nat.beq s 1 := rfl
    have b2 : (putB ρ' 806 (Nat.beq s 1)).b 806 = true ↔ s = 1 := by rw [b1, Nat.beq_eq]
    refine .inl ⟨putB ρ' 806 (Nat.beq s 1), a1.le (show 800 ≤ 806 by decide), ⟨hs, ?_, b2⟩, ?_, ?_⟩
    · exact hg
    · exact XS.bel_den a1 _ (by rcases s2 with rfl | rfl <;> kernel_rfl)
    · refine endH (forB t2_end hs) t2_fit (cN_ok _) (LpsOk.nil _ _ _ _) (Facts.ok_cons (show decide (ρ'.i 800 < (ρ'.len 2 : Int)) = false by rw [hi, n2]; exact decide_eq_false (by omega)) (Facts.ok_nil _)) ?_
      unfold t2B
      by_cases q : s = 1
      · rw [T.sel, if_pos (show (BE.var 806).den _ = true from b2.2 q), q]; rfl
      · have : s = 0 := by omega
        rw [T.sel, if_neg (show ¬ (BE.var 806).den _ = true from fun k => q (b2.1 k)), this]; rfl
end Go.Proofs.Ytdlifdoglhhnfaa

/- Txn: TxnWorld: one read. -/
namespace Go.Proofs.Ytdlifdoglhhnfaa
open Go Go.Proofs.Aw Go.Proofs.Xw Go.Proofs.Sr
set_option maxRecDepth 100000
variable {N n : Nat} {W : Nat → List AV} {m : Int} {g : Nat → ByteArray}
/-- The letters at the main loop's head. -/
structure Mh (n : Nat) (ρ : Rho) (i t kk : Nat) : Prop where
  hi : ρ.i 500 = i
  ht : ρ.i 502 = t
  hk : ρ.i 503 = kk
  l : ρ.len 505 = t + kk
  lb : t + kk ≤ n
  c : ∀ x, x < t + kk → 0 ≤ ρ.ci 505 0 x ∧ ρ.ci 505 0 x < n
theorem Mh.agree {ρ ρ' : Rho} {k i t kk : Nat} (h : Mh n ρ i t kk) (ag : Agree k ρ ρ') (hk : 506 ≤ k) : Mh n ρ' i t kk :=
  ⟨by rw [← ag.i 500 (by omega)]; exact h.hi, by rw [← ag.i 502 (by omega)]; exact h.ht, by rw [← ag.i 503 (by omega)]; exact h.hk, by rw [← ag.len 505 (by omega)]; exact h.l, h.lb, by rw [← ag.ci 505 (by omega)]; exact h.c⟩
theorem Mh.td {ρ : Rho} {i t kk : Nat} (h : Mh n ρ i t kk) : tdE.den ρ = ρ.ci 505 0 t := by
  show ρ.ci 505 0 (ρ.i 502).toNat = _
  rw [h.ht, Int.toNat_natCast]
theorem Mh.key {ρ : Rho} {i t kk : Nat} (h : Mh n ρ i t kk) (hk : 1 ≤ kk) : ∃ j : Nat, tdE.den ρ = j ∧ j < n ∧ ρ.ci 505 0 t = j := by
  have := h.c t (by omega)
  rw [h.td]
  exact ⟨(ρ.ci 505 0 t).toNat, by omega, by omega, by omega⟩
theorem mnF_ok {ρ : Rho} {i t kk : Nat} (k : Wk N W m n g) (h : Mh n ρ i t kk) (n2 : ρ.len 2 = n) (i2 : i < 2 * n) (k1 : 1 ≤ kk) : Facts.ok ρ mnF := by
  have n1 := k.n1
  have n6 := k.n6
  have lb := h.lb
  obtain ⟨j, hj, hjn, _⟩ := h.key k1
  refine Facts.ok_cons ?_ (Facts.ok_cons ?_ (Facts.ok_cons ?_ (Facts.ok_cons ?_ (Facts.ok_cons ?_ (Facts.ok_cons ?_ (Facts.ok_cons ?_ (Facts.ok_cons ?_ (Facts.ok_cons ?_ (Facts.ok_cons ?_ (Facts.ok_cons ?_ (Facts.ok_cons ?_ (Facts.ok_cons ?_ (Facts.ok_cons ?_ (Facts.ok_nil _))))))))))))))
  · rw [dlt_f]; simp only [IE.den, n2]; omega
  · rw [dlt_f]; simp only [IE.den, n2]; omega
  · rw [dlt_f]; simp only [IE.den, h.hi]; omega
  · rw [dlt_f]; simp only [IE.den, h.hi]; omega
  · rw [dlt_t]; simp only [IE.den, IOp.den, h.hi, n2]; rw [wrap_id _ (by omega) (by omega)]; omega
  · rw [dlt_f]; simp only [IE.den, h.ht]; omega
  · rw [dlt_f]; simp only [IE.den, h.ht]; omega
  · rw [dlt_t]; simp only [IE.den, h.hk]; omega
  · rw [dlt_f]; simp only [IE.den, h.hk]; omega
  · rw [deq_t]; simp only [IE.den, IOp.den, h.ht, h.hk, h.l]; omega
  · rw [dlt_f]; simp only [IE.den, IOp.den, h.ht, h.hk, h.l]; omega
  · rw [dlt_t]; simp only [IE.den, h.ht, h.l]; omega
  · rw [dlt_f, hj]; simp only [IE.den]; omega
  · rw [dlt_t, hj]; simp only [IE.den, n2]; omega
theorem rdF_ok {ρ : Rho} {rd r : Nat} (k : Wk N W m n g) (L : Lt N W m n g ρ) (r3 : r < 3) (h1 : ρ.i 519 = rd) (h2 : ρ.i 520 = r) : Facts.ok ρ (rdF rd r) := by
  have l := L.ll r r3
  have le := Lr_len W N r
  have nb := k.nb
  exact Facts.ok_cons (by rw [deq_t]; exact h1) (Facts.ok_cons (by rw [deq_t]; exact h2) (Facts.ok_cons (by rw [dlt_f]; simp only [IE.den, l]; omega) (Facts.ok_nil _)))
theorem rm_rng (x len : Int) (h1 : 0 ≤ len) (h2 : len ≤ 60) : ∃ p : Nat, IOp.den .rem .i64 (IOp.den .add .i64 (IOp.den .add .i64 (IOp.den .rem .i64 x (IOp.den .add .i64 len 1)) len) 1) (IOp.den .add .i64 len 1) = p ∧ (p : Int) ≤ len := by
  simp only [IOp.den]
  rw [wrap_id (len + 1) (by omega) (by omega)]
  have a1 := Int.tmod_lt_of_pos x (show 0 < len + 1 by omega)
  have a2 := Int.tmod_lt_of_pos (-x) (show 0 < len + 1 by omega)
  rw [Int.neg_tmod] at a2
  generalize x.tmod (len + 1) = y at a1 a2
  rw [wrap_id (y + len) (by omega) (by omega), wrap_id _ (by omega) (by omega)]
  have b1 := Int.tmod_nonneg (len + 1) (show 0 ≤ y + len + 1 by omega)
  have b2 := Int.tmod_lt_of_pos (y + len + 1) (show 0 < len + 1 by omega)
  exact ⟨_, (Int.toNat_of_nonneg b1).symm, by omega⟩
/-- How far is read. -/
theorem n_rng {ρ : Rho} {r : Nat} (k : Wk N W m n g) (L : Lt N W m n g ρ) (r3 : r < 3) : Facts.ok ρ (nF r) ∧ ∃ p : Nat, (nE r).den ρ = p ∧ p ≤ (Lr W N r).length := by
  have l := L.ll r r3
  have le := Lr_len W N r
  have nb := k.nb
  obtain ⟨p, hp, hpl⟩ := rm_rng ((IE.cl 3 0 (.var 500)).den ρ) (Lr W N r).length (by omega) (by omega)
  have e1 : (rmE r).den ρ = p := by
    rw [← hp]
    show IOp.den .rem .i64 (IOp.den .add .i64 (IOp.den .add .i64 (IOp.den .rem .i64 _ (IOp.den .add .i64 (ρ.len (411 + r) : Int) 1)) (ρ.len (411 + r) : Int)) 1) (IOp.den .add .i64 (ρ.len (411 + r) : Int) 1) = _
    rw [l]
  have e2 : ∃ p : Nat, (nE r).den ρ = p ∧ p ≤ (Lr W N r).length := by
    unfold nE
    simp only [IE.den]
    split
    · exact ⟨p, e1, by omega⟩
    · exact ⟨_, rfl, by omega⟩
  obtain ⟨p', h1, h2⟩ := e2
  refine ⟨Facts.ok_cons ?_ (Facts.ok_cons ?_ (Facts.ok_cons ?_ (Facts.ok_nil _))), p', h1, h2⟩
  · rw [dlt_f, e1]; simp only [IE.den]; omega
  · rw [dlt_f, e1]; simp only [IE.den]; omega
  · rw [dlt_f, h1]; simp only [IE.den, l]; omega
/-! ### The letters of an answer -/
def putR (ρ : Rho) (r : Nat) (o : Option (List AV)) (c : Nat → Int) : Rho := putI (putB (putE ρ 720 (o.getD zE)) 740 o.isSome) ((520, (r : Int)) :: (742, c 0) :: (743, c 1) :: (744, c 2) :: nv 750 (pvW (o.getD zE)))
theorem putR_agree (ρ : Rho) (r : Nat) (o : Option (List AV)) (c : Nat → Int) : Agree 520 ρ (putR ρ r o c) :=
  ((putE_agree ρ 720 (o.getD zE)).le (by decide)).trans (((putB_agree _ (show 740 ≤ 740 by decide)).le (by decide)).trans (putI_agree _ (by kernel_rfl)))
theorem kw_o {o : Option (List AV)} (h : ∀ b, o = some b → Kw b) : Kw (o.getD zE) := by
  cases o with
  | none => rfl
  | some b => exact h b rfl
theorem putR_en {ρ : Rho} {r : Nat} {o : Option (List AV)} {c : Nat → Int} (h : ∀ b, o = some b → Kw b) : X.denL (putR ρ r o c) (enL 720) = o.getD zE := by
  have : X.denL (putR ρ r o c) (enL 720) = kcells (o.getD zE) 0 kep := by kernel_rfl
  rw [this]; exact kw_o h
theorem putR_an {ρ : Rho} {r : Nat} {o : Option (List AV)} {c : Nat → Int} (h : ∀ b, o = some b → Kw b) : scL (putR ρ r o c) anS = anL o c := by
  unfold anL
  rw [← putR_en (ρ := ρ) (r := r) (c := c) h]
  kernel_rfl
theorem putR_ans {ρ : Rho} {r : Nat} {o : Option (List AV)} {c : Nat → Int} (h : ∀ b, o = some b → Kw b) : X.den (putR ρ r o c) ansX = anV o c := by
  unfold anV
  rw [← putR_en (ρ := ρ) (r := r) (c := c) h]
  kernel_rfl
theorem putR_pv (ρ : Rho) (r : Nat) (o : Option (List AV)) (c : Nat → Int) : X.den (putR ρ r o c) (.agg (vi 750 9)) = nineV (pvW (o.getD zE)) := by kernel_rfl
/-- The answer is put. -/
theorem upd_row {ρ : Rho} {r jj : Nat} {o : Option (List AV)} {c : Nat → Int} (h : ∀ b, o = some b → Kw b) (hj : tdE.den (putR ρ r o c) = jj) (j : Nat) : kcells ((RL.upd tdE anS (.var 504 kaW)).row (putR ρ r o c) j) 0 kaW = if j = jj then anL o c else ra_ ρ 504 j := by
  simp only [RL.row, hj]
  by_cases q : j = jj
  · subst q
    rw [if_pos rfl, if_pos rfl, ← putR_an (ρ := ρ) (r := r) h]
    rfl
  · rw [if_neg (by omega), if_neg q, ← ra_agree (putR_agree ρ r o c) (by decide)]
    simp only [Int.toNat_natCast]
    rfl
/-! ### The contracts of a read -/
theorem kOf_cy {ρ : Rho} {jj : Nat} (k : Wk N W m n g) (L : Lt N W m n g ρ) (hj : tdE.den ρ = jj) (hn : jj < n) (hr : ρ.i 520 = rgK m (g jj)) : hasBody Try.prog 17 = true ∧ ∀ n h, CY Try.prog n 17 (X.denL ρ [kyE, xi 401]) h (X.den ρ (xi 520)) [] := by
  have q := of_cy (g jj) (k.sz jj hn) m k.m13
  unfold OfG at q
  have e : X.denL ρ [kyE, xi 401] = [.sc (.string (g jj)), .sc (.int .i64 m)] := by
    show [AV.sc (.string ((TE.cl 2 0 tdE).den ρ)), AV.sc (.int .i64 (ρ.i 401))] = _
    rw [sl_den hj, L.g2, L.m1]
  rw [e]
  show hasBody Try.prog 17 = true ∧ ∀ n h, CY Try.prog n 17 _ h (.sc (.int .i64 (ρ.i 520))) []
  rw [hr, ← (k.rg (g jj)).1]
  exact q
theorem kRd_args {ρ : Rho} {q : Bool} {jj r p : Nat} {V : Nat → Int} {l : IE} (L : Lt N W m n g ρ) (hj : tdE.den ρ = jj) (r3 : r < 3) (hr : ρ.i 520 = r) (hv : q = true → ∀ x, x < 9 → ρ.i (510 + x) = V x) (hl : l.den ρ = p) (hp : p ≤ (Lr W N r).length) : X.denL ρ [xi 520, qX q, .rl 20 l (.var (411 + r) kep) false] = [.sc (.int .i64 r), qyV q (g jj) V, roR p (lg W N r)] := by
  have e1 : X.den ρ (xi 520) = .sc (.int .i64 r) := by
    show AV.sc (.int .i64 (ρ.i 520)) = _
    rw [hr]
  have e2 : X.den ρ (qX q) = qyV q (g jj) V := by
    have h1 : qyV q (g jj) V = qyV q ((TE.cl 2 0 tdE).den ρ) fun x => ρ.i (510 + x) := by
      unfold qyV
      have : c9V q V = c9V q fun x => ρ.i (510 + x) := by
        unfold c9V
        exact List.map_congr_left fun x hx => by
          show AV.sc (.int .i64 (if q = true then V x else 0)) = AV.sc (.int .i64 (if q = true then ρ.i (510 + x) else 0))
          by_cases hq : q = true
          · rw [if_pos hq, if_pos hq, hv hq x (List.mem_range.1 hx)]
          · rw [if_neg hq, if_neg hq]
      rw [this, sl_den hj, L.g2]
    rw [h1]
    cases q <;> (show _ = _; kernel_rfl)
  have e3 : X.den ρ (.rl 20 l (.var (411 + r) kep) false) = roR p (lg W N r) := by
    show AV.ro 20 (rowsD ρ l (.var (411 + r) kep)) false = _
    unfold roR rowsD
    rw [hl, Int.toNat_natCast]
    congr 1
    exact List.map_congr_left fun x hx => (var_row ρ (411 + r) x).trans (L.lr r r3 x (by have := List.mem_range.1 hx; omega))
  simp only [X.denL]
  rw [e1, e2, e3]
/-- What a read answers, by the log and the prefix. -/
theorem rdW (k : Wk N W m n g) (q : Bool) (x : ByteArray) {r p : Nat} (r3 : r < 3) (hp : p ≤ (Lr W N r).length) {V : Nat → Int} (hv : ∀ y, y < 9 → 0 ≤ V y) :
    ∃ c : Nat → Int, Col (lg W N r) p c ∧ hasBody Try.prog 28 = true ∧ (q = true → (∃ k, k < 3 ∧ c k < V (3 * k + r)) → ∀ m h, CY Try.prog m 28 [.sc (.int .i64 r), qyV q x V, roR p (lg W N r)] h bhV []) ∧
      ((q = true → ∀ k, k < 3 → V (3 * k + r) ≤ c k) → ∀ m h, CY Try.prog m 28 [.sc (.int .i64 r), qyV q x V, roR p (lg W N r)] h (anV (grW x (sn q V p (lg W N r))) c) []) :=
  read_cy (q := q) (x := x) (r := r) (n := p) (W := lg W N r) (V := V) r3 (by have := Lr_len W N r; have := k.nb; omega) (fun j hj => (k.lk (by omega)).1) (fun j hj => (k.lk (by omega)).2.1) (fun j hj => (k.lk (by omega)).2.2) hv
theorem sn_f (V : Nat → Int) (p : Nat) (L : Nat → List AV) : sn false V p L = (List.range p).map L := by
  unfold sn
  exact List.filter_eq_self.2 fun _ _ => rfl
/-- What is found is one of the writes. -/
theorem gr_w {q : Bool} {V : Nat → Int} {x : ByteArray} {r p : Nat} {b : List AV} (hp : p ≤ (Lr W N r).length) (h : grW x (sn q V p (lg W N r)) = some b) : (∃ j, j < N ∧ b = W j) ∧ (q = true → had V b = true) := by
  have h1 := List.mem_filter.1 (gr_mem h).1
  obtain ⟨m', hm, rfl⟩ := List.mem_map.1 h1.1
  have hm := List.mem_range.1 hm
  obtain ⟨j, _, jN, _, e⟩ := lg_lt (show m' < (Lr W N r).length by omega)
  refine ⟨⟨j, jN, e⟩, fun hq => ?_⟩
  have := h1.2
  rw [hq] at this
  exact this
end Go.Proofs.Ytdlifdoglhhnfaa

/- Txn: TxnWorld: the main loop. -/
namespace Go.Proofs.Ytdlifdoglhhnfaa
open Go Go.Proofs.Aw Go.Proofs.Xw Go.Proofs.Sr
set_option maxRecDepth 100000
variable {N n : Nat} {W : Nat → List AV} {m : Int} {g : Nat → ByteArray}
noncomputable def mn : LoopX := ⟨(codeKey mn_c).getD 0, 0, 500, mn_E, noB, [], .ret (.exit 2, mn_S)⟩
def mn_I : Bind := ⟨[(500, .lit 0), (502, .lit 0), (503, .len 461), (519, .lit 1)] ++ (List.range 9).map (fun j => (510 + j, .lit 0)), [], [], [(504, .len 2, .one zaS), (505, .len 461, .var 461 [.i .i64])]⟩
theorem mn_ent : okS 0 500 mn_I [] mn_S mn_E = true := by kernel_rfl
theorem mn_Eb : mn_E.bel 500 = true := by kernel_rfl
theorem mn_Sb : mn_S.bel 520 = true := by kernel_rfl
theorem mn_fit : fitsC Try.f6.ntmps mn_c = true := by kernel_rfl
/-- What a key's answer is, in the first round, and in the end. -/
def F1 (N : Nat) (W : Nat → List AV) (m : Int) (g : Nat → ByteArray) (j : Nat) (row : List AV) : Prop := ∃ o c p, p ≤ (Lr W N (rgK m (g j))).length ∧ Col (lg W N (rgK m (g j))) p c ∧ o = grW (g j) ((List.range p).map (lg W N (rgK m (g j)))) ∧ row = anL o c
def F2 (N : Nat) (W : Nat → List AV) (g : Nat → ByteArray) (V : Nat → Int) (j : Nat) (row : List AV) : Prop := ∃ c, row = anL (grW (g j) (sn true V N W)) c
def vC (ρ : Rho) (p : Nat) : Int := ρ.i (510 + p)
/-- In the first round; behind it. -/
def P1 (N : Nat) (W : Nat → List AV) (m : Int) (n : Nat) (g : Nat → ByteArray) (ρ : Rho) (i t kk : Nat) : Prop :=
  ρ.i 519 = 1 ∧ i = t ∧ t + kk = n ∧ 1 ≤ kk ∧ (∀ p, p < 9 → ρ.i (510 + p) = 0) ∧ (∀ x, x < n → ρ.ci 505 0 x = x) ∧ ∀ j, j < t → F1 N W m g j (ra_ ρ 504 j)
def P2 (N : Nat) (W : Nat → List AV) (n : Nat) (g : Nat → ByteArray) (ρ : Rho) (i t kk : Nat) : Prop :=
  Vg W N (vA ρ 510) ∧ (kk = 0 ∨ (ρ.i 519 = 2 ∧ i = n + t)) ∧ ∀ j, j < n → (∃ x, t ≤ x ∧ x < t + kk ∧ ρ.ci 505 0 x = j) ∨ F2 N W g (vC ρ) j (ra_ ρ 504 j)
def MnQ (N : Nat) (W : Nat → List AV) (n : Nat) (g : Nat → ByteArray) (ρ : Rho) : Prop := ∃ t : Nat, ρ.i 502 = t ∧ ρ.i 503 = 0 ∧ ρ.len 505 = t ∧ Vg W N (vA ρ 510) ∧ ∀ j, j < n → F2 N W g (vC ρ) j (ra_ ρ 504 j)
/-! ### A read is done -/
theorem mB_v : (List.range 9).map (fun p => lassoc (510 + p) mn_B.i) = (List.range 9).map fun p => some (.var (510 + p)) := by kernel_rfl
theorem mB_cut (ρ : Rho) {p : Nat} (hp : p < 9) : (mn_B.ap ρ).i (510 + p) = ρ.i (510 + p) := by rw [ap_i (forM mB_v hp)]; rfl
theorem mB_rd (ρ : Rho) : (mn_B.ap ρ).i 519 = ρ.i 519 := rfl
theorem mB_td (ρ : Rho) (x : Nat) : (mn_B.ap ρ).ci 505 0 x = ρ.ci 505 0 x := by
  have rr : lassoc 505 mn_B.r = some (.len 505, .var 505 [.i .i64]) := rfl
  rw [ap_ci rr, row_i]
theorem mB_row (ρ : Rho) (j : Nat) : ra_ (mn_B.ap ρ) 504 j = kcells ((RL.upd tdE anS (.var 504 kaW)).row ρ j) 0 kaW := by
  have rr : lassoc 504 mn_B.r = some (.len 2, .upd tdE anS (.var 504 kaW)) := rfl
  exact ap_ra rr j
theorem mB_h {ρ : Rho} {i t kk : Nat} (h : Mh n ρ i t kk) (n6 : n ≤ 6) (i2 : i < 2 * n) (k1 : 1 ≤ kk) : Mh n (mn_B.ap ρ) (i + 1) (t + 1) (kk - 1) where
  hi := inc h.hi (by omega)
  ht := by show ρ.i 502 + 1 = _; rw [h.ht]; omega
  hk := by show ρ.i 503 - 1 = _; rw [h.hk]; omega
  l := by
    have rr : lassoc 505 mn_B.r = some (.len 505, .var 505 [.i .i64]) := rfl
    rw [ap_len rr]
    show ((ρ.len 505 : Int)).toNat = _
    rw [h.l]; omega
  lb := by have := h.lb; omega
  c := fun x hx => by rw [mB_td]; exact h.c x (by omega)
/-- A contract of Read. -/
theorem kRd_ok {ρ : Rho} {q : Bool} {r : Nat} {l : IE} {a : X} {args : List AV} {av : AV} (e1 : X.denL ρ [xi 520, qX q, .rl 20 l (.var (411 + r) kep) false] = args) (e2 : X.den ρ a = av) (hb : hasBody Try.prog 28 = true) (cy : ∀ k h, CY Try.prog k 28 args h av []) : hasBody Try.prog (kRd q r l a).1 = true ∧ ∀ k h, CY Try.prog k (kRd q r l a).1 (X.denL ρ (kRd q r l a).2.1) h ((kRd q r l a).2.2.den ρ) [] := by
  show hasBody Try.prog 28 = true ∧ ∀ k h, CY Try.prog k 28 (X.denL ρ [xi 520, qX q, .rl 20 l (.var (411 + r) kep) false]) h (X.den ρ a) []
  rw [e1, e2]
  exact ⟨hb, cy⟩
theorem kPs_ok {ρ : Rho} {r : Nat} {o : Option (List AV)} {c : Nat → Int} (k : Wk N W m n g) (ho : ∀ b, o = some b → ∃ j, j < N ∧ b = W j) : hasBody Try.prog kPs.1 = true ∧ ∀ h hp, CY Try.prog h kPs.1 (X.denL (putR ρ r o c) kPs.2.1) hp (kPs.2.2.den (putR ρ r o c)) [] := by
  have kw : ∀ b, o = some b → Kw b := fun b hb => by obtain ⟨j, hj, rfl⟩ := ho b hb; exact k.kw j hj
  have e : X.denL (putR ρ r o c) kPs.2.1 = [.ro 20 [X.denL (putR ρ r o c) (enL 720)] true] := by kernel_rfl
  show hasBody Try.prog 16 = true ∧ ∀ h hp, CY Try.prog h 16 (X.denL (putR ρ r o c) kPs.2.1) hp (X.den (putR ρ r o c) (.agg (vi 750 9))) []
  rw [e, putR_en kw, putR_pv]
  cases o with
  | none => exact past_b (e := zE) rfl (by decide) (by decide)
  | some b =>
    obtain ⟨j, hj, rfl⟩ := ho b rfl
    exact past_b (k.kw j hj) (k.d0 j hj) (k.d1 j hj)
theorem zE_pv (k : Nat) (hk : k < 9) : pvW zE k = 0 := by
  have : k = 0 ∨ k = 1 ∨ k = 2 ∨ k = 3 ∨ k = 4 ∨ k = 5 ∨ k = 6 ∨ k = 7 ∨ k = 8 := by omega
  rcases this with rfl | rfl | rfl | rfl | rfl | rfl | rfl | rfl | rfl <;> decide
theorem kCv_ok {ρ : Rho} {r : Nat} {o : Option (List AV)} {c : Nat → Int} (hv : Vg W N (vA ρ 510)) (ho : ∀ b, o = some b → (∃ j, j < N ∧ b = W j) ∧ had (vC ρ) b = true) : hasBody Try.prog kCv.1 = true ∧ ∀ h hp, CY Try.prog h kCv.1 (X.denL (putR ρ r o c) kCv.2.1) hp (kCv.2.2.den (putR ρ r o c)) [] := by
  refine cov_row (putR ρ r o c) 510 750 fun d hd => ?_
  have e1 : (putR ρ r o c).i (510 + d) = ρ.i (510 + d) := ((putR_agree ρ r o c).i _ (by omega)).symm
  have e2 : (putR ρ r o c).i (750 + d) = pvW (o.getD zE) d := forM (f := fun d => (putR ρ r o c).i (750 + d)) (g := pvW (o.getD zE)) (by kernel_rfl) hd
  rw [e1, e2]
  cases o with
  | none =>
    show pvW zE d ≤ _
    rw [zE_pv d hd]
    have := hv.nn (d / 3) (d % 3) (by omega) (by omega)
    have e : vA ρ 510 (d / 3) (d % 3) = ρ.i (510 + d) := by unfold vA; congr 1; omega
    rw [e] at this; exact this
  | some b =>
    obtain ⟨⟨j, hj, rfl⟩, h⟩ := ho b rfl
    exact (had_ge (V := vC ρ) hv hj h d hd).2
/-! ### The turn -/
theorem lpT_ok {ρ : Rho} {s : Nat} (h1 : LoopOk Try.prog ρ Try.f34.ntmps t1_c t1) (h2 : LoopOk Try.prog ρ Try.f34.ntmps t2_c (t2L s)) : ∀ f i, btLook f ftsT = some i → LpsOk Try.prog ρ i.ntmps (lpT s f) i.body := by
  intro f i h
  have hi := fts_ok (f, i) (bt_of_mem _ _ (btLook_mem h))
  unfold lpT
  split
  · rename_i hf
    obtain rfl := Nat.eq_of_beq_eq_true hf
    refine lps_row hi Try.func34 ?_
    exact lps_idx [0, 1] (by kernel_rfl) (List.forall_mem_cons.2 ⟨look_list (c := t1_c) (Ls := [t1]) (by kernel_rfl) (List.forall_mem_cons.2 ⟨h1, List.forall_mem_nil _⟩), List.forall_mem_cons.2 ⟨look_list (c := t2_c) (Ls := [t2L s]) (by kernel_rfl) (List.forall_mem_cons.2 ⟨h2, List.forall_mem_nil _⟩), List.forall_mem_nil _⟩⟩)
  · exact LpsOk.nil _ _ _ _
theorem mT_v (s : Nat) : (List.range 9).map (fun p => lassoc (510 + p) (mn_T s).i) = (List.range 9).map fun p => some (.var (772 + p)) := by kernel_rfl
theorem mT_row (ρ : Rho) (s j : Nat) : ra_ ((mn_T s).ap ρ) 504 j = ra_ ρ 770 j := by
  have rr : lassoc 504 (mn_T s).r = some (.len 2, .var 770 kaW) := rfl
  rw [ap_ra rr, var_ra, kc_ra]
theorem mT_cut (ρ : Rho) (s : Nat) {p : Nat} (hp : p < 9) : ((mn_T s).ap ρ).i (510 + p) = ρ.i (772 + p) := by rw [ap_i (forM (mT_v s) hp)]; rfl
end Go.Proofs.Ytdlifdoglhhnfaa
