/- Parts of the proof, one behind the other. -/
import Derived.Test.YtdlifdoglhhnfaaTM4
import Derived.Test.YtdlifdoglhhnfaaTM3
import Derived.Test.YtdlifdoglhhnfaaTM1
import Derived.Test.YtdlifdoglhhnfaaXwM3
/- Txn: TxnWorld: the states of the loop over the writes and of those inside; their runs, all at once. -/
namespace Go.Proofs.Ytdlifdoglhhnfaa
open Go Go.Proofs.Aw Go.Proofs.Xw Go.Proofs.Sr
set_option maxRecDepth 100000
/-! ### Runs that lead on, or to an end -/
def goB (k0 n : Nat) (β : Bind) (nm : List (Nm × Nm)) (U : XS) : T (XE × XS) → Bool
  | .ret (.normal, s) => okS k0 n β nm U s
  | _ => false
def endB (k0 : Nat) (e : XE) (s' : XS) : T (XE × XS) → Bool
  | .ret (.exit j, s) => (match e with
    | .exit i => Nat.beq i j
    | _ => false) && okS k0 1000 noB [] s' s
  | .ret (.ret, s) => (match e with
    | .ret => true
    | _ => false) && okS k0 1000 noB [] s' s
  | _ => false
theorem goB_ret {k0 n : Nat} {β : Bind} {nm : List (Nm × Nm)} {U : XS} {t : T (XE × XS)} (h : goB k0 n β nm U t = true) : ∃ s, t = .ret (.normal, s) ∧ okS k0 n β nm U s = true := by
  unfold goB at h
  split at h
  · exact ⟨_, rfl, h⟩
  · cases h
theorem endB_ret {k0 : Nat} {e : XE} {s' : XS} {t : T (XE × XS)} (h : endB k0 e s' t = true) : ∃ s, t = .ret (e, s) ∧ e ≠ .normal ∧ okS k0 1000 noB [] s' s = true := by
  unfold endB at h
  split at h
  · rw [Bool.and_eq_true] at h
    obtain ⟨h1, h2⟩ := h
    split at h1
    · rw [Nat.eq_of_beq_eq_true h1]
      exact ⟨_, rfl, (fun h => nomatch h), h2⟩
    · cases h1
  · rw [Bool.and_eq_true] at h
    obtain ⟨h1, h2⟩ := h
    split at h1
    · exact ⟨_, rfl, (fun h => nomatch h), h2⟩
    · cases h1
  · cases h
noncomputable def runW (ks : List (Nat × List X × X)) (lps : Nat → List LoopX) (f k0 : Nat) (ls : List LoopX) (c : Code) (keys : List Nat) (Φ : Facts) (S : XS) : T (XE × XS) :=
  (codeX (cfgL ks lps).ti (callS ⟨cfgL ks lps, l_able, [33]⟩ 12) (((cfgL ks lps).ft f).elim [] (·.ms)) k0 ls 1000 c Φ S).map (sqz keys)
theorem goW {N f k0 n : Nat} {c : Code} {S U : XS} {keys : List Nat} {ls : List LoopX} {ρ ρ1 : Rho} {ks : List (Nat × List X × X)} {lps : Nat → List LoopX} {Φ : Facts} {β : Bind} {nm : List (Nm × Nm)} (h : goB k0 n β nm U (runW ks lps f k0 ls c keys Φ S) = true) (hfit : fitsC N c = true) (hd : S.den ρ = S.den ρ1) (cok : CfgOk Try.prog ρ1 (cfgL ks lps)) (hl : LpsOk Try.prog ρ1 N ls c) (hk : Facts.ok ρ1 Φ) : StepF Try.prog N c k0 S U ρ (β.ap ρ1) := by
  obtain ⟨s, e, ho⟩ := goB_ret h
  exact fam_goU hfit hd cok hl hk e rfl ho
theorem endW {N f k0 : Nat} {c : Code} {S : XS} {keys : List Nat} {ls : List LoopX} {ρ : Rho} {ks : List (Nat × List X × X)} {lps : Nat → List LoopX} {Φ : Facts} {out : T (XE × XS)} {e : XE} {s' : XS} (h : endB k0 e s' (runW ks lps f k0 ls c keys Φ S) = true) (hfit : fitsC N c = true) (cok : CfgOk Try.prog ρ (cfgL ks lps)) (hl : LpsOk Try.prog ρ N ls c) (hk : Facts.ok ρ Φ) (ho : out.sel ρ = some (e, s')) : EndL Try.prog N c k0 S out ρ := by
  obtain ⟨s, e1, e2, e3⟩ := endB_ret h
  exact endF_of mixed cok.ti (callS_ok (c := ⟨cfgL ks lps, l_able, [33]⟩) cok l_able_ok 12) hl hfit hk rfl e2 (by show (runW ks lps f k0 ls c keys Φ S).sel ρ = _; rw [e1]; rfl) ⟨s', ho, fun E hb => okS_imp hb e3 ρ⟩
theorem forB {n : Nat} {p : Nat → Bool} (h : (List.range n).all p = true) {b : Nat} (hb : b < n) : p b = true := List.all_eq_true.1 h b (List.mem_range.2 hb)
/-! ### The states -/
def tpW (ks : List Nat) : XTp := ks.map fun k => (k, .top)
def xi (v : Nat) : X := .sc (.i .i64 (.var v))
def nlW : X := .k (.slice none 0 0)
def kep : List Kd := List.replicate 6 (.i .i64) ++ [.s, .s, .b] ++ List.replicate 11 (.i .i64)
def bit (b r : Nat) : Bool := Nat.beq (b / 2 ^ r % 2) 1
/-- The world's object, and the logs that are not nil. -/
def hpW (b : Nat) : XHp := ((23, 0), (if Nat.beq b 0 = true then nlW else .slv (100, 0) 20 (.lit 0) (.len 410) true) :: (List.range 3).map fun r => if bit b r = true then .slv (101 + r, 0) 20 (.lit 0) (.len (411 + r)) true else nlW) ::
  ((if Nat.beq b 0 = true then [] else [((100, 0), [.rows 20 (.len 410) (.var 410 kep)])]) ++ ((List.range 3).filter (bit b)).map fun r => ((101 + r, 0), [.rows 20 (.len (411 + r)) (.var (411 + r) kep)]))
def wdA : List X := [.sc (.i .i64 (.var 0)), .rn 3 (.len 1) 1 [.f .s, .f (.i .i64), .r 1 130 [.i .i64]] false, .rl 1 (.len 2) (.var 2 [.s]) false, .rl 1 (.len 3) (.var 3 [.i .i64]) false]
def nrE : IE := .cl 1 1002 (.var 400)
def szW : IE := .slen (.cl 1 0 (.var 400))
def inW : BE := .lt (.var 400) (.len 1)
def w0F : Facts := [(.lt (.lit 60) (.len 1), false), (.lt (.var 400) (.lit 0), false)]
def w1F : Facts := [(.lt szW (.lit 1), false), (.lt (.lit 16) szW, false), (.lt (.lit 10) nrE, false), (.lt nrE (.lit 0), false), (.lt (.var 431) (.lit 0), false), (.lt (.lit 2) (.var 431), false)]
def wrF : Facts := w0F ++ ((inW, true) :: w1F)
def alF (b : Nat) : Facts := if Nat.beq b 0 = true then [] else [(.lt (.lit 0) (.len 410), true), (.lt (.lit 60) (.len 410), false)]
def logF (b : Nat) : Facts := ((List.range 3).filter (bit b)).flatMap fun r => [(.lt (.lit 0) (.len (411 + r)), true), (.lt (.lit 60) (.len (411 + r)), false)]
def wrX (b n : Nat) (i g : IE) (x : X) : XS := ⟨(10, .sc (.i .i64 i)) :: (9, .ptr (23, 0) [] 0) :: (tpW [49, 48, 47, 46, 45, 44, 43, 42, 41, 40, 39, 38, 37, 36, 35] ++ ((0, .sc (.i .i64 g)) :: (tpW [34, 33, 32, 31, 30, 29, 28] ++ [(8, x), (1, .rn 3 (.len 1) 1 [.f .s, .f (.i .i64), .r 1 130 [.i .i64]] false), (2, .rl 1 (.len 2) (.var 2 [.s]) false), (3, .rl 1 (.len 3) (.var 3 [.i .i64]) false)]))), hpW b, n⟩
/-! ### What was read -/
def rsW : XTp := (7, .ptr (158, 0) [] 0) :: (tpW [25, 24, 23, 22, 21, 20] ++ ((6, xi 431) :: (tpW [19, 18, 17, 16] ++ [(4, .ptr (146, 0) [] 0), (0, .ptr (23, 0) [] 0), (1, .top), (2, .top)])))
def hlW (b : Nat) (d : List X) : XHp := hpW b ++ [((146, 0), [.sc (.s (.cl 1 0 (.var 400))), .sc (.i .i64 (.cl 1 1 (.var 400))), .rl 1 nrE (.drop (.cl 1 2 (.var 400)) (.var 130 [.i .i64])) false]), ((158, 0), d)]
def mxV (k l n : Nat) : List (Nat × IE) := (List.range n).map fun j => (k + j, .op .max .i64 (.op .max .i64 (.lit 0) (.var (k + j))) (.var (l + j)))
def pvV (k l n : Nat) : List (Nat × IE) := (List.range n).map fun j => (k + j, .var (l + j))
def enW (l : Nat) (i : IE) : List X := (List.range 6).map (fun k => .sc (.i .i64 (.cl l k i))) ++ [.sc (.s (.cl l 6 i)), .sc (.s (.cl l 7 i)), .sc (.b (.cl l 8 i))] ++ (List.range 11).map (fun k => .sc (.i .i64 (.cl l (9 + k) i)))
abbrev zTM5_0 : BE := .eq (.var 9) (.lit 0)
abbrev zTM5_1 : BE := .eq (.var 10) (.lit 0)
abbrev zTM5_2 : BE := .eq (.var 10) (.lit 1)
abbrev zTM5_3 : BE := .eq (.var 9) (.lit 1)
/-- The write that is read. -/
def JE : IE := (.op .rem .i64 (.op .add .i64 (.op .rem .i64 (.cl 130 0 (.op .padd .i64 (.var 440) (.cl 1 2 (.var 400)))) (.len 410)) (.len 410)) (.len 410))
def laX (b n : Nat) (i c : IE) (d : List X) : XS := ⟨(9, .sc (.i .i64 i)) :: (8, .sc (.i .i64 c)) :: rsW, hlW b d, n⟩
def la_E (b : Nat) : XS := laX b 161 (.lit 0) (.lit 0) (List.replicate 9 (.sc (.i .i64 (.lit 0))))
def la_S (b : Nat) : XS := laX b 161 (.var 440) (.var 441) (vi 450 9)
def la_X (b : Nat) : XS := laX b 166 (.var 440) (.var 441) (vi 450 9)
noncomputable def la_c : Code := (loopsOf (Try.f27.body.getD .skip))[0]?.getD .skip
noncomputable def la (b : Nat) : LoopX := ⟨(codeKey la_c).getD 0, 146, 440, la_E b, noB, [], .ret (.exit 0, la_X b)⟩
def la_I : Bind := ⟨(440, .lit 0) :: (441, .lit 0) :: (List.range 9).map fun j => (450 + j, .lit 0), [], [], []⟩
def la_B : Bind := ⟨(440, .op .add .i64 (.var 440) (.lit 1)) :: (441, .op .max .i64 (.var 441) (.cl 410 3 JE)) :: mxV 450 460 9, [], [], []⟩
def ksA : List (Nat × List X × X) := [(16, [.ro 20 [enW 410 JE] true], .agg (vi 460 9))]
def inA : BE := .lt (.var 440) nrE
def laF (b : Nat) : Facts := (inA, true) :: (.lt nrE (.lit 0), false) :: (.lt JE (.lit 0), false) :: (.lt JE (.len 410), true) :: (.lt (.var 440) (.lit 0), false) :: alF b
theorem la_go : ((List.range 8).all fun b => Nat.beq b 0 || goB 146 440 la_B [] (la_S b) (runW ksA (fun _ => []) 27 146 [] la_c ((la_S b).t.map (·.1)) (laF b) (la_S b))) = true := by kernel_rfl
theorem la_end : ((List.range 8).all fun b => Nat.beq b 0 || endB 146 (.exit 0) (la_X b) (runW [] (fun _ => []) 27 146 [] la_c ((la_S b).t.map (·.1)) [(inA, false), (.lt nrE (.lit 0), false)] (la_S b))) = true := by kernel_rfl
theorem la_ent : ((List.range 8).all fun b => okS 146 440 la_I [] (la_S b) (la_E b) && ((la_E b).bel 440 && ((la_S b).bel 460 && (la_X b).bel 460))) = true := by kernel_rfl
theorem la_fit : fitsC Try.f27.ntmps la_c = true := by kernel_rfl
/-! ### The range's log -/
def lbX (b n : Nat) (i c : IE) (d : List X) : XS := ⟨(11, .sc (.i .i64 i)) :: (9, .top) :: (8, .sc (.i .i64 c)) :: rsW, hlW b d, n⟩
def lb_E (b : Nat) : XS := lbX b 167 (.lit 0) (.var 441) (vi 450 9)
def lb_S (b : Nat) : XS := lbX b 167 (.var 480) (.var 481) (vi 490 9)
def lb_X (b : Nat) : XS := lbX b 176 (.var 480) (.var 481) (vi 490 9)
noncomputable def lb_c : Code := (loopsOf (Try.f27.body.getD .skip))[1]?.getD .skip
noncomputable def lb (b : Nat) : LoopX := ⟨(codeKey lb_c).getD 0, 146, 480, lb_E b, noB, [], .ret (.exit 2, lb_X b)⟩
def lb_I : Bind := ⟨(480, .lit 0) :: (481, .var 441) :: pvV 490 450 9, [], [], []⟩
def lb_B (r : Nat) : Bind := ⟨(480, .op .add .i64 (.var 480) (.lit 1)) :: (481, .op .max .i64 (.var 481) (.cl (411 + r) 3 (.var 480))) :: mxV 490 500 9, [], [], []⟩
def ksB (r : Nat) : List (Nat × List X × X) := [(16, [.ro 20 [enW (411 + r) (.var 480)] true], .agg (vi 500 9))]
def inB (r : Nat) : BE := .lt (.var 480) (.len (411 + r))
def lbF (r : Nat) : Facts := [(.lt (.var 480) (.lit 0), false), (.lt (.lit 60) (.len (411 + r)), false), (.eq (.var 431) (.lit r), true)]
def bits : List (Nat × Nat) := (List.range 24).map (fun n => (n / 3, n % 3)) |>.filter fun p => bit p.1 p.2
theorem lb_go : (bits.all fun p => goB 146 480 (lb_B p.2) [] (lb_S p.1) (runW (ksB p.2) (fun _ => []) 27 146 [] lb_c ((lb_S p.1).t.map (·.1)) ((inB p.2, true) :: lbF p.2) (lb_S p.1))) = true := by kernel_rfl
theorem lb_end : (bits.all fun p => endB 146 (.exit 2) (lb_X p.1) (runW [] (fun _ => []) 27 146 [] lb_c ((lb_S p.1).t.map (·.1)) ((inB p.2, false) :: lbF p.2) (lb_S p.1))) = true := by kernel_rfl
theorem lb_ent : ((List.range 8).all fun b => okS 146 480 lb_I [] (lb_S b) (lb_E b) && ((lb_E b).bel 480 && ((lb_S b).bel 500 && (lb_X b).bel 500))) = true := by kernel_rfl
theorem lb_fit : fitsC Try.f27.ntmps lb_c = true := by kernel_rfl
/-! ### All writes -/
def nnW : XTp := tpW [79, 80, 81, 82, 83, 84, 85, 86, 87]
def lcX (a : Bool) (b n : Nat) (i c : IE) (d : List X) : XS := ⟨(12, .sc (.i .i64 i)) :: ((if a = true then nnW.reverse else []) ++ ((11, .top) :: (9, .top) :: (8, .sc (.i .i64 c)) :: (rsW ++ if a = true then [] else nnW))), hlW b d, n⟩
def lc_E (a : Bool) (b : Nat) : XS := if a = true then lcX a b 177 (.lit 0) (.var 441) (vi 450 9) else lcX a b 177 (.lit 0) (.var 481) (vi 490 9)
def lc_S (b : Nat) : XS := lcX false b 177 (.var 520) (.var 521) (vi 522 9)
def lc_X (b : Nat) : XS := lcX false b 184 (.var 520) (.var 521) (vi 522 9)
noncomputable def lc_c : Code := (loopsOf (Try.f27.body.getD .skip))[2]?.getD .skip
noncomputable def lc (a : Bool) (b : Nat) : LoopX := ⟨(codeKey lc_c).getD 0, 146, 520, lc_E a b, noB, [], .ret (.exit 4, lc_X b)⟩
def lc_I (a : Bool) : Bind := ⟨(520, .lit 0) :: (521, if a = true then .var 441 else .var 481) :: pvV 522 (if a = true then 450 else 490) 9, [], [], []⟩
def lc_B : Bind := ⟨(520, .op .add .i64 (.var 520) (.lit 1)) :: (521, .ite (.and (.eq (.cl 410 1 (.var 520)) (.var 431)) (.var 531)) (.op .max .i64 (.var 521) (.cl 410 3 (.var 520))) (.var 521)) :: pvV 522 522 9, [], [], []⟩
def ksC : List (Nat × List X × X) := [(29, [.agg (vi 522 9), .agg ((List.range 3).map fun k => .sc (.i .i64 (.cl 410 k (.var 520))))], .sc (.b (.var 531)))]
def inC : BE := .lt (.var 520) (.len 410)
def lcF (b : Nat) : Facts := (.lt (.var 520) (.lit 0), false) :: alF b
theorem lc_go : ((List.range 8).all fun b => Nat.beq b 0 || goB 146 520 lc_B [] (lc_S b) (runW ksC (fun _ => []) 27 146 [] lc_c ((lc_S b).t.map (·.1)) ((inC, true) :: lcF b) (lc_S b))) = true := by kernel_rfl
theorem lc_end : ((List.range 8).all fun b => Nat.beq b 0 || endB 146 (.exit 4) (lc_X b) (runW [] (fun _ => []) 27 146 [] lc_c ((lc_S b).t.map (·.1)) ((inC, false) :: lcF b) (lc_S b))) = true := by kernel_rfl
theorem lc_ent : ((List.range 8).all fun b => okS 146 520 (lc_I false) [] (lc_S b) (lc_E false b) && (okS 146 520 (lc_I true) [] (lc_S b) (lc_E true b) && ((lc_E false b).bel 520 && ((lc_E true b).bel 520 && ((lc_S b).bel 531 && (lc_X b).bel 531))))) = true := by kernel_rfl
theorem lc_fit : fitsC Try.f27.ntmps lc_c = true := by kernel_rfl
end Go.Proofs.Ytdlifdoglhhnfaa

/- Txn: TxnWorld: the loop over the writes: its runs, all at once. -/
namespace Go.Proofs.Ytdlifdoglhhnfaa
open Go Go.Proofs.Aw Go.Proofs.Xw Go.Proofs.Sr
set_option maxRecDepth 100000
/-- The loops of lay, for a range whose log is nil or not. -/
noncomputable def lsW (b r : Nat) : List LoopX := if Nat.beq b 0 = true then [] else if bit b r = true then [la b, lb b, lc false b] else [la b, lc true b]
noncomputable def lpW (b r : Nat) (f : Nat) : List LoopX := if Nat.beq f 27 = true then lsW b r else []
theorem lpW_ok {ρ : Rho} {b r : Nat} (h0 : Nat.beq b 0 = false) (ha : LoopOk Try.prog ρ Try.f27.ntmps la_c (la b)) (hb : bit b r = true → LoopOk Try.prog ρ Try.f27.ntmps lb_c (lb b)) (hc : LoopOk Try.prog ρ Try.f27.ntmps lc_c (lc (!bit b r) b)) : ∀ f i, btLook f ftsT = some i → LpsOk Try.prog ρ i.ntmps (lpW b r f) i.body := by
  intro f i h
  have hi := fts_ok (f, i) (bt_of_mem _ _ (btLook_mem h))
  unfold lpW
  split
  · rename_i hf
    have hf := Nat.eq_of_beq_eq_true hf
    subst hf
    refine lps_row hi Try.func27 ?_
    unfold lsW
    rw [if_neg (by rw [h0]; decide)]
    cases q : bit b r with
    | true =>
      rw [q] at hc
      exact lps_idx [0, 1, 2] (by kernel_rfl) (List.forall_mem_cons.2 ⟨look_list (c := la_c) (Ls := [la b]) (by kernel_rfl) (List.forall_mem_cons.2 ⟨ha, List.forall_mem_nil _⟩), List.forall_mem_cons.2 ⟨look_list (c := lb_c) (Ls := [lb b]) (by kernel_rfl) (List.forall_mem_cons.2 ⟨hb q, List.forall_mem_nil _⟩), List.forall_mem_cons.2 ⟨look_list (c := lc_c) (Ls := [lc false b]) (by kernel_rfl) (List.forall_mem_cons.2 ⟨hc, List.forall_mem_nil _⟩), List.forall_mem_nil _⟩⟩⟩)
    | false =>
      rw [q] at hc
      exact lps_idx [0, 2] (by kernel_rfl) (List.forall_mem_cons.2 ⟨look_list (c := la_c) (Ls := [la b]) (by kernel_rfl) (List.forall_mem_cons.2 ⟨ha, List.forall_mem_nil _⟩), List.forall_mem_cons.2 ⟨look_list (c := lc_c) (Ls := [lc true b]) (by kernel_rfl) (List.forall_mem_cons.2 ⟨hc, List.forall_mem_nil _⟩), List.forall_mem_nil _⟩⟩)
  · exact LpsOk.nil _ _ _ _
def dcE : IE := .op .rem .i64 (.op .add .i64 (.op .rem .i64 (.cl 1 1 (.var 400)) (.lit 3)) (.lit 3)) (.lit 3)
def wr_E : XS := wrX 0 26 (.lit 0) (.op .add .i64 (.lit 1) (.op .rem .i64 (.op .add .i64 (.op .rem .i64 (.var 0) (.lit 3)) (.lit 3)) (.lit 3))) (.sc (.b (.lit false)))
def wr_S (b : Nat) : XS := wrX b 110 (.var 400) (.var 401) .top
def wr_X (b : Nat) : XS := wrX b 114 (.var 400) (.var 401) .top
/-- A way out with the answer true. -/
def wr_K : XS := ⟨((wr_S 0).t.map fun p => (p.1, .top)).map fun p => if Nat.beq p.1 8 = true then (8, .sc (.b (.lit true))) else p, [], 126⟩
noncomputable def wr_c : Code := (loopsOf (Try.f6.body.getD .skip))[0]?.getD .skip
/-- The write that is laid. -/
def sqW (b r : Nat) : IE := if Nat.beq b 0 = true then .lit 0 else .ite (.eq dcE (.lit 0)) (.var (522 + r)) (.ite (.eq dcE (.lit 1)) (.var (525 + r)) (.var (528 + r)))
def rwW (b r : Nat) : List Sc := [.i .i64 dcE, .i .i64 (.var 431), .i .i64 (if Nat.beq b 0 = true then .lit 1 else .op .add .i64 (sqW b r) (.lit 1)), .i .i64 (if Nat.beq b 0 = true then .lit 1 else .op .add .i64 (.var 521) (.lit 1)), .i .i64 dcE, .i .i64 (.var 431), .s (.cl 1 0 (.var 400)), .s (.lit ⟨#[118]⟩), .b (.lit false)] ++
  ((List.range 9).map fun j => .i .i64 (if Nat.beq b 0 = true then .lit 0 else .var (522 + j))) ++ [.i .i64 (.lit 0), .i .i64 (if Nat.beq b 0 = true then .lit 1 else .op .add .i64 (.len 410) (.lit 1))]
def apW (on : Bool) (l : Nat) (r : List Sc) : Nat × IE × RL := if on = true then (l, .op .padd .i64 (.len l) (.lit 1), .app (.len l) (.var l kep) (.one r)) else (l, .lit 1, .one r)
def keW (l : Nat) : Nat × IE × RL := (l, .len l, .var l kep)
def wr_B (b r : Nat) : Bind := ⟨[(400, .op .add .i64 (.var 400) (.lit 1)), (401, .var 401)], [], [], apW (!Nat.beq b 0) 410 (rwW b r) :: ((List.range 3).filter fun k => bit b k || Nat.beq k r).map fun k => if Nat.beq k r = true then apW (bit b r) (411 + k) (rwW b r) else keW (411 + k)⟩
def orB (b r : Nat) : Nat := if bit b r = true then b else b + 2 ^ r
def kW : Nat × List X × X := (17, [.sc (.s (.cl 1 0 (.var 400))), .sc (.i .i64 (.var 401))], .sc (.i .i64 (.var 431)))
def dcF : Facts := [(.lt dcE (.lit 0), false), (.lt dcE (.lit 3), true)]
def rgF (r : Nat) : BE × Bool := (.eq (.var 431) (.lit r), true)
def wr_F (b r : Nat) : Facts := rgF r :: (dcF ++ (wrF ++ (alF b ++ logF b)))
def wr_N (r : Nat) : List (Nm × Nm) := [((100, 0), (145, 0)), ((101 + r, 0), (145, 1))]
theorem wr_go : ((List.range 24).all fun n => goB 0 400 (wr_B (n / 3) (n % 3)) (wr_N (n % 3)) (wr_S (orB (n / 3) (n % 3))) (runW [kW] (lpW (n / 3) (n % 3)) 6 0 [] wr_c ((wr_S 0).t.map (·.1)) (wr_F (n / 3) (n % 3)) (wr_S (n / 3)))) = true := by kernel_rfl
theorem wr_bad1 : ((List.range 8).all fun b => endB 0 .ret wr_K (runW [] (fun _ => []) 6 0 [] wr_c ((wr_S 0).t.map (·.1)) ((inW, true) :: (.lt szW (.lit 1), true) :: w0F) (wr_S b))) = true := by kernel_rfl
theorem wr_bad2 : ((List.range 8).all fun b => endB 0 .ret wr_K (runW [] (fun _ => []) 6 0 [] wr_c ((wr_S 0).t.map (·.1)) ((inW, true) :: (.lt szW (.lit 1), false) :: (.lt (.lit 16) szW, true) :: w0F) (wr_S b))) = true := by kernel_rfl
theorem wr_bad3 : ((List.range 8).all fun b => endB 0 .ret wr_K (runW [] (fun _ => []) 6 0 [] wr_c ((wr_S 0).t.map (·.1)) ((inW, true) :: (.lt szW (.lit 1), false) :: (.lt (.lit 16) szW, false) :: (.lt (.lit 10) nrE, true) :: (.lt nrE (.lit 0), false) :: w0F) (wr_S b))) = true := by kernel_rfl
theorem wr_end : ((List.range 8).all fun b => endB 0 (.exit 0) (wr_X b) (runW [] (fun _ => []) 6 0 [] wr_c ((wr_S 0).t.map (·.1)) ((inW, false) :: w0F) (wr_S b))) = true := by kernel_rfl
theorem wr_ent : ((List.range 8).all fun b => (wr_S b).bel 414 && (wr_X b).bel 414) = true := by kernel_rfl
def wr_I : Bind := ⟨[(400, (.lit 0)), (401, (.op .add .i64 (.lit 1) (.op .rem .i64 (.op .add .i64 (.op .rem .i64 (.var 0) (.lit 3)) (.lit 3)) (.lit 3))))], [], [], []⟩
theorem wr_Ib : okS 0 400 wr_I [] (wr_S 0) wr_E = true := by kernel_rfl
theorem wr_Eb : wr_E.bel 400 = true := by kernel_rfl
theorem wr_fit : fitsC Try.f6.ntmps wr_c = true := by kernel_rfl
end Go.Proofs.Ytdlifdoglhhnfaa

/- Txn: TxnWorld: rows as they stand; what Past answers; a write's loop over what was read. -/
namespace Go.Proofs.Ytdlifdoglhhnfaa
open Go Go.Proofs.Aw Go.Proofs.Xw Go.Proofs.Sr
set_option maxRecDepth 100000
/-! ### Rows as they stand -/
theorem ap_cs {β : Bind} {ρ : Rho} {l k : Nat} {m : IE} {r : RL} (h : lassoc l β.r = some (m, r)) (j : Nat) : (β.ap ρ).cs l k j = cellS (r.row ρ j)[k]? := by simp only [Bind.ap, h]
/-- A cell of a kind, as a list tells it. -/
def kcell (cs : List AV) (k : Nat) : Kd → AV
  | .i K => .sc (.int K (cellI cs[k]?))
  | .b => .sc (.bool (cellB cs[k]?))
  | .s => .sc (.string (cellS cs[k]?))
def kcells (cs : List AV) : Nat → List Kd → List AV
  | _, [] => []
  | k, d :: ks => kcell cs k d :: kcells cs (k + 1) ks
theorem cellsV_k {β : Bind} {ρ : Rho} {l : Nat} {m : IE} {r : RL} (h : lassoc l β.r = some (m, r)) (j : Nat) : ∀ (ks : List Kd) (k : Nat), cellsV (β.ap ρ) l k ks j = kcells (r.row ρ j) k ks
  | [], _ => rfl
  | .i K :: ks, k => by simp only [cellsV, kcells, kcell, cellsV_k h j ks (k + 1), ap_ci h]
  | .b :: ks, k => by simp only [cellsV, kcells, kcell, cellsV_k h j ks (k + 1), ap_cb h]
  | .s :: ks, k => by simp only [cellsV, kcells, kcell, cellsV_k h j ks (k + 1), ap_cs h]
theorem cellsV_congr {ρ ρ' : Rho} {l : Nat} (hi : ρ'.ci l = ρ.ci l) (hb : ρ'.cb l = ρ.cb l) (hs : ρ'.cs l = ρ.cs l) (j : Nat) : ∀ (ks : List Kd) (k : Nat), cellsV ρ' l k ks j = cellsV ρ l k ks j
  | [], _ => rfl
  | .i K :: ks, k => by simp only [cellsV, cellsV_congr hi hb hs j ks (k + 1), hi]
  | .b :: ks, k => by simp only [cellsV, cellsV_congr hi hb hs j ks (k + 1), hb]
  | .s :: ks, k => by simp only [cellsV, cellsV_congr hi hb hs j ks (k + 1), hs]
/-- The j-th row of a letter of writes. -/
def rw_ (ρ : Rho) (l : Nat) (j : Nat) : List AV := cellsV ρ l 0 kep j
theorem rw_agree {n : Nat} {ρ ρ' : Rho} (h : Agree n ρ ρ') {l : Nat} (hl : l < n) (j : Nat) : rw_ ρ' l j = rw_ ρ l j :=
  cellsV_congr (h.ci l hl).symm (h.cb l hl).symm (h.cs l hl).symm j kep 0
theorem ap_row {β : Bind} {ρ : Rho} {l : Nat} {m : IE} {r : RL} (h : lassoc l β.r = some (m, r)) (j : Nat) : rw_ (β.ap ρ) l j = kcells (r.row ρ j) 0 kep := cellsV_k h j kep 0
theorem var_row (ρ : Rho) (l : Nat) (j : Nat) : (RL.var l kep).row ρ j = rw_ ρ l j := by simp only [RL.row, rw_, Int.toNat_natCast]
theorem app_row (ρ : Rho) {ss : List Sc} {l c : Nat} (hc : ρ.len l = c) (j : Nat) : (RL.app (.len l) (.var l kep) (.one ss)).row ρ j = if j < c then rw_ ρ l j else scL ρ ss := by
  simp only [RL.row]
  by_cases q : j < c
  · rw [if_pos (show (j : Int) < (IE.len l).den ρ from by simp only [IE.den]; omega), if_pos q]; exact var_row ρ l j
  · rw [if_neg (show ¬ (j : Int) < (IE.len l).den ρ from by simp only [IE.den]; omega), if_neg q]
theorem kc_rw (ρ : Rho) (l j : Nat) : kcells (rw_ ρ l j) 0 kep = rw_ ρ l j := rfl
theorem rw_ci (ρ : Rho) (l j : Nat) : ∀ k, k < 20 → k < 6 ∨ 9 ≤ k → cellI (rw_ ρ l j)[k]? = ρ.ci l k j := fun k h h2 => by
  have : k = 0 ∨ k = 1 ∨ k = 2 ∨ k = 3 ∨ k = 4 ∨ k = 5 ∨ k = 9 ∨ k = 10 ∨ k = 11 ∨ k = 12 ∨ k = 13 ∨ k = 14 ∨ k = 15 ∨ k = 16 ∨ k = 17 ∨ k = 18 ∨ k = 19 := by omega
  rcases this with rfl | rfl | rfl | rfl | rfl | rfl | rfl | rfl | rfl | rfl | rfl | rfl | rfl | rfl | rfl | rfl | rfl <;> rfl
theorem rw_cs (ρ : Rho) (l j : Nat) : cellS (rw_ ρ l j)[6]? = ρ.cs l 6 j := rfl
theorem forM {α : Type} {n : Nat} {f g : Nat → α} (h : (List.range n).map f = (List.range n).map g) {p : Nat} (hp : p < n) : f p = g p := List.map_inj_left.1 h p (List.mem_range.2 hp)
/-! ### A write by its cells -/
def eD (e : List AV) : Nat := (cellI e[0]?).toNat
def eR (e : List AV) : Nat := (cellI e[1]?).toNat
def eS (e : List AV) : Int := cellI e[2]?
def eV (e : List AV) (x y : Nat) : Int := cellI e[9 + (3 * x + y)]?
def eK (e : List AV) : ByteArray := cellS e[6]?
def WorldW (W : Nat → List AV) (N : Nat) : Prop := Wd.World (fun j => eD (W j)) (fun j => eR (W j)) (fun j => eS (W j)) (fun j => eV (W j)) N
theorem WorldW.congr {W W' : Nat → List AV} {N : Nat} (e : ∀ j, j < N → W' j = W j) (h : WorldW W N) : WorldW W' N where
  d := fun i hi => by show eD (W' i) < 3; rw [e i hi]; exact h.d i hi
  r := fun i hi => by show eR (W' i) < 3; rw [e i hi]; exact h.r i hi
  s := fun i hi => by show 1 ≤ eS (W' i); rw [e i hi]; exact h.s i hi
  nn := fun i hi => by show ∀ x y, x < 3 → y < 3 → 0 ≤ eV (W' i) x y; rw [e i hi]; exact h.nn i hi
  lg := fun i j hij hj hr => by
    have ei := e i (by omega)
    have ej := e j hj
    have hr : eR (W' i) = eR (W' j) := hr
    rw [ei, ej] at hr
    have := h.lg i j hij hj hr
    refine ⟨fun x y hx hy => ?_, ?_⟩
    · show eV (W' i) x y ≤ eV (W' j) x y
      rw [ei, ej]; exact this.1 x y hx hy
    · show eS (W' i) ≤ eV (W' j) (eD (W' i)) (eR (W' i))
      rw [ei, ej]; exact this.2
  sq := fun j hj => by
    show eS (W' j) = eV (W' j) (eD (W' j)) (eR (W' j)) + 1
    rw [e j hj]; exact h.sq j hj
  cl := fun j hj i hi hh => by
    have ei := e i hi
    have hh : eS (W' i) ≤ eV (W' j) (eD (W' i)) (eR (W' i)) := hh
    rw [ei, e j hj] at hh
    have := h.cl j hj i hi hh
    refine ⟨fun x y hx hy => ?_, ?_⟩
    · show eV (W' i) x y ≤ eV (W' j) x y
      rw [ei, e j hj]; exact this.1 x y hx hy
    · show eS (W' i) ≤ eV (W' j) (eD (W' i)) (eR (W' i))
      rw [ei, e j hj]; exact this.2
  bd := fun j hj x y hx hy => by
    show eV (W' j) x y ≤ 0 ∨ ∃ i, i < N ∧ eD (W' i) = x ∧ eR (W' i) = y ∧ eV (W' j) x y ≤ eS (W' i)
    rw [e j hj]
    rcases h.bd j hj x y hx hy with h | ⟨i, h1, h2, h3, h4⟩
    · exact .inl h
    · exact .inr ⟨i, h1, by rw [e i h1]; exact h2, by rw [e i h1]; exact h3, by rw [e i h1]; exact h4⟩
/-- A vector of which all is closed. -/
structure Vg (W : Nat → List AV) (N : Nat) (V : Nat → Nat → Int) : Prop where
  cl : Wd.Cl (fun j => eD (W j)) (fun j => eR (W j)) (fun j => eS (W j)) (fun j => eV (W j)) N V
  bd : Wd.Bd (fun j => eD (W j)) (fun j => eR (W j)) (fun j => eS (W j)) N V
  nn : ∀ x y, x < 3 → y < 3 → 0 ≤ V x y
/-- What Past of one write answers. -/
def pvW (e : List AV) (k : Nat) : Int := if k = 3 * eD e + eR e then max (max 0 (cellI e[9 + k]?)) (eS e) else max 0 (cellI e[9 + k]?)
theorem pvW_pst {W : Nat → List AV} {N j : Nat} (h : WorldW W N) (hj : j < N) {x y : Nat} (hx : x < 3) (hy : y < 3) : pvW (W j) (3 * x + y) = Wd.pst (fun j => eD (W j)) (fun j => eR (W j)) (fun j => eS (W j)) (fun j => eV (W j)) j x y := by
  have h0 := h.nn j hj x y hx hy
  have hr : eR (W j) < 3 := h.r j hj
  have h0 : 0 ≤ cellI (W j)[9 + (3 * x + y)]? := h0
  unfold pvW Wd.pst eV
  by_cases c : eD (W j) = x ∧ eR (W j) = y
  · rw [if_pos (by rw [c.1, c.2]), if_pos c]
    rw [Int.max_eq_right h0]
  · rw [if_neg (fun q => c (by omega)), if_neg c, Int.max_comm]
theorem Vg.join {W : Nat → List AV} {N j : Nat} {V V' : Nat → Nat → Int} (w : WorldW W N) (h : Vg W N V) (hj : j < N) (e : ∀ x y, x < 3 → y < 3 → V' x y = max (max 0 (V x y)) (pvW (W j) (3 * x + y))) : Vg W N V' := by
  have J : Wd.Jn (fun j => eD (W j)) (fun j => eR (W j)) (fun j => eS (W j)) (fun j => eV (W j)) V j V' := fun x y hx hy => by
    rw [e x y hx hy, pvW_pst w hj hx hy, Int.max_eq_right (h.nn x y hx hy)]
  exact ⟨h.cl.join w hj J, h.bd.join w hj J, fun x y hx hy => by rw [e x y hx hy]; omega⟩
theorem Vg.jn {W : Nat → List AV} {N j : Nat} {V V' : Nat → Nat → Int} (w : WorldW W N) (h : Vg W N V) (hj : j < N) (e : ∀ x y, x < 3 → y < 3 → V' x y = max (max 0 (V x y)) (pvW (W j) (3 * x + y))) : Wd.Jn (fun j => eD (W j)) (fun j => eR (W j)) (fun j => eS (W j)) (fun j => eV (W j)) V j V' := fun x y hx hy => by
  rw [e x y hx hy, pvW_pst w hj hx hy, Int.max_eq_right (h.nn x y hx hy)]
theorem Vg.same {W : Nat → List AV} {N : Nat} {V V' : Nat → Nat → Int} (h : Vg W N V) (w : WorldW W N) (e : ∀ x y, x < 3 → y < 3 → V' x y = V x y) : Vg W N V' where
  cl := fun i hi hh => by
    have hh : eS (W i) ≤ V' (eD (W i)) (eR (W i)) := hh
    rw [e _ _ (w.d i hi) (w.r i hi)] at hh
    have g := h.cl i hi hh
    exact ⟨fun x y hx hy => by rw [e x y hx hy]; exact g.1 x y hx hy, by rw [e _ _ (w.d i hi) (w.r i hi)]; exact g.2⟩
  bd := fun x y hx hy => by rw [e x y hx hy]; exact h.bd x y hx hy
  nn := fun x y hx hy => by rw [e x y hx hy]; exact h.nn x y hx hy
theorem Vg.zero {W : Nat → List AV} {N : Nat} {V : Nat → Nat → Int} (w : WorldW W N) (h : ∀ x y, x < 3 → y < 3 → V x y = 0) : Vg W N V :=
  ⟨Wd.Cl.zero w h, Wd.Bd.zero h, fun x y hx hy => by rw [h x y hx hy]; exact Int.le_refl _⟩
/-! ### Past -/
def psF (k : Nat) : Facts := [(.eq (.cl 3 0 (.var 500)) (.lit (k / 3 : Nat)), true), (.eq (.cl 3 1 (.var 500)) (.lit (k % 3 : Nat)), true)]
def psX (k : Nat) : X := .agg ((List.range 9).map fun j => .sc (.i .i64 (if Nat.beq j k = true then .op .max .i64 (.op .max .i64 (.lit 0) (.cl 3 (9 + j) (.var 500))) (.cl 3 2 (.var 500)) else .op .max .i64 (.lit 0) (.cl 3 (9 + j) (.var 500)))))
theorem ps_go : ((List.range 9).map fun k => askF ⟨cfgL [] (fun _ => []), [], []⟩ 16 [.ro 20 [enW 3 (.var 500)] true] (psF k)) = (List.range 9).map fun k => .ret (psX k) := by kernel_rfl
theorem past_w (ρ : Rho) (l : Nat) (i : IE) {e : List AV} (he : rw_ ρ l (i.den ρ).toNat = e) (h0 : 0 ≤ cellI e[0]? ∧ cellI e[0]? < 3) (h1 : 0 ≤ cellI e[1]? ∧ cellI e[1]? < 3) : hasBody Try.prog 16 = true ∧ ∀ n h, CY Try.prog n 16 (X.denL ρ [.ro 20 [enW l i] true]) h (nineV (pvW e)) [] := by
  let ρ' : Rho := ⟨fun _ => i.den ρ, fun _ => false, fun _ => ⟨#[]⟩, fun _ => 0, fun _ c k => ρ.ci l c k, fun _ c k => ρ.cb l c k, fun _ c k => ρ.cs l c k⟩
  subst he
  generalize hk : 3 * eD (rw_ ρ l (i.den ρ).toNat) + eR (rw_ ρ l (i.den ρ).toNat) = k
  have k9 : k < 9 := by
    have e0 : eD (rw_ ρ l (i.den ρ).toNat) < 3 := by unfold eD; omega
    have e1 : eR (rw_ ρ l (i.den ρ).toNat) < 3 := by unfold eR; omega
    omega
  have F : Facts.ok ρ' (psF k) := by
    have e0 : cellI (rw_ ρ l (i.den ρ).toNat)[0]? = ((k / 3 : Nat) : Int) := by
      have e0 : eD (rw_ ρ l (i.den ρ).toNat) < 3 := by unfold eD; omega
      have e1 : eR (rw_ ρ l (i.den ρ).toNat) < 3 := by unfold eR; omega
      have : k / 3 = eD (rw_ ρ l (i.den ρ).toNat) := by omega
      rw [this]; unfold eD; omega
    have e1 : cellI (rw_ ρ l (i.den ρ).toNat)[1]? = ((k % 3 : Nat) : Int) := by
      have e0 : eD (rw_ ρ l (i.den ρ).toNat) < 3 := by unfold eD; omega
      have e1 : eR (rw_ ρ l (i.den ρ).toNat) < 3 := by unfold eR; omega
      have : k % 3 = eR (rw_ ρ l (i.den ρ).toNat) := by omega
      rw [this]; unfold eR; omega
    exact Facts.ok_cons (by rw [deq_t]; exact e0) (Facts.ok_cons (by rw [deq_t]; exact e1) (Facts.ok_nil _))
  have q := askF_ok (c := ⟨cfgL [] (fun _ => []), [], []⟩) (ρ := ρ') (f := 16) (args := [.ro 20 [enW 3 (.var 500)] true]) (Φ := psF k) (cN_ok ρ') (List.forall_mem_nil _) F (r := psX k) (by rw [forM ps_go k9]; rfl)
  have a : X.den ρ' (psX k) = nineV (pvW (rw_ ρ l (i.den ρ).toNat)) := by
    unfold nineV pvW
    rw [hk]
    match k, k9 with
    | 0, _ => rfl
    | 1, _ => rfl
    | 2, _ => rfl
    | 3, _ => rfl
    | 4, _ => rfl
    | 5, _ => rfl
    | 6, _ => rfl
    | 7, _ => rfl
    | 8, _ => rfl
  rw [a] at q
  exact q
end Go.Proofs.Ytdlifdoglhhnfaa

/- What functions answer, run over letters, where something is known; each shown by running it. -/
namespace Go.Proofs.Ytdlifdoglhhnfaa
open Go Go.Proofs.Aw Go.Proofs.Xw

def hsW : T X := (.ret (.sc (.b (.and (.and (.and (.and (.and (.not (.lt (.var 9) (.lit 0))) (.lt (.var 9) (.lit 3))) (.not (.lt (.var 10) (.lit 0)))) (.lt (.var 10) (.lit 3))) (.not (.lt (.var 11) (.lit 1)))) (.not (.lt (.ite (.and zTM5_0 zTM5_1) (.var 0) (.ite (.and zTM5_0 zTM5_2) (.var 1) (.ite zTM5_0 (.var 2) (.ite (.and zTM5_3 zTM5_1) (.var 3) (.ite (.and zTM5_3 zTM5_2) (.var 4) (.ite zTM5_3 (.var 5) (.ite zTM5_1 (.var 6) (.ite zTM5_2 (.var 7) (.var 8))))))))) (.var 11)))))))
theorem hsW_run : askF ⟨cfgL [] (fun _ => []), l_able, []⟩ 29 ([.agg (vi 0 9), .agg (vi 9 3)]) [] = hsW := by kernel_rfl
def wiW : T X := (.ret (.sc (.b (.and (.and (.and (.and (.not (.lt (.var 4) (.lit 0))) (.lt (.var 4) (.lit 3))) (.not (.lt (.var 3) (.lit 0)))) (.lt (.var 3) (.lit 3))) (.not (.lt (.ite (.eq (.var 3) (.lit 0)) (.var 0) (.ite (.eq (.var 3) (.lit 1)) (.var 1) (.var 2))) (.var 5)))))))
theorem wiW_run : askF ⟨cfgL [] (fun _ => []), l_able, []⟩ 49 ([.agg (vi 0 3), .agg (vi 3 3)]) [] = wiW := by kernel_rfl
end Go.Proofs.Ytdlifdoglhhnfaa

/- Txn: TxnWorld: what lay's loops keep. -/
namespace Go.Proofs.Ytdlifdoglhhnfaa
open Go Go.Proofs.Aw Go.Proofs.Xw Go.Proofs.Sr
set_option maxRecDepth 100000
theorem forB0 {n : Nat} {p : Nat → Bool} (h : ((List.range n).all fun b => Nat.beq b 0 || p b) = true) {b : Nat} (hb : b < n) (h0 : b ≠ 0) : p b = true := by
  have := List.all_eq_true.1 h b (List.mem_range.2 hb)
  rcases (Bool.or_eq_true _ _).mp this with q | q
  · exact absurd (Nat.eq_of_beq_eq_true q) h0
  · exact q
theorem forBits {p : Nat × Nat → Bool} (h : bits.all p = true) {b r : Nat} (hb : b < 8) (hr : r < 3) (q : bit b r = true) : p (b, r) = true :=
  List.all_eq_true.1 h (b, r) (List.mem_filter.2 ⟨List.mem_map.2 ⟨3 * b + r, List.mem_range.2 (by omega), by rw [show (3 * b + r) / 3 = b by omega, show (3 * b + r) % 3 = r by omega]⟩, q⟩)
theorem and4 {a b c d : Bool} (h : (a && (b && (c && d))) = true) : a = true ∧ b = true ∧ c = true ∧ d = true := by
  simp only [Bool.and_eq_true] at h; exact h
theorem rem_rng (x n : Int) (h1 : 1 ≤ n) (h2 : n ≤ 60) : ∃ j : Nat, IOp.den .rem .i64 (IOp.den .add .i64 (IOp.den .rem .i64 x n) n) n = j ∧ (j : Int) < n := by
  simp only [IOp.den]
  have a1 := Int.tmod_lt_of_pos x (show 0 < n by omega)
  have a2 := Int.tmod_lt_of_pos (-x) (show 0 < n by omega)
  rw [Int.neg_tmod] at a2
  generalize x.tmod n = y at a1 a2
  rw [wrap_id _ (by omega) (by omega)]
  have b1 := Int.tmod_nonneg n (show 0 ≤ y + n by omega)
  have b2 := Int.tmod_lt_of_pos (y + n) (show 0 < n by omega)
  exact ⟨_, (Int.toNat_of_nonneg b1).symm, by omega⟩
/-- The writes of a range. -/
def Lr (W : Nat → List AV) (N r : Nat) : List Nat := (List.range N).filter fun j => Nat.beq (eR (W j)) r
theorem Lr_mem {W : Nat → List AV} {N r j : Nat} : j ∈ Lr W N r ↔ j < N ∧ eR (W j) = r := by
  unfold Lr
  rw [List.mem_filter, List.mem_range, Nat.beq_eq]
/-- The letters tell a world of N writes. -/
structure AtW (ρ : Rho) (b N : Nat) (W : Nat → List AV) : Prop where
  n : 0 < N → ρ.len 410 = N
  row : ∀ j, j < N → rw_ ρ 410 j = W j
  d0 : ∀ j, j < N → 0 ≤ cellI (W j)[0]? ∧ cellI (W j)[0]? < 3
  d1 : ∀ j, j < N → 0 ≤ cellI (W j)[1]? ∧ cellI (W j)[1]? < 3
  wd : WorldW W N
  b0 : b = 0 ↔ N = 0
  nb : N ≤ 60
  lg : ∀ r, r < 3 → (bit b r = true ↔ Lr W N r ≠ [])
  ll : ∀ r, r < 3 → bit b r = true → ρ.len (411 + r) = (Lr W N r).length
  lr : ∀ r, r < 3 → bit b r = true → ∀ m j : Nat, (Lr W N r)[m]? = some j → rw_ ρ (411 + r) m = W j
theorem AtW.agree {ρ ρ' : Rho} {b N k : Nat} {W : Nat → List AV} (h : AtW ρ b N W) (ag : Agree k ρ ρ') (hk : 414 ≤ k) : AtW ρ' b N W :=
  ⟨fun q => by rw [← ag.len 410 (by omega)]; exact h.n q, fun j hj => by rw [rw_agree ag (by omega)]; exact h.row j hj, h.d0, h.d1, h.wd, h.b0, h.nb, h.lg, fun r hr q => by rw [← ag.len _ (by omega)]; exact h.ll r hr q, fun r hr q m j hm => by rw [rw_agree ag (by omega)]; exact h.lr r hr q m j hm⟩
def vA (ρ : Rho) (k : Nat) (x y : Nat) : Int := ρ.i (k + (3 * x + y))
def nv (k : Nat) (f : Nat → Int) : List (Nat × Int) := (List.range 9).map fun p => (k + p, f p)
theorem AtW.pos {ρ : Rho} {b N : Nat} {W : Nat → List AV} (h : AtW ρ b N W) (h0 : b ≠ 0) : 1 ≤ N := by
  rcases Nat.eq_zero_or_pos N with q | q
  · exact absurd (h.b0.2 q) h0
  · exact q
theorem al_ok {ρ : Rho} {b N : Nat} {W : Nat → List AV} (h : AtW ρ b N W) : Facts.ok ρ (alF b) := by
  unfold alF
  split
  · exact Facts.ok_nil _
  · rename_i q
    have h0 : b ≠ 0 := fun e => q (by rw [e]; rfl)
    have n := h.n (h.pos h0)
    have := h.pos h0
    have := h.nb
    exact Facts.ok_cons (by rw [dlt_t]; simp only [IE.den, n]; omega) (Facts.ok_cons (by rw [dlt_f]; simp only [IE.den, n]; omega) (Facts.ok_nil _))
/-! ### What was read -/
theorem la_Bv : (List.range 9).map (fun p => lassoc (450 + p) la_B.i) = (List.range 9).map fun p => some (.op .max .i64 (.op .max .i64 (.lit 0) (.var (450 + p))) (.var (460 + p))) := by kernel_rfl
theorem nv_460 (ρ : Rho) (f : Nat → Int) {p : Nat} (hp : p < 9) : (putI ρ (nv 460 f)).i (460 + p) = f p := forM (f := fun p => (putI ρ (nv 460 f)).i (460 + p)) (g := f) (by kernel_rfl) hp
theorem nv_500 (ρ : Rho) (f : Nat → Int) {p : Nat} (hp : p < 9) : (putI ρ (nv 500 f)).i (500 + p) = f p := forM (f := fun p => (putI ρ (nv 500 f)).i (500 + p)) (g := f) (by kernel_rfl) hp
theorem la_ok {ρ : Rho} {b N : Nat} {W : Nat → List AV} (h : AtW ρ b N W) (hb : b < 8) (h0 : b ≠ 0) (hn : 0 ≤ nrE.den ρ ∧ nrE.den ρ ≤ 10) : ∃ ρf, Agree 440 ρ ρf ∧ Vg W N (vA ρf 450) ∧ LoopOk Try.prog ρf Try.f27.ntmps la_c (la b) := by
  suffices hh : ∃ (_ : Nat) (ρf : Rho), Agree (la b).n ρ ρf ∧ Vg W N (vA ρf 450) ∧ LoopOk Try.prog ρf Try.f27.ntmps la_c (la b) by
    obtain ⟨_, ρf, h1, h2, h3⟩ := hh
    exact ⟨ρf, h1, h2, h3⟩
  have a0 : Agree 440 ρ (la_I.ap ρ) := Bind.agree (by kernel_rfl) ρ
  obtain ⟨q1, q2, q3, _⟩ := and4 (forB la_ent hb)
  have N1 := h.pos h0
  refine loopOk_famE (L := la b) (N := Try.f27.ntmps) (body := la_c) (P := Try.prog) rfl q2 (fun _ => la_S b) (fun _ ρ' => Agree 440 ρ ρ' ∧ ∃ i : Nat, ρ'.i 440 = i ∧ (i : Int) ≤ nrE.den ρ ∧ Vg W N (vA ρ' 450)) (fun _ ρ' => Vg W N (vA ρ' 450)) (fun _ ρ' => (nrE.den ρ - ρ'.i 440).toNat) ?_
    ⟨0, la_I.ap ρ, a0, ⟨a0, 0, rfl, hn.1, Vg.zero h.wd fun x y hx hy => forM (n := 9) (f := fun p => (la_I.ap ρ).i (450 + p)) (g := fun _ => 0) (by kernel_rfl) (show 3 * x + y < 9 by omega)⟩, fun E _ hE => okS_imp hE q1 ρ⟩
  rintro _ ρ' ⟨ag, i, hi, hin, hv⟩
  have h' := h.agree ag (by decide)
  have en : nrE.den ρ' = nrE.den ρ := (IE.bel_den ag nrE (by kernel_rfl)).symm
  by_cases c : (i : Int) < nrE.den ρ
  · have n := h'.n N1
    obtain ⟨j, hj, hjN⟩ := rem_rng ((IE.cl 130 0 (.op .padd .i64 (.var 440) (.cl 1 2 (.var 400)))).den ρ') N (by omega) (by have := h.nb; omega)
    have hj : JE.den ρ' = j := by
      rw [← hj]
      show IOp.den .rem .i64 (IOp.den .add .i64 (IOp.den .rem .i64 _ (ρ'.len 410 : Int)) (ρ'.len 410 : Int)) (ρ'.len 410 : Int) = _
      rw [n]
    have hjN : j < N := by omega
    have a1 : Agree 460 ρ' (putI ρ' (nv 460 (pvW (W j)))) := putI_agree ρ' (by kernel_rfl)
    have a2 : Agree 440 (putI ρ' (nv 460 (pvW (W j)))) (la_B.ap (putI ρ' (nv 460 (pvW (W j))))) := Bind.agree (by kernel_rfl) _
    generalize hρ : putI ρ' (nv 460 (pvW (W j))) = ρ1 at a1 a2
    have ej : JE.den ρ1 = j := by rw [← IE.bel_den a1 JE (by kernel_rfl)]; exact hj
    have i1 : ρ1.i 440 = i := by rw [← a1.i 440 (by decide)]; exact hi
    have cok : CfgOk Try.prog ρ1 (cfgL ksA (fun _ => [])) := cK_ok (List.forall_mem_cons.2 ⟨by
      have q := past_w ρ1 410 JE (e := W j) (by rw [ej, Int.toNat_natCast, rw_agree a1 (by decide)]; exact h'.row j hjN) (h.d0 j hjN) (h.d1 j hjN)
      have e : X.den ρ1 (.agg (vi 460 9)) = nineV (pvW (W j)) := by rw [← hρ]; kernel_rfl
      rw [← e] at q
      exact q, List.forall_mem_nil _⟩)
    have up : (la_B.ap ρ1).i 440 = ((i + 1 : Nat) : Int) := inc i1 (by omega)
    refine .inr ⟨0, la_B.ap ρ1, goW (forB0 la_go hb h0) la_fit (XS.bel_den a1 _ q3) cok (LpsOk.nil _ _ _ _)
      (Facts.ok_cons (show decide (ρ1.i 440 < nrE.den ρ1) = true by rw [i1, ← IE.bel_den a1 nrE (by kernel_rfl), en]; exact decide_eq_true c)
      (Facts.ok_cons (by rw [dlt_f, ← IE.bel_den a1 nrE (by kernel_rfl), en]; have := hn.1; simp only [IE.den]; omega)
      (Facts.ok_cons (by rw [dlt_f, ej]; simp only [IE.den]; omega) (Facts.ok_cons (by rw [dlt_t, ej]; simp only [IE.den]; rw [← a1.len 410 (by decide), n]; omega)
      (Facts.ok_cons (by rw [dlt_f]; simp only [IE.den, i1]; omega) (al_ok (h'.agree a1 (by decide)))))))), ⟨ag.trans ((a1.le (by decide)).trans a2), i + 1, up, by omega, hv.join h.wd hjN fun x y hx hy => ?_⟩, ?_, (a1.le (show 440 ≤ 460 by decide)).trans a2⟩
    · have hp : 3 * x + y < 9 := by omega
      show (la_B.ap ρ1).i (450 + (3 * x + y)) = _
      rw [ap_i (forM la_Bv hp)]
      show max (max 0 (ρ1.i (450 + (3 * x + y)))) (ρ1.i (460 + (3 * x + y))) = _
      rw [← a1.i _ (by omega), ← hρ, nv_460 _ _ hp]
      rfl
    · show (nrE.den ρ - _).toNat < (nrE.den ρ - _).toNat
      rw [up, hi]; omega
  · refine .inl ⟨ρ', Agree.refl _ _, hv, rfl, ?_⟩
    exact endW (forB0 la_end hb h0) la_fit (cN_ok _) (LpsOk.nil _ _ _ _) (Facts.ok_cons (show decide (ρ'.i 440 < nrE.den ρ') = false by rw [hi, en]; exact decide_eq_false c) (Facts.ok_cons (by rw [dlt_f, en]; have := hn.1; simp only [IE.den]; omega) (Facts.ok_nil _))) rfl
/-! ### The range's log -/
theorem lb_Bv (r : Nat) : (List.range 9).map (fun p => lassoc (490 + p) (lb_B r).i) = (List.range 9).map fun p => some (.op .max .i64 (.op .max .i64 (.lit 0) (.var (490 + p))) (.var (500 + p))) := by kernel_rfl
abbrev GeW (W : Nat → List AV) (V : Nat → Nat → Int) (j : Nat) : Prop := Wd.Ge (fun j => eD (W j)) (fun j => eR (W j)) (fun j => eS (W j)) (fun j => eV (W j)) V j
theorem Lr_lt {W : Nat → List AV} {N r m j : Nat} (h : (Lr W N r)[m]? = some j) : j < N ∧ eR (W j) = r := Lr_mem.1 (List.mem_of_getElem? h)
theorem Lr_len (W : Nat → List AV) (N r : Nat) : (Lr W N r).length ≤ N := by
  have := List.length_filter_le (fun j => Nat.beq (eR (W j)) r) (List.range N)
  rw [List.length_range] at this
  exact this
theorem lb_ok {ρ : Rho} {b r N : Nat} {W : Nat → List AV} (h : AtW ρ b N W) (hb : b < 8) (hr : r < 3) (q : bit b r = true) (hg : ρ.i 431 = r) (hv : Vg W N (vA ρ 450)) : ∃ ρf, Agree 480 ρ ρf ∧ (Vg W N (vA ρf 490) ∧ ∀ j, j < N → eR (W j) = r → GeW W (vA ρf 490) j) ∧ LoopOk Try.prog ρf Try.f27.ntmps lb_c (lb b) := by
  suffices hh : ∃ (_ : Nat) (ρf : Rho), Agree (lb b).n ρ ρf ∧ (Vg W N (vA ρf 490) ∧ ∀ j, j < N → eR (W j) = r → GeW W (vA ρf 490) j) ∧ LoopOk Try.prog ρf Try.f27.ntmps lb_c (lb b) by
    obtain ⟨_, ρf, h1, h2, h3⟩ := hh
    exact ⟨ρf, h1, h2, h3⟩
  have a0 : Agree 480 ρ (lb_I.ap ρ) := Bind.agree (by kernel_rfl) ρ
  obtain ⟨q1, q2, q3, _⟩ := and4 (forB lb_ent hb)
  have v0 : ∀ x y, x < 3 → y < 3 → vA (lb_I.ap ρ) 490 x y = vA ρ 450 x y := fun x y hx hy => forM (n := 9) (f := fun p => (lb_I.ap ρ).i (490 + p)) (g := fun p => ρ.i (450 + p)) (by kernel_rfl) (show 3 * x + y < 9 by omega)
  have lnb := Lr_len W N r
  have nb := h.nb
  refine loopOk_famE (L := lb b) (N := Try.f27.ntmps) (body := lb_c) (P := Try.prog) rfl q2 (fun _ => lb_S b) (fun _ ρ' => Agree 480 ρ ρ' ∧ ∃ i : Nat, ρ'.i 480 = i ∧ i ≤ (Lr W N r).length ∧ Vg W N (vA ρ' 490) ∧ ∀ m j, m < i → (Lr W N r)[m]? = some j → GeW W (vA ρ' 490) j) (fun _ ρ' => Vg W N (vA ρ' 490) ∧ ∀ j, j < N → eR (W j) = r → GeW W (vA ρ' 490) j) (fun _ ρ' => ((Lr W N r).length - ρ'.i 480).toNat) ?_
    ⟨0, lb_I.ap ρ, a0, ⟨a0, 0, rfl, Nat.zero_le _, hv.same h.wd v0, fun m j hm => absurd hm (by omega)⟩, fun E _ hE => okS_imp hE q1 ρ⟩
  rintro _ ρ' ⟨ag, i, hi, hin, hv, hge⟩
  have h' := h.agree ag (by decide)
  have hg' : ρ'.i 431 = r := by rw [← ag.i 431 (by decide)]; exact hg
  have n := h'.ll r hr q
  have fs : ∀ {ρ1 : Rho}, ρ1.i 480 = i → ρ1.i 431 = r → ρ1.len (411 + r) = (Lr W N r).length → Facts.ok ρ1 (lbF r) := fun {ρ1} e1 e2 e3 =>
    Facts.ok_cons (by rw [dlt_f]; simp only [IE.den, e1]; omega) (Facts.ok_cons (by rw [dlt_f]; simp only [IE.den, e3]; omega) (Facts.ok_cons (by rw [deq_t]; exact e2) (Facts.ok_nil _)))
  by_cases c : i < (Lr W N r).length
  · obtain ⟨j, hj⟩ : ∃ j, (Lr W N r)[i]? = some j := ⟨_, List.getElem?_eq_getElem c⟩
    have hjN := (Lr_lt hj).1
    have a1 : Agree 500 ρ' (putI ρ' (nv 500 (pvW (W j)))) := putI_agree ρ' (by kernel_rfl)
    have a2 : Agree 480 (putI ρ' (nv 500 (pvW (W j)))) ((lb_B r).ap (putI ρ' (nv 500 (pvW (W j))))) := Bind.agree (by kernel_rfl) _
    generalize hρ : putI ρ' (nv 500 (pvW (W j))) = ρ1 at a1 a2
    have i1 : ρ1.i 480 = i := by rw [← a1.i 480 (by decide)]; exact hi
    have n1 : ρ1.len (411 + r) = (Lr W N r).length := by rw [← a1.len _ (by omega)]; exact n
    have cok : CfgOk Try.prog ρ1 (cfgL (ksB r) (fun _ => [])) := cK_ok (List.forall_mem_cons.2 ⟨by
      have q := past_w ρ1 (411 + r) (.var 480) (e := W j) (by rw [show (IE.var 480).den ρ1 = i from i1, Int.toNat_natCast, rw_agree a1 (by omega)]; exact h'.lr r hr q i j hj) (h.d0 j hjN) (h.d1 j hjN)
      have e : X.den ρ1 (.agg (vi 500 9)) = nineV (pvW (W j)) := by rw [← hρ]; kernel_rfl
      rw [← e] at q
      exact q, List.forall_mem_nil _⟩)
    have up : ((lb_B r).ap ρ1).i 480 = ((i + 1 : Nat) : Int) := inc i1 (by omega)
    have ev : ∀ x y, x < 3 → y < 3 → vA ((lb_B r).ap ρ1) 490 x y = max (max 0 (vA ρ' 490 x y)) (pvW (W j) (3 * x + y)) := fun x y hx hy => by
      have hp : 3 * x + y < 9 := by omega
      show ((lb_B r).ap ρ1).i (490 + (3 * x + y)) = _
      rw [ap_i (forM (lb_Bv r) hp)]
      show max (max 0 (ρ1.i (490 + (3 * x + y)))) (ρ1.i (500 + (3 * x + y))) = _
      rw [← a1.i _ (by omega), ← hρ, nv_500 _ _ hp]
      rfl
    refine .inr ⟨0, (lb_B r).ap ρ1, goW (forBits lb_go hb hr q) lb_fit (XS.bel_den a1 _ q3) cok (LpsOk.nil _ _ _ _)
      (Facts.ok_cons (show decide (ρ1.i 480 < (ρ1.len (411 + r) : Int)) = true by rw [i1, n1]; exact decide_eq_true (by omega)) (fs i1 (by rw [← a1.i 431 (by decide)]; exact hg') n1)), ⟨ag.trans ((a1.le (by decide)).trans a2), i + 1, up, c, hv.join h.wd hjN ev, fun m k hm hk => ?_⟩, ?_, (a1.le (show 480 ≤ 500 by decide)).trans a2⟩
    · have J := hv.jn h.wd hjN ev
      have hk' := Lr_lt hk
      by_cases qm : m = i
      · subst qm
        rw [hj] at hk
        cases hk
        exact ⟨fun x y hx hy => J.dep_le hx hy, J.self (h.wd.d j hjN) (h.wd.r j hjN)⟩
      · exact (hge m k (by omega) hk).mono (h.wd.d k hk'.1) (h.wd.r k hk'.1) fun x y hx hy => J.le hx hy
    · show ((Lr W N r).length - _ : Int).toNat < ((Lr W N r).length - _ : Int).toNat
      rw [up, hi]; omega
  · refine .inl ⟨ρ', Agree.refl _ _, ⟨hv, fun j hj hr => ?_⟩, rfl, ?_⟩
    · obtain ⟨m, hm⟩ := List.mem_iff_getElem?.1 (Lr_mem.2 ⟨hj, hr⟩)
      have : m < (Lr W N r).length := by
        rcases Nat.lt_or_ge m (Lr W N r).length with c | c
        · exact c
        · rw [List.getElem?_eq_none c] at hm; cases hm
      exact hge m j (by omega) hm
    · exact endW (forBits lb_end hb hr q) lb_fit (cN_ok _) (LpsOk.nil _ _ _ _) (Facts.ok_cons (show decide (ρ'.i 480 < (ρ'.len (411 + r) : Int)) = false by rw [hi, n]; exact decide_eq_false (by omega)) (fs hi hg' n)) rfl
/-! ### All writes -/
/-- Whether a dot is had. -/
def hasP (V : Nat → Nat → Int) (d r s : Int) : Prop := (0 ≤ d ∧ d < 3) ∧ (0 ≤ r ∧ r < 3) ∧ 1 ≤ s ∧ s ≤ V d.toNat r.toNat
theorem has_w (V : Nat → Int) (d r s : Int) : ∃ t : Bool, (t = true ↔ hasP (fun x y => V (3 * x + y)) d r s) ∧ hasBody Try.prog 29 = true ∧ ∀ n h, CY Try.prog n 29 [nineV V, .agg [.sc (.int .i64 d), .sc (.int .i64 r), .sc (.int .i64 s)]] h (.sc (.bool t)) [] := by
  let ρ' : Rho := ⟨fun k => if k < 9 then V k else if k = 9 then d else if k = 10 then r else s, fun _ => false, fun _ => ⟨#[]⟩, fun _ => 0, fun _ _ _ => 0, fun _ _ _ => false, fun _ _ _ => ⟨#[]⟩⟩
  obtain ⟨e, he⟩ : ∃ e, hsW = .ret (.sc (.b e)) := ⟨_, rfl⟩
  have q := askF_ok (c := ⟨cfgL [] (fun _ => []), l_able, []⟩) (ρ := ρ') (f := 29) (args := [.agg (vi 0 9), .agg (vi 9 3)]) (Φ := []) (cN_ok ρ') l_able_ok (Facts.ok_nil ρ') (by rw [hsW_run, he]; exact rfl)
  refine ⟨_, ?_, q⟩
  have h2 : T.ret (X.sc (Sc.b e)) = hsW := he.symm
  unfold hsW at h2
  simp only [T.ret.injEq, X.sc.injEq, Sc.b.injEq] at h2
  rw [h2]
  have i9 : ρ'.i 9 = d := rfl
  have i10 : ρ'.i 10 = r := rfl
  have i11 : ρ'.i 11 = s := rfl
  have iV : ∀ k, k < 9 → ρ'.i k = V k := fun k hk => if_pos hk
  rw [dand_t, dand_t, dand_t, dand_t, dand_t, dnot_t, dnot_t, dnot_t, dnot_t, dlt_f, dlt_t, dlt_f, dlt_t, dlt_f, dlt_f]
  unfold hasP
  simp only [IE.den, i9, i10, i11]
  constructor
  · rintro ⟨⟨⟨⟨⟨g1, g2⟩, g3⟩, g4⟩, g5⟩, g6⟩
    refine ⟨⟨by omega, g2⟩, ⟨by omega, g4⟩, by omega, ?_⟩
    have hd : d = 0 ∨ d = 1 ∨ d = 2 := by omega
    have hr : r = 0 ∨ r = 1 ∨ r = 2 := by omega
    rcases hd with rfl | rfl | rfl <;> rcases hr with rfl | rfl | rfl <;> simp [BE.den, IE.den, i9, i10, iV] at g6 <;> simpa using g6
  · rintro ⟨⟨g1, g2⟩, ⟨g3, g4⟩, g5, g6⟩
    refine ⟨⟨⟨⟨⟨by omega, g2⟩, by omega⟩, g4⟩, by omega⟩, ?_⟩
    have hd : d = 0 ∨ d = 1 ∨ d = 2 := by omega
    have hr : r = 0 ∨ r = 1 ∨ r = 2 := by omega
    rcases hd with rfl | rfl | rfl <;> rcases hr with rfl | rfl | rfl <;> simp [BE.den, IE.den, i9, i10, iV] <;> simpa using g6
theorem lc_ok {ρ : Rho} {b N : Nat} {W : Nat → List AV} (a : Bool) (h : AtW ρ b N W) (hb : b < 8) (h0 : b ≠ 0) : ∃ ρf, Agree 520 ρ ρf ∧ (∀ p, p < 9 → ρf.i (522 + p) = ρ.i ((if a = true then 450 else 490) + p)) ∧ LoopOk Try.prog ρf Try.f27.ntmps lc_c (lc a b) := by
  suffices hh : ∃ (_ : Nat) (ρf : Rho), Agree (lc a b).n ρ ρf ∧ (∀ p, p < 9 → ρf.i (522 + p) = ρ.i ((if a = true then 450 else 490) + p)) ∧ LoopOk Try.prog ρf Try.f27.ntmps lc_c (lc a b) by
    obtain ⟨_, ρf, h1, h2, h3⟩ := hh
    exact ⟨ρf, h1, h2, h3⟩
  have a0 : Agree 520 ρ ((lc_I a).ap ρ) := Bind.agree (by cases a <;> kernel_rfl) ρ
  obtain ⟨q0, q1, q2, q2', q3, _⟩ : okS 146 520 (lc_I false) [] (lc_S b) (lc_E false b) = true ∧ okS 146 520 (lc_I true) [] (lc_S b) (lc_E true b) = true ∧ (lc_E false b).bel 520 = true ∧ (lc_E true b).bel 520 = true ∧ (lc_S b).bel 531 = true ∧ (lc_X b).bel 531 = true := by
    have := forB lc_ent hb
    simp only [Bool.and_eq_true] at this
    exact this
  have N1 := h.pos h0
  have nb := h.nb
  refine loopOk_famE (L := lc a b) (N := Try.f27.ntmps) (body := lc_c) (P := Try.prog) rfl (by cases a; exact q2; exact q2') (fun _ => lc_S b) (fun _ ρ' => Agree 520 ρ ρ' ∧ ∃ i : Nat, ρ'.i 520 = i ∧ i ≤ N ∧ ∀ p, p < 9 → ρ'.i (522 + p) = ρ.i ((if a = true then 450 else 490) + p)) (fun _ ρ' => ∀ p, p < 9 → ρ'.i (522 + p) = ρ.i ((if a = true then 450 else 490) + p)) (fun _ ρ' => (N - ρ'.i 520).toNat) ?_
    ⟨0, (lc_I a).ap ρ, a0, ⟨a0, 0, rfl, Nat.zero_le _, fun p hp => by cases a; exact forM (n := 9) (f := fun p => ((lc_I false).ap ρ).i (522 + p)) (g := fun p => ρ.i (490 + p)) (by kernel_rfl) hp; exact forM (n := 9) (f := fun p => ((lc_I true).ap ρ).i (522 + p)) (g := fun p => ρ.i (450 + p)) (by kernel_rfl) hp⟩, fun E _ hE => okS_imp hE (by cases a; exact q0; exact q1) ρ⟩
  rintro _ ρ' ⟨ag, i, hi, hin, hv⟩
  have h' := h.agree ag (by decide)
  have n := h'.n N1
  have fs : ∀ {ρ1 : Rho}, ρ1.i 520 = i → AtW ρ1 b N W → Facts.ok ρ1 (lcF b) := fun {ρ1} e1 e2 => Facts.ok_cons (by rw [dlt_f]; simp only [IE.den, e1]; omega) (al_ok e2)
  by_cases c : i < N
  · obtain ⟨t, _, ht⟩ := has_w (fun p => ρ'.i (522 + p)) (ρ'.ci 410 0 i) (ρ'.ci 410 1 i) (ρ'.ci 410 2 i)
    have a1 : Agree 531 ρ' (putB ρ' 531 t) := putB_agree ρ' (Nat.le_refl _)
    have a2 : Agree 520 (putB ρ' 531 t) (lc_B.ap (putB ρ' 531 t)) := Bind.agree (by kernel_rfl) _
    have e1 : (putB ρ' 531 t).i = ρ'.i := rfl
    have cok : CfgOk Try.prog (putB ρ' 531 t) (cfgL ksC (fun _ => [])) := cK_ok (List.forall_mem_cons.2 ⟨by
      have e : X.denL (putB ρ' 531 t) [.agg (vi 522 9), .agg ((List.range 3).map fun k => .sc (.i .i64 (.cl 410 k (.var 520))))] = [nineV (fun p => ρ'.i (522 + p)), .agg [.sc (.int .i64 (ρ'.ci 410 0 i)), .sc (.int .i64 (ρ'.ci 410 1 i)), .sc (.int .i64 (ρ'.ci 410 2 i))]] := by
        obtain rfl : i = (ρ'.i 520).toNat := by rw [hi]; rfl
        kernel_rfl
      show hasBody Try.prog 29 = true ∧ ∀ n h, CY Try.prog n 29 (X.denL (putB ρ' 531 t) [.agg (vi 522 9), .agg ((List.range 3).map fun k => .sc (.i .i64 (.cl 410 k (.var 520))))]) h (X.den (putB ρ' 531 t) (.sc (.b (.var 531)))) []
      rw [e]
      exact ht, List.forall_mem_nil _⟩)
    have up : (lc_B.ap (putB ρ' 531 t)).i 520 = ((i + 1 : Nat) : Int) := inc (ρ := putB ρ' 531 t) hi (by omega)
    refine .inr ⟨0, lc_B.ap (putB ρ' 531 t), goW (forB0 lc_go hb h0) lc_fit (XS.bel_den a1 _ q3) cok (LpsOk.nil _ _ _ _) (Facts.ok_cons (show decide (ρ'.i 520 < (ρ'.len 410 : Int)) = true by rw [hi, n]; exact decide_eq_true (by omega)) (fs hi (h'.agree a1 (by decide)))), ⟨ag.trans ((a1.le (by decide)).trans a2), i + 1, up, c, fun p hp => ?_⟩, ?_, (a1.le (show 520 ≤ 531 by decide)).trans a2⟩
    · rw [← hv p hp]
      exact forM (n := 9) (f := fun p => (lc_B.ap (putB ρ' 531 t)).i (522 + p)) (g := fun p => ρ'.i (522 + p)) (by kernel_rfl) hp
    · show (N - _ : Int).toNat < (N - _ : Int).toNat
      rw [up, hi]; omega
  · refine .inl ⟨ρ', Agree.refl _ _, hv, rfl, ?_⟩
    exact endW (forB0 lc_end hb h0) lc_fit (cN_ok _) (LpsOk.nil _ _ _ _) (Facts.ok_cons (show decide (ρ'.i 520 < (ρ'.len 410 : Int)) = false by rw [hi, n]; exact decide_eq_false (by omega)) (fs hi h')) rfl
end Go.Proofs.Ytdlifdoglhhnfaa
