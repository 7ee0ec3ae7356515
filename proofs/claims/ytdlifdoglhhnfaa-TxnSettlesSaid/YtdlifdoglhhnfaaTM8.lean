/- Parts of the proof, one behind the other. -/
import Derived.Test.YtdlifdoglhhnfaaTM7
import Derived.Test.YtdlifdoglhhnfaaXwM3
/- Txn: the loop that marks a key: what is run once. -/
namespace Go.Proofs.Ytdlifdoglhhnfaa
open Go Go.Proofs.Aw Go.Proofs.Xw
set_option maxRecDepth 100000
noncomputable def lpNw (f : Nat) : List LoopX := if Nat.beq f 9 = true then [nw] else []
theorem lpNw_9o : othersB [nw] [0] 0 (loopsOf (Try.f9.body.getD .skip)) = true := by kernel_rfl
theorem lpNw_9 {ρ : Rho} (h_nw : LoopOk Try.prog ρ Try.f9.ntmps nw_c nw) : LpsOk Try.prog ρ Try.f9.ntmps [nw] (Try.f9.body.getD .skip) :=
  lps_idx [0] lpNw_9o (List.forall_mem_cons.2 ⟨look_list (c := nw_c) (Ls := [nw]) (by kernel_rfl) (List.forall_mem_cons.2 ⟨h_nw, List.forall_mem_nil _⟩), List.forall_mem_nil _⟩)
theorem lpNw_ok {ρ : Rho} (h_nw : LoopOk Try.prog ρ Try.f9.ntmps nw_c nw) : ∀ f i, btLook f ftsT = some i → LpsOk Try.prog ρ i.ntmps (lpNw f) i.body := by
  intro f i h
  have hi := fts_ok (f, i) (bt_of_mem _ _ (btLook_mem h))
  unfold lpNw
  split
  · rename_i hf
    have hf := Nat.eq_of_beq_eq_true hf
    subst hf
    exact lps_row hi Try.func9 (lpNw_9 h_nw)
  · exact LpsOk.nil _ _ _ _
def ksN : List (Nat × List X × X) := [(8, [kyR, anR], .sc (.b (.lit false))), (32, [kyR], .sc (.b (.lit true)))]
def inM : BE := .lt (.var 500) (.len 3)
def cdE : IE := .cl 3 0 (.var 500)
def hasE : BE := .cl 3 1 (.var 500)
def mnF : Facts := [(.lt (.var 500) (.lit 0), false), (.lt (.len 2) (.lit 1), false), (.lt (.lit 6) (.len 2), false)]
def lvF : Facts := [(.lt (.var 502) (.lit 0), false), (.lt (.lit 6) (.var 502), false), (.lt (.lit 0) (.var 503), true), (.lt (.lit 6) (.var 503), false), (.eq (.len 505) (.op .padd .i64 (.var 502) (.var 503)), true), (.lt (.cl 505 0 (.var 502)) (.lit 0), false), (.lt (.cl 505 0 (.var 502)) (.len 2), true), (.lt (.lit 2) (.var 519), false), (.lt (.var 502) (.len 505), true)]
def inK : BE := .lt (.var 560) (.len 2)
def sqK : BE := .seq (.cl 2 0 (.var 560)) (.cl 2 0 (.cl 505 0 (.var 502)))
def twF : Facts := [(.lt (.var 560) (.lit 0), false), (.lt (.lit 6) (.len 2), false)]

noncomputable def tw_c : Code := (loopsOf (Try.f3.body.getD .skip))[1]?.getD .skip
theorem tw_fits : fitsC Try.f3.ntmps tw_c = true := by kernel_rfl
abbrev zTM8_0 : X := .sc (.i .i64 (.lit 0))
abbrev zTM8_1 : XTp := [(75, .top), (74, .top), (73, .top), (72, .top), (71, .top), (70, .top), (69, .top), (68, .top), (67, .top), (66, .top), (65, .top), (64, .top), (63, .top), (62, .top), (61, .top), (60, .top), (59, .top), (58, .top)]
abbrev zTM8_2 : XTp := [(16, (.sc (.b (.lit true)))), (15, (.ptr (44, 0) [] 0))]
abbrev zTM8_3 : XTp := [(57, .top), (56, .top), (53, .top), (55, .top), (54, .top), (50, .top), (49, .top), (48, .top), (47, .top), (46, .top), (45, .top), (44, .top), (43, .top), (42, .top)]
abbrev zTM8_4 : XTp := [(14, (.sc (.i .i64 (.var 500)))), (13, (.sc (.i .i64 (.var 501)))), (12, (.slv (26, 0) 1 (.lit 0) (.len 2) true)), (41, .top), (40, .top), (39, .top), (11, (.slv (22, 0) 25 (.lit 0) (.len 2) true))]
abbrev zTM8_5 : XTp := [(38, .top), (37, .top), (36, .top), (35, .top), (34, .top), (10, .top)]
abbrev zTM8_6 : XTp := [(9, (.ptr (12, 0) [] 0))]
abbrev zTM8_7 : XTp := [(33, .top), (32, .top), (25, .top), (31, .top), (30, .top), (29, .top), (28, .top), (27, .top), (26, .top), (24, .top), (23, .top), (22, .top), (21, .top), (20, .top), (8, .top)]
abbrev zTM8_8 : List X := [(.sc (.i .i64 (.var 0))), (.sc (.i .i64 (.var 1))), (.sc (.i .i64 (.var 2))), (.sc (.i .i64 (.var 3))), (.sc (.i .i64 (.var 4))), (.sc (.i .i64 (.var 5))), (.sc (.i .i64 (.var 6))), (.sc (.i .i64 (.var 7))), (.sc (.i .i64 (.var 8)))]
abbrev zTM8_9 : List Kd := [(.i .i64), .b, (.i .i64), (.i .i64), (.i .i64), (.i .i64), (.i .i64), (.i .i64), .s, .s, .b, (.i .i64), (.i .i64), (.i .i64), (.i .i64), (.i .i64), (.i .i64), (.i .i64), (.i .i64), (.i .i64), (.i .i64), (.i .i64), (.i .i64), (.i .i64), (.i .i64)]
abbrev zTM8_10 : XTp := [(4, (.ptr (0, 0) [] 0)), (0, (.agg zTM8_8)), (1, (.sc (.i .i64 (.var 9)))), (2, (.rl 1 (.len 2) (.var 2 [.s]) false)), (3, (.rl 25 (.len 3) (.var 3 zTM8_9) false))]
abbrev zTM8_11 : X := .sc (.i .i64 (.var 510))
abbrev zTM8_12 : X := .sc (.i .i64 (.var 511))
abbrev zTM8_13 : X := .sc (.i .i64 (.var 512))
abbrev zTM8_14 : X := .sc (.i .i64 (.var 513))
abbrev zTM8_15 : X := .sc (.i .i64 (.var 514))
abbrev zTM8_16 : X := .sc (.i .i64 (.var 515))
abbrev zTM8_17 : X := .sc (.i .i64 (.var 516))
abbrev zTM8_18 : X := .sc (.i .i64 (.var 517))
abbrev zTM8_19 : X := .sc (.i .i64 (.var 518))
abbrev zTM8_20 : List X := [(.sc (.i .i64 (.var 0))), (.sc (.i .i64 (.var 1))), (.sc (.i .i64 (.var 2))), (.sc (.i .i64 (.var 3))), (.sc (.i .i64 (.var 4))), (.sc (.i .i64 (.var 5))), (.sc (.i .i64 (.var 6))), (.sc (.i .i64 (.var 7))), (.sc (.i .i64 (.var 8))), zTM8_11, zTM8_12, zTM8_13, zTM8_14, zTM8_15, zTM8_16, zTM8_17, zTM8_18, zTM8_19, (.sc (.i .i64 (.var 9))), (.slv (12, 1) 1 (.lit 0) (.len 2) true), (.slv (12, 2) 25 (.lit 0) (.len 2) true), (.slv (12, 3) 1 (.op .padd .i64 (.var 502) (.lit 1)) (.op .psub .i64 (.var 503) (.lit 1)) true), (.sc (.i .i64 (.var 519))), zTM8_0]
abbrev zTM8_21 : List X := [(.rows 1 (.len 2) (.var 2 [.s]))]
abbrev zTM8_22 : List X := [(.rows 25 (.len 2) (.upd (.cl 505 0 (.var 502)) [(.i .i64 (.cl 3 0 (.var 500))), (.b (.cl 3 1 (.var 500))), (.i .i64 (.cl 3 2 (.var 500))), (.i .i64 (.cl 3 3 (.var 500))), (.i .i64 (.cl 3 4 (.var 500))), (.i .i64 (.cl 3 5 (.var 500))), (.i .i64 (.cl 3 6 (.var 500))), (.i .i64 (.cl 3 7 (.var 500))), (.s (.cl 3 8 (.var 500))), (.s (.cl 3 9 (.var 500))), (.b (.cl 3 10 (.var 500))), (.i .i64 (.cl 3 11 (.var 500))), (.i .i64 (.cl 3 12 (.var 500))), (.i .i64 (.cl 3 13 (.var 500))), (.i .i64 (.cl 3 14 (.var 500))), (.i .i64 (.cl 3 15 (.var 500))), (.i .i64 (.cl 3 16 (.var 500))), (.i .i64 (.cl 3 17 (.var 500))), (.i .i64 (.cl 3 18 (.var 500))), (.i .i64 (.cl 3 19 (.var 500))), (.i .i64 (.cl 3 20 (.var 500))), (.i .i64 (.cl 3 21 (.var 500))), (.i .i64 (.cl 3 22 (.var 500))), (.i .i64 (.cl 3 23 (.var 500))), (.i .i64 (.cl 3 24 (.var 500)))] (.var 504 zTM8_9)))]
abbrev zTM8_23 : List X := [(.rows 1 (.len 505) (.var 505 [(.i .i64)]))]
abbrev zTM8_24 : List X := [(.rows 25 (.len 2) (.var 506 zTM8_9))]
abbrev zTM8_25 : List X := [(.sc (.s (.cl 2 0 (.cl 505 0 (.var 502))))), zTM8_11, zTM8_12, zTM8_13, zTM8_14, zTM8_15, zTM8_16, zTM8_17, zTM8_18, zTM8_19, (.sc (.b (.lit true))), zTM8_11, zTM8_12, zTM8_13, zTM8_14, zTM8_15, zTM8_16, zTM8_17, zTM8_18, zTM8_19, zTM8_0, zTM8_0, zTM8_0]
abbrev zTM8_26 : XTp := ([(17, (.sc (.i .i64 (.var 560))))] ++ zTM8_1 ++ zTM8_2 ++ zTM8_3 ++ zTM8_4 ++ zTM8_5 ++ zTM8_6 ++ zTM8_7 ++ zTM8_10)
abbrev zTM8_27 : XHp := [((0, 0), zTM8_8), ((12, 0), zTM8_20), ((12, 1), zTM8_21), ((12, 2), zTM8_22), ((12, 3), zTM8_23), ((22, 0), zTM8_24), ((26, 0), [(.rows 1 (.len 2) (.var 561 [.b]))]), ((44, 0), zTM8_25)]
abbrev zTM8_28 : IE := .op .add .i64 (.var 560) (.lit 1)
abbrev zTM8_29 : XTp := ([(17, (.sc (.i .i64 zTM8_28)))] ++ zTM8_1 ++ zTM8_2 ++ zTM8_3 ++ zTM8_4 ++ zTM8_5 ++ zTM8_6 ++ zTM8_7 ++ zTM8_10)
abbrev zTM8_30 : RL := .upd (.var 560) [(.b (.lit true))] (.var 561 [.b])
def tw_E : XS := ⟨([(17, zTM8_0)] ++ zTM8_1 ++ zTM8_2 ++ zTM8_3 ++ zTM8_4 ++ zTM8_5 ++ zTM8_6 ++ zTM8_7 ++ zTM8_10), [((0, 0), zTM8_8), ((12, 0), zTM8_20), ((12, 1), zTM8_21), ((12, 2), zTM8_22), ((12, 3), zTM8_23), ((22, 0), zTM8_24), ((26, 0), [(.rows 1 (.len 2) (.var 507 [.b]))]), ((44, 0), zTM8_25)], 66⟩
def tw_ks : List Nat := [17, 75, 74, 73, 72, 71, 70, 69, 68, 67, 66, 65, 64, 63, 62, 61, 60, 59, 58, 16, 15, 57, 56, 53, 55, 54, 50, 49, 48, 47, 46, 45, 44, 43, 42, 14, 13, 12, 41, 40, 39, 11, 38, 37, 36, 35, 34, 10, 9, 33, 32, 25, 31, 30, 29, 28, 27, 26, 24, 23, 22, 21, 20, 8, 4, 0, 1, 2, 3]
theorem tw_Eb : tw_E.bel 560 = true := by kernel_rfl
def tw_S0 : XS := ⟨zTM8_26, zTM8_27, 66⟩
theorem tw_S0b : tw_S0.bel 590 = true := by kernel_rfl
def tw_I0 : Bind := ⟨[(560, (.lit 0))], [], [], [(561, (.len 2), (.var 507 [.b]))]⟩
theorem tw_I0ok : okS 0 560 tw_I0 [] tw_S0 tw_E = true := by kernel_rfl
theorem tw_I0g : tw_I0.ge 560 = true := by kernel_rfl
theorem tw_I0_560 : lassoc 560 tw_I0.i = some (.lit 0) := by kernel_rfl
theorem tw_I0_r561 : lassoc 561 tw_I0.r = some ((.len 2), (.var 507 [.b])) := by kernel_rfl
def tw_T_r : T (XE × XS) := (.ret (.normal, ⟨zTM8_29, [((0, 0), zTM8_8), ((12, 0), zTM8_20), ((12, 1), zTM8_21), ((12, 2), zTM8_22), ((12, 3), zTM8_23), ((22, 0), zTM8_24), ((26, 0), [(.rows 1 (.len 2) zTM8_30)]), ((44, 0), zTM8_25)], 84⟩))
theorem tw_T_run : (codeX (cfgL [] (fun _ => [])).ti (callS ⟨(cfgL [] (fun _ => [])), l_able, [9, 20, 33, 37, 58, 10010, 10011, 10013, 10014, 10023]⟩ 12) (((cfgL [] (fun _ => [])).ft 3).elim [] (·.ms)) 0 ([]) 1000 tw_c ((inK, true) :: (sqK, true) :: twF) tw_S0).map (sqz tw_ks) = tw_T_r := by kernel_rfl
def tw_T_s : XS := ⟨zTM8_29, [((0, 0), zTM8_8), ((12, 0), zTM8_20), ((12, 1), zTM8_21), ((12, 2), zTM8_22), ((12, 3), zTM8_23), ((22, 0), zTM8_24), ((26, 0), [(.rows 1 (.len 2) zTM8_30)]), ((44, 0), zTM8_25)], 84⟩
def tw_T_b : Bind := ⟨[(560, zTM8_28)], [], [], [(561, (.len 2), zTM8_30)]⟩
theorem tw_T_ok : okS 0 560 tw_T_b [] tw_S0 tw_T_s = true := by kernel_rfl
theorem tw_T_g : tw_T_b.ge 560 = true := by kernel_rfl
theorem tw_T_step {ρ ρ1 : Rho} (hd : tw_S0.den ρ = tw_S0.den ρ1) (cok : CfgOk Try.prog ρ1 (cfgL [] (fun _ => []))) (hl : LpsOk Try.prog ρ1 Try.f3.ntmps ([]) tw_c) (hk : Facts.ok ρ1 ((inK, true) :: (sqK, true) :: twF)) : StepF Try.prog Try.f3.ntmps tw_c 0 tw_S0 tw_S0 ρ (tw_T_b.ap ρ1) :=
  fam_goU tw_fits hd cok hl hk tw_T_run rfl tw_T_ok
theorem tw_T_560 : lassoc 560 tw_T_b.i = some (.op .add .i64 (.var 560) (.lit 1)) := by kernel_rfl
theorem tw_T_r561 : lassoc 561 tw_T_b.r = some ((.len 2), (.upd (.var 560) [(.b (.lit true))] (.var 561 [.b]))) := by kernel_rfl
def tw_F_r : T (XE × XS) := (.ret (.normal, ⟨zTM8_29, zTM8_27, 80⟩))
theorem tw_F_run : (codeX (cfgL [] (fun _ => [])).ti (callS ⟨(cfgL [] (fun _ => [])), l_able, [9, 20, 33, 37, 58, 10010, 10011, 10013, 10014, 10023]⟩ 12) (((cfgL [] (fun _ => [])).ft 3).elim [] (·.ms)) 0 ([]) 1000 tw_c ((inK, true) :: (sqK, false) :: twF) tw_S0).map (sqz tw_ks) = tw_F_r := by kernel_rfl
def tw_F_s : XS := ⟨zTM8_29, zTM8_27, 80⟩
def tw_F_b : Bind := ⟨[(560, (.op .add .i64 (.var 560) (.lit 1)))], [], [], [(561, (.len 2), (.var 561 [.b]))]⟩
theorem tw_F_ok : okS 0 560 tw_F_b [] tw_S0 tw_F_s = true := by kernel_rfl
theorem tw_F_g : tw_F_b.ge 560 = true := by kernel_rfl
theorem tw_F_step {ρ ρ1 : Rho} (hd : tw_S0.den ρ = tw_S0.den ρ1) (cok : CfgOk Try.prog ρ1 (cfgL [] (fun _ => []))) (hl : LpsOk Try.prog ρ1 Try.f3.ntmps ([]) tw_c) (hk : Facts.ok ρ1 ((inK, true) :: (sqK, false) :: twF)) : StepF Try.prog Try.f3.ntmps tw_c 0 tw_S0 tw_S0 ρ (tw_F_b.ap ρ1) :=
  fam_goU tw_fits hd cok hl hk tw_F_run rfl tw_F_ok
theorem tw_F_560 : lassoc 560 tw_F_b.i = some (.op .add .i64 (.var 560) (.lit 1)) := by kernel_rfl
theorem tw_F_r561 : lassoc 561 tw_F_b.r = some ((.len 2), (.var 561 [.b])) := by kernel_rfl
def tw_X_r : T (XE × XS) := (.ret ((.exit 2), ⟨zTM8_26, zTM8_27, 70⟩))
theorem tw_X_run : (codeX (cfgL [] (fun _ => [])).ti (callS ⟨(cfgL [] (fun _ => [])), l_able, [9, 20, 33, 37, 58, 10010, 10011, 10013, 10014, 10023]⟩ 12) (((cfgL [] (fun _ => [])).ft 3).elim [] (·.ms)) 0 ([]) 1000 tw_c ((inK, false) :: twF) tw_S0).map (sqz tw_ks) = tw_X_r := by kernel_rfl
def tw_X_s : XS := ⟨zTM8_26, zTM8_27, 70⟩
def tw_out : T (XE × XS) := (.ret ((.exit 2), tw_X_s))
noncomputable def tw : LoopX := ⟨((codeKey tw_c).getD 0), 0, 560, tw_E, noB, [], tw_out⟩
theorem tw_ob : tw.out.belX 590 = true := by kernel_rfl
theorem tw_X_end {ρ1 : Rho} (cok : CfgOk Try.prog ρ1 (cfgL [] (fun _ => []))) (hl : LpsOk Try.prog ρ1 Try.f3.ntmps ([]) tw_c) (hk : Facts.ok ρ1 ((inK, false) :: twF)) (ho : tw_out.sel ρ1 = some ((.exit 2), tw_X_s)) : EndL Try.prog Try.f3.ntmps tw_c 0 tw_S0 tw_out ρ1 :=
  fam_endU tw_fits cok hl hk tw_X_run rfl (fun h => nomatch h) ho (by kernel_rfl)
end Go.Proofs.Ytdlifdoglhhnfaa
