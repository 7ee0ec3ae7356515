/- Parts of the proof, one behind the other. -/
import Derived.Test.YtdlifdoglhhnfaaTM8
import Derived.Test.YtdlifdoglhhnfaaXwM3
/- Txn: TxnSettles' loop over the answers: what is run once. -/
namespace Go.Proofs.Ytdlifdoglhhnfaa
open Go Go.Proofs.Aw Go.Proofs.Xw
set_option maxRecDepth 100000
/-- Turn's second loop, where all is covered; where something is not. -/
noncomputable def t2P_c : Code := t2_c
noncomputable def t2Q_c : Code := t2_c
noncomputable def t2P : LoopX := ⟨((codeKey t2_c).getD 0), 125, 550, t2_E, noB, [], .ret (.exit 2, t2_X0_s)⟩
noncomputable def t2Q : LoopX := ⟨((codeKey t2_c).getD 0), 125, 550, t2_E, noB, [], .ret (.exit 2, t2_X1_s)⟩
noncomputable def lpTP (f : Nat) : List LoopX := if Nat.beq f 34 = true then [t1, t2P] else []
theorem lpTP_34o : othersB [t1, t2P] [0, 1] 0 (loopsOf (Try.f34.body.getD .skip)) = true := by kernel_rfl
theorem lpTP_34 {ρ : Rho} (h_t1 : LoopOk Try.prog ρ Try.f34.ntmps t1_c t1) (h_t2P : LoopOk Try.prog ρ Try.f34.ntmps t2P_c t2P) : LpsOk Try.prog ρ Try.f34.ntmps [t1, t2P] (Try.f34.body.getD .skip) :=
  lps_idx [0, 1] lpTP_34o (List.forall_mem_cons.2 ⟨look_list (c := t1_c) (Ls := [t1]) (by kernel_rfl) (List.forall_mem_cons.2 ⟨h_t1, List.forall_mem_nil _⟩), List.forall_mem_cons.2 ⟨look_list (c := t2P_c) (Ls := [t2P]) (by kernel_rfl) (List.forall_mem_cons.2 ⟨h_t2P, List.forall_mem_nil _⟩), List.forall_mem_nil _⟩⟩)
theorem lpTP_ok {ρ : Rho} (h_t1 : LoopOk Try.prog ρ Try.f34.ntmps t1_c t1) (h_t2P : LoopOk Try.prog ρ Try.f34.ntmps t2P_c t2P) : ∀ f i, btLook f ftsT = some i → LpsOk Try.prog ρ i.ntmps (lpTP f) i.body := by
  intro f i h
  have hi := fts_ok (f, i) (bt_of_mem _ _ (btLook_mem h))
  unfold lpTP
  split
  · rename_i hf
    have hf := Nat.eq_of_beq_eq_true hf
    subst hf
    exact lps_row hi Try.func34 (lpTP_34 h_t1 h_t2P)
  · exact LpsOk.nil _ _ _ _
noncomputable def lpTQ (f : Nat) : List LoopX := if Nat.beq f 34 = true then [t1, t2Q] else []
theorem lpTQ_34o : othersB [t1, t2Q] [0, 1] 0 (loopsOf (Try.f34.body.getD .skip)) = true := by kernel_rfl
theorem lpTQ_34 {ρ : Rho} (h_t1 : LoopOk Try.prog ρ Try.f34.ntmps t1_c t1) (h_t2Q : LoopOk Try.prog ρ Try.f34.ntmps t2Q_c t2Q) : LpsOk Try.prog ρ Try.f34.ntmps [t1, t2Q] (Try.f34.body.getD .skip) :=
  lps_idx [0, 1] lpTQ_34o (List.forall_mem_cons.2 ⟨look_list (c := t1_c) (Ls := [t1]) (by kernel_rfl) (List.forall_mem_cons.2 ⟨h_t1, List.forall_mem_nil _⟩), List.forall_mem_cons.2 ⟨look_list (c := t2Q_c) (Ls := [t2Q]) (by kernel_rfl) (List.forall_mem_cons.2 ⟨h_t2Q, List.forall_mem_nil _⟩), List.forall_mem_nil _⟩⟩)
theorem lpTQ_ok {ρ : Rho} (h_t1 : LoopOk Try.prog ρ Try.f34.ntmps t1_c t1) (h_t2Q : LoopOk Try.prog ρ Try.f34.ntmps t2Q_c t2Q) : ∀ f i, btLook f ftsT = some i → LpsOk Try.prog ρ i.ntmps (lpTQ f) i.body := by
  intro f i h
  have hi := fts_ok (f, i) (bt_of_mem _ _ (btLook_mem h))
  unfold lpTQ
  split
  · rename_i hf
    have hf := Nat.eq_of_beq_eq_true hf
    subst hf
    exact lps_row hi Try.func34 (lpTQ_34 h_t1 h_t2Q)
  · exact LpsOk.nil _ _ _ _
def ksP : List (Nat × List X × X) := [(16, [.ro 20 [enC 3 (.var 500)] true], .agg (vi 540 9)), (15, [.agg (vi 510 9), .agg (vi 540 9)], .sc (.b (.var 549)))]

noncomputable def mn_c : Code := (loopsOf (Try.f3.body.getD .skip))[0]?.getD .skip
theorem mn_fits : fitsC Try.f3.ntmps mn_c = true := by kernel_rfl
abbrev zTM9_0 : Sc := .i .i64 (.lit 0)
abbrev zTM9_1 : X := .slv (26, 0) 1 (.lit 0) (.len 2) true
abbrev zTM9_2 : X := .slv (22, 0) 25 (.lit 0) (.len 2) true
abbrev zTM9_3 : XTp := [(38, .top), (37, .top), (36, .top), (35, .top), (34, .top), (10, .top)]
abbrev zTM9_4 : XTp := [(9, (.ptr (12, 0) [] 0))]
abbrev zTM9_5 : XTp := [(33, .top), (32, .top), (25, .top), (31, .top), (30, .top), (29, .top), (28, .top), (27, .top), (26, .top), (24, .top), (23, .top), (22, .top), (21, .top), (20, .top), (8, .top)]
abbrev zTM9_6 : X := .sc (.i .i64 (.var 0))
abbrev zTM9_7 : X := .sc (.i .i64 (.var 1))
abbrev zTM9_8 : X := .sc (.i .i64 (.var 2))
abbrev zTM9_9 : X := .sc (.i .i64 (.var 3))
abbrev zTM9_10 : X := .sc (.i .i64 (.var 4))
abbrev zTM9_11 : X := .sc (.i .i64 (.var 5))
abbrev zTM9_12 : X := .sc (.i .i64 (.var 6))
abbrev zTM9_13 : X := .sc (.i .i64 (.var 7))
abbrev zTM9_14 : X := .sc (.i .i64 (.var 8))
abbrev zTM9_15 : List X := [zTM9_6, zTM9_7, zTM9_8, zTM9_9, zTM9_10, zTM9_11, zTM9_12, zTM9_13, zTM9_14]
abbrev zTM9_16 : X := .sc (.i .i64 (.var 9))
abbrev zTM9_17 : X := .rl 1 (.len 2) (.var 2 [.s]) false
abbrev zTM9_18 : List Kd := [(.i .i64), .b, (.i .i64), (.i .i64), (.i .i64), (.i .i64), (.i .i64), (.i .i64), .s, .s, .b, (.i .i64), (.i .i64), (.i .i64), (.i .i64), (.i .i64), (.i .i64), (.i .i64), (.i .i64), (.i .i64), (.i .i64), (.i .i64), (.i .i64), (.i .i64), (.i .i64)]
abbrev zTM9_19 : X := .rl 25 (.len 3) (.var 3 zTM9_18) false
abbrev zTM9_20 : XTp := [(4, (.ptr (0, 0) [] 0)), (0, (.agg zTM9_15)), (1, zTM9_16), (2, zTM9_17), (3, zTM9_19)]
abbrev zTM9_21 : X := .slv (12, 1) 1 (.lit 0) (.len 2) true
abbrev zTM9_22 : X := .slv (12, 2) 25 (.lit 0) (.len 2) true
abbrev zTM9_23 : List X := [(.rows 1 (.len 2) (.var 2 [.s]))]
abbrev zTM9_24 : Sc := .b (.lit false)
abbrev zTM9_25 : RL := .one [zTM9_0, zTM9_24, zTM9_0, zTM9_0, zTM9_0, zTM9_0, zTM9_0, zTM9_0, (.s (.lit ⟨#[]⟩)), (.s (.lit ⟨#[]⟩)), zTM9_24, zTM9_0, zTM9_0, zTM9_0, zTM9_0, zTM9_0, zTM9_0, zTM9_0, zTM9_0, zTM9_0, zTM9_0, zTM9_0, zTM9_0, zTM9_0, zTM9_0]
abbrev zTM9_26 : XTp := [(14, (.sc (.i .i64 (.var 500)))), (13, (.sc (.i .i64 (.var 501)))), (12, zTM9_1), (41, .top), (40, .top), (39, .top), (11, zTM9_2)]
abbrev zTM9_27 : XTp := (zTM9_26 ++ zTM9_3 ++ zTM9_4 ++ zTM9_5 ++ zTM9_20)
abbrev zTM9_28 : X := .sc (.i .i64 (.var 510))
abbrev zTM9_29 : X := .sc (.i .i64 (.var 511))
abbrev zTM9_30 : X := .sc (.i .i64 (.var 512))
abbrev zTM9_31 : X := .sc (.i .i64 (.var 513))
abbrev zTM9_32 : X := .sc (.i .i64 (.var 514))
abbrev zTM9_33 : X := .sc (.i .i64 (.var 515))
abbrev zTM9_34 : X := .sc (.i .i64 (.var 516))
abbrev zTM9_35 : X := .sc (.i .i64 (.var 517))
abbrev zTM9_36 : X := .sc (.i .i64 (.var 518))
abbrev zTM9_37 : X := .sc (.i .i64 (.var 519))
abbrev zTM9_38 : List X := [zTM9_6, zTM9_7, zTM9_8, zTM9_9, zTM9_10, zTM9_11, zTM9_12, zTM9_13, zTM9_14, zTM9_28, zTM9_29, zTM9_30, zTM9_31, zTM9_32, zTM9_33, zTM9_34, zTM9_35, zTM9_36, zTM9_16, zTM9_21, zTM9_22, (.slv (12, 3) 1 (.var 502) (.var 503) true), zTM9_37, (.sc zTM9_0)]
abbrev zTM9_39 : RL := .var 504 zTM9_18
abbrev zTM9_40 : List X := [(.rows 25 (.len 2) zTM9_39)]
abbrev zTM9_41 : RL := .var 505 [(.i .i64)]
abbrev zTM9_42 : List X := [(.rows 1 (.len 505) zTM9_41)]
abbrev zTM9_43 : RL := .var 506 zTM9_18
abbrev zTM9_44 : List X := [(.rows 25 (.len 2) zTM9_43)]
abbrev zTM9_45 : RL := .var 507 [.b]
abbrev zTM9_46 : List X := [(.rows 1 (.len 2) zTM9_45)]
abbrev zTM9_47 : XHp := [((0, 0), zTM9_15), ((12, 0), zTM9_38), ((12, 1), zTM9_23), ((12, 2), zTM9_40), ((12, 3), zTM9_42), ((22, 0), zTM9_44), ((26, 0), zTM9_46)]
abbrev zTM9_48 : XTp := (zTM9_26 ++ zTM9_3 ++ zTM9_4 ++ [(33, .top), (32, .top), (25, .top), (31, .top), (30, .top), (29, .top), (28, .top), (27, .top), (26, .top), (24, .top), (23, .top), (22, .top), (21, .top), (20, .top), (8, .top), (4, .top)] ++ [(0, (.agg zTM9_15)), (1, zTM9_16), (2, zTM9_17), (3, zTM9_19)])
abbrev zTM9_49 : XHp := [((12, 0), [zTM9_6, zTM9_7, zTM9_8, zTM9_9, zTM9_10, zTM9_11, zTM9_12, zTM9_13, zTM9_14, zTM9_28, zTM9_29, zTM9_30, zTM9_31, zTM9_32, zTM9_33, zTM9_34, zTM9_35, zTM9_36, zTM9_16, zTM9_21, zTM9_22, (.k (.slice none 0 0)), zTM9_37, (.sc (.i .i64 (.var 520)))]), ((12, 1), zTM9_23), ((12, 2), zTM9_40), ((22, 0), zTM9_44), ((26, 0), zTM9_46)]
abbrev zTM9_50 : BE := .not (.lt (.len 505) (.op .padd .i64 (.var 502) (.var 503)))
abbrev zTM9_51 : IE := .op .add .i64 (.var 500) (.lit 1)
abbrev zTM9_52 : XTp := ([(14, (.sc (.i .i64 zTM9_51))), (13, (.sc (.i .i64 (.var 501)))), (12, zTM9_1), (41, .top), (40, .top), (39, .top), (11, zTM9_2)] ++ zTM9_3 ++ zTM9_4 ++ zTM9_5 ++ zTM9_20)
abbrev zTM9_53 : X := .sc (.s (.cl 2 0 (.cl 505 0 (.var 502))))
abbrev zTM9_54 : BE := .eq (.var 519) (.lit 1)
abbrev zTM9_55 : List X := [zTM9_53, (.sc (.i .i64 (.ite zTM9_54 (.var 0) (.var 510)))), (.sc (.i .i64 (.ite zTM9_54 (.var 1) (.var 511)))), (.sc (.i .i64 (.ite zTM9_54 (.var 2) (.var 512)))), (.sc (.i .i64 (.ite zTM9_54 (.var 3) (.var 513)))), (.sc (.i .i64 (.ite zTM9_54 (.var 4) (.var 514)))), (.sc (.i .i64 (.ite zTM9_54 (.var 5) (.var 515)))), (.sc (.i .i64 (.ite zTM9_54 (.var 6) (.var 516)))), (.sc (.i .i64 (.ite zTM9_54 (.var 7) (.var 517)))), (.sc (.i .i64 (.ite zTM9_54 (.var 8) (.var 518)))), (.sc (.b (.not zTM9_54))), (.sc (.i .i64 (.ite zTM9_54 (.lit 0) (.var 510)))), (.sc (.i .i64 (.ite zTM9_54 (.lit 0) (.var 511)))), (.sc (.i .i64 (.ite zTM9_54 (.lit 0) (.var 512)))), (.sc (.i .i64 (.ite zTM9_54 (.lit 0) (.var 513)))), (.sc (.i .i64 (.ite zTM9_54 (.lit 0) (.var 514)))), (.sc (.i .i64 (.ite zTM9_54 (.lit 0) (.var 515)))), (.sc (.i .i64 (.ite zTM9_54 (.lit 0) (.var 516)))), (.sc (.i .i64 (.ite zTM9_54 (.lit 0) (.var 517)))), (.sc (.i .i64 (.ite zTM9_54 (.lit 0) (.var 518)))), (.sc zTM9_0), (.sc zTM9_0), (.sc zTM9_0)]
abbrev zTM9_56 : IE := .op .add .i64 (.var 501) (.lit 1)
abbrev zTM9_57 : XTp := ([(14, (.sc (.i .i64 zTM9_51))), (13, (.sc (.i .i64 zTM9_56))), (12, zTM9_1), (41, .top), (40, .top), (39, .top), (11, zTM9_2)] ++ zTM9_3 ++ zTM9_4 ++ zTM9_5 ++ zTM9_20)
abbrev zTM9_58 : IE := .op .padd .i64 (.var 502) (.lit 1)
abbrev zTM9_59 : IE := .op .psub .i64 (.var 503) (.lit 1)
abbrev zTM9_60 : X := .slv (12, 3) 1 zTM9_58 zTM9_59 true
abbrev zTM9_61 : List X := [zTM9_6, zTM9_7, zTM9_8, zTM9_9, zTM9_10, zTM9_11, zTM9_12, zTM9_13, zTM9_14, zTM9_28, zTM9_29, zTM9_30, zTM9_31, zTM9_32, zTM9_33, zTM9_34, zTM9_35, zTM9_36, zTM9_16, zTM9_21, zTM9_22, zTM9_60, zTM9_37, (.sc zTM9_0)]
abbrev zTM9_62 : List Sc := [(.i .i64 (.cl 3 0 (.var 500))), (.b (.cl 3 1 (.var 500))), (.i .i64 (.cl 3 2 (.var 500))), (.i .i64 (.cl 3 3 (.var 500))), (.i .i64 (.cl 3 4 (.var 500))), (.i .i64 (.cl 3 5 (.var 500))), (.i .i64 (.cl 3 6 (.var 500))), (.i .i64 (.cl 3 7 (.var 500))), (.s (.cl 3 8 (.var 500))), (.s (.cl 3 9 (.var 500))), (.b (.cl 3 10 (.var 500))), (.i .i64 (.cl 3 11 (.var 500))), (.i .i64 (.cl 3 12 (.var 500))), (.i .i64 (.cl 3 13 (.var 500))), (.i .i64 (.cl 3 14 (.var 500))), (.i .i64 (.cl 3 15 (.var 500))), (.i .i64 (.cl 3 16 (.var 500))), (.i .i64 (.cl 3 17 (.var 500))), (.i .i64 (.cl 3 18 (.var 500))), (.i .i64 (.cl 3 19 (.var 500))), (.i .i64 (.cl 3 20 (.var 500))), (.i .i64 (.cl 3 21 (.var 500))), (.i .i64 (.cl 3 22 (.var 500))), (.i .i64 (.cl 3 23 (.var 500))), (.i .i64 (.cl 3 24 (.var 500)))]
abbrev zTM9_63 : RL := .upd (.cl 505 0 (.var 502)) zTM9_62 zTM9_39
abbrev zTM9_64 : RL := .upd (.var 501) zTM9_62 zTM9_43
abbrev zTM9_65 : List X := [(.rows 25 (.len 2) zTM9_64)]
abbrev zTM9_66 : List X := [zTM9_53, zTM9_6, zTM9_7, zTM9_8, zTM9_9, zTM9_10, zTM9_11, zTM9_12, zTM9_13, zTM9_14, (.sc zTM9_24), (.sc zTM9_0), (.sc zTM9_0), (.sc zTM9_0), (.sc zTM9_0), (.sc zTM9_0), (.sc zTM9_0), (.sc zTM9_0), (.sc zTM9_0), (.sc zTM9_0), (.sc zTM9_0), (.sc zTM9_0), (.sc zTM9_0)]
abbrev zTM9_67 : List X := [zTM9_53, zTM9_28, zTM9_29, zTM9_30, zTM9_31, zTM9_32, zTM9_33, zTM9_34, zTM9_35, zTM9_36, (.sc (.b (.lit true))), zTM9_28, zTM9_29, zTM9_30, zTM9_31, zTM9_32, zTM9_33, zTM9_34, zTM9_35, zTM9_36, (.sc zTM9_0), (.sc zTM9_0), (.sc zTM9_0)]
abbrev zTM9_68 : BE := .not (.lt (.var 531) (.len 2))
abbrev zTM9_69 : List X := [(.rows 25 (.len 2) (.var 530 zTM9_18))]
def mn_E : XS := ⟨([(14, (.sc zTM9_0)), (13, (.sc zTM9_0)), (12, zTM9_1), (41, .top), (40, .top), (39, .top), (11, zTM9_2)] ++ zTM9_3 ++ zTM9_4 ++ zTM9_5 ++ zTM9_20), [((0, 0), zTM9_15), ((12, 0), [zTM9_6, zTM9_7, zTM9_8, zTM9_9, zTM9_10, zTM9_11, zTM9_12, zTM9_13, zTM9_14, zTM9_6, zTM9_7, zTM9_8, zTM9_9, zTM9_10, zTM9_11, zTM9_12, zTM9_13, zTM9_14, zTM9_16, zTM9_21, zTM9_22, (.slv (12, 3) 1 (.lit 0) (.len 461) true), (.sc (.i .i64 (.lit 1))), (.sc zTM9_0)]), ((12, 1), zTM9_23), ((12, 2), [(.rows 25 (.len 2) zTM9_25)]), ((12, 3), [(.rows 1 (.len 461) (.var 461 [(.i .i64)]))]), ((22, 0), [(.rows 25 (.len 2) zTM9_25)]), ((26, 0), [(.rows 1 (.len 2) (.one [zTM9_24]))])], 30⟩
def mn_ks : List Nat := [14, 13, 12, 41, 40, 39, 11, 38, 37, 36, 35, 34, 10, 9, 33, 32, 25, 31, 30, 29, 28, 27, 26, 24, 23, 22, 21, 20, 8, 4, 0, 1, 2, 3]
theorem mn_Eb : mn_E.bel 500 = true := by kernel_rfl
def mn_S0 : XS := ⟨zTM9_27, zTM9_47, 30⟩
def mn_S1 : XS := ⟨zTM9_48, zTM9_49, 30⟩
theorem mn_S0b : mn_S0.bel 530 = true := by kernel_rfl
theorem mn_S1b : mn_S1.bel 530 = true := by kernel_rfl
def mn_I0 : Bind := ⟨[(500, (.lit 0)), (501, (.lit 0)), (502, (.lit 0)), (503, (.len 461)), (510, (.var 0)), (511, (.var 1)), (512, (.var 2)), (513, (.var 3)), (514, (.var 4)), (515, (.var 5)), (516, (.var 6)), (517, (.var 7)), (518, (.var 8)), (519, (.lit 1))], [], [], [(504, (.len 2), zTM9_25), (505, (.len 461), (.var 461 [(.i .i64)])), (506, (.len 2), zTM9_25), (507, (.len 2), (.one [zTM9_24]))]⟩
theorem mn_I0ok : okS 0 500 mn_I0 [] mn_S0 mn_E = true := by kernel_rfl
theorem mn_I0g : mn_I0.ge 500 = true := by kernel_rfl
theorem mn_I0_500 : lassoc 500 mn_I0.i = some (.lit 0) := by kernel_rfl
theorem mn_I0_501 : lassoc 501 mn_I0.i = some (.lit 0) := by kernel_rfl
theorem mn_I0_502 : lassoc 502 mn_I0.i = some (.lit 0) := by kernel_rfl
theorem mn_I0_503 : lassoc 503 mn_I0.i = some (.len 461) := by kernel_rfl
theorem mn_I0_510 : lassoc 510 mn_I0.i = some (.var 0) := by kernel_rfl
theorem mn_I0_511 : lassoc 511 mn_I0.i = some (.var 1) := by kernel_rfl
theorem mn_I0_512 : lassoc 512 mn_I0.i = some (.var 2) := by kernel_rfl
theorem mn_I0_513 : lassoc 513 mn_I0.i = some (.var 3) := by kernel_rfl
theorem mn_I0_514 : lassoc 514 mn_I0.i = some (.var 4) := by kernel_rfl
theorem mn_I0_515 : lassoc 515 mn_I0.i = some (.var 5) := by kernel_rfl
theorem mn_I0_516 : lassoc 516 mn_I0.i = some (.var 6) := by kernel_rfl
theorem mn_I0_517 : lassoc 517 mn_I0.i = some (.var 7) := by kernel_rfl
theorem mn_I0_518 : lassoc 518 mn_I0.i = some (.var 8) := by kernel_rfl
theorem mn_I0_519 : lassoc 519 mn_I0.i = some (.lit 1) := by kernel_rfl
theorem mn_I0_r504 : lassoc 504 mn_I0.r = some ((.len 2), (.one [(.i .i64 (.lit 0)), (.b (.lit false)), (.i .i64 (.lit 0)), (.i .i64 (.lit 0)), (.i .i64 (.lit 0)), (.i .i64 (.lit 0)), (.i .i64 (.lit 0)), (.i .i64 (.lit 0)), (.s (.lit ⟨#[]⟩)), (.s (.lit ⟨#[]⟩)), (.b (.lit false)), (.i .i64 (.lit 0)), (.i .i64 (.lit 0)), (.i .i64 (.lit 0)), (.i .i64 (.lit 0)), (.i .i64 (.lit 0)), (.i .i64 (.lit 0)), (.i .i64 (.lit 0)), (.i .i64 (.lit 0)), (.i .i64 (.lit 0)), (.i .i64 (.lit 0)), (.i .i64 (.lit 0)), (.i .i64 (.lit 0)), (.i .i64 (.lit 0)), (.i .i64 (.lit 0))])) := by kernel_rfl
theorem mn_I0_r505 : lassoc 505 mn_I0.r = some ((.len 461), (.var 461 [(.i .i64)])) := by kernel_rfl
theorem mn_I0_r506 : lassoc 506 mn_I0.r = some ((.len 2), (.one [(.i .i64 (.lit 0)), (.b (.lit false)), (.i .i64 (.lit 0)), (.i .i64 (.lit 0)), (.i .i64 (.lit 0)), (.i .i64 (.lit 0)), (.i .i64 (.lit 0)), (.i .i64 (.lit 0)), (.s (.lit ⟨#[]⟩)), (.s (.lit ⟨#[]⟩)), (.b (.lit false)), (.i .i64 (.lit 0)), (.i .i64 (.lit 0)), (.i .i64 (.lit 0)), (.i .i64 (.lit 0)), (.i .i64 (.lit 0)), (.i .i64 (.lit 0)), (.i .i64 (.lit 0)), (.i .i64 (.lit 0)), (.i .i64 (.lit 0)), (.i .i64 (.lit 0)), (.i .i64 (.lit 0)), (.i .i64 (.lit 0)), (.i .i64 (.lit 0)), (.i .i64 (.lit 0))])) := by kernel_rfl
theorem mn_I0_r507 : lassoc 507 mn_I0.r = some ((.len 2), (.one [(.b (.lit false))])) := by kernel_rfl
def mn_G_r : T (XE × XS) := (.need zTM9_50 (.ret (.normal, ⟨zTM9_52, [((0, 0), zTM9_15), ((12, 0), [zTM9_6, zTM9_7, zTM9_8, zTM9_9, zTM9_10, zTM9_11, zTM9_12, zTM9_13, zTM9_14, zTM9_28, zTM9_29, zTM9_30, zTM9_31, zTM9_32, zTM9_33, zTM9_34, zTM9_35, zTM9_36, zTM9_16, zTM9_21, zTM9_22, (.k (.slice none 0 0)), zTM9_37, (.sc (.i .i64 (.cl 3 0 (.var 500))))]), ((12, 1), zTM9_23), ((12, 2), zTM9_40), ((12, 3), zTM9_42), ((22, 0), zTM9_44), ((26, 0), zTM9_46), ((44, 0), zTM9_55)], 65⟩)))
theorem mn_G_run : (codeX (cfgL [] (fun _ => [])).ti (callS ⟨(cfgL [] (fun _ => [])), l_able, [9, 20, 33, 37, 58, 10010, 10011, 10013, 10014, 10023]⟩ 12) (((cfgL [] (fun _ => [])).ft 3).elim [] (·.ms)) 0 ([]) 1000 mn_c ((inM, true) :: (.eq cdE (.lit 60), true) :: (mnF ++ lvF)) mn_S0).map (sqz mn_ks) = mn_G_r := by kernel_rfl
def mn_G_s : XS := ⟨zTM9_52, [((0, 0), zTM9_15), ((12, 0), [zTM9_6, zTM9_7, zTM9_8, zTM9_9, zTM9_10, zTM9_11, zTM9_12, zTM9_13, zTM9_14, zTM9_28, zTM9_29, zTM9_30, zTM9_31, zTM9_32, zTM9_33, zTM9_34, zTM9_35, zTM9_36, zTM9_16, zTM9_21, zTM9_22, (.k (.slice none 0 0)), zTM9_37, (.sc (.i .i64 (.cl 3 0 (.var 500))))]), ((12, 1), zTM9_23), ((12, 2), zTM9_40), ((12, 3), zTM9_42), ((22, 0), zTM9_44), ((26, 0), zTM9_46), ((44, 0), zTM9_55)], 65⟩
def mn_G_b : Bind := ⟨[(500, zTM9_51), (501, (.var 501)), (510, (.var 510)), (511, (.var 511)), (512, (.var 512)), (513, (.var 513)), (514, (.var 514)), (515, (.var 515)), (516, (.var 516)), (517, (.var 517)), (518, (.var 518)), (519, (.var 519)), (520, (.cl 3 0 (.var 500)))], [], [], [(504, (.len 2), zTM9_39), (506, (.len 2), zTM9_43), (507, (.len 2), zTM9_45)]⟩
theorem mn_G_ok : okS 0 500 mn_G_b [] mn_S1 mn_G_s = true := by kernel_rfl
theorem mn_G_g : mn_G_b.ge 500 = true := by kernel_rfl
theorem mn_G_step {ρ ρ1 : Rho} (hd : mn_S0.den ρ = mn_S0.den ρ1) (cok : CfgOk Try.prog ρ1 (cfgL [] (fun _ => []))) (hl : LpsOk Try.prog ρ1 Try.f3.ntmps ([]) mn_c) (hk : Facts.ok ρ1 ((inM, true) :: (.eq cdE (.lit 60), true) :: (mnF ++ lvF))) (h0 : ((.not (.lt (.len 505) (.op .padd .i64 (.var 502) (.var 503)))) : BE).den ρ1 = true) : StepF Try.prog Try.f3.ntmps mn_c 0 mn_S0 mn_S1 ρ (mn_G_b.ap ρ1) :=
  fam_goU mn_fits hd cok hl hk mn_G_run (sel_need h0 rfl) mn_G_ok
theorem mn_G_500 : lassoc 500 mn_G_b.i = some (.op .add .i64 (.var 500) (.lit 1)) := by kernel_rfl
theorem mn_G_501 : lassoc 501 mn_G_b.i = some (.var 501) := by kernel_rfl
theorem mn_G_510 : lassoc 510 mn_G_b.i = some (.var 510) := by kernel_rfl
theorem mn_G_511 : lassoc 511 mn_G_b.i = some (.var 511) := by kernel_rfl
theorem mn_G_512 : lassoc 512 mn_G_b.i = some (.var 512) := by kernel_rfl
theorem mn_G_513 : lassoc 513 mn_G_b.i = some (.var 513) := by kernel_rfl
theorem mn_G_514 : lassoc 514 mn_G_b.i = some (.var 514) := by kernel_rfl
theorem mn_G_515 : lassoc 515 mn_G_b.i = some (.var 515) := by kernel_rfl
theorem mn_G_516 : lassoc 516 mn_G_b.i = some (.var 516) := by kernel_rfl
theorem mn_G_517 : lassoc 517 mn_G_b.i = some (.var 517) := by kernel_rfl
theorem mn_G_518 : lassoc 518 mn_G_b.i = some (.var 518) := by kernel_rfl
theorem mn_G_519 : lassoc 519 mn_G_b.i = some (.var 519) := by kernel_rfl
theorem mn_G_520 : lassoc 520 mn_G_b.i = some (.cl 3 0 (.var 500)) := by kernel_rfl
theorem mn_G_r504 : lassoc 504 mn_G_b.r = some ((.len 2), (.var 504 [(.i .i64), .b, (.i .i64), (.i .i64), (.i .i64), (.i .i64), (.i .i64), (.i .i64), .s, .s, .b, (.i .i64), (.i .i64), (.i .i64), (.i .i64), (.i .i64), (.i .i64), (.i .i64), (.i .i64), (.i .i64), (.i .i64), (.i .i64), (.i .i64), (.i .i64), (.i .i64)])) := by kernel_rfl
theorem mn_G_r506 : lassoc 506 mn_G_b.r = some ((.len 2), (.var 506 [(.i .i64), .b, (.i .i64), (.i .i64), (.i .i64), (.i .i64), (.i .i64), (.i .i64), .s, .s, .b, (.i .i64), (.i .i64), (.i .i64), (.i .i64), (.i .i64), (.i .i64), (.i .i64), (.i .i64), (.i .i64), (.i .i64), (.i .i64), (.i .i64), (.i .i64), (.i .i64)])) := by kernel_rfl
theorem mn_G_r507 : lassoc 507 mn_G_b.r = some ((.len 2), (.var 507 [.b])) := by kernel_rfl
def mn_E_r : T (XE × XS) := (.need zTM9_50 (.ret (.normal, ⟨zTM9_52, [((0, 0), zTM9_15), ((12, 0), zTM9_38), ((12, 1), zTM9_23), ((12, 2), zTM9_40), ((12, 3), zTM9_42), ((22, 0), zTM9_44), ((26, 0), zTM9_46), ((44, 0), zTM9_55)], 59⟩)))
theorem mn_E_run : (codeX (cfgL [] (fun _ => [])).ti (callS ⟨(cfgL [] (fun _ => [])), l_able, [9, 20, 33, 37, 58, 10010, 10011, 10013, 10014, 10023]⟩ 12) (((cfgL [] (fun _ => [])).ft 3).elim [] (·.ms)) 0 ([]) 1000 mn_c ((inM, true) :: (.eq cdE (.lit 60), false) :: (.eq cdE (.lit 0), false) :: (mnF ++ lvF)) mn_S0).map (sqz mn_ks) = mn_E_r := by kernel_rfl
def mn_E_s : XS := ⟨zTM9_52, [((0, 0), zTM9_15), ((12, 0), zTM9_38), ((12, 1), zTM9_23), ((12, 2), zTM9_40), ((12, 3), zTM9_42), ((22, 0), zTM9_44), ((26, 0), zTM9_46), ((44, 0), zTM9_55)], 59⟩
def mn_E_b : Bind := ⟨[(500, zTM9_51), (501, (.var 501)), (502, (.var 502)), (503, (.var 503)), (510, (.var 510)), (511, (.var 511)), (512, (.var 512)), (513, (.var 513)), (514, (.var 514)), (515, (.var 515)), (516, (.var 516)), (517, (.var 517)), (518, (.var 518)), (519, (.var 519))], [], [], [(504, (.len 2), zTM9_39), (505, (.len 505), zTM9_41), (506, (.len 2), zTM9_43), (507, (.len 2), zTM9_45)]⟩
theorem mn_E_ok : okS 0 500 mn_E_b [] mn_S0 mn_E_s = true := by kernel_rfl
theorem mn_E_g : mn_E_b.ge 500 = true := by kernel_rfl
theorem mn_E_step {ρ ρ1 : Rho} (hd : mn_S0.den ρ = mn_S0.den ρ1) (cok : CfgOk Try.prog ρ1 (cfgL [] (fun _ => []))) (hl : LpsOk Try.prog ρ1 Try.f3.ntmps ([]) mn_c) (hk : Facts.ok ρ1 ((inM, true) :: (.eq cdE (.lit 60), false) :: (.eq cdE (.lit 0), false) :: (mnF ++ lvF))) (h0 : ((.not (.lt (.len 505) (.op .padd .i64 (.var 502) (.var 503)))) : BE).den ρ1 = true) : StepF Try.prog Try.f3.ntmps mn_c 0 mn_S0 mn_S0 ρ (mn_E_b.ap ρ1) :=
  fam_goU mn_fits hd cok hl hk mn_E_run (sel_need h0 rfl) mn_E_ok
theorem mn_E_500 : lassoc 500 mn_E_b.i = some (.op .add .i64 (.var 500) (.lit 1)) := by kernel_rfl
theorem mn_E_501 : lassoc 501 mn_E_b.i = some (.var 501) := by kernel_rfl
theorem mn_E_502 : lassoc 502 mn_E_b.i = some (.var 502) := by kernel_rfl
theorem mn_E_503 : lassoc 503 mn_E_b.i = some (.var 503) := by kernel_rfl
theorem mn_E_510 : lassoc 510 mn_E_b.i = some (.var 510) := by kernel_rfl
theorem mn_E_511 : lassoc 511 mn_E_b.i = some (.var 511) := by kernel_rfl
theorem mn_E_512 : lassoc 512 mn_E_b.i = some (.var 512) := by kernel_rfl
theorem mn_E_513 : lassoc 513 mn_E_b.i = some (.var 513) := by kernel_rfl
theorem mn_E_514 : lassoc 514 mn_E_b.i = some (.var 514) := by kernel_rfl
theorem mn_E_515 : lassoc 515 mn_E_b.i = some (.var 515) := by kernel_rfl
theorem mn_E_516 : lassoc 516 mn_E_b.i = some (.var 516) := by kernel_rfl
theorem mn_E_517 : lassoc 517 mn_E_b.i = some (.var 517) := by kernel_rfl
theorem mn_E_518 : lassoc 518 mn_E_b.i = some (.var 518) := by kernel_rfl
theorem mn_E_519 : lassoc 519 mn_E_b.i = some (.var 519) := by kernel_rfl
theorem mn_E_r504 : lassoc 504 mn_E_b.r = some ((.len 2), (.var 504 [(.i .i64), .b, (.i .i64), (.i .i64), (.i .i64), (.i .i64), (.i .i64), (.i .i64), .s, .s, .b, (.i .i64), (.i .i64), (.i .i64), (.i .i64), (.i .i64), (.i .i64), (.i .i64), (.i .i64), (.i .i64), (.i .i64), (.i .i64), (.i .i64), (.i .i64), (.i .i64)])) := by kernel_rfl
theorem mn_E_r505 : lassoc 505 mn_E_b.r = some ((.len 505), (.var 505 [(.i .i64)])) := by kernel_rfl
theorem mn_E_r506 : lassoc 506 mn_E_b.r = some ((.len 2), (.var 506 [(.i .i64), .b, (.i .i64), (.i .i64), (.i .i64), (.i .i64), (.i .i64), (.i .i64), .s, .s, .b, (.i .i64), (.i .i64), (.i .i64), (.i .i64), (.i .i64), (.i .i64), (.i .i64), (.i .i64), (.i .i64), (.i .i64), (.i .i64), (.i .i64), (.i .i64), (.i .i64)])) := by kernel_rfl
theorem mn_E_r507 : lassoc 507 mn_E_b.r = some ((.len 2), (.var 507 [.b])) := by kernel_rfl
def mn_W1_r : T (XE × XS) := (.need zTM9_50 (.ret (.normal, ⟨zTM9_57, [((0, 0), zTM9_15), ((12, 0), zTM9_61), ((12, 1), zTM9_23), ((12, 2), [(.rows 25 (.len 2) zTM9_63)]), ((12, 3), zTM9_42), ((22, 0), zTM9_65), ((26, 0), zTM9_46), ((44, 0), zTM9_66)], 79⟩)))
theorem mn_W1_run : (codeX (cfgL [] (fun _ => [])).ti (callS ⟨(cfgL [] (fun _ => [])), l_able, [9, 20, 33, 37, 58, 10010, 10011, 10013, 10014, 10023]⟩ 12) (((cfgL [] (fun _ => [])).ft 3).elim [] (·.ms)) 0 ([]) 1000 mn_c ((inM, true) :: (.eq cdE (.lit 0), true) :: (.eq (.var 519) (.lit 1), true) :: (.lt (.lit 1) (.var 503), true) :: (.lt (.var 501) (.lit 0), false) :: (.lt (.var 501) (.len 2), true) :: (mnF ++ lvF)) mn_S0).map (sqz mn_ks) = mn_W1_r := by kernel_rfl
def mn_W1_s : XS := ⟨zTM9_57, [((0, 0), zTM9_15), ((12, 0), zTM9_61), ((12, 1), zTM9_23), ((12, 2), [(.rows 25 (.len 2) zTM9_63)]), ((12, 3), zTM9_42), ((22, 0), zTM9_65), ((26, 0), zTM9_46), ((44, 0), zTM9_66)], 79⟩
def mn_W1_b : Bind := ⟨[(500, zTM9_51), (501, zTM9_56), (502, zTM9_58), (503, zTM9_59), (510, (.var 510)), (511, (.var 511)), (512, (.var 512)), (513, (.var 513)), (514, (.var 514)), (515, (.var 515)), (516, (.var 516)), (517, (.var 517)), (518, (.var 518)), (519, (.var 519))], [], [], [(504, (.len 2), zTM9_63), (505, (.len 505), zTM9_41), (506, (.len 2), zTM9_64), (507, (.len 2), zTM9_45)]⟩
theorem mn_W1_ok : okS 0 500 mn_W1_b [] mn_S0 mn_W1_s = true := by kernel_rfl
theorem mn_W1_g : mn_W1_b.ge 500 = true := by kernel_rfl
theorem mn_W1_step {ρ ρ1 : Rho} (hd : mn_S0.den ρ = mn_S0.den ρ1) (cok : CfgOk Try.prog ρ1 (cfgL [] (fun _ => []))) (hl : LpsOk Try.prog ρ1 Try.f3.ntmps ([]) mn_c) (hk : Facts.ok ρ1 ((inM, true) :: (.eq cdE (.lit 0), true) :: (.eq (.var 519) (.lit 1), true) :: (.lt (.lit 1) (.var 503), true) :: (.lt (.var 501) (.lit 0), false) :: (.lt (.var 501) (.len 2), true) :: (mnF ++ lvF))) (h0 : ((.not (.lt (.len 505) (.op .padd .i64 (.var 502) (.var 503)))) : BE).den ρ1 = true) : StepF Try.prog Try.f3.ntmps mn_c 0 mn_S0 mn_S0 ρ (mn_W1_b.ap ρ1) :=
  fam_goU mn_fits hd cok hl hk mn_W1_run (sel_need h0 rfl) mn_W1_ok
theorem mn_W1_500 : lassoc 500 mn_W1_b.i = some (.op .add .i64 (.var 500) (.lit 1)) := by kernel_rfl
theorem mn_W1_501 : lassoc 501 mn_W1_b.i = some (.op .add .i64 (.var 501) (.lit 1)) := by kernel_rfl
theorem mn_W1_502 : lassoc 502 mn_W1_b.i = some (.op .padd .i64 (.var 502) (.lit 1)) := by kernel_rfl
theorem mn_W1_503 : lassoc 503 mn_W1_b.i = some (.op .psub .i64 (.var 503) (.lit 1)) := by kernel_rfl
theorem mn_W1_510 : lassoc 510 mn_W1_b.i = some (.var 510) := by kernel_rfl
theorem mn_W1_511 : lassoc 511 mn_W1_b.i = some (.var 511) := by kernel_rfl
theorem mn_W1_512 : lassoc 512 mn_W1_b.i = some (.var 512) := by kernel_rfl
theorem mn_W1_513 : lassoc 513 mn_W1_b.i = some (.var 513) := by kernel_rfl
theorem mn_W1_514 : lassoc 514 mn_W1_b.i = some (.var 514) := by kernel_rfl
theorem mn_W1_515 : lassoc 515 mn_W1_b.i = some (.var 515) := by kernel_rfl
theorem mn_W1_516 : lassoc 516 mn_W1_b.i = some (.var 516) := by kernel_rfl
theorem mn_W1_517 : lassoc 517 mn_W1_b.i = some (.var 517) := by kernel_rfl
theorem mn_W1_518 : lassoc 518 mn_W1_b.i = some (.var 518) := by kernel_rfl
theorem mn_W1_519 : lassoc 519 mn_W1_b.i = some (.var 519) := by kernel_rfl
theorem mn_W1_r504 : lassoc 504 mn_W1_b.r = some ((.len 2), (.upd (.cl 505 0 (.var 502)) [(.i .i64 (.cl 3 0 (.var 500))), (.b (.cl 3 1 (.var 500))), (.i .i64 (.cl 3 2 (.var 500))), (.i .i64 (.cl 3 3 (.var 500))), (.i .i64 (.cl 3 4 (.var 500))), (.i .i64 (.cl 3 5 (.var 500))), (.i .i64 (.cl 3 6 (.var 500))), (.i .i64 (.cl 3 7 (.var 500))), (.s (.cl 3 8 (.var 500))), (.s (.cl 3 9 (.var 500))), (.b (.cl 3 10 (.var 500))), (.i .i64 (.cl 3 11 (.var 500))), (.i .i64 (.cl 3 12 (.var 500))), (.i .i64 (.cl 3 13 (.var 500))), (.i .i64 (.cl 3 14 (.var 500))), (.i .i64 (.cl 3 15 (.var 500))), (.i .i64 (.cl 3 16 (.var 500))), (.i .i64 (.cl 3 17 (.var 500))), (.i .i64 (.cl 3 18 (.var 500))), (.i .i64 (.cl 3 19 (.var 500))), (.i .i64 (.cl 3 20 (.var 500))), (.i .i64 (.cl 3 21 (.var 500))), (.i .i64 (.cl 3 22 (.var 500))), (.i .i64 (.cl 3 23 (.var 500))), (.i .i64 (.cl 3 24 (.var 500)))] (.var 504 [(.i .i64), .b, (.i .i64), (.i .i64), (.i .i64), (.i .i64), (.i .i64), (.i .i64), .s, .s, .b, (.i .i64), (.i .i64), (.i .i64), (.i .i64), (.i .i64), (.i .i64), (.i .i64), (.i .i64), (.i .i64), (.i .i64), (.i .i64), (.i .i64), (.i .i64), (.i .i64)]))) := by kernel_rfl
theorem mn_W1_r505 : lassoc 505 mn_W1_b.r = some ((.len 505), (.var 505 [(.i .i64)])) := by kernel_rfl
theorem mn_W1_r506 : lassoc 506 mn_W1_b.r = some ((.len 2), (.upd (.var 501) [(.i .i64 (.cl 3 0 (.var 500))), (.b (.cl 3 1 (.var 500))), (.i .i64 (.cl 3 2 (.var 500))), (.i .i64 (.cl 3 3 (.var 500))), (.i .i64 (.cl 3 4 (.var 500))), (.i .i64 (.cl 3 5 (.var 500))), (.i .i64 (.cl 3 6 (.var 500))), (.i .i64 (.cl 3 7 (.var 500))), (.s (.cl 3 8 (.var 500))), (.s (.cl 3 9 (.var 500))), (.b (.cl 3 10 (.var 500))), (.i .i64 (.cl 3 11 (.var 500))), (.i .i64 (.cl 3 12 (.var 500))), (.i .i64 (.cl 3 13 (.var 500))), (.i .i64 (.cl 3 14 (.var 500))), (.i .i64 (.cl 3 15 (.var 500))), (.i .i64 (.cl 3 16 (.var 500))), (.i .i64 (.cl 3 17 (.var 500))), (.i .i64 (.cl 3 18 (.var 500))), (.i .i64 (.cl 3 19 (.var 500))), (.i .i64 (.cl 3 20 (.var 500))), (.i .i64 (.cl 3 21 (.var 500))), (.i .i64 (.cl 3 22 (.var 500))), (.i .i64 (.cl 3 23 (.var 500))), (.i .i64 (.cl 3 24 (.var 500)))] (.var 506 [(.i .i64), .b, (.i .i64), (.i .i64), (.i .i64), (.i .i64), (.i .i64), (.i .i64), .s, .s, .b, (.i .i64), (.i .i64), (.i .i64), (.i .i64), (.i .i64), (.i .i64), (.i .i64), (.i .i64), (.i .i64), (.i .i64), (.i .i64), (.i .i64), (.i .i64), (.i .i64)]))) := by kernel_rfl
theorem mn_W1_r507 : lassoc 507 mn_W1_b.r = some ((.len 2), (.var 507 [.b])) := by kernel_rfl
def mn_W2_r : T (XE × XS) := (.need zTM9_50 (.need (.not (.lt (.len 505) (.op .padd .i64 zTM9_58 zTM9_59))) (.ret (.normal, ⟨zTM9_52, [((0, 0), zTM9_15), ((12, 0), zTM9_61), ((12, 1), zTM9_23), ((12, 2), [(.rows 25 (.len 2) zTM9_63)]), ((12, 3), zTM9_42), ((22, 0), zTM9_44), ((26, 0), [(.rows 1 (.len 2) (.var 561 [.b]))]), ((44, 0), zTM9_67)], 90⟩))))
theorem mn_W2_run : (codeX (cfgL [] (fun _ => [])).ti (callS ⟨(cfgL [] (fun _ => [])), l_able, [9, 20, 33, 37, 58, 10010, 10011, 10013, 10014, 10023]⟩ 12) (((cfgL [] (fun _ => [])).ft 3).elim [] (·.ms)) 0 ([tw]) 1000 mn_c ((inM, true) :: (.eq cdE (.lit 0), true) :: (.eq (.var 519) (.lit 2), true) :: (hasE, false) :: (mnF ++ lvF)) mn_S0).map (sqz mn_ks) = mn_W2_r := by kernel_rfl
def mn_W2_s : XS := ⟨zTM9_52, [((0, 0), zTM9_15), ((12, 0), zTM9_61), ((12, 1), zTM9_23), ((12, 2), [(.rows 25 (.len 2) zTM9_63)]), ((12, 3), zTM9_42), ((22, 0), zTM9_44), ((26, 0), [(.rows 1 (.len 2) (.var 561 [.b]))]), ((44, 0), zTM9_67)], 90⟩
def mn_W2_b : Bind := ⟨[(500, zTM9_51), (501, (.var 501)), (502, zTM9_58), (503, zTM9_59), (510, (.var 510)), (511, (.var 511)), (512, (.var 512)), (513, (.var 513)), (514, (.var 514)), (515, (.var 515)), (516, (.var 516)), (517, (.var 517)), (518, (.var 518)), (519, (.var 519))], [], [], [(504, (.len 2), zTM9_63), (505, (.len 505), zTM9_41), (506, (.len 2), zTM9_43), (507, (.len 2), (.var 561 [.b]))]⟩
theorem mn_W2_ok : okS 0 500 mn_W2_b [] mn_S0 mn_W2_s = true := by kernel_rfl
theorem mn_W2_g : mn_W2_b.ge 500 = true := by kernel_rfl
theorem mn_W2_step {ρ ρ1 : Rho} (hd : mn_S0.den ρ = mn_S0.den ρ1) (cok : CfgOk Try.prog ρ1 (cfgL [] (fun _ => []))) (hl : LpsOk Try.prog ρ1 Try.f3.ntmps ([tw]) mn_c) (hk : Facts.ok ρ1 ((inM, true) :: (.eq cdE (.lit 0), true) :: (.eq (.var 519) (.lit 2), true) :: (hasE, false) :: (mnF ++ lvF))) (h0 : ((.not (.lt (.len 505) (.op .padd .i64 (.var 502) (.var 503)))) : BE).den ρ1 = true) (h1 : ((.not (.lt (.len 505) (.op .padd .i64 (.op .padd .i64 (.var 502) (.lit 1)) (.op .psub .i64 (.var 503) (.lit 1))))) : BE).den ρ1 = true) : StepF Try.prog Try.f3.ntmps mn_c 0 mn_S0 mn_S0 ρ (mn_W2_b.ap ρ1) :=
  fam_goU mn_fits hd cok hl hk mn_W2_run (sel_need h0 (sel_need h1 rfl)) mn_W2_ok
theorem mn_W2_500 : lassoc 500 mn_W2_b.i = some (.op .add .i64 (.var 500) (.lit 1)) := by kernel_rfl
theorem mn_W2_501 : lassoc 501 mn_W2_b.i = some (.var 501) := by kernel_rfl
theorem mn_W2_502 : lassoc 502 mn_W2_b.i = some (.op .padd .i64 (.var 502) (.lit 1)) := by kernel_rfl
theorem mn_W2_503 : lassoc 503 mn_W2_b.i = some (.op .psub .i64 (.var 503) (.lit 1)) := by kernel_rfl
theorem mn_W2_510 : lassoc 510 mn_W2_b.i = some (.var 510) := by kernel_rfl
theorem mn_W2_511 : lassoc 511 mn_W2_b.i = some (.var 511) := by kernel_rfl
theorem mn_W2_512 : lassoc 512 mn_W2_b.i = some (.var 512) := by kernel_rfl
theorem mn_W2_513 : lassoc 513 mn_W2_b.i = some (.var 513) := by kernel_rfl
theorem mn_W2_514 : lassoc 514 mn_W2_b.i = some (.var 514) := by kernel_rfl
theorem mn_W2_515 : lassoc 515 mn_W2_b.i = some (.var 515) := by kernel_rfl
theorem mn_W2_516 : lassoc 516 mn_W2_b.i = some (.var 516) := by kernel_rfl
theorem mn_W2_517 : lassoc 517 mn_W2_b.i = some (.var 517) := by kernel_rfl
theorem mn_W2_518 : lassoc 518 mn_W2_b.i = some (.var 518) := by kernel_rfl
theorem mn_W2_519 : lassoc 519 mn_W2_b.i = some (.var 519) := by kernel_rfl
theorem mn_W2_r504 : lassoc 504 mn_W2_b.r = some ((.len 2), (.upd (.cl 505 0 (.var 502)) [(.i .i64 (.cl 3 0 (.var 500))), (.b (.cl 3 1 (.var 500))), (.i .i64 (.cl 3 2 (.var 500))), (.i .i64 (.cl 3 3 (.var 500))), (.i .i64 (.cl 3 4 (.var 500))), (.i .i64 (.cl 3 5 (.var 500))), (.i .i64 (.cl 3 6 (.var 500))), (.i .i64 (.cl 3 7 (.var 500))), (.s (.cl 3 8 (.var 500))), (.s (.cl 3 9 (.var 500))), (.b (.cl 3 10 (.var 500))), (.i .i64 (.cl 3 11 (.var 500))), (.i .i64 (.cl 3 12 (.var 500))), (.i .i64 (.cl 3 13 (.var 500))), (.i .i64 (.cl 3 14 (.var 500))), (.i .i64 (.cl 3 15 (.var 500))), (.i .i64 (.cl 3 16 (.var 500))), (.i .i64 (.cl 3 17 (.var 500))), (.i .i64 (.cl 3 18 (.var 500))), (.i .i64 (.cl 3 19 (.var 500))), (.i .i64 (.cl 3 20 (.var 500))), (.i .i64 (.cl 3 21 (.var 500))), (.i .i64 (.cl 3 22 (.var 500))), (.i .i64 (.cl 3 23 (.var 500))), (.i .i64 (.cl 3 24 (.var 500)))] (.var 504 [(.i .i64), .b, (.i .i64), (.i .i64), (.i .i64), (.i .i64), (.i .i64), (.i .i64), .s, .s, .b, (.i .i64), (.i .i64), (.i .i64), (.i .i64), (.i .i64), (.i .i64), (.i .i64), (.i .i64), (.i .i64), (.i .i64), (.i .i64), (.i .i64), (.i .i64), (.i .i64)]))) := by kernel_rfl
theorem mn_W2_r505 : lassoc 505 mn_W2_b.r = some ((.len 505), (.var 505 [(.i .i64)])) := by kernel_rfl
theorem mn_W2_r506 : lassoc 506 mn_W2_b.r = some ((.len 2), (.var 506 [(.i .i64), .b, (.i .i64), (.i .i64), (.i .i64), (.i .i64), (.i .i64), (.i .i64), .s, .s, .b, (.i .i64), (.i .i64), (.i .i64), (.i .i64), (.i .i64), (.i .i64), (.i .i64), (.i .i64), (.i .i64), (.i .i64), (.i .i64), (.i .i64), (.i .i64), (.i .i64)])) := by kernel_rfl
theorem mn_W2_r507 : lassoc 507 mn_W2_b.r = some ((.len 2), (.var 561 [.b])) := by kernel_rfl
def mn_W3_r : T (XE × XS) := (.need zTM9_50 (.need (.not (.lt (.len 505) (.op .padd .i64 zTM9_58 zTM9_59))) (.ret (.normal, ⟨zTM9_52, [((0, 0), zTM9_15), ((12, 0), zTM9_61), ((12, 1), zTM9_23), ((12, 2), [(.rows 25 (.len 2) zTM9_63)]), ((12, 3), zTM9_42), ((22, 0), zTM9_44), ((26, 0), [(.rows 1 (.len 2) (.var 561 [.b]))]), ((44, 0), zTM9_67)], 90⟩))))
theorem mn_W3_run : (codeX (cfgL ksP (fun _ => [])).ti (callS ⟨(cfgL ksP (fun _ => [])), l_able, [9, 20, 33, 37, 58, 10010, 10011, 10013, 10014, 10023]⟩ 12) (((cfgL ksP (fun _ => [])).ft 3).elim [] (·.ms)) 0 ([tw]) 1000 mn_c ((inM, true) :: (.eq cdE (.lit 0), true) :: (.eq (.var 519) (.lit 2), true) :: (hasE, true) :: (.var 549, true) :: (mnF ++ lvF)) mn_S0).map (sqz mn_ks) = mn_W3_r := by kernel_rfl
def mn_W3_s : XS := ⟨zTM9_52, [((0, 0), zTM9_15), ((12, 0), zTM9_61), ((12, 1), zTM9_23), ((12, 2), [(.rows 25 (.len 2) zTM9_63)]), ((12, 3), zTM9_42), ((22, 0), zTM9_44), ((26, 0), [(.rows 1 (.len 2) (.var 561 [.b]))]), ((44, 0), zTM9_67)], 90⟩
def mn_W3_b : Bind := ⟨[(500, zTM9_51), (501, (.var 501)), (502, zTM9_58), (503, zTM9_59), (510, (.var 510)), (511, (.var 511)), (512, (.var 512)), (513, (.var 513)), (514, (.var 514)), (515, (.var 515)), (516, (.var 516)), (517, (.var 517)), (518, (.var 518)), (519, (.var 519))], [], [], [(504, (.len 2), zTM9_63), (505, (.len 505), zTM9_41), (506, (.len 2), zTM9_43), (507, (.len 2), (.var 561 [.b]))]⟩
theorem mn_W3_ok : okS 0 500 mn_W3_b [] mn_S0 mn_W3_s = true := by kernel_rfl
theorem mn_W3_g : mn_W3_b.ge 500 = true := by kernel_rfl
theorem mn_W3_step {ρ ρ1 : Rho} (hd : mn_S0.den ρ = mn_S0.den ρ1) (cok : CfgOk Try.prog ρ1 (cfgL ksP (fun _ => []))) (hl : LpsOk Try.prog ρ1 Try.f3.ntmps ([tw]) mn_c) (hk : Facts.ok ρ1 ((inM, true) :: (.eq cdE (.lit 0), true) :: (.eq (.var 519) (.lit 2), true) :: (hasE, true) :: (.var 549, true) :: (mnF ++ lvF))) (h0 : ((.not (.lt (.len 505) (.op .padd .i64 (.var 502) (.var 503)))) : BE).den ρ1 = true) (h1 : ((.not (.lt (.len 505) (.op .padd .i64 (.op .padd .i64 (.var 502) (.lit 1)) (.op .psub .i64 (.var 503) (.lit 1))))) : BE).den ρ1 = true) : StepF Try.prog Try.f3.ntmps mn_c 0 mn_S0 mn_S0 ρ (mn_W3_b.ap ρ1) :=
  fam_goU mn_fits hd cok hl hk mn_W3_run (sel_need h0 (sel_need h1 rfl)) mn_W3_ok
theorem mn_W3_500 : lassoc 500 mn_W3_b.i = some (.op .add .i64 (.var 500) (.lit 1)) := by kernel_rfl
theorem mn_W3_501 : lassoc 501 mn_W3_b.i = some (.var 501) := by kernel_rfl
theorem mn_W3_502 : lassoc 502 mn_W3_b.i = some (.op .padd .i64 (.var 502) (.lit 1)) := by kernel_rfl
theorem mn_W3_503 : lassoc 503 mn_W3_b.i = some (.op .psub .i64 (.var 503) (.lit 1)) := by kernel_rfl
theorem mn_W3_510 : lassoc 510 mn_W3_b.i = some (.var 510) := by kernel_rfl
theorem mn_W3_511 : lassoc 511 mn_W3_b.i = some (.var 511) := by kernel_rfl
theorem mn_W3_512 : lassoc 512 mn_W3_b.i = some (.var 512) := by kernel_rfl
theorem mn_W3_513 : lassoc 513 mn_W3_b.i = some (.var 513) := by kernel_rfl
theorem mn_W3_514 : lassoc 514 mn_W3_b.i = some (.var 514) := by kernel_rfl
theorem mn_W3_515 : lassoc 515 mn_W3_b.i = some (.var 515) := by kernel_rfl
theorem mn_W3_516 : lassoc 516 mn_W3_b.i = some (.var 516) := by kernel_rfl
theorem mn_W3_517 : lassoc 517 mn_W3_b.i = some (.var 517) := by kernel_rfl
theorem mn_W3_518 : lassoc 518 mn_W3_b.i = some (.var 518) := by kernel_rfl
theorem mn_W3_519 : lassoc 519 mn_W3_b.i = some (.var 519) := by kernel_rfl
theorem mn_W3_r504 : lassoc 504 mn_W3_b.r = some ((.len 2), (.upd (.cl 505 0 (.var 502)) [(.i .i64 (.cl 3 0 (.var 500))), (.b (.cl 3 1 (.var 500))), (.i .i64 (.cl 3 2 (.var 500))), (.i .i64 (.cl 3 3 (.var 500))), (.i .i64 (.cl 3 4 (.var 500))), (.i .i64 (.cl 3 5 (.var 500))), (.i .i64 (.cl 3 6 (.var 500))), (.i .i64 (.cl 3 7 (.var 500))), (.s (.cl 3 8 (.var 500))), (.s (.cl 3 9 (.var 500))), (.b (.cl 3 10 (.var 500))), (.i .i64 (.cl 3 11 (.var 500))), (.i .i64 (.cl 3 12 (.var 500))), (.i .i64 (.cl 3 13 (.var 500))), (.i .i64 (.cl 3 14 (.var 500))), (.i .i64 (.cl 3 15 (.var 500))), (.i .i64 (.cl 3 16 (.var 500))), (.i .i64 (.cl 3 17 (.var 500))), (.i .i64 (.cl 3 18 (.var 500))), (.i .i64 (.cl 3 19 (.var 500))), (.i .i64 (.cl 3 20 (.var 500))), (.i .i64 (.cl 3 21 (.var 500))), (.i .i64 (.cl 3 22 (.var 500))), (.i .i64 (.cl 3 23 (.var 500))), (.i .i64 (.cl 3 24 (.var 500)))] (.var 504 [(.i .i64), .b, (.i .i64), (.i .i64), (.i .i64), (.i .i64), (.i .i64), (.i .i64), .s, .s, .b, (.i .i64), (.i .i64), (.i .i64), (.i .i64), (.i .i64), (.i .i64), (.i .i64), (.i .i64), (.i .i64), (.i .i64), (.i .i64), (.i .i64), (.i .i64), (.i .i64)]))) := by kernel_rfl
theorem mn_W3_r505 : lassoc 505 mn_W3_b.r = some ((.len 505), (.var 505 [(.i .i64)])) := by kernel_rfl
theorem mn_W3_r506 : lassoc 506 mn_W3_b.r = some ((.len 2), (.var 506 [(.i .i64), .b, (.i .i64), (.i .i64), (.i .i64), (.i .i64), (.i .i64), (.i .i64), .s, .s, .b, (.i .i64), (.i .i64), (.i .i64), (.i .i64), (.i .i64), (.i .i64), (.i .i64), (.i .i64), (.i .i64), (.i .i64), (.i .i64), (.i .i64), (.i .i64), (.i .i64)])) := by kernel_rfl
theorem mn_W3_r507 : lassoc 507 mn_W3_b.r = some ((.len 2), (.var 561 [.b])) := by kernel_rfl
def mn_W4_r : T (XE × XS) := (.need zTM9_50 (.ret (.normal, ⟨zTM9_52, [((0, 0), zTM9_15), ((12, 0), zTM9_38), ((12, 1), zTM9_23), ((12, 2), zTM9_40), ((12, 3), zTM9_42), ((22, 0), zTM9_44), ((26, 0), zTM9_46), ((44, 0), zTM9_67)], 59⟩)))
theorem mn_W4_run : (codeX (cfgL ksP (fun _ => [])).ti (callS ⟨(cfgL ksP (fun _ => [])), l_able, [9, 20, 33, 37, 58, 10010, 10011, 10013, 10014, 10023]⟩ 12) (((cfgL ksP (fun _ => [])).ft 3).elim [] (·.ms)) 0 ([]) 1000 mn_c ((inM, true) :: (.eq cdE (.lit 0), true) :: (.eq (.var 519) (.lit 2), true) :: (hasE, true) :: (.var 549, false) :: (mnF ++ lvF)) mn_S0).map (sqz mn_ks) = mn_W4_r := by kernel_rfl
def mn_W4_s : XS := ⟨zTM9_52, [((0, 0), zTM9_15), ((12, 0), zTM9_38), ((12, 1), zTM9_23), ((12, 2), zTM9_40), ((12, 3), zTM9_42), ((22, 0), zTM9_44), ((26, 0), zTM9_46), ((44, 0), zTM9_67)], 59⟩
def mn_W4_b : Bind := ⟨[(500, zTM9_51), (501, (.var 501)), (502, (.var 502)), (503, (.var 503)), (510, (.var 510)), (511, (.var 511)), (512, (.var 512)), (513, (.var 513)), (514, (.var 514)), (515, (.var 515)), (516, (.var 516)), (517, (.var 517)), (518, (.var 518)), (519, (.var 519))], [], [], [(504, (.len 2), zTM9_39), (505, (.len 505), zTM9_41), (506, (.len 2), zTM9_43), (507, (.len 2), zTM9_45)]⟩
theorem mn_W4_ok : okS 0 500 mn_W4_b [] mn_S0 mn_W4_s = true := by kernel_rfl
theorem mn_W4_g : mn_W4_b.ge 500 = true := by kernel_rfl
theorem mn_W4_step {ρ ρ1 : Rho} (hd : mn_S0.den ρ = mn_S0.den ρ1) (cok : CfgOk Try.prog ρ1 (cfgL ksP (fun _ => []))) (hl : LpsOk Try.prog ρ1 Try.f3.ntmps ([]) mn_c) (hk : Facts.ok ρ1 ((inM, true) :: (.eq cdE (.lit 0), true) :: (.eq (.var 519) (.lit 2), true) :: (hasE, true) :: (.var 549, false) :: (mnF ++ lvF))) (h0 : ((.not (.lt (.len 505) (.op .padd .i64 (.var 502) (.var 503)))) : BE).den ρ1 = true) : StepF Try.prog Try.f3.ntmps mn_c 0 mn_S0 mn_S0 ρ (mn_W4_b.ap ρ1) :=
  fam_goU mn_fits hd cok hl hk mn_W4_run (sel_need h0 rfl) mn_W4_ok
theorem mn_W4_500 : lassoc 500 mn_W4_b.i = some (.op .add .i64 (.var 500) (.lit 1)) := by kernel_rfl
theorem mn_W4_501 : lassoc 501 mn_W4_b.i = some (.var 501) := by kernel_rfl
theorem mn_W4_502 : lassoc 502 mn_W4_b.i = some (.var 502) := by kernel_rfl
theorem mn_W4_503 : lassoc 503 mn_W4_b.i = some (.var 503) := by kernel_rfl
theorem mn_W4_510 : lassoc 510 mn_W4_b.i = some (.var 510) := by kernel_rfl
theorem mn_W4_511 : lassoc 511 mn_W4_b.i = some (.var 511) := by kernel_rfl
theorem mn_W4_512 : lassoc 512 mn_W4_b.i = some (.var 512) := by kernel_rfl
theorem mn_W4_513 : lassoc 513 mn_W4_b.i = some (.var 513) := by kernel_rfl
theorem mn_W4_514 : lassoc 514 mn_W4_b.i = some (.var 514) := by kernel_rfl
theorem mn_W4_515 : lassoc 515 mn_W4_b.i = some (.var 515) := by kernel_rfl
theorem mn_W4_516 : lassoc 516 mn_W4_b.i = some (.var 516) := by kernel_rfl
theorem mn_W4_517 : lassoc 517 mn_W4_b.i = some (.var 517) := by kernel_rfl
theorem mn_W4_518 : lassoc 518 mn_W4_b.i = some (.var 518) := by kernel_rfl
theorem mn_W4_519 : lassoc 519 mn_W4_b.i = some (.var 519) := by kernel_rfl
theorem mn_W4_r504 : lassoc 504 mn_W4_b.r = some ((.len 2), (.var 504 [(.i .i64), .b, (.i .i64), (.i .i64), (.i .i64), (.i .i64), (.i .i64), (.i .i64), .s, .s, .b, (.i .i64), (.i .i64), (.i .i64), (.i .i64), (.i .i64), (.i .i64), (.i .i64), (.i .i64), (.i .i64), (.i .i64), (.i .i64), (.i .i64), (.i .i64), (.i .i64)])) := by kernel_rfl
theorem mn_W4_r505 : lassoc 505 mn_W4_b.r = some ((.len 505), (.var 505 [(.i .i64)])) := by kernel_rfl
theorem mn_W4_r506 : lassoc 506 mn_W4_b.r = some ((.len 2), (.var 506 [(.i .i64), .b, (.i .i64), (.i .i64), (.i .i64), (.i .i64), (.i .i64), (.i .i64), .s, .s, .b, (.i .i64), (.i .i64), (.i .i64), (.i .i64), (.i .i64), (.i .i64), (.i .i64), (.i .i64), (.i .i64), (.i .i64), (.i .i64), (.i .i64), (.i .i64), (.i .i64)])) := by kernel_rfl
theorem mn_W4_r507 : lassoc 507 mn_W4_b.r = some ((.len 2), (.var 507 [.b])) := by kernel_rfl
def mn_TP_r : T (XE × XS) := (.need zTM9_50 (.need zTM9_68 (.ret (.normal, ⟨zTM9_57, [((0, 0), zTM9_15), ((12, 0), [zTM9_6, zTM9_7, zTM9_8, zTM9_9, zTM9_10, zTM9_11, zTM9_12, zTM9_13, zTM9_14, (.sc (.i .i64 (.var 532))), (.sc (.i .i64 (.var 533))), (.sc (.i .i64 (.var 534))), (.sc (.i .i64 (.var 535))), (.sc (.i .i64 (.var 536))), (.sc (.i .i64 (.var 537))), (.sc (.i .i64 (.var 538))), (.sc (.i .i64 (.var 539))), (.sc (.i .i64 (.var 540))), zTM9_16, zTM9_21, zTM9_22, zTM9_60, zTM9_37, (.sc zTM9_0)]), ((12, 1), zTM9_23), ((12, 2), zTM9_69), ((12, 3), zTM9_42), ((22, 0), zTM9_65), ((26, 0), zTM9_46), ((44, 0), zTM9_66)], 79⟩))))
theorem mn_TP_run : (codeX (cfgL [] lpTP).ti (callS ⟨(cfgL [] lpTP), l_able, [9, 20, 33, 37, 58, 10010, 10011, 10013, 10014, 10023]⟩ 12) (((cfgL [] lpTP).ft 3).elim [] (·.ms)) 0 ([]) 1000 mn_c ((inM, true) :: (.eq cdE (.lit 0), true) :: (.eq (.var 519) (.lit 1), true) :: (.eq (.var 503) (.lit 1), true) :: (.lt (.var 501) (.lit 0), false) :: (.lt (.var 501) (.len 2), true) :: (.lt (.var 531) (.len 2), false) :: (mnF ++ lvF)) mn_S0).map (sqz mn_ks) = mn_TP_r := by kernel_rfl
def mn_TP_s : XS := ⟨zTM9_57, [((0, 0), zTM9_15), ((12, 0), [zTM9_6, zTM9_7, zTM9_8, zTM9_9, zTM9_10, zTM9_11, zTM9_12, zTM9_13, zTM9_14, (.sc (.i .i64 (.var 532))), (.sc (.i .i64 (.var 533))), (.sc (.i .i64 (.var 534))), (.sc (.i .i64 (.var 535))), (.sc (.i .i64 (.var 536))), (.sc (.i .i64 (.var 537))), (.sc (.i .i64 (.var 538))), (.sc (.i .i64 (.var 539))), (.sc (.i .i64 (.var 540))), zTM9_16, zTM9_21, zTM9_22, zTM9_60, zTM9_37, (.sc zTM9_0)]), ((12, 1), zTM9_23), ((12, 2), zTM9_69), ((12, 3), zTM9_42), ((22, 0), zTM9_65), ((26, 0), zTM9_46), ((44, 0), zTM9_66)], 79⟩
def mn_TP_b : Bind := ⟨[(500, zTM9_51), (501, zTM9_56), (502, zTM9_58), (503, zTM9_59), (510, (.var 532)), (511, (.var 533)), (512, (.var 534)), (513, (.var 535)), (514, (.var 536)), (515, (.var 537)), (516, (.var 538)), (517, (.var 539)), (518, (.var 540)), (519, (.var 519))], [], [], [(504, (.len 2), (.var 530 zTM9_18)), (505, (.len 505), zTM9_41), (506, (.len 2), zTM9_64), (507, (.len 2), zTM9_45)]⟩
theorem mn_TP_ok : okS 0 500 mn_TP_b [] mn_S0 mn_TP_s = true := by kernel_rfl
theorem mn_TP_g : mn_TP_b.ge 500 = true := by kernel_rfl
theorem mn_TP_step {ρ ρ1 : Rho} (hd : mn_S0.den ρ = mn_S0.den ρ1) (cok : CfgOk Try.prog ρ1 (cfgL [] lpTP)) (hl : LpsOk Try.prog ρ1 Try.f3.ntmps ([]) mn_c) (hk : Facts.ok ρ1 ((inM, true) :: (.eq cdE (.lit 0), true) :: (.eq (.var 519) (.lit 1), true) :: (.eq (.var 503) (.lit 1), true) :: (.lt (.var 501) (.lit 0), false) :: (.lt (.var 501) (.len 2), true) :: (.lt (.var 531) (.len 2), false) :: (mnF ++ lvF))) (h0 : ((.not (.lt (.len 505) (.op .padd .i64 (.var 502) (.var 503)))) : BE).den ρ1 = true) (h1 : ((.not (.lt (.var 531) (.len 2))) : BE).den ρ1 = true) : StepF Try.prog Try.f3.ntmps mn_c 0 mn_S0 mn_S0 ρ (mn_TP_b.ap ρ1) :=
  fam_goU mn_fits hd cok hl hk mn_TP_run (sel_need h0 (sel_need h1 rfl)) mn_TP_ok
theorem mn_TP_500 : lassoc 500 mn_TP_b.i = some (.op .add .i64 (.var 500) (.lit 1)) := by kernel_rfl
theorem mn_TP_501 : lassoc 501 mn_TP_b.i = some (.op .add .i64 (.var 501) (.lit 1)) := by kernel_rfl
theorem mn_TP_502 : lassoc 502 mn_TP_b.i = some (.op .padd .i64 (.var 502) (.lit 1)) := by kernel_rfl
theorem mn_TP_503 : lassoc 503 mn_TP_b.i = some (.op .psub .i64 (.var 503) (.lit 1)) := by kernel_rfl
theorem mn_TP_510 : lassoc 510 mn_TP_b.i = some (.var 532) := by kernel_rfl
theorem mn_TP_511 : lassoc 511 mn_TP_b.i = some (.var 533) := by kernel_rfl
theorem mn_TP_512 : lassoc 512 mn_TP_b.i = some (.var 534) := by kernel_rfl
theorem mn_TP_513 : lassoc 513 mn_TP_b.i = some (.var 535) := by kernel_rfl
theorem mn_TP_514 : lassoc 514 mn_TP_b.i = some (.var 536) := by kernel_rfl
theorem mn_TP_515 : lassoc 515 mn_TP_b.i = some (.var 537) := by kernel_rfl
theorem mn_TP_516 : lassoc 516 mn_TP_b.i = some (.var 538) := by kernel_rfl
theorem mn_TP_517 : lassoc 517 mn_TP_b.i = some (.var 539) := by kernel_rfl
theorem mn_TP_518 : lassoc 518 mn_TP_b.i = some (.var 540) := by kernel_rfl
theorem mn_TP_519 : lassoc 519 mn_TP_b.i = some (.var 519) := by kernel_rfl
theorem mn_TP_r504 : lassoc 504 mn_TP_b.r = some ((.len 2), (.var 530 [(.i .i64), .b, (.i .i64), (.i .i64), (.i .i64), (.i .i64), (.i .i64), (.i .i64), .s, .s, .b, (.i .i64), (.i .i64), (.i .i64), (.i .i64), (.i .i64), (.i .i64), (.i .i64), (.i .i64), (.i .i64), (.i .i64), (.i .i64), (.i .i64), (.i .i64), (.i .i64)])) := by kernel_rfl
theorem mn_TP_r505 : lassoc 505 mn_TP_b.r = some ((.len 505), (.var 505 [(.i .i64)])) := by kernel_rfl
theorem mn_TP_r506 : lassoc 506 mn_TP_b.r = some ((.len 2), (.upd (.var 501) [(.i .i64 (.cl 3 0 (.var 500))), (.b (.cl 3 1 (.var 500))), (.i .i64 (.cl 3 2 (.var 500))), (.i .i64 (.cl 3 3 (.var 500))), (.i .i64 (.cl 3 4 (.var 500))), (.i .i64 (.cl 3 5 (.var 500))), (.i .i64 (.cl 3 6 (.var 500))), (.i .i64 (.cl 3 7 (.var 500))), (.s (.cl 3 8 (.var 500))), (.s (.cl 3 9 (.var 500))), (.b (.cl 3 10 (.var 500))), (.i .i64 (.cl 3 11 (.var 500))), (.i .i64 (.cl 3 12 (.var 500))), (.i .i64 (.cl 3 13 (.var 500))), (.i .i64 (.cl 3 14 (.var 500))), (.i .i64 (.cl 3 15 (.var 500))), (.i .i64 (.cl 3 16 (.var 500))), (.i .i64 (.cl 3 17 (.var 500))), (.i .i64 (.cl 3 18 (.var 500))), (.i .i64 (.cl 3 19 (.var 500))), (.i .i64 (.cl 3 20 (.var 500))), (.i .i64 (.cl 3 21 (.var 500))), (.i .i64 (.cl 3 22 (.var 500))), (.i .i64 (.cl 3 23 (.var 500))), (.i .i64 (.cl 3 24 (.var 500)))] (.var 506 [(.i .i64), .b, (.i .i64), (.i .i64), (.i .i64), (.i .i64), (.i .i64), (.i .i64), .s, .s, .b, (.i .i64), (.i .i64), (.i .i64), (.i .i64), (.i .i64), (.i .i64), (.i .i64), (.i .i64), (.i .i64), (.i .i64), (.i .i64), (.i .i64), (.i .i64), (.i .i64)]))) := by kernel_rfl
theorem mn_TP_r507 : lassoc 507 mn_TP_b.r = some ((.len 2), (.var 507 [.b])) := by kernel_rfl
def mn_TQ_r : T (XE × XS) := (.need zTM9_50 (.need zTM9_68 (.ret (.normal, ⟨zTM9_57, [((0, 0), zTM9_15), ((12, 0), [zTM9_6, zTM9_7, zTM9_8, zTM9_9, zTM9_10, zTM9_11, zTM9_12, zTM9_13, zTM9_14, (.sc (.i .i64 (.var 532))), (.sc (.i .i64 (.var 533))), (.sc (.i .i64 (.var 534))), (.sc (.i .i64 (.var 535))), (.sc (.i .i64 (.var 536))), (.sc (.i .i64 (.var 537))), (.sc (.i .i64 (.var 538))), (.sc (.i .i64 (.var 539))), (.sc (.i .i64 (.var 540))), zTM9_16, zTM9_21, zTM9_22, (.slv (52, 0) 1 (.lit 0) (.len 551) true), (.sc (.i .i64 (.lit 2))), (.sc zTM9_0)]), ((12, 1), zTM9_23), ((12, 2), zTM9_69), ((22, 0), zTM9_65), ((26, 0), zTM9_46), ((44, 0), zTM9_66), ((52, 0), [(.rows 1 (.len 551) (.var 551 [(.i .i64)]))])], 79⟩))))
theorem mn_TQ_run : (codeX (cfgL [] lpTQ).ti (callS ⟨(cfgL [] lpTQ), l_able, [9, 20, 33, 37, 58, 10010, 10011, 10013, 10014, 10023]⟩ 12) (((cfgL [] lpTQ).ft 3).elim [] (·.ms)) 0 ([]) 1000 mn_c ((inM, true) :: (.eq cdE (.lit 0), true) :: (.eq (.var 519) (.lit 1), true) :: (.eq (.var 503) (.lit 1), true) :: (.lt (.var 501) (.lit 0), false) :: (.lt (.var 501) (.len 2), true) :: (.lt (.var 531) (.len 2), false) :: (.lt (.lit 0) (.len 551), true) :: (mnF ++ lvF)) mn_S0).map (sqz mn_ks) = mn_TQ_r := by kernel_rfl
def mn_TQ_s : XS := ⟨zTM9_57, [((0, 0), zTM9_15), ((12, 0), [zTM9_6, zTM9_7, zTM9_8, zTM9_9, zTM9_10, zTM9_11, zTM9_12, zTM9_13, zTM9_14, (.sc (.i .i64 (.var 532))), (.sc (.i .i64 (.var 533))), (.sc (.i .i64 (.var 534))), (.sc (.i .i64 (.var 535))), (.sc (.i .i64 (.var 536))), (.sc (.i .i64 (.var 537))), (.sc (.i .i64 (.var 538))), (.sc (.i .i64 (.var 539))), (.sc (.i .i64 (.var 540))), zTM9_16, zTM9_21, zTM9_22, (.slv (52, 0) 1 (.lit 0) (.len 551) true), (.sc (.i .i64 (.lit 2))), (.sc zTM9_0)]), ((12, 1), zTM9_23), ((12, 2), zTM9_69), ((22, 0), zTM9_65), ((26, 0), zTM9_46), ((44, 0), zTM9_66), ((52, 0), [(.rows 1 (.len 551) (.var 551 [(.i .i64)]))])], 79⟩
def mn_TQ_b : Bind := ⟨[(500, zTM9_51), (501, zTM9_56), (502, (.lit 0)), (503, (.len 551)), (510, (.var 532)), (511, (.var 533)), (512, (.var 534)), (513, (.var 535)), (514, (.var 536)), (515, (.var 537)), (516, (.var 538)), (517, (.var 539)), (518, (.var 540)), (519, (.lit 2))], [], [], [(504, (.len 2), (.var 530 zTM9_18)), (505, (.len 551), (.var 551 [(.i .i64)])), (506, (.len 2), zTM9_64), (507, (.len 2), zTM9_45)]⟩
theorem mn_TQ_ok : okS 0 500 mn_TQ_b [((12, 3), (52, 0))] mn_S0 mn_TQ_s = true := by kernel_rfl
theorem mn_TQ_g : mn_TQ_b.ge 500 = true := by kernel_rfl
theorem mn_TQ_step {ρ ρ1 : Rho} (hd : mn_S0.den ρ = mn_S0.den ρ1) (cok : CfgOk Try.prog ρ1 (cfgL [] lpTQ)) (hl : LpsOk Try.prog ρ1 Try.f3.ntmps ([]) mn_c) (hk : Facts.ok ρ1 ((inM, true) :: (.eq cdE (.lit 0), true) :: (.eq (.var 519) (.lit 1), true) :: (.eq (.var 503) (.lit 1), true) :: (.lt (.var 501) (.lit 0), false) :: (.lt (.var 501) (.len 2), true) :: (.lt (.var 531) (.len 2), false) :: (.lt (.lit 0) (.len 551), true) :: (mnF ++ lvF))) (h0 : ((.not (.lt (.len 505) (.op .padd .i64 (.var 502) (.var 503)))) : BE).den ρ1 = true) (h1 : ((.not (.lt (.var 531) (.len 2))) : BE).den ρ1 = true) : StepF Try.prog Try.f3.ntmps mn_c 0 mn_S0 mn_S0 ρ (mn_TQ_b.ap ρ1) :=
  fam_goU mn_fits hd cok hl hk mn_TQ_run (sel_need h0 (sel_need h1 rfl)) mn_TQ_ok
theorem mn_TQ_500 : lassoc 500 mn_TQ_b.i = some (.op .add .i64 (.var 500) (.lit 1)) := by kernel_rfl
theorem mn_TQ_501 : lassoc 501 mn_TQ_b.i = some (.op .add .i64 (.var 501) (.lit 1)) := by kernel_rfl
theorem mn_TQ_502 : lassoc 502 mn_TQ_b.i = some (.lit 0) := by kernel_rfl
theorem mn_TQ_503 : lassoc 503 mn_TQ_b.i = some (.len 551) := by kernel_rfl
theorem mn_TQ_510 : lassoc 510 mn_TQ_b.i = some (.var 532) := by kernel_rfl
theorem mn_TQ_511 : lassoc 511 mn_TQ_b.i = some (.var 533) := by kernel_rfl
theorem mn_TQ_512 : lassoc 512 mn_TQ_b.i = some (.var 534) := by kernel_rfl
theorem mn_TQ_513 : lassoc 513 mn_TQ_b.i = some (.var 535) := by kernel_rfl
theorem mn_TQ_514 : lassoc 514 mn_TQ_b.i = some (.var 536) := by kernel_rfl
theorem mn_TQ_515 : lassoc 515 mn_TQ_b.i = some (.var 537) := by kernel_rfl
theorem mn_TQ_516 : lassoc 516 mn_TQ_b.i = some (.var 538) := by kernel_rfl
theorem mn_TQ_517 : lassoc 517 mn_TQ_b.i = some (.var 539) := by kernel_rfl
theorem mn_TQ_518 : lassoc 518 mn_TQ_b.i = some (.var 540) := by kernel_rfl
theorem mn_TQ_519 : lassoc 519 mn_TQ_b.i = some (.lit 2) := by kernel_rfl
theorem mn_TQ_r504 : lassoc 504 mn_TQ_b.r = some ((.len 2), (.var 530 [(.i .i64), .b, (.i .i64), (.i .i64), (.i .i64), (.i .i64), (.i .i64), (.i .i64), .s, .s, .b, (.i .i64), (.i .i64), (.i .i64), (.i .i64), (.i .i64), (.i .i64), (.i .i64), (.i .i64), (.i .i64), (.i .i64), (.i .i64), (.i .i64), (.i .i64), (.i .i64)])) := by kernel_rfl
theorem mn_TQ_r505 : lassoc 505 mn_TQ_b.r = some ((.len 551), (.var 551 [(.i .i64)])) := by kernel_rfl
theorem mn_TQ_r506 : lassoc 506 mn_TQ_b.r = some ((.len 2), (.upd (.var 501) [(.i .i64 (.cl 3 0 (.var 500))), (.b (.cl 3 1 (.var 500))), (.i .i64 (.cl 3 2 (.var 500))), (.i .i64 (.cl 3 3 (.var 500))), (.i .i64 (.cl 3 4 (.var 500))), (.i .i64 (.cl 3 5 (.var 500))), (.i .i64 (.cl 3 6 (.var 500))), (.i .i64 (.cl 3 7 (.var 500))), (.s (.cl 3 8 (.var 500))), (.s (.cl 3 9 (.var 500))), (.b (.cl 3 10 (.var 500))), (.i .i64 (.cl 3 11 (.var 500))), (.i .i64 (.cl 3 12 (.var 500))), (.i .i64 (.cl 3 13 (.var 500))), (.i .i64 (.cl 3 14 (.var 500))), (.i .i64 (.cl 3 15 (.var 500))), (.i .i64 (.cl 3 16 (.var 500))), (.i .i64 (.cl 3 17 (.var 500))), (.i .i64 (.cl 3 18 (.var 500))), (.i .i64 (.cl 3 19 (.var 500))), (.i .i64 (.cl 3 20 (.var 500))), (.i .i64 (.cl 3 21 (.var 500))), (.i .i64 (.cl 3 22 (.var 500))), (.i .i64 (.cl 3 23 (.var 500))), (.i .i64 (.cl 3 24 (.var 500)))] (.var 506 [(.i .i64), .b, (.i .i64), (.i .i64), (.i .i64), (.i .i64), (.i .i64), (.i .i64), .s, .s, .b, (.i .i64), (.i .i64), (.i .i64), (.i .i64), (.i .i64), (.i .i64), (.i .i64), (.i .i64), (.i .i64), (.i .i64), (.i .i64), (.i .i64), (.i .i64), (.i .i64)]))) := by kernel_rfl
theorem mn_TQ_r507 : lassoc 507 mn_TQ_b.r = some ((.len 2), (.var 507 [.b])) := by kernel_rfl
def mn_X0_r : T (XE × XS) := (.ret ((.exit 0), ⟨zTM9_27, zTM9_47, 36⟩))
theorem mn_X0_run : (codeX (cfgL [] (fun _ => [])).ti (callS ⟨(cfgL [] (fun _ => [])), l_able, [9, 20, 33, 37, 58, 10010, 10011, 10013, 10014, 10023]⟩ 12) (((cfgL [] (fun _ => [])).ft 3).elim [] (·.ms)) 0 ([]) 1000 mn_c ((inM, false) :: mnF) mn_S0).map (sqz mn_ks) = mn_X0_r := by kernel_rfl
def mn_X0_s : XS := ⟨zTM9_27, zTM9_47, 36⟩
def mn_XD_r : T (XE × XS) := (.need (.and (.not (.lt (.var 502) (.lit 0))) zTM9_50) (.ret ((.exit 0), ⟨zTM9_27, zTM9_47, 39⟩)))
theorem mn_XD_run : (codeX (cfgL [] (fun _ => [])).ti (callS ⟨(cfgL [] (fun _ => [])), l_able, [9, 20, 33, 37, 58, 10010, 10011, 10013, 10014, 10023]⟩ 12) (((cfgL [] (fun _ => [])).ft 3).elim [] (·.ms)) 0 ([]) 1000 mn_c ((inM, true) :: (.lt (.lit 0) (.var 503), false) :: (.lt (.var 503) (.lit 0), false) :: mnF) mn_S0).map (sqz mn_ks) = mn_XD_r := by kernel_rfl
def mn_XD_s : XS := ⟨zTM9_27, zTM9_47, 39⟩
def mn_Y0_r : T (XE × XS) := (.ret ((.exit 0), ⟨zTM9_48, zTM9_49, 36⟩))
theorem mn_Y0_run : (codeX (cfgL [] (fun _ => [])).ti (callS ⟨(cfgL [] (fun _ => [])), l_able, [9, 20, 33, 37, 58, 10010, 10011, 10013, 10014, 10023]⟩ 12) (((cfgL [] (fun _ => [])).ft 3).elim [] (·.ms)) 0 ([]) 1000 mn_c ((inM, false) :: mnF) mn_S1).map (sqz mn_ks) = mn_Y0_r := by kernel_rfl
def mn_Y0_s : XS := ⟨zTM9_48, zTM9_49, 36⟩
def mn_YD_r : T (XE × XS) := (.ret ((.exit 0), ⟨zTM9_48, zTM9_49, 39⟩))
theorem mn_YD_run : (codeX (cfgL [] (fun _ => [])).ti (callS ⟨(cfgL [] (fun _ => [])), l_able, [9, 20, 33, 37, 58, 10010, 10011, 10013, 10014, 10023]⟩ 12) (((cfgL [] (fun _ => [])).ft 3).elim [] (·.ms)) 0 ([]) 1000 mn_c ((inM, true) :: mnF) mn_S1).map (sqz mn_ks) = mn_YD_r := by kernel_rfl
def mn_YD_s : XS := ⟨zTM9_48, zTM9_49, 39⟩
def mn_out : T (XE × XS) := (.br (.var 525) (.ret ((.exit 0), mn_X0_s)) (.ret ((.exit 0), mn_Y0_s)))
noncomputable def mn : LoopX := ⟨((codeKey mn_c).getD 0), 0, 500, mn_E, noB, [], mn_out⟩
theorem mn_ob : mn.out.belX 530 = true := by kernel_rfl
theorem mn_X0_end {ρ1 : Rho} (cok : CfgOk Try.prog ρ1 (cfgL [] (fun _ => []))) (hl : LpsOk Try.prog ρ1 Try.f3.ntmps ([]) mn_c) (hk : Facts.ok ρ1 ((inM, false) :: mnF)) (ho : mn_out.sel ρ1 = some ((.exit 0), mn_X0_s)) : EndL Try.prog Try.f3.ntmps mn_c 0 mn_S0 mn_out ρ1 :=
  fam_endU mn_fits cok hl hk mn_X0_run rfl (fun h => nomatch h) ho (by kernel_rfl)
theorem mn_XD_end {ρ1 : Rho} (cok : CfgOk Try.prog ρ1 (cfgL [] (fun _ => []))) (hl : LpsOk Try.prog ρ1 Try.f3.ntmps ([]) mn_c) (hk : Facts.ok ρ1 ((inM, true) :: (.lt (.lit 0) (.var 503), false) :: (.lt (.var 503) (.lit 0), false) :: mnF)) (h0 : ((.and (.not (.lt (.var 502) (.lit 0))) (.not (.lt (.len 505) (.op .padd .i64 (.var 502) (.var 503))))) : BE).den ρ1 = true) (ho : mn_out.sel ρ1 = some ((.exit 0), mn_X0_s)) : EndL Try.prog Try.f3.ntmps mn_c 0 mn_S0 mn_out ρ1 :=
  fam_endU mn_fits cok hl hk mn_XD_run (sel_need h0 rfl) (fun h => nomatch h) ho (by kernel_rfl)
theorem mn_Y0_end {ρ1 : Rho} (cok : CfgOk Try.prog ρ1 (cfgL [] (fun _ => []))) (hl : LpsOk Try.prog ρ1 Try.f3.ntmps ([]) mn_c) (hk : Facts.ok ρ1 ((inM, false) :: mnF)) (ho : mn_out.sel ρ1 = some ((.exit 0), mn_Y0_s)) : EndL Try.prog Try.f3.ntmps mn_c 0 mn_S1 mn_out ρ1 :=
  fam_endU mn_fits cok hl hk mn_Y0_run rfl (fun h => nomatch h) ho (by kernel_rfl)
theorem mn_YD_end {ρ1 : Rho} (cok : CfgOk Try.prog ρ1 (cfgL [] (fun _ => []))) (hl : LpsOk Try.prog ρ1 Try.f3.ntmps ([]) mn_c) (hk : Facts.ok ρ1 ((inM, true) :: mnF)) (ho : mn_out.sel ρ1 = some ((.exit 0), mn_Y0_s)) : EndL Try.prog Try.f3.ntmps mn_c 0 mn_S1 mn_out ρ1 :=
  fam_endU mn_fits cok hl hk mn_YD_run rfl (fun h => nomatch h) ho (by kernel_rfl)
end Go.Proofs.Ytdlifdoglhhnfaa
