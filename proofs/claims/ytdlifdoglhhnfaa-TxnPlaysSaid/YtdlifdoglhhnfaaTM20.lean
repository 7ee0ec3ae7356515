/- Parts of the proof, one behind the other. -/
import Derived.Test.YtdlifdoglhhnfaaTM19
import Derived.Test.YtdlifdoglhhnfaaXwM3
namespace Go.Proofs.Ytdlifdoglhhnfaa
open Go Go.Proofs.Aw Go.Proofs.Xw
set_option maxRecDepth 100000
noncomputable def t2P_c:Code:=t2_c
noncomputable def t2P:LoopX:=⟨((codeKey t2_c).getD 0),222,620,t2_E,noB,[],.ret ((.exit 2),t2_X0_s)⟩
noncomputable def t2Q_c:Code:=t2_c
noncomputable def t2Q:LoopX:=⟨((codeKey t2_c).getD 0),222,620,t2_E,noB,[],.ret ((.exit 2),t2_X1_s)⟩
noncomputable def tdP_c:Code:=td_c
noncomputable def tdP:LoopX:=⟨((codeKey td_c).getD 0),156,660,td_E,noB,[],.ret ((.exit 2),td_X0_s)⟩
noncomputable def tdQ_c:Code:=td_c
noncomputable def tdQ:LoopX:=⟨((codeKey td_c).getD 0),156,660,td_E,noB,[],.ret ((.exit 2),td_X1_s)⟩
noncomputable def lpTNP (f:Nat):List LoopX:=if Nat.beq f 34=true then [t1,t2P]else if Nat.beq f 26=true then [fdN,tdP]else []
theorem lpTNP_34o:othersB [t1,t2P] [0,1] 0 (loopsOf (Try.f34.body.getD .skip))=true:=by kernel_rfl
theorem lpTNP_34 {ρ:Rho} (h_t1:LoopOk Try.prog ρ Try.f34.ntmps t1_c t1) (h_t2P:LoopOk Try.prog ρ Try.f34.ntmps t2P_c t2P):LpsOk Try.prog ρ Try.f34.ntmps [t1,t2P] (Try.f34.body.getD .skip) :=
 lps_idx [0,1] lpTNP_34o (List.forall_mem_cons.2 ⟨look_list (c:=t1_c) (Ls:=[t1]) (by kernel_rfl) (List.forall_mem_cons.2 ⟨h_t1,List.forall_mem_nil _⟩),List.forall_mem_cons.2 ⟨look_list (c:=t2P_c) (Ls:=[t2P]) (by kernel_rfl) (List.forall_mem_cons.2 ⟨h_t2P,List.forall_mem_nil _⟩),List.forall_mem_nil _⟩⟩)
theorem lpTNP_26o:othersB [fdN,tdP] [0,1] 0 (loopsOf (Try.f26.body.getD .skip))=true:=by kernel_rfl
theorem lpTNP_26 {ρ:Rho} (h_fdN:LoopOk Try.prog ρ Try.f26.ntmps fdN_c fdN) (h_tdP:LoopOk Try.prog ρ Try.f26.ntmps tdP_c tdP):LpsOk Try.prog ρ Try.f26.ntmps [fdN,tdP] (Try.f26.body.getD .skip) :=
 lps_idx [0,1] lpTNP_26o (List.forall_mem_cons.2 ⟨look_list (c:=fdN_c) (Ls:=[fdN]) (by kernel_rfl) (List.forall_mem_cons.2 ⟨h_fdN,List.forall_mem_nil _⟩),List.forall_mem_cons.2 ⟨look_list (c:=tdP_c) (Ls:=[tdP]) (by kernel_rfl) (List.forall_mem_cons.2 ⟨h_tdP,List.forall_mem_nil _⟩),List.forall_mem_nil _⟩⟩)
theorem lpTNP_ok {ρ:Rho} (h_t1:LoopOk Try.prog ρ Try.f34.ntmps t1_c t1) (h_t2P:LoopOk Try.prog ρ Try.f34.ntmps t2P_c t2P) (h_fdN:LoopOk Try.prog ρ Try.f26.ntmps fdN_c fdN) (h_tdP:LoopOk Try.prog ρ Try.f26.ntmps tdP_c tdP):∀f i,btLook f ftsT=some i→LpsOk Try.prog ρ i.ntmps (lpTNP f) i.body:=by
 intro f i h
 have hi:=fts_ok (f,i) (bt_of_mem _ _ (btLook_mem h))
 unfold lpTNP
 split
 ·rename_i hf
  have hf:=Nat.eq_of_beq_eq_true hf
  subst hf
  exact lps_row hi Try.func34 (lpTNP_34 h_t1 h_t2P)
 ·split
  ·rename_i hf
   have hf:=Nat.eq_of_beq_eq_true hf
   subst hf
   exact lps_row hi Try.func26 (lpTNP_26 h_fdN h_tdP)
  ·exact LpsOk.nil _ _ _ _
noncomputable def lpTNQ (f:Nat):List LoopX:=if Nat.beq f 34=true then [t1,t2Q]else if Nat.beq f 26=true then [fdN,tdQ]else []
theorem lpTNQ_34o:othersB [t1,t2Q] [0,1] 0 (loopsOf (Try.f34.body.getD .skip))=true:=by kernel_rfl
theorem lpTNQ_34 {ρ:Rho} (h_t1:LoopOk Try.prog ρ Try.f34.ntmps t1_c t1) (h_t2Q:LoopOk Try.prog ρ Try.f34.ntmps t2Q_c t2Q):LpsOk Try.prog ρ Try.f34.ntmps [t1,t2Q] (Try.f34.body.getD .skip) :=
 lps_idx [0,1] lpTNQ_34o (List.forall_mem_cons.2 ⟨look_list (c:=t1_c) (Ls:=[t1]) (by kernel_rfl) (List.forall_mem_cons.2 ⟨h_t1,List.forall_mem_nil _⟩),List.forall_mem_cons.2 ⟨look_list (c:=t2Q_c) (Ls:=[t2Q]) (by kernel_rfl) (List.forall_mem_cons.2 ⟨h_t2Q,List.forall_mem_nil _⟩),List.forall_mem_nil _⟩⟩)
theorem lpTNQ_26o:othersB [fdN,tdQ] [0,1] 0 (loopsOf (Try.f26.body.getD .skip))=true:=by kernel_rfl
theorem lpTNQ_26 {ρ:Rho} (h_fdN:LoopOk Try.prog ρ Try.f26.ntmps fdN_c fdN) (h_tdQ:LoopOk Try.prog ρ Try.f26.ntmps tdQ_c tdQ):LpsOk Try.prog ρ Try.f26.ntmps [fdN,tdQ] (Try.f26.body.getD .skip) :=
 lps_idx [0,1] lpTNQ_26o (List.forall_mem_cons.2 ⟨look_list (c:=fdN_c) (Ls:=[fdN]) (by kernel_rfl) (List.forall_mem_cons.2 ⟨h_fdN,List.forall_mem_nil _⟩),List.forall_mem_cons.2 ⟨look_list (c:=tdQ_c) (Ls:=[tdQ]) (by kernel_rfl) (List.forall_mem_cons.2 ⟨h_tdQ,List.forall_mem_nil _⟩),List.forall_mem_nil _⟩⟩)
theorem lpTNQ_ok {ρ:Rho} (h_t1:LoopOk Try.prog ρ Try.f34.ntmps t1_c t1) (h_t2Q:LoopOk Try.prog ρ Try.f34.ntmps t2Q_c t2Q) (h_fdN:LoopOk Try.prog ρ Try.f26.ntmps fdN_c fdN) (h_tdQ:LoopOk Try.prog ρ Try.f26.ntmps tdQ_c tdQ):∀f i,btLook f ftsT=some i→LpsOk Try.prog ρ i.ntmps (lpTNQ f) i.body:=by
 intro f i h
 have hi:=fts_ok (f,i) (bt_of_mem _ _ (btLook_mem h))
 unfold lpTNQ
 split
 ·rename_i hf
  have hf:=Nat.eq_of_beq_eq_true hf
  subst hf
  exact lps_row hi Try.func34 (lpTNQ_34 h_t1 h_t2Q)
 ·split
  ·rename_i hf
   have hf:=Nat.eq_of_beq_eq_true hf
   subst hf
   exact lps_row hi Try.func26 (lpTNQ_26 h_fdN h_tdQ)
  ·exact LpsOk.nil _ _ _ _
noncomputable def lpTRP (f:Nat):List LoopX:=if Nat.beq f 34=true then [t1,t2P]else if Nat.beq f 26=true then [fdR,tdP]else []
theorem lpTRP_34o:othersB [t1,t2P] [0,1] 0 (loopsOf (Try.f34.body.getD .skip))=true:=by kernel_rfl
theorem lpTRP_34 {ρ:Rho} (h_t1:LoopOk Try.prog ρ Try.f34.ntmps t1_c t1) (h_t2P:LoopOk Try.prog ρ Try.f34.ntmps t2P_c t2P):LpsOk Try.prog ρ Try.f34.ntmps [t1,t2P] (Try.f34.body.getD .skip) :=
 lps_idx [0,1] lpTRP_34o (List.forall_mem_cons.2 ⟨look_list (c:=t1_c) (Ls:=[t1]) (by kernel_rfl) (List.forall_mem_cons.2 ⟨h_t1,List.forall_mem_nil _⟩),List.forall_mem_cons.2 ⟨look_list (c:=t2P_c) (Ls:=[t2P]) (by kernel_rfl) (List.forall_mem_cons.2 ⟨h_t2P,List.forall_mem_nil _⟩),List.forall_mem_nil _⟩⟩)
theorem lpTRP_26o:othersB [fdR,tdP] [0,1] 0 (loopsOf (Try.f26.body.getD .skip))=true:=by kernel_rfl
theorem lpTRP_26 {ρ:Rho} (h_fdR:LoopOk Try.prog ρ Try.f26.ntmps fdR_c fdR) (h_tdP:LoopOk Try.prog ρ Try.f26.ntmps tdP_c tdP):LpsOk Try.prog ρ Try.f26.ntmps [fdR,tdP] (Try.f26.body.getD .skip) :=
 lps_idx [0,1] lpTRP_26o (List.forall_mem_cons.2 ⟨look_list (c:=fdR_c) (Ls:=[fdR]) (by kernel_rfl) (List.forall_mem_cons.2 ⟨h_fdR,List.forall_mem_nil _⟩),List.forall_mem_cons.2 ⟨look_list (c:=tdP_c) (Ls:=[tdP]) (by kernel_rfl) (List.forall_mem_cons.2 ⟨h_tdP,List.forall_mem_nil _⟩),List.forall_mem_nil _⟩⟩)
theorem lpTRP_ok {ρ:Rho} (h_t1:LoopOk Try.prog ρ Try.f34.ntmps t1_c t1) (h_t2P:LoopOk Try.prog ρ Try.f34.ntmps t2P_c t2P) (h_fdR:LoopOk Try.prog ρ Try.f26.ntmps fdR_c fdR) (h_tdP:LoopOk Try.prog ρ Try.f26.ntmps tdP_c tdP):∀f i,btLook f ftsT=some i→LpsOk Try.prog ρ i.ntmps (lpTRP f) i.body:=by
 intro f i h
 have hi:=fts_ok (f,i) (bt_of_mem _ _ (btLook_mem h))
 unfold lpTRP
 split
 ·rename_i hf
  have hf:=Nat.eq_of_beq_eq_true hf
  subst hf
  exact lps_row hi Try.func34 (lpTRP_34 h_t1 h_t2P)
 ·split
  ·rename_i hf
   have hf:=Nat.eq_of_beq_eq_true hf
   subst hf
   exact lps_row hi Try.func26 (lpTRP_26 h_fdR h_tdP)
  ·exact LpsOk.nil _ _ _ _
noncomputable def lpTRQ (f:Nat):List LoopX:=if Nat.beq f 34=true then [t1,t2Q]else if Nat.beq f 26=true then [fdR,tdQ]else []
theorem lpTRQ_34o:othersB [t1,t2Q] [0,1] 0 (loopsOf (Try.f34.body.getD .skip))=true:=by kernel_rfl
theorem lpTRQ_34 {ρ:Rho} (h_t1:LoopOk Try.prog ρ Try.f34.ntmps t1_c t1) (h_t2Q:LoopOk Try.prog ρ Try.f34.ntmps t2Q_c t2Q):LpsOk Try.prog ρ Try.f34.ntmps [t1,t2Q] (Try.f34.body.getD .skip) :=
 lps_idx [0,1] lpTRQ_34o (List.forall_mem_cons.2 ⟨look_list (c:=t1_c) (Ls:=[t1]) (by kernel_rfl) (List.forall_mem_cons.2 ⟨h_t1,List.forall_mem_nil _⟩),List.forall_mem_cons.2 ⟨look_list (c:=t2Q_c) (Ls:=[t2Q]) (by kernel_rfl) (List.forall_mem_cons.2 ⟨h_t2Q,List.forall_mem_nil _⟩),List.forall_mem_nil _⟩⟩)
theorem lpTRQ_26o:othersB [fdR,tdQ] [0,1] 0 (loopsOf (Try.f26.body.getD .skip))=true:=by kernel_rfl
theorem lpTRQ_26 {ρ:Rho} (h_fdR:LoopOk Try.prog ρ Try.f26.ntmps fdR_c fdR) (h_tdQ:LoopOk Try.prog ρ Try.f26.ntmps tdQ_c tdQ):LpsOk Try.prog ρ Try.f26.ntmps [fdR,tdQ] (Try.f26.body.getD .skip) :=
 lps_idx [0,1] lpTRQ_26o (List.forall_mem_cons.2 ⟨look_list (c:=fdR_c) (Ls:=[fdR]) (by kernel_rfl) (List.forall_mem_cons.2 ⟨h_fdR,List.forall_mem_nil _⟩),List.forall_mem_cons.2 ⟨look_list (c:=tdQ_c) (Ls:=[tdQ]) (by kernel_rfl) (List.forall_mem_cons.2 ⟨h_tdQ,List.forall_mem_nil _⟩),List.forall_mem_nil _⟩⟩)
theorem lpTRQ_ok {ρ:Rho} (h_t1:LoopOk Try.prog ρ Try.f34.ntmps t1_c t1) (h_t2Q:LoopOk Try.prog ρ Try.f34.ntmps t2Q_c t2Q) (h_fdR:LoopOk Try.prog ρ Try.f26.ntmps fdR_c fdR) (h_tdQ:LoopOk Try.prog ρ Try.f26.ntmps tdQ_c tdQ):∀f i,btLook f ftsT=some i→LpsOk Try.prog ρ i.ntmps (lpTRQ f) i.body:=by
 intro f i h
 have hi:=fts_ok (f,i) (bt_of_mem _ _ (btLook_mem h))
 unfold lpTRQ
 split
 ·rename_i hf
  have hf:=Nat.eq_of_beq_eq_true hf
  subst hf
  exact lps_row hi Try.func34 (lpTRQ_34 h_t1 h_t2Q)
 ·split
  ·rename_i hf
   have hf:=Nat.eq_of_beq_eq_true hf
   subst hf
   exact lps_row hi Try.func26 (lpTRQ_26 h_fdR h_tdQ)
  ·exact LpsOk.nil _ _ _ _
noncomputable def lpDn (f:Nat):List LoopX:=if Nat.beq f 22=true then [r1]else if Nat.beq f 25=true then [r2]else []
theorem lpDn_22o:othersB [r1] [0] 0 (loopsOf (Try.f22.body.getD .skip))=true:=by kernel_rfl
theorem lpDn_22 {ρ:Rho} (h_r1:LoopOk Try.prog ρ Try.f22.ntmps r1_c r1):LpsOk Try.prog ρ Try.f22.ntmps [r1] (Try.f22.body.getD .skip) :=
 lps_idx [0] lpDn_22o (List.forall_mem_cons.2 ⟨look_list (c:=r1_c) (Ls:=[r1]) (by kernel_rfl) (List.forall_mem_cons.2 ⟨h_r1,List.forall_mem_nil _⟩),List.forall_mem_nil _⟩)
theorem lpDn_25o:othersB [r2] [0] 0 (loopsOf (Try.f25.body.getD .skip))=true:=by kernel_rfl
theorem lpDn_25 {ρ:Rho} (h_r2:LoopOk Try.prog ρ Try.f25.ntmps r2_c r2):LpsOk Try.prog ρ Try.f25.ntmps [r2] (Try.f25.body.getD .skip) :=
 lps_idx [0] lpDn_25o (List.forall_mem_cons.2 ⟨look_list (c:=r2_c) (Ls:=[r2]) (by kernel_rfl) (List.forall_mem_cons.2 ⟨h_r2,List.forall_mem_nil _⟩),List.forall_mem_nil _⟩)
theorem lpDn_ok {ρ:Rho} (h_r1:LoopOk Try.prog ρ Try.f22.ntmps r1_c r1) (h_r2:LoopOk Try.prog ρ Try.f25.ntmps r2_c r2):∀f i,btLook f ftsT=some i→LpsOk Try.prog ρ i.ntmps (lpDn f) i.body:=by
 intro f i h
 have hi:=fts_ok (f,i) (bt_of_mem _ _ (btLook_mem h))
 unfold lpDn
 split
 ·rename_i hf
  have hf:=Nat.eq_of_beq_eq_true hf
  subst hf
  exact lps_row hi Try.func22 (lpDn_22 h_r1)
 ·split
  ·rename_i hf
   have hf:=Nat.eq_of_beq_eq_true hf
   subst hf
   exact lps_row hi Try.func25 (lpDn_25 h_r2)
  ·exact LpsOk.nil _ _ _ _
noncomputable def lpDm (f:Nat):List LoopX:=if Nat.beq f 22=true then [r1]else if Nat.beq f 25=true then [r3]else []
theorem lpDm_22o:othersB [r1] [0] 0 (loopsOf (Try.f22.body.getD .skip))=true:=by kernel_rfl
theorem lpDm_22 {ρ:Rho} (h_r1:LoopOk Try.prog ρ Try.f22.ntmps r1_c r1):LpsOk Try.prog ρ Try.f22.ntmps [r1] (Try.f22.body.getD .skip) :=
 lps_idx [0] lpDm_22o (List.forall_mem_cons.2 ⟨look_list (c:=r1_c) (Ls:=[r1]) (by kernel_rfl) (List.forall_mem_cons.2 ⟨h_r1,List.forall_mem_nil _⟩),List.forall_mem_nil _⟩)
theorem lpDm_25o:othersB [r3] [0] 0 (loopsOf (Try.f25.body.getD .skip))=true:=by kernel_rfl
theorem lpDm_25 {ρ:Rho} (h_r3:LoopOk Try.prog ρ Try.f25.ntmps r3_c r3):LpsOk Try.prog ρ Try.f25.ntmps [r3] (Try.f25.body.getD .skip) :=
 lps_idx [0] lpDm_25o (List.forall_mem_cons.2 ⟨look_list (c:=r3_c) (Ls:=[r3]) (by kernel_rfl) (List.forall_mem_cons.2 ⟨h_r3,List.forall_mem_nil _⟩),List.forall_mem_nil _⟩)
theorem lpDm_ok {ρ:Rho} (h_r1:LoopOk Try.prog ρ Try.f22.ntmps r1_c r1) (h_r3:LoopOk Try.prog ρ Try.f25.ntmps r3_c r3):∀f i,btLook f ftsT=some i→LpsOk Try.prog ρ i.ntmps (lpDm f) i.body:=by
 intro f i h
 have hi:=fts_ok (f,i) (bt_of_mem _ _ (btLook_mem h))
 unfold lpDm
 split
 ·rename_i hf
  have hf:=Nat.eq_of_beq_eq_true hf
  subst hf
  exact lps_row hi Try.func22 (lpDm_22 h_r1)
 ·split
  ·rename_i hf
   have hf:=Nat.eq_of_beq_eq_true hf
   subst hf
   exact lps_row hi Try.func25 (lpDm_25 h_r3)
  ·exact LpsOk.nil _ _ _ _
def rsQ:List X:=[.rl 22 (.len 561) (.var 561 kr) false,.rl 22 (.len 571) (.var 571 kr) false]
def ksQ:List (Nat×List X×X):=[(24,rsQ,.sc (.b (.lit true)))]
def tnF:Facts:=[(.lt (.var 601) (.len 2),false),(.lt (.var 640) (.len 473),false),(.lt (.var 660) (.len 471),false)]
def dzF:Facts:=[(.eq (.len 561) (.len 571),true),(.eq (.len 561) (.len 2),true),(.lt (.lit 6) (.len 561),false)]
abbrev zTM20_0:IE := .op .add .i64 (.var 500) (.lit 1)
abbrev zTM20_1:XTp:=[(86,.top),(85,.top),(84,.top),(83,.top),(82,.top),(81,.top),(80,.top),(79,.top),(78,.top),(77,.top),(76,.top),(75,.top),(74,.top),(73,.top),(72,.top),(71,.top),(70,.top),(69,.top),(68,.top),(67,.top),(14,.top),(13,.top)]
abbrev zTM20_2:XTp:=[(48,.top),(47,.top),(42,.top),(46,.top),(45,.top),(44,.top),(43,.top),(11,.top)]
abbrev zTM20_3:XTp:=[(41,.top),(40,.top),(32,.top),(39,.top),(38,.top),(37,.top),(36,.top),(35,.top),(34,.top),(33,.top),(9,.top),(31,.top),(30,.top),(29,.top),(28,.top),(27,.top),(26,.top),(25,.top),(24,.top),(23,.top),(22,.top),(8,.top),(4,.top)]
abbrev zTM20_4:X := .sc (.i .i64 (.var 0))
abbrev zTM20_5:X := .sc (.i .i64 (.var 1))
abbrev zTM20_6:X := .sc (.i .i64 (.var 2))
abbrev zTM20_7:X := .sc (.i .i64 (.var 3))
abbrev zTM20_8:X := .sc (.i .i64 (.var 4))
abbrev zTM20_9:X := .sc (.i .i64 (.var 5))
abbrev zTM20_10:X := .sc (.i .i64 (.var 6))
abbrev zTM20_11:X := .sc (.i .i64 (.var 7))
abbrev zTM20_12:X := .sc (.i .i64 (.var 8))
abbrev zTM20_13:X := .sc (.i .i64 (.var 9))
abbrev zTM20_14:List Kd:=[(.i .i64),.b,(.i .i64),(.i .i64),(.i .i64),(.i .i64),(.i .i64),(.i .i64),.s,.s,.b,(.i .i64),(.i .i64),(.i .i64),(.i .i64),(.i .i64),(.i .i64),(.i .i64),(.i .i64),(.i .i64),(.i .i64),(.i .i64),(.i .i64),(.i .i64),(.i .i64)]
abbrev zTM20_15:XTp:=[(0,(.agg [zTM20_4,zTM20_5,zTM20_6,zTM20_7,zTM20_8,zTM20_9,zTM20_10,zTM20_11,zTM20_12])),(1,zTM20_13),(2,(.rl 1 (.len 2) (.var 2 [.s]) false)),(3,(.rl 25 (.len 3) (.var 3 zTM20_14) false))]
abbrev zTM20_16:XTp:=([(15,(.sc (.i .i64 zTM20_0)))]++zTM20_1++[(12,(.ptr (28,0) [] 0))]++zTM20_2++[(10,(.ptr (19,0) [] 0))]++zTM20_3++zTM20_15)
abbrev zTM20_17:X := .sc (.i .i64 (.var 602))
abbrev zTM20_18:X := .sc (.i .i64 (.var 603))
abbrev zTM20_19:X := .sc (.i .i64 (.var 604))
abbrev zTM20_20:X := .sc (.i .i64 (.var 605))
abbrev zTM20_21:X := .sc (.i .i64 (.var 606))
abbrev zTM20_22:X := .sc (.i .i64 (.var 607))
abbrev zTM20_23:X := .sc (.i .i64 (.var 608))
abbrev zTM20_24:X := .sc (.i .i64 (.var 609))
abbrev zTM20_25:X := .sc (.i .i64 (.var 610))
abbrev zTM20_26:X := .slv (19,1) 1 (.lit 0) (.len 2) true
abbrev zTM20_27:X := .slv (19,2) 25 (.lit 0) (.len 2) true
abbrev zTM20_28:IE := .op .padd .i64 (.var 502) (.lit 1)
abbrev zTM20_29:IE := .op .psub .i64 (.var 503) (.lit 1)
abbrev zTM20_30:X := .sc (.i .i64 (.var 519))
abbrev zTM20_31:Sc := .i .i64 (.lit 0)
abbrev zTM20_32:List X:=[(.rows 1 (.len 2) (.app (.len 2) (.var 2 [.s]) (.one [(.s (.lit ⟨#[120,55]⟩))])))]
abbrev zTM20_33:RL := .var 600 zTM20_14
abbrev zTM20_34:RL := .var 505 [(.i .i64)]
abbrev zTM20_35:List X:=[(.rows 1 (.len 505) zTM20_34)]
abbrev zTM20_36:X := .slv (28,1) 1 (.lit 0) (.len 471) true
abbrev zTM20_37:X := .slv (28,2) 25 (.lit 0) (.len 473) true
abbrev zTM20_38:X := .k (.slice none 0 0)
abbrev zTM20_39:X := .sc (.i .i64 (.var 529))
abbrev zTM20_40:X := .sc (.i .i64 (.var 531))
abbrev zTM20_41:List X:=[(.rows 1 (.len 471) (.var 471 [.s]))]
abbrev zTM20_42:RL := .var 639 zTM20_14
abbrev zTM20_43:RL := .var 509 [(.i .i64)]
abbrev zTM20_44:List X:=[(.rows 1 (.len 509) zTM20_43)]
abbrev zTM20_45:X := .sc (.b (.lit false))
abbrev zTM20_46:List X:=[(.sc (.s (.cl 2 0 (.cl 505 0 (.var 502))))),zTM20_4,zTM20_5,zTM20_6,zTM20_7,zTM20_8,zTM20_9,zTM20_10,zTM20_11,zTM20_12,zTM20_45,(.sc zTM20_31),(.sc zTM20_31),(.sc zTM20_31),(.sc zTM20_31),(.sc zTM20_31),(.sc zTM20_31),(.sc zTM20_31),(.sc zTM20_31),(.sc zTM20_31),(.sc zTM20_31),(.sc zTM20_31),(.sc zTM20_31)]
abbrev zTM20_47:X := .sc (.i .i64 (.var 520))
abbrev zTM20_48:X := .sc (.i .i64 (.var 521))
abbrev zTM20_49:X := .sc (.i .i64 (.var 522))
abbrev zTM20_50:X := .sc (.i .i64 (.var 523))
abbrev zTM20_51:X := .sc (.i .i64 (.var 524))
abbrev zTM20_52:X := .sc (.i .i64 (.var 525))
abbrev zTM20_53:X := .sc (.i .i64 (.var 526))
abbrev zTM20_54:X := .sc (.i .i64 (.var 527))
abbrev zTM20_55:X := .sc (.i .i64 (.var 528))
abbrev zTM20_56:List X:=[(.sc (.s (.cl 471 0 (.cl 509 0 (.var 507))))),zTM20_47,zTM20_48,zTM20_49,zTM20_50,zTM20_51,zTM20_52,zTM20_53,zTM20_54,zTM20_55,zTM20_45,(.sc zTM20_31),(.sc zTM20_31),(.sc zTM20_31),(.sc zTM20_31),(.sc zTM20_31),(.sc zTM20_31),(.sc zTM20_31),(.sc zTM20_31),(.sc zTM20_31),(.sc zTM20_31),(.sc zTM20_31),(.sc zTM20_31)]
abbrev zTM20_57:X := .sc (.b (.var 530))
abbrev zTM20_58:List (Nat×BE):=[(530,(.var 530))]
abbrev zTM20_59:List X:=[zTM20_4,zTM20_5,zTM20_6,zTM20_7,zTM20_8,zTM20_9,zTM20_10,zTM20_11,zTM20_12,(.sc (.i .i64 (.var 510))),(.sc (.i .i64 (.var 511))),(.sc (.i .i64 (.var 512))),(.sc (.i .i64 (.var 513))),(.sc (.i .i64 (.var 514))),(.sc (.i .i64 (.var 515))),(.sc (.i .i64 (.var 516))),(.sc (.i .i64 (.var 517))),(.sc (.i .i64 (.var 518))),zTM20_13,zTM20_26,zTM20_27,(.slv (19,3) 1 (.var 502) (.var 503) true),zTM20_30,(.sc zTM20_31)]
abbrev zTM20_60:RL := .var 504 zTM20_14
abbrev zTM20_61:List X:=[(.rows 25 (.len 2) zTM20_60)]
abbrev zTM20_62:List X:=[zTM20_13,zTM20_36,zTM20_37,(.slv (28,3) 1 (.var 507) (.var 508) true),zTM20_39,zTM20_47,zTM20_48,zTM20_49,zTM20_50,zTM20_51,zTM20_52,zTM20_53,zTM20_54,zTM20_55,zTM20_57,zTM20_40]
abbrev zTM20_63:RL := .var 506 zTM20_14
abbrev zTM20_64:List X:=[(.rows 25 (.len 473) zTM20_63)]
abbrev zTM20_65:Sc := .s (.lit ⟨#[]⟩)
abbrev zTM20_66:List X:=[(.sc zTM20_65),(.sc zTM20_31),(.sc zTM20_31),(.sc zTM20_31),(.sc zTM20_31),(.sc zTM20_31),(.sc zTM20_31),(.sc zTM20_31),(.sc zTM20_31),(.sc zTM20_31),zTM20_45,(.sc zTM20_31),(.sc zTM20_31),(.sc zTM20_31),(.sc zTM20_31),(.sc zTM20_31),(.sc zTM20_31),(.sc zTM20_31),(.sc zTM20_31),(.sc zTM20_31),(.sc zTM20_31),(.sc zTM20_31),(.sc zTM20_31)]
abbrev zTM20_67:List Sc:=[zTM20_65,(.b (.lit false)),zTM20_31,zTM20_31,zTM20_31,zTM20_31,zTM20_31,zTM20_31,zTM20_65,zTM20_65,(.b (.lit false)),zTM20_31,zTM20_31,zTM20_31,zTM20_31,zTM20_31,zTM20_31,zTM20_31,zTM20_31,zTM20_31,zTM20_31,zTM20_31]
abbrev zTM20_68:List Kd:=[.s,.b,(.i .i64),(.i .i64),(.i .i64),(.i .i64),(.i .i64),(.i .i64),.s,.s,.b,(.i .i64),(.i .i64),(.i .i64),(.i .i64),(.i .i64),(.i .i64),(.i .i64),(.i .i64),(.i .i64),(.i .i64),(.i .i64)]
abbrev zTM20_69:RL := .upd (.lit 0) zTM20_67 (.var 561 zTM20_68)
abbrev zTM20_70:RL := .upd (.lit 1) zTM20_67 zTM20_69
abbrev zTM20_71:RL := .upd (.lit 2) zTM20_67 zTM20_70
abbrev zTM20_72:RL := .upd (.lit 3) zTM20_67 zTM20_71
abbrev zTM20_73:RL := .upd (.lit 4) zTM20_67 zTM20_72
abbrev zTM20_74:List X:=[(.rows 22 (.len 561) (.ite (.lt (.lit 0) (.len 561)) (.ite (.lt (.lit 1) (.len 561)) (.ite (.lt (.lit 2) (.len 561)) (.ite (.lt (.lit 3) (.len 561)) (.ite (.lt (.lit 4) (.len 561)) (.ite (.lt (.lit 5) (.len 561)) (.upd (.lit 5) zTM20_67 zTM20_73) zTM20_73) zTM20_72) zTM20_71) zTM20_70) zTM20_69) (.var 561 zTM20_68)))]
abbrev zTM20_75:List X:=[(.rows 22 (.len 571) (.var 571 zTM20_68))]
abbrev zTM20_76:List X:=[zTM20_13,zTM20_36,zTM20_37,zTM20_38,zTM20_39,zTM20_47,zTM20_48,zTM20_49,zTM20_50,zTM20_51,zTM20_52,zTM20_53,zTM20_54,zTM20_55,zTM20_57,zTM20_40]
abbrev zTM20_77:List X:=[zTM20_4,zTM20_5,zTM20_6,zTM20_7,zTM20_8,zTM20_9,zTM20_10,zTM20_11,zTM20_12,(.sc (.i .i64 (.var 510))),(.sc (.i .i64 (.var 511))),(.sc (.i .i64 (.var 512))),(.sc (.i .i64 (.var 513))),(.sc (.i .i64 (.var 514))),(.sc (.i .i64 (.var 515))),(.sc (.i .i64 (.var 516))),(.sc (.i .i64 (.var 517))),(.sc (.i .i64 (.var 518))),zTM20_13,zTM20_26,zTM20_27,zTM20_38,zTM20_30,(.sc (.i .i64 (.var 532)))]
abbrev zTM20_78:XTp:=([(15,(.sc (.i .i64 (.var 500))))]++zTM20_1++[(12,(.ptr (28,0) [] 0))]++zTM20_2++[(10,(.ptr (19,0) [] 0))]++zTM20_3++zTM20_15)
abbrev zTM20_79:XHp:=[((19,0),zTM20_59),((19,1),zTM20_32),((19,2),zTM20_61),((19,3),zTM20_35),((28,0),zTM20_62),((28,1),zTM20_41),((28,2),zTM20_64),((28,3),zTM20_44)]
abbrev zTM20_80:XHp:=[((19,0),zTM20_59),((19,1),zTM20_32),((19,2),zTM20_61),((19,3),zTM20_35),((28,0),zTM20_76),((28,1),zTM20_41),((28,2),zTM20_64)]
def mn_TNP_s:XS:=⟨zTM20_16,[((19,0),[zTM20_4,zTM20_5,zTM20_6,zTM20_7,zTM20_8,zTM20_9,zTM20_10,zTM20_11,zTM20_12,zTM20_17,zTM20_18,zTM20_19,zTM20_20,zTM20_21,zTM20_22,zTM20_23,zTM20_24,zTM20_25,zTM20_13,zTM20_26,zTM20_27,(.slv (19,3) 1 zTM20_28 zTM20_29 true),zTM20_30,(.sc zTM20_31)]),((19,1),zTM20_32),((19,2),[(.rows 25 (.len 2) zTM20_33)]),((19,3),zTM20_35),((28,0),[zTM20_13,zTM20_36,zTM20_37,zTM20_38,zTM20_39,zTM20_17,zTM20_18,zTM20_19,zTM20_20,zTM20_21,zTM20_22,zTM20_23,zTM20_24,zTM20_25,(.sc (.b (.lit true))),zTM20_40]),((28,1),zTM20_41),((28,2),[(.rows 25 (.len 473) zTM20_42)]),((28,3),zTM20_44),((69,0),zTM20_46),((77,0),zTM20_56)],161⟩
def mn_TNP_r:T (XE×XS):=(.need (.and (.not (.lt (.len 505) (.op .padd .i64 (.var 502) (.var 503)))) (.and (.and (.not (.lt (.len 509) (.op .padd .i64 (.var 507) (.var 508)))) (.lt (.cl 509 0 (.var 507)) (.len 471))) (.and (.not (.lt (.var 601) (.len 2))) (.lt (.cl 509 0 (.var 507)) (.len 473))))) (.ret (.normal,mn_TNP_s)))
theorem mn_TNP_run:(codeX (cfgL ksFN lpTNP).ti (callS ⟨(cfgL ksFN lpTNP),l_able,[20009,20,33,37,58,10010,10011,10013,10014,10023,10021,20025]⟩ 12) (((cfgL ksFN lpTNP).ft 4).elim [] (·.ms)) 0 ([]) 1000 mn_c (c0F++(sh++(tnF++rd1))) mn_S0).map (sqz mn_ks)=mn_TNP_r:=by kernel_rfl
def mn_TNP_b:Bind:=⟨[(500,zTM20_0),(502,zTM20_28),(503,zTM20_29),(510,(.var 602)),(511,(.var 603)),(512,(.var 604)),(513,(.var 605)),(514,(.var 606)),(515,(.var 607)),(516,(.var 608)),(517,(.var 609)),(518,(.var 610)),(519,(.var 519)),(520,(.var 602)),(521,(.var 603)),(522,(.var 604)),(523,(.var 605)),(524,(.var 606)),(525,(.var 607)),(526,(.var 608)),(527,(.var 609)),(528,(.var 610)),(529,(.var 529)),(531,(.var 531))],[(530,(.lit true))],[],[(504,(.len 2),zTM20_33),(505,(.len 505),zTM20_34),(506,(.len 473),zTM20_42)]⟩
theorem mn_TNP_ok:okS 0 500 mn_TNP_b [] mn_S3 mn_TNP_s=true:=by kernel_rfl
theorem mn_TNP_g:mn_TNP_b.ge 500=true:=by kernel_rfl
theorem mn_TNP_step {ρ ρ1:Rho} (hd:mn_S0.den ρ=mn_S0.den ρ1) (cok:CfgOk Try.prog ρ1 (cfgL ksFN lpTNP)) (hl:LpsOk Try.prog ρ1 Try.f4.ntmps ([]) mn_c) (hk:Facts.ok ρ1 (c0F++(sh++(tnF++rd1)))) (h0:((.and (.not (.lt (.len 505) (.op .padd .i64 (.var 502) (.var 503)))) (.and (.and (.not (.lt (.len 509) (.op .padd .i64 (.var 507) (.var 508)))) (.lt (.cl 509 0 (.var 507)) (.len 471))) (.and (.not (.lt (.var 601) (.len 2))) (.lt (.cl 509 0 (.var 507)) (.len 473))))):BE).den ρ1=true):StepF Try.prog Try.f4.ntmps mn_c 0 mn_S0 mn_S3 ρ (mn_TNP_b.ap ρ1) :=
 fam_goU mn_fits hd cok hl hk mn_TNP_run (sel_need h0 rfl) mn_TNP_ok
theorem mn_TNP_500:lassoc 500 mn_TNP_b.i=some (.op .add .i64 (.var 500) (.lit 1)):=by kernel_rfl
theorem mn_TNP_502:lassoc 502 mn_TNP_b.i=some (.op .padd .i64 (.var 502) (.lit 1)):=by kernel_rfl
theorem mn_TNP_503:lassoc 503 mn_TNP_b.i=some (.op .psub .i64 (.var 503) (.lit 1)):=by kernel_rfl
theorem mn_TNP_510:lassoc 510 mn_TNP_b.i=some (.var 602):=by kernel_rfl
theorem mn_TNP_511:lassoc 511 mn_TNP_b.i=some (.var 603):=by kernel_rfl
theorem mn_TNP_512:lassoc 512 mn_TNP_b.i=some (.var 604):=by kernel_rfl
theorem mn_TNP_513:lassoc 513 mn_TNP_b.i=some (.var 605):=by kernel_rfl
theorem mn_TNP_514:lassoc 514 mn_TNP_b.i=some (.var 606):=by kernel_rfl
theorem mn_TNP_515:lassoc 515 mn_TNP_b.i=some (.var 607):=by kernel_rfl
theorem mn_TNP_516:lassoc 516 mn_TNP_b.i=some (.var 608):=by kernel_rfl
theorem mn_TNP_517:lassoc 517 mn_TNP_b.i=some (.var 609):=by kernel_rfl
theorem mn_TNP_518:lassoc 518 mn_TNP_b.i=some (.var 610):=by kernel_rfl
theorem mn_TNP_519:lassoc 519 mn_TNP_b.i=some (.var 519):=by kernel_rfl
theorem mn_TNP_520:lassoc 520 mn_TNP_b.i=some (.var 602):=by kernel_rfl
theorem mn_TNP_521:lassoc 521 mn_TNP_b.i=some (.var 603):=by kernel_rfl
theorem mn_TNP_522:lassoc 522 mn_TNP_b.i=some (.var 604):=by kernel_rfl
theorem mn_TNP_523:lassoc 523 mn_TNP_b.i=some (.var 605):=by kernel_rfl
theorem mn_TNP_524:lassoc 524 mn_TNP_b.i=some (.var 606):=by kernel_rfl
theorem mn_TNP_525:lassoc 525 mn_TNP_b.i=some (.var 607):=by kernel_rfl
theorem mn_TNP_526:lassoc 526 mn_TNP_b.i=some (.var 608):=by kernel_rfl
theorem mn_TNP_527:lassoc 527 mn_TNP_b.i=some (.var 609):=by kernel_rfl
theorem mn_TNP_528:lassoc 528 mn_TNP_b.i=some (.var 610):=by kernel_rfl
theorem mn_TNP_529:lassoc 529 mn_TNP_b.i=some (.var 529):=by kernel_rfl
theorem mn_TNP_531:lassoc 531 mn_TNP_b.i=some (.var 531):=by kernel_rfl
theorem mn_TNP_r504:lassoc 504 mn_TNP_b.r=some ((.len 2),(.var 600 [(.i .i64),.b,(.i .i64),(.i .i64),(.i .i64),(.i .i64),(.i .i64),(.i .i64),.s,.s,.b,(.i .i64),(.i .i64),(.i .i64),(.i .i64),(.i .i64),(.i .i64),(.i .i64),(.i .i64),(.i .i64),(.i .i64),(.i .i64),(.i .i64),(.i .i64),(.i .i64)])):=by kernel_rfl
theorem mn_TNP_r505:lassoc 505 mn_TNP_b.r=some ((.len 505),(.var 505 [(.i .i64)])):=by kernel_rfl
theorem mn_TNP_r506:lassoc 506 mn_TNP_b.r=some ((.len 473),(.var 639 [(.i .i64),.b,(.i .i64),(.i .i64),(.i .i64),(.i .i64),(.i .i64),(.i .i64),.s,.s,.b,(.i .i64),(.i .i64),(.i .i64),(.i .i64),(.i .i64),(.i .i64),(.i .i64),(.i .i64),(.i .i64),(.i .i64),(.i .i64),(.i .i64),(.i .i64),(.i .i64)])):=by kernel_rfl
def mn_TNQ_s:XS:=⟨zTM20_16,[((19,0),[zTM20_4,zTM20_5,zTM20_6,zTM20_7,zTM20_8,zTM20_9,zTM20_10,zTM20_11,zTM20_12,zTM20_17,zTM20_18,zTM20_19,zTM20_20,zTM20_21,zTM20_22,zTM20_23,zTM20_24,zTM20_25,zTM20_13,zTM20_26,zTM20_27,(.slv (149,0) 1 (.lit 0) (.len 621) true),(.sc (.i .i64 (.lit 2))),(.sc zTM20_31)]),((19,1),zTM20_32),((19,2),[(.rows 25 (.len 2) zTM20_33)]),((28,0),[zTM20_13,zTM20_36,zTM20_37,(.slv (155,0) 1 (.lit 0) (.len 661) true),(.sc (.i .i64 (.lit 2))),zTM20_17,zTM20_18,zTM20_19,zTM20_20,zTM20_21,zTM20_22,zTM20_23,zTM20_24,zTM20_25,zTM20_57,zTM20_40]),((28,1),zTM20_41),((28,2),[(.rows 25 (.len 473) zTM20_42)]),((28,3),zTM20_44),((69,0),zTM20_46),((77,0),zTM20_56),((149,0),[(.rows 1 (.len 621) (.var 621 [(.i .i64)]))]),((155,0),[(.rows 1 (.len 661) (.var 661 [(.i .i64)]))])],161⟩
def mn_TNQ_r:T (XE×XS):=(.need (.and (.not (.lt (.len 505) (.op .padd .i64 (.var 502) (.var 503)))) (.and (.and (.not (.lt (.len 509) (.op .padd .i64 (.var 507) (.var 508)))) (.lt (.cl 509 0 (.var 507)) (.len 471))) (.and (.not (.lt (.var 601) (.len 2))) (.lt (.cl 509 0 (.var 507)) (.len 473))))) (.ret (.normal,mn_TNQ_s)))
theorem mn_TNQ_run:(codeX (cfgL ksFN lpTNQ).ti (callS ⟨(cfgL ksFN lpTNQ),l_able,[20009,20,33,37,58,10010,10011,10013,10014,10023,10021,20025]⟩ 12) (((cfgL ksFN lpTNQ).ft 4).elim [] (·.ms)) 0 ([]) 1000 mn_c ((.lt (.lit 0) (.len 621),true)::(.lt (.lit 0) (.len 661),true)::(.lt (.lit 6) (.len 661),false)::c0F++(sh++(tnF++rd1))) mn_S0).map (sqz mn_ks)=mn_TNQ_r:=by kernel_rfl
def mn_TNQ_b:Bind:=⟨[(500,zTM20_0),(502,(.lit 0)),(503,(.len 621)),(507,(.lit 0)),(508,(.len 661)),(510,(.var 602)),(511,(.var 603)),(512,(.var 604)),(513,(.var 605)),(514,(.var 606)),(515,(.var 607)),(516,(.var 608)),(517,(.var 609)),(518,(.var 610)),(519,(.lit 2)),(520,(.var 602)),(521,(.var 603)),(522,(.var 604)),(523,(.var 605)),(524,(.var 606)),(525,(.var 607)),(526,(.var 608)),(527,(.var 609)),(528,(.var 610)),(529,(.lit 2)),(531,(.var 531))],zTM20_58,[],[(504,(.len 2),zTM20_33),(505,(.len 621),(.var 621 [(.i .i64)])),(506,(.len 473),zTM20_42),(509,(.len 661),(.var 661 [(.i .i64)]))]⟩
theorem mn_TNQ_ok:okS 0 500 mn_TNQ_b [((19,3),(149,0)),((28,3),(155,0))] mn_S0 mn_TNQ_s=true:=by kernel_rfl
theorem mn_TNQ_g:mn_TNQ_b.ge 500=true:=by kernel_rfl
theorem mn_TNQ_step {ρ ρ1:Rho} (hd:mn_S0.den ρ=mn_S0.den ρ1) (cok:CfgOk Try.prog ρ1 (cfgL ksFN lpTNQ)) (hl:LpsOk Try.prog ρ1 Try.f4.ntmps ([]) mn_c) (hk:Facts.ok ρ1 ((.lt (.lit 0) (.len 621),true)::(.lt (.lit 0) (.len 661),true)::(.lt (.lit 6) (.len 661),false)::c0F++(sh++(tnF++rd1)))) (h0:((.and (.not (.lt (.len 505) (.op .padd .i64 (.var 502) (.var 503)))) (.and (.and (.not (.lt (.len 509) (.op .padd .i64 (.var 507) (.var 508)))) (.lt (.cl 509 0 (.var 507)) (.len 471))) (.and (.not (.lt (.var 601) (.len 2))) (.lt (.cl 509 0 (.var 507)) (.len 473))))):BE).den ρ1=true):StepF Try.prog Try.f4.ntmps mn_c 0 mn_S0 mn_S0 ρ (mn_TNQ_b.ap ρ1) :=
 fam_goU mn_fits hd cok hl hk mn_TNQ_run (sel_need h0 rfl) mn_TNQ_ok
theorem mn_TNQ_500:lassoc 500 mn_TNQ_b.i=some (.op .add .i64 (.var 500) (.lit 1)):=by kernel_rfl
theorem mn_TNQ_502:lassoc 502 mn_TNQ_b.i=some (.lit 0):=by kernel_rfl
theorem mn_TNQ_503:lassoc 503 mn_TNQ_b.i=some (.len 621):=by kernel_rfl
theorem mn_TNQ_507:lassoc 507 mn_TNQ_b.i=some (.lit 0):=by kernel_rfl
theorem mn_TNQ_508:lassoc 508 mn_TNQ_b.i=some (.len 661):=by kernel_rfl
theorem mn_TNQ_510:lassoc 510 mn_TNQ_b.i=some (.var 602):=by kernel_rfl
theorem mn_TNQ_511:lassoc 511 mn_TNQ_b.i=some (.var 603):=by kernel_rfl
theorem mn_TNQ_512:lassoc 512 mn_TNQ_b.i=some (.var 604):=by kernel_rfl
theorem mn_TNQ_513:lassoc 513 mn_TNQ_b.i=some (.var 605):=by kernel_rfl
theorem mn_TNQ_514:lassoc 514 mn_TNQ_b.i=some (.var 606):=by kernel_rfl
theorem mn_TNQ_515:lassoc 515 mn_TNQ_b.i=some (.var 607):=by kernel_rfl
theorem mn_TNQ_516:lassoc 516 mn_TNQ_b.i=some (.var 608):=by kernel_rfl
theorem mn_TNQ_517:lassoc 517 mn_TNQ_b.i=some (.var 609):=by kernel_rfl
theorem mn_TNQ_518:lassoc 518 mn_TNQ_b.i=some (.var 610):=by kernel_rfl
theorem mn_TNQ_519:lassoc 519 mn_TNQ_b.i=some (.lit 2):=by kernel_rfl
theorem mn_TNQ_520:lassoc 520 mn_TNQ_b.i=some (.var 602):=by kernel_rfl
theorem mn_TNQ_521:lassoc 521 mn_TNQ_b.i=some (.var 603):=by kernel_rfl
theorem mn_TNQ_522:lassoc 522 mn_TNQ_b.i=some (.var 604):=by kernel_rfl
theorem mn_TNQ_523:lassoc 523 mn_TNQ_b.i=some (.var 605):=by kernel_rfl
theorem mn_TNQ_524:lassoc 524 mn_TNQ_b.i=some (.var 606):=by kernel_rfl
theorem mn_TNQ_525:lassoc 525 mn_TNQ_b.i=some (.var 607):=by kernel_rfl
theorem mn_TNQ_526:lassoc 526 mn_TNQ_b.i=some (.var 608):=by kernel_rfl
theorem mn_TNQ_527:lassoc 527 mn_TNQ_b.i=some (.var 609):=by kernel_rfl
theorem mn_TNQ_528:lassoc 528 mn_TNQ_b.i=some (.var 610):=by kernel_rfl
theorem mn_TNQ_529:lassoc 529 mn_TNQ_b.i=some (.lit 2):=by kernel_rfl
theorem mn_TNQ_531:lassoc 531 mn_TNQ_b.i=some (.var 531):=by kernel_rfl
theorem mn_TNQ_r504:lassoc 504 mn_TNQ_b.r=some ((.len 2),(.var 600 [(.i .i64),.b,(.i .i64),(.i .i64),(.i .i64),(.i .i64),(.i .i64),(.i .i64),.s,.s,.b,(.i .i64),(.i .i64),(.i .i64),(.i .i64),(.i .i64),(.i .i64),(.i .i64),(.i .i64),(.i .i64),(.i .i64),(.i .i64),(.i .i64),(.i .i64),(.i .i64)])):=by kernel_rfl
theorem mn_TNQ_r505:lassoc 505 mn_TNQ_b.r=some ((.len 621),(.var 621 [(.i .i64)])):=by kernel_rfl
theorem mn_TNQ_r506:lassoc 506 mn_TNQ_b.r=some ((.len 473),(.var 639 [(.i .i64),.b,(.i .i64),(.i .i64),(.i .i64),(.i .i64),(.i .i64),(.i .i64),.s,.s,.b,(.i .i64),(.i .i64),(.i .i64),(.i .i64),(.i .i64),(.i .i64),(.i .i64),(.i .i64),(.i .i64),(.i .i64),(.i .i64),(.i .i64),(.i .i64),(.i .i64)])):=by kernel_rfl
theorem mn_TNQ_r509:lassoc 509 mn_TNQ_b.r=some ((.len 661),(.var 661 [(.i .i64)])):=by kernel_rfl
def mn_TRP_s:XS:=⟨zTM20_16,[((19,0),[zTM20_4,zTM20_5,zTM20_6,zTM20_7,zTM20_8,zTM20_9,zTM20_10,zTM20_11,zTM20_12,zTM20_17,zTM20_18,zTM20_19,zTM20_20,zTM20_21,zTM20_22,zTM20_23,zTM20_24,zTM20_25,zTM20_13,zTM20_26,zTM20_27,(.slv (19,3) 1 zTM20_28 zTM20_29 true),zTM20_30,(.sc zTM20_31)]),((19,1),zTM20_32),((19,2),[(.rows 25 (.len 2) zTM20_33)]),((19,3),zTM20_35),((28,0),[zTM20_13,zTM20_36,zTM20_37,zTM20_38,zTM20_39,zTM20_17,zTM20_18,zTM20_19,zTM20_20,zTM20_21,zTM20_22,zTM20_23,zTM20_24,zTM20_25,(.sc (.b (.lit true))),zTM20_40]),((28,1),zTM20_41),((28,2),[(.rows 25 (.len 473) zTM20_42)]),((28,3),zTM20_44),((69,0),zTM20_46),((77,0),zTM20_56)],161⟩
def mn_TRP_r:T (XE×XS):=(.need (.and (.not (.lt (.len 505) (.op .padd .i64 (.var 502) (.var 503)))) (.and (.and (.not (.lt (.len 509) (.op .padd .i64 (.var 507) (.var 508)))) (.lt (.cl 509 0 (.var 507)) (.len 471))) (.and (.not (.lt (.var 601) (.len 2))) (.lt (.cl 509 0 (.var 507)) (.len 473))))) (.ret (.normal,mn_TRP_s)))
theorem mn_TRP_run:(codeX (cfgL ksFR lpTRP).ti (callS ⟨(cfgL ksFR lpTRP),l_able,[20009,20,33,37,58,10010,10011,10013,10014,10023,10021,20025]⟩ 12) (((cfgL ksFR lpTRP).ft 4).elim [] (·.ms)) 0 ([]) 1000 mn_c ((.lt (.lit 0) (.len 641),true)::c0F++(sh++(tnF++rd1))) mn_S0).map (sqz mn_ks)=mn_TRP_r:=by kernel_rfl
def mn_TRP_b:Bind:=⟨[(500,zTM20_0),(502,zTM20_28),(503,zTM20_29),(510,(.var 602)),(511,(.var 603)),(512,(.var 604)),(513,(.var 605)),(514,(.var 606)),(515,(.var 607)),(516,(.var 608)),(517,(.var 609)),(518,(.var 610)),(519,(.var 519)),(520,(.var 602)),(521,(.var 603)),(522,(.var 604)),(523,(.var 605)),(524,(.var 606)),(525,(.var 607)),(526,(.var 608)),(527,(.var 609)),(528,(.var 610)),(529,(.var 529)),(531,(.var 531))],[(530,(.lit true))],[],[(504,(.len 2),zTM20_33),(505,(.len 505),zTM20_34),(506,(.len 473),zTM20_42)]⟩
theorem mn_TRP_ok:okS 0 500 mn_TRP_b [] mn_S3 mn_TRP_s=true:=by kernel_rfl
theorem mn_TRP_g:mn_TRP_b.ge 500=true:=by kernel_rfl
theorem mn_TRP_step {ρ ρ1:Rho} (hd:mn_S0.den ρ=mn_S0.den ρ1) (cok:CfgOk Try.prog ρ1 (cfgL ksFR lpTRP)) (hl:LpsOk Try.prog ρ1 Try.f4.ntmps ([]) mn_c) (hk:Facts.ok ρ1 ((.lt (.lit 0) (.len 641),true)::c0F++(sh++(tnF++rd1)))) (h0:((.and (.not (.lt (.len 505) (.op .padd .i64 (.var 502) (.var 503)))) (.and (.and (.not (.lt (.len 509) (.op .padd .i64 (.var 507) (.var 508)))) (.lt (.cl 509 0 (.var 507)) (.len 471))) (.and (.not (.lt (.var 601) (.len 2))) (.lt (.cl 509 0 (.var 507)) (.len 473))))):BE).den ρ1=true):StepF Try.prog Try.f4.ntmps mn_c 0 mn_S0 mn_S3 ρ (mn_TRP_b.ap ρ1) :=
 fam_goU mn_fits hd cok hl hk mn_TRP_run (sel_need h0 rfl) mn_TRP_ok
theorem mn_TRP_500:lassoc 500 mn_TRP_b.i=some (.op .add .i64 (.var 500) (.lit 1)):=by kernel_rfl
theorem mn_TRP_502:lassoc 502 mn_TRP_b.i=some (.op .padd .i64 (.var 502) (.lit 1)):=by kernel_rfl
theorem mn_TRP_503:lassoc 503 mn_TRP_b.i=some (.op .psub .i64 (.var 503) (.lit 1)):=by kernel_rfl
theorem mn_TRP_510:lassoc 510 mn_TRP_b.i=some (.var 602):=by kernel_rfl
theorem mn_TRP_511:lassoc 511 mn_TRP_b.i=some (.var 603):=by kernel_rfl
theorem mn_TRP_512:lassoc 512 mn_TRP_b.i=some (.var 604):=by kernel_rfl
theorem mn_TRP_513:lassoc 513 mn_TRP_b.i=some (.var 605):=by kernel_rfl
theorem mn_TRP_514:lassoc 514 mn_TRP_b.i=some (.var 606):=by kernel_rfl
theorem mn_TRP_515:lassoc 515 mn_TRP_b.i=some (.var 607):=by kernel_rfl
theorem mn_TRP_516:lassoc 516 mn_TRP_b.i=some (.var 608):=by kernel_rfl
theorem mn_TRP_517:lassoc 517 mn_TRP_b.i=some (.var 609):=by kernel_rfl
theorem mn_TRP_518:lassoc 518 mn_TRP_b.i=some (.var 610):=by kernel_rfl
theorem mn_TRP_519:lassoc 519 mn_TRP_b.i=some (.var 519):=by kernel_rfl
theorem mn_TRP_520:lassoc 520 mn_TRP_b.i=some (.var 602):=by kernel_rfl
theorem mn_TRP_521:lassoc 521 mn_TRP_b.i=some (.var 603):=by kernel_rfl
theorem mn_TRP_522:lassoc 522 mn_TRP_b.i=some (.var 604):=by kernel_rfl
theorem mn_TRP_523:lassoc 523 mn_TRP_b.i=some (.var 605):=by kernel_rfl
theorem mn_TRP_524:lassoc 524 mn_TRP_b.i=some (.var 606):=by kernel_rfl
theorem mn_TRP_525:lassoc 525 mn_TRP_b.i=some (.var 607):=by kernel_rfl
theorem mn_TRP_526:lassoc 526 mn_TRP_b.i=some (.var 608):=by kernel_rfl
theorem mn_TRP_527:lassoc 527 mn_TRP_b.i=some (.var 609):=by kernel_rfl
theorem mn_TRP_528:lassoc 528 mn_TRP_b.i=some (.var 610):=by kernel_rfl
theorem mn_TRP_529:lassoc 529 mn_TRP_b.i=some (.var 529):=by kernel_rfl
theorem mn_TRP_531:lassoc 531 mn_TRP_b.i=some (.var 531):=by kernel_rfl
theorem mn_TRP_r504:lassoc 504 mn_TRP_b.r=some ((.len 2),(.var 600 [(.i .i64),.b,(.i .i64),(.i .i64),(.i .i64),(.i .i64),(.i .i64),(.i .i64),.s,.s,.b,(.i .i64),(.i .i64),(.i .i64),(.i .i64),(.i .i64),(.i .i64),(.i .i64),(.i .i64),(.i .i64),(.i .i64),(.i .i64),(.i .i64),(.i .i64),(.i .i64)])):=by kernel_rfl
theorem mn_TRP_r505:lassoc 505 mn_TRP_b.r=some ((.len 505),(.var 505 [(.i .i64)])):=by kernel_rfl
theorem mn_TRP_r506:lassoc 506 mn_TRP_b.r=some ((.len 473),(.var 639 [(.i .i64),.b,(.i .i64),(.i .i64),(.i .i64),(.i .i64),(.i .i64),(.i .i64),.s,.s,.b,(.i .i64),(.i .i64),(.i .i64),(.i .i64),(.i .i64),(.i .i64),(.i .i64),(.i .i64),(.i .i64),(.i .i64),(.i .i64),(.i .i64),(.i .i64),(.i .i64)])):=by kernel_rfl
def mn_TRQ_s:XS:=⟨zTM20_16,[((19,0),[zTM20_4,zTM20_5,zTM20_6,zTM20_7,zTM20_8,zTM20_9,zTM20_10,zTM20_11,zTM20_12,zTM20_17,zTM20_18,zTM20_19,zTM20_20,zTM20_21,zTM20_22,zTM20_23,zTM20_24,zTM20_25,zTM20_13,zTM20_26,zTM20_27,(.slv (149,0) 1 (.lit 0) (.len 621) true),(.sc (.i .i64 (.lit 2))),(.sc zTM20_31)]),((19,1),zTM20_32),((19,2),[(.rows 25 (.len 2) zTM20_33)]),((28,0),[zTM20_13,zTM20_36,zTM20_37,(.slv (155,0) 1 (.lit 0) (.len 661) true),(.sc (.i .i64 (.lit 2))),zTM20_17,zTM20_18,zTM20_19,zTM20_20,zTM20_21,zTM20_22,zTM20_23,zTM20_24,zTM20_25,zTM20_57,zTM20_40]),((28,1),zTM20_41),((28,2),[(.rows 25 (.len 473) zTM20_42)]),((28,3),zTM20_44),((69,0),zTM20_46),((77,0),zTM20_56),((149,0),[(.rows 1 (.len 621) (.var 621 [(.i .i64)]))]),((155,0),[(.rows 1 (.len 661) (.var 661 [(.i .i64)]))])],161⟩
def mn_TRQ_r:T (XE×XS):=(.need (.and (.not (.lt (.len 505) (.op .padd .i64 (.var 502) (.var 503)))) (.and (.and (.not (.lt (.len 509) (.op .padd .i64 (.var 507) (.var 508)))) (.lt (.cl 509 0 (.var 507)) (.len 471))) (.and (.not (.lt (.var 601) (.len 2))) (.lt (.cl 509 0 (.var 507)) (.len 473))))) (.ret (.normal,mn_TRQ_s)))
theorem mn_TRQ_run:(codeX (cfgL ksFR lpTRQ).ti (callS ⟨(cfgL ksFR lpTRQ),l_able,[20009,20,33,37,58,10010,10011,10013,10014,10023,10021,20025]⟩ 12) (((cfgL ksFR lpTRQ).ft 4).elim [] (·.ms)) 0 ([]) 1000 mn_c ((.lt (.lit 0) (.len 641),true)::(.lt (.lit 0) (.len 621),true)::(.lt (.lit 0) (.len 661),true)::(.lt (.lit 6) (.len 661),false)::c0F++(sh++(tnF++rd1))) mn_S0).map (sqz mn_ks)=mn_TRQ_r:=by kernel_rfl
def mn_TRQ_b:Bind:=⟨[(500,zTM20_0),(502,(.lit 0)),(503,(.len 621)),(507,(.lit 0)),(508,(.len 661)),(510,(.var 602)),(511,(.var 603)),(512,(.var 604)),(513,(.var 605)),(514,(.var 606)),(515,(.var 607)),(516,(.var 608)),(517,(.var 609)),(518,(.var 610)),(519,(.lit 2)),(520,(.var 602)),(521,(.var 603)),(522,(.var 604)),(523,(.var 605)),(524,(.var 606)),(525,(.var 607)),(526,(.var 608)),(527,(.var 609)),(528,(.var 610)),(529,(.lit 2)),(531,(.var 531))],zTM20_58,[],[(504,(.len 2),zTM20_33),(505,(.len 621),(.var 621 [(.i .i64)])),(506,(.len 473),zTM20_42),(509,(.len 661),(.var 661 [(.i .i64)]))]⟩
theorem mn_TRQ_ok:okS 0 500 mn_TRQ_b [((19,3),(149,0)),((28,3),(155,0))] mn_S0 mn_TRQ_s=true:=by kernel_rfl
theorem mn_TRQ_g:mn_TRQ_b.ge 500=true:=by kernel_rfl
theorem mn_TRQ_step {ρ ρ1:Rho} (hd:mn_S0.den ρ=mn_S0.den ρ1) (cok:CfgOk Try.prog ρ1 (cfgL ksFR lpTRQ)) (hl:LpsOk Try.prog ρ1 Try.f4.ntmps ([]) mn_c) (hk:Facts.ok ρ1 ((.lt (.lit 0) (.len 641),true)::(.lt (.lit 0) (.len 621),true)::(.lt (.lit 0) (.len 661),true)::(.lt (.lit 6) (.len 661),false)::c0F++(sh++(tnF++rd1)))) (h0:((.and (.not (.lt (.len 505) (.op .padd .i64 (.var 502) (.var 503)))) (.and (.and (.not (.lt (.len 509) (.op .padd .i64 (.var 507) (.var 508)))) (.lt (.cl 509 0 (.var 507)) (.len 471))) (.and (.not (.lt (.var 601) (.len 2))) (.lt (.cl 509 0 (.var 507)) (.len 473))))):BE).den ρ1=true):StepF Try.prog Try.f4.ntmps mn_c 0 mn_S0 mn_S0 ρ (mn_TRQ_b.ap ρ1) :=
 fam_goU mn_fits hd cok hl hk mn_TRQ_run (sel_need h0 rfl) mn_TRQ_ok
theorem mn_TRQ_500:lassoc 500 mn_TRQ_b.i=some (.op .add .i64 (.var 500) (.lit 1)):=by kernel_rfl
theorem mn_TRQ_502:lassoc 502 mn_TRQ_b.i=some (.lit 0):=by kernel_rfl
theorem mn_TRQ_503:lassoc 503 mn_TRQ_b.i=some (.len 621):=by kernel_rfl
theorem mn_TRQ_507:lassoc 507 mn_TRQ_b.i=some (.lit 0):=by kernel_rfl
theorem mn_TRQ_508:lassoc 508 mn_TRQ_b.i=some (.len 661):=by kernel_rfl
theorem mn_TRQ_510:lassoc 510 mn_TRQ_b.i=some (.var 602):=by kernel_rfl
theorem mn_TRQ_511:lassoc 511 mn_TRQ_b.i=some (.var 603):=by kernel_rfl
theorem mn_TRQ_512:lassoc 512 mn_TRQ_b.i=some (.var 604):=by kernel_rfl
theorem mn_TRQ_513:lassoc 513 mn_TRQ_b.i=some (.var 605):=by kernel_rfl
theorem mn_TRQ_514:lassoc 514 mn_TRQ_b.i=some (.var 606):=by kernel_rfl
theorem mn_TRQ_515:lassoc 515 mn_TRQ_b.i=some (.var 607):=by kernel_rfl
theorem mn_TRQ_516:lassoc 516 mn_TRQ_b.i=some (.var 608):=by kernel_rfl
theorem mn_TRQ_517:lassoc 517 mn_TRQ_b.i=some (.var 609):=by kernel_rfl
theorem mn_TRQ_518:lassoc 518 mn_TRQ_b.i=some (.var 610):=by kernel_rfl
theorem mn_TRQ_519:lassoc 519 mn_TRQ_b.i=some (.lit 2):=by kernel_rfl
theorem mn_TRQ_520:lassoc 520 mn_TRQ_b.i=some (.var 602):=by kernel_rfl
theorem mn_TRQ_521:lassoc 521 mn_TRQ_b.i=some (.var 603):=by kernel_rfl
theorem mn_TRQ_522:lassoc 522 mn_TRQ_b.i=some (.var 604):=by kernel_rfl
theorem mn_TRQ_523:lassoc 523 mn_TRQ_b.i=some (.var 605):=by kernel_rfl
theorem mn_TRQ_524:lassoc 524 mn_TRQ_b.i=some (.var 606):=by kernel_rfl
theorem mn_TRQ_525:lassoc 525 mn_TRQ_b.i=some (.var 607):=by kernel_rfl
theorem mn_TRQ_526:lassoc 526 mn_TRQ_b.i=some (.var 608):=by kernel_rfl
theorem mn_TRQ_527:lassoc 527 mn_TRQ_b.i=some (.var 609):=by kernel_rfl
theorem mn_TRQ_528:lassoc 528 mn_TRQ_b.i=some (.var 610):=by kernel_rfl
theorem mn_TRQ_529:lassoc 529 mn_TRQ_b.i=some (.lit 2):=by kernel_rfl
theorem mn_TRQ_531:lassoc 531 mn_TRQ_b.i=some (.var 531):=by kernel_rfl
theorem mn_TRQ_r504:lassoc 504 mn_TRQ_b.r=some ((.len 2),(.var 600 [(.i .i64),.b,(.i .i64),(.i .i64),(.i .i64),(.i .i64),(.i .i64),(.i .i64),.s,.s,.b,(.i .i64),(.i .i64),(.i .i64),(.i .i64),(.i .i64),(.i .i64),(.i .i64),(.i .i64),(.i .i64),(.i .i64),(.i .i64),(.i .i64),(.i .i64),(.i .i64)])):=by kernel_rfl
theorem mn_TRQ_r505:lassoc 505 mn_TRQ_b.r=some ((.len 621),(.var 621 [(.i .i64)])):=by kernel_rfl
theorem mn_TRQ_r506:lassoc 506 mn_TRQ_b.r=some ((.len 473),(.var 639 [(.i .i64),.b,(.i .i64),(.i .i64),(.i .i64),(.i .i64),(.i .i64),(.i .i64),.s,.s,.b,(.i .i64),(.i .i64),(.i .i64),(.i .i64),(.i .i64),(.i .i64),(.i .i64),(.i .i64),(.i .i64),(.i .i64),(.i .i64),(.i .i64),(.i .i64),(.i .i64)])):=by kernel_rfl
theorem mn_TRQ_r509:lassoc 509 mn_TRQ_b.r=some ((.len 661),(.var 661 [(.i .i64)])):=by kernel_rfl
def mn_DI_s:XS:=⟨zTM20_16,[((19,0),zTM20_59),((19,1),zTM20_32),((19,2),zTM20_61),((19,3),zTM20_35),((28,0),zTM20_62),((28,1),zTM20_41),((28,2),zTM20_64),((28,3),zTM20_44),((69,0),zTM20_66),((77,0),zTM20_66),((81,0),zTM20_74),((130,0),zTM20_75)],233⟩
def mn_DI_r:T (XE×XS):=(.need (.and (.not (.lt (.len 505) (.op .padd .i64 (.var 502) (.var 503)))) (.and (.not (.lt (.var 507) (.lit 0))) (.and (.not (.lt (.var 508) (.lit 0))) (.not (.lt (.len 509) (.op .padd .i64 (.var 507) (.var 508))))))) (.ret (.normal,mn_DI_s)))
theorem mn_DI_run:(codeX (cfgL ksQ lpDn).ti (callS ⟨(cfgL ksQ lpDn),l_able,[20009,20,33,37,58,10010,10011,10013,10014,10023,10021,20025]⟩ 12) (((cfgL ksQ lpDn).ft 4).elim [] (·.ms)) 0 ([]) 1000 mn_c ((inM,true)::(.lt (.lit 0) (.var 503),false)::(.lt (.var 503) (.lit 0),false)::(.var 530,true)::(.eq (.var 531) (.lit 0),true)::dzF++(mnF++lnT)) mn_S2).map (sqz mn_ks)=mn_DI_r:=by kernel_rfl
def mn_DI_b:Bind:=⟨[(500,zTM20_0),(502,(.var 502)),(503,(.var 503)),(507,(.var 507)),(508,(.var 508)),(510,(.var 510)),(511,(.var 511)),(512,(.var 512)),(513,(.var 513)),(514,(.var 514)),(515,(.var 515)),(516,(.var 516)),(517,(.var 517)),(518,(.var 518)),(519,(.var 519)),(520,(.var 520)),(521,(.var 521)),(522,(.var 522)),(523,(.var 523)),(524,(.var 524)),(525,(.var 525)),(526,(.var 526)),(527,(.var 527)),(528,(.var 528)),(529,(.var 529)),(531,(.var 531))],zTM20_58,[],[(504,(.len 2),zTM20_60),(505,(.len 505),zTM20_34),(506,(.len 473),zTM20_63),(509,(.len 509),zTM20_43)]⟩
theorem mn_DI_ok:okS 0 500 mn_DI_b [] mn_S2 mn_DI_s=true:=by kernel_rfl
theorem mn_DI_g:mn_DI_b.ge 500=true:=by kernel_rfl
theorem mn_DI_step {ρ ρ1:Rho} (hd:mn_S2.den ρ=mn_S2.den ρ1) (cok:CfgOk Try.prog ρ1 (cfgL ksQ lpDn)) (hl:LpsOk Try.prog ρ1 Try.f4.ntmps ([]) mn_c) (hk:Facts.ok ρ1 ((inM,true)::(.lt (.lit 0) (.var 503),false)::(.lt (.var 503) (.lit 0),false)::(.var 530,true)::(.eq (.var 531) (.lit 0),true)::dzF++(mnF++lnT))) (h0:((.and (.not (.lt (.len 505) (.op .padd .i64 (.var 502) (.var 503)))) (.and (.not (.lt (.var 507) (.lit 0))) (.and (.not (.lt (.var 508) (.lit 0))) (.not (.lt (.len 509) (.op .padd .i64 (.var 507) (.var 508))))))):BE).den ρ1=true):StepF Try.prog Try.f4.ntmps mn_c 0 mn_S2 mn_S2 ρ (mn_DI_b.ap ρ1) :=
 fam_goU mn_fits hd cok hl hk mn_DI_run (sel_need h0 rfl) mn_DI_ok
theorem mn_DI_500:lassoc 500 mn_DI_b.i=some (.op .add .i64 (.var 500) (.lit 1)):=by kernel_rfl
theorem mn_DI_502:lassoc 502 mn_DI_b.i=some (.var 502):=by kernel_rfl
theorem mn_DI_503:lassoc 503 mn_DI_b.i=some (.var 503):=by kernel_rfl
theorem mn_DI_507:lassoc 507 mn_DI_b.i=some (.var 507):=by kernel_rfl
theorem mn_DI_508:lassoc 508 mn_DI_b.i=some (.var 508):=by kernel_rfl
theorem mn_DI_510:lassoc 510 mn_DI_b.i=some (.var 510):=by kernel_rfl
theorem mn_DI_511:lassoc 511 mn_DI_b.i=some (.var 511):=by kernel_rfl
theorem mn_DI_512:lassoc 512 mn_DI_b.i=some (.var 512):=by kernel_rfl
theorem mn_DI_513:lassoc 513 mn_DI_b.i=some (.var 513):=by kernel_rfl
theorem mn_DI_514:lassoc 514 mn_DI_b.i=some (.var 514):=by kernel_rfl
theorem mn_DI_515:lassoc 515 mn_DI_b.i=some (.var 515):=by kernel_rfl
theorem mn_DI_516:lassoc 516 mn_DI_b.i=some (.var 516):=by kernel_rfl
theorem mn_DI_517:lassoc 517 mn_DI_b.i=some (.var 517):=by kernel_rfl
theorem mn_DI_518:lassoc 518 mn_DI_b.i=some (.var 518):=by kernel_rfl
theorem mn_DI_519:lassoc 519 mn_DI_b.i=some (.var 519):=by kernel_rfl
theorem mn_DI_520:lassoc 520 mn_DI_b.i=some (.var 520):=by kernel_rfl
theorem mn_DI_521:lassoc 521 mn_DI_b.i=some (.var 521):=by kernel_rfl
theorem mn_DI_522:lassoc 522 mn_DI_b.i=some (.var 522):=by kernel_rfl
theorem mn_DI_523:lassoc 523 mn_DI_b.i=some (.var 523):=by kernel_rfl
theorem mn_DI_524:lassoc 524 mn_DI_b.i=some (.var 524):=by kernel_rfl
theorem mn_DI_525:lassoc 525 mn_DI_b.i=some (.var 525):=by kernel_rfl
theorem mn_DI_526:lassoc 526 mn_DI_b.i=some (.var 526):=by kernel_rfl
theorem mn_DI_527:lassoc 527 mn_DI_b.i=some (.var 527):=by kernel_rfl
theorem mn_DI_528:lassoc 528 mn_DI_b.i=some (.var 528):=by kernel_rfl
theorem mn_DI_529:lassoc 529 mn_DI_b.i=some (.var 529):=by kernel_rfl
theorem mn_DI_531:lassoc 531 mn_DI_b.i=some (.var 531):=by kernel_rfl
theorem mn_DI_r504:lassoc 504 mn_DI_b.r=some ((.len 2),(.var 504 [(.i .i64),.b,(.i .i64),(.i .i64),(.i .i64),(.i .i64),(.i .i64),(.i .i64),.s,.s,.b,(.i .i64),(.i .i64),(.i .i64),(.i .i64),(.i .i64),(.i .i64),(.i .i64),(.i .i64),(.i .i64),(.i .i64),(.i .i64),(.i .i64),(.i .i64),(.i .i64)])):=by kernel_rfl
theorem mn_DI_r505:lassoc 505 mn_DI_b.r=some ((.len 505),(.var 505 [(.i .i64)])):=by kernel_rfl
theorem mn_DI_r506:lassoc 506 mn_DI_b.r=some ((.len 473),(.var 506 [(.i .i64),.b,(.i .i64),(.i .i64),(.i .i64),(.i .i64),(.i .i64),(.i .i64),.s,.s,.b,(.i .i64),(.i .i64),(.i .i64),(.i .i64),(.i .i64),(.i .i64),(.i .i64),(.i .i64),(.i .i64),(.i .i64),(.i .i64),(.i .i64),(.i .i64),(.i .i64)])):=by kernel_rfl
theorem mn_DI_r509:lassoc 509 mn_DI_b.r=some ((.len 509),(.var 509 [(.i .i64)])):=by kernel_rfl
def mn_DM_s:XS:=⟨zTM20_16,[((19,0),zTM20_59),((19,1),zTM20_32),((19,2),zTM20_61),((19,3),zTM20_35),((28,0),zTM20_62),((28,1),zTM20_41),((28,2),zTM20_64),((28,3),zTM20_44),((69,0),zTM20_66),((77,0),zTM20_66),((81,0),zTM20_74),((130,0),zTM20_75)],233⟩
def mn_DM_r:T (XE×XS):=(.need (.and (.not (.lt (.len 505) (.op .padd .i64 (.var 502) (.var 503)))) (.and (.not (.lt (.var 507) (.lit 0))) (.and (.not (.lt (.var 508) (.lit 0))) (.not (.lt (.len 509) (.op .padd .i64 (.var 507) (.var 508))))))) (.ret (.normal,mn_DM_s)))
theorem mn_DM_run:(codeX (cfgL ksQ lpDn).ti (callS ⟨(cfgL ksQ lpDn),l_able,[20009,20,33,37,58,10010,10011,10013,10014,10023,10021,20025]⟩ 12) (((cfgL ksQ lpDn).ft 4).elim [] (·.ms)) 0 ([]) 1000 mn_c ((inM,false)::(.lt (.lit 0) (.var 503),false)::(.lt (.var 503) (.lit 0),false)::(.var 530,true)::(.eq (.var 531) (.lit 0),true)::dzF++(mnF++lnT)) mn_S2).map (sqz mn_ks)=mn_DM_r:=by kernel_rfl
def mn_DM_b:Bind:=⟨[(500,zTM20_0),(502,(.var 502)),(503,(.var 503)),(507,(.var 507)),(508,(.var 508)),(510,(.var 510)),(511,(.var 511)),(512,(.var 512)),(513,(.var 513)),(514,(.var 514)),(515,(.var 515)),(516,(.var 516)),(517,(.var 517)),(518,(.var 518)),(519,(.var 519)),(520,(.var 520)),(521,(.var 521)),(522,(.var 522)),(523,(.var 523)),(524,(.var 524)),(525,(.var 525)),(526,(.var 526)),(527,(.var 527)),(528,(.var 528)),(529,(.var 529)),(531,(.var 531))],zTM20_58,[],[(504,(.len 2),zTM20_60),(505,(.len 505),zTM20_34),(506,(.len 473),zTM20_63),(509,(.len 509),zTM20_43)]⟩
theorem mn_DM_ok:okS 0 500 mn_DM_b [] mn_S2 mn_DM_s=true:=by kernel_rfl
theorem mn_DM_g:mn_DM_b.ge 500=true:=by kernel_rfl
theorem mn_DM_step {ρ ρ1:Rho} (hd:mn_S2.den ρ=mn_S2.den ρ1) (cok:CfgOk Try.prog ρ1 (cfgL ksQ lpDn)) (hl:LpsOk Try.prog ρ1 Try.f4.ntmps ([]) mn_c) (hk:Facts.ok ρ1 ((inM,false)::(.lt (.lit 0) (.var 503),false)::(.lt (.var 503) (.lit 0),false)::(.var 530,true)::(.eq (.var 531) (.lit 0),true)::dzF++(mnF++lnT))) (h0:((.and (.not (.lt (.len 505) (.op .padd .i64 (.var 502) (.var 503)))) (.and (.not (.lt (.var 507) (.lit 0))) (.and (.not (.lt (.var 508) (.lit 0))) (.not (.lt (.len 509) (.op .padd .i64 (.var 507) (.var 508))))))):BE).den ρ1=true):StepF Try.prog Try.f4.ntmps mn_c 0 mn_S2 mn_S2 ρ (mn_DM_b.ap ρ1) :=
 fam_goU mn_fits hd cok hl hk mn_DM_run (sel_need h0 rfl) mn_DM_ok
theorem mn_DM_500:lassoc 500 mn_DM_b.i=some (.op .add .i64 (.var 500) (.lit 1)):=by kernel_rfl
theorem mn_DM_502:lassoc 502 mn_DM_b.i=some (.var 502):=by kernel_rfl
theorem mn_DM_503:lassoc 503 mn_DM_b.i=some (.var 503):=by kernel_rfl
theorem mn_DM_507:lassoc 507 mn_DM_b.i=some (.var 507):=by kernel_rfl
theorem mn_DM_508:lassoc 508 mn_DM_b.i=some (.var 508):=by kernel_rfl
theorem mn_DM_510:lassoc 510 mn_DM_b.i=some (.var 510):=by kernel_rfl
theorem mn_DM_511:lassoc 511 mn_DM_b.i=some (.var 511):=by kernel_rfl
theorem mn_DM_512:lassoc 512 mn_DM_b.i=some (.var 512):=by kernel_rfl
theorem mn_DM_513:lassoc 513 mn_DM_b.i=some (.var 513):=by kernel_rfl
theorem mn_DM_514:lassoc 514 mn_DM_b.i=some (.var 514):=by kernel_rfl
theorem mn_DM_515:lassoc 515 mn_DM_b.i=some (.var 515):=by kernel_rfl
theorem mn_DM_516:lassoc 516 mn_DM_b.i=some (.var 516):=by kernel_rfl
theorem mn_DM_517:lassoc 517 mn_DM_b.i=some (.var 517):=by kernel_rfl
theorem mn_DM_518:lassoc 518 mn_DM_b.i=some (.var 518):=by kernel_rfl
theorem mn_DM_519:lassoc 519 mn_DM_b.i=some (.var 519):=by kernel_rfl
theorem mn_DM_520:lassoc 520 mn_DM_b.i=some (.var 520):=by kernel_rfl
theorem mn_DM_521:lassoc 521 mn_DM_b.i=some (.var 521):=by kernel_rfl
theorem mn_DM_522:lassoc 522 mn_DM_b.i=some (.var 522):=by kernel_rfl
theorem mn_DM_523:lassoc 523 mn_DM_b.i=some (.var 523):=by kernel_rfl
theorem mn_DM_524:lassoc 524 mn_DM_b.i=some (.var 524):=by kernel_rfl
theorem mn_DM_525:lassoc 525 mn_DM_b.i=some (.var 525):=by kernel_rfl
theorem mn_DM_526:lassoc 526 mn_DM_b.i=some (.var 526):=by kernel_rfl
theorem mn_DM_527:lassoc 527 mn_DM_b.i=some (.var 527):=by kernel_rfl
theorem mn_DM_528:lassoc 528 mn_DM_b.i=some (.var 528):=by kernel_rfl
theorem mn_DM_529:lassoc 529 mn_DM_b.i=some (.var 529):=by kernel_rfl
theorem mn_DM_531:lassoc 531 mn_DM_b.i=some (.var 531):=by kernel_rfl
theorem mn_DM_r504:lassoc 504 mn_DM_b.r=some ((.len 2),(.var 504 [(.i .i64),.b,(.i .i64),(.i .i64),(.i .i64),(.i .i64),(.i .i64),(.i .i64),.s,.s,.b,(.i .i64),(.i .i64),(.i .i64),(.i .i64),(.i .i64),(.i .i64),(.i .i64),(.i .i64),(.i .i64),(.i .i64),(.i .i64),(.i .i64),(.i .i64),(.i .i64)])):=by kernel_rfl
theorem mn_DM_r505:lassoc 505 mn_DM_b.r=some ((.len 505),(.var 505 [(.i .i64)])):=by kernel_rfl
theorem mn_DM_r506:lassoc 506 mn_DM_b.r=some ((.len 473),(.var 506 [(.i .i64),.b,(.i .i64),(.i .i64),(.i .i64),(.i .i64),(.i .i64),(.i .i64),.s,.s,.b,(.i .i64),(.i .i64),(.i .i64),(.i .i64),(.i .i64),(.i .i64),(.i .i64),(.i .i64),(.i .i64),(.i .i64),(.i .i64),(.i .i64),(.i .i64),(.i .i64)])):=by kernel_rfl
theorem mn_DM_r509:lassoc 509 mn_DM_b.r=some ((.len 509),(.var 509 [(.i .i64)])):=by kernel_rfl
def mn_DJ_s:XS:=⟨zTM20_16,[((19,0),zTM20_59),((19,1),zTM20_32),((19,2),zTM20_61),((19,3),zTM20_35),((28,0),zTM20_76),((28,1),zTM20_41),((28,2),zTM20_64),((69,0),zTM20_66),((77,0),zTM20_66),((81,0),zTM20_74),((130,0),zTM20_75)],233⟩
def mn_DJ_r:T (XE×XS):=(.need (.not (.lt (.len 505) (.op .padd .i64 (.var 502) (.var 503)))) (.ret (.normal,mn_DJ_s)))
theorem mn_DJ_run:(codeX (cfgL ksQ lpDm).ti (callS ⟨(cfgL ksQ lpDm),l_able,[20009,20,33,37,58,10010,10011,10013,10014,10023,10021,20025]⟩ 12) (((cfgL ksQ lpDm).ft 4).elim [] (·.ms)) 0 ([]) 1000 mn_c ((inM,true)::(.lt (.lit 0) (.var 503),false)::(.lt (.var 503) (.lit 0),false)::(.var 530,true)::(.eq (.var 531) (.lit 0),true)::dzF++(mnF++lnT)) mn_S3).map (sqz mn_ks)=mn_DJ_r:=by kernel_rfl
def mn_DJ_b:Bind:=⟨[(500,zTM20_0),(502,(.var 502)),(503,(.var 503)),(510,(.var 510)),(511,(.var 511)),(512,(.var 512)),(513,(.var 513)),(514,(.var 514)),(515,(.var 515)),(516,(.var 516)),(517,(.var 517)),(518,(.var 518)),(519,(.var 519)),(520,(.var 520)),(521,(.var 521)),(522,(.var 522)),(523,(.var 523)),(524,(.var 524)),(525,(.var 525)),(526,(.var 526)),(527,(.var 527)),(528,(.var 528)),(529,(.var 529)),(531,(.var 531))],zTM20_58,[],[(504,(.len 2),zTM20_60),(505,(.len 505),zTM20_34),(506,(.len 473),zTM20_63)]⟩
theorem mn_DJ_ok:okS 0 500 mn_DJ_b [] mn_S3 mn_DJ_s=true:=by kernel_rfl
theorem mn_DJ_g:mn_DJ_b.ge 500=true:=by kernel_rfl
theorem mn_DJ_step {ρ ρ1:Rho} (hd:mn_S3.den ρ=mn_S3.den ρ1) (cok:CfgOk Try.prog ρ1 (cfgL ksQ lpDm)) (hl:LpsOk Try.prog ρ1 Try.f4.ntmps ([]) mn_c) (hk:Facts.ok ρ1 ((inM,true)::(.lt (.lit 0) (.var 503),false)::(.lt (.var 503) (.lit 0),false)::(.var 530,true)::(.eq (.var 531) (.lit 0),true)::dzF++(mnF++lnT))) (h0:((.not (.lt (.len 505) (.op .padd .i64 (.var 502) (.var 503)))):BE).den ρ1=true):StepF Try.prog Try.f4.ntmps mn_c 0 mn_S3 mn_S3 ρ (mn_DJ_b.ap ρ1) :=
 fam_goU mn_fits hd cok hl hk mn_DJ_run (sel_need h0 rfl) mn_DJ_ok
theorem mn_DJ_500:lassoc 500 mn_DJ_b.i=some (.op .add .i64 (.var 500) (.lit 1)):=by kernel_rfl
theorem mn_DJ_502:lassoc 502 mn_DJ_b.i=some (.var 502):=by kernel_rfl
theorem mn_DJ_503:lassoc 503 mn_DJ_b.i=some (.var 503):=by kernel_rfl
theorem mn_DJ_510:lassoc 510 mn_DJ_b.i=some (.var 510):=by kernel_rfl
theorem mn_DJ_511:lassoc 511 mn_DJ_b.i=some (.var 511):=by kernel_rfl
theorem mn_DJ_512:lassoc 512 mn_DJ_b.i=some (.var 512):=by kernel_rfl
theorem mn_DJ_513:lassoc 513 mn_DJ_b.i=some (.var 513):=by kernel_rfl
theorem mn_DJ_514:lassoc 514 mn_DJ_b.i=some (.var 514):=by kernel_rfl
theorem mn_DJ_515:lassoc 515 mn_DJ_b.i=some (.var 515):=by kernel_rfl
theorem mn_DJ_516:lassoc 516 mn_DJ_b.i=some (.var 516):=by kernel_rfl
theorem mn_DJ_517:lassoc 517 mn_DJ_b.i=some (.var 517):=by kernel_rfl
theorem mn_DJ_518:lassoc 518 mn_DJ_b.i=some (.var 518):=by kernel_rfl
theorem mn_DJ_519:lassoc 519 mn_DJ_b.i=some (.var 519):=by kernel_rfl
theorem mn_DJ_520:lassoc 520 mn_DJ_b.i=some (.var 520):=by kernel_rfl
theorem mn_DJ_521:lassoc 521 mn_DJ_b.i=some (.var 521):=by kernel_rfl
theorem mn_DJ_522:lassoc 522 mn_DJ_b.i=some (.var 522):=by kernel_rfl
theorem mn_DJ_523:lassoc 523 mn_DJ_b.i=some (.var 523):=by kernel_rfl
theorem mn_DJ_524:lassoc 524 mn_DJ_b.i=some (.var 524):=by kernel_rfl
theorem mn_DJ_525:lassoc 525 mn_DJ_b.i=some (.var 525):=by kernel_rfl
theorem mn_DJ_526:lassoc 526 mn_DJ_b.i=some (.var 526):=by kernel_rfl
theorem mn_DJ_527:lassoc 527 mn_DJ_b.i=some (.var 527):=by kernel_rfl
theorem mn_DJ_528:lassoc 528 mn_DJ_b.i=some (.var 528):=by kernel_rfl
theorem mn_DJ_529:lassoc 529 mn_DJ_b.i=some (.var 529):=by kernel_rfl
theorem mn_DJ_531:lassoc 531 mn_DJ_b.i=some (.var 531):=by kernel_rfl
theorem mn_DJ_r504:lassoc 504 mn_DJ_b.r=some ((.len 2),(.var 504 [(.i .i64),.b,(.i .i64),(.i .i64),(.i .i64),(.i .i64),(.i .i64),(.i .i64),.s,.s,.b,(.i .i64),(.i .i64),(.i .i64),(.i .i64),(.i .i64),(.i .i64),(.i .i64),(.i .i64),(.i .i64),(.i .i64),(.i .i64),(.i .i64),(.i .i64),(.i .i64)])):=by kernel_rfl
theorem mn_DJ_r505:lassoc 505 mn_DJ_b.r=some ((.len 505),(.var 505 [(.i .i64)])):=by kernel_rfl
theorem mn_DJ_r506:lassoc 506 mn_DJ_b.r=some ((.len 473),(.var 506 [(.i .i64),.b,(.i .i64),(.i .i64),(.i .i64),(.i .i64),(.i .i64),(.i .i64),.s,.s,.b,(.i .i64),(.i .i64),(.i .i64),(.i .i64),(.i .i64),(.i .i64),(.i .i64),(.i .i64),(.i .i64),(.i .i64),(.i .i64),(.i .i64),(.i .i64),(.i .i64)])):=by kernel_rfl
def mn_DN_s:XS:=⟨zTM20_16,[((19,0),zTM20_59),((19,1),zTM20_32),((19,2),zTM20_61),((19,3),zTM20_35),((28,0),zTM20_76),((28,1),zTM20_41),((28,2),zTM20_64),((69,0),zTM20_66),((77,0),zTM20_66),((81,0),zTM20_74),((130,0),zTM20_75)],233⟩
def mn_DN_r:T (XE×XS):=(.need (.not (.lt (.len 505) (.op .padd .i64 (.var 502) (.var 503)))) (.ret (.normal,mn_DN_s)))
theorem mn_DN_run:(codeX (cfgL ksQ lpDm).ti (callS ⟨(cfgL ksQ lpDm),l_able,[20009,20,33,37,58,10010,10011,10013,10014,10023,10021,20025]⟩ 12) (((cfgL ksQ lpDm).ft 4).elim [] (·.ms)) 0 ([]) 1000 mn_c ((inM,false)::(.lt (.lit 0) (.var 503),false)::(.lt (.var 503) (.lit 0),false)::(.var 530,true)::(.eq (.var 531) (.lit 0),true)::dzF++(mnF++lnT)) mn_S3).map (sqz mn_ks)=mn_DN_r:=by kernel_rfl
def mn_DN_b:Bind:=⟨[(500,zTM20_0),(502,(.var 502)),(503,(.var 503)),(510,(.var 510)),(511,(.var 511)),(512,(.var 512)),(513,(.var 513)),(514,(.var 514)),(515,(.var 515)),(516,(.var 516)),(517,(.var 517)),(518,(.var 518)),(519,(.var 519)),(520,(.var 520)),(521,(.var 521)),(522,(.var 522)),(523,(.var 523)),(524,(.var 524)),(525,(.var 525)),(526,(.var 526)),(527,(.var 527)),(528,(.var 528)),(529,(.var 529)),(531,(.var 531))],zTM20_58,[],[(504,(.len 2),zTM20_60),(505,(.len 505),zTM20_34),(506,(.len 473),zTM20_63)]⟩
theorem mn_DN_ok:okS 0 500 mn_DN_b [] mn_S3 mn_DN_s=true:=by kernel_rfl
theorem mn_DN_g:mn_DN_b.ge 500=true:=by kernel_rfl
theorem mn_DN_step {ρ ρ1:Rho} (hd:mn_S3.den ρ=mn_S3.den ρ1) (cok:CfgOk Try.prog ρ1 (cfgL ksQ lpDm)) (hl:LpsOk Try.prog ρ1 Try.f4.ntmps ([]) mn_c) (hk:Facts.ok ρ1 ((inM,false)::(.lt (.lit 0) (.var 503),false)::(.lt (.var 503) (.lit 0),false)::(.var 530,true)::(.eq (.var 531) (.lit 0),true)::dzF++(mnF++lnT))) (h0:((.not (.lt (.len 505) (.op .padd .i64 (.var 502) (.var 503)))):BE).den ρ1=true):StepF Try.prog Try.f4.ntmps mn_c 0 mn_S3 mn_S3 ρ (mn_DN_b.ap ρ1) :=
 fam_goU mn_fits hd cok hl hk mn_DN_run (sel_need h0 rfl) mn_DN_ok
theorem mn_DN_500:lassoc 500 mn_DN_b.i=some (.op .add .i64 (.var 500) (.lit 1)):=by kernel_rfl
theorem mn_DN_502:lassoc 502 mn_DN_b.i=some (.var 502):=by kernel_rfl
theorem mn_DN_503:lassoc 503 mn_DN_b.i=some (.var 503):=by kernel_rfl
theorem mn_DN_510:lassoc 510 mn_DN_b.i=some (.var 510):=by kernel_rfl
theorem mn_DN_511:lassoc 511 mn_DN_b.i=some (.var 511):=by kernel_rfl
theorem mn_DN_512:lassoc 512 mn_DN_b.i=some (.var 512):=by kernel_rfl
theorem mn_DN_513:lassoc 513 mn_DN_b.i=some (.var 513):=by kernel_rfl
theorem mn_DN_514:lassoc 514 mn_DN_b.i=some (.var 514):=by kernel_rfl
theorem mn_DN_515:lassoc 515 mn_DN_b.i=some (.var 515):=by kernel_rfl
theorem mn_DN_516:lassoc 516 mn_DN_b.i=some (.var 516):=by kernel_rfl
theorem mn_DN_517:lassoc 517 mn_DN_b.i=some (.var 517):=by kernel_rfl
theorem mn_DN_518:lassoc 518 mn_DN_b.i=some (.var 518):=by kernel_rfl
theorem mn_DN_519:lassoc 519 mn_DN_b.i=some (.var 519):=by kernel_rfl
theorem mn_DN_520:lassoc 520 mn_DN_b.i=some (.var 520):=by kernel_rfl
theorem mn_DN_521:lassoc 521 mn_DN_b.i=some (.var 521):=by kernel_rfl
theorem mn_DN_522:lassoc 522 mn_DN_b.i=some (.var 522):=by kernel_rfl
theorem mn_DN_523:lassoc 523 mn_DN_b.i=some (.var 523):=by kernel_rfl
theorem mn_DN_524:lassoc 524 mn_DN_b.i=some (.var 524):=by kernel_rfl
theorem mn_DN_525:lassoc 525 mn_DN_b.i=some (.var 525):=by kernel_rfl
theorem mn_DN_526:lassoc 526 mn_DN_b.i=some (.var 526):=by kernel_rfl
theorem mn_DN_527:lassoc 527 mn_DN_b.i=some (.var 527):=by kernel_rfl
theorem mn_DN_528:lassoc 528 mn_DN_b.i=some (.var 528):=by kernel_rfl
theorem mn_DN_529:lassoc 529 mn_DN_b.i=some (.var 529):=by kernel_rfl
theorem mn_DN_531:lassoc 531 mn_DN_b.i=some (.var 531):=by kernel_rfl
theorem mn_DN_r504:lassoc 504 mn_DN_b.r=some ((.len 2),(.var 504 [(.i .i64),.b,(.i .i64),(.i .i64),(.i .i64),(.i .i64),(.i .i64),(.i .i64),.s,.s,.b,(.i .i64),(.i .i64),(.i .i64),(.i .i64),(.i .i64),(.i .i64),(.i .i64),(.i .i64),(.i .i64),(.i .i64),(.i .i64),(.i .i64),(.i .i64),(.i .i64)])):=by kernel_rfl
theorem mn_DN_r505:lassoc 505 mn_DN_b.r=some ((.len 505),(.var 505 [(.i .i64)])):=by kernel_rfl
theorem mn_DN_r506:lassoc 506 mn_DN_b.r=some ((.len 473),(.var 506 [(.i .i64),.b,(.i .i64),(.i .i64),(.i .i64),(.i .i64),(.i .i64),(.i .i64),.s,.s,.b,(.i .i64),(.i .i64),(.i .i64),(.i .i64),(.i .i64),(.i .i64),(.i .i64),(.i .i64),(.i .i64),(.i .i64),(.i .i64),(.i .i64),(.i .i64),(.i .i64)])):=by kernel_rfl
def mn_ZI_s:XS:=⟨zTM20_16,[((19,0),zTM20_77),((19,1),zTM20_32),((19,2),zTM20_61),((28,0),zTM20_62),((28,1),zTM20_41),((28,2),zTM20_64),((28,3),zTM20_44),((69,0),zTM20_66),((77,0),zTM20_66)],161⟩
def mn_ZI_r:T (XE×XS):=(.need (.and (.not (.lt (.var 507) (.lit 0))) (.and (.not (.lt (.var 508) (.lit 0))) (.not (.lt (.len 509) (.op .padd .i64 (.var 507) (.var 508)))))) (.ret (.normal,mn_ZI_s)))
theorem mn_ZI_run:(codeX (cfgL [] (fun _=>[])).ti (callS ⟨(cfgL [] (fun _=>[])),l_able,[20009,20,33,37,58,10010,10011,10013,10014,10023,10021,20025]⟩ 12) (((cfgL [] (fun _=>[])).ft 4).elim [] (·.ms)) 0 ([]) 1000 mn_c ((inM,true)::(.var 530,true)::(.eq (.var 532) (.lit 60),true)::(.eq (.var 531) (.lit 60),true)::mnF) mn_S1).map (sqz mn_ks)=mn_ZI_r:=by kernel_rfl
def mn_ZI_b:Bind:=⟨[(500,zTM20_0),(507,(.var 507)),(508,(.var 508)),(510,(.var 510)),(511,(.var 511)),(512,(.var 512)),(513,(.var 513)),(514,(.var 514)),(515,(.var 515)),(516,(.var 516)),(517,(.var 517)),(518,(.var 518)),(519,(.var 519)),(520,(.var 520)),(521,(.var 521)),(522,(.var 522)),(523,(.var 523)),(524,(.var 524)),(525,(.var 525)),(526,(.var 526)),(527,(.var 527)),(528,(.var 528)),(529,(.var 529)),(531,(.var 531)),(532,(.var 532))],zTM20_58,[],[(504,(.len 2),zTM20_60),(506,(.len 473),zTM20_63),(509,(.len 509),zTM20_43)]⟩
theorem mn_ZI_ok:okS 0 500 mn_ZI_b [] mn_S1 mn_ZI_s=true:=by kernel_rfl
theorem mn_ZI_g:mn_ZI_b.ge 500=true:=by kernel_rfl
theorem mn_ZI_step {ρ ρ1:Rho} (hd:mn_S1.den ρ=mn_S1.den ρ1) (cok:CfgOk Try.prog ρ1 (cfgL [] (fun _=>[]))) (hl:LpsOk Try.prog ρ1 Try.f4.ntmps ([]) mn_c) (hk:Facts.ok ρ1 ((inM,true)::(.var 530,true)::(.eq (.var 532) (.lit 60),true)::(.eq (.var 531) (.lit 60),true)::mnF)) (h0:((.and (.not (.lt (.var 507) (.lit 0))) (.and (.not (.lt (.var 508) (.lit 0))) (.not (.lt (.len 509) (.op .padd .i64 (.var 507) (.var 508)))))):BE).den ρ1=true):StepF Try.prog Try.f4.ntmps mn_c 0 mn_S1 mn_S1 ρ (mn_ZI_b.ap ρ1) :=
 fam_goU mn_fits hd cok hl hk mn_ZI_run (sel_need h0 rfl) mn_ZI_ok
theorem mn_ZI_500:lassoc 500 mn_ZI_b.i=some (.op .add .i64 (.var 500) (.lit 1)):=by kernel_rfl
theorem mn_ZI_507:lassoc 507 mn_ZI_b.i=some (.var 507):=by kernel_rfl
theorem mn_ZI_508:lassoc 508 mn_ZI_b.i=some (.var 508):=by kernel_rfl
theorem mn_ZI_510:lassoc 510 mn_ZI_b.i=some (.var 510):=by kernel_rfl
theorem mn_ZI_511:lassoc 511 mn_ZI_b.i=some (.var 511):=by kernel_rfl
theorem mn_ZI_512:lassoc 512 mn_ZI_b.i=some (.var 512):=by kernel_rfl
theorem mn_ZI_513:lassoc 513 mn_ZI_b.i=some (.var 513):=by kernel_rfl
theorem mn_ZI_514:lassoc 514 mn_ZI_b.i=some (.var 514):=by kernel_rfl
theorem mn_ZI_515:lassoc 515 mn_ZI_b.i=some (.var 515):=by kernel_rfl
theorem mn_ZI_516:lassoc 516 mn_ZI_b.i=some (.var 516):=by kernel_rfl
theorem mn_ZI_517:lassoc 517 mn_ZI_b.i=some (.var 517):=by kernel_rfl
theorem mn_ZI_518:lassoc 518 mn_ZI_b.i=some (.var 518):=by kernel_rfl
theorem mn_ZI_519:lassoc 519 mn_ZI_b.i=some (.var 519):=by kernel_rfl
theorem mn_ZI_520:lassoc 520 mn_ZI_b.i=some (.var 520):=by kernel_rfl
theorem mn_ZI_521:lassoc 521 mn_ZI_b.i=some (.var 521):=by kernel_rfl
theorem mn_ZI_522:lassoc 522 mn_ZI_b.i=some (.var 522):=by kernel_rfl
theorem mn_ZI_523:lassoc 523 mn_ZI_b.i=some (.var 523):=by kernel_rfl
theorem mn_ZI_524:lassoc 524 mn_ZI_b.i=some (.var 524):=by kernel_rfl
theorem mn_ZI_525:lassoc 525 mn_ZI_b.i=some (.var 525):=by kernel_rfl
theorem mn_ZI_526:lassoc 526 mn_ZI_b.i=some (.var 526):=by kernel_rfl
theorem mn_ZI_527:lassoc 527 mn_ZI_b.i=some (.var 527):=by kernel_rfl
theorem mn_ZI_528:lassoc 528 mn_ZI_b.i=some (.var 528):=by kernel_rfl
theorem mn_ZI_529:lassoc 529 mn_ZI_b.i=some (.var 529):=by kernel_rfl
theorem mn_ZI_531:lassoc 531 mn_ZI_b.i=some (.var 531):=by kernel_rfl
theorem mn_ZI_532:lassoc 532 mn_ZI_b.i=some (.var 532):=by kernel_rfl
theorem mn_ZI_r504:lassoc 504 mn_ZI_b.r=some ((.len 2),(.var 504 [(.i .i64),.b,(.i .i64),(.i .i64),(.i .i64),(.i .i64),(.i .i64),(.i .i64),.s,.s,.b,(.i .i64),(.i .i64),(.i .i64),(.i .i64),(.i .i64),(.i .i64),(.i .i64),(.i .i64),(.i .i64),(.i .i64),(.i .i64),(.i .i64),(.i .i64),(.i .i64)])):=by kernel_rfl
theorem mn_ZI_r506:lassoc 506 mn_ZI_b.r=some ((.len 473),(.var 506 [(.i .i64),.b,(.i .i64),(.i .i64),(.i .i64),(.i .i64),(.i .i64),(.i .i64),.s,.s,.b,(.i .i64),(.i .i64),(.i .i64),(.i .i64),(.i .i64),(.i .i64),(.i .i64),(.i .i64),(.i .i64),(.i .i64),(.i .i64),(.i .i64),(.i .i64),(.i .i64)])):=by kernel_rfl
theorem mn_ZI_r509:lassoc 509 mn_ZI_b.r=some ((.len 509),(.var 509 [(.i .i64)])):=by kernel_rfl
def mn_ZM_s:XS:=⟨zTM20_16,[((19,0),zTM20_77),((19,1),zTM20_32),((19,2),zTM20_61),((28,0),zTM20_62),((28,1),zTM20_41),((28,2),zTM20_64),((28,3),zTM20_44),((69,0),zTM20_66),((77,0),zTM20_66)],161⟩
def mn_ZM_r:T (XE×XS):=(.need (.and (.not (.lt (.var 507) (.lit 0))) (.and (.not (.lt (.var 508) (.lit 0))) (.not (.lt (.len 509) (.op .padd .i64 (.var 507) (.var 508)))))) (.ret (.normal,mn_ZM_s)))
theorem mn_ZM_run:(codeX (cfgL [] (fun _=>[])).ti (callS ⟨(cfgL [] (fun _=>[])),l_able,[20009,20,33,37,58,10010,10011,10013,10014,10023,10021,20025]⟩ 12) (((cfgL [] (fun _=>[])).ft 4).elim [] (·.ms)) 0 ([]) 1000 mn_c ((inM,false)::(.var 530,true)::(.eq (.var 532) (.lit 60),true)::(.eq (.var 531) (.lit 60),true)::mnF) mn_S1).map (sqz mn_ks)=mn_ZM_r:=by kernel_rfl
def mn_ZM_b:Bind:=⟨[(500,zTM20_0),(507,(.var 507)),(508,(.var 508)),(510,(.var 510)),(511,(.var 511)),(512,(.var 512)),(513,(.var 513)),(514,(.var 514)),(515,(.var 515)),(516,(.var 516)),(517,(.var 517)),(518,(.var 518)),(519,(.var 519)),(520,(.var 520)),(521,(.var 521)),(522,(.var 522)),(523,(.var 523)),(524,(.var 524)),(525,(.var 525)),(526,(.var 526)),(527,(.var 527)),(528,(.var 528)),(529,(.var 529)),(531,(.var 531)),(532,(.var 532))],zTM20_58,[],[(504,(.len 2),zTM20_60),(506,(.len 473),zTM20_63),(509,(.len 509),zTM20_43)]⟩
theorem mn_ZM_ok:okS 0 500 mn_ZM_b [] mn_S1 mn_ZM_s=true:=by kernel_rfl
theorem mn_ZM_g:mn_ZM_b.ge 500=true:=by kernel_rfl
theorem mn_ZM_step {ρ ρ1:Rho} (hd:mn_S1.den ρ=mn_S1.den ρ1) (cok:CfgOk Try.prog ρ1 (cfgL [] (fun _=>[]))) (hl:LpsOk Try.prog ρ1 Try.f4.ntmps ([]) mn_c) (hk:Facts.ok ρ1 ((inM,false)::(.var 530,true)::(.eq (.var 532) (.lit 60),true)::(.eq (.var 531) (.lit 60),true)::mnF)) (h0:((.and (.not (.lt (.var 507) (.lit 0))) (.and (.not (.lt (.var 508) (.lit 0))) (.not (.lt (.len 509) (.op .padd .i64 (.var 507) (.var 508)))))):BE).den ρ1=true):StepF Try.prog Try.f4.ntmps mn_c 0 mn_S1 mn_S1 ρ (mn_ZM_b.ap ρ1) :=
 fam_goU mn_fits hd cok hl hk mn_ZM_run (sel_need h0 rfl) mn_ZM_ok
theorem mn_ZM_500:lassoc 500 mn_ZM_b.i=some (.op .add .i64 (.var 500) (.lit 1)):=by kernel_rfl
theorem mn_ZM_507:lassoc 507 mn_ZM_b.i=some (.var 507):=by kernel_rfl
theorem mn_ZM_508:lassoc 508 mn_ZM_b.i=some (.var 508):=by kernel_rfl
theorem mn_ZM_510:lassoc 510 mn_ZM_b.i=some (.var 510):=by kernel_rfl
theorem mn_ZM_511:lassoc 511 mn_ZM_b.i=some (.var 511):=by kernel_rfl
theorem mn_ZM_512:lassoc 512 mn_ZM_b.i=some (.var 512):=by kernel_rfl
theorem mn_ZM_513:lassoc 513 mn_ZM_b.i=some (.var 513):=by kernel_rfl
theorem mn_ZM_514:lassoc 514 mn_ZM_b.i=some (.var 514):=by kernel_rfl
theorem mn_ZM_515:lassoc 515 mn_ZM_b.i=some (.var 515):=by kernel_rfl
theorem mn_ZM_516:lassoc 516 mn_ZM_b.i=some (.var 516):=by kernel_rfl
theorem mn_ZM_517:lassoc 517 mn_ZM_b.i=some (.var 517):=by kernel_rfl
theorem mn_ZM_518:lassoc 518 mn_ZM_b.i=some (.var 518):=by kernel_rfl
theorem mn_ZM_519:lassoc 519 mn_ZM_b.i=some (.var 519):=by kernel_rfl
theorem mn_ZM_520:lassoc 520 mn_ZM_b.i=some (.var 520):=by kernel_rfl
theorem mn_ZM_521:lassoc 521 mn_ZM_b.i=some (.var 521):=by kernel_rfl
theorem mn_ZM_522:lassoc 522 mn_ZM_b.i=some (.var 522):=by kernel_rfl
theorem mn_ZM_523:lassoc 523 mn_ZM_b.i=some (.var 523):=by kernel_rfl
theorem mn_ZM_524:lassoc 524 mn_ZM_b.i=some (.var 524):=by kernel_rfl
theorem mn_ZM_525:lassoc 525 mn_ZM_b.i=some (.var 525):=by kernel_rfl
theorem mn_ZM_526:lassoc 526 mn_ZM_b.i=some (.var 526):=by kernel_rfl
theorem mn_ZM_527:lassoc 527 mn_ZM_b.i=some (.var 527):=by kernel_rfl
theorem mn_ZM_528:lassoc 528 mn_ZM_b.i=some (.var 528):=by kernel_rfl
theorem mn_ZM_529:lassoc 529 mn_ZM_b.i=some (.var 529):=by kernel_rfl
theorem mn_ZM_531:lassoc 531 mn_ZM_b.i=some (.var 531):=by kernel_rfl
theorem mn_ZM_532:lassoc 532 mn_ZM_b.i=some (.var 532):=by kernel_rfl
theorem mn_ZM_r504:lassoc 504 mn_ZM_b.r=some ((.len 2),(.var 504 [(.i .i64),.b,(.i .i64),(.i .i64),(.i .i64),(.i .i64),(.i .i64),(.i .i64),.s,.s,.b,(.i .i64),(.i .i64),(.i .i64),(.i .i64),(.i .i64),(.i .i64),(.i .i64),(.i .i64),(.i .i64),(.i .i64),(.i .i64),(.i .i64),(.i .i64),(.i .i64)])):=by kernel_rfl
theorem mn_ZM_r506:lassoc 506 mn_ZM_b.r=some ((.len 473),(.var 506 [(.i .i64),.b,(.i .i64),(.i .i64),(.i .i64),(.i .i64),(.i .i64),(.i .i64),.s,.s,.b,(.i .i64),(.i .i64),(.i .i64),(.i .i64),(.i .i64),(.i .i64),(.i .i64),(.i .i64),(.i .i64),(.i .i64),(.i .i64),(.i .i64),(.i .i64),(.i .i64)])):=by kernel_rfl
theorem mn_ZM_r509:lassoc 509 mn_ZM_b.r=some ((.len 509),(.var 509 [(.i .i64)])):=by kernel_rfl
def mn_X0_s:XS:=⟨zTM20_78,zTM20_79,64⟩
def mn_X0_r:T (XE×XS):=(.ret ((.exit 2),mn_X0_s))
theorem mn_X0_run:(codeX (cfgL [] (fun _=>[])).ti (callS ⟨(cfgL [] (fun _=>[])),l_able,[20009,20,33,37,58,10010,10011,10013,10014,10023,10021,20025]⟩ 12) (((cfgL [] (fun _=>[])).ft 4).elim [] (·.ms)) 0 ([]) 1000 mn_c ([(.lt (.len 3) (.var 500),true)]) mn_S0).map (sqz mn_ks)=mn_X0_r:=by kernel_rfl
def mn_X1_s:XS:=⟨zTM20_78,[((19,0),zTM20_77),((19,1),zTM20_32),((19,2),zTM20_61),((28,0),zTM20_62),((28,1),zTM20_41),((28,2),zTM20_64),((28,3),zTM20_44)],64⟩
def mn_X1_r:T (XE×XS):=(.ret ((.exit 2),mn_X1_s))
theorem mn_X1_run:(codeX (cfgL [] (fun _=>[])).ti (callS ⟨(cfgL [] (fun _=>[])),l_able,[20009,20,33,37,58,10010,10011,10013,10014,10023,10021,20025]⟩ 12) (((cfgL [] (fun _=>[])).ft 4).elim [] (·.ms)) 0 ([]) 1000 mn_c ([(.lt (.len 3) (.var 500),true)]) mn_S1).map (sqz mn_ks)=mn_X1_r:=by kernel_rfl
def mn_X2_s:XS:=⟨zTM20_78,zTM20_79,64⟩
def mn_X2_r:T (XE×XS):=(.ret ((.exit 2),mn_X2_s))
theorem mn_X2_run:(codeX (cfgL [] (fun _=>[])).ti (callS ⟨(cfgL [] (fun _=>[])),l_able,[20009,20,33,37,58,10010,10011,10013,10014,10023,10021,20025]⟩ 12) (((cfgL [] (fun _=>[])).ft 4).elim [] (·.ms)) 0 ([]) 1000 mn_c ([(.lt (.len 3) (.var 500),true)]) mn_S2).map (sqz mn_ks)=mn_X2_r:=by kernel_rfl
def mn_X2_w:XS:=⟨zTM20_78,zTM20_79,127⟩
def mn_X3_s:XS:=⟨zTM20_78,zTM20_80,64⟩
def mn_X3_r:T (XE×XS):=(.ret ((.exit 2),mn_X3_s))
theorem mn_X3_run:(codeX (cfgL [] (fun _=>[])).ti (callS ⟨(cfgL [] (fun _=>[])),l_able,[20009,20,33,37,58,10010,10011,10013,10014,10023,10021,20025]⟩ 12) (((cfgL [] (fun _=>[])).ft 4).elim [] (·.ms)) 0 ([]) 1000 mn_c ([(.lt (.len 3) (.var 500),true)]) mn_S3).map (sqz mn_ks)=mn_X3_r:=by kernel_rfl
def mn_X3_w:XS:=⟨zTM20_78,zTM20_80,127⟩
def mn_out:T (XE×XS):=(.br (.var 533) (.ret ((.exit 2),mn_X0_s)) (.br (.var 534) (.ret ((.exit 2),mn_X1_s)) (.br (.var 535) (.ret ((.exit 2),mn_X2_w)) (.ret ((.exit 2),mn_X3_w)))))
noncomputable def mn:LoopX:=⟨((codeKey mn_c).getD 0),0,500,mn_E,noB,[],mn_out⟩
theorem mn_X0_end {ρ1:Rho} (cok:CfgOk Try.prog ρ1 (cfgL [] (fun _=>[]))) (hl:LpsOk Try.prog ρ1 Try.f4.ntmps ([]) mn_c) (hk:Facts.ok ρ1 ([(.lt (.len 3) (.var 500),true)])) (ho:mn_out.sel ρ1=some ((.exit 2),mn_X0_s)):EndL Try.prog Try.f4.ntmps mn_c 0 mn_S0 mn_out ρ1 :=
 fam_endU mn_fits cok hl hk mn_X0_run rfl (fun h=>nomatch h) ho (by kernel_rfl)
theorem mn_X1_end {ρ1:Rho} (cok:CfgOk Try.prog ρ1 (cfgL [] (fun _=>[]))) (hl:LpsOk Try.prog ρ1 Try.f4.ntmps ([]) mn_c) (hk:Facts.ok ρ1 ([(.lt (.len 3) (.var 500),true)])) (ho:mn_out.sel ρ1=some ((.exit 2),mn_X1_s)):EndL Try.prog Try.f4.ntmps mn_c 0 mn_S1 mn_out ρ1 :=
 fam_endU mn_fits cok hl hk mn_X1_run rfl (fun h=>nomatch h) ho (by kernel_rfl)
theorem mn_X2_end {ρ1:Rho} (cok:CfgOk Try.prog ρ1 (cfgL [] (fun _=>[]))) (hl:LpsOk Try.prog ρ1 Try.f4.ntmps ([]) mn_c) (hk:Facts.ok ρ1 ([(.lt (.len 3) (.var 500),true)])) (ho:mn_out.sel ρ1=some ((.exit 2),mn_X2_w)):EndL Try.prog Try.f4.ntmps mn_c 0 mn_S2 mn_out ρ1 :=
 fam_endU mn_fits cok hl hk mn_X2_run rfl (fun h=>nomatch h) ho (by kernel_rfl)
theorem mn_X3_end {ρ1:Rho} (cok:CfgOk Try.prog ρ1 (cfgL [] (fun _=>[]))) (hl:LpsOk Try.prog ρ1 Try.f4.ntmps ([]) mn_c) (hk:Facts.ok ρ1 ([(.lt (.len 3) (.var 500),true)])) (ho:mn_out.sel ρ1=some ((.exit 2),mn_X3_w)):EndL Try.prog Try.f4.ntmps mn_c 0 mn_S3 mn_out ρ1 :=
 fam_endU mn_fits cok hl hk mn_X3_run rfl (fun h=>nomatch h) ho (by kernel_rfl)
end Go.Proofs.Ytdlifdoglhhnfaa
