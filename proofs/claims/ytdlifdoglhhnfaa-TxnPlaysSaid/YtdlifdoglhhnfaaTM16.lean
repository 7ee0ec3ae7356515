/- Parts of the proof, one behind the other. -/
import Derived.Test.YtdlifdoglhhnfaaTM15
import Derived.Test.YtdlifdoglhhnfaaXwM3
namespace Go.Proofs.Ytdlifdoglhhnfaa
open Go Go.Proofs.Aw Go.Proofs.Xw
set_option maxRecDepth 100000
def r1E:Facts:=(List.range 9).map fun k=>(.eq (.var k) (.var (520+k)),true)
def inF:BE := .lt (.var 640) (.len 473)
def fdF:Facts:=[(.lt (.var 640) (.lit 0),false),(.lt (.len 2) (.lit 1),false),(.lt (.lit 6) (.len 2),false),(.eq (.len 473) (.len 2),true)]
noncomputable def fd_c:Code:=(loopsOf (Try.f26.body.getD .skip))[0]?.getD .skip
theorem fd_fits:fitsC Try.f26.ntmps fd_c=true:=by kernel_rfl
abbrev zTM16_0:X := .k (.slice none 0 0)
abbrev zTM16_1:XTp:=[(82,.top),(81,.top),(80,.top),(79,.top),(78,.top),(77,.top),(76,.top),(75,.top),(74,.top),(73,.top),(72,.top),(71,.top),(70,.top),(69,.top),(68,.top),(67,.top),(66,.top),(65,.top),(64,.top),(63,.top),(62,.top),(61,.top),(60,.top),(59,.top),(58,.top),(57,.top),(56,.top),(55,.top),(54,.top),(53,.top),(52,.top),(51,.top),(50,.top),(49,.top),(48,.top),(47,.top),(46,.top),(45,.top),(44,.top),(43,.top),(42,.top),(41,.top),(40,.top),(39,.top),(38,.top),(37,.top),(36,.top),(35,.top),(34,.top),(33,.top),(32,.top),(31,.top),(30,.top),(29,.top),(5,.top),(26,.top),(25,.top),(24,.top),(17,.top),(16,.top),(15,.top),(14,.top),(13,.top),(12,.top),(11,.top)]
abbrev zTM16_2:List X:=[(.sc (.i .i64 (.cl 3 0 (.var 500)))),(.sc (.b (.cl 3 1 (.var 500)))),(.sc (.i .i64 (.cl 3 2 (.var 500)))),(.sc (.i .i64 (.cl 3 3 (.var 500)))),(.sc (.i .i64 (.cl 3 4 (.var 500)))),(.sc (.i .i64 (.cl 3 5 (.var 500)))),(.sc (.i .i64 (.cl 3 6 (.var 500)))),(.sc (.i .i64 (.cl 3 7 (.var 500)))),(.sc (.s (.cl 3 8 (.var 500)))),(.sc (.s (.cl 3 9 (.var 500)))),(.sc (.b (.cl 3 10 (.var 500)))),(.sc (.i .i64 (.cl 3 11 (.var 500)))),(.sc (.i .i64 (.cl 3 12 (.var 500)))),(.sc (.i .i64 (.cl 3 13 (.var 500)))),(.sc (.i .i64 (.cl 3 14 (.var 500)))),(.sc (.i .i64 (.cl 3 15 (.var 500)))),(.sc (.i .i64 (.cl 3 16 (.var 500)))),(.sc (.i .i64 (.cl 3 17 (.var 500)))),(.sc (.i .i64 (.cl 3 18 (.var 500)))),(.sc (.i .i64 (.cl 3 19 (.var 500)))),(.sc (.i .i64 (.cl 3 20 (.var 500)))),(.sc (.i .i64 (.cl 3 21 (.var 500)))),(.sc (.i .i64 (.cl 3 22 (.var 500)))),(.sc (.i .i64 (.cl 3 23 (.var 500)))),(.sc (.i .i64 (.cl 3 24 (.var 500))))]
abbrev zTM16_3:XTp:=[(4,(.sc (.i .i64 (.lit 0)))),(3,.top),(0,(.ptr (28,0) [] 0)),(1,(.agg zTM16_2))]
abbrev zTM16_4:List X:=[(.sc (.i .i64 (.var 9))),(.slv (28,1) 1 (.lit 0) (.len 471) true),(.slv (28,2) 25 (.lit 0) (.len 473) true),(.slv (28,3) 1 (.op .padd .i64 (.var 507) (.lit 1)) (.op .psub .i64 (.var 508) (.lit 1)) true),(.sc (.i .i64 (.var 529))),(.sc (.i .i64 (.var 520))),(.sc (.i .i64 (.var 521))),(.sc (.i .i64 (.var 522))),(.sc (.i .i64 (.var 523))),(.sc (.i .i64 (.var 524))),(.sc (.i .i64 (.var 525))),(.sc (.i .i64 (.var 526))),(.sc (.i .i64 (.var 527))),(.sc (.i .i64 (.var 528))),(.sc (.b (.var 530))),(.sc (.i .i64 (.var 531)))]
abbrev zTM16_5:List X:=[(.rows 1 (.len 471) (.var 471 [.s]))]
abbrev zTM16_6:List Kd:=[(.i .i64),.b,(.i .i64),(.i .i64),(.i .i64),(.i .i64),(.i .i64),(.i .i64),.s,.s,.b,(.i .i64),(.i .i64),(.i .i64),(.i .i64),(.i .i64),(.i .i64),(.i .i64),(.i .i64),(.i .i64),(.i .i64),(.i .i64),(.i .i64),(.i .i64),(.i .i64)]
abbrev zTM16_7:RL := .upd (.cl 509 0 (.var 507)) [(.i .i64 (.cl 3 0 (.var 500))),(.b (.cl 3 1 (.var 500))),(.i .i64 (.cl 3 2 (.var 500))),(.i .i64 (.cl 3 3 (.var 500))),(.i .i64 (.cl 3 4 (.var 500))),(.i .i64 (.cl 3 5 (.var 500))),(.i .i64 (.cl 3 6 (.var 500))),(.i .i64 (.cl 3 7 (.var 500))),(.s (.cl 3 8 (.var 500))),(.s (.cl 3 9 (.var 500))),(.b (.cl 3 10 (.var 500))),(.i .i64 (.cl 3 11 (.var 500))),(.i .i64 (.cl 3 12 (.var 500))),(.i .i64 (.cl 3 13 (.var 500))),(.i .i64 (.cl 3 14 (.var 500))),(.i .i64 (.cl 3 15 (.var 500))),(.i .i64 (.cl 3 16 (.var 500))),(.i .i64 (.cl 3 17 (.var 500))),(.i .i64 (.cl 3 18 (.var 500))),(.i .i64 (.cl 3 19 (.var 500))),(.i .i64 (.cl 3 20 (.var 500))),(.i .i64 (.cl 3 21 (.var 500))),(.i .i64 (.cl 3 22 (.var 500))),(.i .i64 (.cl 3 23 (.var 500))),(.i .i64 (.cl 3 24 (.var 500)))] (.var 506 zTM16_6)
abbrev zTM16_8:List X:=[(.rows 1 (.len 509) (.var 509 [(.i .i64)]))]
abbrev zTM16_9:XTp:=([(7,(.sc (.i .i64 (.var 640)))),(6,zTM16_0)]++zTM16_1++zTM16_3)
abbrev zTM16_10:RL := .var 639 zTM16_6
abbrev zTM16_11:List X:=[(.rows 25 (.len 473) zTM16_10)]
abbrev zTM16_12:XHp:=[((28,0),zTM16_4),((28,1),zTM16_5),((28,2),zTM16_11),((28,3),zTM16_8)]
abbrev zTM16_13:X := .slv (230,0) 20 (.lit 0) (.len 641) true
abbrev zTM16_14:XTp:=([(7,(.sc (.i .i64 (.var 640)))),(6,zTM16_13)]++zTM16_1++zTM16_3)
abbrev zTM16_15:RL := .var 641 [(.i .i64),(.i .i64),(.i .i64),(.i .i64),(.i .i64),(.i .i64),.s,.s,.b,(.i .i64),(.i .i64),(.i .i64),(.i .i64),(.i .i64),(.i .i64),(.i .i64),(.i .i64),(.i .i64),(.i .i64),(.i .i64)]
abbrev zTM16_16:XHp:=[((28,0),zTM16_4),((28,1),zTM16_5),((28,2),zTM16_11),((28,3),zTM16_8),((230,0),[(.rows 20 (.len 641) zTM16_15)])]
abbrev zTM16_17:IE := .op .add .i64 (.var 640) (.lit 1)
abbrev zTM16_18:X := .sc (.i .i64 zTM16_17)
abbrev zTM16_19:Sc := .i .i64 (.cl 639 2 (.var 640))
abbrev zTM16_20:Sc := .i .i64 (.cl 639 3 (.var 640))
abbrev zTM16_21:Sc := .i .i64 (.cl 639 4 (.var 640))
abbrev zTM16_22:Sc := .i .i64 (.cl 639 5 (.var 640))
abbrev zTM16_23:Sc := .i .i64 (.cl 639 6 (.var 640))
abbrev zTM16_24:Sc := .i .i64 (.cl 639 7 (.var 640))
abbrev zTM16_25:Sc := .i .i64 (.cl 639 11 (.var 640))
abbrev zTM16_26:Sc := .i .i64 (.cl 639 12 (.var 640))
abbrev zTM16_27:Sc := .i .i64 (.cl 639 13 (.var 640))
abbrev zTM16_28:Sc := .i .i64 (.cl 639 14 (.var 640))
abbrev zTM16_29:Sc := .i .i64 (.cl 639 15 (.var 640))
abbrev zTM16_30:Sc := .i .i64 (.cl 639 16 (.var 640))
abbrev zTM16_31:Sc := .i .i64 (.cl 639 17 (.var 640))
abbrev zTM16_32:Sc := .i .i64 (.cl 639 18 (.var 640))
abbrev zTM16_33:Sc := .i .i64 (.cl 639 19 (.var 640))
abbrev zTM16_34:Sc := .i .i64 (.cl 639 20 (.var 640))
abbrev zTM16_35:Sc := .i .i64 (.cl 639 21 (.var 640))
abbrev zTM16_36:RL := .one [zTM16_19,zTM16_20,zTM16_21,zTM16_22,zTM16_23,zTM16_24,(.s (.cl 639 8 (.var 640))),(.s (.cl 639 9 (.var 640))),(.b (.cl 639 10 (.var 640))),zTM16_25,zTM16_26,zTM16_27,zTM16_28,zTM16_29,zTM16_30,zTM16_31,zTM16_32,zTM16_33,zTM16_34,zTM16_35]
abbrev zTM16_37:IE := .op .padd .i64 (.len 641) (.lit 1)
abbrev zTM16_38:RL := .app (.len 641) zTM16_15 zTM16_36
def fd_E:XS:=⟨([(7,(.sc (.i .i64 (.lit 0)))),(6,zTM16_0)]++zTM16_1++zTM16_3),[((28,0),zTM16_4),((28,1),zTM16_5),((28,2),[(.rows 25 (.len 473) zTM16_7)]),((28,3),zTM16_8),((156,0),zTM16_2)],227⟩
def fd_ks:List Nat:=[7,6,82,81,80,79,78,77,76,75,74,73,72,71,70,69,68,67,66,65,64,63,62,61,60,59,58,57,56,55,54,53,52,51,50,49,48,47,46,45,44,43,42,41,40,39,38,37,36,35,34,33,32,31,30,29,5,26,25,24,17,16,15,14,13,12,11,4,3,0,1]
theorem fd_Eb:fd_E.bel 639=true:=by kernel_rfl
def fd_S0:XS:=⟨zTM16_9,zTM16_12,227⟩
def fd_S1:XS:=⟨zTM16_14,zTM16_16,231⟩
def fd_I0:Bind:=⟨[(640,(.lit 0))],[],[],[(639,(.len 473),zTM16_7)]⟩
theorem fd_I0ok:okS 156 639 fd_I0 [] fd_S0 fd_E=true:=by kernel_rfl
theorem fd_I0g:fd_I0.ge 639=true:=by kernel_rfl
theorem fd_I0_640:lassoc 640 fd_I0.i=some (.lit 0):=by kernel_rfl
theorem fd_I0_r639:lassoc 639 fd_I0.r=some ((.len 473),(.upd (.cl 509 0 (.var 507)) [(.i .i64 (.cl 3 0 (.var 500))),(.b (.cl 3 1 (.var 500))),(.i .i64 (.cl 3 2 (.var 500))),(.i .i64 (.cl 3 3 (.var 500))),(.i .i64 (.cl 3 4 (.var 500))),(.i .i64 (.cl 3 5 (.var 500))),(.i .i64 (.cl 3 6 (.var 500))),(.i .i64 (.cl 3 7 (.var 500))),(.s (.cl 3 8 (.var 500))),(.s (.cl 3 9 (.var 500))),(.b (.cl 3 10 (.var 500))),(.i .i64 (.cl 3 11 (.var 500))),(.i .i64 (.cl 3 12 (.var 500))),(.i .i64 (.cl 3 13 (.var 500))),(.i .i64 (.cl 3 14 (.var 500))),(.i .i64 (.cl 3 15 (.var 500))),(.i .i64 (.cl 3 16 (.var 500))),(.i .i64 (.cl 3 17 (.var 500))),(.i .i64 (.cl 3 18 (.var 500))),(.i .i64 (.cl 3 19 (.var 500))),(.i .i64 (.cl 3 20 (.var 500))),(.i .i64 (.cl 3 21 (.var 500))),(.i .i64 (.cl 3 22 (.var 500))),(.i .i64 (.cl 3 23 (.var 500))),(.i .i64 (.cl 3 24 (.var 500)))] (.var 506 [(.i .i64),.b,(.i .i64),(.i .i64),(.i .i64),(.i .i64),(.i .i64),(.i .i64),.s,.s,.b,(.i .i64),(.i .i64),(.i .i64),(.i .i64),(.i .i64),(.i .i64),(.i .i64),(.i .i64),(.i .i64),(.i .i64),(.i .i64),(.i .i64),(.i .i64),(.i .i64)]))):=by kernel_rfl
def fd_N0_s:XS:=⟨([(7,zTM16_18),(6,zTM16_0)]++zTM16_1++zTM16_3),zTM16_12,245⟩
def fd_N0_r:T (XE×XS):=(.ret (.normal,fd_N0_s))
theorem fd_N0_run:(codeX (cfgL [] (fun _=>[])).ti (callS ⟨(cfgL [] (fun _=>[])),l_able,[20009,20,33,37,58,10010,10011,10013,10014,10023,10021,20025]⟩ 12) (((cfgL [] (fun _=>[])).ft 26).elim [] (·.ms)) 156 ([]) 1000 fd_c ((inF,true)::(.cl 639 1 (.var 640),false)::fdF) fd_S0).map (sqz fd_ks)=fd_N0_r:=by kernel_rfl
def fd_N0_b:Bind:=⟨[(640,zTM16_17)],[],[],[(639,(.len 473),zTM16_10)]⟩
theorem fd_N0_ok:okS 156 639 fd_N0_b [] fd_S0 fd_N0_s=true:=by kernel_rfl
theorem fd_N0_g:fd_N0_b.ge 639=true:=by kernel_rfl
theorem fd_N0_step {ρ ρ1:Rho} (hd:fd_S0.den ρ=fd_S0.den ρ1) (cok:CfgOk Try.prog ρ1 (cfgL [] (fun _=>[]))) (hl:LpsOk Try.prog ρ1 Try.f26.ntmps ([]) fd_c) (hk:Facts.ok ρ1 ((inF,true)::(.cl 639 1 (.var 640),false)::fdF)):StepF Try.prog Try.f26.ntmps fd_c 156 fd_S0 fd_S0 ρ (fd_N0_b.ap ρ1) :=
 fam_goU fd_fits hd cok hl hk fd_N0_run rfl fd_N0_ok
theorem fd_N0_640:lassoc 640 fd_N0_b.i=some (.op .add .i64 (.var 640) (.lit 1)):=by kernel_rfl
theorem fd_N0_r639:lassoc 639 fd_N0_b.r=some ((.len 473),(.var 639 [(.i .i64),.b,(.i .i64),(.i .i64),(.i .i64),(.i .i64),(.i .i64),(.i .i64),.s,.s,.b,(.i .i64),(.i .i64),(.i .i64),(.i .i64),(.i .i64),(.i .i64),(.i .i64),(.i .i64),(.i .i64),(.i .i64),(.i .i64),(.i .i64),(.i .i64),(.i .i64)])):=by kernel_rfl
def fd_H0_s:XS:=⟨([(7,zTM16_18),(6,(.sl (252,0) 20 0 1 true))]++zTM16_1++zTM16_3),[((28,0),zTM16_4),((28,1),zTM16_5),((28,2),zTM16_11),((28,3),zTM16_8),((252,0),[(.sc zTM16_19),(.sc zTM16_20),(.sc zTM16_21),(.sc zTM16_22),(.sc zTM16_23),(.sc zTM16_24),(.sc (.s (.cl 639 8 (.var 640)))),(.sc (.s (.cl 639 9 (.var 640)))),(.sc (.b (.cl 639 10 (.var 640)))),(.sc zTM16_25),(.sc zTM16_26),(.sc zTM16_27),(.sc zTM16_28),(.sc zTM16_29),(.sc zTM16_30),(.sc zTM16_31),(.sc zTM16_32),(.sc zTM16_33),(.sc zTM16_34),(.sc zTM16_35)])],257⟩
def fd_H0_r:T (XE×XS):=(.ret (.normal,fd_H0_s))
theorem fd_H0_run:(codeX (cfgL [] (fun _=>[])).ti (callS ⟨(cfgL [] (fun _=>[])),l_able,[20009,20,33,37,58,10010,10011,10013,10014,10023,10021,20025]⟩ 12) (((cfgL [] (fun _=>[])).ft 26).elim [] (·.ms)) 156 ([]) 1000 fd_c ((inF,true)::(.cl 639 1 (.var 640),true)::fdF) fd_S0).map (sqz fd_ks)=fd_H0_r:=by kernel_rfl
def fd_H0_b:Bind:=⟨[(640,zTM16_17)],[],[],[(639,(.len 473),zTM16_10),(641,(.lit 1),zTM16_36)]⟩
theorem fd_H0_ok:okS 156 639 fd_H0_b [((230,0),(252,0))] fd_S1 fd_H0_s=true:=by kernel_rfl
theorem fd_H0_g:fd_H0_b.ge 639=true:=by kernel_rfl
theorem fd_H0_step {ρ ρ1:Rho} (hd:fd_S0.den ρ=fd_S0.den ρ1) (cok:CfgOk Try.prog ρ1 (cfgL [] (fun _=>[]))) (hl:LpsOk Try.prog ρ1 Try.f26.ntmps ([]) fd_c) (hk:Facts.ok ρ1 ((inF,true)::(.cl 639 1 (.var 640),true)::fdF)):StepF Try.prog Try.f26.ntmps fd_c 156 fd_S0 fd_S1 ρ (fd_H0_b.ap ρ1) :=
 fam_goU fd_fits hd cok hl hk fd_H0_run rfl fd_H0_ok
theorem fd_H0_640:lassoc 640 fd_H0_b.i=some (.op .add .i64 (.var 640) (.lit 1)):=by kernel_rfl
theorem fd_H0_r639:lassoc 639 fd_H0_b.r=some ((.len 473),(.var 639 [(.i .i64),.b,(.i .i64),(.i .i64),(.i .i64),(.i .i64),(.i .i64),(.i .i64),.s,.s,.b,(.i .i64),(.i .i64),(.i .i64),(.i .i64),(.i .i64),(.i .i64),(.i .i64),(.i .i64),(.i .i64),(.i .i64),(.i .i64),(.i .i64),(.i .i64),(.i .i64)])):=by kernel_rfl
theorem fd_H0_r641:lassoc 641 fd_H0_b.r=some ((.lit 1),(.one [(.i .i64 (.cl 639 2 (.var 640))),(.i .i64 (.cl 639 3 (.var 640))),(.i .i64 (.cl 639 4 (.var 640))),(.i .i64 (.cl 639 5 (.var 640))),(.i .i64 (.cl 639 6 (.var 640))),(.i .i64 (.cl 639 7 (.var 640))),(.s (.cl 639 8 (.var 640))),(.s (.cl 639 9 (.var 640))),(.b (.cl 639 10 (.var 640))),(.i .i64 (.cl 639 11 (.var 640))),(.i .i64 (.cl 639 12 (.var 640))),(.i .i64 (.cl 639 13 (.var 640))),(.i .i64 (.cl 639 14 (.var 640))),(.i .i64 (.cl 639 15 (.var 640))),(.i .i64 (.cl 639 16 (.var 640))),(.i .i64 (.cl 639 17 (.var 640))),(.i .i64 (.cl 639 18 (.var 640))),(.i .i64 (.cl 639 19 (.var 640))),(.i .i64 (.cl 639 20 (.var 640))),(.i .i64 (.cl 639 21 (.var 640)))])):=by kernel_rfl
def fd_N1_s:XS:=⟨([(7,zTM16_18),(6,zTM16_13)]++zTM16_1++zTM16_3),zTM16_16,249⟩
def fd_N1_r:T (XE×XS):=(.ret (.normal,fd_N1_s))
theorem fd_N1_run:(codeX (cfgL [] (fun _=>[])).ti (callS ⟨(cfgL [] (fun _=>[])),l_able,[20009,20,33,37,58,10010,10011,10013,10014,10023,10021,20025]⟩ 12) (((cfgL [] (fun _=>[])).ft 26).elim [] (·.ms)) 156 ([]) 1000 fd_c ((inF,true)::(.cl 639 1 (.var 640),false)::fdF) fd_S1).map (sqz fd_ks)=fd_N1_r:=by kernel_rfl
def fd_N1_b:Bind:=⟨[(640,zTM16_17)],[],[],[(639,(.len 473),zTM16_10),(641,(.len 641),zTM16_15)]⟩
theorem fd_N1_ok:okS 156 639 fd_N1_b [] fd_S1 fd_N1_s=true:=by kernel_rfl
theorem fd_N1_g:fd_N1_b.ge 639=true:=by kernel_rfl
theorem fd_N1_step {ρ ρ1:Rho} (hd:fd_S1.den ρ=fd_S1.den ρ1) (cok:CfgOk Try.prog ρ1 (cfgL [] (fun _=>[]))) (hl:LpsOk Try.prog ρ1 Try.f26.ntmps ([]) fd_c) (hk:Facts.ok ρ1 ((inF,true)::(.cl 639 1 (.var 640),false)::fdF)):StepF Try.prog Try.f26.ntmps fd_c 156 fd_S1 fd_S1 ρ (fd_N1_b.ap ρ1) :=
 fam_goU fd_fits hd cok hl hk fd_N1_run rfl fd_N1_ok
theorem fd_N1_640:lassoc 640 fd_N1_b.i=some (.op .add .i64 (.var 640) (.lit 1)):=by kernel_rfl
theorem fd_N1_r639:lassoc 639 fd_N1_b.r=some ((.len 473),(.var 639 [(.i .i64),.b,(.i .i64),(.i .i64),(.i .i64),(.i .i64),(.i .i64),(.i .i64),.s,.s,.b,(.i .i64),(.i .i64),(.i .i64),(.i .i64),(.i .i64),(.i .i64),(.i .i64),(.i .i64),(.i .i64),(.i .i64),(.i .i64),(.i .i64),(.i .i64),(.i .i64)])):=by kernel_rfl
theorem fd_N1_r641:lassoc 641 fd_N1_b.r=some ((.len 641),(.var 641 [(.i .i64),(.i .i64),(.i .i64),(.i .i64),(.i .i64),(.i .i64),.s,.s,.b,(.i .i64),(.i .i64),(.i .i64),(.i .i64),(.i .i64),(.i .i64),(.i .i64),(.i .i64),(.i .i64),(.i .i64),(.i .i64)])):=by kernel_rfl
def fd_H1_s:XS:=⟨([(7,zTM16_18),(6,(.slv (256,0) 20 (.lit 0) zTM16_37 true))]++zTM16_1++zTM16_3),[((28,0),zTM16_4),((28,1),zTM16_5),((28,2),zTM16_11),((28,3),zTM16_8),((256,0),[(.rows 20 zTM16_37 zTM16_38)])],261⟩
def fd_H1_r:T (XE×XS):=(.ret (.normal,fd_H1_s))
theorem fd_H1_run:(codeX (cfgL [] (fun _=>[])).ti (callS ⟨(cfgL [] (fun _=>[])),l_able,[20009,20,33,37,58,10010,10011,10013,10014,10023,10021,20025]⟩ 12) (((cfgL [] (fun _=>[])).ft 26).elim [] (·.ms)) 156 ([]) 1000 fd_c ((inF,true)::(.cl 639 1 (.var 640),true)::(.lt (.lit 6) (.len 641),false)::fdF) fd_S1).map (sqz fd_ks)=fd_H1_r:=by kernel_rfl
def fd_H1_b:Bind:=⟨[(640,zTM16_17)],[],[],[(639,(.len 473),zTM16_10),(641,zTM16_37,zTM16_38)]⟩
theorem fd_H1_ok:okS 156 639 fd_H1_b [((230,0),(256,0))] fd_S1 fd_H1_s=true:=by kernel_rfl
theorem fd_H1_g:fd_H1_b.ge 639=true:=by kernel_rfl
theorem fd_H1_step {ρ ρ1:Rho} (hd:fd_S1.den ρ=fd_S1.den ρ1) (cok:CfgOk Try.prog ρ1 (cfgL [] (fun _=>[]))) (hl:LpsOk Try.prog ρ1 Try.f26.ntmps ([]) fd_c) (hk:Facts.ok ρ1 ((inF,true)::(.cl 639 1 (.var 640),true)::(.lt (.lit 6) (.len 641),false)::fdF)):StepF Try.prog Try.f26.ntmps fd_c 156 fd_S1 fd_S1 ρ (fd_H1_b.ap ρ1) :=
 fam_goU fd_fits hd cok hl hk fd_H1_run rfl fd_H1_ok
theorem fd_H1_640:lassoc 640 fd_H1_b.i=some (.op .add .i64 (.var 640) (.lit 1)):=by kernel_rfl
theorem fd_H1_r639:lassoc 639 fd_H1_b.r=some ((.len 473),(.var 639 [(.i .i64),.b,(.i .i64),(.i .i64),(.i .i64),(.i .i64),(.i .i64),(.i .i64),.s,.s,.b,(.i .i64),(.i .i64),(.i .i64),(.i .i64),(.i .i64),(.i .i64),(.i .i64),(.i .i64),(.i .i64),(.i .i64),(.i .i64),(.i .i64),(.i .i64),(.i .i64)])):=by kernel_rfl
theorem fd_H1_r641:lassoc 641 fd_H1_b.r=some ((.op .padd .i64 (.len 641) (.lit 1)),(.app (.len 641) (.var 641 [(.i .i64),(.i .i64),(.i .i64),(.i .i64),(.i .i64),(.i .i64),.s,.s,.b,(.i .i64),(.i .i64),(.i .i64),(.i .i64),(.i .i64),(.i .i64),(.i .i64),(.i .i64),(.i .i64),(.i .i64),(.i .i64)]) (.one [(.i .i64 (.cl 639 2 (.var 640))),(.i .i64 (.cl 639 3 (.var 640))),(.i .i64 (.cl 639 4 (.var 640))),(.i .i64 (.cl 639 5 (.var 640))),(.i .i64 (.cl 639 6 (.var 640))),(.i .i64 (.cl 639 7 (.var 640))),(.s (.cl 639 8 (.var 640))),(.s (.cl 639 9 (.var 640))),(.b (.cl 639 10 (.var 640))),(.i .i64 (.cl 639 11 (.var 640))),(.i .i64 (.cl 639 12 (.var 640))),(.i .i64 (.cl 639 13 (.var 640))),(.i .i64 (.cl 639 14 (.var 640))),(.i .i64 (.cl 639 15 (.var 640))),(.i .i64 (.cl 639 16 (.var 640))),(.i .i64 (.cl 639 17 (.var 640))),(.i .i64 (.cl 639 18 (.var 640))),(.i .i64 (.cl 639 19 (.var 640))),(.i .i64 (.cl 639 20 (.var 640))),(.i .i64 (.cl 639 21 (.var 640)))]))):=by kernel_rfl
def fd_X0_s:XS:=⟨zTM16_9,zTM16_12,234⟩
def fd_X0_r:T (XE×XS):=(.ret ((.exit 0),fd_X0_s))
theorem fd_X0_run:(codeX (cfgL [] (fun _=>[])).ti (callS ⟨(cfgL [] (fun _=>[])),l_able,[20009,20,33,37,58,10010,10011,10013,10014,10023,10021,20025]⟩ 12) (((cfgL [] (fun _=>[])).ft 26).elim [] (·.ms)) 156 ([]) 1000 fd_c ((inF,false)::fdF) fd_S0).map (sqz fd_ks)=fd_X0_r:=by kernel_rfl
def fd_X1_s:XS:=⟨zTM16_14,zTM16_16,238⟩
def fd_X1_r:T (XE×XS):=(.ret ((.exit 0),fd_X1_s))
theorem fd_X1_run:(codeX (cfgL [] (fun _=>[])).ti (callS ⟨(cfgL [] (fun _=>[])),l_able,[20009,20,33,37,58,10010,10011,10013,10014,10023,10021,20025]⟩ 12) (((cfgL [] (fun _=>[])).ft 26).elim [] (·.ms)) 156 ([]) 1000 fd_c ((inF,false)::fdF) fd_S1).map (sqz fd_ks)=fd_X1_r:=by kernel_rfl
def fd_out:T (XE×XS):=(.br (.var 642) (.ret ((.exit 0),fd_X0_s)) (.ret ((.exit 0),fd_X1_s)))
noncomputable def fd:LoopX:=⟨((codeKey fd_c).getD 0),156,639,fd_E,noB,[],fd_out⟩
theorem fd_X0_end {ρ1:Rho} (cok:CfgOk Try.prog ρ1 (cfgL [] (fun _=>[]))) (hl:LpsOk Try.prog ρ1 Try.f26.ntmps ([]) fd_c) (hk:Facts.ok ρ1 ((inF,false)::fdF)) (ho:fd_out.sel ρ1=some ((.exit 0),fd_X0_s)):EndL Try.prog Try.f26.ntmps fd_c 156 fd_S0 fd_out ρ1 :=
 fam_endU fd_fits cok hl hk fd_X0_run rfl (fun h=>nomatch h) ho (by kernel_rfl)
theorem fd_X1_end {ρ1:Rho} (cok:CfgOk Try.prog ρ1 (cfgL [] (fun _=>[]))) (hl:LpsOk Try.prog ρ1 Try.f26.ntmps ([]) fd_c) (hk:Facts.ok ρ1 ((inF,false)::fdF)) (ho:fd_out.sel ρ1=some ((.exit 0),fd_X1_s)):EndL Try.prog Try.f26.ntmps fd_c 156 fd_S1 fd_out ρ1 :=
 fam_endU fd_fits cok hl hk fd_X1_run rfl (fun h=>nomatch h) ho (by kernel_rfl)
end Go.Proofs.Ytdlifdoglhhnfaa
