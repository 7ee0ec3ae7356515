/- Parts of the proof, one behind the other. -/
import Derived.Test.YtdlifdoglhhnfaaTM8
import Derived.Test.YtdlifdoglhhnfaaXwM3
namespace Go.Proofs.Ytdlifdoglhhnfaa
open Go Go.Proofs.Aw Go.Proofs.Xw
set_option maxRecDepth 100000
noncomputable def dnX_c:Code:=dn_c
noncomputable def dnB_c:Code:=dn_c
noncomputable def dnX:LoopX:=⟨((codeKey dn_c).getD 0),29,470,dn_E,noB,[],.ret (.exit 0,dn_X_s)⟩
noncomputable def dnB:LoopX:=⟨((codeKey dn_c).getD 0),29,470,dn_E,noB,[],.ret (.ret,dn_B1_w)⟩
def ksN:List (Nat×List X×X):=[(8,[kyR,anR],.sc (.b (.lit false))),(32,[kyA],.sc (.b (.lit true)))]
def inG:BE := .lt (.var 492) (.len 2)
def sqG:BE := .seq (.cl 493 0 (.var 492)) (.cl 2 0 (.var 492))
def spF:Facts:=[(.lt (.var 492) (.lit 0),false),(.lt (.lit 8796093022208) (.len 2),false)]
noncomputable def sp_c:Code:=(loopsOf (Try.f4.body.getD .skip))[0]?.getD .skip
theorem sp_fits:fitsC Try.f4.ntmps sp_c=true:=by kernel_rfl
abbrev zTM9_0:Sc := .i .i64 (.lit 0)
abbrev zTM9_1:X := .ptr (28,0) [] 0
abbrev zTM9_2:XTp:=[(48,.top),(47,.top),(42,.top),(46,.top),(45,.top),(44,.top),(43,.top)]
abbrev zTM9_3:XTp:=[(11,(.sc zTM9_0)),(10,(.ptr (19,0) [] 0))]
abbrev zTM9_4:XTp:=[(41,.top),(40,.top),(32,.top),(39,.top),(38,.top),(37,.top),(36,.top),(35,.top),(34,.top),(33,.top)]
abbrev zTM9_5:IE := .op .padd .i64 (.len 2) (.lit 1)
abbrev zTM9_6:XTp:=[(9,(.slv (11,0) 1 (.lit 0) zTM9_5 true))]
abbrev zTM9_7:XTp:=[(31,.top),(30,.top),(29,.top),(28,.top),(27,.top),(26,.top),(25,.top),(24,.top),(23,.top),(22,.top),(8,.top),(4,.top)]
abbrev zTM9_8:X := .sc (.i .i64 (.var 0))
abbrev zTM9_9:X := .sc (.i .i64 (.var 1))
abbrev zTM9_10:X := .sc (.i .i64 (.var 2))
abbrev zTM9_11:X := .sc (.i .i64 (.var 3))
abbrev zTM9_12:X := .sc (.i .i64 (.var 4))
abbrev zTM9_13:X := .sc (.i .i64 (.var 5))
abbrev zTM9_14:X := .sc (.i .i64 (.var 6))
abbrev zTM9_15:X := .sc (.i .i64 (.var 7))
abbrev zTM9_16:X := .sc (.i .i64 (.var 8))
abbrev zTM9_17:X := .sc (.i .i64 (.var 9))
abbrev zTM9_18:List Kd:=[(.i .i64),.b,(.i .i64),(.i .i64),(.i .i64),(.i .i64),(.i .i64),(.i .i64),.s,.s,.b,(.i .i64),(.i .i64),(.i .i64),(.i .i64),(.i .i64),(.i .i64),(.i .i64),(.i .i64),(.i .i64),(.i .i64),(.i .i64),(.i .i64),(.i .i64),(.i .i64)]
abbrev zTM9_19:XTp:=[(0,(.agg [zTM9_8,zTM9_9,zTM9_10,zTM9_11,zTM9_12,zTM9_13,zTM9_14,zTM9_15,zTM9_16])),(1,zTM9_17),(2,(.rl 1 (.len 2) (.var 2 [.s]) false)),(3,(.rl 25 (.len 3) (.var 3 zTM9_18) false))]
abbrev zTM9_20:RL := .app (.len 2) (.var 2 [.s]) (.one [(.s (.lit ⟨#[120,55]⟩))])
abbrev zTM9_21:X := .sc (.i .i64 (.lit 1))
abbrev zTM9_22:List X:=[zTM9_8,zTM9_9,zTM9_10,zTM9_11,zTM9_12,zTM9_13,zTM9_14,zTM9_15,zTM9_16,zTM9_8,zTM9_9,zTM9_10,zTM9_11,zTM9_12,zTM9_13,zTM9_14,zTM9_15,zTM9_16,zTM9_17,(.slv (19,1) 1 (.lit 0) (.len 2) true),(.slv (19,2) 25 (.lit 0) (.len 2) true),(.slv (19,3) 1 (.lit 0) (.len 461) true),zTM9_21,(.sc zTM9_0)]
abbrev zTM9_23:List X:=[(.rows 1 (.len 2) zTM9_20)]
abbrev zTM9_24:List X:=[(.rows 25 (.len 2) (.one [zTM9_0,(.b (.lit false)),zTM9_0,zTM9_0,zTM9_0,zTM9_0,zTM9_0,zTM9_0,(.s (.lit ⟨#[]⟩)),(.s (.lit ⟨#[]⟩)),(.b (.lit false)),zTM9_0,zTM9_0,zTM9_0,zTM9_0,zTM9_0,zTM9_0,zTM9_0,zTM9_0,zTM9_0,zTM9_0,zTM9_0,zTM9_0,zTM9_0,zTM9_0]))]
abbrev zTM9_25:List X:=[(.rows 1 (.len 461) (.var 461 [(.i .i64)]))]
abbrev zTM9_26:List X:=[zTM9_17,(.slv (28,1) 1 (.lit 0) (.len 471) true),(.slv (28,2) 25 (.lit 0) (.len 473) true),(.slv (28,3) 1 (.lit 0) (.len 472) true),zTM9_21,zTM9_8,zTM9_9,zTM9_10,zTM9_11,zTM9_12,zTM9_13,zTM9_14,zTM9_15,zTM9_16,(.sc (.b (.lit false))),(.sc zTM9_0)]
abbrev zTM9_27:List X:=[(.rows 1 (.len 471) (.var 471 [.s]))]
abbrev zTM9_28:List X:=[(.rows 25 (.len 473) (.var 473 zTM9_18))]
abbrev zTM9_29:List X:=[(.rows 1 (.len 472) (.var 472 [(.i .i64)]))]
abbrev zTM9_30:XTp:=([(14,(.sc (.i .i64 (.var 492)))),(13,(.sc zTM9_0)),(12,zTM9_1)]++zTM9_2++zTM9_3++zTM9_4++zTM9_6++zTM9_7++zTM9_19)
abbrev zTM9_31:XHp:=[((11,0),[(.rows 1 zTM9_5 (.var 493 [.s]))]),((19,0),zTM9_22),((19,1),zTM9_23),((19,2),zTM9_24),((19,3),zTM9_25),((28,0),zTM9_26),((28,1),zTM9_27),((28,2),zTM9_28),((28,3),zTM9_29)]
abbrev zTM9_32:IE := .op .add .i64 (.var 492) (.lit 1)
abbrev zTM9_33:RL := .upd (.var 492) [(.s (.lit ⟨#[115,112,111,105,108,116]⟩))] (.var 493 [.s])
abbrev zTM9_34:X := .k (.pointer none)
abbrev zTM9_35:XTp:=[(11,zTM9_21),(10,zTM9_34)]
abbrev zTM9_36:XTp:=([(14,(.sc (.i .i64 (.var 492)))),(13,zTM9_21),(12,zTM9_34)]++zTM9_2++zTM9_35++zTM9_4++zTM9_6++zTM9_7++zTM9_19)
abbrev zTM9_37:XHp:=[((11,0),[(.rows 1 zTM9_5 (.var 493 [.s]))])]
def sp_E:XS:=⟨([(14,(.sc zTM9_0)),(13,(.sc zTM9_0)),(12,zTM9_1)]++zTM9_2++zTM9_3++zTM9_4++zTM9_6++zTM9_7++zTM9_19),[((11,0),[(.rows 1 zTM9_5 zTM9_20)]),((19,0),zTM9_22),((19,1),zTM9_23),((19,2),zTM9_24),((19,3),zTM9_25),((28,0),zTM9_26),((28,1),zTM9_27),((28,2),zTM9_28),((28,3),zTM9_29)],35⟩
def sp_ks:List Nat:=[14,13,12,48,47,42,46,45,44,43,11,10,41,40,32,39,38,37,36,35,34,33,9,31,30,29,28,27,26,25,24,23,22,8,4,0,1,2,3]
theorem sp_Eb:sp_E.bel 492=true:=by kernel_rfl
def sp_S0:XS:=⟨zTM9_30,zTM9_31,35⟩
def sp_I0:Bind:=⟨[(492,(.lit 0))],[],[],[(493,zTM9_5,zTM9_20)]⟩
theorem sp_I0ok:okS 0 492 sp_I0 [] sp_S0 sp_E=true:=by kernel_rfl
theorem sp_I0g:sp_I0.ge 492=true:=by kernel_rfl
theorem sp_I0_492:lassoc 492 sp_I0.i=some (.lit 0):=by kernel_rfl
theorem sp_I0_r493:lassoc 493 sp_I0.r=some ((.op .padd .i64 (.len 2) (.lit 1)),(.app (.len 2) (.var 2 [.s]) (.one [(.s (.lit ⟨#[120,55]⟩))]))):=by kernel_rfl
def sp_T_s:XS:=⟨([(14,(.sc (.i .i64 zTM9_32))),(13,(.sc zTM9_0)),(12,zTM9_1)]++zTM9_2++zTM9_3++zTM9_4++zTM9_6++zTM9_7++zTM9_19),[((11,0),[(.rows 1 zTM9_5 zTM9_33)]),((19,0),zTM9_22),((19,1),zTM9_23),((19,2),zTM9_24),((19,3),zTM9_25),((28,0),zTM9_26),((28,1),zTM9_27),((28,2),zTM9_28),((28,3),zTM9_29)],55⟩
def sp_T_r:T (XE×XS):=(.ret (.normal,sp_T_s))
theorem sp_T_run:(codeX (cfgL [] (fun _=>[])).ti (callS ⟨(cfgL [] (fun _=>[])),l_able,[20009,20,33,37,58,10010,10011,10013,10014,10023,10021]⟩ 12) (((cfgL [] (fun _=>[])).ft 4).elim [] (·.ms)) 0 ([]) 1000 sp_c ((inG,true)::(sqG,true)::spF) sp_S0).map (sqz sp_ks)=sp_T_r:=by kernel_rfl
def sp_T_b:Bind:=⟨[(492,zTM9_32)],[],[],[(493,zTM9_5,zTM9_33)]⟩
theorem sp_T_ok:okS 0 492 sp_T_b [] sp_S0 sp_T_s=true:=by kernel_rfl
theorem sp_T_g:sp_T_b.ge 492=true:=by kernel_rfl
theorem sp_T_step {ρ ρ1:Rho} (hd:sp_S0.den ρ=sp_S0.den ρ1) (cok:CfgOk Try.prog ρ1 (cfgL [] (fun _=>[]))) (hl:LpsOk Try.prog ρ1 Try.f4.ntmps ([]) sp_c) (hk:Facts.ok ρ1 ((inG,true)::(sqG,true)::spF)):StepF Try.prog Try.f4.ntmps sp_c 0 sp_S0 sp_S0 ρ (sp_T_b.ap ρ1) :=
 fam_goU sp_fits hd cok hl hk sp_T_run rfl sp_T_ok
theorem sp_T_492:lassoc 492 sp_T_b.i=some (.op .add .i64 (.var 492) (.lit 1)):=by kernel_rfl
theorem sp_T_r493:lassoc 493 sp_T_b.r=some ((.op .padd .i64 (.len 2) (.lit 1)),(.upd (.var 492) [(.s (.lit ⟨#[115,112,111,105,108,116]⟩))] (.var 493 [.s]))):=by kernel_rfl
def sp_X_s:XS:=⟨zTM9_30,zTM9_31,39⟩
def sp_X_r:T (XE×XS):=(.ret ((.exit 0),sp_X_s))
theorem sp_X_run:(codeX (cfgL [] (fun _=>[])).ti (callS ⟨(cfgL [] (fun _=>[])),l_able,[20009,20,33,37,58,10010,10011,10013,10014,10023,10021]⟩ 12) (((cfgL [] (fun _=>[])).ft 4).elim [] (·.ms)) 0 ([]) 1000 sp_c ((inG,false)::spF) sp_S0).map (sqz sp_ks)=sp_X_r:=by kernel_rfl
def sp_out:T (XE×XS):=(.ret ((.exit 0),sp_X_s))
noncomputable def sp:LoopX:=⟨((codeKey sp_c).getD 0),0,492,sp_E,noB,[],sp_out⟩
theorem sp_X_end {ρ1:Rho} (cok:CfgOk Try.prog ρ1 (cfgL [] (fun _=>[]))) (hl:LpsOk Try.prog ρ1 Try.f4.ntmps ([]) sp_c) (hk:Facts.ok ρ1 ((inG,false)::spF)) (ho:sp_out.sel ρ1=some ((.exit 0),sp_X_s)):EndL Try.prog Try.f4.ntmps sp_c 0 sp_S0 sp_out ρ1 :=
 fam_endU sp_fits cok hl hk sp_X_run rfl (fun h=>nomatch h) ho (by kernel_rfl)
noncomputable def sq_c:Code:=(loopsOf (Try.f4.body.getD .skip))[0]?.getD .skip
theorem sq_fits:fitsC Try.f4.ntmps sq_c=true:=by kernel_rfl
def sq_E:XS:=⟨([(14,(.sc zTM9_0)),(13,zTM9_21),(12,zTM9_34)]++zTM9_2++zTM9_35++zTM9_4++zTM9_6++zTM9_7++zTM9_19),[((11,0),[(.rows 1 zTM9_5 zTM9_20)])],35⟩
def sq_ks:List Nat:=[14,13,12,48,47,42,46,45,44,43,11,10,41,40,32,39,38,37,36,35,34,33,9,31,30,29,28,27,26,25,24,23,22,8,4,0,1,2,3]
theorem sq_Eb:sq_E.bel 492=true:=by kernel_rfl
def sq_S0:XS:=⟨zTM9_36,zTM9_37,35⟩
def sq_I0:Bind:=⟨[(492,(.lit 0))],[],[],[(493,zTM9_5,zTM9_20)]⟩
theorem sq_I0ok:okS 0 492 sq_I0 [] sq_S0 sq_E=true:=by kernel_rfl
theorem sq_I0g:sq_I0.ge 492=true:=by kernel_rfl
theorem sq_I0_492:lassoc 492 sq_I0.i=some (.lit 0):=by kernel_rfl
theorem sq_I0_r493:lassoc 493 sq_I0.r=some ((.op .padd .i64 (.len 2) (.lit 1)),(.app (.len 2) (.var 2 [.s]) (.one [(.s (.lit ⟨#[120,55]⟩))]))):=by kernel_rfl
def sq_T_s:XS:=⟨([(14,(.sc (.i .i64 zTM9_32))),(13,zTM9_21),(12,zTM9_34)]++zTM9_2++zTM9_35++zTM9_4++zTM9_6++zTM9_7++zTM9_19),[((11,0),[(.rows 1 zTM9_5 zTM9_33)])],55⟩
def sq_T_r:T (XE×XS):=(.ret (.normal,sq_T_s))
theorem sq_T_run:(codeX (cfgL [] (fun _=>[])).ti (callS ⟨(cfgL [] (fun _=>[])),l_able,[20009,20,33,37,58,10010,10011,10013,10014,10023,10021]⟩ 12) (((cfgL [] (fun _=>[])).ft 4).elim [] (·.ms)) 0 ([]) 1000 sq_c ((inG,true)::(sqG,true)::spF) sq_S0).map (sqz sq_ks)=sq_T_r:=by kernel_rfl
def sq_T_b:Bind:=⟨[(492,zTM9_32)],[],[],[(493,zTM9_5,zTM9_33)]⟩
theorem sq_T_ok:okS 0 492 sq_T_b [] sq_S0 sq_T_s=true:=by kernel_rfl
theorem sq_T_g:sq_T_b.ge 492=true:=by kernel_rfl
theorem sq_T_step {ρ ρ1:Rho} (hd:sq_S0.den ρ=sq_S0.den ρ1) (cok:CfgOk Try.prog ρ1 (cfgL [] (fun _=>[]))) (hl:LpsOk Try.prog ρ1 Try.f4.ntmps ([]) sq_c) (hk:Facts.ok ρ1 ((inG,true)::(sqG,true)::spF)):StepF Try.prog Try.f4.ntmps sq_c 0 sq_S0 sq_S0 ρ (sq_T_b.ap ρ1) :=
 fam_goU sq_fits hd cok hl hk sq_T_run rfl sq_T_ok
theorem sq_T_492:lassoc 492 sq_T_b.i=some (.op .add .i64 (.var 492) (.lit 1)):=by kernel_rfl
theorem sq_T_r493:lassoc 493 sq_T_b.r=some ((.op .padd .i64 (.len 2) (.lit 1)),(.upd (.var 492) [(.s (.lit ⟨#[115,112,111,105,108,116]⟩))] (.var 493 [.s]))):=by kernel_rfl
def sq_X_s:XS:=⟨zTM9_36,zTM9_37,39⟩
def sq_X_r:T (XE×XS):=(.ret ((.exit 0),sq_X_s))
theorem sq_X_run:(codeX (cfgL [] (fun _=>[])).ti (callS ⟨(cfgL [] (fun _=>[])),l_able,[20009,20,33,37,58,10010,10011,10013,10014,10023,10021]⟩ 12) (((cfgL [] (fun _=>[])).ft 4).elim [] (·.ms)) 0 ([]) 1000 sq_c ((inG,false)::spF) sq_S0).map (sqz sq_ks)=sq_X_r:=by kernel_rfl
def sq_out:T (XE×XS):=(.ret ((.exit 0),sq_X_s))
noncomputable def sq:LoopX:=⟨((codeKey sq_c).getD 0),0,492,sq_E,noB,[],sq_out⟩
theorem sq_X_end {ρ1:Rho} (cok:CfgOk Try.prog ρ1 (cfgL [] (fun _=>[]))) (hl:LpsOk Try.prog ρ1 Try.f4.ntmps ([]) sq_c) (hk:Facts.ok ρ1 ((inG,false)::spF)) (ho:sq_out.sel ρ1=some ((.exit 0),sq_X_s)):EndL Try.prog Try.f4.ntmps sq_c 0 sq_S0 sq_out ρ1 :=
 fam_endU sq_fits cok hl hk sq_X_run rfl (fun h=>nomatch h) ho (by kernel_rfl)
end Go.Proofs.Ytdlifdoglhhnfaa
