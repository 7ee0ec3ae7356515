/- Parts of the proof, one behind the other. -/
import Derived.Test.YtdlifdoglhhnfaaTM7
import Derived.Test.YtdlifdoglhhnfaaXwM3
namespace Go.Proofs.Ytdlifdoglhhnfaa
open Go Go.Proofs.Aw Go.Proofs.Xw
set_option maxRecDepth 100000
def inD:BE := .lt (.var 470) (.len 2)
def szD:IE := .slen (.cl 2 0 (.var 470))
def dnF:Facts:=[(.lt (.var 470) (.lit 0),false),(.lt (.len 2) (.lit 1),false),(.lt (.lit 6) (.len 2),false)]
def okD:Facts:=[(inD,true),(.lt szD (.lit 1),false),(.lt (.lit 16) szD,false)]
def l6D:Facts:=[(.lt (.lit 6) (.len 471),false),(.lt (.lit 6) (.len 472),false),(.lt (.lit 6) (.len 473),false)]
def inE:BE := .lt (.var 480) (.var 470)
def eqE:BE := .seq (.cl 2 0 (.var 480)) (.cl 2 0 (.var 470))
def dkF:Facts:=(.lt (.var 480) (.lit 0),false)::(.lt (.var 480) (.len 2),true)::(okD++dnF)
noncomputable def dk_c:Code:=(loopsOf (Try.f20.body.getD .skip))[1]?.getD .skip
theorem dk_fits:fitsC Try.f20.ntmps dk_c=true:=by kernel_rfl
abbrev zTM8_0:Sc := .i .i64 (.lit 0)
abbrev zTM8_1:XTp:=[(55,.top),(54,.top),(53,.top),(52,.top),(51,.top),(50,.top),(49,.top),(48,.top),(47,.top),(46,.top),(45,.top),(44,.top),(43,.top),(42,.top),(39,.top),(38,.top),(37,.top),(36,.top)]
abbrev zTM8_2:X := .ptr (56,0) [] 0
abbrev zTM8_3:XTp:=[(9,(.sc (.i .i64 (.var 470)))),(8,zTM8_2)]
abbrev zTM8_4:XTp:=[(35,.top),(34,.top),(33,.top),(32,.top),(31,.top),(30,.top),(29,.top),(28,.top),(27,.top),(26,.top),(25,.top),(24,.top),(23,.top),(22,.top),(21,.top),(20,.top),(19,.top),(18,.top),(17,.top),(16,.top),(15,.top),(14,.top),(13,.top),(12,.top),(11,.top)]
abbrev zTM8_5:X := .k (.pointer none)
abbrev zTM8_6:X := .sc (.i .i64 (.var 0))
abbrev zTM8_7:X := .sc (.i .i64 (.var 1))
abbrev zTM8_8:X := .sc (.i .i64 (.var 2))
abbrev zTM8_9:X := .sc (.i .i64 (.var 3))
abbrev zTM8_10:X := .sc (.i .i64 (.var 4))
abbrev zTM8_11:X := .sc (.i .i64 (.var 5))
abbrev zTM8_12:X := .sc (.i .i64 (.var 6))
abbrev zTM8_13:X := .sc (.i .i64 (.var 7))
abbrev zTM8_14:X := .sc (.i .i64 (.var 8))
abbrev zTM8_15:List X:=[zTM8_6,zTM8_7,zTM8_8,zTM8_9,zTM8_10,zTM8_11,zTM8_12,zTM8_13,zTM8_14]
abbrev zTM8_16:X := .sc (.i .i64 (.var 9))
abbrev zTM8_17:X := .rl 1 (.len 2) (.var 2 [.s]) false
abbrev zTM8_18:XTp:=[(7,(.sc zTM8_0)),(6,zTM8_5),(3,.top),(0,(.agg zTM8_15)),(1,zTM8_16),(2,zTM8_17)]
abbrev zTM8_19:X := .sc (.i .i64 (.lit 1))
abbrev zTM8_20:X := .sc (.b (.lit false))
abbrev zTM8_21:RL := .var 473 [(.i .i64),.b,(.i .i64),(.i .i64),(.i .i64),(.i .i64),(.i .i64),(.i .i64),.s,.s,.b,(.i .i64),(.i .i64),(.i .i64),(.i .i64),(.i .i64),(.i .i64),(.i .i64),(.i .i64),(.i .i64),(.i .i64),(.i .i64),(.i .i64),(.i .i64),(.i .i64)]
abbrev zTM8_22:XHp:=[((56,0),[zTM8_16,(.slv (101,0) 1 (.lit 0) (.len 471) true),(.slv (102,0) 25 (.lit 0) (.len 473) true),(.slv (103,0) 1 (.lit 0) (.len 472) true),zTM8_19,zTM8_6,zTM8_7,zTM8_8,zTM8_9,zTM8_10,zTM8_11,zTM8_12,zTM8_13,zTM8_14,zTM8_20,(.sc zTM8_0)]),((101,0),[(.rows 1 (.len 471) (.var 471 [.s]))]),((102,0),[(.rows 25 (.len 473) zTM8_21)]),((103,0),[(.rows 1 (.len 472) (.var 472 [(.i .i64)]))])]
abbrev zTM8_23:XTp:=[(10,(.sc (.i .i64 (.var 480))))]
abbrev zTM8_24:XTp:=(zTM8_23++zTM8_1++zTM8_3++zTM8_4++zTM8_18)
abbrev zTM8_25:XTp:=[(7,zTM8_19),(6,zTM8_5),(3,.top),(0,(.agg zTM8_15)),(1,zTM8_16),(2,zTM8_17)]
abbrev zTM8_26:XTp:=([(9,(.sc zTM8_0)),(8,zTM8_2)]++zTM8_4++zTM8_18)
abbrev zTM8_27:X := .k (.slice none 0 0)
abbrev zTM8_28:List X:=[zTM8_16,zTM8_27,zTM8_27,zTM8_27,zTM8_19,zTM8_6,zTM8_7,zTM8_8,zTM8_9,zTM8_10,zTM8_11,zTM8_12,zTM8_13,zTM8_14,zTM8_20,(.sc zTM8_0)]
abbrev zTM8_29:XHp:=[((56,0),zTM8_28)]
abbrev zTM8_30:RL := .one [zTM8_0,(.b (.lit false)),zTM8_0,zTM8_0,zTM8_0,zTM8_0,zTM8_0,zTM8_0,(.s (.lit ⟨#[]⟩)),(.s (.lit ⟨#[]⟩)),(.b (.lit false)),zTM8_0,zTM8_0,zTM8_0,zTM8_0,zTM8_0,zTM8_0,zTM8_0,zTM8_0,zTM8_0,zTM8_0,zTM8_0,zTM8_0,zTM8_0,zTM8_0]
abbrev zTM8_31:XTp:=([(9,(.sc zTM8_0)),(8,zTM8_2)]++zTM8_4++zTM8_25)
abbrev zTM8_32:IE := .op .add .i64 (.var 470) (.lit 1)
abbrev zTM8_33:IE := .op .padd .i64 (.len 471) (.lit 1)
abbrev zTM8_34:IE := .op .padd .i64 (.len 473) (.lit 1)
abbrev zTM8_35:IE := .op .padd .i64 (.len 472) (.lit 1)
abbrev zTM8_36:RL := .app (.len 471) (.var 471 [.s]) (.one [(.s (.cl 2 0 (.var 470)))])
abbrev zTM8_37:RL := .app (.len 472) (.var 472 [(.i .i64)]) (.one [(.i .i64 (.var 470))])
abbrev zTM8_38:RL := .app (.len 473) zTM8_21 zTM8_30
abbrev zTM8_39:XTp:=(zTM8_3++zTM8_4++zTM8_25)
def dk_E:XS:=⟨([(10,(.sc zTM8_0))]++zTM8_1++zTM8_3++zTM8_4++zTM8_18),zTM8_22,129⟩
def dk_ks:List Nat:=[10,55,54,53,52,51,50,49,48,47,46,45,44,43,42,39,38,37,36,9,8,35,34,33,32,31,30,29,28,27,26,25,24,23,22,21,20,19,18,17,16,15,14,13,12,11,7,6,3,0,1,2]
theorem dk_Eb:dk_E.bel 480=true:=by kernel_rfl
def dk_S0:XS:=⟨zTM8_24,zTM8_22,129⟩
def dk_I0:Bind:=⟨[(480,(.lit 0))],[],[],[]⟩
theorem dk_I0ok:okS 29 480 dk_I0 [] dk_S0 dk_E=true:=by kernel_rfl
theorem dk_I0g:dk_I0.ge 480=true:=by kernel_rfl
theorem dk_I0_480:lassoc 480 dk_I0.i=some (.lit 0):=by kernel_rfl
def dk_G_s:XS:=⟨([(10,(.sc (.i .i64 (.op .add .i64 (.var 480) (.lit 1)))))]++zTM8_1++zTM8_3++zTM8_4++zTM8_18),zTM8_22,144⟩
def dk_G_r:T (XE×XS):=(.ret (.normal,dk_G_s))
theorem dk_G_run:(codeX (cfgL [] (fun _=>[])).ti (callS ⟨(cfgL [] (fun _=>[])),l_able,[20009,20,33,37,58,10010,10011,10013,10014,10023,10021]⟩ 12) (((cfgL [] (fun _=>[])).ft 20).elim [] (·.ms)) 29 ([]) 1000 dk_c ((inE,true)::(eqE,false)::dkF) dk_S0).map (sqz dk_ks)=dk_G_r:=by kernel_rfl
def dk_G_b:Bind:=⟨[(480,(.op .add .i64 (.var 480) (.lit 1)))],[],[],[]⟩
theorem dk_G_ok:okS 29 480 dk_G_b [] dk_S0 dk_G_s=true:=by kernel_rfl
theorem dk_G_g:dk_G_b.ge 480=true:=by kernel_rfl
theorem dk_G_step {ρ ρ1:Rho} (hd:dk_S0.den ρ=dk_S0.den ρ1) (cok:CfgOk Try.prog ρ1 (cfgL [] (fun _=>[]))) (hl:LpsOk Try.prog ρ1 Try.f20.ntmps ([]) dk_c) (hk:Facts.ok ρ1 ((inE,true)::(eqE,false)::dkF)):StepF Try.prog Try.f20.ntmps dk_c 29 dk_S0 dk_S0 ρ (dk_G_b.ap ρ1) :=
 fam_goU dk_fits hd cok hl hk dk_G_run rfl dk_G_ok
theorem dk_G_480:lassoc 480 dk_G_b.i=some (.op .add .i64 (.var 480) (.lit 1)):=by kernel_rfl
def dk_B_s:XS:=⟨(zTM8_23++zTM8_1++zTM8_3++zTM8_4++zTM8_25),zTM8_22,143⟩
def dk_B_r:T (XE×XS):=(.ret (.ret,dk_B_s))
theorem dk_B_run:(codeX (cfgL [] (fun _=>[])).ti (callS ⟨(cfgL [] (fun _=>[])),l_able,[20009,20,33,37,58,10010,10011,10013,10014,10023,10021]⟩ 12) (((cfgL [] (fun _=>[])).ft 20).elim [] (·.ms)) 29 ([]) 1000 dk_c ((inE,true)::(eqE,true)::dkF) dk_S0).map (sqz dk_ks)=dk_B_r:=by kernel_rfl
def dk_X_s:XS:=⟨zTM8_24,zTM8_22,132⟩
def dk_X_r:T (XE×XS):=(.ret ((.exit 2),dk_X_s))
theorem dk_X_run:(codeX (cfgL [] (fun _=>[])).ti (callS ⟨(cfgL [] (fun _=>[])),l_able,[20009,20,33,37,58,10010,10011,10013,10014,10023,10021]⟩ 12) (((cfgL [] (fun _=>[])).ft 20).elim [] (·.ms)) 29 ([]) 1000 dk_c ([(inE,false)]) dk_S0).map (sqz dk_ks)=dk_X_r:=by kernel_rfl
def dk_out:T (XE×XS):=(.br (.var 481) (.ret (.ret,dk_B_s)) (.ret ((.exit 2),dk_X_s)))
noncomputable def dk:LoopX:=⟨((codeKey dk_c).getD 0),29,480,dk_E,noB,[],dk_out⟩
theorem dk_B_end {ρ1:Rho} (cok:CfgOk Try.prog ρ1 (cfgL [] (fun _=>[]))) (hl:LpsOk Try.prog ρ1 Try.f20.ntmps ([]) dk_c) (hk:Facts.ok ρ1 ((inE,true)::(eqE,true)::dkF)) (ho:dk_out.sel ρ1=some (.ret,dk_B_s)):EndL Try.prog Try.f20.ntmps dk_c 29 dk_S0 dk_out ρ1 :=
 fam_endU dk_fits cok hl hk dk_B_run rfl (fun h=>nomatch h) ho (by kernel_rfl)
theorem dk_X_end {ρ1:Rho} (cok:CfgOk Try.prog ρ1 (cfgL [] (fun _=>[]))) (hl:LpsOk Try.prog ρ1 Try.f20.ntmps ([]) dk_c) (hk:Facts.ok ρ1 ([(inE,false)])) (ho:dk_out.sel ρ1=some ((.exit 2),dk_X_s)):EndL Try.prog Try.f20.ntmps dk_c 29 dk_S0 dk_out ρ1 :=
 fam_endU dk_fits cok hl hk dk_X_run rfl (fun h=>nomatch h) ho (by kernel_rfl)
end Go.Proofs.Ytdlifdoglhhnfaa
namespace Go.Proofs.Ytdlifdoglhhnfaa
open Go Go.Proofs.Aw Go.Proofs.Xw
set_option maxRecDepth 100000
noncomputable def dkX_c:Code:=dk_c
noncomputable def dkB_c:Code:=dk_c
noncomputable def dkX:LoopX:=⟨((codeKey dk_c).getD 0),29,480,dk_E,noB,[],.ret (.exit 2,dk_X_s)⟩
noncomputable def dkB:LoopX:=⟨((codeKey dk_c).getD 0),29,480,dk_E,noB,[],.ret (.ret,dk_B_s)⟩
noncomputable def dn_c:Code:=(loopsOf (Try.f20.body.getD .skip))[0]?.getD .skip
theorem dn_fits:fitsC Try.f20.ntmps dn_c=true:=by kernel_rfl
def dn_E:XS:=⟨zTM8_26,[((29,0),zTM8_15),((56,0),zTM8_28)],59⟩
def dn_ks:List Nat:=[9,8,35,34,33,32,31,30,29,28,27,26,25,24,23,22,21,20,19,18,17,16,15,14,13,12,11,7,6,3,0,1,2]
theorem dn_Eb:dn_E.bel 470=true:=by kernel_rfl
def dn_S0:XS:=⟨zTM8_26,zTM8_29,59⟩
def dn_S1:XS:=⟨(zTM8_3++zTM8_4++zTM8_18),zTM8_22,110⟩
def dn_I0:Bind:=⟨[],[],[],[]⟩
theorem dn_I0ok:okS 29 470 dn_I0 [] dn_S0 dn_E=true:=by kernel_rfl
theorem dn_I0g:dn_I0.ge 470=true:=by kernel_rfl
def dn_A_s:XS:=⟨([(9,zTM8_19),(8,zTM8_2)]++zTM8_4++zTM8_18),[((56,0),[zTM8_16,(.sl (91,0) 1 0 1 true),(.sl (113,0) 25 0 1 true),(.sl (102,0) 1 0 1 true),zTM8_19,zTM8_6,zTM8_7,zTM8_8,zTM8_9,zTM8_10,zTM8_11,zTM8_12,zTM8_13,zTM8_14,zTM8_20,(.sc zTM8_0)]),((91,0),[(.sc (.s (.cl 2 0 (.lit 0))))]),((102,0),[(.sc zTM8_0)]),((113,0),[(.sc zTM8_0),zTM8_20,(.sc zTM8_0),(.sc zTM8_0),(.sc zTM8_0),(.sc zTM8_0),(.sc zTM8_0),(.sc zTM8_0),(.sc (.s (.lit ⟨#[]⟩))),(.sc (.s (.lit ⟨#[]⟩))),zTM8_20,(.sc zTM8_0),(.sc zTM8_0),(.sc zTM8_0),(.sc zTM8_0),(.sc zTM8_0),(.sc zTM8_0),(.sc zTM8_0),(.sc zTM8_0),(.sc zTM8_0),(.sc zTM8_0),(.sc zTM8_0),(.sc zTM8_0),(.sc zTM8_0),(.sc zTM8_0)])],120⟩
def dn_A_r:T (XE×XS):=(.ret (.normal,dn_A_s))
theorem dn_A_run:(codeX (cfgL [] (fun _=>[])).ti (callS ⟨(cfgL [] (fun _=>[])),l_able,[20009,20,33,37,58,10010,10011,10013,10014,10023,10021]⟩ 12) (((cfgL [] (fun _=>[])).ft 20).elim [] (·.ms)) 29 ([]) 1000 dn_c ((.lt (.slen (.cl 2 0 (.lit 0))) (.lit 1),false)::(.lt (.lit 16) (.slen (.cl 2 0 (.lit 0))),false)::(.lt (.len 2) (.lit 1),false)::[(.lt (.lit 6) (.len 2),false)]) dn_S0).map (sqz dn_ks)=dn_A_r:=by kernel_rfl
def dn_A_b:Bind:=⟨[(470,(.lit 1))],[],[],[(471,(.lit 1),(.one [(.s (.cl 2 0 (.lit 0)))])),(472,(.lit 1),(.one [zTM8_0])),(473,(.lit 1),zTM8_30)]⟩
theorem dn_A_ok:okS 29 470 dn_A_b [((101,0),(91,0)),((102,0),(113,0)),((103,0),(102,0))] dn_S1 dn_A_s=true:=by kernel_rfl
theorem dn_A_g:dn_A_b.ge 470=true:=by kernel_rfl
theorem dn_A_step {ρ ρ1:Rho} (hd:dn_S0.den ρ=dn_S0.den ρ1) (cok:CfgOk Try.prog ρ1 (cfgL [] (fun _=>[]))) (hl:LpsOk Try.prog ρ1 Try.f20.ntmps ([]) dn_c) (hk:Facts.ok ρ1 ((.lt (.slen (.cl 2 0 (.lit 0))) (.lit 1),false)::(.lt (.lit 16) (.slen (.cl 2 0 (.lit 0))),false)::(.lt (.len 2) (.lit 1),false)::[(.lt (.lit 6) (.len 2),false)])):StepF Try.prog Try.f20.ntmps dn_c 29 dn_S0 dn_S1 ρ (dn_A_b.ap ρ1) :=
 fam_goU dn_fits hd cok hl hk dn_A_run rfl dn_A_ok
theorem dn_A_470:lassoc 470 dn_A_b.i=some (.lit 1):=by kernel_rfl
theorem dn_A_r471:lassoc 471 dn_A_b.r=some ((.lit 1),(.one [(.s (.cl 2 0 (.lit 0)))])):=by kernel_rfl
theorem dn_A_r472:lassoc 472 dn_A_b.r=some ((.lit 1),(.one [(.i .i64 (.lit 0))])):=by kernel_rfl
theorem dn_A_r473:lassoc 473 dn_A_b.r=some ((.lit 1),(.one [(.i .i64 (.lit 0)),(.b (.lit false)),(.i .i64 (.lit 0)),(.i .i64 (.lit 0)),(.i .i64 (.lit 0)),(.i .i64 (.lit 0)),(.i .i64 (.lit 0)),(.i .i64 (.lit 0)),(.s (.lit ⟨#[]⟩)),(.s (.lit ⟨#[]⟩)),(.b (.lit false)),(.i .i64 (.lit 0)),(.i .i64 (.lit 0)),(.i .i64 (.lit 0)),(.i .i64 (.lit 0)),(.i .i64 (.lit 0)),(.i .i64 (.lit 0)),(.i .i64 (.lit 0)),(.i .i64 (.lit 0)),(.i .i64 (.lit 0)),(.i .i64 (.lit 0)),(.i .i64 (.lit 0)),(.i .i64 (.lit 0)),(.i .i64 (.lit 0)),(.i .i64 (.lit 0))])):=by kernel_rfl
def dn_A1_s:XS:=⟨zTM8_31,zTM8_29,73⟩
def dn_A1_r:T (XE×XS):=(.ret (.ret,dn_A1_s))
theorem dn_A1_run:(codeX (cfgL [] (fun _=>[])).ti (callS ⟨(cfgL [] (fun _=>[])),l_able,[20009,20,33,37,58,10010,10011,10013,10014,10023,10021]⟩ 12) (((cfgL [] (fun _=>[])).ft 20).elim [] (·.ms)) 29 ([]) 1000 dn_c ((.lt (.slen (.cl 2 0 (.lit 0))) (.lit 1),true)::(.lt (.len 2) (.lit 1),false)::[(.lt (.lit 6) (.len 2),false)]) dn_S0).map (sqz dn_ks)=dn_A1_r:=by kernel_rfl
def dn_A2_s:XS:=⟨zTM8_31,zTM8_29,79⟩
def dn_A2_r:T (XE×XS):=(.ret (.ret,dn_A2_s))
theorem dn_A2_run:(codeX (cfgL [] (fun _=>[])).ti (callS ⟨(cfgL [] (fun _=>[])),l_able,[20009,20,33,37,58,10010,10011,10013,10014,10023,10021]⟩ 12) (((cfgL [] (fun _=>[])).ft 20).elim [] (·.ms)) 29 ([]) 1000 dn_c ((.lt (.slen (.cl 2 0 (.lit 0))) (.lit 1),false)::(.lt (.lit 16) (.slen (.cl 2 0 (.lit 0))),true)::(.lt (.len 2) (.lit 1),false)::[(.lt (.lit 6) (.len 2),false)]) dn_S0).map (sqz dn_ks)=dn_A2_r:=by kernel_rfl
def dn_B_s:XS:=⟨([(9,(.sc (.i .i64 zTM8_32))),(8,zTM8_2)]++zTM8_4++zTM8_18),[((56,0),[zTM8_16,(.slv (142,0) 1 (.lit 0) zTM8_33 true),(.slv (164,0) 25 (.lit 0) zTM8_34 true),(.slv (153,0) 1 (.lit 0) zTM8_35 true),zTM8_19,zTM8_6,zTM8_7,zTM8_8,zTM8_9,zTM8_10,zTM8_11,zTM8_12,zTM8_13,zTM8_14,zTM8_20,(.sc zTM8_0)]),((142,0),[(.rows 1 zTM8_33 zTM8_36)]),((153,0),[(.rows 1 zTM8_35 zTM8_37)]),((164,0),[(.rows 25 zTM8_34 zTM8_38)])],171⟩
def dn_B_r:T (XE×XS):=(.ret (.normal,dn_B_s))
theorem dn_B_run:(codeX (cfgL [] (fun _=>[])).ti (callS ⟨(cfgL [] (fun _=>[])),l_able,[20009,20,33,37,58,10010,10011,10013,10014,10023,10021]⟩ 12) (((cfgL [] (fun _=>[])).ft 20).elim [] (·.ms)) 29 ([dkX]) 1000 dn_c (okD++(l6D++dnF)) dn_S1).map (sqz dn_ks)=dn_B_r:=by kernel_rfl
def dn_B_b:Bind:=⟨[(470,zTM8_32)],[],[],[(471,zTM8_33,zTM8_36),(472,zTM8_35,zTM8_37),(473,zTM8_34,zTM8_38)]⟩
theorem dn_B_ok:okS 29 470 dn_B_b [((101,0),(142,0)),((102,0),(164,0)),((103,0),(153,0))] dn_S1 dn_B_s=true:=by kernel_rfl
theorem dn_B_g:dn_B_b.ge 470=true:=by kernel_rfl
theorem dn_B_step {ρ ρ1:Rho} (hd:dn_S1.den ρ=dn_S1.den ρ1) (cok:CfgOk Try.prog ρ1 (cfgL [] (fun _=>[]))) (hl:LpsOk Try.prog ρ1 Try.f20.ntmps ([dkX]) dn_c) (hk:Facts.ok ρ1 (okD++(l6D++dnF))):StepF Try.prog Try.f20.ntmps dn_c 29 dn_S1 dn_S1 ρ (dn_B_b.ap ρ1) :=
 fam_goU dn_fits hd cok hl hk dn_B_run rfl dn_B_ok
theorem dn_B_470:lassoc 470 dn_B_b.i=some (.op .add .i64 (.var 470) (.lit 1)):=by kernel_rfl
theorem dn_B_r471:lassoc 471 dn_B_b.r=some ((.op .padd .i64 (.len 471) (.lit 1)),(.app (.len 471) (.var 471 [.s]) (.one [(.s (.cl 2 0 (.var 470)))]))):=by kernel_rfl
theorem dn_B_r472:lassoc 472 dn_B_b.r=some ((.op .padd .i64 (.len 472) (.lit 1)),(.app (.len 472) (.var 472 [(.i .i64)]) (.one [(.i .i64 (.var 470))]))):=by kernel_rfl
theorem dn_B_r473:lassoc 473 dn_B_b.r=some ((.op .padd .i64 (.len 473) (.lit 1)),(.app (.len 473) (.var 473 [(.i .i64),.b,(.i .i64),(.i .i64),(.i .i64),(.i .i64),(.i .i64),(.i .i64),.s,.s,.b,(.i .i64),(.i .i64),(.i .i64),(.i .i64),(.i .i64),(.i .i64),(.i .i64),(.i .i64),(.i .i64),(.i .i64),(.i .i64),(.i .i64),(.i .i64),(.i .i64)]) (.one [(.i .i64 (.lit 0)),(.b (.lit false)),(.i .i64 (.lit 0)),(.i .i64 (.lit 0)),(.i .i64 (.lit 0)),(.i .i64 (.lit 0)),(.i .i64 (.lit 0)),(.i .i64 (.lit 0)),(.s (.lit ⟨#[]⟩)),(.s (.lit ⟨#[]⟩)),(.b (.lit false)),(.i .i64 (.lit 0)),(.i .i64 (.lit 0)),(.i .i64 (.lit 0)),(.i .i64 (.lit 0)),(.i .i64 (.lit 0)),(.i .i64 (.lit 0)),(.i .i64 (.lit 0)),(.i .i64 (.lit 0)),(.i .i64 (.lit 0)),(.i .i64 (.lit 0)),(.i .i64 (.lit 0)),(.i .i64 (.lit 0)),(.i .i64 (.lit 0)),(.i .i64 (.lit 0))]))):=by kernel_rfl
def dn_B1_s:XS:=⟨zTM8_39,zTM8_22,124⟩
def dn_B1_r:T (XE×XS):=(.ret (.ret,dn_B1_s))
theorem dn_B1_run:(codeX (cfgL [] (fun _=>[])).ti (callS ⟨(cfgL [] (fun _=>[])),l_able,[20009,20,33,37,58,10010,10011,10013,10014,10023,10021]⟩ 12) (((cfgL [] (fun _=>[])).ft 20).elim [] (·.ms)) 29 ([]) 1000 dn_c ((inD,true)::(.lt szD (.lit 1),true)::dnF) dn_S1).map (sqz dn_ks)=dn_B1_r:=by kernel_rfl
def dn_B1_w:XS:=⟨([(9,.top),(8,.top),(35,.top),(34,.top),(33,.top),(32,.top),(31,.top),(30,.top),(29,.top),(28,.top),(27,.top),(26,.top),(25,.top),(24,.top),(23,.top),(22,.top),(21,.top),(20,.top),(19,.top),(18,.top),(17,.top),(16,.top),(15,.top),(14,.top),(13,.top),(12,.top),(11,.top)]++[(7,zTM8_19),(6,zTM8_5)]++[(3,.top),(0,.top),(1,.top),(2,.top)]),[],124⟩
def dn_B2_s:XS:=⟨zTM8_39,zTM8_22,130⟩
def dn_B2_r:T (XE×XS):=(.ret (.ret,dn_B2_s))
theorem dn_B2_run:(codeX (cfgL [] (fun _=>[])).ti (callS ⟨(cfgL [] (fun _=>[])),l_able,[20009,20,33,37,58,10010,10011,10013,10014,10023,10021]⟩ 12) (((cfgL [] (fun _=>[])).ft 20).elim [] (·.ms)) 29 ([]) 1000 dn_c ((inD,true)::(.lt szD (.lit 1),false)::(.lt (.lit 16) szD,true)::dnF) dn_S1).map (sqz dn_ks)=dn_B2_r:=by kernel_rfl
def dn_B3_s:XS:=⟨zTM8_39,zTM8_22,143⟩
def dn_B3_r:T (XE×XS):=(.ret (.ret,dn_B3_s))
theorem dn_B3_run:(codeX (cfgL [] (fun _=>[])).ti (callS ⟨(cfgL [] (fun _=>[])),l_able,[20009,20,33,37,58,10010,10011,10013,10014,10023,10021]⟩ 12) (((cfgL [] (fun _=>[])).ft 20).elim [] (·.ms)) 29 ([dkB]) 1000 dn_c (okD++dnF) dn_S1).map (sqz dn_ks)=dn_B3_r:=by kernel_rfl
def dn_X_s:XS:=⟨(zTM8_3++zTM8_4++zTM8_18),zTM8_22,114⟩
def dn_X_r:T (XE×XS):=(.ret ((.exit 0),dn_X_s))
theorem dn_X_run:(codeX (cfgL [] (fun _=>[])).ti (callS ⟨(cfgL [] (fun _=>[])),l_able,[20009,20,33,37,58,10010,10011,10013,10014,10023,10021]⟩ 12) (((cfgL [] (fun _=>[])).ft 20).elim [] (·.ms)) 29 ([]) 1000 dn_c ((inD,false)::dnF) dn_S1).map (sqz dn_ks)=dn_X_r:=by kernel_rfl
def dn_out:T (XE×XS):=(.br (.var 490) (.ret (.ret,dn_B1_w)) (.ret ((.exit 0),dn_X_s)))
noncomputable def dn:LoopX:=⟨((codeKey dn_c).getD 0),29,470,dn_E,noB,[],dn_out⟩
theorem dn_A1_end {ρ1:Rho} (cok:CfgOk Try.prog ρ1 (cfgL [] (fun _=>[]))) (hl:LpsOk Try.prog ρ1 Try.f20.ntmps ([]) dn_c) (hk:Facts.ok ρ1 ((.lt (.slen (.cl 2 0 (.lit 0))) (.lit 1),true)::(.lt (.len 2) (.lit 1),false)::[(.lt (.lit 6) (.len 2),false)])) (ho:dn_out.sel ρ1=some (.ret,dn_B1_w)):EndL Try.prog Try.f20.ntmps dn_c 29 dn_S0 dn_out ρ1 :=
 fam_endU dn_fits cok hl hk dn_A1_run rfl (fun h=>nomatch h) ho (by kernel_rfl)
theorem dn_A2_end {ρ1:Rho} (cok:CfgOk Try.prog ρ1 (cfgL [] (fun _=>[]))) (hl:LpsOk Try.prog ρ1 Try.f20.ntmps ([]) dn_c) (hk:Facts.ok ρ1 ((.lt (.slen (.cl 2 0 (.lit 0))) (.lit 1),false)::(.lt (.lit 16) (.slen (.cl 2 0 (.lit 0))),true)::(.lt (.len 2) (.lit 1),false)::[(.lt (.lit 6) (.len 2),false)])) (ho:dn_out.sel ρ1=some (.ret,dn_B1_w)):EndL Try.prog Try.f20.ntmps dn_c 29 dn_S0 dn_out ρ1 :=
 fam_endU dn_fits cok hl hk dn_A2_run rfl (fun h=>nomatch h) ho (by kernel_rfl)
theorem dn_B1_end {ρ1:Rho} (cok:CfgOk Try.prog ρ1 (cfgL [] (fun _=>[]))) (hl:LpsOk Try.prog ρ1 Try.f20.ntmps ([]) dn_c) (hk:Facts.ok ρ1 ((inD,true)::(.lt szD (.lit 1),true)::dnF)) (ho:dn_out.sel ρ1=some (.ret,dn_B1_w)):EndL Try.prog Try.f20.ntmps dn_c 29 dn_S1 dn_out ρ1 :=
 fam_endU dn_fits cok hl hk dn_B1_run rfl (fun h=>nomatch h) ho (by kernel_rfl)
theorem dn_B2_end {ρ1:Rho} (cok:CfgOk Try.prog ρ1 (cfgL [] (fun _=>[]))) (hl:LpsOk Try.prog ρ1 Try.f20.ntmps ([]) dn_c) (hk:Facts.ok ρ1 ((inD,true)::(.lt szD (.lit 1),false)::(.lt (.lit 16) szD,true)::dnF)) (ho:dn_out.sel ρ1=some (.ret,dn_B1_w)):EndL Try.prog Try.f20.ntmps dn_c 29 dn_S1 dn_out ρ1 :=
 fam_endU dn_fits cok hl hk dn_B2_run rfl (fun h=>nomatch h) ho (by kernel_rfl)
theorem dn_B3_end {ρ1:Rho} (cok:CfgOk Try.prog ρ1 (cfgL [] (fun _=>[]))) (hl:LpsOk Try.prog ρ1 Try.f20.ntmps ([dkB]) dn_c) (hk:Facts.ok ρ1 (okD++dnF)) (ho:dn_out.sel ρ1=some (.ret,dn_B1_w)):EndL Try.prog Try.f20.ntmps dn_c 29 dn_S1 dn_out ρ1 :=
 fam_endU dn_fits cok hl hk dn_B3_run rfl (fun h=>nomatch h) ho (by kernel_rfl)
theorem dn_X_end {ρ1:Rho} (cok:CfgOk Try.prog ρ1 (cfgL [] (fun _=>[]))) (hl:LpsOk Try.prog ρ1 Try.f20.ntmps ([]) dn_c) (hk:Facts.ok ρ1 ((inD,false)::dnF)) (ho:dn_out.sel ρ1=some ((.exit 0),dn_X_s)):EndL Try.prog Try.f20.ntmps dn_c 29 dn_S1 dn_out ρ1 :=
 fam_endU dn_fits cok hl hk dn_X_run rfl (fun h=>nomatch h) ho (by kernel_rfl)
end Go.Proofs.Ytdlifdoglhhnfaa
