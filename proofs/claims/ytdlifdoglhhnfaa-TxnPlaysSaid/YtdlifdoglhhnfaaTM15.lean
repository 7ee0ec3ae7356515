/- Parts of the proof, one behind the other. -/
import Derived.Test.YtdlifdoglhhnfaaTM14
import Derived.Test.YtdlifdoglhhnfaaXwM3
namespace Go.Proofs.Ytdlifdoglhhnfaa
open Go Go.Proofs.Aw Go.Proofs.Xw
set_option maxRecDepth 100000
def ksOf:List (Nat×List X×X):=[(17,[.sc (.s (.cl 2 0 (.var 620))),.sc (.i .i64 (.var 9))],.sc (.i .i64 (.var 622))),(19,[.agg (vi 602 9),.sc (.i .i64 (.var 622))],.agg (vi 623 3))]
def t2F:Facts:=[(.lt (.var 620) (.lit 0),false),(.lt (.lit 6) (.len 2),false)]
def lt2:BE := .lt (.var 620) (.len 2)
def ncE:BE := .or (.lt (.cl 600 22 (.var 620)) (.var 623)) (.or (.lt (.cl 600 23 (.var 620)) (.var 624)) (.lt (.cl 600 24 (.var 620)) (.var 625)))
noncomputable def t2_c:Code:=(loopsOf (Try.f34.body.getD .skip))[1]?.getD .skip
theorem t2_fits:fitsC Try.f34.ntmps t2_c=true:=by kernel_rfl
abbrev zTM15_0:X := .sc (.i .i64 (.lit 0))
abbrev zTM15_1:X := .sc (.i .i64 (.len 2))
abbrev zTM15_2:X := .slv (19,2) 25 (.lit 0) (.len 2) true
abbrev zTM15_3:X := .ptr (19,0) [] 20
abbrev zTM15_4:X := .ptr (19,0) [] 0
abbrev zTM15_5:X := .sc (.i .i64 (.var 601))
abbrev zTM15_6:X := .sc (.i .i64 (.var 0))
abbrev zTM15_7:X := .sc (.i .i64 (.var 1))
abbrev zTM15_8:X := .sc (.i .i64 (.var 2))
abbrev zTM15_9:X := .sc (.i .i64 (.var 3))
abbrev zTM15_10:X := .sc (.i .i64 (.var 4))
abbrev zTM15_11:X := .sc (.i .i64 (.var 5))
abbrev zTM15_12:X := .sc (.i .i64 (.var 6))
abbrev zTM15_13:X := .sc (.i .i64 (.var 7))
abbrev zTM15_14:X := .sc (.i .i64 (.var 8))
abbrev zTM15_15:X := .sc (.i .i64 (.var 602))
abbrev zTM15_16:X := .sc (.i .i64 (.var 603))
abbrev zTM15_17:X := .sc (.i .i64 (.var 604))
abbrev zTM15_18:X := .sc (.i .i64 (.var 605))
abbrev zTM15_19:X := .sc (.i .i64 (.var 606))
abbrev zTM15_20:X := .sc (.i .i64 (.var 607))
abbrev zTM15_21:X := .sc (.i .i64 (.var 608))
abbrev zTM15_22:X := .sc (.i .i64 (.var 609))
abbrev zTM15_23:X := .sc (.i .i64 (.var 610))
abbrev zTM15_24:X := .sc (.i .i64 (.var 9))
abbrev zTM15_25:X := .slv (19,1) 1 (.lit 0) (.len 2) true
abbrev zTM15_26:List X:=[zTM15_6,zTM15_7,zTM15_8,zTM15_9,zTM15_10,zTM15_11,zTM15_12,zTM15_13,zTM15_14,zTM15_15,zTM15_16,zTM15_17,zTM15_18,zTM15_19,zTM15_20,zTM15_21,zTM15_22,zTM15_23,zTM15_24,zTM15_25,zTM15_2,(.slv (19,3) 1 (.op .padd .i64 (.var 502) (.lit 1)) (.op .psub .i64 (.var 503) (.lit 1)) true),(.sc (.i .i64 (.var 519))),zTM15_0]
abbrev zTM15_27:List X:=[(.rows 1 (.len 2) (.app (.len 2) (.var 2 [.s]) (.one [(.s (.lit ⟨#[120,55]⟩))])))]
abbrev zTM15_28:List X:=[(.rows 25 (.len 2) (.var 600 [(.i .i64),.b,(.i .i64),(.i .i64),(.i .i64),(.i .i64),(.i .i64),(.i .i64),.s,.s,.b,(.i .i64),(.i .i64),(.i .i64),(.i .i64),(.i .i64),(.i .i64),(.i .i64),(.i .i64),(.i .i64),(.i .i64),(.i .i64),(.i .i64),(.i .i64),(.i .i64)]))]
abbrev zTM15_29:List X:=[(.rows 1 (.len 505) (.var 505 [(.i .i64)]))]
abbrev zTM15_30:XHp:=[((19,0),zTM15_26),((19,1),zTM15_27),((19,2),zTM15_28),((19,3),zTM15_29)]
abbrev zTM15_31:XTp:=[(36,(.sc (.i .i64 (.var 620)))),(35,zTM15_1),(34,zTM15_2),(33,zTM15_3),(32,zTM15_4),(31,zTM15_4),(11,zTM15_5),(10,zTM15_1),(9,zTM15_2),(8,zTM15_3),(7,zTM15_4),(6,zTM15_4),(0,zTM15_4)]
abbrev zTM15_32:X := .sc (.i .i64 (.lit 2))
abbrev zTM15_33:List X:=[zTM15_6,zTM15_7,zTM15_8,zTM15_9,zTM15_10,zTM15_11,zTM15_12,zTM15_13,zTM15_14,zTM15_15,zTM15_16,zTM15_17,zTM15_18,zTM15_19,zTM15_20,zTM15_21,zTM15_22,zTM15_23,zTM15_24,zTM15_25,zTM15_2,(.slv (226,0) 1 (.lit 0) (.len 621) true),zTM15_32,zTM15_0]
abbrev zTM15_34:List X:=[(.rows 1 (.len 621) (.var 621 [(.i .i64)]))]
abbrev zTM15_35:XHp:=[((19,0),zTM15_33),((19,1),zTM15_27),((19,2),zTM15_28),((226,0),zTM15_34)]
abbrev zTM15_36:IE := .op .add .i64 (.var 620) (.lit 1)
abbrev zTM15_37:XTp:=[(36,(.sc (.i .i64 zTM15_36))),(35,zTM15_1),(34,zTM15_2),(33,zTM15_3),(32,zTM15_4),(31,zTM15_4),(11,zTM15_5),(10,zTM15_1),(9,zTM15_2),(8,zTM15_3),(7,zTM15_4),(6,zTM15_4),(0,zTM15_4)]
abbrev zTM15_38:List X:=[(.sc (.i .i64 (.cl 600 0 (.var 620)))),(.sc (.b (.cl 600 1 (.var 620)))),(.sc (.i .i64 (.cl 600 2 (.var 620)))),(.sc (.i .i64 (.cl 600 3 (.var 620)))),(.sc (.i .i64 (.cl 600 4 (.var 620)))),(.sc (.i .i64 (.cl 600 5 (.var 620)))),(.sc (.i .i64 (.cl 600 6 (.var 620)))),(.sc (.i .i64 (.cl 600 7 (.var 620)))),(.sc (.s (.cl 600 8 (.var 620)))),(.sc (.s (.cl 600 9 (.var 620)))),(.sc (.b (.cl 600 10 (.var 620)))),(.sc (.i .i64 (.cl 600 11 (.var 620)))),(.sc (.i .i64 (.cl 600 12 (.var 620)))),(.sc (.i .i64 (.cl 600 13 (.var 620)))),(.sc (.i .i64 (.cl 600 14 (.var 620)))),(.sc (.i .i64 (.cl 600 15 (.var 620)))),(.sc (.i .i64 (.cl 600 16 (.var 620)))),(.sc (.i .i64 (.cl 600 17 (.var 620)))),(.sc (.i .i64 (.cl 600 18 (.var 620)))),(.sc (.i .i64 (.cl 600 19 (.var 620)))),(.sc (.i .i64 (.cl 600 20 (.var 620)))),(.sc (.i .i64 (.cl 600 21 (.var 620)))),(.sc (.i .i64 (.cl 600 22 (.var 620)))),(.sc (.i .i64 (.cl 600 23 (.var 620)))),(.sc (.i .i64 (.cl 600 24 (.var 620))))]
abbrev zTM15_39:IE := .op .padd .i64 (.len 621) (.lit 1)
abbrev zTM15_40:RL := .app (.len 621) (.var 621 [(.i .i64)]) (.one [(.i .i64 (.var 620))])
def t2_E:XS:=⟨[(36,zTM15_0),(35,zTM15_1),(34,zTM15_2),(33,zTM15_3),(32,zTM15_4),(31,zTM15_4),(11,zTM15_5),(10,zTM15_1),(9,zTM15_2),(8,zTM15_3),(7,zTM15_4),(6,zTM15_4),(0,zTM15_4)],zTM15_30,235⟩
def t2_ks:List Nat:=[36,35,34,33,32,31,11,10,9,8,7,6,0]
theorem t2_Eb:t2_E.bel 620=true:=by kernel_rfl
def t2_S0:XS:=⟨zTM15_31,zTM15_30,235⟩
def t2_S1:XS:=⟨zTM15_31,zTM15_35,235⟩
def t2_I0:Bind:=⟨[(620,(.lit 0))],[],[],[]⟩
theorem t2_I0ok:okS 222 620 t2_I0 [] t2_S0 t2_E=true:=by kernel_rfl
theorem t2_I0g:t2_I0.ge 620=true:=by kernel_rfl
theorem t2_I0_620:lassoc 620 t2_I0.i=some (.lit 0):=by kernel_rfl
def t2_Y0_s:XS:=⟨zTM15_37,[((19,0),zTM15_26),((19,1),zTM15_27),((19,2),zTM15_28),((19,3),zTM15_29),((239,0),zTM15_38)],265⟩
def t2_Y0_r:T (XE×XS):=(.ret (.normal,t2_Y0_s))
theorem t2_Y0_run:(codeX (cfgL ksOf (fun _=>[])).ti (callS ⟨(cfgL ksOf (fun _=>[])),l_able,[20009,20,33,37,58,10010,10011,10013,10014,10023,10021,20025]⟩ 12) (((cfgL ksOf (fun _=>[])).ft 34).elim [] (·.ms)) 222 ([]) 1000 t2_c ((lt2,true)::(ncE,false)::t2F) t2_S0).map (sqz t2_ks)=t2_Y0_r:=by kernel_rfl
def t2_Y0_b:Bind:=⟨[(620,(.op .add .i64 (.var 620) (.lit 1)))],[],[],[]⟩
theorem t2_Y0_ok:okS 222 620 t2_Y0_b [] t2_S0 t2_Y0_s=true:=by kernel_rfl
theorem t2_Y0_g:t2_Y0_b.ge 620=true:=by kernel_rfl
theorem t2_Y0_step {ρ ρ1:Rho} (hd:t2_S0.den ρ=t2_S0.den ρ1) (cok:CfgOk Try.prog ρ1 (cfgL ksOf (fun _=>[]))) (hl:LpsOk Try.prog ρ1 Try.f34.ntmps ([]) t2_c) (hk:Facts.ok ρ1 ((lt2,true)::(ncE,false)::t2F)):StepF Try.prog Try.f34.ntmps t2_c 222 t2_S0 t2_S0 ρ (t2_Y0_b.ap ρ1) :=
 fam_goU t2_fits hd cok hl hk t2_Y0_run rfl t2_Y0_ok
theorem t2_Y0_620:lassoc 620 t2_Y0_b.i=some (.op .add .i64 (.var 620) (.lit 1)):=by kernel_rfl
def t2_N0_s:XS:=⟨zTM15_37,[((19,0),[zTM15_6,zTM15_7,zTM15_8,zTM15_9,zTM15_10,zTM15_11,zTM15_12,zTM15_13,zTM15_14,zTM15_15,zTM15_16,zTM15_17,zTM15_18,zTM15_19,zTM15_20,zTM15_21,zTM15_22,zTM15_23,zTM15_24,zTM15_25,zTM15_2,(.slv (270,0) 1 (.lit 0) (.lit 1) true),zTM15_32,zTM15_0]),((19,1),zTM15_27),((19,2),zTM15_28),((239,0),zTM15_38),((270,0),[(.rows 1 (.lit 1) (.one [(.i .i64 (.var 620))]))])],280⟩
def t2_N0_r:T (XE×XS):=(.need (.eq (.len 505) (.op .padd .i64 (.op .padd .i64 (.var 502) (.lit 1)) (.op .psub .i64 (.var 503) (.lit 1)))) (.ret (.normal,t2_N0_s)))
theorem t2_N0_run:(codeX (cfgL ksOf (fun _=>[])).ti (callS ⟨(cfgL ksOf (fun _=>[])),l_able,[20009,20,33,37,58,10010,10011,10013,10014,10023,10021,20025]⟩ 12) (((cfgL ksOf (fun _=>[])).ft 34).elim [] (·.ms)) 222 ([]) 1000 t2_c ((lt2,true)::(ncE,true)::(.eq (.var 503) (.lit 1),true)::tnP++t2F) t2_S0).map (sqz t2_ks)=t2_N0_r:=by kernel_rfl
def t2_N0_b:Bind:=⟨[(620,(.op .add .i64 (.var 620) (.lit 1)))],[],[],[(621,(.lit 1),(.one [(.i .i64 (.var 620))]))]⟩
theorem t2_N0_ok:okS 222 620 t2_N0_b [((226,0),(270,0))] t2_S1 t2_N0_s=true:=by kernel_rfl
theorem t2_N0_g:t2_N0_b.ge 620=true:=by kernel_rfl
theorem t2_N0_step {ρ ρ1:Rho} (hd:t2_S0.den ρ=t2_S0.den ρ1) (cok:CfgOk Try.prog ρ1 (cfgL ksOf (fun _=>[]))) (hl:LpsOk Try.prog ρ1 Try.f34.ntmps ([]) t2_c) (hk:Facts.ok ρ1 ((lt2,true)::(ncE,true)::(.eq (.var 503) (.lit 1),true)::tnP++t2F)) (h0:((.eq (.len 505) (.op .padd .i64 (.op .padd .i64 (.var 502) (.lit 1)) (.op .psub .i64 (.var 503) (.lit 1)))):BE).den ρ1=true):StepF Try.prog Try.f34.ntmps t2_c 222 t2_S0 t2_S1 ρ (t2_N0_b.ap ρ1) :=
 fam_goU t2_fits hd cok hl hk t2_N0_run (sel_need h0 rfl) t2_N0_ok
theorem t2_N0_620:lassoc 620 t2_N0_b.i=some (.op .add .i64 (.var 620) (.lit 1)):=by kernel_rfl
theorem t2_N0_r621:lassoc 621 t2_N0_b.r=some ((.lit 1),(.one [(.i .i64 (.var 620))])):=by kernel_rfl
def t2_Y1_s:XS:=⟨zTM15_37,[((19,0),zTM15_33),((19,1),zTM15_27),((19,2),zTM15_28),((226,0),zTM15_34),((239,0),zTM15_38)],265⟩
def t2_Y1_r:T (XE×XS):=(.ret (.normal,t2_Y1_s))
theorem t2_Y1_run:(codeX (cfgL ksOf (fun _=>[])).ti (callS ⟨(cfgL ksOf (fun _=>[])),l_able,[20009,20,33,37,58,10010,10011,10013,10014,10023,10021,20025]⟩ 12) (((cfgL ksOf (fun _=>[])).ft 34).elim [] (·.ms)) 222 ([]) 1000 t2_c ((lt2,true)::(ncE,false)::t2F) t2_S1).map (sqz t2_ks)=t2_Y1_r:=by kernel_rfl
def t2_Y1_b:Bind:=⟨[(620,(.op .add .i64 (.var 620) (.lit 1)))],[],[],[(621,(.len 621),(.var 621 [(.i .i64)]))]⟩
theorem t2_Y1_ok:okS 222 620 t2_Y1_b [] t2_S1 t2_Y1_s=true:=by kernel_rfl
theorem t2_Y1_g:t2_Y1_b.ge 620=true:=by kernel_rfl
theorem t2_Y1_step {ρ ρ1:Rho} (hd:t2_S1.den ρ=t2_S1.den ρ1) (cok:CfgOk Try.prog ρ1 (cfgL ksOf (fun _=>[]))) (hl:LpsOk Try.prog ρ1 Try.f34.ntmps ([]) t2_c) (hk:Facts.ok ρ1 ((lt2,true)::(ncE,false)::t2F)):StepF Try.prog Try.f34.ntmps t2_c 222 t2_S1 t2_S1 ρ (t2_Y1_b.ap ρ1) :=
 fam_goU t2_fits hd cok hl hk t2_Y1_run rfl t2_Y1_ok
theorem t2_Y1_620:lassoc 620 t2_Y1_b.i=some (.op .add .i64 (.var 620) (.lit 1)):=by kernel_rfl
theorem t2_Y1_r621:lassoc 621 t2_Y1_b.r=some ((.len 621),(.var 621 [(.i .i64)])):=by kernel_rfl
def t2_N1_s:XS:=⟨zTM15_37,[((19,0),[zTM15_6,zTM15_7,zTM15_8,zTM15_9,zTM15_10,zTM15_11,zTM15_12,zTM15_13,zTM15_14,zTM15_15,zTM15_16,zTM15_17,zTM15_18,zTM15_19,zTM15_20,zTM15_21,zTM15_22,zTM15_23,zTM15_24,zTM15_25,zTM15_2,(.slv (270,0) 1 (.lit 0) zTM15_39 true),zTM15_32,zTM15_0]),((19,1),zTM15_27),((19,2),zTM15_28),((239,0),zTM15_38),((270,0),[(.rows 1 zTM15_39 zTM15_40)])],280⟩
def t2_N1_r:T (XE×XS):=(.ret (.normal,t2_N1_s))
theorem t2_N1_run:(codeX (cfgL ksOf (fun _=>[])).ti (callS ⟨(cfgL ksOf (fun _=>[])),l_able,[20009,20,33,37,58,10010,10011,10013,10014,10023,10021,20025]⟩ 12) (((cfgL ksOf (fun _=>[])).ft 34).elim [] (·.ms)) 222 ([]) 1000 t2_c ((lt2,true)::(ncE,true)::(.lt (.lit 6) (.len 621),false)::t2F) t2_S1).map (sqz t2_ks)=t2_N1_r:=by kernel_rfl
def t2_N1_b:Bind:=⟨[(620,zTM15_36)],[],[],[(621,zTM15_39,zTM15_40)]⟩
theorem t2_N1_ok:okS 222 620 t2_N1_b [((226,0),(270,0))] t2_S1 t2_N1_s=true:=by kernel_rfl
theorem t2_N1_g:t2_N1_b.ge 620=true:=by kernel_rfl
theorem t2_N1_step {ρ ρ1:Rho} (hd:t2_S1.den ρ=t2_S1.den ρ1) (cok:CfgOk Try.prog ρ1 (cfgL ksOf (fun _=>[]))) (hl:LpsOk Try.prog ρ1 Try.f34.ntmps ([]) t2_c) (hk:Facts.ok ρ1 ((lt2,true)::(ncE,true)::(.lt (.lit 6) (.len 621),false)::t2F)):StepF Try.prog Try.f34.ntmps t2_c 222 t2_S1 t2_S1 ρ (t2_N1_b.ap ρ1) :=
 fam_goU t2_fits hd cok hl hk t2_N1_run rfl t2_N1_ok
theorem t2_N1_620:lassoc 620 t2_N1_b.i=some (.op .add .i64 (.var 620) (.lit 1)):=by kernel_rfl
theorem t2_N1_r621:lassoc 621 t2_N1_b.r=some ((.op .padd .i64 (.len 621) (.lit 1)),(.app (.len 621) (.var 621 [(.i .i64)]) (.one [(.i .i64 (.var 620))]))):=by kernel_rfl
def t2_X0_s:XS:=⟨zTM15_31,zTM15_30,236⟩
def t2_X0_r:T (XE×XS):=(.ret ((.exit 2),t2_X0_s))
theorem t2_X0_run:(codeX (cfgL [] (fun _=>[])).ti (callS ⟨(cfgL [] (fun _=>[])),l_able,[20009,20,33,37,58,10010,10011,10013,10014,10023,10021,20025]⟩ 12) (((cfgL [] (fun _=>[])).ft 34).elim [] (·.ms)) 222 ([]) 1000 t2_c ([(lt2,false)]) t2_S0).map (sqz t2_ks)=t2_X0_r:=by kernel_rfl
def t2_X1_s:XS:=⟨zTM15_31,zTM15_35,236⟩
def t2_X1_r:T (XE×XS):=(.ret ((.exit 2),t2_X1_s))
theorem t2_X1_run:(codeX (cfgL [] (fun _=>[])).ti (callS ⟨(cfgL [] (fun _=>[])),l_able,[20009,20,33,37,58,10010,10011,10013,10014,10023,10021,20025]⟩ 12) (((cfgL [] (fun _=>[])).ft 34).elim [] (·.ms)) 222 ([]) 1000 t2_c ([(lt2,false)]) t2_S1).map (sqz t2_ks)=t2_X1_r:=by kernel_rfl
def t2_out:T (XE×XS):=(.br (.var 626) (.ret ((.exit 2),t2_X0_s)) (.ret ((.exit 2),t2_X1_s)))
noncomputable def t2:LoopX:=⟨((codeKey t2_c).getD 0),222,620,t2_E,noB,[],t2_out⟩
theorem t2_X0_end {ρ1:Rho} (cok:CfgOk Try.prog ρ1 (cfgL [] (fun _=>[]))) (hl:LpsOk Try.prog ρ1 Try.f34.ntmps ([]) t2_c) (hk:Facts.ok ρ1 ([(lt2,false)])) (ho:t2_out.sel ρ1=some ((.exit 2),t2_X0_s)):EndL Try.prog Try.f34.ntmps t2_c 222 t2_S0 t2_out ρ1 :=
 fam_endU t2_fits cok hl hk t2_X0_run rfl (fun h=>nomatch h) ho (by kernel_rfl)
theorem t2_X1_end {ρ1:Rho} (cok:CfgOk Try.prog ρ1 (cfgL [] (fun _=>[]))) (hl:LpsOk Try.prog ρ1 Try.f34.ntmps ([]) t2_c) (hk:Facts.ok ρ1 ([(lt2,false)])) (ho:t2_out.sel ρ1=some ((.exit 2),t2_X1_s)):EndL Try.prog Try.f34.ntmps t2_c 222 t2_S1 t2_out ρ1 :=
 fam_endU t2_fits cok hl hk t2_X1_run rfl (fun h=>nomatch h) ho (by kernel_rfl)
end Go.Proofs.Ytdlifdoglhhnfaa
