/- Parts of the proof, one behind the other. -/
import Derived.Test.YtdlifdoglhhnfaaTM16
import Derived.Test.YtdlifdoglhhnfaaXwM3
import Derived.Test.YtdlifdoglhhnfaaTM12
namespace Go.Proofs.Ytdlifdoglhhnfaa
open Go Go.Proofs.Aw Go.Proofs.Xw
set_option maxRecDepth 100000
noncomputable def fdN_c:Code:=fd_c
noncomputable def fdR_c:Code:=fd_c
noncomputable def fdN:LoopX:=⟨((codeKey fd_c).getD 0),156,639,fd_E,noB,[],.ret (.exit 0,fd_X0_s)⟩
noncomputable def fdR:LoopX:=⟨((codeKey fd_c).getD 0),156,639,fd_E,noB,[],.ret (.exit 0,fd_X1_s)⟩
def ke20:X := .rl 20 (.len 641) (.var 641 ke) false
def ksTw:List (Nat×List X×X):=[(44,[.agg (vi 520 9),.agg (vi 650 9)],.agg (vi 602 9))]
def ksFR:List (Nat×List X×X):=(43,[ke20],.agg (vi 650 9))::ksTw
def ksFN:List (Nat×List X×X):=(43,[.k (.slice none 0 0)],.agg (vi 650 9))::ksTw
def ksDO:List (Nat×List X×X):=[(45,[.sc (.s (.cl 471 0 (.var 660))),.sc (.i .i64 (.var 9))],.sc (.i .i64 (.var 662))),(47,[.agg (vi 602 9),.sc (.i .i64 (.var 662))],.agg (vi 663 3)),(46,[.agg [.sc (.i .i64 (.cl 639 22 (.var 660))),.sc (.i .i64 (.cl 639 23 (.var 660))),.sc (.i .i64 (.cl 639 24 (.var 660)))],.agg (vi 663 3)],.sc (.b (.not (.var 666))))]
def inT:BE := .lt (.var 660) (.len 471)
def tdF:Facts:=[(.lt (.var 660) (.lit 0),false),(.lt (.len 2) (.lit 1),false),(.lt (.lit 6) (.len 2),false),(.eq (.len 473) (.len 2),true),(.eq (.len 471) (.len 2),true),(.lt (.var 660) (.len 473),true),(.lt (.var 660) (.len 2),true)]
noncomputable def td_c:Code:=(loopsOf (Try.f26.body.getD .skip))[1]?.getD .skip
theorem td_fits:fitsC Try.f26.ntmps td_c=true:=by kernel_rfl
abbrev zTM17_0:X := .k (.slice none 0 0)
abbrev zTM17_1:XTp:=[(123,.top),(122,.top),(121,.top),(120,.top),(119,.top),(118,.top),(117,.top),(116,.top),(115,.top),(114,.top),(7,.top),(6,.top),(82,.top),(81,.top),(80,.top),(79,.top),(78,.top),(77,.top),(76,.top),(75,.top),(74,.top),(73,.top),(72,.top),(71,.top),(70,.top),(69,.top),(68,.top),(67,.top),(66,.top),(65,.top),(64,.top),(63,.top),(62,.top),(61,.top),(60,.top),(59,.top),(58,.top),(57,.top),(56,.top),(55,.top),(54,.top),(53,.top),(52,.top),(51,.top),(50,.top),(49,.top),(48,.top),(47,.top),(46,.top),(45,.top),(44,.top),(43,.top),(42,.top),(41,.top),(40,.top),(39,.top),(38,.top),(37,.top),(36,.top),(35,.top),(34,.top),(33,.top),(32,.top),(31,.top),(30,.top),(29,.top),(5,.top),(26,.top),(25,.top),(24,.top),(17,.top),(16,.top),(15,.top),(14,.top),(13,.top),(12,.top),(11,.top)]
abbrev zTM17_2:XTp:=[(4,(.sc (.i .i64 (.lit 0)))),(3,.top),(0,(.ptr (28,0) [] 0)),(1,(.agg [(.sc (.i .i64 (.cl 3 0 (.var 500)))),(.sc (.b (.cl 3 1 (.var 500)))),(.sc (.i .i64 (.cl 3 2 (.var 500)))),(.sc (.i .i64 (.cl 3 3 (.var 500)))),(.sc (.i .i64 (.cl 3 4 (.var 500)))),(.sc (.i .i64 (.cl 3 5 (.var 500)))),(.sc (.i .i64 (.cl 3 6 (.var 500)))),(.sc (.i .i64 (.cl 3 7 (.var 500)))),(.sc (.s (.cl 3 8 (.var 500)))),(.sc (.s (.cl 3 9 (.var 500)))),(.sc (.b (.cl 3 10 (.var 500)))),(.sc (.i .i64 (.cl 3 11 (.var 500)))),(.sc (.i .i64 (.cl 3 12 (.var 500)))),(.sc (.i .i64 (.cl 3 13 (.var 500)))),(.sc (.i .i64 (.cl 3 14 (.var 500)))),(.sc (.i .i64 (.cl 3 15 (.var 500)))),(.sc (.i .i64 (.cl 3 16 (.var 500)))),(.sc (.i .i64 (.cl 3 17 (.var 500)))),(.sc (.i .i64 (.cl 3 18 (.var 500)))),(.sc (.i .i64 (.cl 3 19 (.var 500)))),(.sc (.i .i64 (.cl 3 20 (.var 500)))),(.sc (.i .i64 (.cl 3 21 (.var 500)))),(.sc (.i .i64 (.cl 3 22 (.var 500)))),(.sc (.i .i64 (.cl 3 23 (.var 500)))),(.sc (.i .i64 (.cl 3 24 (.var 500))))]))]
abbrev zTM17_3:List X:=[(.sc (.i .i64 (.var 9))),(.slv (28,1) 1 (.lit 0) (.len 471) true),(.slv (28,2) 25 (.lit 0) (.len 473) true),(.slv (28,3) 1 (.op .padd .i64 (.var 507) (.lit 1)) (.op .psub .i64 (.var 508) (.lit 1)) true),(.sc (.i .i64 (.var 529))),(.sc (.i .i64 (.var 602))),(.sc (.i .i64 (.var 603))),(.sc (.i .i64 (.var 604))),(.sc (.i .i64 (.var 605))),(.sc (.i .i64 (.var 606))),(.sc (.i .i64 (.var 607))),(.sc (.i .i64 (.var 608))),(.sc (.i .i64 (.var 609))),(.sc (.i .i64 (.var 610))),(.sc (.b (.var 530))),(.sc (.i .i64 (.var 531)))]
abbrev zTM17_4:List X:=[(.rows 1 (.len 471) (.var 471 [.s]))]
abbrev zTM17_5:List X:=[(.rows 25 (.len 473) (.var 639 [(.i .i64),.b,(.i .i64),(.i .i64),(.i .i64),(.i .i64),(.i .i64),(.i .i64),.s,.s,.b,(.i .i64),(.i .i64),(.i .i64),(.i .i64),(.i .i64),(.i .i64),(.i .i64),(.i .i64),(.i .i64),(.i .i64),(.i .i64),(.i .i64),(.i .i64),(.i .i64)]))]
abbrev zTM17_6:List X:=[(.rows 1 (.len 509) (.var 509 [(.i .i64)]))]
abbrev zTM17_7:XHp:=[((28,0),zTM17_3),((28,1),zTM17_4),((28,2),zTM17_5),((28,3),zTM17_6)]
abbrev zTM17_8:X := .sc (.i .i64 (.var 660))
abbrev zTM17_9:XTp:=([(9,zTM17_8),(8,zTM17_0)]++zTM17_1++zTM17_2)
abbrev zTM17_10:X := .slv (240,0) 1 (.lit 0) (.len 661) true
abbrev zTM17_11:XTp:=([(9,zTM17_8),(8,zTM17_10)]++zTM17_1++zTM17_2)
abbrev zTM17_12:XHp:=[((28,0),zTM17_3),((28,1),zTM17_4),((28,2),zTM17_5),((28,3),zTM17_6),((240,0),[(.rows 1 (.len 661) (.var 661 [(.i .i64)]))])]
abbrev zTM17_13:IE := .op .add .i64 (.var 660) (.lit 1)
abbrev zTM17_14:X := .sc (.i .i64 zTM17_13)
abbrev zTM17_15:IE := .op .padd .i64 (.len 661) (.lit 1)
abbrev zTM17_16:RL := .app (.len 661) (.var 661 [(.i .i64)]) (.one [(.i .i64 (.var 660))])
def td_E:XS:=⟨([(9,(.sc (.i .i64 (.lit 0)))),(8,zTM17_0)]++zTM17_1++zTM17_2),zTM17_7,251⟩
def td_ks:List Nat:=[9,8,123,122,121,120,119,118,117,116,115,114,7,6,82,81,80,79,78,77,76,75,74,73,72,71,70,69,68,67,66,65,64,63,62,61,60,59,58,57,56,55,54,53,52,51,50,49,48,47,46,45,44,43,42,41,40,39,38,37,36,35,34,33,32,31,30,29,5,26,25,24,17,16,15,14,13,12,11,4,3,0,1]
theorem td_Eb:td_E.bel 660=true:=by kernel_rfl
def td_S0:XS:=⟨zTM17_9,zTM17_7,251⟩
def td_S1:XS:=⟨zTM17_11,zTM17_12,251⟩
def td_I0:Bind:=⟨[(660,(.lit 0))],[],[],[]⟩
theorem td_I0ok:okS 156 660 td_I0 [] td_S0 td_E=true:=by kernel_rfl
theorem td_I0g:td_I0.ge 660=true:=by kernel_rfl
theorem td_I0_660:lassoc 660 td_I0.i=some (.lit 0):=by kernel_rfl
def td_Y0_s:XS:=⟨([(9,zTM17_14),(8,zTM17_0)]++zTM17_1++zTM17_2),zTM17_7,290⟩
def td_Y0_r:T (XE×XS):=(.ret (.normal,td_Y0_s))
theorem td_Y0_run:(codeX (cfgL ksDO (fun _=>[])).ti (callS ⟨(cfgL ksDO (fun _=>[])),l_able,[20009,20,33,37,58,10010,10011,10013,10014,10023,10021,20025]⟩ 12) (((cfgL ksDO (fun _=>[])).ft 26).elim [] (·.ms)) 156 ([]) 1000 td_c ((inT,true)::(.var 666,false)::tdF) td_S0).map (sqz td_ks)=td_Y0_r:=by kernel_rfl
def td_Y0_b:Bind:=⟨[(660,(.op .add .i64 (.var 660) (.lit 1)))],[],[],[]⟩
theorem td_Y0_ok:okS 156 660 td_Y0_b [] td_S0 td_Y0_s=true:=by kernel_rfl
theorem td_Y0_g:td_Y0_b.ge 660=true:=by kernel_rfl
theorem td_Y0_step {ρ ρ1:Rho} (hd:td_S0.den ρ=td_S0.den ρ1) (cok:CfgOk Try.prog ρ1 (cfgL ksDO (fun _=>[]))) (hl:LpsOk Try.prog ρ1 Try.f26.ntmps ([]) td_c) (hk:Facts.ok ρ1 ((inT,true)::(.var 666,false)::tdF)):StepF Try.prog Try.f26.ntmps td_c 156 td_S0 td_S0 ρ (td_Y0_b.ap ρ1) :=
 fam_goU td_fits hd cok hl hk td_Y0_run rfl td_Y0_ok
theorem td_Y0_660:lassoc 660 td_Y0_b.i=some (.op .add .i64 (.var 660) (.lit 1)):=by kernel_rfl
def td_N0_s:XS:=⟨([(9,zTM17_14),(8,(.sl (290,0) 1 0 1 true))]++zTM17_1++zTM17_2),[((28,0),zTM17_3),((28,1),zTM17_4),((28,2),zTM17_5),((28,3),zTM17_6),((290,0),[zTM17_8])],295⟩
def td_N0_r:T (XE×XS):=(.ret (.normal,td_N0_s))
theorem td_N0_run:(codeX (cfgL ksDO (fun _=>[])).ti (callS ⟨(cfgL ksDO (fun _=>[])),l_able,[20009,20,33,37,58,10010,10011,10013,10014,10023,10021,20025]⟩ 12) (((cfgL ksDO (fun _=>[])).ft 26).elim [] (·.ms)) 156 ([]) 1000 td_c ((inT,true)::(.var 666,true)::tdF) td_S0).map (sqz td_ks)=td_N0_r:=by kernel_rfl
def td_N0_b:Bind:=⟨[(660,(.op .add .i64 (.var 660) (.lit 1)))],[],[],[(661,(.lit 1),(.one [(.i .i64 (.var 660))]))]⟩
theorem td_N0_ok:okS 156 660 td_N0_b [((240,0),(290,0))] td_S1 td_N0_s=true:=by kernel_rfl
theorem td_N0_g:td_N0_b.ge 660=true:=by kernel_rfl
theorem td_N0_step {ρ ρ1:Rho} (hd:td_S0.den ρ=td_S0.den ρ1) (cok:CfgOk Try.prog ρ1 (cfgL ksDO (fun _=>[]))) (hl:LpsOk Try.prog ρ1 Try.f26.ntmps ([]) td_c) (hk:Facts.ok ρ1 ((inT,true)::(.var 666,true)::tdF)):StepF Try.prog Try.f26.ntmps td_c 156 td_S0 td_S1 ρ (td_N0_b.ap ρ1) :=
 fam_goU td_fits hd cok hl hk td_N0_run rfl td_N0_ok
theorem td_N0_660:lassoc 660 td_N0_b.i=some (.op .add .i64 (.var 660) (.lit 1)):=by kernel_rfl
theorem td_N0_r661:lassoc 661 td_N0_b.r=some ((.lit 1),(.one [(.i .i64 (.var 660))])):=by kernel_rfl
def td_Y1_s:XS:=⟨([(9,zTM17_14),(8,zTM17_10)]++zTM17_1++zTM17_2),zTM17_12,290⟩
def td_Y1_r:T (XE×XS):=(.ret (.normal,td_Y1_s))
theorem td_Y1_run:(codeX (cfgL ksDO (fun _=>[])).ti (callS ⟨(cfgL ksDO (fun _=>[])),l_able,[20009,20,33,37,58,10010,10011,10013,10014,10023,10021,20025]⟩ 12) (((cfgL ksDO (fun _=>[])).ft 26).elim [] (·.ms)) 156 ([]) 1000 td_c ((inT,true)::(.var 666,false)::tdF) td_S1).map (sqz td_ks)=td_Y1_r:=by kernel_rfl
def td_Y1_b:Bind:=⟨[(660,(.op .add .i64 (.var 660) (.lit 1)))],[],[],[(661,(.len 661),(.var 661 [(.i .i64)]))]⟩
theorem td_Y1_ok:okS 156 660 td_Y1_b [] td_S1 td_Y1_s=true:=by kernel_rfl
theorem td_Y1_g:td_Y1_b.ge 660=true:=by kernel_rfl
theorem td_Y1_step {ρ ρ1:Rho} (hd:td_S1.den ρ=td_S1.den ρ1) (cok:CfgOk Try.prog ρ1 (cfgL ksDO (fun _=>[]))) (hl:LpsOk Try.prog ρ1 Try.f26.ntmps ([]) td_c) (hk:Facts.ok ρ1 ((inT,true)::(.var 666,false)::tdF)):StepF Try.prog Try.f26.ntmps td_c 156 td_S1 td_S1 ρ (td_Y1_b.ap ρ1) :=
 fam_goU td_fits hd cok hl hk td_Y1_run rfl td_Y1_ok
theorem td_Y1_660:lassoc 660 td_Y1_b.i=some (.op .add .i64 (.var 660) (.lit 1)):=by kernel_rfl
theorem td_Y1_r661:lassoc 661 td_Y1_b.r=some ((.len 661),(.var 661 [(.i .i64)])):=by kernel_rfl
def td_N1_s:XS:=⟨([(9,zTM17_14),(8,(.slv (290,0) 1 (.lit 0) zTM17_15 true))]++zTM17_1++zTM17_2),[((28,0),zTM17_3),((28,1),zTM17_4),((28,2),zTM17_5),((28,3),zTM17_6),((290,0),[(.rows 1 zTM17_15 zTM17_16)])],295⟩
def td_N1_r:T (XE×XS):=(.ret (.normal,td_N1_s))
theorem td_N1_run:(codeX (cfgL ksDO (fun _=>[])).ti (callS ⟨(cfgL ksDO (fun _=>[])),l_able,[20009,20,33,37,58,10010,10011,10013,10014,10023,10021,20025]⟩ 12) (((cfgL ksDO (fun _=>[])).ft 26).elim [] (·.ms)) 156 ([]) 1000 td_c ((inT,true)::(.var 666,true)::(.lt (.lit 6) (.len 661),false)::tdF) td_S1).map (sqz td_ks)=td_N1_r:=by kernel_rfl
def td_N1_b:Bind:=⟨[(660,zTM17_13)],[],[],[(661,zTM17_15,zTM17_16)]⟩
theorem td_N1_ok:okS 156 660 td_N1_b [((240,0),(290,0))] td_S1 td_N1_s=true:=by kernel_rfl
theorem td_N1_g:td_N1_b.ge 660=true:=by kernel_rfl
theorem td_N1_step {ρ ρ1:Rho} (hd:td_S1.den ρ=td_S1.den ρ1) (cok:CfgOk Try.prog ρ1 (cfgL ksDO (fun _=>[]))) (hl:LpsOk Try.prog ρ1 Try.f26.ntmps ([]) td_c) (hk:Facts.ok ρ1 ((inT,true)::(.var 666,true)::(.lt (.lit 6) (.len 661),false)::tdF)):StepF Try.prog Try.f26.ntmps td_c 156 td_S1 td_S1 ρ (td_N1_b.ap ρ1) :=
 fam_goU td_fits hd cok hl hk td_N1_run rfl td_N1_ok
theorem td_N1_660:lassoc 660 td_N1_b.i=some (.op .add .i64 (.var 660) (.lit 1)):=by kernel_rfl
theorem td_N1_r661:lassoc 661 td_N1_b.r=some ((.op .padd .i64 (.len 661) (.lit 1)),(.app (.len 661) (.var 661 [(.i .i64)]) (.one [(.i .i64 (.var 660))]))):=by kernel_rfl
def td_X0_s:XS:=⟨zTM17_9,zTM17_7,258⟩
def td_X0_r:T (XE×XS):=(.ret ((.exit 2),td_X0_s))
theorem td_X0_run:(codeX (cfgL [] (fun _=>[])).ti (callS ⟨(cfgL [] (fun _=>[])),l_able,[20009,20,33,37,58,10010,10011,10013,10014,10023,10021,20025]⟩ 12) (((cfgL [] (fun _=>[])).ft 26).elim [] (·.ms)) 156 ([]) 1000 td_c ([(inT,false)]) td_S0).map (sqz td_ks)=td_X0_r:=by kernel_rfl
def td_X1_s:XS:=⟨zTM17_11,zTM17_12,258⟩
def td_X1_r:T (XE×XS):=(.ret ((.exit 2),td_X1_s))
theorem td_X1_run:(codeX (cfgL [] (fun _=>[])).ti (callS ⟨(cfgL [] (fun _=>[])),l_able,[20009,20,33,37,58,10010,10011,10013,10014,10023,10021,20025]⟩ 12) (((cfgL [] (fun _=>[])).ft 26).elim [] (·.ms)) 156 ([]) 1000 td_c ([(inT,false)]) td_S1).map (sqz td_ks)=td_X1_r:=by kernel_rfl
def td_out:T (XE×XS):=(.br (.var 667) (.ret ((.exit 2),td_X0_s)) (.ret ((.exit 2),td_X1_s)))
noncomputable def td:LoopX:=⟨((codeKey td_c).getD 0),156,660,td_E,noB,[],td_out⟩
theorem td_X0_end {ρ1:Rho} (cok:CfgOk Try.prog ρ1 (cfgL [] (fun _=>[]))) (hl:LpsOk Try.prog ρ1 Try.f26.ntmps ([]) td_c) (hk:Facts.ok ρ1 ([(inT,false)])) (ho:td_out.sel ρ1=some ((.exit 2),td_X0_s)):EndL Try.prog Try.f26.ntmps td_c 156 td_S0 td_out ρ1 :=
 fam_endU td_fits cok hl hk td_X0_run rfl (fun h=>nomatch h) ho (by kernel_rfl)
theorem td_X1_end {ρ1:Rho} (cok:CfgOk Try.prog ρ1 (cfgL [] (fun _=>[]))) (hl:LpsOk Try.prog ρ1 Try.f26.ntmps ([]) td_c) (hk:Facts.ok ρ1 ([(inT,false)])) (ho:td_out.sel ρ1=some ((.exit 2),td_X1_s)):EndL Try.prog Try.f26.ntmps td_c 156 td_S1 td_out ρ1 :=
 fam_endU td_fits cok hl hk td_X1_run rfl (fun h=>nomatch h) ho (by kernel_rfl)
end Go.Proofs.Ytdlifdoglhhnfaa
namespace Go.Proofs.Ytdlifdoglhhnfaa
open Go Go.Proofs.Aw Go.Proofs.Xw Go.Proofs.Sr
set_option maxRecDepth 100000
theorem pastD_row (ρ:Rho) (l:Nat) (i:IE):hasBody Try.prog 43=true∧∀n h,CY Try.prog n 43 (X.denL ρ [.ro 20 [enC l i] false]) h (nineV (pa fun c=>ρ.ci l c (i.den ρ).toNat)) []:=by
 let ρ':Rho:=⟨fun _=>i.den ρ,fun _=>false,fun _=>⟨#[]⟩,fun _=>0,fun _ c k=>ρ.ci l c k,fun _ c k=>ρ.cb l c k,fun _ c k=>ρ.cs l c k⟩
 have q:=askF_ok (c:=⟨cfgL [] (fun _=>[]),l_able,[]⟩) (ρ:=ρ') (f:=43) (args:=[.ro 20 [enC 3 (.var 500)] false]) (Φ:=[]) (cN_ok ρ') l_able_ok (Facts.ok_nil ρ') (by rw[pdR_run,pd_eq];exact rfl)
 exact q
theorem cov_both (ρ:Rho) (a b a' b':Nat) (ha:∀d,d<9→ρ.i (a+d)=ρ.i (a'+d)) (hb:∀d,d<9→ρ.i (b+d)=ρ.i (b'+d)):∃t:Bool,(hasBody Try.prog 15=true∧∀n hp,CY Try.prog n 15 (X.denL ρ [.agg (vi a 9),.agg (vi b 9)]) hp (.sc (.bool t)) [])∧hasBody Try.prog 42=true∧∀n hp,CY Try.prog n 42 (X.denL ρ [.agg (vi a' 9),.agg (vi b' 9)]) hp (.sc (.bool t)) []:=by
 let ρ':Rho:=⟨fun k=>if k<580 then ρ.i (a+(k-510))else ρ.i (b+(k-580)),fun _=>false,fun _=>⟨#[]⟩,fun _=>0,fun _ _ _=>0,fun _ _ _=>false,fun _ _ _=>⟨#[]⟩⟩
 obtain⟨e,he⟩:∃e,cvR = .ret (.sc (.b e)):=⟨_,rfl⟩
 have q:=askF_ok (c:=⟨cfgL [] (fun _=>[]),l_able,[]⟩) (ρ:=ρ') (f:=15) (args:=[.agg (vi 510 9),.agg (vi 580 9)]) (Φ:=[]) (cN_ok ρ') l_able_ok (Facts.ok_nil ρ') (by rw[cvR_run,he];exact rfl)
 have q2:=askF_ok (c:=⟨cfgL [] (fun _=>[]),l_able,[]⟩) (ρ:=ρ') (f:=42) (args:=[.agg (vi 510 9),.agg (vi 580 9)]) (Φ:=[]) (cN_ok ρ') l_able_ok (Facts.ok_nil ρ') (by rw[cdR_run,cd_eq,he];exact rfl)
 have e2:X.denL ρ' [.agg (vi 510 9),.agg (vi 580 9)]=X.denL ρ [.agg (vi a' 9),.agg (vi b' 9)]:=by
  show [nineV (fun d=>ρ.i (a+d)),nineV (fun d=>ρ.i (b+d))]=[nineV (fun d=>ρ.i (a'+d)),nineV (fun d=>ρ.i (b'+d))]
  rw[nineV_eq ha,nineV_eq hb]
 rw[e2]at q2
 exact⟨_,q,q2⟩
theorem partD_row (ρ:Rho) (a:Nat) (r:IE):hasBody Try.prog 47=true∧∀n h,CY Try.prog n 47 (X.denL ρ [.agg (vi a 9),.sc (.i .i64 r)]) h (.agg [.sc (.int .i64 (pc (fun k=>ρ.i (a+k)) (r.den ρ) 0)),.sc (.int .i64 (pc (fun k=>ρ.i (a+k)) (r.den ρ) 1)),.sc (.int .i64 (pc (fun k=>ρ.i (a+k)) (r.den ρ) 2))]) []:=by
 let ρ':Rho:=⟨fun k=>if k<552 then ρ.i (a+(k-532))else r.den ρ,fun _=>false,fun _=>⟨#[]⟩,fun _=>0,fun _ _ _=>0,fun _ _ _=>false,fun _ _ _=>⟨#[]⟩⟩
 have q:=askF_ok (c:=⟨cfgL [] (fun _=>[]),l_able,[]⟩) (ρ:=ρ') (f:=47) (args:=[.agg (vi 532 9),iV 552]) (Φ:=[]) (cN_ok ρ') l_able_ok (Facts.ok_nil ρ') (by rw[dpR_run,dp_eq];exact rfl)
 exact q
def colV (a b c:Int):AV := .agg [.sc (.int .i64 a),.sc (.int .i64 b),.sc (.int .i64 c)]
theorem cc_row (a0 a1 a2 b0 b1 b2:Int) (t:Bool) (ht:t=true↔a0<b0∨a1<b1∨a2<b2):hasBody Try.prog 46=true∧∀n h,CY Try.prog n 46 [colV a0 a1 a2,colV b0 b1 b2] h (.sc (.bool (!t))) []:=by
 let ρ':Rho:=⟨fun k=>match k with | 0=>a0 | 1=>a1 | 2=>a2 | 3=>b0 | 4=>b1 | _=>b2,fun _=>false,fun _=>⟨#[]⟩,fun _=>0,fun _ _ _=>0,fun _ _ _=>false,fun _ _ _=>⟨#[]⟩⟩
 have q:=askF_ok (c:=⟨cfgL [] (fun _=>[]),l_able,[]⟩) (ρ:=ρ') (f:=46) (args:=[.agg (vi 0 3),.agg (vi 3 3)]) (Φ:=[]) (cN_ok ρ') l_able_ok (Facts.ok_nil ρ') (by rw[ccR_run];exact rfl)
 have e:X.den ρ' (.sc (.b (.and (.and (.not (.lt (.var 0) (.var 3))) (.not (.lt (.var 1) (.var 4)))) (.not (.lt (.var 2) (.var 5)))))) = .sc (.bool (!t)):=by
  simp only[X.den,Sc.den]
  congr 2
  rw[Bool.eq_iff_iff,dand_t,dand_t,dnot_t,dnot_t,dnot_t,dlt_f,dlt_f,dlt_f]
  show(b0≤a0∧b1≤a1)∧b2≤a2↔_
  rw[Bool.not_eq_true',←Bool.not_eq_true,ht]
  omega
 rw[e]at q
 exact q
theorem two_row (ρ:Rho) (a b:Nat):hasBody Try.prog 44=true∧∀n h,CY Try.prog n 44 (X.denL ρ [.agg (vi a 9),.agg (vi b 9)]) h (nineV fun d=>max (max 0 (ρ.i (a+d))) (ρ.i (b+d))) []:=by
 let ρ':Rho:=⟨fun k=>if k<580 then ρ.i (a+(k-510))else ρ.i (b+(k-580)),fun _=>false,fun _=>⟨#[]⟩,fun _=>0,fun _ _ _=>0,fun _ _ _=>false,fun _ _ _=>⟨#[]⟩⟩
 have q:=askF_ok (c:=⟨cfgL [] (fun _=>[]),l_able,[]⟩) (ρ:=ρ') (f:=44) (args:=[.agg (vi 510 9),.agg (vi 580 9)]) (Φ:=[]) (cN_ok ρ') l_able_ok (Facts.ok_nil ρ') (by rw[twR_run];exact rfl)
 exact q
theorem rv_both (ρ:Rho):∃b:Bool,(b=true→rightV ρ)∧(hasBody Try.prog 31=true∧∀n h,CY Try.prog n 31 (X.denL ρ [.agg (vi 0 9)]) h (.sc (.bool b)) [])∧hasBody Try.prog 41=true∧∀n h,CY Try.prog n 41 (X.denL ρ [.agg (vi 0 9)]) h (.sc (.bool b)) []:=by
 obtain⟨e,he⟩:∃e,r31 = .ret (.sc (.b e)):=⟨_,rfl⟩
 have q:=askF_ok (c:=⟨cfgL [] (fun _=>[]),l_able,[]⟩) (f:=31) (args:=[.agg (vi 0 9)]) (Φ:=[]) (cN_ok ρ) l_able_ok (Facts.ok_nil ρ) (by rw[r31_run,he];exact rfl)
 have q2:=askF_ok (c:=⟨cfgL [] (fun _=>[]),l_able,[]⟩) (f:=41) (args:=[.agg (vi 0 9)]) (Φ:=[]) (cN_ok ρ) l_able_ok (Facts.ok_nil ρ) (by rw[r41_run,r4_eq,he];exact rfl)
 refine⟨_,fun hb => ?_,q,q2⟩
 have h2:T.ret (X.sc (Sc.b e))=r31:=he.symm
 unfold r31 at h2
 simp only[T.ret.injEq,X.sc.injEq,Sc.b.injEq]at h2
 rw[h2]at hb
 simp only[dnot_t,dor_f,dlt_f,IE.den]at hb
 intro k hk
 obtain⟨⟨⟨a0,b0⟩,⟨a1,b1⟩,a2,b2⟩,⟨⟨a3,b3⟩,⟨a4,b4⟩,a5,b5⟩,⟨a6,b6⟩,⟨a7,b7⟩,a8,b8⟩:=hb
 match k,hk with
 | 0,_=>exact⟨a0,b0⟩
 | 1,_=>exact⟨a1,b1⟩
 | 2,_=>exact⟨a2,b2⟩
 | 3,_=>exact⟨a3,b3⟩
 | 4,_=>exact⟨a4,b4⟩
 | 5,_=>exact⟨a5,b5⟩
 | 6,_=>exact⟨a6,b6⟩
 | 7,_=>exact⟨a7,b7⟩
 | 8,_=>exact⟨a8,b8⟩
end Go.Proofs.Ytdlifdoglhhnfaa
namespace Go.Proofs.Ytdlifdoglhhnfaa
open Go Go.Proofs.Aw Go.Proofs.Xw Go.Proofs.Sr
set_option maxRecDepth 100000
noncomputable def cnt (P:Nat→Prop):Nat→Nat
 | 0=>0
 | j+1 => @ite Nat (P j) (Classical.propDecidable _) (cnt P j+1) (cnt P j)
theorem cnt_t {P:Nat→Prop} {j:Nat} (h:P j):cnt P (j+1)=cnt P j+1:=by rw[cnt];exact if_pos h
theorem cnt_f {P:Nat→Prop} {j:Nat} (h:¬P j):cnt P (j+1)=cnt P j:=by rw[cnt];exact if_neg h
theorem cnt_le (P:Nat→Prop):∀j,cnt P j≤j
 | 0=>Nat.le_refl _
 | j+1=>by
  have:=cnt_le P j
  by_cases h:P j
  ·rw[cnt_t h];omega
  ·rw[cnt_f h];omega
theorem cnt_none {P:Nat→Prop}:∀{j:Nat},(∀x,x<j→¬P x)→cnt P j=0
 | 0,_=>rfl
 | j+1,h=>by rw[cnt_f (h j (by omega))];exact cnt_none fun x hx=>h x (by omega)
theorem cnt_iff {P Q:Nat→Prop}:∀{j:Nat},(∀x,x<j→(P x↔Q x))→cnt P j=cnt Q j
 | 0,_=>rfl
 | j+1,h=>by
  have:=cnt_iff (j:=j) fun x hx=>h x (by omega)
  by_cases c:P j
  ·rw[cnt_t c,cnt_t ((h j (by omega)).1 c),this]
  ·rw[cnt_f c,cnt_f (fun k=>c ((h j (by omega)).2 k)),this]
theorem cnt_sur {P:Nat→Prop}:∀{j y:Nat},y<cnt P j→∃x,x<j∧P x∧cnt P x=y
 | 0,y,h=>absurd h (by show ¬y<0;omega)
 | j+1,y,h=>by
  by_cases c:P j
  ·rw[cnt_t c]at h
   by_cases q:y=cnt P j
   ·exact⟨j,by omega,c,q.symm⟩
   ·obtain⟨x,h1,h2⟩:=cnt_sur (P:=P) (j:=j) (y:=y) (by omega)
    exact⟨x,by omega,h2⟩
  ·rw[cnt_f c]at h
   obtain⟨x,h1,h2⟩:=cnt_sur (P:=P) (j:=j) h
   exact⟨x,by omega,h2⟩
theorem cnt_lt {P:Nat→Prop}:∀{j x:Nat},x<j→P x→cnt P x<cnt P j
 | 0,_,h,_=>absurd h (by omega)
 | j+1,x,h,hx=>by
  by_cases q:x=j
  ·subst q;rw[cnt_t hx];omega
  ·have:=cnt_lt (P:=P) (j:=j) (x:=x) (by omega) hx
   by_cases c:P j
   ·rw[cnt_t c];omega
   ·rw[cnt_f c];exact this
def LsC (ρ:Rho) (l j:Nat) (P:Nat→Prop):Prop:=ρ.len l=cnt P j∧∀x,x<j→P x→ρ.ci l 0 (cnt P x)=x
theorem LsC.agree {ρ ρ':Rho} {k l j:Nat} {P:Nat→Prop} (h:LsC ρ l j P) (ag:Agree k ρ ρ') (hl:l<k):LsC ρ' l j P :=
 ⟨by rw[←ag.len l hl];exact h.1,by rw[←ag.ci l hl];exact h.2⟩
theorem LsC.skip {ρ:Rho} {l j:Nat} {P:Nat→Prop} (h:LsC ρ l j P) (hn:¬P j):LsC ρ l (j+1) P :=
 ⟨by rw[cnt_f hn];exact h.1,fun x hx hp=>by
  by_cases q:x=j
  ·subst q;exact absurd hp hn
  ·exact h.2 x (by omega) hp⟩
theorem LsC.app {ρ:Rho} {β:Bind} {l j:Nat} {x:IE} {P:Nat→Prop} (h:LsC ρ l j P) (hr:lassoc l β.r=some (.op .padd .i64 (.len l) (.lit 1),.app (.len l) (.var l [.i .i64]) (.one [.i .i64 x]))) (hx:x.den ρ=j) (hp:P j):LsC (β.ap ρ) l (j+1) P:=by
 have row:∀y,(β.ap ρ).ci l 0 y=if y<cnt P j then ρ.ci l 0 y else j:=fun y=>by rw[ap_ci hr,row_app,h.1,hx]
 refine⟨?_,fun z hz hq => ?_⟩
 ·rw[ap_len hr,cnt_t hp]
  show((ρ.len l:Int)+1).toNat=_
  rw[h.1];omega
 ·by_cases q:z=j
  ·subst q;rw[row,if_neg (by omega)]
  ·have:=cnt_lt (P:=P) (j:=j) (x:=z) (by omega) hq
   rw[row,if_pos this];exact h.2 z (by omega) hq
theorem LsC.one {ρ:Rho} {β:Bind} {l j:Nat} {x:IE} {P:Nat→Prop} (hr:lassoc l β.r=some (.lit 1,.one [.i .i64 x])) (hx:x.den ρ=j) (hp:P j) (hn:∀y,y<j→¬P y):LsC (β.ap ρ) l (j+1) P:=by
 have row:∀y,(β.ap ρ).ci l 0 y=j:=fun y=>by rw[ap_ci hr,row_one,hx]
 refine⟨by rw[cnt_t hp,cnt_none hn];exact ap_len hr,fun z hz hq => ?_⟩
 have:z=j:=by
  rcases Nat.lt_or_ge z j with c | c
  ·exact absurd hq (hn z c)
  ·omega
 subst this
 exact row _
theorem LsC.same {ρ:Rho} {β:Bind} {l j:Nat} {P:Nat→Prop} (h:LsC ρ l j P) (hr:lassoc l β.r=some (.len l,.var l [.i .i64])):LsC (β.ap ρ) l j P :=
 ⟨by rw[ap_len hr];show((ρ.len l:Int)).toNat=_;rw[h.1];omega,fun x hx hp=>by rw[ap_ci hr,row_i];exact h.2 x hx hp⟩
def mx (an:Nat→(Nat→Int)×Bool) (d:Nat):Nat→Int
 | 0=>0
 | j+1=>if(an j).2=true then max (mx an d j) (pa (an j).1 d)else mx an d j
theorem mx_congr {an an':Nat→(Nat→Int)×Bool} {d:Nat}:∀{j:Nat},(∀x,x<j→an x=an' x)→mx an d j=mx an' d j
 | 0,_=>rfl
 | j+1,h=>by
  show(if(an j).2=true then max (mx an d j) _ else mx an d j)=if(an' j).2=true then max (mx an' d j) _ else mx an' d j
  rw[mx_congr fun x hx=>h x (by omega),h j (by omega)]
theorem mx_none {an:Nat→(Nat→Int)×Bool} {d:Nat}:∀{j:Nat},(∀x,x<j→(an x).2=false)→mx an d j=0
 | 0,_=>rfl
 | j+1,h=>by
  show(if(an j).2=true then _ else mx an d j)=0
  rw[h j (by omega)];exact mx_none fun x hx=>h x (by omega)
structure LastA (ρ:Rho) (n m:Nat) (g:Nat→ByteArray) (off κ:Nat):Prop where
 f:EnF ρ n m g
 o:ρ.i 502=off
 l:ρ.i 503=1
 r:ρ.i 519=1
 t:ρ.len 505=off+1
 on:off+1≤n
 c:ρ.ci 505 0 off=κ
 cn:κ<n
theorem LastA.agree {ρ ρ':Rho} {n m k off κ:Nat} {g:Nat→ByteArray} (h:LastA ρ n m g off κ) (ag:Agree k ρ ρ') (hk:530≤k):LastA ρ' n m g off κ :=
 ⟨h.f.agree ag (by omega),by rw[←ag.i 502 (by omega)];exact h.o,by rw[←ag.i 503 (by omega)];exact h.l,by rw[←ag.i 519 (by omega)];exact h.r,by rw[←ag.len 505 (by omega)];exact h.t,h.on,by rw[←ag.ci 505 (by omega)];exact h.c,h.cn⟩
theorem tnP_ok {ρ:Rho} {n m off κ:Nat} {g:Nat→ByteArray} (h:LastA ρ n m g off κ):Facts.ok ρ tnP:=by
 have h1:=h.f.en;have h2:=h.f.n1;have h3:=h.f.n6;have h4:=h.o;have h5:=h.l;have h6:=h.r;have h7:=h.t;have h8:=h.on;have ha:=h.cn
 have hc:(IE.cl 505 0 (.var 502)).den ρ=κ:=(cl_i (e := .var 502) h4).trans h.c
 refine Facts.ok_cons (by rw[dlt_f];simp only[IE.den];omega) (Facts.ok_cons (by rw[dlt_f];simp only[IE.den];omega) (Facts.ok_cons (by rw[dlt_f,hc];simp only[IE.den];omega) (Facts.ok_cons (by rw[dlt_t,hc];simp only[IE.den];omega) (Facts.ok_cons (by rw[deq_t];exact h6) (Facts.ok_cons (by rw[deq_t];exact h5) (Facts.ok_cons (by rw[dlt_f];simp only[IE.den];omega) (Facts.ok_cons (by rw[dlt_f];simp only[IE.den];omega) (Facts.ok_cons ?_ (Facts.ok_nil _)))))))))
 rw[deq_t]
 show(ρ.len 505:Int)=ρ.i 502+ρ.i 503
 omega
theorem t1_m:∀k,k<9→∃p,lassoc (602+k) t1_b.i=some (.ite (.cl 600 1 (.var 601)) (.op .max .i64 (.op .max .i64 (.lit 0) (.var (602+k))) p) (.var (602+k)))∧∀ρ:Rho,p.den ρ=pa (fun c=>ρ.ci 600 c (ρ.i 601).toNat) k :=
 nine ⟨_,rfl,fun _=>rfl⟩ ⟨_,rfl,fun _=>rfl⟩ ⟨_,rfl,fun _=>rfl⟩ ⟨_,rfl,fun _=>rfl⟩ ⟨_,rfl,fun _=>rfl⟩ ⟨_,rfl,fun _=>rfl⟩ ⟨_,rfl,fun _=>rfl⟩ ⟨_,rfl,fun _=>rfl⟩ ⟨_,rfl,fun _=>rfl⟩
theorem t1_i0:∀k,k<9→lassoc (602+k) t1_i.i=some (.var (510+k)):=nine rfl rfl rfl rfl rfl rfl rfl rfl rfl
theorem t1_ir:lassoc 600 t1_i.r=some (.len 2,.upd (.cl 505 0 (.var 502)) (anS 3 (.var 500)) (.var 504 ka)):=by kernel_rfl
theorem t1_br:lassoc 600 t1_b.r=some (.len 2,.var 600 ka):=by kernel_rfl
theorem t1_row {ρ:Rho} {κ i:Nat} (h1:(IE.cl 505 0 (.var 502)).den ρ=κ) (h2:ρ.i 500=i) (x:Nat):∀j:Nat,rw_ (t1_b.it (t1_i.ap ρ) j) 600 ka x=if x=κ then rw_ ρ 3 ka i else rw_ ρ 504 ka x
 | 0=>by
  show rw_ (t1_i.ap ρ) 600 ka x=_
  rw[ap_row t1_ir,upd_row ρ h1 x]
  by_cases q:x=κ
  ·rw[if_pos q,if_pos q,an_row ρ (i := .var 500) h2,kc_ka]
  ·rw[if_neg q,if_neg q,kc_ka]
 | j+1=>by
  show rw_ (t1_b.ap (t1_b.it (t1_i.ap ρ) j)) 600 ka x=_
  rw[ap_row t1_br,var_row,kc_ka];exact t1_row h1 h2 x j
theorem t1_cut (ρ:Rho) {κ i N:Nat} (h1:(IE.cl 505 0 (.var 502)).den ρ=κ) (h2:ρ.i 500=i) (hN:N<9223372036854775808) (k:Nat) (hk:k<9) (h0:0≤ρ.i (510+k)):∀j:Nat,j≤N→(t1_b.it (t1_i.ap ρ) j).i (602+k)=max (ρ.i (510+k)) (mx (An (t1_b.it (t1_i.ap ρ) N) 600) k j)
 | 0,_=>by
  show(t1_i.ap ρ).i (602+k)=max _ 0
  rw[ap_i (t1_i0 k hk)]
  show ρ.i (510+k)=_
  omega
 | j+1,hj=>by
  have ih:=t1_cut ρ h1 h2 hN k hk h0 j (by omega)
  have hc:(t1_b.it (t1_i.ap ρ) j).i 601=j:=it_count (e := .lit 0) rfl (by rfl) _ (by omega)
  have ean:An (t1_b.it (t1_i.ap ρ) N) 600 j=An (t1_b.it (t1_i.ap ρ) j) 600 j:=An_eq (by rw[t1_row h1 h2,t1_row h1 h2])
  show(t1_b.ap (t1_b.it (t1_i.ap ρ) j)).i (602+k)=max _ (if(An (t1_b.it (t1_i.ap ρ) N) 600 j).2=true then max _ (pa (An (t1_b.it (t1_i.ap ρ) N) 600 j).1 k)else _)
  rw[ean]
  generalize mx (An (t1_b.it (t1_i.ap ρ) N) 600) k j=M at ih ⊢
  generalize t1_b.it (t1_i.ap ρ) j=ρ1 at *
  obtain⟨p,e,hp⟩:=t1_m k hk
  have hv:(t1_b.ap ρ1).i (602+k)=if ρ1.cb 600 1 j=true then max (max 0 (ρ1.i (602+k))) (pa (fun c=>ρ1.ci 600 c j) k)else ρ1.i (602+k):=by
   rw[ap_i e]
   show(if(BE.cl 600 1 (.var 601)).den ρ1=true then max (max 0 (ρ1.i (602+k))) (p.den ρ1)else ρ1.i (602+k))=_
   rw[cl_b (e := .var 601) (j:=j) hc,hp,hc,Int.toNat_natCast]
  rw[hv,ih]
  show(if ρ1.cb 600 1 j=true then _ else _)=max _ (if ρ1.cb 600 1 j=true then max M (pa (norm fun c=>ρ1.ci 600 c j) k)else M)
  rw[pa_norm _ k hk]
  split<;>omega
theorem t1_ok (ρ:Rho) {n m off κ i:Nat} {g:Nat→ByteArray} (h:LastA ρ n m g off κ) (hi:ρ.i 500=i) (h0:∀d,d<9→0≤ρ.i (510+d)):∃ρf,Agree 600 ρ ρf∧(ρf.i 601=n∧(∀x,rw_ ρf 600 ka x=if x=κ then rw_ ρ 3 ka i else rw_ ρ 504 ka x)∧∀k,k<9→ρf.i (602+k)=max (ρ.i (510+k)) (mx (An ρf 600) k n))∧LoopOk Try.prog ρf Try.f34.ntmps t1_c t1:=by
 have ag:=(Bind.agree t1_ig ρ).trans (Bind.it_agree t1_bg (t1_i.ap ρ) n)
 have hn:=h.f.n6
 have h1:(IE.cl 505 0 (.var 502)).den ρ=κ:=(cl_i (e := .var 502) h.o).trans h.c
 refine⟨t1_b.it (t1_i.ap ρ) n,ag,⟨it_count (e := .lit 0) rfl (by rfl) _ (by omega),fun x=>t1_row h1 hi x n,fun k hk=>t1_cut ρ h1 hi (N:=n) (by omega) k hk (h0 k hk) n (Nat.le_refl _)⟩,?_⟩
 exact loopOk_cntE mixed tis_ok t1_run t1_fits t1_back rfl 611 t1_bel t1_ib t1_bg t1_same (I:=601) (e := .len 2) rfl (by intro h;cases h) rfl rfl (by kernel_rfl) (Φ0:=tnP) rfl (by kernel_rfl) (tnP_ok h) t1_ig (fun _=>callS_ok (c:=⟨cfgL [] (fun _=>[]),l_able,_⟩) (cfgL_ok (List.forall_mem_nil _) (fun _ _ _=>LpsOk.nil _ _ _ _)) l_able_ok 12) (fun _=>LpsOk.nil _ _ _ _) _ (by omega) (by simp only[IE.den,h.f.en])
end Go.Proofs.Ytdlifdoglhhnfaa
