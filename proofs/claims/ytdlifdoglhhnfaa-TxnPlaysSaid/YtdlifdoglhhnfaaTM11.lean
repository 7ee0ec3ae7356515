/- Parts of the proof, one behind the other. -/
import Derived.Test.YtdlifdoglhhnfaaTM9
import Derived.Test.YtdlifdoglhhnfaaXwM3
namespace Go.Proofs.Ytdlifdoglhhnfaa
open Go Go.Proofs.Aw Go.Proofs.Xw
set_option maxRecDepth 100000
def inM:BE := .lt (.var 500) (.len 3)
def cdE:IE := .cl 3 0 (.var 500)
def hasE:BE := .cl 3 1 (.var 500)
def mnF:Facts:=[(.lt (.var 500) (.lit 0),false),(.lt (.len 3) (.var 500),false),(.lt (.len 2) (.lit 1),false),(.lt (.lit 6) (.len 2),false),(.eq (.len 471) (.len 2),true),(.eq (.len 473) (.len 2),true),(.eq (.var 519) (.var 529),true)]++(List.range 9).map (fun k=>(.eq (.var (510+k)) (.var (520+k)),true))
def t0E:IE := .cl 505 0 (.var 502)
def d0E:IE := .cl 509 0 (.var 507)
def lnF:Facts:=[(.lt (.var 502) (.lit 0),false),(.lt (.lit 6) (.var 502),false),(.lt (.lit 6) (.var 503),false),(.lt (.lit 6) (.var 508),false),(.eq (.len 505) (.op .padd .i64 (.var 502) (.var 503)),true),(.lt (.var 507) (.lit 0),false),(.lt (.lit 6) (.var 507),false),(.eq (.len 509) (.op .padd .i64 (.var 507) (.var 508)),true)]
def lnT:Facts:=[(.lt (.var 502) (.lit 0),false),(.lt (.lit 6) (.var 502),false),(.lt (.lit 6) (.var 503),false),(.eq (.len 505) (.op .padd .i64 (.var 502) (.var 503)),true)]
def lvF:Facts:=lnF++[(.lt (.lit 0) (.var 503),true),(.lt (.lit 0) (.var 508),true),(.lt t0E (.lit 0),false),(.lt t0E (.len 2),true),(.lt (.var 502) (.len 505),true),(.lt d0E (.lit 0),false),(.lt d0E (.len 2),true),(.lt (.var 507) (.len 509),true),(.var 530,false),(.eq (.var 531) (.lit 0),true),(.lt (.lit 2) (.var 519),false),(.seq (.cl 2 0 t0E) (.cl 471 0 d0E),true)]
def in1:BE := .lt (.var 560) (.len 2)
def r1F:Facts:=[(.lt (.var 560) (.lit 0),false),(.lt (.len 2) (.lit 1),false),(.lt (.lit 6) (.len 2),false)]
noncomputable def r1_c:Code:=(loopsOf (Try.f22.body.getD .skip))[0]?.getD .skip
theorem r1_fits:fitsC Try.f22.ntmps r1_c=true:=by kernel_rfl
abbrev zTM11_0:X := .sc (.i .i64 (.lit 0))
abbrev zTM11_1:X := .sc (.i .i64 (.len 2))
abbrev zTM11_2:X := .slv (19,2) 25 (.lit 0) (.len 2) true
abbrev zTM11_3:X := .k (.slice none 0 0)
abbrev zTM11_4:XTp:=[(15,.top),(14,.top),(13,.top),(12,.top),(11,.top),(10,.top),(9,.top),(8,.top),(7,.top),(6,.top)]
abbrev zTM11_5:XTp:=[(2,zTM11_3),(0,(.ptr (19,0) [] 0))]
abbrev zTM11_6:X := .sc (.i .i64 (.var 9))
abbrev zTM11_7:List X:=[(.sc (.i .i64 (.var 0))),(.sc (.i .i64 (.var 1))),(.sc (.i .i64 (.var 2))),(.sc (.i .i64 (.var 3))),(.sc (.i .i64 (.var 4))),(.sc (.i .i64 (.var 5))),(.sc (.i .i64 (.var 6))),(.sc (.i .i64 (.var 7))),(.sc (.i .i64 (.var 8))),(.sc (.i .i64 (.var 510))),(.sc (.i .i64 (.var 511))),(.sc (.i .i64 (.var 512))),(.sc (.i .i64 (.var 513))),(.sc (.i .i64 (.var 514))),(.sc (.i .i64 (.var 515))),(.sc (.i .i64 (.var 516))),(.sc (.i .i64 (.var 517))),(.sc (.i .i64 (.var 518))),zTM11_6,(.slv (19,1) 1 (.lit 0) (.len 2) true),zTM11_2,(.slv (19,3) 1 (.var 502) (.var 503) true),(.sc (.i .i64 (.var 519))),zTM11_0]
abbrev zTM11_8:List X:=[(.rows 1 (.len 2) (.app (.len 2) (.var 2 [.s]) (.one [(.s (.lit ⟨#[120,55]⟩))])))]
abbrev zTM11_9:List Kd:=[(.i .i64),.b,(.i .i64),(.i .i64),(.i .i64),(.i .i64),(.i .i64),(.i .i64),.s,.s,.b,(.i .i64),(.i .i64),(.i .i64),(.i .i64),(.i .i64),(.i .i64),(.i .i64),(.i .i64),(.i .i64),(.i .i64),(.i .i64),(.i .i64),(.i .i64),(.i .i64)]
abbrev zTM11_10:List X:=[(.rows 25 (.len 2) (.var 504 zTM11_9))]
abbrev zTM11_11:List X:=[(.rows 1 (.len 505) (.var 505 [(.i .i64)]))]
abbrev zTM11_12:XTp:=([(21,(.sc (.i .i64 (.var 560)))),(20,zTM11_1),(19,zTM11_2),(18,.top),(17,.top),(16,.top),(3,(.slv (110,0) 22 (.lit 0) (.len 561) true))]++zTM11_4++zTM11_5)
abbrev zTM11_13:List Kd:=[.s,.b,(.i .i64),(.i .i64),(.i .i64),(.i .i64),(.i .i64),(.i .i64),.s,.s,.b,(.i .i64),(.i .i64),(.i .i64),(.i .i64),(.i .i64),(.i .i64),(.i .i64),(.i .i64),(.i .i64),(.i .i64),(.i .i64)]
abbrev zTM11_14:XHp:=[((19,0),zTM11_7),((19,1),zTM11_8),((19,2),zTM11_10),((19,3),zTM11_11),((110,0),[(.rows 22 (.len 561) (.var 561 zTM11_13))])]
abbrev zTM11_15:X := .sc (.i .i64 (.lit 1))
abbrev zTM11_16:X := .sc (.b (.cl 504 1 (.lit 0)))
abbrev zTM11_17:X := .sc (.i .i64 (.cl 504 2 (.lit 0)))
abbrev zTM11_18:X := .sc (.i .i64 (.cl 504 3 (.lit 0)))
abbrev zTM11_19:X := .sc (.i .i64 (.cl 504 4 (.lit 0)))
abbrev zTM11_20:X := .sc (.i .i64 (.cl 504 5 (.lit 0)))
abbrev zTM11_21:X := .sc (.i .i64 (.cl 504 6 (.lit 0)))
abbrev zTM11_22:X := .sc (.i .i64 (.cl 504 7 (.lit 0)))
abbrev zTM11_23:X := .sc (.s (.cl 504 8 (.lit 0)))
abbrev zTM11_24:X := .sc (.s (.cl 504 9 (.lit 0)))
abbrev zTM11_25:X := .sc (.b (.cl 504 10 (.lit 0)))
abbrev zTM11_26:X := .sc (.i .i64 (.cl 504 11 (.lit 0)))
abbrev zTM11_27:X := .sc (.i .i64 (.cl 504 12 (.lit 0)))
abbrev zTM11_28:X := .sc (.i .i64 (.cl 504 13 (.lit 0)))
abbrev zTM11_29:X := .sc (.i .i64 (.cl 504 14 (.lit 0)))
abbrev zTM11_30:X := .sc (.i .i64 (.cl 504 15 (.lit 0)))
abbrev zTM11_31:X := .sc (.i .i64 (.cl 504 16 (.lit 0)))
abbrev zTM11_32:X := .sc (.i .i64 (.cl 504 17 (.lit 0)))
abbrev zTM11_33:X := .sc (.i .i64 (.cl 504 18 (.lit 0)))
abbrev zTM11_34:X := .sc (.i .i64 (.cl 504 19 (.lit 0)))
abbrev zTM11_35:X := .sc (.i .i64 (.cl 504 20 (.lit 0)))
abbrev zTM11_36:X := .sc (.i .i64 (.cl 504 21 (.lit 0)))
abbrev zTM11_37:IE := .op .add .i64 (.var 560) (.lit 1)
abbrev zTM11_38:IE := .op .padd .i64 (.len 561) (.lit 1)
abbrev zTM11_39:Sc := .i .i64 (.cl 504 2 (.var 560))
abbrev zTM11_40:Sc := .i .i64 (.cl 504 3 (.var 560))
abbrev zTM11_41:Sc := .i .i64 (.cl 504 4 (.var 560))
abbrev zTM11_42:Sc := .i .i64 (.cl 504 5 (.var 560))
abbrev zTM11_43:Sc := .i .i64 (.cl 504 6 (.var 560))
abbrev zTM11_44:Sc := .i .i64 (.cl 504 7 (.var 560))
abbrev zTM11_45:Sc := .i .i64 (.cl 504 11 (.var 560))
abbrev zTM11_46:Sc := .i .i64 (.cl 504 12 (.var 560))
abbrev zTM11_47:Sc := .i .i64 (.cl 504 13 (.var 560))
abbrev zTM11_48:Sc := .i .i64 (.cl 504 14 (.var 560))
abbrev zTM11_49:Sc := .i .i64 (.cl 504 15 (.var 560))
abbrev zTM11_50:Sc := .i .i64 (.cl 504 16 (.var 560))
abbrev zTM11_51:Sc := .i .i64 (.cl 504 17 (.var 560))
abbrev zTM11_52:Sc := .i .i64 (.cl 504 18 (.var 560))
abbrev zTM11_53:Sc := .i .i64 (.cl 504 19 (.var 560))
abbrev zTM11_54:Sc := .i .i64 (.cl 504 20 (.var 560))
abbrev zTM11_55:Sc := .i .i64 (.cl 504 21 (.var 560))
abbrev zTM11_56:RL := .app (.len 561) (.var 561 zTM11_13) (.one [(.s (.cl 2 0 (.var 560))),(.b (.cl 504 1 (.var 560))),zTM11_39,zTM11_40,zTM11_41,zTM11_42,zTM11_43,zTM11_44,(.s (.cl 504 8 (.var 560))),(.s (.cl 504 9 (.var 560))),(.b (.cl 504 10 (.var 560))),zTM11_45,zTM11_46,zTM11_47,zTM11_48,zTM11_49,zTM11_50,zTM11_51,zTM11_52,zTM11_53,zTM11_54,zTM11_55])
abbrev zTM11_57:X := .rl 1 (.len 471) (.var 471 [.s]) false
abbrev zTM11_58:X := .rl 25 (.len 473) (.var 506 zTM11_9) false
abbrev zTM11_59:X := .ip [zTM11_6,zTM11_57,zTM11_58,(.rl 1 (.var 508) (.drop (.var 507) (.var 509 [(.i .i64)])) false),(.sc (.i .i64 (.var 529))),(.sc (.i .i64 (.var 520))),(.sc (.i .i64 (.var 521))),(.sc (.i .i64 (.var 522))),(.sc (.i .i64 (.var 523))),(.sc (.i .i64 (.var 524))),(.sc (.i .i64 (.var 525))),(.sc (.i .i64 (.var 526))),(.sc (.i .i64 (.var 527))),(.sc (.i .i64 (.var 528))),(.sc (.b (.var 530))),(.sc (.i .i64 (.var 531)))] [] 0
abbrev zTM11_60:X := .slv (140,0) 22 (.lit 0) (.len 571) true
abbrev zTM11_61:XTp:=[(4,(.sc (.i .i64 (.var 570)))),(3,zTM11_60),(2,zTM11_3),(0,zTM11_59)]
abbrev zTM11_62:XHp:=[((140,0),[(.rows 22 (.len 571) (.var 571 zTM11_13))])]
abbrev zTM11_63:XHp:=[((180,0),[(.sc (.s (.cl 471 0 (.lit 0)))),(.sc (.b (.cl 506 1 (.lit 0)))),(.sc (.i .i64 (.cl 506 2 (.lit 0)))),(.sc (.i .i64 (.cl 506 3 (.lit 0)))),(.sc (.i .i64 (.cl 506 4 (.lit 0)))),(.sc (.i .i64 (.cl 506 5 (.lit 0)))),(.sc (.i .i64 (.cl 506 6 (.lit 0)))),(.sc (.i .i64 (.cl 506 7 (.lit 0)))),(.sc (.s (.cl 506 8 (.lit 0)))),(.sc (.s (.cl 506 9 (.lit 0)))),(.sc (.b (.cl 506 10 (.lit 0)))),(.sc (.i .i64 (.cl 506 11 (.lit 0)))),(.sc (.i .i64 (.cl 506 12 (.lit 0)))),(.sc (.i .i64 (.cl 506 13 (.lit 0)))),(.sc (.i .i64 (.cl 506 14 (.lit 0)))),(.sc (.i .i64 (.cl 506 15 (.lit 0)))),(.sc (.i .i64 (.cl 506 16 (.lit 0)))),(.sc (.i .i64 (.cl 506 17 (.lit 0)))),(.sc (.i .i64 (.cl 506 18 (.lit 0)))),(.sc (.i .i64 (.cl 506 19 (.lit 0)))),(.sc (.i .i64 (.cl 506 20 (.lit 0)))),(.sc (.i .i64 (.cl 506 21 (.lit 0))))])]
abbrev zTM11_64:IE := .op .add .i64 (.var 570) (.lit 1)
abbrev zTM11_65:IE := .op .padd .i64 (.len 571) (.lit 1)
abbrev zTM11_66:X := .slv (187,0) 22 (.lit 0) zTM11_65 true
abbrev zTM11_67:RL := .app (.len 571) (.var 571 zTM11_13) (.one [(.s (.cl 471 0 (.var 570))),(.b (.cl 506 1 (.var 570))),(.i .i64 (.cl 506 2 (.var 570))),(.i .i64 (.cl 506 3 (.var 570))),(.i .i64 (.cl 506 4 (.var 570))),(.i .i64 (.cl 506 5 (.var 570))),(.i .i64 (.cl 506 6 (.var 570))),(.i .i64 (.cl 506 7 (.var 570))),(.s (.cl 506 8 (.var 570))),(.s (.cl 506 9 (.var 570))),(.b (.cl 506 10 (.var 570))),(.i .i64 (.cl 506 11 (.var 570))),(.i .i64 (.cl 506 12 (.var 570))),(.i .i64 (.cl 506 13 (.var 570))),(.i .i64 (.cl 506 14 (.var 570))),(.i .i64 (.cl 506 15 (.var 570))),(.i .i64 (.cl 506 16 (.var 570))),(.i .i64 (.cl 506 17 (.var 570))),(.i .i64 (.cl 506 18 (.var 570))),(.i .i64 (.cl 506 19 (.var 570))),(.i .i64 (.cl 506 20 (.var 570))),(.i .i64 (.cl 506 21 (.var 570)))])
abbrev zTM11_68:XHp:=[((187,0),[(.rows 22 zTM11_65 zTM11_67)])]
abbrev zTM11_69:X := .ip [zTM11_6,zTM11_57,zTM11_58,zTM11_3,(.sc (.i .i64 (.var 529))),(.sc (.i .i64 (.var 520))),(.sc (.i .i64 (.var 521))),(.sc (.i .i64 (.var 522))),(.sc (.i .i64 (.var 523))),(.sc (.i .i64 (.var 524))),(.sc (.i .i64 (.var 525))),(.sc (.i .i64 (.var 526))),(.sc (.i .i64 (.var 527))),(.sc (.i .i64 (.var 528))),(.sc (.b (.var 530))),(.sc (.i .i64 (.var 531)))] [] 0
abbrev zTM11_70:XTp:=[(4,(.sc (.i .i64 (.var 570)))),(3,zTM11_60),(2,zTM11_3),(0,zTM11_69)]
def r1_E:XS:=⟨([(21,zTM11_0),(20,zTM11_1),(19,zTM11_2),(18,.top),(17,.top),(16,.top),(3,zTM11_3)]++zTM11_4++zTM11_5),[((19,0),zTM11_7),((19,1),zTM11_8),((19,2),zTM11_10),((19,3),zTM11_11)],100⟩
def r1_ks:List Nat:=[21,20,19,18,17,16,3,15,14,13,12,11,10,9,8,7,6,2,0]
theorem r1_Eb:r1_E.bel 560=true:=by kernel_rfl
def r1_S0:XS:=⟨([(21,zTM11_0),(20,zTM11_1),(19,zTM11_2),(18,.top),(17,.top),(16,.top),(3,zTM11_3)]++zTM11_4++zTM11_5),[((19,0),zTM11_7),((19,1),zTM11_8),((19,2),zTM11_10),((19,3),zTM11_11)],100⟩
def r1_S1:XS:=⟨zTM11_12,zTM11_14,111⟩
def r1_I0:Bind:=⟨[],[],[],[]⟩
theorem r1_I0ok:okS 82 560 r1_I0 [] r1_S0 r1_E=true:=by kernel_rfl
theorem r1_I0g:r1_I0.ge 560=true:=by kernel_rfl
def r1_A_s:XS:=⟨([(21,zTM11_15),(20,zTM11_1),(19,zTM11_2),(18,.top),(17,.top),(16,.top),(3,(.sl (121,0) 22 0 1 true))]++zTM11_4++zTM11_5),[((19,0),zTM11_7),((19,1),zTM11_8),((19,2),zTM11_10),((19,3),zTM11_11),((104,0),[(.sc (.i .i64 (.cl 504 0 (.lit 0)))),zTM11_16,zTM11_17,zTM11_18,zTM11_19,zTM11_20,zTM11_21,zTM11_22,zTM11_23,zTM11_24,zTM11_25,zTM11_26,zTM11_27,zTM11_28,zTM11_29,zTM11_30,zTM11_31,zTM11_32,zTM11_33,zTM11_34,zTM11_35,zTM11_36,(.sc (.i .i64 (.cl 504 22 (.lit 0)))),(.sc (.i .i64 (.cl 504 23 (.lit 0)))),(.sc (.i .i64 (.cl 504 24 (.lit 0))))]),((121,0),[(.sc (.s (.cl 2 0 (.lit 0)))),zTM11_16,zTM11_17,zTM11_18,zTM11_19,zTM11_20,zTM11_21,zTM11_22,zTM11_23,zTM11_24,zTM11_25,zTM11_26,zTM11_27,zTM11_28,zTM11_29,zTM11_30,zTM11_31,zTM11_32,zTM11_33,zTM11_34,zTM11_35,zTM11_36])],125⟩
def r1_A_r:T (XE×XS):=(.ret (.normal,r1_A_s))
theorem r1_A_run:(codeX (cfgL [] (fun _=>[])).ti (callS ⟨(cfgL [] (fun _=>[])),l_able,[20009,20,33,37,58,10010,10011,10013,10014,10023,10021,20025]⟩ 12) (((cfgL [] (fun _=>[])).ft 22).elim [] (·.ms)) 82 ([]) 1000 r1_c ([(.lt (.len 2) (.lit 1),false),(.lt (.lit 6) (.len 2),false)]) r1_S0).map (sqz r1_ks)=r1_A_r:=by kernel_rfl
def r1_A_b:Bind:=⟨[(560,(.lit 1))],[],[],[(561,(.lit 1),(.one [(.s (.cl 2 0 (.lit 0))),(.b (.cl 504 1 (.lit 0))),(.i .i64 (.cl 504 2 (.lit 0))),(.i .i64 (.cl 504 3 (.lit 0))),(.i .i64 (.cl 504 4 (.lit 0))),(.i .i64 (.cl 504 5 (.lit 0))),(.i .i64 (.cl 504 6 (.lit 0))),(.i .i64 (.cl 504 7 (.lit 0))),(.s (.cl 504 8 (.lit 0))),(.s (.cl 504 9 (.lit 0))),(.b (.cl 504 10 (.lit 0))),(.i .i64 (.cl 504 11 (.lit 0))),(.i .i64 (.cl 504 12 (.lit 0))),(.i .i64 (.cl 504 13 (.lit 0))),(.i .i64 (.cl 504 14 (.lit 0))),(.i .i64 (.cl 504 15 (.lit 0))),(.i .i64 (.cl 504 16 (.lit 0))),(.i .i64 (.cl 504 17 (.lit 0))),(.i .i64 (.cl 504 18 (.lit 0))),(.i .i64 (.cl 504 19 (.lit 0))),(.i .i64 (.cl 504 20 (.lit 0))),(.i .i64 (.cl 504 21 (.lit 0)))]))]⟩
theorem r1_A_ok:okS 82 560 r1_A_b [((110,0),(121,0))] r1_S1 r1_A_s=true:=by kernel_rfl
theorem r1_A_g:r1_A_b.ge 560=true:=by kernel_rfl
theorem r1_A_step {ρ ρ1:Rho} (hd:r1_S0.den ρ=r1_S0.den ρ1) (cok:CfgOk Try.prog ρ1 (cfgL [] (fun _=>[]))) (hl:LpsOk Try.prog ρ1 Try.f22.ntmps ([]) r1_c) (hk:Facts.ok ρ1 ([(.lt (.len 2) (.lit 1),false),(.lt (.lit 6) (.len 2),false)])):StepF Try.prog Try.f22.ntmps r1_c 82 r1_S0 r1_S1 ρ (r1_A_b.ap ρ1) :=
 fam_goU r1_fits hd cok hl hk r1_A_run rfl r1_A_ok
theorem r1_A_560:lassoc 560 r1_A_b.i=some (.lit 1):=by kernel_rfl
theorem r1_A_r561:lassoc 561 r1_A_b.r=some ((.lit 1),(.one [(.s (.cl 2 0 (.lit 0))),(.b (.cl 504 1 (.lit 0))),(.i .i64 (.cl 504 2 (.lit 0))),(.i .i64 (.cl 504 3 (.lit 0))),(.i .i64 (.cl 504 4 (.lit 0))),(.i .i64 (.cl 504 5 (.lit 0))),(.i .i64 (.cl 504 6 (.lit 0))),(.i .i64 (.cl 504 7 (.lit 0))),(.s (.cl 504 8 (.lit 0))),(.s (.cl 504 9 (.lit 0))),(.b (.cl 504 10 (.lit 0))),(.i .i64 (.cl 504 11 (.lit 0))),(.i .i64 (.cl 504 12 (.lit 0))),(.i .i64 (.cl 504 13 (.lit 0))),(.i .i64 (.cl 504 14 (.lit 0))),(.i .i64 (.cl 504 15 (.lit 0))),(.i .i64 (.cl 504 16 (.lit 0))),(.i .i64 (.cl 504 17 (.lit 0))),(.i .i64 (.cl 504 18 (.lit 0))),(.i .i64 (.cl 504 19 (.lit 0))),(.i .i64 (.cl 504 20 (.lit 0))),(.i .i64 (.cl 504 21 (.lit 0)))])):=by kernel_rfl
def r1_B_s:XS:=⟨([(21,(.sc (.i .i64 zTM11_37))),(20,zTM11_1),(19,zTM11_2),(18,.top),(17,.top),(16,.top),(3,(.slv (132,0) 22 (.lit 0) zTM11_38 true))]++zTM11_4++zTM11_5),[((19,0),zTM11_7),((19,1),zTM11_8),((19,2),zTM11_10),((19,3),zTM11_11),((115,0),[(.sc (.i .i64 (.cl 504 0 (.var 560)))),(.sc (.b (.cl 504 1 (.var 560)))),(.sc zTM11_39),(.sc zTM11_40),(.sc zTM11_41),(.sc zTM11_42),(.sc zTM11_43),(.sc zTM11_44),(.sc (.s (.cl 504 8 (.var 560)))),(.sc (.s (.cl 504 9 (.var 560)))),(.sc (.b (.cl 504 10 (.var 560)))),(.sc zTM11_45),(.sc zTM11_46),(.sc zTM11_47),(.sc zTM11_48),(.sc zTM11_49),(.sc zTM11_50),(.sc zTM11_51),(.sc zTM11_52),(.sc zTM11_53),(.sc zTM11_54),(.sc zTM11_55),(.sc (.i .i64 (.cl 504 22 (.var 560)))),(.sc (.i .i64 (.cl 504 23 (.var 560)))),(.sc (.i .i64 (.cl 504 24 (.var 560))))]),((132,0),[(.rows 22 zTM11_38 zTM11_56)])],136⟩
def r1_B_r:T (XE×XS):=(.ret (.normal,r1_B_s))
theorem r1_B_run:(codeX (cfgL [] (fun _=>[])).ti (callS ⟨(cfgL [] (fun _=>[])),l_able,[20009,20,33,37,58,10010,10011,10013,10014,10023,10021,20025]⟩ 12) (((cfgL [] (fun _=>[])).ft 22).elim [] (·.ms)) 82 ([]) 1000 r1_c ((in1,true)::(.lt (.lit 6) (.len 561),false)::r1F) r1_S1).map (sqz r1_ks)=r1_B_r:=by kernel_rfl
def r1_B_b:Bind:=⟨[(560,zTM11_37)],[],[],[(561,zTM11_38,zTM11_56)]⟩
theorem r1_B_ok:okS 82 560 r1_B_b [((110,0),(132,0))] r1_S1 r1_B_s=true:=by kernel_rfl
theorem r1_B_g:r1_B_b.ge 560=true:=by kernel_rfl
theorem r1_B_step {ρ ρ1:Rho} (hd:r1_S1.den ρ=r1_S1.den ρ1) (cok:CfgOk Try.prog ρ1 (cfgL [] (fun _=>[]))) (hl:LpsOk Try.prog ρ1 Try.f22.ntmps ([]) r1_c) (hk:Facts.ok ρ1 ((in1,true)::(.lt (.lit 6) (.len 561),false)::r1F)):StepF Try.prog Try.f22.ntmps r1_c 82 r1_S1 r1_S1 ρ (r1_B_b.ap ρ1) :=
 fam_goU r1_fits hd cok hl hk r1_B_run rfl r1_B_ok
theorem r1_B_560:lassoc 560 r1_B_b.i=some (.op .add .i64 (.var 560) (.lit 1)):=by kernel_rfl
theorem r1_B_r561:lassoc 561 r1_B_b.r=some ((.op .padd .i64 (.len 561) (.lit 1)),(.app (.len 561) (.var 561 [.s,.b,(.i .i64),(.i .i64),(.i .i64),(.i .i64),(.i .i64),(.i .i64),.s,.s,.b,(.i .i64),(.i .i64),(.i .i64),(.i .i64),(.i .i64),(.i .i64),(.i .i64),(.i .i64),(.i .i64),(.i .i64),(.i .i64)]) (.one [(.s (.cl 2 0 (.var 560))),(.b (.cl 504 1 (.var 560))),(.i .i64 (.cl 504 2 (.var 560))),(.i .i64 (.cl 504 3 (.var 560))),(.i .i64 (.cl 504 4 (.var 560))),(.i .i64 (.cl 504 5 (.var 560))),(.i .i64 (.cl 504 6 (.var 560))),(.i .i64 (.cl 504 7 (.var 560))),(.s (.cl 504 8 (.var 560))),(.s (.cl 504 9 (.var 560))),(.b (.cl 504 10 (.var 560))),(.i .i64 (.cl 504 11 (.var 560))),(.i .i64 (.cl 504 12 (.var 560))),(.i .i64 (.cl 504 13 (.var 560))),(.i .i64 (.cl 504 14 (.var 560))),(.i .i64 (.cl 504 15 (.var 560))),(.i .i64 (.cl 504 16 (.var 560))),(.i .i64 (.cl 504 17 (.var 560))),(.i .i64 (.cl 504 18 (.var 560))),(.i .i64 (.cl 504 19 (.var 560))),(.i .i64 (.cl 504 20 (.var 560))),(.i .i64 (.cl 504 21 (.var 560)))]))):=by kernel_rfl
def r1_X_s:XS:=⟨zTM11_12,zTM11_14,112⟩
def r1_X_r:T (XE×XS):=(.ret ((.exit 0),r1_X_s))
theorem r1_X_run:(codeX (cfgL [] (fun _=>[])).ti (callS ⟨(cfgL [] (fun _=>[])),l_able,[20009,20,33,37,58,10010,10011,10013,10014,10023,10021,20025]⟩ 12) (((cfgL [] (fun _=>[])).ft 22).elim [] (·.ms)) 82 ([]) 1000 r1_c ((in1,false)::r1F) r1_S1).map (sqz r1_ks)=r1_X_r:=by kernel_rfl
def r1_out:T (XE×XS):=(.ret ((.exit 0),r1_X_s))
noncomputable def r1:LoopX:=⟨((codeKey r1_c).getD 0),82,560,r1_E,noB,[],r1_out⟩
theorem r1_X_end {ρ1:Rho} (cok:CfgOk Try.prog ρ1 (cfgL [] (fun _=>[]))) (hl:LpsOk Try.prog ρ1 Try.f22.ntmps ([]) r1_c) (hk:Facts.ok ρ1 ((in1,false)::r1F)) (ho:r1_out.sel ρ1=some ((.exit 0),r1_X_s)):EndL Try.prog Try.f22.ntmps r1_c 82 r1_S1 r1_out ρ1 :=
 fam_endU r1_fits cok hl hk r1_X_run rfl (fun h=>nomatch h) ho (by kernel_rfl)
end Go.Proofs.Ytdlifdoglhhnfaa
namespace Go.Proofs.Ytdlifdoglhhnfaa
open Go Go.Proofs.Aw Go.Proofs.Xw
set_option maxRecDepth 100000
def in2:BE := .lt (.var 570) (.len 471)
def r2F:Facts:=[(.lt (.var 570) (.lit 0),false),(.lt (.len 2) (.lit 1),false),(.lt (.lit 6) (.len 2),false),(.eq (.len 471) (.len 2),true),(.eq (.len 473) (.len 2),true),(.var 530,true),(.eq (.var 531) (.lit 0),true)]
noncomputable def r2_c:Code:=(loopsOf (Try.f25.body.getD .skip))[0]?.getD .skip
theorem r2_fits:fitsC Try.f25.ntmps r2_c=true:=by kernel_rfl
def r2_E:XS:=⟨[(4,zTM11_0),(3,zTM11_3),(2,zTM11_3),(0,zTM11_59)],[],134⟩
def r2_ks:List Nat:=[4,3,2,0]
theorem r2_Eb:r2_E.bel 570=true:=by kernel_rfl
def r2_S0:XS:=⟨[(4,zTM11_0),(3,zTM11_3),(2,zTM11_3),(0,zTM11_59)],[],134⟩
def r2_S1:XS:=⟨zTM11_61,zTM11_62,141⟩
def r2_I0:Bind:=⟨[],[],[],[]⟩
theorem r2_I0ok:okS 131 570 r2_I0 [] r2_S0 r2_E=true:=by kernel_rfl
theorem r2_I0g:r2_I0.ge 570=true:=by kernel_rfl
def r2_A_s:XS:=⟨[(4,zTM11_15),(3,(.sl (180,0) 22 0 1 true)),(2,zTM11_3),(0,zTM11_59)],zTM11_63,185⟩
def r2_A_r:T (XE×XS):=(.ret (.normal,r2_A_s))
theorem r2_A_run:(codeX (cfgL [] (fun _=>[])).ti (callS ⟨(cfgL [] (fun _=>[])),l_able,[20009,20,33,37,58,10010,10011,10013,10014,10023,10021,20025]⟩ 12) (((cfgL [] (fun _=>[])).ft 25).elim [] (·.ms)) 131 ([]) 1000 r2_c ([(.lt (.lit 0) (.len 471),true),(.lt (.lit 0) (.len 473),true),(.lt (.len 2) (.lit 1),false),(.lt (.lit 6) (.len 2),false),(.eq (.len 471) (.len 2),true),(.eq (.len 473) (.len 2),true),(.var 530,true),(.eq (.var 531) (.lit 0),true)]) r2_S0).map (sqz r2_ks)=r2_A_r:=by kernel_rfl
def r2_A_b:Bind:=⟨[(570,(.lit 1))],[],[],[(571,(.lit 1),(.one [(.s (.cl 471 0 (.lit 0))),(.b (.cl 506 1 (.lit 0))),(.i .i64 (.cl 506 2 (.lit 0))),(.i .i64 (.cl 506 3 (.lit 0))),(.i .i64 (.cl 506 4 (.lit 0))),(.i .i64 (.cl 506 5 (.lit 0))),(.i .i64 (.cl 506 6 (.lit 0))),(.i .i64 (.cl 506 7 (.lit 0))),(.s (.cl 506 8 (.lit 0))),(.s (.cl 506 9 (.lit 0))),(.b (.cl 506 10 (.lit 0))),(.i .i64 (.cl 506 11 (.lit 0))),(.i .i64 (.cl 506 12 (.lit 0))),(.i .i64 (.cl 506 13 (.lit 0))),(.i .i64 (.cl 506 14 (.lit 0))),(.i .i64 (.cl 506 15 (.lit 0))),(.i .i64 (.cl 506 16 (.lit 0))),(.i .i64 (.cl 506 17 (.lit 0))),(.i .i64 (.cl 506 18 (.lit 0))),(.i .i64 (.cl 506 19 (.lit 0))),(.i .i64 (.cl 506 20 (.lit 0))),(.i .i64 (.cl 506 21 (.lit 0)))]))]⟩
theorem r2_A_ok:okS 131 570 r2_A_b [((140,0),(180,0))] r2_S1 r2_A_s=true:=by kernel_rfl
theorem r2_A_g:r2_A_b.ge 570=true:=by kernel_rfl
theorem r2_A_step {ρ ρ1:Rho} (hd:r2_S0.den ρ=r2_S0.den ρ1) (cok:CfgOk Try.prog ρ1 (cfgL [] (fun _=>[]))) (hl:LpsOk Try.prog ρ1 Try.f25.ntmps ([]) r2_c) (hk:Facts.ok ρ1 ([(.lt (.lit 0) (.len 471),true),(.lt (.lit 0) (.len 473),true),(.lt (.len 2) (.lit 1),false),(.lt (.lit 6) (.len 2),false),(.eq (.len 471) (.len 2),true),(.eq (.len 473) (.len 2),true),(.var 530,true),(.eq (.var 531) (.lit 0),true)])):StepF Try.prog Try.f25.ntmps r2_c 131 r2_S0 r2_S1 ρ (r2_A_b.ap ρ1) :=
 fam_goU r2_fits hd cok hl hk r2_A_run rfl r2_A_ok
theorem r2_A_570:lassoc 570 r2_A_b.i=some (.lit 1):=by kernel_rfl
theorem r2_A_r571:lassoc 571 r2_A_b.r=some ((.lit 1),(.one [(.s (.cl 471 0 (.lit 0))),(.b (.cl 506 1 (.lit 0))),(.i .i64 (.cl 506 2 (.lit 0))),(.i .i64 (.cl 506 3 (.lit 0))),(.i .i64 (.cl 506 4 (.lit 0))),(.i .i64 (.cl 506 5 (.lit 0))),(.i .i64 (.cl 506 6 (.lit 0))),(.i .i64 (.cl 506 7 (.lit 0))),(.s (.cl 506 8 (.lit 0))),(.s (.cl 506 9 (.lit 0))),(.b (.cl 506 10 (.lit 0))),(.i .i64 (.cl 506 11 (.lit 0))),(.i .i64 (.cl 506 12 (.lit 0))),(.i .i64 (.cl 506 13 (.lit 0))),(.i .i64 (.cl 506 14 (.lit 0))),(.i .i64 (.cl 506 15 (.lit 0))),(.i .i64 (.cl 506 16 (.lit 0))),(.i .i64 (.cl 506 17 (.lit 0))),(.i .i64 (.cl 506 18 (.lit 0))),(.i .i64 (.cl 506 19 (.lit 0))),(.i .i64 (.cl 506 20 (.lit 0))),(.i .i64 (.cl 506 21 (.lit 0)))])):=by kernel_rfl
def r2_B_s:XS:=⟨[(4,(.sc (.i .i64 zTM11_64))),(3,zTM11_66),(2,zTM11_3),(0,zTM11_59)],zTM11_68,192⟩
def r2_B_r:T (XE×XS):=(.ret (.normal,r2_B_s))
theorem r2_B_run:(codeX (cfgL [] (fun _=>[])).ti (callS ⟨(cfgL [] (fun _=>[])),l_able,[20009,20,33,37,58,10010,10011,10013,10014,10023,10021,20025]⟩ 12) (((cfgL [] (fun _=>[])).ft 25).elim [] (·.ms)) 131 ([]) 1000 r2_c ((in2,true)::(.lt (.var 570) (.len 473),true)::(.lt (.var 570) (.len 2),true)::(.lt (.lit 6) (.len 571),false)::r2F) r2_S1).map (sqz r2_ks)=r2_B_r:=by kernel_rfl
def r2_B_b:Bind:=⟨[(570,zTM11_64)],[],[],[(571,zTM11_65,zTM11_67)]⟩
theorem r2_B_ok:okS 131 570 r2_B_b [((140,0),(187,0))] r2_S1 r2_B_s=true:=by kernel_rfl
theorem r2_B_g:r2_B_b.ge 570=true:=by kernel_rfl
theorem r2_B_step {ρ ρ1:Rho} (hd:r2_S1.den ρ=r2_S1.den ρ1) (cok:CfgOk Try.prog ρ1 (cfgL [] (fun _=>[]))) (hl:LpsOk Try.prog ρ1 Try.f25.ntmps ([]) r2_c) (hk:Facts.ok ρ1 ((in2,true)::(.lt (.var 570) (.len 473),true)::(.lt (.var 570) (.len 2),true)::(.lt (.lit 6) (.len 571),false)::r2F)):StepF Try.prog Try.f25.ntmps r2_c 131 r2_S1 r2_S1 ρ (r2_B_b.ap ρ1) :=
 fam_goU r2_fits hd cok hl hk r2_B_run rfl r2_B_ok
theorem r2_B_570:lassoc 570 r2_B_b.i=some (.op .add .i64 (.var 570) (.lit 1)):=by kernel_rfl
theorem r2_B_r571:lassoc 571 r2_B_b.r=some ((.op .padd .i64 (.len 571) (.lit 1)),(.app (.len 571) (.var 571 [.s,.b,(.i .i64),(.i .i64),(.i .i64),(.i .i64),(.i .i64),(.i .i64),.s,.s,.b,(.i .i64),(.i .i64),(.i .i64),(.i .i64),(.i .i64),(.i .i64),(.i .i64),(.i .i64),(.i .i64),(.i .i64),(.i .i64)]) (.one [(.s (.cl 471 0 (.var 570))),(.b (.cl 506 1 (.var 570))),(.i .i64 (.cl 506 2 (.var 570))),(.i .i64 (.cl 506 3 (.var 570))),(.i .i64 (.cl 506 4 (.var 570))),(.i .i64 (.cl 506 5 (.var 570))),(.i .i64 (.cl 506 6 (.var 570))),(.i .i64 (.cl 506 7 (.var 570))),(.s (.cl 506 8 (.var 570))),(.s (.cl 506 9 (.var 570))),(.b (.cl 506 10 (.var 570))),(.i .i64 (.cl 506 11 (.var 570))),(.i .i64 (.cl 506 12 (.var 570))),(.i .i64 (.cl 506 13 (.var 570))),(.i .i64 (.cl 506 14 (.var 570))),(.i .i64 (.cl 506 15 (.var 570))),(.i .i64 (.cl 506 16 (.var 570))),(.i .i64 (.cl 506 17 (.var 570))),(.i .i64 (.cl 506 18 (.var 570))),(.i .i64 (.cl 506 19 (.var 570))),(.i .i64 (.cl 506 20 (.var 570))),(.i .i64 (.cl 506 21 (.var 570)))]))):=by kernel_rfl
def r2_X_s:XS:=⟨zTM11_61,zTM11_62,152⟩
def r2_X_r:T (XE×XS):=(.ret ((.exit 0),r2_X_s))
theorem r2_X_run:(codeX (cfgL [] (fun _=>[])).ti (callS ⟨(cfgL [] (fun _=>[])),l_able,[20009,20,33,37,58,10010,10011,10013,10014,10023,10021,20025]⟩ 12) (((cfgL [] (fun _=>[])).ft 25).elim [] (·.ms)) 131 ([]) 1000 r2_c ((in2,false)::r2F) r2_S1).map (sqz r2_ks)=r2_X_r:=by kernel_rfl
def r2_out:T (XE×XS):=(.ret ((.exit 0),r2_X_s))
noncomputable def r2:LoopX:=⟨((codeKey r2_c).getD 0),131,570,r2_E,noB,[],r2_out⟩
theorem r2_X_end {ρ1:Rho} (cok:CfgOk Try.prog ρ1 (cfgL [] (fun _=>[]))) (hl:LpsOk Try.prog ρ1 Try.f25.ntmps ([]) r2_c) (hk:Facts.ok ρ1 ((in2,false)::r2F)) (ho:r2_out.sel ρ1=some ((.exit 0),r2_X_s)):EndL Try.prog Try.f25.ntmps r2_c 131 r2_S1 r2_out ρ1 :=
 fam_endU r2_fits cok hl hk r2_X_run rfl (fun h=>nomatch h) ho (by kernel_rfl)
noncomputable def r3_c:Code:=(loopsOf (Try.f25.body.getD .skip))[0]?.getD .skip
theorem r3_fits:fitsC Try.f25.ntmps r3_c=true:=by kernel_rfl
def r3_E:XS:=⟨[(4,zTM11_0),(3,zTM11_3),(2,zTM11_3),(0,zTM11_69)],[],134⟩
def r3_ks:List Nat:=[4,3,2,0]
theorem r3_Eb:r3_E.bel 570=true:=by kernel_rfl
def r3_S0:XS:=⟨[(4,zTM11_0),(3,zTM11_3),(2,zTM11_3),(0,zTM11_69)],[],134⟩
def r3_S1:XS:=⟨zTM11_70,zTM11_62,141⟩
def r3_I0:Bind:=⟨[],[],[],[]⟩
theorem r3_I0ok:okS 131 570 r3_I0 [] r3_S0 r3_E=true:=by kernel_rfl
theorem r3_I0g:r3_I0.ge 570=true:=by kernel_rfl
def r3_A_s:XS:=⟨[(4,zTM11_15),(3,(.sl (180,0) 22 0 1 true)),(2,zTM11_3),(0,zTM11_69)],zTM11_63,185⟩
def r3_A_r:T (XE×XS):=(.ret (.normal,r3_A_s))
theorem r3_A_run:(codeX (cfgL [] (fun _=>[])).ti (callS ⟨(cfgL [] (fun _=>[])),l_able,[20009,20,33,37,58,10010,10011,10013,10014,10023,10021,20025]⟩ 12) (((cfgL [] (fun _=>[])).ft 25).elim [] (·.ms)) 131 ([]) 1000 r3_c ([(.lt (.lit 0) (.len 471),true),(.lt (.lit 0) (.len 473),true),(.lt (.len 2) (.lit 1),false),(.lt (.lit 6) (.len 2),false),(.eq (.len 471) (.len 2),true),(.eq (.len 473) (.len 2),true),(.var 530,true),(.eq (.var 531) (.lit 0),true)]) r3_S0).map (sqz r3_ks)=r3_A_r:=by kernel_rfl
def r3_A_b:Bind:=⟨[(570,(.lit 1))],[],[],[(571,(.lit 1),(.one [(.s (.cl 471 0 (.lit 0))),(.b (.cl 506 1 (.lit 0))),(.i .i64 (.cl 506 2 (.lit 0))),(.i .i64 (.cl 506 3 (.lit 0))),(.i .i64 (.cl 506 4 (.lit 0))),(.i .i64 (.cl 506 5 (.lit 0))),(.i .i64 (.cl 506 6 (.lit 0))),(.i .i64 (.cl 506 7 (.lit 0))),(.s (.cl 506 8 (.lit 0))),(.s (.cl 506 9 (.lit 0))),(.b (.cl 506 10 (.lit 0))),(.i .i64 (.cl 506 11 (.lit 0))),(.i .i64 (.cl 506 12 (.lit 0))),(.i .i64 (.cl 506 13 (.lit 0))),(.i .i64 (.cl 506 14 (.lit 0))),(.i .i64 (.cl 506 15 (.lit 0))),(.i .i64 (.cl 506 16 (.lit 0))),(.i .i64 (.cl 506 17 (.lit 0))),(.i .i64 (.cl 506 18 (.lit 0))),(.i .i64 (.cl 506 19 (.lit 0))),(.i .i64 (.cl 506 20 (.lit 0))),(.i .i64 (.cl 506 21 (.lit 0)))]))]⟩
theorem r3_A_ok:okS 131 570 r3_A_b [((140,0),(180,0))] r3_S1 r3_A_s=true:=by kernel_rfl
theorem r3_A_g:r3_A_b.ge 570=true:=by kernel_rfl
theorem r3_A_step {ρ ρ1:Rho} (hd:r3_S0.den ρ=r3_S0.den ρ1) (cok:CfgOk Try.prog ρ1 (cfgL [] (fun _=>[]))) (hl:LpsOk Try.prog ρ1 Try.f25.ntmps ([]) r3_c) (hk:Facts.ok ρ1 ([(.lt (.lit 0) (.len 471),true),(.lt (.lit 0) (.len 473),true),(.lt (.len 2) (.lit 1),false),(.lt (.lit 6) (.len 2),false),(.eq (.len 471) (.len 2),true),(.eq (.len 473) (.len 2),true),(.var 530,true),(.eq (.var 531) (.lit 0),true)])):StepF Try.prog Try.f25.ntmps r3_c 131 r3_S0 r3_S1 ρ (r3_A_b.ap ρ1) :=
 fam_goU r3_fits hd cok hl hk r3_A_run rfl r3_A_ok
theorem r3_A_570:lassoc 570 r3_A_b.i=some (.lit 1):=by kernel_rfl
theorem r3_A_r571:lassoc 571 r3_A_b.r=some ((.lit 1),(.one [(.s (.cl 471 0 (.lit 0))),(.b (.cl 506 1 (.lit 0))),(.i .i64 (.cl 506 2 (.lit 0))),(.i .i64 (.cl 506 3 (.lit 0))),(.i .i64 (.cl 506 4 (.lit 0))),(.i .i64 (.cl 506 5 (.lit 0))),(.i .i64 (.cl 506 6 (.lit 0))),(.i .i64 (.cl 506 7 (.lit 0))),(.s (.cl 506 8 (.lit 0))),(.s (.cl 506 9 (.lit 0))),(.b (.cl 506 10 (.lit 0))),(.i .i64 (.cl 506 11 (.lit 0))),(.i .i64 (.cl 506 12 (.lit 0))),(.i .i64 (.cl 506 13 (.lit 0))),(.i .i64 (.cl 506 14 (.lit 0))),(.i .i64 (.cl 506 15 (.lit 0))),(.i .i64 (.cl 506 16 (.lit 0))),(.i .i64 (.cl 506 17 (.lit 0))),(.i .i64 (.cl 506 18 (.lit 0))),(.i .i64 (.cl 506 19 (.lit 0))),(.i .i64 (.cl 506 20 (.lit 0))),(.i .i64 (.cl 506 21 (.lit 0)))])):=by kernel_rfl
def r3_B_s:XS:=⟨[(4,(.sc (.i .i64 zTM11_64))),(3,zTM11_66),(2,zTM11_3),(0,zTM11_69)],zTM11_68,192⟩
def r3_B_r:T (XE×XS):=(.ret (.normal,r3_B_s))
theorem r3_B_run:(codeX (cfgL [] (fun _=>[])).ti (callS ⟨(cfgL [] (fun _=>[])),l_able,[20009,20,33,37,58,10010,10011,10013,10014,10023,10021,20025]⟩ 12) (((cfgL [] (fun _=>[])).ft 25).elim [] (·.ms)) 131 ([]) 1000 r3_c ((in2,true)::(.lt (.var 570) (.len 473),true)::(.lt (.var 570) (.len 2),true)::(.lt (.lit 6) (.len 571),false)::r2F) r3_S1).map (sqz r3_ks)=r3_B_r:=by kernel_rfl
def r3_B_b:Bind:=⟨[(570,zTM11_64)],[],[],[(571,zTM11_65,zTM11_67)]⟩
theorem r3_B_ok:okS 131 570 r3_B_b [((140,0),(187,0))] r3_S1 r3_B_s=true:=by kernel_rfl
theorem r3_B_g:r3_B_b.ge 570=true:=by kernel_rfl
theorem r3_B_step {ρ ρ1:Rho} (hd:r3_S1.den ρ=r3_S1.den ρ1) (cok:CfgOk Try.prog ρ1 (cfgL [] (fun _=>[]))) (hl:LpsOk Try.prog ρ1 Try.f25.ntmps ([]) r3_c) (hk:Facts.ok ρ1 ((in2,true)::(.lt (.var 570) (.len 473),true)::(.lt (.var 570) (.len 2),true)::(.lt (.lit 6) (.len 571),false)::r2F)):StepF Try.prog Try.f25.ntmps r3_c 131 r3_S1 r3_S1 ρ (r3_B_b.ap ρ1) :=
 fam_goU r3_fits hd cok hl hk r3_B_run rfl r3_B_ok
theorem r3_B_570:lassoc 570 r3_B_b.i=some (.op .add .i64 (.var 570) (.lit 1)):=by kernel_rfl
theorem r3_B_r571:lassoc 571 r3_B_b.r=some ((.op .padd .i64 (.len 571) (.lit 1)),(.app (.len 571) (.var 571 [.s,.b,(.i .i64),(.i .i64),(.i .i64),(.i .i64),(.i .i64),(.i .i64),.s,.s,.b,(.i .i64),(.i .i64),(.i .i64),(.i .i64),(.i .i64),(.i .i64),(.i .i64),(.i .i64),(.i .i64),(.i .i64),(.i .i64)]) (.one [(.s (.cl 471 0 (.var 570))),(.b (.cl 506 1 (.var 570))),(.i .i64 (.cl 506 2 (.var 570))),(.i .i64 (.cl 506 3 (.var 570))),(.i .i64 (.cl 506 4 (.var 570))),(.i .i64 (.cl 506 5 (.var 570))),(.i .i64 (.cl 506 6 (.var 570))),(.i .i64 (.cl 506 7 (.var 570))),(.s (.cl 506 8 (.var 570))),(.s (.cl 506 9 (.var 570))),(.b (.cl 506 10 (.var 570))),(.i .i64 (.cl 506 11 (.var 570))),(.i .i64 (.cl 506 12 (.var 570))),(.i .i64 (.cl 506 13 (.var 570))),(.i .i64 (.cl 506 14 (.var 570))),(.i .i64 (.cl 506 15 (.var 570))),(.i .i64 (.cl 506 16 (.var 570))),(.i .i64 (.cl 506 17 (.var 570))),(.i .i64 (.cl 506 18 (.var 570))),(.i .i64 (.cl 506 19 (.var 570))),(.i .i64 (.cl 506 20 (.var 570))),(.i .i64 (.cl 506 21 (.var 570)))]))):=by kernel_rfl
def r3_X_s:XS:=⟨zTM11_70,zTM11_62,152⟩
def r3_X_r:T (XE×XS):=(.ret ((.exit 0),r3_X_s))
theorem r3_X_run:(codeX (cfgL [] (fun _=>[])).ti (callS ⟨(cfgL [] (fun _=>[])),l_able,[20009,20,33,37,58,10010,10011,10013,10014,10023,10021,20025]⟩ 12) (((cfgL [] (fun _=>[])).ft 25).elim [] (·.ms)) 131 ([]) 1000 r3_c ((in2,false)::r2F) r3_S1).map (sqz r3_ks)=r3_X_r:=by kernel_rfl
def r3_out:T (XE×XS):=(.ret ((.exit 0),r3_X_s))
noncomputable def r3:LoopX:=⟨((codeKey r3_c).getD 0),131,570,r3_E,noB,[],r3_out⟩
theorem r3_X_end {ρ1:Rho} (cok:CfgOk Try.prog ρ1 (cfgL [] (fun _=>[]))) (hl:LpsOk Try.prog ρ1 Try.f25.ntmps ([]) r3_c) (hk:Facts.ok ρ1 ((in2,false)::r2F)) (ho:r3_out.sel ρ1=some ((.exit 0),r3_X_s)):EndL Try.prog Try.f25.ntmps r3_c 131 r3_S1 r3_out ρ1 :=
 fam_endU r3_fits cok hl hk r3_X_run rfl (fun h=>nomatch h) ho (by kernel_rfl)
end Go.Proofs.Ytdlifdoglhhnfaa
