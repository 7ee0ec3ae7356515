/- Parts of the proof, one behind the other. -/
import Derived.Test.YtdlifdoglhhnfaaTM17
import Derived.Test.YtdlifdoglhhnfaaXwM3
namespace Go.Proofs.Ytdlifdoglhhnfaa
open Go Go.Proofs.Aw Go.Proofs.Xw
set_option maxRecDepth 100000
def ksP:List (Nat×List X×X):=[(16,[.ro 20 [enC 3 (.var 500)] true],.agg (vi 540 9)),(15,[.agg (vi 510 9),.agg (vi 540 9)],.sc (.b (.var 549))),(43,[.ro 20 [enC 3 (.var 500)] false],.agg (vi 540 9)),(42,[.agg (vi 520 9),.agg (vi 540 9)],.sc (.b (.var 549)))]
def rd1:Facts:=(.eq (.var 519) (.lit 1),true)::(.eq (.var 529) (.lit 1),true)::(r1E++(mnF++lvF))
def rd2:Facts:=(.eq (.var 519) (.lit 2),true)::(.eq (.var 529) (.lit 2),true)::(mnF++lvF)
def lg:Facts:=[(.lt (.lit 1) (.var 503),true),(.lt (.lit 1) (.var 508),true)]
def sh:Facts:=[(.eq (.var 503) (.lit 1),true),(.eq (.var 508) (.lit 1),true)]
def c0F:Facts:=[(inM,true),(.eq cdE (.lit 0),true)]
noncomputable def mn_c:Code:=(loopsOf (Try.f4.body.getD .skip))[1]?.getD .skip
theorem mn_fits:fitsC Try.f4.ntmps mn_c=true:=by kernel_rfl
abbrev zTM19_0:Sc := .i .i64 (.lit 0)
abbrev zTM19_1:XTp:=[(86,.top),(85,.top),(84,.top),(83,.top),(82,.top),(81,.top),(80,.top),(79,.top),(78,.top),(77,.top),(76,.top),(75,.top),(74,.top),(73,.top),(72,.top),(71,.top),(70,.top),(69,.top),(68,.top),(67,.top),(14,.top),(13,.top)]
abbrev zTM19_2:XTp:=[(12,(.ptr (28,0) [] 0))]
abbrev zTM19_3:XTp:=[(48,.top),(47,.top),(42,.top),(46,.top),(45,.top),(44,.top),(43,.top),(11,.top)]
abbrev zTM19_4:XTp:=[(10,(.ptr (19,0) [] 0))]
abbrev zTM19_5:XTp:=[(41,.top),(40,.top),(32,.top),(39,.top),(38,.top),(37,.top),(36,.top),(35,.top),(34,.top),(33,.top),(9,.top),(31,.top),(30,.top),(29,.top),(28,.top),(27,.top),(26,.top),(25,.top),(24,.top),(23,.top),(22,.top),(8,.top),(4,.top)]
abbrev zTM19_6:X := .sc (.i .i64 (.var 0))
abbrev zTM19_7:X := .sc (.i .i64 (.var 1))
abbrev zTM19_8:X := .sc (.i .i64 (.var 2))
abbrev zTM19_9:X := .sc (.i .i64 (.var 3))
abbrev zTM19_10:X := .sc (.i .i64 (.var 4))
abbrev zTM19_11:X := .sc (.i .i64 (.var 5))
abbrev zTM19_12:X := .sc (.i .i64 (.var 6))
abbrev zTM19_13:X := .sc (.i .i64 (.var 7))
abbrev zTM19_14:X := .sc (.i .i64 (.var 8))
abbrev zTM19_15:X := .sc (.i .i64 (.var 9))
abbrev zTM19_16:List Kd:=[(.i .i64),.b,(.i .i64),(.i .i64),(.i .i64),(.i .i64),(.i .i64),(.i .i64),.s,.s,.b,(.i .i64),(.i .i64),(.i .i64),(.i .i64),(.i .i64),(.i .i64),(.i .i64),(.i .i64),(.i .i64),(.i .i64),(.i .i64),(.i .i64),(.i .i64),(.i .i64)]
abbrev zTM19_17:XTp:=[(0,(.agg [zTM19_6,zTM19_7,zTM19_8,zTM19_9,zTM19_10,zTM19_11,zTM19_12,zTM19_13,zTM19_14])),(1,zTM19_15),(2,(.rl 1 (.len 2) (.var 2 [.s]) false)),(3,(.rl 25 (.len 3) (.var 3 zTM19_16) false))]
abbrev zTM19_18:X := .slv (19,1) 1 (.lit 0) (.len 2) true
abbrev zTM19_19:X := .slv (19,2) 25 (.lit 0) (.len 2) true
abbrev zTM19_20:List X:=[(.rows 1 (.len 2) (.app (.len 2) (.var 2 [.s]) (.one [(.s (.lit ⟨#[120,55]⟩))])))]
abbrev zTM19_21:RL := .one [zTM19_0,(.b (.lit false)),zTM19_0,zTM19_0,zTM19_0,zTM19_0,zTM19_0,zTM19_0,(.s (.lit ⟨#[]⟩)),(.s (.lit ⟨#[]⟩)),(.b (.lit false)),zTM19_0,zTM19_0,zTM19_0,zTM19_0,zTM19_0,zTM19_0,zTM19_0,zTM19_0,zTM19_0,zTM19_0,zTM19_0,zTM19_0,zTM19_0,zTM19_0]
abbrev zTM19_22:X := .slv (28,1) 1 (.lit 0) (.len 471) true
abbrev zTM19_23:X := .slv (28,2) 25 (.lit 0) (.len 473) true
abbrev zTM19_24:X := .sc (.b (.lit false))
abbrev zTM19_25:List X:=[(.rows 1 (.len 471) (.var 471 [.s]))]
abbrev zTM19_26:XTp:=([(15,(.sc (.i .i64 (.var 500))))]++zTM19_1++zTM19_2++zTM19_3++zTM19_4++zTM19_5++zTM19_17)
abbrev zTM19_27:X := .sc (.i .i64 (.var 510))
abbrev zTM19_28:X := .sc (.i .i64 (.var 511))
abbrev zTM19_29:X := .sc (.i .i64 (.var 512))
abbrev zTM19_30:X := .sc (.i .i64 (.var 513))
abbrev zTM19_31:X := .sc (.i .i64 (.var 514))
abbrev zTM19_32:X := .sc (.i .i64 (.var 515))
abbrev zTM19_33:X := .sc (.i .i64 (.var 516))
abbrev zTM19_34:X := .sc (.i .i64 (.var 517))
abbrev zTM19_35:X := .sc (.i .i64 (.var 518))
abbrev zTM19_36:X := .sc (.i .i64 (.var 519))
abbrev zTM19_37:List X:=[zTM19_6,zTM19_7,zTM19_8,zTM19_9,zTM19_10,zTM19_11,zTM19_12,zTM19_13,zTM19_14,zTM19_27,zTM19_28,zTM19_29,zTM19_30,zTM19_31,zTM19_32,zTM19_33,zTM19_34,zTM19_35,zTM19_15,zTM19_18,zTM19_19,(.slv (19,3) 1 (.var 502) (.var 503) true),zTM19_36,(.sc zTM19_0)]
abbrev zTM19_38:RL := .var 504 zTM19_16
abbrev zTM19_39:List X:=[(.rows 25 (.len 2) zTM19_38)]
abbrev zTM19_40:RL := .var 505 [(.i .i64)]
abbrev zTM19_41:List X:=[(.rows 1 (.len 505) zTM19_40)]
abbrev zTM19_42:X := .slv (28,3) 1 (.var 507) (.var 508) true
abbrev zTM19_43:X := .sc (.i .i64 (.var 529))
abbrev zTM19_44:X := .sc (.i .i64 (.var 520))
abbrev zTM19_45:X := .sc (.i .i64 (.var 521))
abbrev zTM19_46:X := .sc (.i .i64 (.var 522))
abbrev zTM19_47:X := .sc (.i .i64 (.var 523))
abbrev zTM19_48:X := .sc (.i .i64 (.var 524))
abbrev zTM19_49:X := .sc (.i .i64 (.var 525))
abbrev zTM19_50:X := .sc (.i .i64 (.var 526))
abbrev zTM19_51:X := .sc (.i .i64 (.var 527))
abbrev zTM19_52:X := .sc (.i .i64 (.var 528))
abbrev zTM19_53:X := .sc (.b (.var 530))
abbrev zTM19_54:X := .sc (.i .i64 (.var 531))
abbrev zTM19_55:List X:=[zTM19_15,zTM19_22,zTM19_23,zTM19_42,zTM19_43,zTM19_44,zTM19_45,zTM19_46,zTM19_47,zTM19_48,zTM19_49,zTM19_50,zTM19_51,zTM19_52,zTM19_53,zTM19_54]
abbrev zTM19_56:RL := .var 506 zTM19_16
abbrev zTM19_57:List X:=[(.rows 25 (.len 473) zTM19_56)]
abbrev zTM19_58:RL := .var 509 [(.i .i64)]
abbrev zTM19_59:List X:=[(.rows 1 (.len 509) zTM19_58)]
abbrev zTM19_60:X := .k (.slice none 0 0)
abbrev zTM19_61:IE := .op .add .i64 (.var 500) (.lit 1)
abbrev zTM19_62:XTp:=([(15,(.sc (.i .i64 zTM19_61)))]++zTM19_1++zTM19_2++zTM19_3++zTM19_4++zTM19_5++zTM19_17)
abbrev zTM19_63:X := .sc (.s (.cl 2 0 (.cl 505 0 (.var 502))))
abbrev zTM19_64:List X:=[zTM19_63,zTM19_6,zTM19_7,zTM19_8,zTM19_9,zTM19_10,zTM19_11,zTM19_12,zTM19_13,zTM19_14,zTM19_24,(.sc zTM19_0),(.sc zTM19_0),(.sc zTM19_0),(.sc zTM19_0),(.sc zTM19_0),(.sc zTM19_0),(.sc zTM19_0),(.sc zTM19_0),(.sc zTM19_0),(.sc zTM19_0),(.sc zTM19_0),(.sc zTM19_0)]
abbrev zTM19_65:X := .sc (.s (.cl 471 0 (.cl 509 0 (.var 507))))
abbrev zTM19_66:List X:=[zTM19_65,zTM19_44,zTM19_45,zTM19_46,zTM19_47,zTM19_48,zTM19_49,zTM19_50,zTM19_51,zTM19_52,zTM19_24,(.sc zTM19_0),(.sc zTM19_0),(.sc zTM19_0),(.sc zTM19_0),(.sc zTM19_0),(.sc zTM19_0),(.sc zTM19_0),(.sc zTM19_0),(.sc zTM19_0),(.sc zTM19_0),(.sc zTM19_0),(.sc zTM19_0)]
abbrev zTM19_67:X := .sc (.b (.lit true))
abbrev zTM19_68:List X:=[zTM19_63,zTM19_27,zTM19_28,zTM19_29,zTM19_30,zTM19_31,zTM19_32,zTM19_33,zTM19_34,zTM19_35,zTM19_67,zTM19_27,zTM19_28,zTM19_29,zTM19_30,zTM19_31,zTM19_32,zTM19_33,zTM19_34,zTM19_35,(.sc zTM19_0),(.sc zTM19_0),(.sc zTM19_0)]
abbrev zTM19_69:List X:=[zTM19_65,zTM19_44,zTM19_45,zTM19_46,zTM19_47,zTM19_48,zTM19_49,zTM19_50,zTM19_51,zTM19_52,zTM19_67,zTM19_44,zTM19_45,zTM19_46,zTM19_47,zTM19_48,zTM19_49,zTM19_50,zTM19_51,zTM19_52,(.sc zTM19_0),(.sc zTM19_0),(.sc zTM19_0)]
abbrev zTM19_70:List X:=[zTM19_6,zTM19_7,zTM19_8,zTM19_9,zTM19_10,zTM19_11,zTM19_12,zTM19_13,zTM19_14,zTM19_27,zTM19_28,zTM19_29,zTM19_30,zTM19_31,zTM19_32,zTM19_33,zTM19_34,zTM19_35,zTM19_15,zTM19_18,zTM19_19,zTM19_60,zTM19_36,(.sc (.i .i64 (.cl 3 0 (.var 500))))]
abbrev zTM19_71:List X:=[zTM19_15,zTM19_22,zTM19_23,zTM19_42,zTM19_43,zTM19_44,zTM19_45,zTM19_46,zTM19_47,zTM19_48,zTM19_49,zTM19_50,zTM19_51,zTM19_52,zTM19_67,(.sc (.i .i64 (.lit 60)))]
abbrev zTM19_72:IE := .op .padd .i64 (.var 502) (.lit 1)
abbrev zTM19_73:IE := .op .psub .i64 (.var 503) (.lit 1)
abbrev zTM19_74:List X:=[zTM19_6,zTM19_7,zTM19_8,zTM19_9,zTM19_10,zTM19_11,zTM19_12,zTM19_13,zTM19_14,zTM19_27,zTM19_28,zTM19_29,zTM19_30,zTM19_31,zTM19_32,zTM19_33,zTM19_34,zTM19_35,zTM19_15,zTM19_18,zTM19_19,(.slv (19,3) 1 zTM19_72 zTM19_73 true),zTM19_36,(.sc zTM19_0)]
abbrev zTM19_75:List Sc:=[(.i .i64 (.cl 3 0 (.var 500))),(.b (.cl 3 1 (.var 500))),(.i .i64 (.cl 3 2 (.var 500))),(.i .i64 (.cl 3 3 (.var 500))),(.i .i64 (.cl 3 4 (.var 500))),(.i .i64 (.cl 3 5 (.var 500))),(.i .i64 (.cl 3 6 (.var 500))),(.i .i64 (.cl 3 7 (.var 500))),(.s (.cl 3 8 (.var 500))),(.s (.cl 3 9 (.var 500))),(.b (.cl 3 10 (.var 500))),(.i .i64 (.cl 3 11 (.var 500))),(.i .i64 (.cl 3 12 (.var 500))),(.i .i64 (.cl 3 13 (.var 500))),(.i .i64 (.cl 3 14 (.var 500))),(.i .i64 (.cl 3 15 (.var 500))),(.i .i64 (.cl 3 16 (.var 500))),(.i .i64 (.cl 3 17 (.var 500))),(.i .i64 (.cl 3 18 (.var 500))),(.i .i64 (.cl 3 19 (.var 500))),(.i .i64 (.cl 3 20 (.var 500))),(.i .i64 (.cl 3 21 (.var 500))),(.i .i64 (.cl 3 22 (.var 500))),(.i .i64 (.cl 3 23 (.var 500))),(.i .i64 (.cl 3 24 (.var 500)))]
abbrev zTM19_76:RL := .upd (.cl 505 0 (.var 502)) zTM19_75 zTM19_38
abbrev zTM19_77:List X:=[(.rows 25 (.len 2) zTM19_76)]
abbrev zTM19_78:IE := .op .padd .i64 (.var 507) (.lit 1)
abbrev zTM19_79:IE := .op .psub .i64 (.var 508) (.lit 1)
abbrev zTM19_80:X := .slv (28,3) 1 zTM19_78 zTM19_79 true
abbrev zTM19_81:List X:=[zTM19_15,zTM19_22,zTM19_23,zTM19_80,zTM19_43,zTM19_44,zTM19_45,zTM19_46,zTM19_47,zTM19_48,zTM19_49,zTM19_50,zTM19_51,zTM19_52,zTM19_53,zTM19_54]
abbrev zTM19_82:RL := .upd (.cl 509 0 (.var 507)) zTM19_75 zTM19_56
abbrev zTM19_83:List X:=[(.rows 25 (.len 473) zTM19_82)]
abbrev zTM19_84:List (Nat×IE):=[(500,zTM19_61),(502,zTM19_72),(503,zTM19_73),(507,zTM19_78),(508,zTM19_79),(510,(.var 510)),(511,(.var 511)),(512,(.var 512)),(513,(.var 513)),(514,(.var 514)),(515,(.var 515)),(516,(.var 516)),(517,(.var 517)),(518,(.var 518)),(519,(.var 519)),(520,(.var 520)),(521,(.var 521)),(522,(.var 522)),(523,(.var 523)),(524,(.var 524)),(525,(.var 525)),(526,(.var 526)),(527,(.var 527)),(528,(.var 528)),(529,(.var 529)),(531,(.var 531))]
abbrev zTM19_85:List (Nat×IE×RL):=[(504,(.len 2),zTM19_76),(505,(.len 505),zTM19_40),(506,(.len 473),zTM19_82),(509,(.len 509),zTM19_58)]
def mn_E:XS:=⟨([(15,(.sc zTM19_0))]++zTM19_1++zTM19_2++zTM19_3++zTM19_4++zTM19_5++zTM19_17),[((19,0),[zTM19_6,zTM19_7,zTM19_8,zTM19_9,zTM19_10,zTM19_11,zTM19_12,zTM19_13,zTM19_14,zTM19_6,zTM19_7,zTM19_8,zTM19_9,zTM19_10,zTM19_11,zTM19_12,zTM19_13,zTM19_14,zTM19_15,zTM19_18,zTM19_19,(.slv (19,3) 1 (.lit 0) (.len 461) true),(.sc (.i .i64 (.lit 1))),(.sc zTM19_0)]),((19,1),zTM19_20),((19,2),[(.rows 25 (.len 2) zTM19_21)]),((19,3),[(.rows 1 (.len 461) (.var 461 [(.i .i64)]))]),((28,0),[zTM19_15,zTM19_22,zTM19_23,(.slv (28,3) 1 (.lit 0) (.len 472) true),(.sc (.i .i64 (.lit 1))),zTM19_6,zTM19_7,zTM19_8,zTM19_9,zTM19_10,zTM19_11,zTM19_12,zTM19_13,zTM19_14,zTM19_24,(.sc zTM19_0)]),((28,1),zTM19_25),((28,2),[(.rows 25 (.len 473) (.var 473 zTM19_16))]),((28,3),[(.rows 1 (.len 472) (.var 472 [(.i .i64)]))])],60⟩
def mn_ks:List Nat:=[15,86,85,84,83,82,81,80,79,78,77,76,75,74,73,72,71,70,69,68,67,14,13,12,48,47,42,46,45,44,43,11,10,41,40,32,39,38,37,36,35,34,33,9,31,30,29,28,27,26,25,24,23,22,8,4,0,1,2,3]
theorem mn_Eb:mn_E.bel 500=true:=by kernel_rfl
def mn_S0:XS:=⟨zTM19_26,[((19,0),zTM19_37),((19,1),zTM19_20),((19,2),zTM19_39),((19,3),zTM19_41),((28,0),zTM19_55),((28,1),zTM19_25),((28,2),zTM19_57),((28,3),zTM19_59)],60⟩
def mn_S1:XS:=⟨zTM19_26,[((19,0),[zTM19_6,zTM19_7,zTM19_8,zTM19_9,zTM19_10,zTM19_11,zTM19_12,zTM19_13,zTM19_14,zTM19_27,zTM19_28,zTM19_29,zTM19_30,zTM19_31,zTM19_32,zTM19_33,zTM19_34,zTM19_35,zTM19_15,zTM19_18,zTM19_19,zTM19_60,zTM19_36,(.sc (.i .i64 (.var 532)))]),((19,1),zTM19_20),((19,2),zTM19_39),((28,0),zTM19_55),((28,1),zTM19_25),((28,2),zTM19_57),((28,3),zTM19_59)],60⟩
def mn_S2:XS:=⟨zTM19_26,[((19,0),zTM19_37),((19,1),zTM19_20),((19,2),zTM19_39),((19,3),zTM19_41),((28,0),zTM19_55),((28,1),zTM19_25),((28,2),zTM19_57),((28,3),zTM19_59)],60⟩
def mn_S3:XS:=⟨zTM19_26,[((19,0),zTM19_37),((19,1),zTM19_20),((19,2),zTM19_39),((19,3),zTM19_41),((28,0),[zTM19_15,zTM19_22,zTM19_23,zTM19_60,zTM19_43,zTM19_44,zTM19_45,zTM19_46,zTM19_47,zTM19_48,zTM19_49,zTM19_50,zTM19_51,zTM19_52,zTM19_53,zTM19_54]),((28,1),zTM19_25),((28,2),zTM19_57)],60⟩
def mn_I0:Bind:=⟨[(500,(.lit 0)),(502,(.lit 0)),(503,(.len 461)),(507,(.lit 0)),(508,(.len 472)),(510,(.var 0)),(511,(.var 1)),(512,(.var 2)),(513,(.var 3)),(514,(.var 4)),(515,(.var 5)),(516,(.var 6)),(517,(.var 7)),(518,(.var 8)),(519,(.lit 1)),(520,(.var 0)),(521,(.var 1)),(522,(.var 2)),(523,(.var 3)),(524,(.var 4)),(525,(.var 5)),(526,(.var 6)),(527,(.var 7)),(528,(.var 8)),(529,(.lit 1)),(531,(.lit 0))],[(530,(.lit false))],[],[(504,(.len 2),zTM19_21),(505,(.len 461),(.var 461 [(.i .i64)])),(506,(.len 473),(.var 473 zTM19_16)),(509,(.len 472),(.var 472 [(.i .i64)]))]⟩
theorem mn_I0ok:okS 0 500 mn_I0 [] mn_S0 mn_E=true:=by kernel_rfl
theorem mn_I0g:mn_I0.ge 500=true:=by kernel_rfl
theorem mn_I0_500:lassoc 500 mn_I0.i=some (.lit 0):=by kernel_rfl
theorem mn_I0_502:lassoc 502 mn_I0.i=some (.lit 0):=by kernel_rfl
theorem mn_I0_503:lassoc 503 mn_I0.i=some (.len 461):=by kernel_rfl
theorem mn_I0_507:lassoc 507 mn_I0.i=some (.lit 0):=by kernel_rfl
theorem mn_I0_508:lassoc 508 mn_I0.i=some (.len 472):=by kernel_rfl
theorem mn_I0_510:lassoc 510 mn_I0.i=some (.var 0):=by kernel_rfl
theorem mn_I0_511:lassoc 511 mn_I0.i=some (.var 1):=by kernel_rfl
theorem mn_I0_512:lassoc 512 mn_I0.i=some (.var 2):=by kernel_rfl
theorem mn_I0_513:lassoc 513 mn_I0.i=some (.var 3):=by kernel_rfl
theorem mn_I0_514:lassoc 514 mn_I0.i=some (.var 4):=by kernel_rfl
theorem mn_I0_515:lassoc 515 mn_I0.i=some (.var 5):=by kernel_rfl
theorem mn_I0_516:lassoc 516 mn_I0.i=some (.var 6):=by kernel_rfl
theorem mn_I0_517:lassoc 517 mn_I0.i=some (.var 7):=by kernel_rfl
theorem mn_I0_518:lassoc 518 mn_I0.i=some (.var 8):=by kernel_rfl
theorem mn_I0_519:lassoc 519 mn_I0.i=some (.lit 1):=by kernel_rfl
theorem mn_I0_520:lassoc 520 mn_I0.i=some (.var 0):=by kernel_rfl
theorem mn_I0_521:lassoc 521 mn_I0.i=some (.var 1):=by kernel_rfl
theorem mn_I0_522:lassoc 522 mn_I0.i=some (.var 2):=by kernel_rfl
theorem mn_I0_523:lassoc 523 mn_I0.i=some (.var 3):=by kernel_rfl
theorem mn_I0_524:lassoc 524 mn_I0.i=some (.var 4):=by kernel_rfl
theorem mn_I0_525:lassoc 525 mn_I0.i=some (.var 5):=by kernel_rfl
theorem mn_I0_526:lassoc 526 mn_I0.i=some (.var 6):=by kernel_rfl
theorem mn_I0_527:lassoc 527 mn_I0.i=some (.var 7):=by kernel_rfl
theorem mn_I0_528:lassoc 528 mn_I0.i=some (.var 8):=by kernel_rfl
theorem mn_I0_529:lassoc 529 mn_I0.i=some (.lit 1):=by kernel_rfl
theorem mn_I0_531:lassoc 531 mn_I0.i=some (.lit 0):=by kernel_rfl
theorem mn_I0_r504:lassoc 504 mn_I0.r=some ((.len 2),(.one [(.i .i64 (.lit 0)),(.b (.lit false)),(.i .i64 (.lit 0)),(.i .i64 (.lit 0)),(.i .i64 (.lit 0)),(.i .i64 (.lit 0)),(.i .i64 (.lit 0)),(.i .i64 (.lit 0)),(.s (.lit ⟨#[]⟩)),(.s (.lit ⟨#[]⟩)),(.b (.lit false)),(.i .i64 (.lit 0)),(.i .i64 (.lit 0)),(.i .i64 (.lit 0)),(.i .i64 (.lit 0)),(.i .i64 (.lit 0)),(.i .i64 (.lit 0)),(.i .i64 (.lit 0)),(.i .i64 (.lit 0)),(.i .i64 (.lit 0)),(.i .i64 (.lit 0)),(.i .i64 (.lit 0)),(.i .i64 (.lit 0)),(.i .i64 (.lit 0)),(.i .i64 (.lit 0))])):=by kernel_rfl
theorem mn_I0_r505:lassoc 505 mn_I0.r=some ((.len 461),(.var 461 [(.i .i64)])):=by kernel_rfl
theorem mn_I0_r506:lassoc 506 mn_I0.r=some ((.len 473),(.var 473 [(.i .i64),.b,(.i .i64),(.i .i64),(.i .i64),(.i .i64),(.i .i64),(.i .i64),.s,.s,.b,(.i .i64),(.i .i64),(.i .i64),(.i .i64),(.i .i64),(.i .i64),(.i .i64),(.i .i64),(.i .i64),(.i .i64),(.i .i64),(.i .i64),(.i .i64),(.i .i64)])):=by kernel_rfl
theorem mn_I0_r509:lassoc 509 mn_I0.r=some ((.len 472),(.var 472 [(.i .i64)])):=by kernel_rfl
def mn_L1_s:XS:=⟨zTM19_62,[((19,0),zTM19_37),((19,1),zTM19_20),((19,2),zTM19_39),((19,3),zTM19_41),((28,0),zTM19_55),((28,1),zTM19_25),((28,2),zTM19_57),((28,3),zTM19_59),((69,0),zTM19_64),((77,0),zTM19_66)],161⟩
def mn_L1_r:T (XE×XS):=(.need (.and (.not (.lt (.len 505) (.op .padd .i64 (.var 502) (.var 503)))) (.and (.not (.lt (.len 509) (.op .padd .i64 (.var 507) (.var 508)))) (.lt (.cl 509 0 (.var 507)) (.len 471)))) (.ret (.normal,mn_L1_s)))
theorem mn_L1_run:(codeX (cfgL [] (fun _=>[])).ti (callS ⟨(cfgL [] (fun _=>[])),l_able,[20009,20,33,37,58,10010,10011,10013,10014,10023,10021,20025]⟩ 12) (((cfgL [] (fun _=>[])).ft 4).elim [] (·.ms)) 0 ([]) 1000 mn_c ((inM,false)::rd1) mn_S0).map (sqz mn_ks)=mn_L1_r:=by kernel_rfl
def mn_L1_b:Bind:=⟨[(500,zTM19_61),(502,(.var 502)),(503,(.var 503)),(507,(.var 507)),(508,(.var 508)),(510,(.var 510)),(511,(.var 511)),(512,(.var 512)),(513,(.var 513)),(514,(.var 514)),(515,(.var 515)),(516,(.var 516)),(517,(.var 517)),(518,(.var 518)),(519,(.var 519)),(520,(.var 520)),(521,(.var 521)),(522,(.var 522)),(523,(.var 523)),(524,(.var 524)),(525,(.var 525)),(526,(.var 526)),(527,(.var 527)),(528,(.var 528)),(529,(.var 529)),(531,(.var 531))],[(530,(.var 530))],[],[(504,(.len 2),zTM19_38),(505,(.len 505),zTM19_40),(506,(.len 473),zTM19_56),(509,(.len 509),zTM19_58)]⟩
theorem mn_L1_ok:okS 0 500 mn_L1_b [] mn_S0 mn_L1_s=true:=by kernel_rfl
theorem mn_L1_g:mn_L1_b.ge 500=true:=by kernel_rfl
theorem mn_L1_step {ρ ρ1:Rho} (hd:mn_S0.den ρ=mn_S0.den ρ1) (cok:CfgOk Try.prog ρ1 (cfgL [] (fun _=>[]))) (hl:LpsOk Try.prog ρ1 Try.f4.ntmps ([]) mn_c) (hk:Facts.ok ρ1 ((inM,false)::rd1)) (h0:((.and (.not (.lt (.len 505) (.op .padd .i64 (.var 502) (.var 503)))) (.and (.not (.lt (.len 509) (.op .padd .i64 (.var 507) (.var 508)))) (.lt (.cl 509 0 (.var 507)) (.len 471)))):BE).den ρ1=true):StepF Try.prog Try.f4.ntmps mn_c 0 mn_S0 mn_S0 ρ (mn_L1_b.ap ρ1) :=
 fam_goU mn_fits hd cok hl hk mn_L1_run (sel_need h0 rfl) mn_L1_ok
theorem mn_L1_500:lassoc 500 mn_L1_b.i=some (.op .add .i64 (.var 500) (.lit 1)):=by kernel_rfl
theorem mn_L1_502:lassoc 502 mn_L1_b.i=some (.var 502):=by kernel_rfl
theorem mn_L1_503:lassoc 503 mn_L1_b.i=some (.var 503):=by kernel_rfl
theorem mn_L1_507:lassoc 507 mn_L1_b.i=some (.var 507):=by kernel_rfl
theorem mn_L1_508:lassoc 508 mn_L1_b.i=some (.var 508):=by kernel_rfl
theorem mn_L1_510:lassoc 510 mn_L1_b.i=some (.var 510):=by kernel_rfl
theorem mn_L1_511:lassoc 511 mn_L1_b.i=some (.var 511):=by kernel_rfl
theorem mn_L1_512:lassoc 512 mn_L1_b.i=some (.var 512):=by kernel_rfl
theorem mn_L1_513:lassoc 513 mn_L1_b.i=some (.var 513):=by kernel_rfl
theorem mn_L1_514:lassoc 514 mn_L1_b.i=some (.var 514):=by kernel_rfl
theorem mn_L1_515:lassoc 515 mn_L1_b.i=some (.var 515):=by kernel_rfl
theorem mn_L1_516:lassoc 516 mn_L1_b.i=some (.var 516):=by kernel_rfl
theorem mn_L1_517:lassoc 517 mn_L1_b.i=some (.var 517):=by kernel_rfl
theorem mn_L1_518:lassoc 518 mn_L1_b.i=some (.var 518):=by kernel_rfl
theorem mn_L1_519:lassoc 519 mn_L1_b.i=some (.var 519):=by kernel_rfl
theorem mn_L1_520:lassoc 520 mn_L1_b.i=some (.var 520):=by kernel_rfl
theorem mn_L1_521:lassoc 521 mn_L1_b.i=some (.var 521):=by kernel_rfl
theorem mn_L1_522:lassoc 522 mn_L1_b.i=some (.var 522):=by kernel_rfl
theorem mn_L1_523:lassoc 523 mn_L1_b.i=some (.var 523):=by kernel_rfl
theorem mn_L1_524:lassoc 524 mn_L1_b.i=some (.var 524):=by kernel_rfl
theorem mn_L1_525:lassoc 525 mn_L1_b.i=some (.var 525):=by kernel_rfl
theorem mn_L1_526:lassoc 526 mn_L1_b.i=some (.var 526):=by kernel_rfl
theorem mn_L1_527:lassoc 527 mn_L1_b.i=some (.var 527):=by kernel_rfl
theorem mn_L1_528:lassoc 528 mn_L1_b.i=some (.var 528):=by kernel_rfl
theorem mn_L1_529:lassoc 529 mn_L1_b.i=some (.var 529):=by kernel_rfl
theorem mn_L1_531:lassoc 531 mn_L1_b.i=some (.var 531):=by kernel_rfl
theorem mn_L1_r504:lassoc 504 mn_L1_b.r=some ((.len 2),(.var 504 [(.i .i64),.b,(.i .i64),(.i .i64),(.i .i64),(.i .i64),(.i .i64),(.i .i64),.s,.s,.b,(.i .i64),(.i .i64),(.i .i64),(.i .i64),(.i .i64),(.i .i64),(.i .i64),(.i .i64),(.i .i64),(.i .i64),(.i .i64),(.i .i64),(.i .i64),(.i .i64)])):=by kernel_rfl
theorem mn_L1_r505:lassoc 505 mn_L1_b.r=some ((.len 505),(.var 505 [(.i .i64)])):=by kernel_rfl
theorem mn_L1_r506:lassoc 506 mn_L1_b.r=some ((.len 473),(.var 506 [(.i .i64),.b,(.i .i64),(.i .i64),(.i .i64),(.i .i64),(.i .i64),(.i .i64),.s,.s,.b,(.i .i64),(.i .i64),(.i .i64),(.i .i64),(.i .i64),(.i .i64),(.i .i64),(.i .i64),(.i .i64),(.i .i64),(.i .i64),(.i .i64),(.i .i64),(.i .i64)])):=by kernel_rfl
theorem mn_L1_r509:lassoc 509 mn_L1_b.r=some ((.len 509),(.var 509 [(.i .i64)])):=by kernel_rfl
def mn_L2_s:XS:=⟨zTM19_62,[((19,0),zTM19_37),((19,1),zTM19_20),((19,2),zTM19_39),((19,3),zTM19_41),((28,0),zTM19_55),((28,1),zTM19_25),((28,2),zTM19_57),((28,3),zTM19_59),((69,0),zTM19_68),((77,0),zTM19_69)],161⟩
def mn_L2_r:T (XE×XS):=(.need (.and (.not (.lt (.len 505) (.op .padd .i64 (.var 502) (.var 503)))) (.and (.not (.lt (.len 509) (.op .padd .i64 (.var 507) (.var 508)))) (.lt (.cl 509 0 (.var 507)) (.len 471)))) (.ret (.normal,mn_L2_s)))
theorem mn_L2_run:(codeX (cfgL [] (fun _=>[])).ti (callS ⟨(cfgL [] (fun _=>[])),l_able,[20009,20,33,37,58,10010,10011,10013,10014,10023,10021,20025]⟩ 12) (((cfgL [] (fun _=>[])).ft 4).elim [] (·.ms)) 0 ([]) 1000 mn_c ((inM,false)::rd2) mn_S0).map (sqz mn_ks)=mn_L2_r:=by kernel_rfl
def mn_L2_b:Bind:=⟨[(500,zTM19_61),(502,(.var 502)),(503,(.var 503)),(507,(.var 507)),(508,(.var 508)),(510,(.var 510)),(511,(.var 511)),(512,(.var 512)),(513,(.var 513)),(514,(.var 514)),(515,(.var 515)),(516,(.var 516)),(517,(.var 517)),(518,(.var 518)),(519,(.var 519)),(520,(.var 520)),(521,(.var 521)),(522,(.var 522)),(523,(.var 523)),(524,(.var 524)),(525,(.var 525)),(526,(.var 526)),(527,(.var 527)),(528,(.var 528)),(529,(.var 529)),(531,(.var 531))],[(530,(.var 530))],[],[(504,(.len 2),zTM19_38),(505,(.len 505),zTM19_40),(506,(.len 473),zTM19_56),(509,(.len 509),zTM19_58)]⟩
theorem mn_L2_ok:okS 0 500 mn_L2_b [] mn_S0 mn_L2_s=true:=by kernel_rfl
theorem mn_L2_g:mn_L2_b.ge 500=true:=by kernel_rfl
theorem mn_L2_step {ρ ρ1:Rho} (hd:mn_S0.den ρ=mn_S0.den ρ1) (cok:CfgOk Try.prog ρ1 (cfgL [] (fun _=>[]))) (hl:LpsOk Try.prog ρ1 Try.f4.ntmps ([]) mn_c) (hk:Facts.ok ρ1 ((inM,false)::rd2)) (h0:((.and (.not (.lt (.len 505) (.op .padd .i64 (.var 502) (.var 503)))) (.and (.not (.lt (.len 509) (.op .padd .i64 (.var 507) (.var 508)))) (.lt (.cl 509 0 (.var 507)) (.len 471)))):BE).den ρ1=true):StepF Try.prog Try.f4.ntmps mn_c 0 mn_S0 mn_S0 ρ (mn_L2_b.ap ρ1) :=
 fam_goU mn_fits hd cok hl hk mn_L2_run (sel_need h0 rfl) mn_L2_ok
theorem mn_L2_500:lassoc 500 mn_L2_b.i=some (.op .add .i64 (.var 500) (.lit 1)):=by kernel_rfl
theorem mn_L2_502:lassoc 502 mn_L2_b.i=some (.var 502):=by kernel_rfl
theorem mn_L2_503:lassoc 503 mn_L2_b.i=some (.var 503):=by kernel_rfl
theorem mn_L2_507:lassoc 507 mn_L2_b.i=some (.var 507):=by kernel_rfl
theorem mn_L2_508:lassoc 508 mn_L2_b.i=some (.var 508):=by kernel_rfl
theorem mn_L2_510:lassoc 510 mn_L2_b.i=some (.var 510):=by kernel_rfl
theorem mn_L2_511:lassoc 511 mn_L2_b.i=some (.var 511):=by kernel_rfl
theorem mn_L2_512:lassoc 512 mn_L2_b.i=some (.var 512):=by kernel_rfl
theorem mn_L2_513:lassoc 513 mn_L2_b.i=some (.var 513):=by kernel_rfl
theorem mn_L2_514:lassoc 514 mn_L2_b.i=some (.var 514):=by kernel_rfl
theorem mn_L2_515:lassoc 515 mn_L2_b.i=some (.var 515):=by kernel_rfl
theorem mn_L2_516:lassoc 516 mn_L2_b.i=some (.var 516):=by kernel_rfl
theorem mn_L2_517:lassoc 517 mn_L2_b.i=some (.var 517):=by kernel_rfl
theorem mn_L2_518:lassoc 518 mn_L2_b.i=some (.var 518):=by kernel_rfl
theorem mn_L2_519:lassoc 519 mn_L2_b.i=some (.var 519):=by kernel_rfl
theorem mn_L2_520:lassoc 520 mn_L2_b.i=some (.var 520):=by kernel_rfl
theorem mn_L2_521:lassoc 521 mn_L2_b.i=some (.var 521):=by kernel_rfl
theorem mn_L2_522:lassoc 522 mn_L2_b.i=some (.var 522):=by kernel_rfl
theorem mn_L2_523:lassoc 523 mn_L2_b.i=some (.var 523):=by kernel_rfl
theorem mn_L2_524:lassoc 524 mn_L2_b.i=some (.var 524):=by kernel_rfl
theorem mn_L2_525:lassoc 525 mn_L2_b.i=some (.var 525):=by kernel_rfl
theorem mn_L2_526:lassoc 526 mn_L2_b.i=some (.var 526):=by kernel_rfl
theorem mn_L2_527:lassoc 527 mn_L2_b.i=some (.var 527):=by kernel_rfl
theorem mn_L2_528:lassoc 528 mn_L2_b.i=some (.var 528):=by kernel_rfl
theorem mn_L2_529:lassoc 529 mn_L2_b.i=some (.var 529):=by kernel_rfl
theorem mn_L2_531:lassoc 531 mn_L2_b.i=some (.var 531):=by kernel_rfl
theorem mn_L2_r504:lassoc 504 mn_L2_b.r=some ((.len 2),(.var 504 [(.i .i64),.b,(.i .i64),(.i .i64),(.i .i64),(.i .i64),(.i .i64),(.i .i64),.s,.s,.b,(.i .i64),(.i .i64),(.i .i64),(.i .i64),(.i .i64),(.i .i64),(.i .i64),(.i .i64),(.i .i64),(.i .i64),(.i .i64),(.i .i64),(.i .i64),(.i .i64)])):=by kernel_rfl
theorem mn_L2_r505:lassoc 505 mn_L2_b.r=some ((.len 505),(.var 505 [(.i .i64)])):=by kernel_rfl
theorem mn_L2_r506:lassoc 506 mn_L2_b.r=some ((.len 473),(.var 506 [(.i .i64),.b,(.i .i64),(.i .i64),(.i .i64),(.i .i64),(.i .i64),(.i .i64),.s,.s,.b,(.i .i64),(.i .i64),(.i .i64),(.i .i64),(.i .i64),(.i .i64),(.i .i64),(.i .i64),(.i .i64),(.i .i64),(.i .i64),(.i .i64),(.i .i64),(.i .i64)])):=by kernel_rfl
theorem mn_L2_r509:lassoc 509 mn_L2_b.r=some ((.len 509),(.var 509 [(.i .i64)])):=by kernel_rfl
def mn_G1_s:XS:=⟨zTM19_62,[((19,0),zTM19_70),((19,1),zTM19_20),((19,2),zTM19_39),((19,3),zTM19_41),((28,0),zTM19_71),((28,1),zTM19_25),((28,2),zTM19_57),((28,3),zTM19_59),((69,0),zTM19_64),((77,0),zTM19_66)],161⟩
def mn_G1_r:T (XE×XS):=(.need (.and (.not (.lt (.len 505) (.op .padd .i64 (.var 502) (.var 503)))) (.and (.not (.lt (.len 509) (.op .padd .i64 (.var 507) (.var 508)))) (.lt (.cl 509 0 (.var 507)) (.len 471)))) (.ret (.normal,mn_G1_s)))
theorem mn_G1_run:(codeX (cfgL [] (fun _=>[])).ti (callS ⟨(cfgL [] (fun _=>[])),l_able,[20009,20,33,37,58,10010,10011,10013,10014,10023,10021,20025]⟩ 12) (((cfgL [] (fun _=>[])).ft 4).elim [] (·.ms)) 0 ([]) 1000 mn_c ((inM,true)::(.eq cdE (.lit 60),true)::rd1) mn_S0).map (sqz mn_ks)=mn_G1_r:=by kernel_rfl
def mn_G1_b:Bind:=⟨[(500,zTM19_61),(507,(.var 507)),(508,(.var 508)),(510,(.var 510)),(511,(.var 511)),(512,(.var 512)),(513,(.var 513)),(514,(.var 514)),(515,(.var 515)),(516,(.var 516)),(517,(.var 517)),(518,(.var 518)),(519,(.var 519)),(520,(.var 520)),(521,(.var 521)),(522,(.var 522)),(523,(.var 523)),(524,(.var 524)),(525,(.var 525)),(526,(.var 526)),(527,(.var 527)),(528,(.var 528)),(529,(.var 529)),(531,(.lit 60)),(532,(.cl 3 0 (.var 500)))],[(530,(.lit true))],[],[(504,(.len 2),zTM19_38),(506,(.len 473),zTM19_56),(509,(.len 509),zTM19_58)]⟩
theorem mn_G1_ok:okS 0 500 mn_G1_b [] mn_S1 mn_G1_s=true:=by kernel_rfl
theorem mn_G1_g:mn_G1_b.ge 500=true:=by kernel_rfl
theorem mn_G1_step {ρ ρ1:Rho} (hd:mn_S0.den ρ=mn_S0.den ρ1) (cok:CfgOk Try.prog ρ1 (cfgL [] (fun _=>[]))) (hl:LpsOk Try.prog ρ1 Try.f4.ntmps ([]) mn_c) (hk:Facts.ok ρ1 ((inM,true)::(.eq cdE (.lit 60),true)::rd1)) (h0:((.and (.not (.lt (.len 505) (.op .padd .i64 (.var 502) (.var 503)))) (.and (.not (.lt (.len 509) (.op .padd .i64 (.var 507) (.var 508)))) (.lt (.cl 509 0 (.var 507)) (.len 471)))):BE).den ρ1=true):StepF Try.prog Try.f4.ntmps mn_c 0 mn_S0 mn_S1 ρ (mn_G1_b.ap ρ1) :=
 fam_goU mn_fits hd cok hl hk mn_G1_run (sel_need h0 rfl) mn_G1_ok
theorem mn_G1_500:lassoc 500 mn_G1_b.i=some (.op .add .i64 (.var 500) (.lit 1)):=by kernel_rfl
theorem mn_G1_507:lassoc 507 mn_G1_b.i=some (.var 507):=by kernel_rfl
theorem mn_G1_508:lassoc 508 mn_G1_b.i=some (.var 508):=by kernel_rfl
theorem mn_G1_510:lassoc 510 mn_G1_b.i=some (.var 510):=by kernel_rfl
theorem mn_G1_511:lassoc 511 mn_G1_b.i=some (.var 511):=by kernel_rfl
theorem mn_G1_512:lassoc 512 mn_G1_b.i=some (.var 512):=by kernel_rfl
theorem mn_G1_513:lassoc 513 mn_G1_b.i=some (.var 513):=by kernel_rfl
theorem mn_G1_514:lassoc 514 mn_G1_b.i=some (.var 514):=by kernel_rfl
theorem mn_G1_515:lassoc 515 mn_G1_b.i=some (.var 515):=by kernel_rfl
theorem mn_G1_516:lassoc 516 mn_G1_b.i=some (.var 516):=by kernel_rfl
theorem mn_G1_517:lassoc 517 mn_G1_b.i=some (.var 517):=by kernel_rfl
theorem mn_G1_518:lassoc 518 mn_G1_b.i=some (.var 518):=by kernel_rfl
theorem mn_G1_519:lassoc 519 mn_G1_b.i=some (.var 519):=by kernel_rfl
theorem mn_G1_520:lassoc 520 mn_G1_b.i=some (.var 520):=by kernel_rfl
theorem mn_G1_521:lassoc 521 mn_G1_b.i=some (.var 521):=by kernel_rfl
theorem mn_G1_522:lassoc 522 mn_G1_b.i=some (.var 522):=by kernel_rfl
theorem mn_G1_523:lassoc 523 mn_G1_b.i=some (.var 523):=by kernel_rfl
theorem mn_G1_524:lassoc 524 mn_G1_b.i=some (.var 524):=by kernel_rfl
theorem mn_G1_525:lassoc 525 mn_G1_b.i=some (.var 525):=by kernel_rfl
theorem mn_G1_526:lassoc 526 mn_G1_b.i=some (.var 526):=by kernel_rfl
theorem mn_G1_527:lassoc 527 mn_G1_b.i=some (.var 527):=by kernel_rfl
theorem mn_G1_528:lassoc 528 mn_G1_b.i=some (.var 528):=by kernel_rfl
theorem mn_G1_529:lassoc 529 mn_G1_b.i=some (.var 529):=by kernel_rfl
theorem mn_G1_531:lassoc 531 mn_G1_b.i=some (.lit 60):=by kernel_rfl
theorem mn_G1_532:lassoc 532 mn_G1_b.i=some (.cl 3 0 (.var 500)):=by kernel_rfl
theorem mn_G1_r504:lassoc 504 mn_G1_b.r=some ((.len 2),(.var 504 [(.i .i64),.b,(.i .i64),(.i .i64),(.i .i64),(.i .i64),(.i .i64),(.i .i64),.s,.s,.b,(.i .i64),(.i .i64),(.i .i64),(.i .i64),(.i .i64),(.i .i64),(.i .i64),(.i .i64),(.i .i64),(.i .i64),(.i .i64),(.i .i64),(.i .i64),(.i .i64)])):=by kernel_rfl
theorem mn_G1_r506:lassoc 506 mn_G1_b.r=some ((.len 473),(.var 506 [(.i .i64),.b,(.i .i64),(.i .i64),(.i .i64),(.i .i64),(.i .i64),(.i .i64),.s,.s,.b,(.i .i64),(.i .i64),(.i .i64),(.i .i64),(.i .i64),(.i .i64),(.i .i64),(.i .i64),(.i .i64),(.i .i64),(.i .i64),(.i .i64),(.i .i64),(.i .i64)])):=by kernel_rfl
theorem mn_G1_r509:lassoc 509 mn_G1_b.r=some ((.len 509),(.var 509 [(.i .i64)])):=by kernel_rfl
def mn_G2_s:XS:=⟨zTM19_62,[((19,0),zTM19_70),((19,1),zTM19_20),((19,2),zTM19_39),((19,3),zTM19_41),((28,0),zTM19_71),((28,1),zTM19_25),((28,2),zTM19_57),((28,3),zTM19_59),((69,0),zTM19_68),((77,0),zTM19_69)],161⟩
def mn_G2_r:T (XE×XS):=(.need (.and (.not (.lt (.len 505) (.op .padd .i64 (.var 502) (.var 503)))) (.and (.not (.lt (.len 509) (.op .padd .i64 (.var 507) (.var 508)))) (.lt (.cl 509 0 (.var 507)) (.len 471)))) (.ret (.normal,mn_G2_s)))
theorem mn_G2_run:(codeX (cfgL [] (fun _=>[])).ti (callS ⟨(cfgL [] (fun _=>[])),l_able,[20009,20,33,37,58,10010,10011,10013,10014,10023,10021,20025]⟩ 12) (((cfgL [] (fun _=>[])).ft 4).elim [] (·.ms)) 0 ([]) 1000 mn_c ((inM,true)::(.eq cdE (.lit 60),true)::rd2) mn_S0).map (sqz mn_ks)=mn_G2_r:=by kernel_rfl
def mn_G2_b:Bind:=⟨[(500,zTM19_61),(507,(.var 507)),(508,(.var 508)),(510,(.var 510)),(511,(.var 511)),(512,(.var 512)),(513,(.var 513)),(514,(.var 514)),(515,(.var 515)),(516,(.var 516)),(517,(.var 517)),(518,(.var 518)),(519,(.var 519)),(520,(.var 520)),(521,(.var 521)),(522,(.var 522)),(523,(.var 523)),(524,(.var 524)),(525,(.var 525)),(526,(.var 526)),(527,(.var 527)),(528,(.var 528)),(529,(.var 529)),(531,(.lit 60)),(532,(.cl 3 0 (.var 500)))],[(530,(.lit true))],[],[(504,(.len 2),zTM19_38),(506,(.len 473),zTM19_56),(509,(.len 509),zTM19_58)]⟩
theorem mn_G2_ok:okS 0 500 mn_G2_b [] mn_S1 mn_G2_s=true:=by kernel_rfl
theorem mn_G2_g:mn_G2_b.ge 500=true:=by kernel_rfl
theorem mn_G2_step {ρ ρ1:Rho} (hd:mn_S0.den ρ=mn_S0.den ρ1) (cok:CfgOk Try.prog ρ1 (cfgL [] (fun _=>[]))) (hl:LpsOk Try.prog ρ1 Try.f4.ntmps ([]) mn_c) (hk:Facts.ok ρ1 ((inM,true)::(.eq cdE (.lit 60),true)::rd2)) (h0:((.and (.not (.lt (.len 505) (.op .padd .i64 (.var 502) (.var 503)))) (.and (.not (.lt (.len 509) (.op .padd .i64 (.var 507) (.var 508)))) (.lt (.cl 509 0 (.var 507)) (.len 471)))):BE).den ρ1=true):StepF Try.prog Try.f4.ntmps mn_c 0 mn_S0 mn_S1 ρ (mn_G2_b.ap ρ1) :=
 fam_goU mn_fits hd cok hl hk mn_G2_run (sel_need h0 rfl) mn_G2_ok
theorem mn_G2_500:lassoc 500 mn_G2_b.i=some (.op .add .i64 (.var 500) (.lit 1)):=by kernel_rfl
theorem mn_G2_507:lassoc 507 mn_G2_b.i=some (.var 507):=by kernel_rfl
theorem mn_G2_508:lassoc 508 mn_G2_b.i=some (.var 508):=by kernel_rfl
theorem mn_G2_510:lassoc 510 mn_G2_b.i=some (.var 510):=by kernel_rfl
theorem mn_G2_511:lassoc 511 mn_G2_b.i=some (.var 511):=by kernel_rfl
theorem mn_G2_512:lassoc 512 mn_G2_b.i=some (.var 512):=by kernel_rfl
theorem mn_G2_513:lassoc 513 mn_G2_b.i=some (.var 513):=by kernel_rfl
theorem mn_G2_514:lassoc 514 mn_G2_b.i=some (.var 514):=by kernel_rfl
theorem mn_G2_515:lassoc 515 mn_G2_b.i=some (.var 515):=by kernel_rfl
theorem mn_G2_516:lassoc 516 mn_G2_b.i=some (.var 516):=by kernel_rfl
theorem mn_G2_517:lassoc 517 mn_G2_b.i=some (.var 517):=by kernel_rfl
theorem mn_G2_518:lassoc 518 mn_G2_b.i=some (.var 518):=by kernel_rfl
theorem mn_G2_519:lassoc 519 mn_G2_b.i=some (.var 519):=by kernel_rfl
theorem mn_G2_520:lassoc 520 mn_G2_b.i=some (.var 520):=by kernel_rfl
theorem mn_G2_521:lassoc 521 mn_G2_b.i=some (.var 521):=by kernel_rfl
theorem mn_G2_522:lassoc 522 mn_G2_b.i=some (.var 522):=by kernel_rfl
theorem mn_G2_523:lassoc 523 mn_G2_b.i=some (.var 523):=by kernel_rfl
theorem mn_G2_524:lassoc 524 mn_G2_b.i=some (.var 524):=by kernel_rfl
theorem mn_G2_525:lassoc 525 mn_G2_b.i=some (.var 525):=by kernel_rfl
theorem mn_G2_526:lassoc 526 mn_G2_b.i=some (.var 526):=by kernel_rfl
theorem mn_G2_527:lassoc 527 mn_G2_b.i=some (.var 527):=by kernel_rfl
theorem mn_G2_528:lassoc 528 mn_G2_b.i=some (.var 528):=by kernel_rfl
theorem mn_G2_529:lassoc 529 mn_G2_b.i=some (.var 529):=by kernel_rfl
theorem mn_G2_531:lassoc 531 mn_G2_b.i=some (.lit 60):=by kernel_rfl
theorem mn_G2_532:lassoc 532 mn_G2_b.i=some (.cl 3 0 (.var 500)):=by kernel_rfl
theorem mn_G2_r504:lassoc 504 mn_G2_b.r=some ((.len 2),(.var 504 [(.i .i64),.b,(.i .i64),(.i .i64),(.i .i64),(.i .i64),(.i .i64),(.i .i64),.s,.s,.b,(.i .i64),(.i .i64),(.i .i64),(.i .i64),(.i .i64),(.i .i64),(.i .i64),(.i .i64),(.i .i64),(.i .i64),(.i .i64),(.i .i64),(.i .i64),(.i .i64)])):=by kernel_rfl
theorem mn_G2_r506:lassoc 506 mn_G2_b.r=some ((.len 473),(.var 506 [(.i .i64),.b,(.i .i64),(.i .i64),(.i .i64),(.i .i64),(.i .i64),(.i .i64),.s,.s,.b,(.i .i64),(.i .i64),(.i .i64),(.i .i64),(.i .i64),(.i .i64),(.i .i64),(.i .i64),(.i .i64),(.i .i64),(.i .i64),(.i .i64),(.i .i64),(.i .i64)])):=by kernel_rfl
theorem mn_G2_r509:lassoc 509 mn_G2_b.r=some ((.len 509),(.var 509 [(.i .i64)])):=by kernel_rfl
def mn_E1_s:XS:=⟨zTM19_62,[((19,0),zTM19_37),((19,1),zTM19_20),((19,2),zTM19_39),((19,3),zTM19_41),((28,0),zTM19_55),((28,1),zTM19_25),((28,2),zTM19_57),((28,3),zTM19_59),((69,0),zTM19_64),((77,0),zTM19_66)],161⟩
def mn_E1_r:T (XE×XS):=(.need (.and (.not (.lt (.len 505) (.op .padd .i64 (.var 502) (.var 503)))) (.and (.not (.lt (.len 509) (.op .padd .i64 (.var 507) (.var 508)))) (.lt (.cl 509 0 (.var 507)) (.len 471)))) (.ret (.normal,mn_E1_s)))
theorem mn_E1_run:(codeX (cfgL [] (fun _=>[])).ti (callS ⟨(cfgL [] (fun _=>[])),l_able,[20009,20,33,37,58,10010,10011,10013,10014,10023,10021,20025]⟩ 12) (((cfgL [] (fun _=>[])).ft 4).elim [] (·.ms)) 0 ([]) 1000 mn_c ((inM,true)::(.eq cdE (.lit 60),false)::(.eq cdE (.lit 0),false)::rd1) mn_S0).map (sqz mn_ks)=mn_E1_r:=by kernel_rfl
def mn_E1_b:Bind:=⟨[(500,zTM19_61),(502,(.var 502)),(503,(.var 503)),(507,(.var 507)),(508,(.var 508)),(510,(.var 510)),(511,(.var 511)),(512,(.var 512)),(513,(.var 513)),(514,(.var 514)),(515,(.var 515)),(516,(.var 516)),(517,(.var 517)),(518,(.var 518)),(519,(.var 519)),(520,(.var 520)),(521,(.var 521)),(522,(.var 522)),(523,(.var 523)),(524,(.var 524)),(525,(.var 525)),(526,(.var 526)),(527,(.var 527)),(528,(.var 528)),(529,(.var 529)),(531,(.var 531))],[(530,(.var 530))],[],[(504,(.len 2),zTM19_38),(505,(.len 505),zTM19_40),(506,(.len 473),zTM19_56),(509,(.len 509),zTM19_58)]⟩
theorem mn_E1_ok:okS 0 500 mn_E1_b [] mn_S0 mn_E1_s=true:=by kernel_rfl
theorem mn_E1_g:mn_E1_b.ge 500=true:=by kernel_rfl
theorem mn_E1_step {ρ ρ1:Rho} (hd:mn_S0.den ρ=mn_S0.den ρ1) (cok:CfgOk Try.prog ρ1 (cfgL [] (fun _=>[]))) (hl:LpsOk Try.prog ρ1 Try.f4.ntmps ([]) mn_c) (hk:Facts.ok ρ1 ((inM,true)::(.eq cdE (.lit 60),false)::(.eq cdE (.lit 0),false)::rd1)) (h0:((.and (.not (.lt (.len 505) (.op .padd .i64 (.var 502) (.var 503)))) (.and (.not (.lt (.len 509) (.op .padd .i64 (.var 507) (.var 508)))) (.lt (.cl 509 0 (.var 507)) (.len 471)))):BE).den ρ1=true):StepF Try.prog Try.f4.ntmps mn_c 0 mn_S0 mn_S0 ρ (mn_E1_b.ap ρ1) :=
 fam_goU mn_fits hd cok hl hk mn_E1_run (sel_need h0 rfl) mn_E1_ok
theorem mn_E1_500:lassoc 500 mn_E1_b.i=some (.op .add .i64 (.var 500) (.lit 1)):=by kernel_rfl
theorem mn_E1_502:lassoc 502 mn_E1_b.i=some (.var 502):=by kernel_rfl
theorem mn_E1_503:lassoc 503 mn_E1_b.i=some (.var 503):=by kernel_rfl
theorem mn_E1_507:lassoc 507 mn_E1_b.i=some (.var 507):=by kernel_rfl
theorem mn_E1_508:lassoc 508 mn_E1_b.i=some (.var 508):=by kernel_rfl
theorem mn_E1_510:lassoc 510 mn_E1_b.i=some (.var 510):=by kernel_rfl
theorem mn_E1_511:lassoc 511 mn_E1_b.i=some (.var 511):=by kernel_rfl
theorem mn_E1_512:lassoc 512 mn_E1_b.i=some (.var 512):=by kernel_rfl
theorem mn_E1_513:lassoc 513 mn_E1_b.i=some (.var 513):=by kernel_rfl
theorem mn_E1_514:lassoc 514 mn_E1_b.i=some (.var 514):=by kernel_rfl
theorem mn_E1_515:lassoc 515 mn_E1_b.i=some (.var 515):=by kernel_rfl
theorem mn_E1_516:lassoc 516 mn_E1_b.i=some (.var 516):=by kernel_rfl
theorem mn_E1_517:lassoc 517 mn_E1_b.i=some (.var 517):=by kernel_rfl
theorem mn_E1_518:lassoc 518 mn_E1_b.i=some (.var 518):=by kernel_rfl
theorem mn_E1_519:lassoc 519 mn_E1_b.i=some (.var 519):=by kernel_rfl
theorem mn_E1_520:lassoc 520 mn_E1_b.i=some (.var 520):=by kernel_rfl
theorem mn_E1_521:lassoc 521 mn_E1_b.i=some (.var 521):=by kernel_rfl
theorem mn_E1_522:lassoc 522 mn_E1_b.i=some (.var 522):=by kernel_rfl
theorem mn_E1_523:lassoc 523 mn_E1_b.i=some (.var 523):=by kernel_rfl
theorem mn_E1_524:lassoc 524 mn_E1_b.i=some (.var 524):=by kernel_rfl
theorem mn_E1_525:lassoc 525 mn_E1_b.i=some (.var 525):=by kernel_rfl
theorem mn_E1_526:lassoc 526 mn_E1_b.i=some (.var 526):=by kernel_rfl
theorem mn_E1_527:lassoc 527 mn_E1_b.i=some (.var 527):=by kernel_rfl
theorem mn_E1_528:lassoc 528 mn_E1_b.i=some (.var 528):=by kernel_rfl
theorem mn_E1_529:lassoc 529 mn_E1_b.i=some (.var 529):=by kernel_rfl
theorem mn_E1_531:lassoc 531 mn_E1_b.i=some (.var 531):=by kernel_rfl
theorem mn_E1_r504:lassoc 504 mn_E1_b.r=some ((.len 2),(.var 504 [(.i .i64),.b,(.i .i64),(.i .i64),(.i .i64),(.i .i64),(.i .i64),(.i .i64),.s,.s,.b,(.i .i64),(.i .i64),(.i .i64),(.i .i64),(.i .i64),(.i .i64),(.i .i64),(.i .i64),(.i .i64),(.i .i64),(.i .i64),(.i .i64),(.i .i64),(.i .i64)])):=by kernel_rfl
theorem mn_E1_r505:lassoc 505 mn_E1_b.r=some ((.len 505),(.var 505 [(.i .i64)])):=by kernel_rfl
theorem mn_E1_r506:lassoc 506 mn_E1_b.r=some ((.len 473),(.var 506 [(.i .i64),.b,(.i .i64),(.i .i64),(.i .i64),(.i .i64),(.i .i64),(.i .i64),.s,.s,.b,(.i .i64),(.i .i64),(.i .i64),(.i .i64),(.i .i64),(.i .i64),(.i .i64),(.i .i64),(.i .i64),(.i .i64),(.i .i64),(.i .i64),(.i .i64),(.i .i64)])):=by kernel_rfl
theorem mn_E1_r509:lassoc 509 mn_E1_b.r=some ((.len 509),(.var 509 [(.i .i64)])):=by kernel_rfl
def mn_E2_s:XS:=⟨zTM19_62,[((19,0),zTM19_37),((19,1),zTM19_20),((19,2),zTM19_39),((19,3),zTM19_41),((28,0),zTM19_55),((28,1),zTM19_25),((28,2),zTM19_57),((28,3),zTM19_59),((69,0),zTM19_68),((77,0),zTM19_69)],161⟩
def mn_E2_r:T (XE×XS):=(.need (.and (.not (.lt (.len 505) (.op .padd .i64 (.var 502) (.var 503)))) (.and (.not (.lt (.len 509) (.op .padd .i64 (.var 507) (.var 508)))) (.lt (.cl 509 0 (.var 507)) (.len 471)))) (.ret (.normal,mn_E2_s)))
theorem mn_E2_run:(codeX (cfgL [] (fun _=>[])).ti (callS ⟨(cfgL [] (fun _=>[])),l_able,[20009,20,33,37,58,10010,10011,10013,10014,10023,10021,20025]⟩ 12) (((cfgL [] (fun _=>[])).ft 4).elim [] (·.ms)) 0 ([]) 1000 mn_c ((inM,true)::(.eq cdE (.lit 60),false)::(.eq cdE (.lit 0),false)::rd2) mn_S0).map (sqz mn_ks)=mn_E2_r:=by kernel_rfl
def mn_E2_b:Bind:=⟨[(500,zTM19_61),(502,(.var 502)),(503,(.var 503)),(507,(.var 507)),(508,(.var 508)),(510,(.var 510)),(511,(.var 511)),(512,(.var 512)),(513,(.var 513)),(514,(.var 514)),(515,(.var 515)),(516,(.var 516)),(517,(.var 517)),(518,(.var 518)),(519,(.var 519)),(520,(.var 520)),(521,(.var 521)),(522,(.var 522)),(523,(.var 523)),(524,(.var 524)),(525,(.var 525)),(526,(.var 526)),(527,(.var 527)),(528,(.var 528)),(529,(.var 529)),(531,(.var 531))],[(530,(.var 530))],[],[(504,(.len 2),zTM19_38),(505,(.len 505),zTM19_40),(506,(.len 473),zTM19_56),(509,(.len 509),zTM19_58)]⟩
theorem mn_E2_ok:okS 0 500 mn_E2_b [] mn_S0 mn_E2_s=true:=by kernel_rfl
theorem mn_E2_g:mn_E2_b.ge 500=true:=by kernel_rfl
theorem mn_E2_step {ρ ρ1:Rho} (hd:mn_S0.den ρ=mn_S0.den ρ1) (cok:CfgOk Try.prog ρ1 (cfgL [] (fun _=>[]))) (hl:LpsOk Try.prog ρ1 Try.f4.ntmps ([]) mn_c) (hk:Facts.ok ρ1 ((inM,true)::(.eq cdE (.lit 60),false)::(.eq cdE (.lit 0),false)::rd2)) (h0:((.and (.not (.lt (.len 505) (.op .padd .i64 (.var 502) (.var 503)))) (.and (.not (.lt (.len 509) (.op .padd .i64 (.var 507) (.var 508)))) (.lt (.cl 509 0 (.var 507)) (.len 471)))):BE).den ρ1=true):StepF Try.prog Try.f4.ntmps mn_c 0 mn_S0 mn_S0 ρ (mn_E2_b.ap ρ1) :=
 fam_goU mn_fits hd cok hl hk mn_E2_run (sel_need h0 rfl) mn_E2_ok
theorem mn_E2_500:lassoc 500 mn_E2_b.i=some (.op .add .i64 (.var 500) (.lit 1)):=by kernel_rfl
theorem mn_E2_502:lassoc 502 mn_E2_b.i=some (.var 502):=by kernel_rfl
theorem mn_E2_503:lassoc 503 mn_E2_b.i=some (.var 503):=by kernel_rfl
theorem mn_E2_507:lassoc 507 mn_E2_b.i=some (.var 507):=by kernel_rfl
theorem mn_E2_508:lassoc 508 mn_E2_b.i=some (.var 508):=by kernel_rfl
theorem mn_E2_510:lassoc 510 mn_E2_b.i=some (.var 510):=by kernel_rfl
theorem mn_E2_511:lassoc 511 mn_E2_b.i=some (.var 511):=by kernel_rfl
theorem mn_E2_512:lassoc 512 mn_E2_b.i=some (.var 512):=by kernel_rfl
theorem mn_E2_513:lassoc 513 mn_E2_b.i=some (.var 513):=by kernel_rfl
theorem mn_E2_514:lassoc 514 mn_E2_b.i=some (.var 514):=by kernel_rfl
theorem mn_E2_515:lassoc 515 mn_E2_b.i=some (.var 515):=by kernel_rfl
theorem mn_E2_516:lassoc 516 mn_E2_b.i=some (.var 516):=by kernel_rfl
theorem mn_E2_517:lassoc 517 mn_E2_b.i=some (.var 517):=by kernel_rfl
theorem mn_E2_518:lassoc 518 mn_E2_b.i=some (.var 518):=by kernel_rfl
theorem mn_E2_519:lassoc 519 mn_E2_b.i=some (.var 519):=by kernel_rfl
theorem mn_E2_520:lassoc 520 mn_E2_b.i=some (.var 520):=by kernel_rfl
theorem mn_E2_521:lassoc 521 mn_E2_b.i=some (.var 521):=by kernel_rfl
theorem mn_E2_522:lassoc 522 mn_E2_b.i=some (.var 522):=by kernel_rfl
theorem mn_E2_523:lassoc 523 mn_E2_b.i=some (.var 523):=by kernel_rfl
theorem mn_E2_524:lassoc 524 mn_E2_b.i=some (.var 524):=by kernel_rfl
theorem mn_E2_525:lassoc 525 mn_E2_b.i=some (.var 525):=by kernel_rfl
theorem mn_E2_526:lassoc 526 mn_E2_b.i=some (.var 526):=by kernel_rfl
theorem mn_E2_527:lassoc 527 mn_E2_b.i=some (.var 527):=by kernel_rfl
theorem mn_E2_528:lassoc 528 mn_E2_b.i=some (.var 528):=by kernel_rfl
theorem mn_E2_529:lassoc 529 mn_E2_b.i=some (.var 529):=by kernel_rfl
theorem mn_E2_531:lassoc 531 mn_E2_b.i=some (.var 531):=by kernel_rfl
theorem mn_E2_r504:lassoc 504 mn_E2_b.r=some ((.len 2),(.var 504 [(.i .i64),.b,(.i .i64),(.i .i64),(.i .i64),(.i .i64),(.i .i64),(.i .i64),.s,.s,.b,(.i .i64),(.i .i64),(.i .i64),(.i .i64),(.i .i64),(.i .i64),(.i .i64),(.i .i64),(.i .i64),(.i .i64),(.i .i64),(.i .i64),(.i .i64),(.i .i64)])):=by kernel_rfl
theorem mn_E2_r505:lassoc 505 mn_E2_b.r=some ((.len 505),(.var 505 [(.i .i64)])):=by kernel_rfl
theorem mn_E2_r506:lassoc 506 mn_E2_b.r=some ((.len 473),(.var 506 [(.i .i64),.b,(.i .i64),(.i .i64),(.i .i64),(.i .i64),(.i .i64),(.i .i64),.s,.s,.b,(.i .i64),(.i .i64),(.i .i64),(.i .i64),(.i .i64),(.i .i64),(.i .i64),(.i .i64),(.i .i64),(.i .i64),(.i .i64),(.i .i64),(.i .i64),(.i .i64)])):=by kernel_rfl
theorem mn_E2_r509:lassoc 509 mn_E2_b.r=some ((.len 509),(.var 509 [(.i .i64)])):=by kernel_rfl
def mn_W1_s:XS:=⟨zTM19_62,[((19,0),zTM19_74),((19,1),zTM19_20),((19,2),zTM19_77),((19,3),zTM19_41),((28,0),zTM19_81),((28,1),zTM19_25),((28,2),zTM19_83),((28,3),zTM19_59),((69,0),zTM19_64),((77,0),zTM19_66)],161⟩
def mn_W1_r:T (XE×XS):=(.need (.and (.not (.lt (.len 505) (.op .padd .i64 (.var 502) (.var 503)))) (.and (.and (.not (.lt (.len 509) (.op .padd .i64 (.var 507) (.var 508)))) (.lt (.cl 509 0 (.var 507)) (.len 471))) (.lt (.cl 509 0 (.var 507)) (.len 473)))) (.ret (.normal,mn_W1_s)))
theorem mn_W1_run:(codeX (cfgL [] (fun _=>[])).ti (callS ⟨(cfgL [] (fun _=>[])),l_able,[20009,20,33,37,58,10010,10011,10013,10014,10023,10021,20025]⟩ 12) (((cfgL [] (fun _=>[])).ft 4).elim [] (·.ms)) 0 ([]) 1000 mn_c (c0F++(lg++rd1)) mn_S0).map (sqz mn_ks)=mn_W1_r:=by kernel_rfl
def mn_W1_b:Bind:=⟨zTM19_84,[(530,(.var 530))],[],zTM19_85⟩
theorem mn_W1_ok:okS 0 500 mn_W1_b [] mn_S0 mn_W1_s=true:=by kernel_rfl
theorem mn_W1_g:mn_W1_b.ge 500=true:=by kernel_rfl
theorem mn_W1_step {ρ ρ1:Rho} (hd:mn_S0.den ρ=mn_S0.den ρ1) (cok:CfgOk Try.prog ρ1 (cfgL [] (fun _=>[]))) (hl:LpsOk Try.prog ρ1 Try.f4.ntmps ([]) mn_c) (hk:Facts.ok ρ1 (c0F++(lg++rd1))) (h0:((.and (.not (.lt (.len 505) (.op .padd .i64 (.var 502) (.var 503)))) (.and (.and (.not (.lt (.len 509) (.op .padd .i64 (.var 507) (.var 508)))) (.lt (.cl 509 0 (.var 507)) (.len 471))) (.lt (.cl 509 0 (.var 507)) (.len 473)))):BE).den ρ1=true):StepF Try.prog Try.f4.ntmps mn_c 0 mn_S0 mn_S0 ρ (mn_W1_b.ap ρ1) :=
 fam_goU mn_fits hd cok hl hk mn_W1_run (sel_need h0 rfl) mn_W1_ok
theorem mn_W1_500:lassoc 500 mn_W1_b.i=some (.op .add .i64 (.var 500) (.lit 1)):=by kernel_rfl
theorem mn_W1_502:lassoc 502 mn_W1_b.i=some (.op .padd .i64 (.var 502) (.lit 1)):=by kernel_rfl
theorem mn_W1_503:lassoc 503 mn_W1_b.i=some (.op .psub .i64 (.var 503) (.lit 1)):=by kernel_rfl
theorem mn_W1_507:lassoc 507 mn_W1_b.i=some (.op .padd .i64 (.var 507) (.lit 1)):=by kernel_rfl
theorem mn_W1_508:lassoc 508 mn_W1_b.i=some (.op .psub .i64 (.var 508) (.lit 1)):=by kernel_rfl
theorem mn_W1_510:lassoc 510 mn_W1_b.i=some (.var 510):=by kernel_rfl
theorem mn_W1_511:lassoc 511 mn_W1_b.i=some (.var 511):=by kernel_rfl
theorem mn_W1_512:lassoc 512 mn_W1_b.i=some (.var 512):=by kernel_rfl
theorem mn_W1_513:lassoc 513 mn_W1_b.i=some (.var 513):=by kernel_rfl
theorem mn_W1_514:lassoc 514 mn_W1_b.i=some (.var 514):=by kernel_rfl
theorem mn_W1_515:lassoc 515 mn_W1_b.i=some (.var 515):=by kernel_rfl
theorem mn_W1_516:lassoc 516 mn_W1_b.i=some (.var 516):=by kernel_rfl
theorem mn_W1_517:lassoc 517 mn_W1_b.i=some (.var 517):=by kernel_rfl
theorem mn_W1_518:lassoc 518 mn_W1_b.i=some (.var 518):=by kernel_rfl
theorem mn_W1_519:lassoc 519 mn_W1_b.i=some (.var 519):=by kernel_rfl
theorem mn_W1_520:lassoc 520 mn_W1_b.i=some (.var 520):=by kernel_rfl
theorem mn_W1_521:lassoc 521 mn_W1_b.i=some (.var 521):=by kernel_rfl
theorem mn_W1_522:lassoc 522 mn_W1_b.i=some (.var 522):=by kernel_rfl
theorem mn_W1_523:lassoc 523 mn_W1_b.i=some (.var 523):=by kernel_rfl
theorem mn_W1_524:lassoc 524 mn_W1_b.i=some (.var 524):=by kernel_rfl
theorem mn_W1_525:lassoc 525 mn_W1_b.i=some (.var 525):=by kernel_rfl
theorem mn_W1_526:lassoc 526 mn_W1_b.i=some (.var 526):=by kernel_rfl
theorem mn_W1_527:lassoc 527 mn_W1_b.i=some (.var 527):=by kernel_rfl
theorem mn_W1_528:lassoc 528 mn_W1_b.i=some (.var 528):=by kernel_rfl
theorem mn_W1_529:lassoc 529 mn_W1_b.i=some (.var 529):=by kernel_rfl
theorem mn_W1_531:lassoc 531 mn_W1_b.i=some (.var 531):=by kernel_rfl
theorem mn_W1_r504:lassoc 504 mn_W1_b.r=some ((.len 2),(.upd (.cl 505 0 (.var 502)) [(.i .i64 (.cl 3 0 (.var 500))),(.b (.cl 3 1 (.var 500))),(.i .i64 (.cl 3 2 (.var 500))),(.i .i64 (.cl 3 3 (.var 500))),(.i .i64 (.cl 3 4 (.var 500))),(.i .i64 (.cl 3 5 (.var 500))),(.i .i64 (.cl 3 6 (.var 500))),(.i .i64 (.cl 3 7 (.var 500))),(.s (.cl 3 8 (.var 500))),(.s (.cl 3 9 (.var 500))),(.b (.cl 3 10 (.var 500))),(.i .i64 (.cl 3 11 (.var 500))),(.i .i64 (.cl 3 12 (.var 500))),(.i .i64 (.cl 3 13 (.var 500))),(.i .i64 (.cl 3 14 (.var 500))),(.i .i64 (.cl 3 15 (.var 500))),(.i .i64 (.cl 3 16 (.var 500))),(.i .i64 (.cl 3 17 (.var 500))),(.i .i64 (.cl 3 18 (.var 500))),(.i .i64 (.cl 3 19 (.var 500))),(.i .i64 (.cl 3 20 (.var 500))),(.i .i64 (.cl 3 21 (.var 500))),(.i .i64 (.cl 3 22 (.var 500))),(.i .i64 (.cl 3 23 (.var 500))),(.i .i64 (.cl 3 24 (.var 500)))] (.var 504 [(.i .i64),.b,(.i .i64),(.i .i64),(.i .i64),(.i .i64),(.i .i64),(.i .i64),.s,.s,.b,(.i .i64),(.i .i64),(.i .i64),(.i .i64),(.i .i64),(.i .i64),(.i .i64),(.i .i64),(.i .i64),(.i .i64),(.i .i64),(.i .i64),(.i .i64),(.i .i64)]))):=by kernel_rfl
theorem mn_W1_r505:lassoc 505 mn_W1_b.r=some ((.len 505),(.var 505 [(.i .i64)])):=by kernel_rfl
theorem mn_W1_r506:lassoc 506 mn_W1_b.r=some ((.len 473),(.upd (.cl 509 0 (.var 507)) [(.i .i64 (.cl 3 0 (.var 500))),(.b (.cl 3 1 (.var 500))),(.i .i64 (.cl 3 2 (.var 500))),(.i .i64 (.cl 3 3 (.var 500))),(.i .i64 (.cl 3 4 (.var 500))),(.i .i64 (.cl 3 5 (.var 500))),(.i .i64 (.cl 3 6 (.var 500))),(.i .i64 (.cl 3 7 (.var 500))),(.s (.cl 3 8 (.var 500))),(.s (.cl 3 9 (.var 500))),(.b (.cl 3 10 (.var 500))),(.i .i64 (.cl 3 11 (.var 500))),(.i .i64 (.cl 3 12 (.var 500))),(.i .i64 (.cl 3 13 (.var 500))),(.i .i64 (.cl 3 14 (.var 500))),(.i .i64 (.cl 3 15 (.var 500))),(.i .i64 (.cl 3 16 (.var 500))),(.i .i64 (.cl 3 17 (.var 500))),(.i .i64 (.cl 3 18 (.var 500))),(.i .i64 (.cl 3 19 (.var 500))),(.i .i64 (.cl 3 20 (.var 500))),(.i .i64 (.cl 3 21 (.var 500))),(.i .i64 (.cl 3 22 (.var 500))),(.i .i64 (.cl 3 23 (.var 500))),(.i .i64 (.cl 3 24 (.var 500)))] (.var 506 [(.i .i64),.b,(.i .i64),(.i .i64),(.i .i64),(.i .i64),(.i .i64),(.i .i64),.s,.s,.b,(.i .i64),(.i .i64),(.i .i64),(.i .i64),(.i .i64),(.i .i64),(.i .i64),(.i .i64),(.i .i64),(.i .i64),(.i .i64),(.i .i64),(.i .i64),(.i .i64)]))):=by kernel_rfl
theorem mn_W1_r509:lassoc 509 mn_W1_b.r=some ((.len 509),(.var 509 [(.i .i64)])):=by kernel_rfl
def mn_W2_s:XS:=⟨zTM19_62,[((19,0),zTM19_74),((19,1),zTM19_20),((19,2),zTM19_77),((19,3),zTM19_41),((28,0),zTM19_81),((28,1),zTM19_25),((28,2),zTM19_83),((28,3),zTM19_59),((69,0),zTM19_68),((77,0),zTM19_69)],161⟩
def mn_W2_r:T (XE×XS):=(.need (.and (.not (.lt (.len 505) (.op .padd .i64 (.var 502) (.var 503)))) (.and (.and (.not (.lt (.len 509) (.op .padd .i64 (.var 507) (.var 508)))) (.lt (.cl 509 0 (.var 507)) (.len 471))) (.lt (.cl 509 0 (.var 507)) (.len 473)))) (.ret (.normal,mn_W2_s)))
theorem mn_W2_run:(codeX (cfgL [] (fun _=>[])).ti (callS ⟨(cfgL [] (fun _=>[])),l_able,[20009,20,33,37,58,10010,10011,10013,10014,10023,10021,20025]⟩ 12) (((cfgL [] (fun _=>[])).ft 4).elim [] (·.ms)) 0 ([]) 1000 mn_c ((hasE,false)::c0F++(lg++rd2)) mn_S0).map (sqz mn_ks)=mn_W2_r:=by kernel_rfl
def mn_W2_b:Bind:=⟨zTM19_84,[(530,(.var 530))],[],zTM19_85⟩
theorem mn_W2_ok:okS 0 500 mn_W2_b [] mn_S0 mn_W2_s=true:=by kernel_rfl
theorem mn_W2_g:mn_W2_b.ge 500=true:=by kernel_rfl
theorem mn_W2_step {ρ ρ1:Rho} (hd:mn_S0.den ρ=mn_S0.den ρ1) (cok:CfgOk Try.prog ρ1 (cfgL [] (fun _=>[]))) (hl:LpsOk Try.prog ρ1 Try.f4.ntmps ([]) mn_c) (hk:Facts.ok ρ1 ((hasE,false)::c0F++(lg++rd2))) (h0:((.and (.not (.lt (.len 505) (.op .padd .i64 (.var 502) (.var 503)))) (.and (.and (.not (.lt (.len 509) (.op .padd .i64 (.var 507) (.var 508)))) (.lt (.cl 509 0 (.var 507)) (.len 471))) (.lt (.cl 509 0 (.var 507)) (.len 473)))):BE).den ρ1=true):StepF Try.prog Try.f4.ntmps mn_c 0 mn_S0 mn_S0 ρ (mn_W2_b.ap ρ1) :=
 fam_goU mn_fits hd cok hl hk mn_W2_run (sel_need h0 rfl) mn_W2_ok
theorem mn_W2_500:lassoc 500 mn_W2_b.i=some (.op .add .i64 (.var 500) (.lit 1)):=by kernel_rfl
theorem mn_W2_502:lassoc 502 mn_W2_b.i=some (.op .padd .i64 (.var 502) (.lit 1)):=by kernel_rfl
theorem mn_W2_503:lassoc 503 mn_W2_b.i=some (.op .psub .i64 (.var 503) (.lit 1)):=by kernel_rfl
theorem mn_W2_507:lassoc 507 mn_W2_b.i=some (.op .padd .i64 (.var 507) (.lit 1)):=by kernel_rfl
theorem mn_W2_508:lassoc 508 mn_W2_b.i=some (.op .psub .i64 (.var 508) (.lit 1)):=by kernel_rfl
theorem mn_W2_510:lassoc 510 mn_W2_b.i=some (.var 510):=by kernel_rfl
theorem mn_W2_511:lassoc 511 mn_W2_b.i=some (.var 511):=by kernel_rfl
theorem mn_W2_512:lassoc 512 mn_W2_b.i=some (.var 512):=by kernel_rfl
theorem mn_W2_513:lassoc 513 mn_W2_b.i=some (.var 513):=by kernel_rfl
theorem mn_W2_514:lassoc 514 mn_W2_b.i=some (.var 514):=by kernel_rfl
theorem mn_W2_515:lassoc 515 mn_W2_b.i=some (.var 515):=by kernel_rfl
theorem mn_W2_516:lassoc 516 mn_W2_b.i=some (.var 516):=by kernel_rfl
theorem mn_W2_517:lassoc 517 mn_W2_b.i=some (.var 517):=by kernel_rfl
theorem mn_W2_518:lassoc 518 mn_W2_b.i=some (.var 518):=by kernel_rfl
theorem mn_W2_519:lassoc 519 mn_W2_b.i=some (.var 519):=by kernel_rfl
theorem mn_W2_520:lassoc 520 mn_W2_b.i=some (.var 520):=by kernel_rfl
theorem mn_W2_521:lassoc 521 mn_W2_b.i=some (.var 521):=by kernel_rfl
theorem mn_W2_522:lassoc 522 mn_W2_b.i=some (.var 522):=by kernel_rfl
theorem mn_W2_523:lassoc 523 mn_W2_b.i=some (.var 523):=by kernel_rfl
theorem mn_W2_524:lassoc 524 mn_W2_b.i=some (.var 524):=by kernel_rfl
theorem mn_W2_525:lassoc 525 mn_W2_b.i=some (.var 525):=by kernel_rfl
theorem mn_W2_526:lassoc 526 mn_W2_b.i=some (.var 526):=by kernel_rfl
theorem mn_W2_527:lassoc 527 mn_W2_b.i=some (.var 527):=by kernel_rfl
theorem mn_W2_528:lassoc 528 mn_W2_b.i=some (.var 528):=by kernel_rfl
theorem mn_W2_529:lassoc 529 mn_W2_b.i=some (.var 529):=by kernel_rfl
theorem mn_W2_531:lassoc 531 mn_W2_b.i=some (.var 531):=by kernel_rfl
theorem mn_W2_r504:lassoc 504 mn_W2_b.r=some ((.len 2),(.upd (.cl 505 0 (.var 502)) [(.i .i64 (.cl 3 0 (.var 500))),(.b (.cl 3 1 (.var 500))),(.i .i64 (.cl 3 2 (.var 500))),(.i .i64 (.cl 3 3 (.var 500))),(.i .i64 (.cl 3 4 (.var 500))),(.i .i64 (.cl 3 5 (.var 500))),(.i .i64 (.cl 3 6 (.var 500))),(.i .i64 (.cl 3 7 (.var 500))),(.s (.cl 3 8 (.var 500))),(.s (.cl 3 9 (.var 500))),(.b (.cl 3 10 (.var 500))),(.i .i64 (.cl 3 11 (.var 500))),(.i .i64 (.cl 3 12 (.var 500))),(.i .i64 (.cl 3 13 (.var 500))),(.i .i64 (.cl 3 14 (.var 500))),(.i .i64 (.cl 3 15 (.var 500))),(.i .i64 (.cl 3 16 (.var 500))),(.i .i64 (.cl 3 17 (.var 500))),(.i .i64 (.cl 3 18 (.var 500))),(.i .i64 (.cl 3 19 (.var 500))),(.i .i64 (.cl 3 20 (.var 500))),(.i .i64 (.cl 3 21 (.var 500))),(.i .i64 (.cl 3 22 (.var 500))),(.i .i64 (.cl 3 23 (.var 500))),(.i .i64 (.cl 3 24 (.var 500)))] (.var 504 [(.i .i64),.b,(.i .i64),(.i .i64),(.i .i64),(.i .i64),(.i .i64),(.i .i64),.s,.s,.b,(.i .i64),(.i .i64),(.i .i64),(.i .i64),(.i .i64),(.i .i64),(.i .i64),(.i .i64),(.i .i64),(.i .i64),(.i .i64),(.i .i64),(.i .i64),(.i .i64)]))):=by kernel_rfl
theorem mn_W2_r505:lassoc 505 mn_W2_b.r=some ((.len 505),(.var 505 [(.i .i64)])):=by kernel_rfl
theorem mn_W2_r506:lassoc 506 mn_W2_b.r=some ((.len 473),(.upd (.cl 509 0 (.var 507)) [(.i .i64 (.cl 3 0 (.var 500))),(.b (.cl 3 1 (.var 500))),(.i .i64 (.cl 3 2 (.var 500))),(.i .i64 (.cl 3 3 (.var 500))),(.i .i64 (.cl 3 4 (.var 500))),(.i .i64 (.cl 3 5 (.var 500))),(.i .i64 (.cl 3 6 (.var 500))),(.i .i64 (.cl 3 7 (.var 500))),(.s (.cl 3 8 (.var 500))),(.s (.cl 3 9 (.var 500))),(.b (.cl 3 10 (.var 500))),(.i .i64 (.cl 3 11 (.var 500))),(.i .i64 (.cl 3 12 (.var 500))),(.i .i64 (.cl 3 13 (.var 500))),(.i .i64 (.cl 3 14 (.var 500))),(.i .i64 (.cl 3 15 (.var 500))),(.i .i64 (.cl 3 16 (.var 500))),(.i .i64 (.cl 3 17 (.var 500))),(.i .i64 (.cl 3 18 (.var 500))),(.i .i64 (.cl 3 19 (.var 500))),(.i .i64 (.cl 3 20 (.var 500))),(.i .i64 (.cl 3 21 (.var 500))),(.i .i64 (.cl 3 22 (.var 500))),(.i .i64 (.cl 3 23 (.var 500))),(.i .i64 (.cl 3 24 (.var 500)))] (.var 506 [(.i .i64),.b,(.i .i64),(.i .i64),(.i .i64),(.i .i64),(.i .i64),(.i .i64),.s,.s,.b,(.i .i64),(.i .i64),(.i .i64),(.i .i64),(.i .i64),(.i .i64),(.i .i64),(.i .i64),(.i .i64),(.i .i64),(.i .i64),(.i .i64),(.i .i64),(.i .i64)]))):=by kernel_rfl
theorem mn_W2_r509:lassoc 509 mn_W2_b.r=some ((.len 509),(.var 509 [(.i .i64)])):=by kernel_rfl
def mn_V2_s:XS:=⟨zTM19_62,[((19,0),zTM19_74),((19,1),zTM19_20),((19,2),zTM19_77),((19,3),zTM19_41),((28,0),[zTM19_15,zTM19_22,zTM19_23,zTM19_80,zTM19_43,zTM19_44,zTM19_45,zTM19_46,zTM19_47,zTM19_48,zTM19_49,zTM19_50,zTM19_51,zTM19_52,zTM19_67,zTM19_54]),((28,1),zTM19_25),((28,2),zTM19_83),((28,3),zTM19_59),((69,0),zTM19_68),((77,0),zTM19_69)],161⟩
def mn_V2_r:T (XE×XS):=(.need (.and (.not (.lt (.len 505) (.op .padd .i64 (.var 502) (.var 503)))) (.and (.and (.not (.lt (.len 509) (.op .padd .i64 (.var 507) (.var 508)))) (.lt (.cl 509 0 (.var 507)) (.len 471))) (.lt (.cl 509 0 (.var 507)) (.len 473)))) (.ret (.normal,mn_V2_s)))
theorem mn_V2_run:(codeX (cfgL [] (fun _=>[])).ti (callS ⟨(cfgL [] (fun _=>[])),l_able,[20009,20,33,37,58,10010,10011,10013,10014,10023,10021,20025]⟩ 12) (((cfgL [] (fun _=>[])).ft 4).elim [] (·.ms)) 0 ([]) 1000 mn_c ((hasE,false)::c0F++(sh++rd2)) mn_S0).map (sqz mn_ks)=mn_V2_r:=by kernel_rfl
def mn_V2_b:Bind:=⟨zTM19_84,[(530,(.lit true))],[],zTM19_85⟩
theorem mn_V2_ok:okS 0 500 mn_V2_b [] mn_S2 mn_V2_s=true:=by kernel_rfl
theorem mn_V2_g:mn_V2_b.ge 500=true:=by kernel_rfl
theorem mn_V2_step {ρ ρ1:Rho} (hd:mn_S0.den ρ=mn_S0.den ρ1) (cok:CfgOk Try.prog ρ1 (cfgL [] (fun _=>[]))) (hl:LpsOk Try.prog ρ1 Try.f4.ntmps ([]) mn_c) (hk:Facts.ok ρ1 ((hasE,false)::c0F++(sh++rd2))) (h0:((.and (.not (.lt (.len 505) (.op .padd .i64 (.var 502) (.var 503)))) (.and (.and (.not (.lt (.len 509) (.op .padd .i64 (.var 507) (.var 508)))) (.lt (.cl 509 0 (.var 507)) (.len 471))) (.lt (.cl 509 0 (.var 507)) (.len 473)))):BE).den ρ1=true):StepF Try.prog Try.f4.ntmps mn_c 0 mn_S0 mn_S2 ρ (mn_V2_b.ap ρ1) :=
 fam_goU mn_fits hd cok hl hk mn_V2_run (sel_need h0 rfl) mn_V2_ok
theorem mn_V2_500:lassoc 500 mn_V2_b.i=some (.op .add .i64 (.var 500) (.lit 1)):=by kernel_rfl
theorem mn_V2_502:lassoc 502 mn_V2_b.i=some (.op .padd .i64 (.var 502) (.lit 1)):=by kernel_rfl
theorem mn_V2_503:lassoc 503 mn_V2_b.i=some (.op .psub .i64 (.var 503) (.lit 1)):=by kernel_rfl
theorem mn_V2_507:lassoc 507 mn_V2_b.i=some (.op .padd .i64 (.var 507) (.lit 1)):=by kernel_rfl
theorem mn_V2_508:lassoc 508 mn_V2_b.i=some (.op .psub .i64 (.var 508) (.lit 1)):=by kernel_rfl
theorem mn_V2_510:lassoc 510 mn_V2_b.i=some (.var 510):=by kernel_rfl
theorem mn_V2_511:lassoc 511 mn_V2_b.i=some (.var 511):=by kernel_rfl
theorem mn_V2_512:lassoc 512 mn_V2_b.i=some (.var 512):=by kernel_rfl
theorem mn_V2_513:lassoc 513 mn_V2_b.i=some (.var 513):=by kernel_rfl
theorem mn_V2_514:lassoc 514 mn_V2_b.i=some (.var 514):=by kernel_rfl
theorem mn_V2_515:lassoc 515 mn_V2_b.i=some (.var 515):=by kernel_rfl
theorem mn_V2_516:lassoc 516 mn_V2_b.i=some (.var 516):=by kernel_rfl
theorem mn_V2_517:lassoc 517 mn_V2_b.i=some (.var 517):=by kernel_rfl
theorem mn_V2_518:lassoc 518 mn_V2_b.i=some (.var 518):=by kernel_rfl
theorem mn_V2_519:lassoc 519 mn_V2_b.i=some (.var 519):=by kernel_rfl
theorem mn_V2_520:lassoc 520 mn_V2_b.i=some (.var 520):=by kernel_rfl
theorem mn_V2_521:lassoc 521 mn_V2_b.i=some (.var 521):=by kernel_rfl
theorem mn_V2_522:lassoc 522 mn_V2_b.i=some (.var 522):=by kernel_rfl
theorem mn_V2_523:lassoc 523 mn_V2_b.i=some (.var 523):=by kernel_rfl
theorem mn_V2_524:lassoc 524 mn_V2_b.i=some (.var 524):=by kernel_rfl
theorem mn_V2_525:lassoc 525 mn_V2_b.i=some (.var 525):=by kernel_rfl
theorem mn_V2_526:lassoc 526 mn_V2_b.i=some (.var 526):=by kernel_rfl
theorem mn_V2_527:lassoc 527 mn_V2_b.i=some (.var 527):=by kernel_rfl
theorem mn_V2_528:lassoc 528 mn_V2_b.i=some (.var 528):=by kernel_rfl
theorem mn_V2_529:lassoc 529 mn_V2_b.i=some (.var 529):=by kernel_rfl
theorem mn_V2_531:lassoc 531 mn_V2_b.i=some (.var 531):=by kernel_rfl
theorem mn_V2_r504:lassoc 504 mn_V2_b.r=some ((.len 2),(.upd (.cl 505 0 (.var 502)) [(.i .i64 (.cl 3 0 (.var 500))),(.b (.cl 3 1 (.var 500))),(.i .i64 (.cl 3 2 (.var 500))),(.i .i64 (.cl 3 3 (.var 500))),(.i .i64 (.cl 3 4 (.var 500))),(.i .i64 (.cl 3 5 (.var 500))),(.i .i64 (.cl 3 6 (.var 500))),(.i .i64 (.cl 3 7 (.var 500))),(.s (.cl 3 8 (.var 500))),(.s (.cl 3 9 (.var 500))),(.b (.cl 3 10 (.var 500))),(.i .i64 (.cl 3 11 (.var 500))),(.i .i64 (.cl 3 12 (.var 500))),(.i .i64 (.cl 3 13 (.var 500))),(.i .i64 (.cl 3 14 (.var 500))),(.i .i64 (.cl 3 15 (.var 500))),(.i .i64 (.cl 3 16 (.var 500))),(.i .i64 (.cl 3 17 (.var 500))),(.i .i64 (.cl 3 18 (.var 500))),(.i .i64 (.cl 3 19 (.var 500))),(.i .i64 (.cl 3 20 (.var 500))),(.i .i64 (.cl 3 21 (.var 500))),(.i .i64 (.cl 3 22 (.var 500))),(.i .i64 (.cl 3 23 (.var 500))),(.i .i64 (.cl 3 24 (.var 500)))] (.var 504 [(.i .i64),.b,(.i .i64),(.i .i64),(.i .i64),(.i .i64),(.i .i64),(.i .i64),.s,.s,.b,(.i .i64),(.i .i64),(.i .i64),(.i .i64),(.i .i64),(.i .i64),(.i .i64),(.i .i64),(.i .i64),(.i .i64),(.i .i64),(.i .i64),(.i .i64),(.i .i64)]))):=by kernel_rfl
theorem mn_V2_r505:lassoc 505 mn_V2_b.r=some ((.len 505),(.var 505 [(.i .i64)])):=by kernel_rfl
theorem mn_V2_r506:lassoc 506 mn_V2_b.r=some ((.len 473),(.upd (.cl 509 0 (.var 507)) [(.i .i64 (.cl 3 0 (.var 500))),(.b (.cl 3 1 (.var 500))),(.i .i64 (.cl 3 2 (.var 500))),(.i .i64 (.cl 3 3 (.var 500))),(.i .i64 (.cl 3 4 (.var 500))),(.i .i64 (.cl 3 5 (.var 500))),(.i .i64 (.cl 3 6 (.var 500))),(.i .i64 (.cl 3 7 (.var 500))),(.s (.cl 3 8 (.var 500))),(.s (.cl 3 9 (.var 500))),(.b (.cl 3 10 (.var 500))),(.i .i64 (.cl 3 11 (.var 500))),(.i .i64 (.cl 3 12 (.var 500))),(.i .i64 (.cl 3 13 (.var 500))),(.i .i64 (.cl 3 14 (.var 500))),(.i .i64 (.cl 3 15 (.var 500))),(.i .i64 (.cl 3 16 (.var 500))),(.i .i64 (.cl 3 17 (.var 500))),(.i .i64 (.cl 3 18 (.var 500))),(.i .i64 (.cl 3 19 (.var 500))),(.i .i64 (.cl 3 20 (.var 500))),(.i .i64 (.cl 3 21 (.var 500))),(.i .i64 (.cl 3 22 (.var 500))),(.i .i64 (.cl 3 23 (.var 500))),(.i .i64 (.cl 3 24 (.var 500)))] (.var 506 [(.i .i64),.b,(.i .i64),(.i .i64),(.i .i64),(.i .i64),(.i .i64),(.i .i64),.s,.s,.b,(.i .i64),(.i .i64),(.i .i64),(.i .i64),(.i .i64),(.i .i64),(.i .i64),(.i .i64),(.i .i64),(.i .i64),(.i .i64),(.i .i64),(.i .i64),(.i .i64)]))):=by kernel_rfl
theorem mn_V2_r509:lassoc 509 mn_V2_b.r=some ((.len 509),(.var 509 [(.i .i64)])):=by kernel_rfl
def mn_W3_s:XS:=⟨zTM19_62,[((19,0),zTM19_74),((19,1),zTM19_20),((19,2),zTM19_77),((19,3),zTM19_41),((28,0),zTM19_81),((28,1),zTM19_25),((28,2),zTM19_83),((28,3),zTM19_59),((69,0),zTM19_68),((77,0),zTM19_69)],161⟩
def mn_W3_r:T (XE×XS):=(.need (.and (.not (.lt (.len 505) (.op .padd .i64 (.var 502) (.var 503)))) (.and (.and (.not (.lt (.len 509) (.op .padd .i64 (.var 507) (.var 508)))) (.lt (.cl 509 0 (.var 507)) (.len 471))) (.lt (.cl 509 0 (.var 507)) (.len 473)))) (.ret (.normal,mn_W3_s)))
theorem mn_W3_run:(codeX (cfgL ksP (fun _=>[])).ti (callS ⟨(cfgL ksP (fun _=>[])),l_able,[20009,20,33,37,58,10010,10011,10013,10014,10023,10021,20025]⟩ 12) (((cfgL ksP (fun _=>[])).ft 4).elim [] (·.ms)) 0 ([]) 1000 mn_c ((hasE,true)::(.var 549,true)::c0F++(lg++rd2)) mn_S0).map (sqz mn_ks)=mn_W3_r:=by kernel_rfl
def mn_W3_b:Bind:=⟨zTM19_84,[(530,(.var 530))],[],zTM19_85⟩
theorem mn_W3_ok:okS 0 500 mn_W3_b [] mn_S0 mn_W3_s=true:=by kernel_rfl
theorem mn_W3_g:mn_W3_b.ge 500=true:=by kernel_rfl
theorem mn_W3_step {ρ ρ1:Rho} (hd:mn_S0.den ρ=mn_S0.den ρ1) (cok:CfgOk Try.prog ρ1 (cfgL ksP (fun _=>[]))) (hl:LpsOk Try.prog ρ1 Try.f4.ntmps ([]) mn_c) (hk:Facts.ok ρ1 ((hasE,true)::(.var 549,true)::c0F++(lg++rd2))) (h0:((.and (.not (.lt (.len 505) (.op .padd .i64 (.var 502) (.var 503)))) (.and (.and (.not (.lt (.len 509) (.op .padd .i64 (.var 507) (.var 508)))) (.lt (.cl 509 0 (.var 507)) (.len 471))) (.lt (.cl 509 0 (.var 507)) (.len 473)))):BE).den ρ1=true):StepF Try.prog Try.f4.ntmps mn_c 0 mn_S0 mn_S0 ρ (mn_W3_b.ap ρ1) :=
 fam_goU mn_fits hd cok hl hk mn_W3_run (sel_need h0 rfl) mn_W3_ok
theorem mn_W3_500:lassoc 500 mn_W3_b.i=some (.op .add .i64 (.var 500) (.lit 1)):=by kernel_rfl
theorem mn_W3_502:lassoc 502 mn_W3_b.i=some (.op .padd .i64 (.var 502) (.lit 1)):=by kernel_rfl
theorem mn_W3_503:lassoc 503 mn_W3_b.i=some (.op .psub .i64 (.var 503) (.lit 1)):=by kernel_rfl
theorem mn_W3_507:lassoc 507 mn_W3_b.i=some (.op .padd .i64 (.var 507) (.lit 1)):=by kernel_rfl
theorem mn_W3_508:lassoc 508 mn_W3_b.i=some (.op .psub .i64 (.var 508) (.lit 1)):=by kernel_rfl
theorem mn_W3_510:lassoc 510 mn_W3_b.i=some (.var 510):=by kernel_rfl
theorem mn_W3_511:lassoc 511 mn_W3_b.i=some (.var 511):=by kernel_rfl
theorem mn_W3_512:lassoc 512 mn_W3_b.i=some (.var 512):=by kernel_rfl
theorem mn_W3_513:lassoc 513 mn_W3_b.i=some (.var 513):=by kernel_rfl
theorem mn_W3_514:lassoc 514 mn_W3_b.i=some (.var 514):=by kernel_rfl
theorem mn_W3_515:lassoc 515 mn_W3_b.i=some (.var 515):=by kernel_rfl
theorem mn_W3_516:lassoc 516 mn_W3_b.i=some (.var 516):=by kernel_rfl
theorem mn_W3_517:lassoc 517 mn_W3_b.i=some (.var 517):=by kernel_rfl
theorem mn_W3_518:lassoc 518 mn_W3_b.i=some (.var 518):=by kernel_rfl
theorem mn_W3_519:lassoc 519 mn_W3_b.i=some (.var 519):=by kernel_rfl
theorem mn_W3_520:lassoc 520 mn_W3_b.i=some (.var 520):=by kernel_rfl
theorem mn_W3_521:lassoc 521 mn_W3_b.i=some (.var 521):=by kernel_rfl
theorem mn_W3_522:lassoc 522 mn_W3_b.i=some (.var 522):=by kernel_rfl
theorem mn_W3_523:lassoc 523 mn_W3_b.i=some (.var 523):=by kernel_rfl
theorem mn_W3_524:lassoc 524 mn_W3_b.i=some (.var 524):=by kernel_rfl
theorem mn_W3_525:lassoc 525 mn_W3_b.i=some (.var 525):=by kernel_rfl
theorem mn_W3_526:lassoc 526 mn_W3_b.i=some (.var 526):=by kernel_rfl
theorem mn_W3_527:lassoc 527 mn_W3_b.i=some (.var 527):=by kernel_rfl
theorem mn_W3_528:lassoc 528 mn_W3_b.i=some (.var 528):=by kernel_rfl
theorem mn_W3_529:lassoc 529 mn_W3_b.i=some (.var 529):=by kernel_rfl
theorem mn_W3_531:lassoc 531 mn_W3_b.i=some (.var 531):=by kernel_rfl
theorem mn_W3_r504:lassoc 504 mn_W3_b.r=some ((.len 2),(.upd (.cl 505 0 (.var 502)) [(.i .i64 (.cl 3 0 (.var 500))),(.b (.cl 3 1 (.var 500))),(.i .i64 (.cl 3 2 (.var 500))),(.i .i64 (.cl 3 3 (.var 500))),(.i .i64 (.cl 3 4 (.var 500))),(.i .i64 (.cl 3 5 (.var 500))),(.i .i64 (.cl 3 6 (.var 500))),(.i .i64 (.cl 3 7 (.var 500))),(.s (.cl 3 8 (.var 500))),(.s (.cl 3 9 (.var 500))),(.b (.cl 3 10 (.var 500))),(.i .i64 (.cl 3 11 (.var 500))),(.i .i64 (.cl 3 12 (.var 500))),(.i .i64 (.cl 3 13 (.var 500))),(.i .i64 (.cl 3 14 (.var 500))),(.i .i64 (.cl 3 15 (.var 500))),(.i .i64 (.cl 3 16 (.var 500))),(.i .i64 (.cl 3 17 (.var 500))),(.i .i64 (.cl 3 18 (.var 500))),(.i .i64 (.cl 3 19 (.var 500))),(.i .i64 (.cl 3 20 (.var 500))),(.i .i64 (.cl 3 21 (.var 500))),(.i .i64 (.cl 3 22 (.var 500))),(.i .i64 (.cl 3 23 (.var 500))),(.i .i64 (.cl 3 24 (.var 500)))] (.var 504 [(.i .i64),.b,(.i .i64),(.i .i64),(.i .i64),(.i .i64),(.i .i64),(.i .i64),.s,.s,.b,(.i .i64),(.i .i64),(.i .i64),(.i .i64),(.i .i64),(.i .i64),(.i .i64),(.i .i64),(.i .i64),(.i .i64),(.i .i64),(.i .i64),(.i .i64),(.i .i64)]))):=by kernel_rfl
theorem mn_W3_r505:lassoc 505 mn_W3_b.r=some ((.len 505),(.var 505 [(.i .i64)])):=by kernel_rfl
theorem mn_W3_r506:lassoc 506 mn_W3_b.r=some ((.len 473),(.upd (.cl 509 0 (.var 507)) [(.i .i64 (.cl 3 0 (.var 500))),(.b (.cl 3 1 (.var 500))),(.i .i64 (.cl 3 2 (.var 500))),(.i .i64 (.cl 3 3 (.var 500))),(.i .i64 (.cl 3 4 (.var 500))),(.i .i64 (.cl 3 5 (.var 500))),(.i .i64 (.cl 3 6 (.var 500))),(.i .i64 (.cl 3 7 (.var 500))),(.s (.cl 3 8 (.var 500))),(.s (.cl 3 9 (.var 500))),(.b (.cl 3 10 (.var 500))),(.i .i64 (.cl 3 11 (.var 500))),(.i .i64 (.cl 3 12 (.var 500))),(.i .i64 (.cl 3 13 (.var 500))),(.i .i64 (.cl 3 14 (.var 500))),(.i .i64 (.cl 3 15 (.var 500))),(.i .i64 (.cl 3 16 (.var 500))),(.i .i64 (.cl 3 17 (.var 500))),(.i .i64 (.cl 3 18 (.var 500))),(.i .i64 (.cl 3 19 (.var 500))),(.i .i64 (.cl 3 20 (.var 500))),(.i .i64 (.cl 3 21 (.var 500))),(.i .i64 (.cl 3 22 (.var 500))),(.i .i64 (.cl 3 23 (.var 500))),(.i .i64 (.cl 3 24 (.var 500)))] (.var 506 [(.i .i64),.b,(.i .i64),(.i .i64),(.i .i64),(.i .i64),(.i .i64),(.i .i64),.s,.s,.b,(.i .i64),(.i .i64),(.i .i64),(.i .i64),(.i .i64),(.i .i64),(.i .i64),(.i .i64),(.i .i64),(.i .i64),(.i .i64),(.i .i64),(.i .i64),(.i .i64)]))):=by kernel_rfl
theorem mn_W3_r509:lassoc 509 mn_W3_b.r=some ((.len 509),(.var 509 [(.i .i64)])):=by kernel_rfl
def mn_V3_s:XS:=⟨zTM19_62,[((19,0),zTM19_74),((19,1),zTM19_20),((19,2),zTM19_77),((19,3),zTM19_41),((28,0),[zTM19_15,zTM19_22,zTM19_23,zTM19_80,zTM19_43,zTM19_44,zTM19_45,zTM19_46,zTM19_47,zTM19_48,zTM19_49,zTM19_50,zTM19_51,zTM19_52,zTM19_67,zTM19_54]),((28,1),zTM19_25),((28,2),zTM19_83),((28,3),zTM19_59),((69,0),zTM19_68),((77,0),zTM19_69)],161⟩
def mn_V3_r:T (XE×XS):=(.need (.and (.not (.lt (.len 505) (.op .padd .i64 (.var 502) (.var 503)))) (.and (.and (.not (.lt (.len 509) (.op .padd .i64 (.var 507) (.var 508)))) (.lt (.cl 509 0 (.var 507)) (.len 471))) (.lt (.cl 509 0 (.var 507)) (.len 473)))) (.ret (.normal,mn_V3_s)))
theorem mn_V3_run:(codeX (cfgL ksP (fun _=>[])).ti (callS ⟨(cfgL ksP (fun _=>[])),l_able,[20009,20,33,37,58,10010,10011,10013,10014,10023,10021,20025]⟩ 12) (((cfgL ksP (fun _=>[])).ft 4).elim [] (·.ms)) 0 ([]) 1000 mn_c ((hasE,true)::(.var 549,true)::c0F++(sh++rd2)) mn_S0).map (sqz mn_ks)=mn_V3_r:=by kernel_rfl
def mn_V3_b:Bind:=⟨zTM19_84,[(530,(.lit true))],[],zTM19_85⟩
theorem mn_V3_ok:okS 0 500 mn_V3_b [] mn_S2 mn_V3_s=true:=by kernel_rfl
theorem mn_V3_g:mn_V3_b.ge 500=true:=by kernel_rfl
theorem mn_V3_step {ρ ρ1:Rho} (hd:mn_S0.den ρ=mn_S0.den ρ1) (cok:CfgOk Try.prog ρ1 (cfgL ksP (fun _=>[]))) (hl:LpsOk Try.prog ρ1 Try.f4.ntmps ([]) mn_c) (hk:Facts.ok ρ1 ((hasE,true)::(.var 549,true)::c0F++(sh++rd2))) (h0:((.and (.not (.lt (.len 505) (.op .padd .i64 (.var 502) (.var 503)))) (.and (.and (.not (.lt (.len 509) (.op .padd .i64 (.var 507) (.var 508)))) (.lt (.cl 509 0 (.var 507)) (.len 471))) (.lt (.cl 509 0 (.var 507)) (.len 473)))):BE).den ρ1=true):StepF Try.prog Try.f4.ntmps mn_c 0 mn_S0 mn_S2 ρ (mn_V3_b.ap ρ1) :=
 fam_goU mn_fits hd cok hl hk mn_V3_run (sel_need h0 rfl) mn_V3_ok
theorem mn_V3_500:lassoc 500 mn_V3_b.i=some (.op .add .i64 (.var 500) (.lit 1)):=by kernel_rfl
theorem mn_V3_502:lassoc 502 mn_V3_b.i=some (.op .padd .i64 (.var 502) (.lit 1)):=by kernel_rfl
theorem mn_V3_503:lassoc 503 mn_V3_b.i=some (.op .psub .i64 (.var 503) (.lit 1)):=by kernel_rfl
theorem mn_V3_507:lassoc 507 mn_V3_b.i=some (.op .padd .i64 (.var 507) (.lit 1)):=by kernel_rfl
theorem mn_V3_508:lassoc 508 mn_V3_b.i=some (.op .psub .i64 (.var 508) (.lit 1)):=by kernel_rfl
theorem mn_V3_510:lassoc 510 mn_V3_b.i=some (.var 510):=by kernel_rfl
theorem mn_V3_511:lassoc 511 mn_V3_b.i=some (.var 511):=by kernel_rfl
theorem mn_V3_512:lassoc 512 mn_V3_b.i=some (.var 512):=by kernel_rfl
theorem mn_V3_513:lassoc 513 mn_V3_b.i=some (.var 513):=by kernel_rfl
theorem mn_V3_514:lassoc 514 mn_V3_b.i=some (.var 514):=by kernel_rfl
theorem mn_V3_515:lassoc 515 mn_V3_b.i=some (.var 515):=by kernel_rfl
theorem mn_V3_516:lassoc 516 mn_V3_b.i=some (.var 516):=by kernel_rfl
theorem mn_V3_517:lassoc 517 mn_V3_b.i=some (.var 517):=by kernel_rfl
theorem mn_V3_518:lassoc 518 mn_V3_b.i=some (.var 518):=by kernel_rfl
theorem mn_V3_519:lassoc 519 mn_V3_b.i=some (.var 519):=by kernel_rfl
theorem mn_V3_520:lassoc 520 mn_V3_b.i=some (.var 520):=by kernel_rfl
theorem mn_V3_521:lassoc 521 mn_V3_b.i=some (.var 521):=by kernel_rfl
theorem mn_V3_522:lassoc 522 mn_V3_b.i=some (.var 522):=by kernel_rfl
theorem mn_V3_523:lassoc 523 mn_V3_b.i=some (.var 523):=by kernel_rfl
theorem mn_V3_524:lassoc 524 mn_V3_b.i=some (.var 524):=by kernel_rfl
theorem mn_V3_525:lassoc 525 mn_V3_b.i=some (.var 525):=by kernel_rfl
theorem mn_V3_526:lassoc 526 mn_V3_b.i=some (.var 526):=by kernel_rfl
theorem mn_V3_527:lassoc 527 mn_V3_b.i=some (.var 527):=by kernel_rfl
theorem mn_V3_528:lassoc 528 mn_V3_b.i=some (.var 528):=by kernel_rfl
theorem mn_V3_529:lassoc 529 mn_V3_b.i=some (.var 529):=by kernel_rfl
theorem mn_V3_531:lassoc 531 mn_V3_b.i=some (.var 531):=by kernel_rfl
theorem mn_V3_r504:lassoc 504 mn_V3_b.r=some ((.len 2),(.upd (.cl 505 0 (.var 502)) [(.i .i64 (.cl 3 0 (.var 500))),(.b (.cl 3 1 (.var 500))),(.i .i64 (.cl 3 2 (.var 500))),(.i .i64 (.cl 3 3 (.var 500))),(.i .i64 (.cl 3 4 (.var 500))),(.i .i64 (.cl 3 5 (.var 500))),(.i .i64 (.cl 3 6 (.var 500))),(.i .i64 (.cl 3 7 (.var 500))),(.s (.cl 3 8 (.var 500))),(.s (.cl 3 9 (.var 500))),(.b (.cl 3 10 (.var 500))),(.i .i64 (.cl 3 11 (.var 500))),(.i .i64 (.cl 3 12 (.var 500))),(.i .i64 (.cl 3 13 (.var 500))),(.i .i64 (.cl 3 14 (.var 500))),(.i .i64 (.cl 3 15 (.var 500))),(.i .i64 (.cl 3 16 (.var 500))),(.i .i64 (.cl 3 17 (.var 500))),(.i .i64 (.cl 3 18 (.var 500))),(.i .i64 (.cl 3 19 (.var 500))),(.i .i64 (.cl 3 20 (.var 500))),(.i .i64 (.cl 3 21 (.var 500))),(.i .i64 (.cl 3 22 (.var 500))),(.i .i64 (.cl 3 23 (.var 500))),(.i .i64 (.cl 3 24 (.var 500)))] (.var 504 [(.i .i64),.b,(.i .i64),(.i .i64),(.i .i64),(.i .i64),(.i .i64),(.i .i64),.s,.s,.b,(.i .i64),(.i .i64),(.i .i64),(.i .i64),(.i .i64),(.i .i64),(.i .i64),(.i .i64),(.i .i64),(.i .i64),(.i .i64),(.i .i64),(.i .i64),(.i .i64)]))):=by kernel_rfl
theorem mn_V3_r505:lassoc 505 mn_V3_b.r=some ((.len 505),(.var 505 [(.i .i64)])):=by kernel_rfl
theorem mn_V3_r506:lassoc 506 mn_V3_b.r=some ((.len 473),(.upd (.cl 509 0 (.var 507)) [(.i .i64 (.cl 3 0 (.var 500))),(.b (.cl 3 1 (.var 500))),(.i .i64 (.cl 3 2 (.var 500))),(.i .i64 (.cl 3 3 (.var 500))),(.i .i64 (.cl 3 4 (.var 500))),(.i .i64 (.cl 3 5 (.var 500))),(.i .i64 (.cl 3 6 (.var 500))),(.i .i64 (.cl 3 7 (.var 500))),(.s (.cl 3 8 (.var 500))),(.s (.cl 3 9 (.var 500))),(.b (.cl 3 10 (.var 500))),(.i .i64 (.cl 3 11 (.var 500))),(.i .i64 (.cl 3 12 (.var 500))),(.i .i64 (.cl 3 13 (.var 500))),(.i .i64 (.cl 3 14 (.var 500))),(.i .i64 (.cl 3 15 (.var 500))),(.i .i64 (.cl 3 16 (.var 500))),(.i .i64 (.cl 3 17 (.var 500))),(.i .i64 (.cl 3 18 (.var 500))),(.i .i64 (.cl 3 19 (.var 500))),(.i .i64 (.cl 3 20 (.var 500))),(.i .i64 (.cl 3 21 (.var 500))),(.i .i64 (.cl 3 22 (.var 500))),(.i .i64 (.cl 3 23 (.var 500))),(.i .i64 (.cl 3 24 (.var 500)))] (.var 506 [(.i .i64),.b,(.i .i64),(.i .i64),(.i .i64),(.i .i64),(.i .i64),(.i .i64),.s,.s,.b,(.i .i64),(.i .i64),(.i .i64),(.i .i64),(.i .i64),(.i .i64),(.i .i64),(.i .i64),(.i .i64),(.i .i64),(.i .i64),(.i .i64),(.i .i64),(.i .i64)]))):=by kernel_rfl
theorem mn_V3_r509:lassoc 509 mn_V3_b.r=some ((.len 509),(.var 509 [(.i .i64)])):=by kernel_rfl
def mn_W4_s:XS:=⟨zTM19_62,[((19,0),zTM19_37),((19,1),zTM19_20),((19,2),zTM19_39),((19,3),zTM19_41),((28,0),zTM19_55),((28,1),zTM19_25),((28,2),zTM19_57),((28,3),zTM19_59),((69,0),zTM19_68),((77,0),zTM19_69)],161⟩
def mn_W4_r:T (XE×XS):=(.need (.and (.not (.lt (.len 505) (.op .padd .i64 (.var 502) (.var 503)))) (.and (.not (.lt (.len 509) (.op .padd .i64 (.var 507) (.var 508)))) (.lt (.cl 509 0 (.var 507)) (.len 471)))) (.ret (.normal,mn_W4_s)))
theorem mn_W4_run:(codeX (cfgL ksP (fun _=>[])).ti (callS ⟨(cfgL ksP (fun _=>[])),l_able,[20009,20,33,37,58,10010,10011,10013,10014,10023,10021,20025]⟩ 12) (((cfgL ksP (fun _=>[])).ft 4).elim [] (·.ms)) 0 ([]) 1000 mn_c ((hasE,true)::(.var 549,false)::c0F++rd2) mn_S0).map (sqz mn_ks)=mn_W4_r:=by kernel_rfl
def mn_W4_b:Bind:=⟨[(500,zTM19_61),(502,(.var 502)),(503,(.var 503)),(507,(.var 507)),(508,(.var 508)),(510,(.var 510)),(511,(.var 511)),(512,(.var 512)),(513,(.var 513)),(514,(.var 514)),(515,(.var 515)),(516,(.var 516)),(517,(.var 517)),(518,(.var 518)),(519,(.var 519)),(520,(.var 520)),(521,(.var 521)),(522,(.var 522)),(523,(.var 523)),(524,(.var 524)),(525,(.var 525)),(526,(.var 526)),(527,(.var 527)),(528,(.var 528)),(529,(.var 529)),(531,(.var 531))],[(530,(.var 530))],[],[(504,(.len 2),zTM19_38),(505,(.len 505),zTM19_40),(506,(.len 473),zTM19_56),(509,(.len 509),zTM19_58)]⟩
theorem mn_W4_ok:okS 0 500 mn_W4_b [] mn_S0 mn_W4_s=true:=by kernel_rfl
theorem mn_W4_g:mn_W4_b.ge 500=true:=by kernel_rfl
theorem mn_W4_step {ρ ρ1:Rho} (hd:mn_S0.den ρ=mn_S0.den ρ1) (cok:CfgOk Try.prog ρ1 (cfgL ksP (fun _=>[]))) (hl:LpsOk Try.prog ρ1 Try.f4.ntmps ([]) mn_c) (hk:Facts.ok ρ1 ((hasE,true)::(.var 549,false)::c0F++rd2)) (h0:((.and (.not (.lt (.len 505) (.op .padd .i64 (.var 502) (.var 503)))) (.and (.not (.lt (.len 509) (.op .padd .i64 (.var 507) (.var 508)))) (.lt (.cl 509 0 (.var 507)) (.len 471)))):BE).den ρ1=true):StepF Try.prog Try.f4.ntmps mn_c 0 mn_S0 mn_S0 ρ (mn_W4_b.ap ρ1) :=
 fam_goU mn_fits hd cok hl hk mn_W4_run (sel_need h0 rfl) mn_W4_ok
theorem mn_W4_500:lassoc 500 mn_W4_b.i=some (.op .add .i64 (.var 500) (.lit 1)):=by kernel_rfl
theorem mn_W4_502:lassoc 502 mn_W4_b.i=some (.var 502):=by kernel_rfl
theorem mn_W4_503:lassoc 503 mn_W4_b.i=some (.var 503):=by kernel_rfl
theorem mn_W4_507:lassoc 507 mn_W4_b.i=some (.var 507):=by kernel_rfl
theorem mn_W4_508:lassoc 508 mn_W4_b.i=some (.var 508):=by kernel_rfl
theorem mn_W4_510:lassoc 510 mn_W4_b.i=some (.var 510):=by kernel_rfl
theorem mn_W4_511:lassoc 511 mn_W4_b.i=some (.var 511):=by kernel_rfl
theorem mn_W4_512:lassoc 512 mn_W4_b.i=some (.var 512):=by kernel_rfl
theorem mn_W4_513:lassoc 513 mn_W4_b.i=some (.var 513):=by kernel_rfl
theorem mn_W4_514:lassoc 514 mn_W4_b.i=some (.var 514):=by kernel_rfl
theorem mn_W4_515:lassoc 515 mn_W4_b.i=some (.var 515):=by kernel_rfl
theorem mn_W4_516:lassoc 516 mn_W4_b.i=some (.var 516):=by kernel_rfl
theorem mn_W4_517:lassoc 517 mn_W4_b.i=some (.var 517):=by kernel_rfl
theorem mn_W4_518:lassoc 518 mn_W4_b.i=some (.var 518):=by kernel_rfl
theorem mn_W4_519:lassoc 519 mn_W4_b.i=some (.var 519):=by kernel_rfl
theorem mn_W4_520:lassoc 520 mn_W4_b.i=some (.var 520):=by kernel_rfl
theorem mn_W4_521:lassoc 521 mn_W4_b.i=some (.var 521):=by kernel_rfl
theorem mn_W4_522:lassoc 522 mn_W4_b.i=some (.var 522):=by kernel_rfl
theorem mn_W4_523:lassoc 523 mn_W4_b.i=some (.var 523):=by kernel_rfl
theorem mn_W4_524:lassoc 524 mn_W4_b.i=some (.var 524):=by kernel_rfl
theorem mn_W4_525:lassoc 525 mn_W4_b.i=some (.var 525):=by kernel_rfl
theorem mn_W4_526:lassoc 526 mn_W4_b.i=some (.var 526):=by kernel_rfl
theorem mn_W4_527:lassoc 527 mn_W4_b.i=some (.var 527):=by kernel_rfl
theorem mn_W4_528:lassoc 528 mn_W4_b.i=some (.var 528):=by kernel_rfl
theorem mn_W4_529:lassoc 529 mn_W4_b.i=some (.var 529):=by kernel_rfl
theorem mn_W4_531:lassoc 531 mn_W4_b.i=some (.var 531):=by kernel_rfl
theorem mn_W4_r504:lassoc 504 mn_W4_b.r=some ((.len 2),(.var 504 [(.i .i64),.b,(.i .i64),(.i .i64),(.i .i64),(.i .i64),(.i .i64),(.i .i64),.s,.s,.b,(.i .i64),(.i .i64),(.i .i64),(.i .i64),(.i .i64),(.i .i64),(.i .i64),(.i .i64),(.i .i64),(.i .i64),(.i .i64),(.i .i64),(.i .i64),(.i .i64)])):=by kernel_rfl
theorem mn_W4_r505:lassoc 505 mn_W4_b.r=some ((.len 505),(.var 505 [(.i .i64)])):=by kernel_rfl
theorem mn_W4_r506:lassoc 506 mn_W4_b.r=some ((.len 473),(.var 506 [(.i .i64),.b,(.i .i64),(.i .i64),(.i .i64),(.i .i64),(.i .i64),(.i .i64),.s,.s,.b,(.i .i64),(.i .i64),(.i .i64),(.i .i64),(.i .i64),(.i .i64),(.i .i64),(.i .i64),(.i .i64),(.i .i64),(.i .i64),(.i .i64),(.i .i64),(.i .i64)])):=by kernel_rfl
theorem mn_W4_r509:lassoc 509 mn_W4_b.r=some ((.len 509),(.var 509 [(.i .i64)])):=by kernel_rfl
end Go.Proofs.Ytdlifdoglhhnfaa
