/- Parts of the proof, one behind the other. -/
import Derived.Test.YtdlifdoglhhnfaaTM11
import Derived.Test.YtdlifdoglhhnfaaXwM3
import Derived.Test.YtdlifdoglhhnfaaTM12
import Derived.Test.YtdlifdoglhhnfaaTM10
import Derived.Test.YtdlifdoglhhnfaaTM1
import Derived.Test.YtdlifdoglhhnfaaTM20
namespace Go.Proofs.Ytdlifdoglhhnfaa
open Go Go.Proofs.Aw Go.Proofs.Xw
set_option maxRecDepth 100000
noncomputable def rz_c:Code:=(loopsOf (Try.f22.body.getD .skip))[0]?.getD .skip
theorem rz_fits:fitsC Try.f22.ntmps rz_c=true:=by kernel_rfl
abbrev zTM23_0:X := .sc (.i .i64 (.len 2))
abbrev zTM23_1:X := .slv (19,2) 25 (.lit 0) (.len 2) true
abbrev zTM23_2:XTp:=[(15,.top),(14,.top),(13,.top),(12,.top),(11,.top),(10,.top),(9,.top),(8,.top),(7,.top),(6,.top)]
abbrev zTM23_3:XTp:=[(2,(.k (.slice none 0 0))),(0,(.ptr (19,0) [] 0))]
abbrev zTM23_4:List X:=[(.sc (.i .i64 (.var 0))),(.sc (.i .i64 (.var 1))),(.sc (.i .i64 (.var 2))),(.sc (.i .i64 (.var 3))),(.sc (.i .i64 (.var 4))),(.sc (.i .i64 (.var 5))),(.sc (.i .i64 (.var 6))),(.sc (.i .i64 (.var 7))),(.sc (.i .i64 (.var 8))),(.sc (.i .i64 (.var 510))),(.sc (.i .i64 (.var 511))),(.sc (.i .i64 (.var 512))),(.sc (.i .i64 (.var 513))),(.sc (.i .i64 (.var 514))),(.sc (.i .i64 (.var 515))),(.sc (.i .i64 (.var 516))),(.sc (.i .i64 (.var 517))),(.sc (.i .i64 (.var 518))),(.sc (.i .i64 (.var 9))),(.slv (19,1) 1 (.lit 0) (.len 2) true),zTM23_1,(.slv (19,3) 1 (.var 502) (.var 503) true),(.sc (.i .i64 (.var 519))),(.sc (.i .i64 (.lit 0)))]
abbrev zTM23_5:List X:=[(.rows 1 (.len 2) (.app (.len 2) (.var 2 [.s]) (.one [(.s (.lit ⟨#[120,55]⟩))])))]
abbrev zTM23_6:List X:=[(.rows 25 (.len 2) (.var 504 [(.i .i64),.b,(.i .i64),(.i .i64),(.i .i64),(.i .i64),(.i .i64),(.i .i64),.s,.s,.b,(.i .i64),(.i .i64),(.i .i64),(.i .i64),(.i .i64),(.i .i64),(.i .i64),(.i .i64),(.i .i64),(.i .i64),(.i .i64),(.i .i64),(.i .i64),(.i .i64)]))]
abbrev zTM23_7:List X:=[(.rows 1 (.len 505) (.var 505 [(.i .i64)]))]
abbrev zTM23_8:XTp:=([(21,(.sc (.i .i64 (.var 560)))),(20,zTM23_0),(19,zTM23_1),(18,.top),(17,.top),(16,.top),(3,(.slv (160,0) 22 (.lit 0) (.len 561) true))]++zTM23_2++zTM23_3)
abbrev zTM23_9:RL := .var 561 [.s,.b,(.i .i64),(.i .i64),(.i .i64),(.i .i64),(.i .i64),(.i .i64),.s,.s,.b,(.i .i64),(.i .i64),(.i .i64),(.i .i64),(.i .i64),(.i .i64),(.i .i64),(.i .i64),(.i .i64),(.i .i64),(.i .i64)]
abbrev zTM23_10:XHp:=[((19,0),zTM23_4),((19,1),zTM23_5),((19,2),zTM23_6),((19,3),zTM23_7),((160,0),[(.rows 22 (.len 561) zTM23_9)])]
abbrev zTM23_11:X := .sc (.b (.cl 504 1 (.lit 0)))
abbrev zTM23_12:X := .sc (.i .i64 (.cl 504 2 (.lit 0)))
abbrev zTM23_13:X := .sc (.i .i64 (.cl 504 3 (.lit 0)))
abbrev zTM23_14:X := .sc (.i .i64 (.cl 504 4 (.lit 0)))
abbrev zTM23_15:X := .sc (.i .i64 (.cl 504 5 (.lit 0)))
abbrev zTM23_16:X := .sc (.i .i64 (.cl 504 6 (.lit 0)))
abbrev zTM23_17:X := .sc (.i .i64 (.cl 504 7 (.lit 0)))
abbrev zTM23_18:X := .sc (.s (.cl 504 8 (.lit 0)))
abbrev zTM23_19:X := .sc (.s (.cl 504 9 (.lit 0)))
abbrev zTM23_20:X := .sc (.b (.cl 504 10 (.lit 0)))
abbrev zTM23_21:X := .sc (.i .i64 (.cl 504 11 (.lit 0)))
abbrev zTM23_22:X := .sc (.i .i64 (.cl 504 12 (.lit 0)))
abbrev zTM23_23:X := .sc (.i .i64 (.cl 504 13 (.lit 0)))
abbrev zTM23_24:X := .sc (.i .i64 (.cl 504 14 (.lit 0)))
abbrev zTM23_25:X := .sc (.i .i64 (.cl 504 15 (.lit 0)))
abbrev zTM23_26:X := .sc (.i .i64 (.cl 504 16 (.lit 0)))
abbrev zTM23_27:X := .sc (.i .i64 (.cl 504 17 (.lit 0)))
abbrev zTM23_28:X := .sc (.i .i64 (.cl 504 18 (.lit 0)))
abbrev zTM23_29:X := .sc (.i .i64 (.cl 504 19 (.lit 0)))
abbrev zTM23_30:X := .sc (.i .i64 (.cl 504 20 (.lit 0)))
abbrev zTM23_31:X := .sc (.i .i64 (.cl 504 21 (.lit 0)))
abbrev zTM23_32:IE := .op .add .i64 (.var 560) (.lit 1)
abbrev zTM23_33:IE := .op .padd .i64 (.len 561) (.lit 1)
abbrev zTM23_34:Sc := .i .i64 (.cl 504 2 (.var 560))
abbrev zTM23_35:Sc := .i .i64 (.cl 504 3 (.var 560))
abbrev zTM23_36:Sc := .i .i64 (.cl 504 4 (.var 560))
abbrev zTM23_37:Sc := .i .i64 (.cl 504 5 (.var 560))
abbrev zTM23_38:Sc := .i .i64 (.cl 504 6 (.var 560))
abbrev zTM23_39:Sc := .i .i64 (.cl 504 7 (.var 560))
abbrev zTM23_40:Sc := .i .i64 (.cl 504 11 (.var 560))
abbrev zTM23_41:Sc := .i .i64 (.cl 504 12 (.var 560))
abbrev zTM23_42:Sc := .i .i64 (.cl 504 13 (.var 560))
abbrev zTM23_43:Sc := .i .i64 (.cl 504 14 (.var 560))
abbrev zTM23_44:Sc := .i .i64 (.cl 504 15 (.var 560))
abbrev zTM23_45:Sc := .i .i64 (.cl 504 16 (.var 560))
abbrev zTM23_46:Sc := .i .i64 (.cl 504 17 (.var 560))
abbrev zTM23_47:Sc := .i .i64 (.cl 504 18 (.var 560))
abbrev zTM23_48:Sc := .i .i64 (.cl 504 19 (.var 560))
abbrev zTM23_49:Sc := .i .i64 (.cl 504 20 (.var 560))
abbrev zTM23_50:Sc := .i .i64 (.cl 504 21 (.var 560))
abbrev zTM23_51:RL := .app (.len 561) zTM23_9 (.one [(.s (.cl 2 0 (.var 560))),(.b (.cl 504 1 (.var 560))),zTM23_34,zTM23_35,zTM23_36,zTM23_37,zTM23_38,zTM23_39,(.s (.cl 504 8 (.var 560))),(.s (.cl 504 9 (.var 560))),(.b (.cl 504 10 (.var 560))),zTM23_40,zTM23_41,zTM23_42,zTM23_43,zTM23_44,zTM23_45,zTM23_46,zTM23_47,zTM23_48,zTM23_49,zTM23_50])
abbrev zTM23_52:T X := .ret (.sc (.b (.lit true)))
abbrev zTM23_53:BE := .not (.lt (.len 505) (.op .padd .i64 (.var 502) (.var 503)))
abbrev zTM23_54:BE := .not (.lt (.len 509) (.op .padd .i64 (.var 507) (.var 508)))
abbrev zTM23_55:BE := .and (.not (.lt (.var 507) (.lit 0))) (.and (.not (.lt (.var 508) (.lit 0))) zTM23_54)
def rz_E:XS:=⟨([(21,(.sc (.i .i64 (.lit 0)))),(20,zTM23_0),(19,zTM23_1),(18,.top),(17,.top),(16,.top),(3,(.k (.slice none 0 0)))]++zTM23_2++zTM23_3),[((19,0),zTM23_4),((19,1),zTM23_5),((19,2),zTM23_6),((19,3),zTM23_7)],147⟩
def rz_ks:List Nat:=[21,20,19,18,17,16,3,15,14,13,12,11,10,9,8,7,6,2,0]
theorem rz_Eb:rz_E.bel 560=true:=by kernel_rfl
def rz_S0:XS:=⟨([(21,(.sc (.i .i64 (.lit 0)))),(20,zTM23_0),(19,zTM23_1),(18,.top),(17,.top),(16,.top),(3,(.k (.slice none 0 0)))]++zTM23_2++zTM23_3),[((19,0),zTM23_4),((19,1),zTM23_5),((19,2),zTM23_6),((19,3),zTM23_7)],147⟩
def rz_S1:XS:=⟨zTM23_8,zTM23_10,161⟩
def rz_I0:Bind:=⟨[],[],[],[]⟩
theorem rz_I0ok:okS 129 560 rz_I0 [] rz_S0 rz_E=true:=by kernel_rfl
theorem rz_I0g:rz_I0.ge 560=true:=by kernel_rfl
def rz_A_s:XS:=⟨([(21,(.sc (.i .i64 (.lit 1)))),(20,zTM23_0),(19,zTM23_1),(18,.top),(17,.top),(16,.top),(3,(.sl (168,0) 22 0 1 true))]++zTM23_2++zTM23_3),[((19,0),zTM23_4),((19,1),zTM23_5),((19,2),zTM23_6),((19,3),zTM23_7),((151,0),[(.sc (.i .i64 (.cl 504 0 (.lit 0)))),zTM23_11,zTM23_12,zTM23_13,zTM23_14,zTM23_15,zTM23_16,zTM23_17,zTM23_18,zTM23_19,zTM23_20,zTM23_21,zTM23_22,zTM23_23,zTM23_24,zTM23_25,zTM23_26,zTM23_27,zTM23_28,zTM23_29,zTM23_30,zTM23_31,(.sc (.i .i64 (.cl 504 22 (.lit 0)))),(.sc (.i .i64 (.cl 504 23 (.lit 0)))),(.sc (.i .i64 (.cl 504 24 (.lit 0))))]),((168,0),[(.sc (.s (.cl 2 0 (.lit 0)))),zTM23_11,zTM23_12,zTM23_13,zTM23_14,zTM23_15,zTM23_16,zTM23_17,zTM23_18,zTM23_19,zTM23_20,zTM23_21,zTM23_22,zTM23_23,zTM23_24,zTM23_25,zTM23_26,zTM23_27,zTM23_28,zTM23_29,zTM23_30,zTM23_31])],172⟩
def rz_A_r:T (XE×XS):=(.ret (.normal,rz_A_s))
theorem rz_A_run:(codeX (cfgL [] (fun _=>[])).ti (callS ⟨(cfgL [] (fun _=>[])),l_able,[20009,20,33,37,58,10010,10011,10013,10014,10023,10021,20025]⟩ 12) (((cfgL [] (fun _=>[])).ft 22).elim [] (·.ms)) 129 ([]) 1000 rz_c ([(.lt (.len 2) (.lit 1),false),(.lt (.lit 6) (.len 2),false)]) rz_S0).map (sqz rz_ks)=rz_A_r:=by kernel_rfl
def rz_A_b:Bind:=⟨[(560,(.lit 1))],[],[],[(561,(.lit 1),(.one [(.s (.cl 2 0 (.lit 0))),(.b (.cl 504 1 (.lit 0))),(.i .i64 (.cl 504 2 (.lit 0))),(.i .i64 (.cl 504 3 (.lit 0))),(.i .i64 (.cl 504 4 (.lit 0))),(.i .i64 (.cl 504 5 (.lit 0))),(.i .i64 (.cl 504 6 (.lit 0))),(.i .i64 (.cl 504 7 (.lit 0))),(.s (.cl 504 8 (.lit 0))),(.s (.cl 504 9 (.lit 0))),(.b (.cl 504 10 (.lit 0))),(.i .i64 (.cl 504 11 (.lit 0))),(.i .i64 (.cl 504 12 (.lit 0))),(.i .i64 (.cl 504 13 (.lit 0))),(.i .i64 (.cl 504 14 (.lit 0))),(.i .i64 (.cl 504 15 (.lit 0))),(.i .i64 (.cl 504 16 (.lit 0))),(.i .i64 (.cl 504 17 (.lit 0))),(.i .i64 (.cl 504 18 (.lit 0))),(.i .i64 (.cl 504 19 (.lit 0))),(.i .i64 (.cl 504 20 (.lit 0))),(.i .i64 (.cl 504 21 (.lit 0)))]))]⟩
theorem rz_A_ok:okS 129 560 rz_A_b [((160,0),(168,0))] rz_S1 rz_A_s=true:=by kernel_rfl
theorem rz_A_g:rz_A_b.ge 560=true:=by kernel_rfl
theorem rz_A_step {ρ ρ1:Rho} (hd:rz_S0.den ρ=rz_S0.den ρ1) (cok:CfgOk Try.prog ρ1 (cfgL [] (fun _=>[]))) (hl:LpsOk Try.prog ρ1 Try.f22.ntmps ([]) rz_c) (hk:Facts.ok ρ1 ([(.lt (.len 2) (.lit 1),false),(.lt (.lit 6) (.len 2),false)])):StepF Try.prog Try.f22.ntmps rz_c 129 rz_S0 rz_S1 ρ (rz_A_b.ap ρ1) :=
 fam_goU rz_fits hd cok hl hk rz_A_run rfl rz_A_ok
theorem rz_A_560:lassoc 560 rz_A_b.i=some (.lit 1):=by kernel_rfl
theorem rz_A_r561:lassoc 561 rz_A_b.r=some ((.lit 1),(.one [(.s (.cl 2 0 (.lit 0))),(.b (.cl 504 1 (.lit 0))),(.i .i64 (.cl 504 2 (.lit 0))),(.i .i64 (.cl 504 3 (.lit 0))),(.i .i64 (.cl 504 4 (.lit 0))),(.i .i64 (.cl 504 5 (.lit 0))),(.i .i64 (.cl 504 6 (.lit 0))),(.i .i64 (.cl 504 7 (.lit 0))),(.s (.cl 504 8 (.lit 0))),(.s (.cl 504 9 (.lit 0))),(.b (.cl 504 10 (.lit 0))),(.i .i64 (.cl 504 11 (.lit 0))),(.i .i64 (.cl 504 12 (.lit 0))),(.i .i64 (.cl 504 13 (.lit 0))),(.i .i64 (.cl 504 14 (.lit 0))),(.i .i64 (.cl 504 15 (.lit 0))),(.i .i64 (.cl 504 16 (.lit 0))),(.i .i64 (.cl 504 17 (.lit 0))),(.i .i64 (.cl 504 18 (.lit 0))),(.i .i64 (.cl 504 19 (.lit 0))),(.i .i64 (.cl 504 20 (.lit 0))),(.i .i64 (.cl 504 21 (.lit 0)))])):=by kernel_rfl
def rz_B_s:XS:=⟨([(21,(.sc (.i .i64 zTM23_32))),(20,zTM23_0),(19,zTM23_1),(18,.top),(17,.top),(16,.top),(3,(.slv (182,0) 22 (.lit 0) zTM23_33 true))]++zTM23_2++zTM23_3),[((19,0),zTM23_4),((19,1),zTM23_5),((19,2),zTM23_6),((19,3),zTM23_7),((165,0),[(.sc (.i .i64 (.cl 504 0 (.var 560)))),(.sc (.b (.cl 504 1 (.var 560)))),(.sc zTM23_34),(.sc zTM23_35),(.sc zTM23_36),(.sc zTM23_37),(.sc zTM23_38),(.sc zTM23_39),(.sc (.s (.cl 504 8 (.var 560)))),(.sc (.s (.cl 504 9 (.var 560)))),(.sc (.b (.cl 504 10 (.var 560)))),(.sc zTM23_40),(.sc zTM23_41),(.sc zTM23_42),(.sc zTM23_43),(.sc zTM23_44),(.sc zTM23_45),(.sc zTM23_46),(.sc zTM23_47),(.sc zTM23_48),(.sc zTM23_49),(.sc zTM23_50),(.sc (.i .i64 (.cl 504 22 (.var 560)))),(.sc (.i .i64 (.cl 504 23 (.var 560)))),(.sc (.i .i64 (.cl 504 24 (.var 560))))]),((182,0),[(.rows 22 zTM23_33 zTM23_51)])],186⟩
def rz_B_r:T (XE×XS):=(.ret (.normal,rz_B_s))
theorem rz_B_run:(codeX (cfgL [] (fun _=>[])).ti (callS ⟨(cfgL [] (fun _=>[])),l_able,[20009,20,33,37,58,10010,10011,10013,10014,10023,10021,20025]⟩ 12) (((cfgL [] (fun _=>[])).ft 22).elim [] (·.ms)) 129 ([]) 1000 rz_c ((in1,true)::(.lt (.lit 6) (.len 561),false)::r1F) rz_S1).map (sqz rz_ks)=rz_B_r:=by kernel_rfl
def rz_B_b:Bind:=⟨[(560,zTM23_32)],[],[],[(561,zTM23_33,zTM23_51)]⟩
theorem rz_B_ok:okS 129 560 rz_B_b [((160,0),(182,0))] rz_S1 rz_B_s=true:=by kernel_rfl
theorem rz_B_g:rz_B_b.ge 560=true:=by kernel_rfl
theorem rz_B_step {ρ ρ1:Rho} (hd:rz_S1.den ρ=rz_S1.den ρ1) (cok:CfgOk Try.prog ρ1 (cfgL [] (fun _=>[]))) (hl:LpsOk Try.prog ρ1 Try.f22.ntmps ([]) rz_c) (hk:Facts.ok ρ1 ((in1,true)::(.lt (.lit 6) (.len 561),false)::r1F)):StepF Try.prog Try.f22.ntmps rz_c 129 rz_S1 rz_S1 ρ (rz_B_b.ap ρ1) :=
 fam_goU rz_fits hd cok hl hk rz_B_run rfl rz_B_ok
theorem rz_B_560:lassoc 560 rz_B_b.i=some (.op .add .i64 (.var 560) (.lit 1)):=by kernel_rfl
theorem rz_B_r561:lassoc 561 rz_B_b.r=some ((.op .padd .i64 (.len 561) (.lit 1)),(.app (.len 561) (.var 561 [.s,.b,(.i .i64),(.i .i64),(.i .i64),(.i .i64),(.i .i64),(.i .i64),.s,.s,.b,(.i .i64),(.i .i64),(.i .i64),(.i .i64),(.i .i64),(.i .i64),(.i .i64),(.i .i64),(.i .i64),(.i .i64),(.i .i64)]) (.one [(.s (.cl 2 0 (.var 560))),(.b (.cl 504 1 (.var 560))),(.i .i64 (.cl 504 2 (.var 560))),(.i .i64 (.cl 504 3 (.var 560))),(.i .i64 (.cl 504 4 (.var 560))),(.i .i64 (.cl 504 5 (.var 560))),(.i .i64 (.cl 504 6 (.var 560))),(.i .i64 (.cl 504 7 (.var 560))),(.s (.cl 504 8 (.var 560))),(.s (.cl 504 9 (.var 560))),(.b (.cl 504 10 (.var 560))),(.i .i64 (.cl 504 11 (.var 560))),(.i .i64 (.cl 504 12 (.var 560))),(.i .i64 (.cl 504 13 (.var 560))),(.i .i64 (.cl 504 14 (.var 560))),(.i .i64 (.cl 504 15 (.var 560))),(.i .i64 (.cl 504 16 (.var 560))),(.i .i64 (.cl 504 17 (.var 560))),(.i .i64 (.cl 504 18 (.var 560))),(.i .i64 (.cl 504 19 (.var 560))),(.i .i64 (.cl 504 20 (.var 560))),(.i .i64 (.cl 504 21 (.var 560)))]))):=by kernel_rfl
def rz_X_s:XS:=⟨zTM23_8,zTM23_10,162⟩
def rz_X_r:T (XE×XS):=(.ret ((.exit 0),rz_X_s))
theorem rz_X_run:(codeX (cfgL [] (fun _=>[])).ti (callS ⟨(cfgL [] (fun _=>[])),l_able,[20009,20,33,37,58,10010,10011,10013,10014,10023,10021,20025]⟩ 12) (((cfgL [] (fun _=>[])).ft 22).elim [] (·.ms)) 129 ([]) 1000 rz_c ((in1,false)::r1F) rz_S1).map (sqz rz_ks)=rz_X_r:=by kernel_rfl
def rz_out:T (XE×XS):=(.ret ((.exit 0),rz_X_s))
noncomputable def rz:LoopX:=⟨((codeKey rz_c).getD 0),129,560,rz_E,noB,[],rz_out⟩
theorem rz_X_end {ρ1:Rho} (cok:CfgOk Try.prog ρ1 (cfgL [] (fun _=>[]))) (hl:LpsOk Try.prog ρ1 Try.f22.ntmps ([]) rz_c) (hk:Facts.ok ρ1 ((in1,false)::r1F)) (ho:rz_out.sel ρ1=some ((.exit 0),rz_X_s)):EndL Try.prog Try.f22.ntmps rz_c 129 rz_S1 rz_out ρ1 :=
 fam_endU rz_fits cok hl hk rz_X_run rfl (fun h=>nomatch h) ho (by kernel_rfl)
end Go.Proofs.Ytdlifdoglhhnfaa
namespace Go.Proofs.Ytdlifdoglhhnfaa
open Go Go.Proofs.Aw Go.Proofs.Xw Go.Proofs.Sr
set_option maxRecDepth 100000
def rzS:Nat→XS
 | 0=>rz_S0
 | _=>rz_S1
def rzR (n:Nat) (s:Nat) (ρ:Rho):Prop:=(ρ.len 2=n)∧match s with
 | 0=>True
 | _=>∃j:Nat,1≤j∧j≤n∧ρ.i 560=j∧ReR ρ 561 2 504 j
theorem rz_ok (ρ:Rho) {n:Nat} (n1:1≤n) (n6:n≤6) (hn:ρ.len 2=n):∃ρf,Agree 560 ρ ρf∧ReR ρf 561 2 504 n∧LoopOk Try.prog ρf Try.f22.ntmps rz_c rz:=by
 suffices hh:∃(_:Nat) (ρf:Rho),Agree rz.n ρ ρf∧ReR ρf 561 2 504 n∧LoopOk Try.prog ρf Try.f22.ntmps rz_c rz by
  obtain⟨_,ρf,h1,h2,h3⟩:=hh
  exact⟨ρf,h1,h2,h3⟩
 have a0:=Bind.agree rz_I0g ρ
 have keep:∀{x y:Rho},Agree 560 x y→(x.len 2=n)→y.len 2=n:=fun {x y} ag h=>by rw[←ag.len 2 (by decide)];exact h
 have f0:∀{x:Rho},(x.len 2=n)→Facts.ok x ([(.lt (.len 2) (.lit 1),false),(.lt (.lit 6) (.len 2),false)]):=fun {x} h=>Facts.ok_cons (by rw[dlt_f];simp only[IE.den];omega) (Facts.ok_cons (by rw[dlt_f];simp only[IE.den];omega) (Facts.ok_nil _))
 have f1:∀{x:Rho} {j:Nat},(x.len 2=n)→x.i 560=j→Facts.ok x r1F:=fun {x j} h hj=>Facts.ok_cons (by rw[dlt_f];simp only[IE.den];omega) (Facts.ok_cons (by rw[dlt_f];simp only[IE.den];omega) (Facts.ok_cons (by rw[dlt_f];simp only[IE.den];omega) (Facts.ok_nil _)))
 refine loopOk_famE (L:=rz) (N:=Try.f22.ntmps) (body:=rz_c) (P:=Try.prog) rfl rz_Eb rzS (rzR n) (fun _ ρ'=>ReR ρ' 561 2 504 n) (fun s ρ'=>match s with
  | 0=>n+1
  | _=>(n-ρ'.i 560).toNat) ?_
  ⟨0,rz_I0.ap ρ,a0,⟨keep a0 hn,trivial⟩,fun E _ hE=>okS_imp hE rz_I0ok ρ⟩
 rintro s ρ' ⟨hn',hs⟩
 match s,hs with
 | 0,_ =>
  have ag:Agree 560 ρ' (rz_A_b.ap ρ'):=Bind.agree rz_A_g _
  have up:(rz_A_b.ap ρ').i 560=1:=ap_i rz_A_560
  exact .inr ⟨1,rz_A_b.ap ρ',rz_A_step rfl (cN_ok _) (LpsOk.nil _ _ _ _) (f0 hn'),⟨keep ag hn',1,Nat.le_refl _,n1,up,ReR.one ag (by decide) (by decide) rz_A_r561⟩,by show(_:Int).toNat<n+1;rw[up];omega,ag⟩
 | s+1,⟨j,j1,j2,hj,hr⟩ =>
  by_cases c:j<n
  ·have ag:Agree 560 ρ' (rz_B_b.ap ρ'):=Bind.agree rz_B_g _
   have up:(rz_B_b.ap ρ').i 560=((j+1:Nat):Int):=(ap_i rz_B_560).trans (inc hj (by omega))
   have hl:=hr.1
   exact .inr ⟨1,rz_B_b.ap ρ',rz_B_step rfl (cN_ok _) (LpsOk.nil _ _ _ _) (Facts.ok_cons (by show(BE.lt (.var 560) (.len 2)).den ρ'=true;rw[dlt_t];simp only[IE.den];omega) (Facts.ok_cons (by rw[dlt_f];simp only[IE.den];omega) (f1 hn' hj))),⟨keep ag hn',j+1,by omega,c,up,hr.app ag (by decide) (by decide) (i := .var 560) hj rz_B_r561⟩,by show(_:Int).toNat<(_:Int).toNat;rw[up,hj];omega,ag⟩
  ·obtain rfl:j=n:=by omega
   exact .inl ⟨ρ',Agree.refl _ _,hr,rfl,rz_X_end (cN_ok _) (LpsOk.nil _ _ _ _) (Facts.ok_cons (by show(BE.lt (.var 560) (.len 2)).den ρ'=false;rw[dlt_f];simp only[IE.den];have:=hn';omega) (f1 hn' hj)) rfl⟩
end Go.Proofs.Ytdlifdoglhhnfaa
namespace Go.Proofs.Ytdlifdoglhhnfaa
open Go Go.Proofs.Aw Go.Proofs.Xw Go.Proofs.Sr
set_option maxRecDepth 100000
def spR (n:Nat) (ρ0 ρ:Rho):Prop:=Agree 492 ρ0 ρ∧∃k:Nat,ρ.i 492=k∧k≤n∧(∀y,k≤y→y<n→ρ.cs 493 0 y=ρ0.cs 2 0 y)∧ρ.cs 493 0 n=⟨#[120,55]⟩
theorem sp_ok (ρ:Rho) {n:Nat} (hn:ρ.len 2=n) (bn:n≤8796093022208):∃ρf,Agree 492 ρ ρf∧ρf.cs 493 0 n=⟨#[120,55]⟩∧LoopOk Try.prog ρf Try.f4.ntmps sp_c sp:=by
 suffices hh:∃(_:Nat) (ρf:Rho),Agree sp.n ρ ρf∧ρf.cs 493 0 n=⟨#[120,55]⟩∧LoopOk Try.prog ρf Try.f4.ntmps sp_c sp by
  obtain⟨_,ρf,h1,h2,h3⟩:=hh
  exact⟨ρf,h1,h2,h3⟩
 have a0:Agree 492 ρ (sp_I0.ap ρ):=Bind.agree sp_I0g ρ
 refine loopOk_famE (L:=sp) (N:=Try.f4.ntmps) (body:=sp_c) (P:=Try.prog) rfl sp_Eb (fun _=>sp_S0) (fun _=>spR n ρ) (fun _ ρ'=>ρ'.cs 493 0 n=⟨#[120,55]⟩) (fun _ ρ'=>(n-ρ'.i 492).toNat) ?_
  ⟨0,sp_I0.ap ρ,a0,⟨a0,0,ap_i sp_I0_492,Nat.zero_le _,fun y _ hy => ?_,?_⟩,fun E _ hE=>okS_imp hE sp_I0ok ρ⟩
 ·rintro _ ρ' ⟨ag,k,hk,hkn,hs,hx⟩
  have hn':ρ'.len 2=n:=by rw[←ag.len 2 (by decide)];exact hn
  have fk:Facts.ok ρ' spF:=Facts.ok_cons (by rw[dlt_f];simp only[IE.den];omega) (Facts.ok_cons (by rw[dlt_f];simp only[IE.den];omega) (Facts.ok_nil _))
  by_cases c:k<n
  ·have a1:=Bind.agree sp_T_g ρ'
   have up:(sp_T_b.ap ρ').i 492=((k+1:Nat):Int):=(ap_i sp_T_492).trans (inc hk (by omega))
   have row:∀y,(sp_T_b.ap ρ').cs 493 0 y=if y=k then⟨#[115,112,111,105,108,116]⟩else ρ'.cs 493 0 y:=fun y=>by
    rw[ap_cs sp_T_r493,upd_row ρ' (e := .var 492) (x:=k) hk y]
    by_cases q:y=k
    ·rw[if_pos q,if_pos q];rfl
    ·rw[if_neg q,if_neg q];rfl
   refine .inr ⟨0,sp_T_b.ap ρ',sp_T_step rfl (cN_ok _) (LpsOk.nil _ _ _ _) (Facts.ok_cons (by show(BE.lt (.var 492) (.len 2)).den ρ'=true;rw[dlt_t];simp only[IE.den];omega) (Facts.ok_cons ?_ fk)),⟨ag.trans a1,k+1,up,c,fun y h1 h2=>by rw[row,if_neg (by omega)];exact hs y (by omega) h2,by rw[row,if_neg (by omega)];exact hx⟩,by show(_:Int).toNat<(_:Int).toNat;rw[up,hk];omega,a1⟩
   show(BE.seq (.cl 493 0 (.var 492)) (.cl 2 0 (.var 492))).den ρ'=true
   rw[seq_t]
   show ρ'.cs 493 0 (ρ'.i 492).toNat=ρ'.cs 2 0 (ρ'.i 492).toNat
   rw[hk,Int.toNat_natCast,hs k (Nat.le_refl _) c,←ag.cs 2 (by decide)]
  ·refine .inl ⟨ρ',Agree.refl _ _,hx,rfl,sp_X_end (cN_ok _) (LpsOk.nil _ _ _ _) (Facts.ok_cons (by show(BE.lt (.var 492) (.len 2)).den ρ'=false;rw[dlt_f];simp only[IE.den];omega) fk) rfl⟩
 ·rw[ap_cs sp_I0_r493,app_row ρ hn,if_pos hy];rfl
 ·rw[ap_cs sp_I0_r493,app_row ρ hn,if_neg (by omega)];rfl
theorem sq_ok (ρ:Rho) {n:Nat} (hn:ρ.len 2=n) (bn:n≤8796093022208):∃ρf,Agree 492 ρ ρf∧ρf.cs 493 0 n=⟨#[120,55]⟩∧LoopOk Try.prog ρf Try.f4.ntmps sq_c sq:=by
 suffices hh:∃(_:Nat) (ρf:Rho),Agree sq.n ρ ρf∧ρf.cs 493 0 n=⟨#[120,55]⟩∧LoopOk Try.prog ρf Try.f4.ntmps sq_c sq by
  obtain⟨_,ρf,h1,h2,h3⟩:=hh
  exact⟨ρf,h1,h2,h3⟩
 have a0:Agree 492 ρ (sq_I0.ap ρ):=Bind.agree sq_I0g ρ
 refine loopOk_famE (L:=sq) (N:=Try.f4.ntmps) (body:=sq_c) (P:=Try.prog) rfl sq_Eb (fun _=>sq_S0) (fun _=>spR n ρ) (fun _ ρ'=>ρ'.cs 493 0 n=⟨#[120,55]⟩) (fun _ ρ'=>(n-ρ'.i 492).toNat) ?_
  ⟨0,sq_I0.ap ρ,a0,⟨a0,0,ap_i sq_I0_492,Nat.zero_le _,fun y _ hy => ?_,?_⟩,fun E _ hE=>okS_imp hE sq_I0ok ρ⟩
 ·rintro _ ρ' ⟨ag,k,hk,hkn,hs,hx⟩
  have hn':ρ'.len 2=n:=by rw[←ag.len 2 (by decide)];exact hn
  have fk:Facts.ok ρ' spF:=Facts.ok_cons (by rw[dlt_f];simp only[IE.den];omega) (Facts.ok_cons (by rw[dlt_f];simp only[IE.den];omega) (Facts.ok_nil _))
  by_cases c:k<n
  ·have a1:=Bind.agree sq_T_g ρ'
   have up:(sq_T_b.ap ρ').i 492=((k+1:Nat):Int):=(ap_i sq_T_492).trans (inc hk (by omega))
   have row:∀y,(sq_T_b.ap ρ').cs 493 0 y=if y=k then⟨#[115,112,111,105,108,116]⟩else ρ'.cs 493 0 y:=fun y=>by
    rw[ap_cs sq_T_r493,upd_row ρ' (e := .var 492) (x:=k) hk y]
    by_cases q:y=k
    ·rw[if_pos q,if_pos q];rfl
    ·rw[if_neg q,if_neg q];rfl
   refine .inr ⟨0,sq_T_b.ap ρ',sq_T_step rfl (cN_ok _) (LpsOk.nil _ _ _ _) (Facts.ok_cons (by show(BE.lt (.var 492) (.len 2)).den ρ'=true;rw[dlt_t];simp only[IE.den];omega) (Facts.ok_cons ?_ fk)),⟨ag.trans a1,k+1,up,c,fun y h1 h2=>by rw[row,if_neg (by omega)];exact hs y (by omega) h2,by rw[row,if_neg (by omega)];exact hx⟩,by show(_:Int).toNat<(_:Int).toNat;rw[up,hk];omega,a1⟩
   show(BE.seq (.cl 493 0 (.var 492)) (.cl 2 0 (.var 492))).den ρ'=true
   rw[seq_t]
   show ρ'.cs 493 0 (ρ'.i 492).toNat=ρ'.cs 2 0 (ρ'.i 492).toNat
   rw[hk,Int.toNat_natCast,hs k (Nat.le_refl _) c,←ag.cs 2 (by decide)]
  ·refine .inl ⟨ρ',Agree.refl _ _,hx,rfl,sq_X_end (cN_ok _) (LpsOk.nil _ _ _ _) (Facts.ok_cons (by show(BE.lt (.var 492) (.len 2)).den ρ'=false;rw[dlt_f];simp only[IE.den];omega) fk) rfl⟩
 ·rw[ap_cs sq_I0_r493,app_row ρ hn,if_pos hy];rfl
 ·rw[ap_cs sq_I0_r493,app_row ρ hn,if_neg (by omega)];rfl
end Go.Proofs.Ytdlifdoglhhnfaa
namespace Go.Proofs.Ytdlifdoglhhnfaa
open Go Go.Proofs.Aw Go.Proofs.Xw
def plA:List X:=[.agg (vi 0 9),iV 9,kyR,anR]
noncomputable def mnA_c:Code:=mn_c
noncomputable def mnA:LoopX:=⟨((codeKey mn_c).getD 0),0,500,mn_E,noB,[],.ret ((.exit 2),mn_X0_s)⟩
noncomputable def mnB_c:Code:=mn_c
noncomputable def mnB:LoopX:=⟨((codeKey mn_c).getD 0),0,500,mn_E,noB,[],.ret ((.exit 2),mn_X1_s)⟩
noncomputable def mnC_c:Code:=mn_c
noncomputable def mnC:LoopX:=⟨((codeKey mn_c).getD 0),0,500,mn_E,noB,[],.ret ((.exit 2),mn_X2_w)⟩
noncomputable def mnD_c:Code:=mn_c
noncomputable def mnD:LoopX:=⟨((codeKey mn_c).getD 0),0,500,mn_E,noB,[],.ret ((.exit 2),mn_X3_w)⟩
noncomputable def lpZA (f:Nat):List LoopX:=if Nat.beq f 9=true then [nw]else if Nat.beq f 20=true then [dnX]else if Nat.beq f 4=true then [sp,mnA]else []
theorem lpZA_9o:othersB [nw] [0] 0 (loopsOf (Try.f9.body.getD .skip))=true:=by kernel_rfl
theorem lpZA_9 {ρ:Rho} (h_nw:LoopOk Try.prog ρ Try.f9.ntmps nw_c nw):LpsOk Try.prog ρ Try.f9.ntmps [nw] (Try.f9.body.getD .skip) :=
 lps_idx [0] lpZA_9o (List.forall_mem_cons.2 ⟨look_list (c:=nw_c) (Ls:=[nw]) (by kernel_rfl) (List.forall_mem_cons.2 ⟨h_nw,List.forall_mem_nil _⟩),List.forall_mem_nil _⟩)
theorem lpZA_20o:othersB [dnX] [0] 0 (loopsOf (Try.f20.body.getD .skip))=true:=by kernel_rfl
theorem lpZA_20 {ρ:Rho} (h_dnX:LoopOk Try.prog ρ Try.f20.ntmps dnX_c dnX):LpsOk Try.prog ρ Try.f20.ntmps [dnX] (Try.f20.body.getD .skip) :=
 lps_idx [0] lpZA_20o (List.forall_mem_cons.2 ⟨look_list (c:=dnX_c) (Ls:=[dnX]) (by kernel_rfl) (List.forall_mem_cons.2 ⟨h_dnX,List.forall_mem_nil _⟩),List.forall_mem_nil _⟩)
theorem lpZA_4o:othersB [sp,mnA] [0,1] 0 (loopsOf (Try.f4.body.getD .skip))=true:=by kernel_rfl
theorem lpZA_4 {ρ:Rho} (h_sp:LoopOk Try.prog ρ Try.f4.ntmps sp_c sp) (h_mnA:LoopOk Try.prog ρ Try.f4.ntmps mnA_c mnA):LpsOk Try.prog ρ Try.f4.ntmps [sp,mnA] (Try.f4.body.getD .skip) :=
 lps_idx [0,1] lpZA_4o (List.forall_mem_cons.2 ⟨look_list (c:=sp_c) (Ls:=[sp]) (by kernel_rfl) (List.forall_mem_cons.2 ⟨h_sp,List.forall_mem_nil _⟩),List.forall_mem_cons.2 ⟨look_list (c:=mnA_c) (Ls:=[mnA]) (by kernel_rfl) (List.forall_mem_cons.2 ⟨h_mnA,List.forall_mem_nil _⟩),List.forall_mem_nil _⟩⟩)
theorem lpZA_ok {ρ:Rho} (h_nw:LoopOk Try.prog ρ Try.f9.ntmps nw_c nw) (h_dnX:LoopOk Try.prog ρ Try.f20.ntmps dnX_c dnX) (h_sp:LoopOk Try.prog ρ Try.f4.ntmps sp_c sp) (h_mnA:LoopOk Try.prog ρ Try.f4.ntmps mnA_c mnA):∀f i,btLook f ftsT=some i→LpsOk Try.prog ρ i.ntmps (lpZA f) i.body:=by
 intro f i h
 have hi:=fts_ok (f,i) (bt_of_mem _ _ (btLook_mem h))
 unfold lpZA
 split
 ·rename_i hf
  have hf:=Nat.eq_of_beq_eq_true hf
  subst hf
  exact lps_row hi Try.func9 (lpZA_9 h_nw)
 ·split
  ·rename_i hf
   have hf:=Nat.eq_of_beq_eq_true hf
   subst hf
   exact lps_row hi Try.func20 (lpZA_20 h_dnX)
  ·split
   ·rename_i hf
    have hf:=Nat.eq_of_beq_eq_true hf
    subst hf
    exact lps_row hi Try.func4 (lpZA_4 h_sp h_mnA)
   ·exact LpsOk.nil _ _ _ _
noncomputable def lpZB (f:Nat):List LoopX:=if Nat.beq f 9=true then [nw]else if Nat.beq f 20=true then [dnX]else if Nat.beq f 4=true then [sp,mnB]else []
theorem lpZB_9o:othersB [nw] [0] 0 (loopsOf (Try.f9.body.getD .skip))=true:=by kernel_rfl
theorem lpZB_9 {ρ:Rho} (h_nw:LoopOk Try.prog ρ Try.f9.ntmps nw_c nw):LpsOk Try.prog ρ Try.f9.ntmps [nw] (Try.f9.body.getD .skip) :=
 lps_idx [0] lpZB_9o (List.forall_mem_cons.2 ⟨look_list (c:=nw_c) (Ls:=[nw]) (by kernel_rfl) (List.forall_mem_cons.2 ⟨h_nw,List.forall_mem_nil _⟩),List.forall_mem_nil _⟩)
theorem lpZB_20o:othersB [dnX] [0] 0 (loopsOf (Try.f20.body.getD .skip))=true:=by kernel_rfl
theorem lpZB_20 {ρ:Rho} (h_dnX:LoopOk Try.prog ρ Try.f20.ntmps dnX_c dnX):LpsOk Try.prog ρ Try.f20.ntmps [dnX] (Try.f20.body.getD .skip) :=
 lps_idx [0] lpZB_20o (List.forall_mem_cons.2 ⟨look_list (c:=dnX_c) (Ls:=[dnX]) (by kernel_rfl) (List.forall_mem_cons.2 ⟨h_dnX,List.forall_mem_nil _⟩),List.forall_mem_nil _⟩)
theorem lpZB_4o:othersB [sp,mnB] [0,1] 0 (loopsOf (Try.f4.body.getD .skip))=true:=by kernel_rfl
theorem lpZB_4 {ρ:Rho} (h_sp:LoopOk Try.prog ρ Try.f4.ntmps sp_c sp) (h_mnB:LoopOk Try.prog ρ Try.f4.ntmps mnB_c mnB):LpsOk Try.prog ρ Try.f4.ntmps [sp,mnB] (Try.f4.body.getD .skip) :=
 lps_idx [0,1] lpZB_4o (List.forall_mem_cons.2 ⟨look_list (c:=sp_c) (Ls:=[sp]) (by kernel_rfl) (List.forall_mem_cons.2 ⟨h_sp,List.forall_mem_nil _⟩),List.forall_mem_cons.2 ⟨look_list (c:=mnB_c) (Ls:=[mnB]) (by kernel_rfl) (List.forall_mem_cons.2 ⟨h_mnB,List.forall_mem_nil _⟩),List.forall_mem_nil _⟩⟩)
theorem lpZB_ok {ρ:Rho} (h_nw:LoopOk Try.prog ρ Try.f9.ntmps nw_c nw) (h_dnX:LoopOk Try.prog ρ Try.f20.ntmps dnX_c dnX) (h_sp:LoopOk Try.prog ρ Try.f4.ntmps sp_c sp) (h_mnB:LoopOk Try.prog ρ Try.f4.ntmps mnB_c mnB):∀f i,btLook f ftsT=some i→LpsOk Try.prog ρ i.ntmps (lpZB f) i.body:=by
 intro f i h
 have hi:=fts_ok (f,i) (bt_of_mem _ _ (btLook_mem h))
 unfold lpZB
 split
 ·rename_i hf
  have hf:=Nat.eq_of_beq_eq_true hf
  subst hf
  exact lps_row hi Try.func9 (lpZB_9 h_nw)
 ·split
  ·rename_i hf
   have hf:=Nat.eq_of_beq_eq_true hf
   subst hf
   exact lps_row hi Try.func20 (lpZB_20 h_dnX)
  ·split
   ·rename_i hf
    have hf:=Nat.eq_of_beq_eq_true hf
    subst hf
    exact lps_row hi Try.func4 (lpZB_4 h_sp h_mnB)
   ·exact LpsOk.nil _ _ _ _
noncomputable def lpZC (f:Nat):List LoopX:=if Nat.beq f 9=true then [nw]else if Nat.beq f 20=true then [dnX]else if Nat.beq f 4=true then [sp,mnC]else if Nat.beq f 22=true then [rz]else if Nat.beq f 25=true then [r2]else []
theorem lpZC_9o:othersB [nw] [0] 0 (loopsOf (Try.f9.body.getD .skip))=true:=by kernel_rfl
theorem lpZC_9 {ρ:Rho} (h_nw:LoopOk Try.prog ρ Try.f9.ntmps nw_c nw):LpsOk Try.prog ρ Try.f9.ntmps [nw] (Try.f9.body.getD .skip) :=
 lps_idx [0] lpZC_9o (List.forall_mem_cons.2 ⟨look_list (c:=nw_c) (Ls:=[nw]) (by kernel_rfl) (List.forall_mem_cons.2 ⟨h_nw,List.forall_mem_nil _⟩),List.forall_mem_nil _⟩)
theorem lpZC_20o:othersB [dnX] [0] 0 (loopsOf (Try.f20.body.getD .skip))=true:=by kernel_rfl
theorem lpZC_20 {ρ:Rho} (h_dnX:LoopOk Try.prog ρ Try.f20.ntmps dnX_c dnX):LpsOk Try.prog ρ Try.f20.ntmps [dnX] (Try.f20.body.getD .skip) :=
 lps_idx [0] lpZC_20o (List.forall_mem_cons.2 ⟨look_list (c:=dnX_c) (Ls:=[dnX]) (by kernel_rfl) (List.forall_mem_cons.2 ⟨h_dnX,List.forall_mem_nil _⟩),List.forall_mem_nil _⟩)
theorem lpZC_4o:othersB [sp,mnC] [0,1] 0 (loopsOf (Try.f4.body.getD .skip))=true:=by kernel_rfl
theorem lpZC_4 {ρ:Rho} (h_sp:LoopOk Try.prog ρ Try.f4.ntmps sp_c sp) (h_mnC:LoopOk Try.prog ρ Try.f4.ntmps mnC_c mnC):LpsOk Try.prog ρ Try.f4.ntmps [sp,mnC] (Try.f4.body.getD .skip) :=
 lps_idx [0,1] lpZC_4o (List.forall_mem_cons.2 ⟨look_list (c:=sp_c) (Ls:=[sp]) (by kernel_rfl) (List.forall_mem_cons.2 ⟨h_sp,List.forall_mem_nil _⟩),List.forall_mem_cons.2 ⟨look_list (c:=mnC_c) (Ls:=[mnC]) (by kernel_rfl) (List.forall_mem_cons.2 ⟨h_mnC,List.forall_mem_nil _⟩),List.forall_mem_nil _⟩⟩)
theorem lpZC_22o:othersB [rz] [0] 0 (loopsOf (Try.f22.body.getD .skip))=true:=by kernel_rfl
theorem lpZC_22 {ρ:Rho} (h_rz:LoopOk Try.prog ρ Try.f22.ntmps rz_c rz):LpsOk Try.prog ρ Try.f22.ntmps [rz] (Try.f22.body.getD .skip) :=
 lps_idx [0] lpZC_22o (List.forall_mem_cons.2 ⟨look_list (c:=rz_c) (Ls:=[rz]) (by kernel_rfl) (List.forall_mem_cons.2 ⟨h_rz,List.forall_mem_nil _⟩),List.forall_mem_nil _⟩)
theorem lpZC_25o:othersB [r2] [0] 0 (loopsOf (Try.f25.body.getD .skip))=true:=by kernel_rfl
theorem lpZC_25 {ρ:Rho} (h_r2:LoopOk Try.prog ρ Try.f25.ntmps r2_c r2):LpsOk Try.prog ρ Try.f25.ntmps [r2] (Try.f25.body.getD .skip) :=
 lps_idx [0] lpZC_25o (List.forall_mem_cons.2 ⟨look_list (c:=r2_c) (Ls:=[r2]) (by kernel_rfl) (List.forall_mem_cons.2 ⟨h_r2,List.forall_mem_nil _⟩),List.forall_mem_nil _⟩)
theorem lpZC_ok {ρ:Rho} (h_nw:LoopOk Try.prog ρ Try.f9.ntmps nw_c nw) (h_dnX:LoopOk Try.prog ρ Try.f20.ntmps dnX_c dnX) (h_sp:LoopOk Try.prog ρ Try.f4.ntmps sp_c sp) (h_mnC:LoopOk Try.prog ρ Try.f4.ntmps mnC_c mnC) (h_rz:LoopOk Try.prog ρ Try.f22.ntmps rz_c rz) (h_r2:LoopOk Try.prog ρ Try.f25.ntmps r2_c r2):∀f i,btLook f ftsT=some i→LpsOk Try.prog ρ i.ntmps (lpZC f) i.body:=by
 intro f i h
 have hi:=fts_ok (f,i) (bt_of_mem _ _ (btLook_mem h))
 unfold lpZC
 split
 ·rename_i hf
  have hf:=Nat.eq_of_beq_eq_true hf
  subst hf
  exact lps_row hi Try.func9 (lpZC_9 h_nw)
 ·split
  ·rename_i hf
   have hf:=Nat.eq_of_beq_eq_true hf
   subst hf
   exact lps_row hi Try.func20 (lpZC_20 h_dnX)
  ·split
   ·rename_i hf
    have hf:=Nat.eq_of_beq_eq_true hf
    subst hf
    exact lps_row hi Try.func4 (lpZC_4 h_sp h_mnC)
   ·split
    ·rename_i hf
     have hf:=Nat.eq_of_beq_eq_true hf
     subst hf
     exact lps_row hi Try.func22 (lpZC_22 h_rz)
    ·split
     ·rename_i hf
      have hf:=Nat.eq_of_beq_eq_true hf
      subst hf
      exact lps_row hi Try.func25 (lpZC_25 h_r2)
     ·exact LpsOk.nil _ _ _ _
noncomputable def lpZD (f:Nat):List LoopX:=if Nat.beq f 9=true then [nw]else if Nat.beq f 20=true then [dnX]else if Nat.beq f 4=true then [sp,mnD]else if Nat.beq f 22=true then [rz]else if Nat.beq f 25=true then [r3]else []
theorem lpZD_9o:othersB [nw] [0] 0 (loopsOf (Try.f9.body.getD .skip))=true:=by kernel_rfl
theorem lpZD_9 {ρ:Rho} (h_nw:LoopOk Try.prog ρ Try.f9.ntmps nw_c nw):LpsOk Try.prog ρ Try.f9.ntmps [nw] (Try.f9.body.getD .skip) :=
 lps_idx [0] lpZD_9o (List.forall_mem_cons.2 ⟨look_list (c:=nw_c) (Ls:=[nw]) (by kernel_rfl) (List.forall_mem_cons.2 ⟨h_nw,List.forall_mem_nil _⟩),List.forall_mem_nil _⟩)
theorem lpZD_20o:othersB [dnX] [0] 0 (loopsOf (Try.f20.body.getD .skip))=true:=by kernel_rfl
theorem lpZD_20 {ρ:Rho} (h_dnX:LoopOk Try.prog ρ Try.f20.ntmps dnX_c dnX):LpsOk Try.prog ρ Try.f20.ntmps [dnX] (Try.f20.body.getD .skip) :=
 lps_idx [0] lpZD_20o (List.forall_mem_cons.2 ⟨look_list (c:=dnX_c) (Ls:=[dnX]) (by kernel_rfl) (List.forall_mem_cons.2 ⟨h_dnX,List.forall_mem_nil _⟩),List.forall_mem_nil _⟩)
theorem lpZD_4o:othersB [sp,mnD] [0,1] 0 (loopsOf (Try.f4.body.getD .skip))=true:=by kernel_rfl
theorem lpZD_4 {ρ:Rho} (h_sp:LoopOk Try.prog ρ Try.f4.ntmps sp_c sp) (h_mnD:LoopOk Try.prog ρ Try.f4.ntmps mnD_c mnD):LpsOk Try.prog ρ Try.f4.ntmps [sp,mnD] (Try.f4.body.getD .skip) :=
 lps_idx [0,1] lpZD_4o (List.forall_mem_cons.2 ⟨look_list (c:=sp_c) (Ls:=[sp]) (by kernel_rfl) (List.forall_mem_cons.2 ⟨h_sp,List.forall_mem_nil _⟩),List.forall_mem_cons.2 ⟨look_list (c:=mnD_c) (Ls:=[mnD]) (by kernel_rfl) (List.forall_mem_cons.2 ⟨h_mnD,List.forall_mem_nil _⟩),List.forall_mem_nil _⟩⟩)
theorem lpZD_22o:othersB [rz] [0] 0 (loopsOf (Try.f22.body.getD .skip))=true:=by kernel_rfl
theorem lpZD_22 {ρ:Rho} (h_rz:LoopOk Try.prog ρ Try.f22.ntmps rz_c rz):LpsOk Try.prog ρ Try.f22.ntmps [rz] (Try.f22.body.getD .skip) :=
 lps_idx [0] lpZD_22o (List.forall_mem_cons.2 ⟨look_list (c:=rz_c) (Ls:=[rz]) (by kernel_rfl) (List.forall_mem_cons.2 ⟨h_rz,List.forall_mem_nil _⟩),List.forall_mem_nil _⟩)
theorem lpZD_25o:othersB [r3] [0] 0 (loopsOf (Try.f25.body.getD .skip))=true:=by kernel_rfl
theorem lpZD_25 {ρ:Rho} (h_r3:LoopOk Try.prog ρ Try.f25.ntmps r3_c r3):LpsOk Try.prog ρ Try.f25.ntmps [r3] (Try.f25.body.getD .skip) :=
 lps_idx [0] lpZD_25o (List.forall_mem_cons.2 ⟨look_list (c:=r3_c) (Ls:=[r3]) (by kernel_rfl) (List.forall_mem_cons.2 ⟨h_r3,List.forall_mem_nil _⟩),List.forall_mem_nil _⟩)
theorem lpZD_ok {ρ:Rho} (h_nw:LoopOk Try.prog ρ Try.f9.ntmps nw_c nw) (h_dnX:LoopOk Try.prog ρ Try.f20.ntmps dnX_c dnX) (h_sp:LoopOk Try.prog ρ Try.f4.ntmps sp_c sp) (h_mnD:LoopOk Try.prog ρ Try.f4.ntmps mnD_c mnD) (h_rz:LoopOk Try.prog ρ Try.f22.ntmps rz_c rz) (h_r3:LoopOk Try.prog ρ Try.f25.ntmps r3_c r3):∀f i,btLook f ftsT=some i→LpsOk Try.prog ρ i.ntmps (lpZD f) i.body:=by
 intro f i h
 have hi:=fts_ok (f,i) (bt_of_mem _ _ (btLook_mem h))
 unfold lpZD
 split
 ·rename_i hf
  have hf:=Nat.eq_of_beq_eq_true hf
  subst hf
  exact lps_row hi Try.func9 (lpZD_9 h_nw)
 ·split
  ·rename_i hf
   have hf:=Nat.eq_of_beq_eq_true hf
   subst hf
   exact lps_row hi Try.func20 (lpZD_20 h_dnX)
  ·split
   ·rename_i hf
    have hf:=Nat.eq_of_beq_eq_true hf
    subst hf
    exact lps_row hi Try.func4 (lpZD_4 h_sp h_mnD)
   ·split
    ·rename_i hf
     have hf:=Nat.eq_of_beq_eq_true hf
     subst hf
     exact lps_row hi Try.func22 (lpZD_22 h_rz)
    ·split
     ·rename_i hf
      have hf:=Nat.eq_of_beq_eq_true hf
      subst hf
      exact lps_row hi Try.func25 (lpZD_25 h_r3)
     ·exact LpsOk.nil _ _ _ _
noncomputable def lpSq (f:Nat):List LoopX:=if Nat.beq f 4=true then [sq]else []
theorem lpSq_4o:othersB [sq] [0] 0 (loopsOf (Try.f4.body.getD .skip))=true:=by kernel_rfl
theorem lpSq_4 {ρ:Rho} (h_sq:LoopOk Try.prog ρ Try.f4.ntmps sq_c sq):LpsOk Try.prog ρ Try.f4.ntmps [sq] (Try.f4.body.getD .skip) :=
 lps_idx [0] lpSq_4o (List.forall_mem_cons.2 ⟨look_list (c:=sq_c) (Ls:=[sq]) (by kernel_rfl) (List.forall_mem_cons.2 ⟨h_sq,List.forall_mem_nil _⟩),List.forall_mem_nil _⟩)
theorem lpSq_ok {ρ:Rho} (h_sq:LoopOk Try.prog ρ Try.f4.ntmps sq_c sq):∀f i,btLook f ftsT=some i→LpsOk Try.prog ρ i.ntmps (lpSq f) i.body:=by
 intro f i h
 have hi:=fts_ok (f,i) (bt_of_mem _ _ (btLook_mem h))
 unfold lpSq
 split
 ·rename_i hf
  have hf:=Nat.eq_of_beq_eq_true hf
  subst hf
  exact lps_row hi Try.func4 (lpSq_4 h_sq)
 ·exact LpsOk.nil _ _ _ _
noncomputable def lpSb (f:Nat):List LoopX:=if Nat.beq f 20=true then [dnB]else if Nat.beq f 4=true then [sq]else []
theorem lpSb_20o:othersB [dnB] [0] 0 (loopsOf (Try.f20.body.getD .skip))=true:=by kernel_rfl
theorem lpSb_20 {ρ:Rho} (h_dnB:LoopOk Try.prog ρ Try.f20.ntmps dnB_c dnB):LpsOk Try.prog ρ Try.f20.ntmps [dnB] (Try.f20.body.getD .skip) :=
 lps_idx [0] lpSb_20o (List.forall_mem_cons.2 ⟨look_list (c:=dnB_c) (Ls:=[dnB]) (by kernel_rfl) (List.forall_mem_cons.2 ⟨h_dnB,List.forall_mem_nil _⟩),List.forall_mem_nil _⟩)
theorem lpSb_4o:othersB [sq] [0] 0 (loopsOf (Try.f4.body.getD .skip))=true:=by kernel_rfl
theorem lpSb_4 {ρ:Rho} (h_sq:LoopOk Try.prog ρ Try.f4.ntmps sq_c sq):LpsOk Try.prog ρ Try.f4.ntmps [sq] (Try.f4.body.getD .skip) :=
 lps_idx [0] lpSb_4o (List.forall_mem_cons.2 ⟨look_list (c:=sq_c) (Ls:=[sq]) (by kernel_rfl) (List.forall_mem_cons.2 ⟨h_sq,List.forall_mem_nil _⟩),List.forall_mem_nil _⟩)
theorem lpSb_ok {ρ:Rho} (h_dnB:LoopOk Try.prog ρ Try.f20.ntmps dnB_c dnB) (h_sq:LoopOk Try.prog ρ Try.f4.ntmps sq_c sq):∀f i,btLook f ftsT=some i→LpsOk Try.prog ρ i.ntmps (lpSb f) i.body:=by
 intro f i h
 have hi:=fts_ok (f,i) (bt_of_mem _ _ (btLook_mem h))
 unfold lpSb
 split
 ·rename_i hf
  have hf:=Nat.eq_of_beq_eq_true hf
  subst hf
  exact lps_row hi Try.func20 (lpSb_20 h_dnB)
 ·split
  ·rename_i hf
   have hf:=Nat.eq_of_beq_eq_true hf
   subst hf
   exact lps_row hi Try.func4 (lpSb_4 h_sq)
  ·exact LpsOk.nil _ _ _ _
def ksM1:List (Nat×List X×X):=[(8,[kyR,anR],.sc (.b (.lit true)))]
def k8F:Nat×List X×X:=(8,[kyR,anR],.sc (.b (.lit false)))
def ksR1:List (Nat×List X×X):=[k8F,(31,[.agg (vi 0 9)],.sc (.b (.lit false))),(41,[.agg (vi 0 9)],.sc (.b (.lit false)))]
def ksR2:List (Nat×List X×X):=[k8F,(31,[.agg (vi 0 9)],.sc (.b (.lit true))),(41,[.agg (vi 0 9)],.sc (.b (.lit true)))]
def ksR3':List (Nat×List X×X):=(32,[kyA],.sc (.b (.lit false)))::ksR2
def ksZ:List (Nat×List X×X):=(24,rsQ,.sc (.b (.lit true)))::ksN
def endF:Facts:=[(.seq (.cl 493 0 (.len 2)) (.lit ⟨#[120,55]⟩),true)]
def eaF:Facts:=[(.lt (.lit 0) (.var 503),true),(.var 530,false),(.lt (.var 502) (.lit 0),false),(.lt (.lit 6) (.var 502),false),(.lt (.lit 6) (.var 503),false),(.eq (.len 505) (.op .padd .i64 (.var 502) (.var 503)),true),(.lt (.var 507) (.lit 0),false),(.lt (.lit 6) (.var 507),false),(.lt (.var 508) (.lit 0),false),(.lt (.lit 6) (.var 508),false),(.eq (.len 509) (.op .padd .i64 (.var 507) (.var 508)),true)]
def plM:T X:=(.ret (.sc (.b (.lit true))))
theorem plM_run:askF ⟨cfgL ksM1 (fun _=>[]),l_able,[20009,20,33,37,58,10010,10011,10013,10014,10023,10021,20025]⟩ 4 (plA) []=plM:=by kernel_rfl
def plR1:T X:=(.need (.and (.not (.lt (.lit 8796093022208) (.len 2))) (.not (.lt (.lit 8796093022208) (.op .padd .i64 (.len 2) (.lit 1))))) zTM23_52)
theorem plR1_run:askF ⟨cfgL ksR1 lpSq,l_able,[20009,20,33,37,58,10010,10011,10013,10014,10023,10021,20025]⟩ 4 (plA) endF=plR1:=by kernel_rfl
def plR2:T X:=(.need (.and (.not (.lt (.lit 8796093022208) (.len 2))) (.not (.lt (.lit 8796093022208) (.op .padd .i64 (.len 2) (.lit 1))))) zTM23_52)
theorem plR2_run:askF ⟨cfgL ksR2 lpSq,l_able,[20009,20,33,37,58,10010,10011,10013,10014,10023,10021,20025]⟩ 4 (plA) ((.lt (.var 9) (.lit 1),true)::endF)=plR2:=by kernel_rfl
def plR3:T X:=(.need (.and (.not (.lt (.lit 8796093022208) (.len 2))) (.not (.lt (.lit 8796093022208) (.op .padd .i64 (.len 2) (.lit 1))))) zTM23_52)
theorem plR3_run:askF ⟨cfgL ksR2 lpSq,l_able,[20009,20,33,37,58,10010,10011,10013,10014,10023,10021,20025]⟩ 4 (plA) ((.lt (.lit 3) (.var 9),true)::endF)=plR3:=by kernel_rfl
def plR4:T X:=(.ret (.sc (.b (.lit true))))
theorem plR4_run:askF ⟨cfgL ksR3' lpSq,l_able,[20009,20,33,37,58,10010,10011,10013,10014,10023,10021,20025]⟩ 4 (plA) ((.lt (.var 9) (.lit 1),false)::(.lt (.lit 3) (.var 9),false)::(.lt (.len 2) (.lit 1),true)::endF)=plR4:=by kernel_rfl
def plR5:T X:=(.need (.and (.not (.lt (.lit 8796093022208) (.len 2))) (.not (.lt (.lit 8796093022208) (.op .padd .i64 (.len 2) (.lit 1))))) zTM23_52)
theorem plR5_run:askF ⟨cfgL ksR3' lpSq,l_able,[20009,20,33,37,58,10010,10011,10013,10014,10023,10021,20025]⟩ 4 (plA) ((.lt (.var 9) (.lit 1),false)::(.lt (.lit 3) (.var 9),false)::(.lt (.lit 6) (.len 2),true)::endF)=plR5:=by kernel_rfl
def plR6:T X:=(.ret (.sc (.b (.lit true))))
theorem plR6_run:askF ⟨cfgL ksR3' lpSb,l_able,[20009,20,33,37,58,10010,10011,10013,10014,10023,10021,20025]⟩ 4 (plA) ((.lt (.var 9) (.lit 1),false)::(.lt (.lit 3) (.var 9),false)::(.lt (.len 2) (.lit 1),false)::(.lt (.lit 6) (.len 2),false)::endF)=plR6:=by kernel_rfl
def plA1:T X:=(.need (.and zTM23_53 zTM23_54) zTM23_52)
theorem plA1_run:askF ⟨cfgL ksN lpZA,l_able,[20009,20,33,37,58,10010,10011,10013,10014,10023,10021,20025]⟩ 4 (plA) (eaF++(endF++nrF))=plA1:=by kernel_rfl
def plB1:T X:=(.need zTM23_55 zTM23_52)
theorem plB1_run:askF ⟨cfgL ksN lpZB,l_able,[20009,20,33,37,58,10010,10011,10013,10014,10023,10021,20025]⟩ 4 (plA) ((.var 530,true)::(.eq (.var 532) (.lit 60),true)::(.eq (.var 531) (.lit 60),true)::mnF.drop 2++(endF++nrF))=plB1:=by kernel_rfl
def plC1:T X:=(.need (.and zTM23_53 zTM23_55) zTM23_52)
theorem plC1_run:askF ⟨cfgL ksZ lpZC,l_able,[20009,20,33,37,58,10010,10011,10013,10014,10023,10021,20025]⟩ 4 (plA) ((.lt (.lit 0) (.var 503),false)::(.lt (.var 503) (.lit 0),false)::(.var 530,true)::(.eq (.var 531) (.lit 0),true)::dzF++(mnF.drop 2++lnT)++(endF++nrF))=plC1:=by kernel_rfl
def plD1:T X:=(.need (.not (.lt (.len 505) (.op .padd .i64 (.var 502) (.var 503)))) (.ret (.sc (.b (.lit true)))))
theorem plD1_run:askF ⟨cfgL ksZ lpZD,l_able,[20009,20,33,37,58,10010,10011,10013,10014,10023,10021,20025]⟩ 4 (plA) ((.lt (.lit 0) (.var 503),false)::(.lt (.var 503) (.lit 0),false)::(.var 530,true)::(.eq (.var 531) (.lit 0),true)::dzF++(mnF.drop 2++lnT)++(endF++nrF))=plD1:=by kernel_rfl
end Go.Proofs.Ytdlifdoglhhnfaa
