/- Parts of the proof, one behind the other. -/
import Derived.Test.YtdlifdoglhhnfaaTM1
import Derived.Test.YtdlifdoglhhnfaaTM12
import Derived.Test.YtdlifdoglhhnfaaTM13
import Derived.Test.YtdlifdoglhhnfaaXwM3
namespace Go.Proofs.Ytdlifdoglhhnfaa
open Go Go.Proofs.Aw Go.Proofs.Xw
set_option maxRecDepth 100000
def tnP:Facts:=[(.lt (.len 2) (.lit 1),false),(.lt (.lit 6) (.len 2),false),(.lt (.cl 505 0 (.var 502)) (.lit 0),false),(.lt (.cl 505 0 (.var 502)) (.len 2),true),(.eq (.var 519) (.lit 1),true),(.eq (.var 503) (.lit 1),true),(.lt (.var 502) (.lit 0),false),(.lt (.lit 6) (.var 502),false),(.eq (.len 505) (.op .padd .i64 (.var 502) (.var 503)),true)]
noncomputable def t1_c:Code:=(loopsOf (Try.f34.body.getD .skip))[0]?.getD .skip
abbrev zTM14_0:X := .slv (19,2) 25 (.lit 0) (.len 2) true
abbrev zTM14_1:X := .ptr (19,0) [] 0
abbrev zTM14_2:XTp:=[(11,(.sc (.i .i64 (.var 601)))),(10,(.sc (.i .i64 (.len 2)))),(9,zTM14_0),(8,(.ptr (19,0) [] 20)),(7,zTM14_1),(6,zTM14_1),(0,zTM14_1)]
abbrev zTM14_3:X := .slv (19,1) 1 (.lit 0) (.len 2) true
abbrev zTM14_4:X := .slv (19,3) 1 (.op .padd .i64 (.var 502) (.lit 1)) (.op .psub .i64 (.var 503) (.lit 1)) true
abbrev zTM14_5:List X:=[(.rows 1 (.len 2) (.app (.len 2) (.var 2 [.s]) (.one [(.s (.lit ⟨#[120,55]⟩))])))]
abbrev zTM14_6:List Kd:=[(.i .i64),.b,(.i .i64),(.i .i64),(.i .i64),(.i .i64),(.i .i64),(.i .i64),.s,.s,.b,(.i .i64),(.i .i64),(.i .i64),(.i .i64),(.i .i64),(.i .i64),(.i .i64),(.i .i64),(.i .i64),(.i .i64),(.i .i64),(.i .i64),(.i .i64),(.i .i64)]
abbrev zTM14_7:List X:=[(.rows 25 (.len 2) (.var 600 zTM14_6))]
abbrev zTM14_8:List X:=[(.rows 1 (.len 505) (.var 505 [(.i .i64)]))]
abbrev zTM14_9:XHp:=[((19,0),[(.sc (.i .i64 (.var 0))),(.sc (.i .i64 (.var 1))),(.sc (.i .i64 (.var 2))),(.sc (.i .i64 (.var 3))),(.sc (.i .i64 (.var 4))),(.sc (.i .i64 (.var 5))),(.sc (.i .i64 (.var 6))),(.sc (.i .i64 (.var 7))),(.sc (.i .i64 (.var 8))),(.sc (.i .i64 (.var 602))),(.sc (.i .i64 (.var 603))),(.sc (.i .i64 (.var 604))),(.sc (.i .i64 (.var 605))),(.sc (.i .i64 (.var 606))),(.sc (.i .i64 (.var 607))),(.sc (.i .i64 (.var 608))),(.sc (.i .i64 (.var 609))),(.sc (.i .i64 (.var 610))),(.sc (.i .i64 (.var 9))),zTM14_3,zTM14_0,zTM14_4,(.sc (.i .i64 (.var 519))),(.sc (.i .i64 (.lit 0)))]),((19,1),zTM14_5),((19,2),zTM14_7),((19,3),zTM14_8)]
abbrev zTM14_10:IE := .op .add .i64 (.var 601) (.lit 1)
abbrev zTM14_11:BE := .cl 600 1 (.var 601)
abbrev zTM14_12:IE := .cl 600 2 (.var 601)
abbrev zTM14_13:IE := .cl 600 3 (.var 601)
abbrev zTM14_14:BE := .and (.and (.and (.not (.lt zTM14_12 (.lit 0))) (.lt zTM14_12 (.lit 3))) (.not (.lt zTM14_13 (.lit 0)))) (.lt zTM14_13 (.lit 3))
abbrev zTM14_15:BE := .eq zTM14_12 (.lit 0)
abbrev zTM14_16:BE := .eq zTM14_13 (.lit 0)
abbrev zTM14_17:BE := .and zTM14_15 zTM14_16
abbrev zTM14_18:IE := .op .max .i64 (.lit 0) (.cl 600 11 (.var 601))
abbrev zTM14_19:BE := .eq zTM14_13 (.lit 1)
abbrev zTM14_20:BE := .and zTM14_15 zTM14_19
abbrev zTM14_21:IE := .op .max .i64 (.lit 0) (.cl 600 12 (.var 601))
abbrev zTM14_22:IE := .op .max .i64 (.lit 0) (.cl 600 13 (.var 601))
abbrev zTM14_23:BE := .eq zTM14_12 (.lit 1)
abbrev zTM14_24:BE := .and zTM14_23 zTM14_16
abbrev zTM14_25:IE := .op .max .i64 (.lit 0) (.cl 600 14 (.var 601))
abbrev zTM14_26:BE := .and zTM14_23 zTM14_19
abbrev zTM14_27:IE := .op .max .i64 (.lit 0) (.cl 600 15 (.var 601))
abbrev zTM14_28:IE := .op .max .i64 (.lit 0) (.cl 600 16 (.var 601))
abbrev zTM14_29:IE := .op .max .i64 (.lit 0) (.cl 600 17 (.var 601))
abbrev zTM14_30:IE := .op .max .i64 (.lit 0) (.cl 600 18 (.var 601))
abbrev zTM14_31:IE := .op .max .i64 (.lit 0) (.cl 600 19 (.var 601))
abbrev zTM14_32:IE := .op .max .i64 (.ite zTM14_17 zTM14_18 (.ite zTM14_20 zTM14_21 (.ite zTM14_15 zTM14_22 (.ite zTM14_24 zTM14_25 (.ite zTM14_26 zTM14_27 (.ite zTM14_23 zTM14_28 (.ite zTM14_16 zTM14_29 (.ite zTM14_19 zTM14_30 zTM14_31)))))))) (.cl 600 4 (.var 601))
abbrev zTM14_33:IE := .ite zTM14_11 (.op .max .i64 (.op .max .i64 (.lit 0) (.var 602)) (.ite zTM14_14 (.ite zTM14_17 zTM14_32 zTM14_18) zTM14_18)) (.var 602)
abbrev zTM14_34:IE := .ite zTM14_11 (.op .max .i64 (.op .max .i64 (.lit 0) (.var 603)) (.ite zTM14_14 (.ite zTM14_17 zTM14_21 (.ite zTM14_20 zTM14_32 zTM14_21)) zTM14_21)) (.var 603)
abbrev zTM14_35:IE := .ite zTM14_11 (.op .max .i64 (.op .max .i64 (.lit 0) (.var 604)) (.ite zTM14_14 (.ite zTM14_17 zTM14_22 (.ite zTM14_20 zTM14_22 (.ite zTM14_15 zTM14_32 zTM14_22))) zTM14_22)) (.var 604)
abbrev zTM14_36:IE := .ite zTM14_11 (.op .max .i64 (.op .max .i64 (.lit 0) (.var 605)) (.ite zTM14_14 (.ite zTM14_17 zTM14_25 (.ite zTM14_20 zTM14_25 (.ite zTM14_15 zTM14_25 (.ite zTM14_24 zTM14_32 zTM14_25)))) zTM14_25)) (.var 605)
abbrev zTM14_37:IE := .ite zTM14_11 (.op .max .i64 (.op .max .i64 (.lit 0) (.var 606)) (.ite zTM14_14 (.ite zTM14_17 zTM14_27 (.ite zTM14_20 zTM14_27 (.ite zTM14_15 zTM14_27 (.ite zTM14_24 zTM14_27 (.ite zTM14_26 zTM14_32 zTM14_27))))) zTM14_27)) (.var 606)
abbrev zTM14_38:IE := .ite zTM14_11 (.op .max .i64 (.op .max .i64 (.lit 0) (.var 607)) (.ite zTM14_14 (.ite zTM14_17 zTM14_28 (.ite zTM14_20 zTM14_28 (.ite zTM14_15 zTM14_28 (.ite zTM14_24 zTM14_28 (.ite zTM14_26 zTM14_28 (.ite zTM14_23 zTM14_32 zTM14_28)))))) zTM14_28)) (.var 607)
abbrev zTM14_39:IE := .ite zTM14_11 (.op .max .i64 (.op .max .i64 (.lit 0) (.var 608)) (.ite zTM14_14 (.ite zTM14_17 zTM14_29 (.ite zTM14_20 zTM14_29 (.ite zTM14_15 zTM14_29 (.ite zTM14_24 zTM14_29 (.ite zTM14_26 zTM14_29 (.ite zTM14_23 zTM14_29 (.ite zTM14_16 zTM14_32 zTM14_29))))))) zTM14_29)) (.var 608)
abbrev zTM14_40:IE := .ite zTM14_11 (.op .max .i64 (.op .max .i64 (.lit 0) (.var 609)) (.ite zTM14_14 (.ite zTM14_17 zTM14_30 (.ite zTM14_20 zTM14_30 (.ite zTM14_15 zTM14_30 (.ite zTM14_24 zTM14_30 (.ite zTM14_26 zTM14_30 (.ite zTM14_23 zTM14_30 (.ite zTM14_16 zTM14_30 (.ite zTM14_19 zTM14_32 zTM14_30)))))))) zTM14_30)) (.var 609)
abbrev zTM14_41:IE := .ite zTM14_11 (.op .max .i64 (.op .max .i64 (.lit 0) (.var 610)) (.ite zTM14_14 (.ite zTM14_17 zTM14_31 (.ite zTM14_20 zTM14_31 (.ite zTM14_15 zTM14_31 (.ite zTM14_24 zTM14_31 (.ite zTM14_26 zTM14_31 (.ite zTM14_23 zTM14_31 (.ite zTM14_16 zTM14_31 (.ite zTM14_19 zTM14_31 zTM14_32)))))))) zTM14_31)) (.var 610)
def t1_S:XS:=⟨zTM14_2,zTM14_9,228⟩
def t1_Φ:Facts:=((.lt (.var 601) (.lit 0),false)::tnP)
def t1_b:Bind:=⟨[(601,zTM14_10),(602,zTM14_33),(603,zTM14_34),(604,zTM14_35),(605,zTM14_36),(606,zTM14_37),(607,zTM14_38),(608,zTM14_39),(609,zTM14_40),(610,zTM14_41)],[],[],[(600,(.len 2),(.var 600 zTM14_6))]⟩
def t1_i:Bind:=⟨[(601,(.lit 0)),(602,(.var 510)),(603,(.var 511)),(604,(.var 512)),(605,(.var 513)),(606,(.var 514)),(607,(.var 515)),(608,(.var 516)),(609,(.var 517)),(610,(.var 518))],[],[],[(600,(.len 2),(.upd (.cl 505 0 (.var 502)) [(.i .i64 (.cl 3 0 (.var 500))),(.b (.cl 3 1 (.var 500))),(.i .i64 (.cl 3 2 (.var 500))),(.i .i64 (.cl 3 3 (.var 500))),(.i .i64 (.cl 3 4 (.var 500))),(.i .i64 (.cl 3 5 (.var 500))),(.i .i64 (.cl 3 6 (.var 500))),(.i .i64 (.cl 3 7 (.var 500))),(.s (.cl 3 8 (.var 500))),(.s (.cl 3 9 (.var 500))),(.b (.cl 3 10 (.var 500))),(.i .i64 (.cl 3 11 (.var 500))),(.i .i64 (.cl 3 12 (.var 500))),(.i .i64 (.cl 3 13 (.var 500))),(.i .i64 (.cl 3 14 (.var 500))),(.i .i64 (.cl 3 15 (.var 500))),(.i .i64 (.cl 3 16 (.var 500))),(.i .i64 (.cl 3 17 (.var 500))),(.i .i64 (.cl 3 18 (.var 500))),(.i .i64 (.cl 3 19 (.var 500))),(.i .i64 (.cl 3 20 (.var 500))),(.i .i64 (.cl 3 21 (.var 500))),(.i .i64 (.cl 3 22 (.var 500))),(.i .i64 (.cl 3 23 (.var 500))),(.i .i64 (.cl 3 24 (.var 500)))] (.var 504 zTM14_6)))]⟩
def t1_t:T (XE×XS):=(.br (.lt (.var 601) (.len 2)) (.ret (.normal,⟨[(11,(.sc (.i .i64 zTM14_10))),(10,(.sc (.i .i64 (.len 2)))),(9,zTM14_0),(8,(.ptr (19,0) [] 20)),(7,zTM14_1),(6,zTM14_1),(0,zTM14_1)],[((19,0),[(.sc (.i .i64 (.var 0))),(.sc (.i .i64 (.var 1))),(.sc (.i .i64 (.var 2))),(.sc (.i .i64 (.var 3))),(.sc (.i .i64 (.var 4))),(.sc (.i .i64 (.var 5))),(.sc (.i .i64 (.var 6))),(.sc (.i .i64 (.var 7))),(.sc (.i .i64 (.var 8))),(.sc (.i .i64 zTM14_33)),(.sc (.i .i64 zTM14_34)),(.sc (.i .i64 zTM14_35)),(.sc (.i .i64 zTM14_36)),(.sc (.i .i64 zTM14_37)),(.sc (.i .i64 zTM14_38)),(.sc (.i .i64 zTM14_39)),(.sc (.i .i64 zTM14_40)),(.sc (.i .i64 zTM14_41)),(.sc (.i .i64 (.var 9))),zTM14_3,zTM14_0,zTM14_4,(.sc (.i .i64 (.var 519))),(.sc (.i .i64 (.lit 0)))]),((19,1),zTM14_5),((19,2),zTM14_7),((19,3),zTM14_8),((231,0),[(.sc (.i .i64 (.cl 600 0 (.var 601)))),(.sc (.b zTM14_11)),(.sc (.i .i64 zTM14_12)),(.sc (.i .i64 zTM14_13)),(.sc (.i .i64 (.cl 600 4 (.var 601)))),(.sc (.i .i64 (.cl 600 5 (.var 601)))),(.sc (.i .i64 (.cl 600 6 (.var 601)))),(.sc (.i .i64 (.cl 600 7 (.var 601)))),(.sc (.s (.cl 600 8 (.var 601)))),(.sc (.s (.cl 600 9 (.var 601)))),(.sc (.b (.cl 600 10 (.var 601)))),(.sc (.i .i64 (.cl 600 11 (.var 601)))),(.sc (.i .i64 (.cl 600 12 (.var 601)))),(.sc (.i .i64 (.cl 600 13 (.var 601)))),(.sc (.i .i64 (.cl 600 14 (.var 601)))),(.sc (.i .i64 (.cl 600 15 (.var 601)))),(.sc (.i .i64 (.cl 600 16 (.var 601)))),(.sc (.i .i64 (.cl 600 17 (.var 601)))),(.sc (.i .i64 (.cl 600 18 (.var 601)))),(.sc (.i .i64 (.cl 600 19 (.var 601)))),(.sc (.i .i64 (.cl 600 20 (.var 601)))),(.sc (.i .i64 (.cl 600 21 (.var 601)))),(.sc (.i .i64 (.cl 600 22 (.var 601)))),(.sc (.i .i64 (.cl 600 23 (.var 601)))),(.sc (.i .i64 (.cl 600 24 (.var 601))))])],251⟩)) (.ret ((.exit 0),⟨zTM14_2,zTM14_9,229⟩)))
noncomputable def t1:LoopX:=⟨((codeKey t1_c).getD 0),222,600,t1_S,t1_i,[],t1_t.outs⟩
theorem t1_run:(codeX (cfgL ([]) (fun _=>[])).ti (callS ⟨(cfgL ([]) (fun _=>[])),l_able,[20009,20,33,37,58,10010,10011,10013,10014,10023,10021,20025]⟩ 12) (((cfgL ([]) (fun _=>[])).ft 34).elim [] (·.ms)) t1.k0 ((fun _=>[]) 34) 1000 t1_c t1_Φ t1.S).map (sqz (t1_S.t.map (·.1)))=t1_t:=by kernel_rfl
theorem t1_back:t1_t.nrm (okS t1.k0 t1.n t1_b [] t1.S)=true:=by kernel_rfl
theorem t1_bel:t1_t.outs.belX 611=true:=by kernel_rfl
theorem t1_ib:t1_i.bel 600=true:=by kernel_rfl
theorem t1_ig:t1_i.ge 600=true:=by kernel_rfl
theorem t1_bg:t1_b.ge 600=true:=by kernel_rfl
theorem t1_same:t1_i.same t1_b=true:=by kernel_rfl
theorem t1_fits:fitsC Try.f34.ntmps t1_c=true:=by kernel_rfl
end Go.Proofs.Ytdlifdoglhhnfaa
