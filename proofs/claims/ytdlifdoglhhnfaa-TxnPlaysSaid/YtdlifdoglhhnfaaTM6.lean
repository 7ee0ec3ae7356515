/- Parts of the proof, one behind the other. -/
import Derived.Test.YtdlifdoglhhnfaaTM1
import Derived.Test.YtdlifdoglhhnfaaTM5
import Derived.Test.YtdlifdoglhhnfaaXwM3
namespace Go.Proofs.Ytdlifdoglhhnfaa
open Go Go.Proofs.Aw Go.Proofs.Xw
set_option maxRecDepth 100000
def pfA:List X:=[.rl 20 (.len 641) (.var 641 ke) false]
def pfP:Facts:=[(.lt (.lit 6) (.len 641),false)]
noncomputable def pf_c:Code:=(loopsOf (Try.f43.body.getD .skip))[0]?.getD .skip
abbrev zTM6_0:X := .rl 20 (.len 641) (.var 641 [(.i .i64),(.i .i64),(.i .i64),(.i .i64),(.i .i64),(.i .i64),.s,.s,.b,(.i .i64),(.i .i64),(.i .i64),(.i .i64),(.i .i64),(.i .i64),(.i .i64),(.i .i64),(.i .i64),(.i .i64),(.i .i64)]) false
abbrev zTM6_1:XTp:=[(4,(.sc (.i .i64 (.var 680)))),(3,(.ptr (1,0) [] 0)),(2,(.ptr (0,0) [] 0)),(0,zTM6_0)]
abbrev zTM6_2:X := .sc (.i .i64 (.lit 0))
abbrev zTM6_3:List X:=[zTM6_2,zTM6_2,zTM6_2,zTM6_2,zTM6_2,zTM6_2,zTM6_2,zTM6_2,zTM6_2]
abbrev zTM6_4:XHp:=[((0,0),zTM6_3),((1,0),[(.sc (.i .i64 (.var 681))),(.sc (.i .i64 (.var 682))),(.sc (.i .i64 (.var 683))),(.sc (.i .i64 (.var 684))),(.sc (.i .i64 (.var 685))),(.sc (.i .i64 (.var 686))),(.sc (.i .i64 (.var 687))),(.sc (.i .i64 (.var 688))),(.sc (.i .i64 (.var 689)))])]
abbrev zTM6_5:IE := .op .add .i64 (.var 680) (.lit 1)
abbrev zTM6_6:IE := .cl 641 0 (.var 680)
abbrev zTM6_7:IE := .cl 641 1 (.var 680)
abbrev zTM6_8:BE := .and (.and (.and (.not (.lt zTM6_6 (.lit 0))) (.lt zTM6_6 (.lit 3))) (.not (.lt zTM6_7 (.lit 0)))) (.lt zTM6_7 (.lit 3))
abbrev zTM6_9:BE := .eq zTM6_6 (.lit 0)
abbrev zTM6_10:BE := .eq zTM6_7 (.lit 0)
abbrev zTM6_11:BE := .and zTM6_9 zTM6_10
abbrev zTM6_12:IE := .op .max .i64 (.op .max .i64 (.lit 0) (.var 681)) (.cl 641 9 (.var 680))
abbrev zTM6_13:BE := .eq zTM6_7 (.lit 1)
abbrev zTM6_14:BE := .and zTM6_9 zTM6_13
abbrev zTM6_15:IE := .op .max .i64 (.op .max .i64 (.lit 0) (.var 682)) (.cl 641 10 (.var 680))
abbrev zTM6_16:IE := .op .max .i64 (.op .max .i64 (.lit 0) (.var 683)) (.cl 641 11 (.var 680))
abbrev zTM6_17:BE := .eq zTM6_6 (.lit 1)
abbrev zTM6_18:BE := .and zTM6_17 zTM6_10
abbrev zTM6_19:IE := .op .max .i64 (.op .max .i64 (.lit 0) (.var 684)) (.cl 641 12 (.var 680))
abbrev zTM6_20:BE := .and zTM6_17 zTM6_13
abbrev zTM6_21:IE := .op .max .i64 (.op .max .i64 (.lit 0) (.var 685)) (.cl 641 13 (.var 680))
abbrev zTM6_22:IE := .op .max .i64 (.op .max .i64 (.lit 0) (.var 686)) (.cl 641 14 (.var 680))
abbrev zTM6_23:IE := .op .max .i64 (.op .max .i64 (.lit 0) (.var 687)) (.cl 641 15 (.var 680))
abbrev zTM6_24:IE := .op .max .i64 (.op .max .i64 (.lit 0) (.var 688)) (.cl 641 16 (.var 680))
abbrev zTM6_25:IE := .op .max .i64 (.op .max .i64 (.lit 0) (.var 689)) (.cl 641 17 (.var 680))
abbrev zTM6_26:IE := .op .max .i64 (.ite zTM6_11 zTM6_12 (.ite zTM6_14 zTM6_15 (.ite zTM6_9 zTM6_16 (.ite zTM6_18 zTM6_19 (.ite zTM6_20 zTM6_21 (.ite zTM6_17 zTM6_22 (.ite zTM6_10 zTM6_23 (.ite zTM6_13 zTM6_24 zTM6_25)))))))) (.cl 641 2 (.var 680))
abbrev zTM6_27:IE := .ite zTM6_8 (.ite zTM6_11 zTM6_26 zTM6_12) zTM6_12
abbrev zTM6_28:IE := .ite zTM6_8 (.ite zTM6_11 zTM6_15 (.ite zTM6_14 zTM6_26 zTM6_15)) zTM6_15
abbrev zTM6_29:IE := .ite zTM6_8 (.ite zTM6_11 zTM6_16 (.ite zTM6_14 zTM6_16 (.ite zTM6_9 zTM6_26 zTM6_16))) zTM6_16
abbrev zTM6_30:IE := .ite zTM6_8 (.ite zTM6_11 zTM6_19 (.ite zTM6_14 zTM6_19 (.ite zTM6_9 zTM6_19 (.ite zTM6_18 zTM6_26 zTM6_19)))) zTM6_19
abbrev zTM6_31:IE := .ite zTM6_8 (.ite zTM6_11 zTM6_21 (.ite zTM6_14 zTM6_21 (.ite zTM6_9 zTM6_21 (.ite zTM6_18 zTM6_21 (.ite zTM6_20 zTM6_26 zTM6_21))))) zTM6_21
abbrev zTM6_32:IE := .ite zTM6_8 (.ite zTM6_11 zTM6_22 (.ite zTM6_14 zTM6_22 (.ite zTM6_9 zTM6_22 (.ite zTM6_18 zTM6_22 (.ite zTM6_20 zTM6_22 (.ite zTM6_17 zTM6_26 zTM6_22)))))) zTM6_22
abbrev zTM6_33:IE := .ite zTM6_8 (.ite zTM6_11 zTM6_23 (.ite zTM6_14 zTM6_23 (.ite zTM6_9 zTM6_23 (.ite zTM6_18 zTM6_23 (.ite zTM6_20 zTM6_23 (.ite zTM6_17 zTM6_23 (.ite zTM6_10 zTM6_26 zTM6_23))))))) zTM6_23
abbrev zTM6_34:IE := .ite zTM6_8 (.ite zTM6_11 zTM6_24 (.ite zTM6_14 zTM6_24 (.ite zTM6_9 zTM6_24 (.ite zTM6_18 zTM6_24 (.ite zTM6_20 zTM6_24 (.ite zTM6_17 zTM6_24 (.ite zTM6_10 zTM6_24 (.ite zTM6_13 zTM6_26 zTM6_24)))))))) zTM6_24
abbrev zTM6_35:IE := .ite zTM6_8 (.ite zTM6_11 zTM6_25 (.ite zTM6_14 zTM6_25 (.ite zTM6_9 zTM6_25 (.ite zTM6_18 zTM6_25 (.ite zTM6_20 zTM6_25 (.ite zTM6_17 zTM6_25 (.ite zTM6_10 zTM6_25 (.ite zTM6_13 zTM6_25 zTM6_26)))))))) zTM6_25
def pf_S:XS:=⟨zTM6_1,zTM6_4,3⟩
def pf_Φ:Facts:=((.lt (.var 680) (.lit 0),false)::pfP)
def pf_b:Bind:=⟨[(680,zTM6_5),(681,zTM6_27),(682,zTM6_28),(683,zTM6_29),(684,zTM6_30),(685,zTM6_31),(686,zTM6_32),(687,zTM6_33),(688,zTM6_34),(689,zTM6_35)],[],[],[]⟩
def pf_i:Bind:=⟨[(680,(.lit 0)),(681,(.lit 0)),(682,(.lit 0)),(683,(.lit 0)),(684,(.lit 0)),(685,(.lit 0)),(686,(.lit 0)),(687,(.lit 0)),(688,(.lit 0)),(689,(.lit 0))],[],[],[]⟩
def pf_t:T (XE×XS):=(.br (.lt (.var 680) (.len 641)) (.ret (.normal,⟨[(4,(.sc (.i .i64 zTM6_5))),(3,(.ptr (1,0) [] 0)),(2,(.ptr (0,0) [] 0)),(0,zTM6_0)],[((0,0),zTM6_3),((1,0),[(.sc (.i .i64 zTM6_27)),(.sc (.i .i64 zTM6_28)),(.sc (.i .i64 zTM6_29)),(.sc (.i .i64 zTM6_30)),(.sc (.i .i64 zTM6_31)),(.sc (.i .i64 zTM6_32)),(.sc (.i .i64 zTM6_33)),(.sc (.i .i64 zTM6_34)),(.sc (.i .i64 zTM6_35))])],24⟩)) (.ret ((.exit 0),⟨zTM6_1,zTM6_4,7⟩)))
noncomputable def pf:LoopX:=⟨((codeKey pf_c).getD 0),0,680,pf_S,pf_i,[],pf_t.outs⟩
theorem pf_run:(codeX (cfgL ([]) (fun _=>[])).ti (callS ⟨(cfgL ([]) (fun _=>[])),l_able,[]⟩ 12) (((cfgL ([]) (fun _=>[])).ft 43).elim [] (·.ms)) pf.k0 ((fun _=>[]) 43) 1000 pf_c pf_Φ pf.S).map (sqz (pf_S.t.map (·.1)))=pf_t:=by kernel_rfl
theorem pf_back:pf_t.nrm (okS pf.k0 pf.n pf_b [] pf.S)=true:=by kernel_rfl
theorem pf_bel:pf_t.outs.belX 690=true:=by kernel_rfl
theorem pf_ib:pf_i.bel 680=true:=by kernel_rfl
theorem pf_ig:pf_i.ge 680=true:=by kernel_rfl
theorem pf_bg:pf_b.ge 680=true:=by kernel_rfl
theorem pf_same:pf_i.same pf_b=true:=by kernel_rfl
theorem pf_fits:fitsC Try.f43.ntmps pf_c=true:=by kernel_rfl
end Go.Proofs.Ytdlifdoglhhnfaa
