/- Parts of the proof, one behind the other. -/
import Derived.Test.YtdlifdoglhhnfaaTM1
import Derived.Test.YtdlifdoglhhnfaaTM5
import Derived.Test.YtdlifdoglhhnfaaXwM3
import Derived.Test.YtdlifdoglhhnfaaTM6
namespace Go.Proofs.Ytdlifdoglhhnfaa
open Go Go.Proofs.Aw Go.Proofs.Xw
abbrev zTM7_0:IE := .cl 3 2 (.var 500)
abbrev zTM7_1:IE := .cl 3 3 (.var 500)
abbrev zTM7_2:BE := .and (.and (.and (.not (.lt zTM7_0 (.lit 0))) (.lt zTM7_0 (.lit 3))) (.not (.lt zTM7_1 (.lit 0)))) (.lt zTM7_1 (.lit 3))
abbrev zTM7_3:BE := .eq zTM7_0 (.lit 0)
abbrev zTM7_4:BE := .eq zTM7_1 (.lit 0)
abbrev zTM7_5:BE := .and zTM7_3 zTM7_4
abbrev zTM7_6:IE := .op .max .i64 (.lit 0) (.cl 3 11 (.var 500))
abbrev zTM7_7:BE := .eq zTM7_1 (.lit 1)
abbrev zTM7_8:BE := .and zTM7_3 zTM7_7
abbrev zTM7_9:IE := .op .max .i64 (.lit 0) (.cl 3 12 (.var 500))
abbrev zTM7_10:IE := .op .max .i64 (.lit 0) (.cl 3 13 (.var 500))
abbrev zTM7_11:BE := .eq zTM7_0 (.lit 1)
abbrev zTM7_12:BE := .and zTM7_11 zTM7_4
abbrev zTM7_13:IE := .op .max .i64 (.lit 0) (.cl 3 14 (.var 500))
abbrev zTM7_14:BE := .and zTM7_11 zTM7_7
abbrev zTM7_15:IE := .op .max .i64 (.lit 0) (.cl 3 15 (.var 500))
abbrev zTM7_16:IE := .op .max .i64 (.lit 0) (.cl 3 16 (.var 500))
abbrev zTM7_17:IE := .op .max .i64 (.lit 0) (.cl 3 17 (.var 500))
abbrev zTM7_18:IE := .op .max .i64 (.lit 0) (.cl 3 18 (.var 500))
abbrev zTM7_19:IE := .op .max .i64 (.lit 0) (.cl 3 19 (.var 500))
abbrev zTM7_20:IE := .op .max .i64 (.ite zTM7_5 zTM7_6 (.ite zTM7_8 zTM7_9 (.ite zTM7_3 zTM7_10 (.ite zTM7_12 zTM7_13 (.ite zTM7_14 zTM7_15 (.ite zTM7_11 zTM7_16 (.ite zTM7_4 zTM7_17 (.ite zTM7_7 zTM7_18 zTM7_19)))))))) (.cl 3 4 (.var 500))
abbrev zTM7_21:BE := .and (.not (.lt (.var 552) (.lit 0))) (.lt (.var 552) (.lit 3))
abbrev zTM7_22:BE := .eq (.var 552) (.lit 0)
abbrev zTM7_23:BE := .eq (.var 552) (.lit 1)
abbrev zTM7_24:IE := .lit 1099511627776
abbrev zTM7_25:Sc := .i .i64 (.lit 0)
abbrev zTM7_26:X := .sc (.i .i64 (.len 2))
abbrev zTM7_27:RL := .app (.len 2) (.var 2 [.s]) (.one [(.s (.lit ⟨#[120,55]⟩))])
abbrev zTM7_28:X := .rl 1 (.len 2) zTM7_27 false
abbrev zTM7_29:X := .ptr (48,0) [] 0
abbrev zTM7_30:XTp:=[(35,.top),(34,.top),(33,.top),(32,.top),(31,.top),(30,.top),(29,.top),(28,.top),(27,.top),(26,.top),(25,.top),(24,.top),(23,.top),(22,.top),(21,.top),(20,.top),(19,.top),(18,.top),(17,.top),(16,.top),(15,.top),(14,.top),(13,.top),(12,.top),(11,.top),(10,.top)]
abbrev zTM7_31:X := .sc (.i .i64 (.var 0))
abbrev zTM7_32:X := .sc (.i .i64 (.var 1))
abbrev zTM7_33:X := .sc (.i .i64 (.var 2))
abbrev zTM7_34:X := .sc (.i .i64 (.var 3))
abbrev zTM7_35:X := .sc (.i .i64 (.var 4))
abbrev zTM7_36:X := .sc (.i .i64 (.var 5))
abbrev zTM7_37:X := .sc (.i .i64 (.var 6))
abbrev zTM7_38:X := .sc (.i .i64 (.var 7))
abbrev zTM7_39:X := .sc (.i .i64 (.var 8))
abbrev zTM7_40:List X:=[zTM7_31,zTM7_32,zTM7_33,zTM7_34,zTM7_35,zTM7_36,zTM7_37,zTM7_38,zTM7_39]
abbrev zTM7_41:X := .sc (.i .i64 (.var 9))
abbrev zTM7_42:XTp:=[(7,(.sc zTM7_25)),(6,(.k (.pointer none))),(3,.top),(0,(.agg zTM7_40)),(1,zTM7_41),(2,zTM7_28)]
abbrev zTM7_43:XTp:=([(38,(.sc zTM7_25)),(37,zTM7_26),(36,zTM7_28),(8,zTM7_29)]++zTM7_30++zTM7_42)
abbrev zTM7_44:List X:=[(.rows 1 (.len 2) zTM7_27)]
abbrev zTM7_45:List X:=[(.rows 25 (.len 2) (.one [zTM7_25,(.b (.lit false)),zTM7_25,zTM7_25,zTM7_25,zTM7_25,zTM7_25,zTM7_25,(.s (.lit ⟨#[]⟩)),(.s (.lit ⟨#[]⟩)),(.b (.lit false)),zTM7_25,zTM7_25,zTM7_25,zTM7_25,zTM7_25,zTM7_25,zTM7_25,zTM7_25,zTM7_25,zTM7_25,zTM7_25,zTM7_25,zTM7_25,zTM7_25]))]
abbrev zTM7_46:X := .slv (43,0) 1 (.lit 0) (.len 2) true
abbrev zTM7_47:X := .slv (46,0) 25 (.lit 0) (.len 2) true
abbrev zTM7_48:X := .sc (.i .i64 (.lit 1))
abbrev zTM7_49:List X:=[zTM7_31,zTM7_32,zTM7_33,zTM7_34,zTM7_35,zTM7_36,zTM7_37,zTM7_38,zTM7_39,zTM7_31,zTM7_32,zTM7_33,zTM7_34,zTM7_35,zTM7_36,zTM7_37,zTM7_38,zTM7_39,zTM7_41,zTM7_46,zTM7_47,(.k (.slice none 0 0)),zTM7_48,(.sc zTM7_25)]
abbrev zTM7_50:XTp:=([(38,(.sc (.i .i64 (.var 460)))),(37,zTM7_26),(36,zTM7_28),(8,zTM7_29)]++zTM7_30++zTM7_42)
abbrev zTM7_51:XHp:=[((43,0),zTM7_44),((46,0),zTM7_45),((48,0),[zTM7_31,zTM7_32,zTM7_33,zTM7_34,zTM7_35,zTM7_36,zTM7_37,zTM7_38,zTM7_39,zTM7_31,zTM7_32,zTM7_33,zTM7_34,zTM7_35,zTM7_36,zTM7_37,zTM7_38,zTM7_39,zTM7_41,zTM7_46,zTM7_47,(.slv (100,0) 1 (.lit 0) (.len 461) true),zTM7_48,(.sc zTM7_25)]),((100,0),[(.rows 1 (.len 461) (.var 461 [(.i .i64)]))])]
abbrev zTM7_52:IE := .op .add .i64 (.var 460) (.lit 1)
abbrev zTM7_53:IE := .op .padd .i64 (.len 461) (.lit 1)
abbrev zTM7_54:RL := .app (.len 461) (.var 461 [(.i .i64)]) (.one [(.i .i64 (.var 460))])
def pdR:T X:=(.ret (.agg [(.sc (.i .i64 (.ite zTM7_2 (.ite zTM7_5 zTM7_20 zTM7_6) zTM7_6))),(.sc (.i .i64 (.ite zTM7_2 (.ite zTM7_5 zTM7_9 (.ite zTM7_8 zTM7_20 zTM7_9)) zTM7_9))),(.sc (.i .i64 (.ite zTM7_2 (.ite zTM7_5 zTM7_10 (.ite zTM7_8 zTM7_10 (.ite zTM7_3 zTM7_20 zTM7_10))) zTM7_10))),(.sc (.i .i64 (.ite zTM7_2 (.ite zTM7_5 zTM7_13 (.ite zTM7_8 zTM7_13 (.ite zTM7_3 zTM7_13 (.ite zTM7_12 zTM7_20 zTM7_13)))) zTM7_13))),(.sc (.i .i64 (.ite zTM7_2 (.ite zTM7_5 zTM7_15 (.ite zTM7_8 zTM7_15 (.ite zTM7_3 zTM7_15 (.ite zTM7_12 zTM7_15 (.ite zTM7_14 zTM7_20 zTM7_15))))) zTM7_15))),(.sc (.i .i64 (.ite zTM7_2 (.ite zTM7_5 zTM7_16 (.ite zTM7_8 zTM7_16 (.ite zTM7_3 zTM7_16 (.ite zTM7_12 zTM7_16 (.ite zTM7_14 zTM7_16 (.ite zTM7_11 zTM7_20 zTM7_16)))))) zTM7_16))),(.sc (.i .i64 (.ite zTM7_2 (.ite zTM7_5 zTM7_17 (.ite zTM7_8 zTM7_17 (.ite zTM7_3 zTM7_17 (.ite zTM7_12 zTM7_17 (.ite zTM7_14 zTM7_17 (.ite zTM7_11 zTM7_17 (.ite zTM7_4 zTM7_20 zTM7_17))))))) zTM7_17))),(.sc (.i .i64 (.ite zTM7_2 (.ite zTM7_5 zTM7_18 (.ite zTM7_8 zTM7_18 (.ite zTM7_3 zTM7_18 (.ite zTM7_12 zTM7_18 (.ite zTM7_14 zTM7_18 (.ite zTM7_11 zTM7_18 (.ite zTM7_4 zTM7_18 (.ite zTM7_7 zTM7_20 zTM7_18)))))))) zTM7_18))),(.sc (.i .i64 (.ite zTM7_2 (.ite zTM7_5 zTM7_19 (.ite zTM7_8 zTM7_19 (.ite zTM7_3 zTM7_19 (.ite zTM7_12 zTM7_19 (.ite zTM7_14 zTM7_19 (.ite zTM7_11 zTM7_19 (.ite zTM7_4 zTM7_19 (.ite zTM7_7 zTM7_19 zTM7_20)))))))) zTM7_19)))]))
theorem pdR_run:askF ⟨cfgL [] (fun _=>[]),l_able,[]⟩ 43 ([.ro 20 [enC 3 (.var 500)] false]) []=pdR:=by kernel_rfl
def cdR:T X:=(.ret (.sc (.b (.not (.or (.or (.lt (.var 510) (.var 580)) (.or (.lt (.var 511) (.var 581)) (.lt (.var 512) (.var 582)))) (.or (.or (.lt (.var 513) (.var 583)) (.or (.lt (.var 514) (.var 584)) (.lt (.var 515) (.var 585)))) (.or (.lt (.var 516) (.var 586)) (.or (.lt (.var 517) (.var 587)) (.lt (.var 518) (.var 588))))))))))
theorem cdR_run:askF ⟨cfgL [] (fun _=>[]),l_able,[]⟩ 42 ([.agg (vi 510 9),.agg (vi 580 9)]) []=cdR:=by kernel_rfl
def dpR:T X:=(.ret (.agg [(.sc (.i .i64 (.ite zTM7_21 (.ite zTM7_22 (.var 532) (.ite zTM7_23 (.var 533) (.var 534))) (.lit 0)))),(.sc (.i .i64 (.ite zTM7_21 (.ite zTM7_22 (.var 535) (.ite zTM7_23 (.var 536) (.var 537))) (.lit 0)))),(.sc (.i .i64 (.ite zTM7_21 (.ite zTM7_22 (.var 538) (.ite zTM7_23 (.var 539) (.var 540))) (.lit 0))))]))
theorem dpR_run:askF ⟨cfgL [] (fun _=>[]),l_able,[]⟩ 47 ([.agg (vi 532 9),iV 552]) []=dpR:=by kernel_rfl
def ccR:T X:=(.ret (.sc (.b (.and (.and (.not (.lt (.var 0) (.var 3))) (.not (.lt (.var 1) (.var 4)))) (.not (.lt (.var 2) (.var 5)))))))
theorem ccR_run:askF ⟨cfgL [] (fun _=>[]),l_able,[]⟩ 46 ([.agg (vi 0 3),.agg (vi 3 3)]) []=ccR:=by kernel_rfl
def twR:T X:=(.ret (.agg [(.sc (.i .i64 (.op .max .i64 (.op .max .i64 (.lit 0) (.var 510)) (.var 580)))),(.sc (.i .i64 (.op .max .i64 (.op .max .i64 (.lit 0) (.var 511)) (.var 581)))),(.sc (.i .i64 (.op .max .i64 (.op .max .i64 (.lit 0) (.var 512)) (.var 582)))),(.sc (.i .i64 (.op .max .i64 (.op .max .i64 (.lit 0) (.var 513)) (.var 583)))),(.sc (.i .i64 (.op .max .i64 (.op .max .i64 (.lit 0) (.var 514)) (.var 584)))),(.sc (.i .i64 (.op .max .i64 (.op .max .i64 (.lit 0) (.var 515)) (.var 585)))),(.sc (.i .i64 (.op .max .i64 (.op .max .i64 (.lit 0) (.var 516)) (.var 586)))),(.sc (.i .i64 (.op .max .i64 (.op .max .i64 (.lit 0) (.var 517)) (.var 587)))),(.sc (.i .i64 (.op .max .i64 (.op .max .i64 (.lit 0) (.var 518)) (.var 588))))]))
theorem twR_run:askF ⟨cfgL [] (fun _=>[]),l_able,[]⟩ 44 ([.agg (vi 510 9),.agg (vi 580 9)]) []=twR:=by kernel_rfl
def r41:T X:=(.ret (.sc (.b (.not (.or (.or (.or (.lt (.var 0) (.lit 0)) (.lt zTM7_24 (.var 0))) (.or (.or (.lt (.var 1) (.lit 0)) (.lt zTM7_24 (.var 1))) (.or (.lt (.var 2) (.lit 0)) (.lt zTM7_24 (.var 2))))) (.or (.or (.or (.lt (.var 3) (.lit 0)) (.lt zTM7_24 (.var 3))) (.or (.or (.lt (.var 4) (.lit 0)) (.lt zTM7_24 (.var 4))) (.or (.lt (.var 5) (.lit 0)) (.lt zTM7_24 (.var 5))))) (.or (.or (.lt (.var 6) (.lit 0)) (.lt zTM7_24 (.var 6))) (.or (.or (.lt (.var 7) (.lit 0)) (.lt zTM7_24 (.var 7))) (.or (.lt (.var 8) (.lit 0)) (.lt zTM7_24 (.var 8)))))))))))
theorem r41_run:askF ⟨cfgL [] (fun _=>[]),l_able,[]⟩ 41 ([.agg (vi 0 9)]) []=r41:=by kernel_rfl
end Go.Proofs.Ytdlifdoglhhnfaa
namespace Go.Proofs.Ytdlifdoglhhnfaa
open Go Go.Proofs.Aw Go.Proofs.Xw Go.Proofs.Sr
set_option maxRecDepth 100000
theorem pd_eq:pdR=psR:=by kernel_rfl
theorem cd_eq:cdR=cvR:=by kernel_rfl
theorem dp_eq:dpR=ptR:=by kernel_rfl
theorem r4_eq:r41=r31:=by kernel_rfl
def enF (ρ:Rho) (l j:Nat) (c:Nat):Int:=ρ.ci l (c-2) j
theorem pf_m0 (ρ:Rho) (h:0≤ρ.i 681):(pf_b.ap ρ).i 681=max (ρ.i 681) (pa (enF ρ 641 (ρ.i 680).toNat) 0):=by
 rw[ap_i (show lassoc 681 pf_b.i=some _ from rfl)]
 dsimp only[pa,exOf,psR,List.getElem?_cons_zero,List.getElem?_cons_succ]
 simp (config:={ maxSteps:=10000000 })only[IE.den,dand_t,deq_t,dnot_t,dlt_f,dlt_t,IOp.den,paR,enF,Nat.reduceSub]
 generalize Rho.ci _ _ 0 _=a
 generalize Rho.ci _ _ 1 _=b
 by_cases a0:a=0<;>by_cases a1:a=1<;>by_cases b0:b=0<;>by_cases b1:b=1<;>simp[a0,a1,b0,b1]<;>omega
theorem pf_m1 (ρ:Rho) (h:0≤ρ.i 682):(pf_b.ap ρ).i 682=max (ρ.i 682) (pa (enF ρ 641 (ρ.i 680).toNat) 1):=by
 rw[ap_i (show lassoc 682 pf_b.i=some _ from rfl)]
 dsimp only[pa,exOf,psR,List.getElem?_cons_zero,List.getElem?_cons_succ]
 simp (config:={ maxSteps:=10000000 })only[IE.den,dand_t,deq_t,dnot_t,dlt_f,dlt_t,IOp.den,paR,enF,Nat.reduceSub]
 generalize Rho.ci _ _ 0 _=a
 generalize Rho.ci _ _ 1 _=b
 by_cases a0:a=0<;>by_cases a1:a=1<;>by_cases b0:b=0<;>by_cases b1:b=1<;>simp[a0,a1,b0,b1]<;>omega
theorem pf_m2 (ρ:Rho) (h:0≤ρ.i 683):(pf_b.ap ρ).i 683=max (ρ.i 683) (pa (enF ρ 641 (ρ.i 680).toNat) 2):=by
 rw[ap_i (show lassoc 683 pf_b.i=some _ from rfl)]
 dsimp only[pa,exOf,psR,List.getElem?_cons_zero,List.getElem?_cons_succ]
 simp (config:={ maxSteps:=10000000 })only[IE.den,dand_t,deq_t,dnot_t,dlt_f,dlt_t,IOp.den,paR,enF,Nat.reduceSub]
 generalize Rho.ci _ _ 0 _=a
 generalize Rho.ci _ _ 1 _=b
 by_cases a0:a=0<;>by_cases a1:a=1<;>by_cases b0:b=0<;>by_cases b1:b=1<;>simp[a0,a1,b0,b1]<;>omega
theorem pf_m3 (ρ:Rho) (h:0≤ρ.i 684):(pf_b.ap ρ).i 684=max (ρ.i 684) (pa (enF ρ 641 (ρ.i 680).toNat) 3):=by
 rw[ap_i (show lassoc 684 pf_b.i=some _ from rfl)]
 dsimp only[pa,exOf,psR,List.getElem?_cons_zero,List.getElem?_cons_succ]
 simp (config:={ maxSteps:=10000000 })only[IE.den,dand_t,deq_t,dnot_t,dlt_f,dlt_t,IOp.den,paR,enF,Nat.reduceSub]
 generalize Rho.ci _ _ 0 _=a
 generalize Rho.ci _ _ 1 _=b
 by_cases a0:a=0<;>by_cases a1:a=1<;>by_cases b0:b=0<;>by_cases b1:b=1<;>simp[a0,a1,b0,b1]<;>omega
theorem pf_m4 (ρ:Rho) (h:0≤ρ.i 685):(pf_b.ap ρ).i 685=max (ρ.i 685) (pa (enF ρ 641 (ρ.i 680).toNat) 4):=by
 rw[ap_i (show lassoc 685 pf_b.i=some _ from rfl)]
 dsimp only[pa,exOf,psR,List.getElem?_cons_zero,List.getElem?_cons_succ]
 simp (config:={ maxSteps:=10000000 })only[IE.den,dand_t,deq_t,dnot_t,dlt_f,dlt_t,IOp.den,paR,enF,Nat.reduceSub]
 generalize Rho.ci _ _ 0 _=a
 generalize Rho.ci _ _ 1 _=b
 by_cases a0:a=0<;>by_cases a1:a=1<;>by_cases b0:b=0<;>by_cases b1:b=1<;>simp[a0,a1,b0,b1]<;>omega
theorem pf_m5 (ρ:Rho) (h:0≤ρ.i 686):(pf_b.ap ρ).i 686=max (ρ.i 686) (pa (enF ρ 641 (ρ.i 680).toNat) 5):=by
 rw[ap_i (show lassoc 686 pf_b.i=some _ from rfl)]
 dsimp only[pa,exOf,psR,List.getElem?_cons_zero,List.getElem?_cons_succ]
 simp (config:={ maxSteps:=10000000 })only[IE.den,dand_t,deq_t,dnot_t,dlt_f,dlt_t,IOp.den,paR,enF,Nat.reduceSub]
 generalize Rho.ci _ _ 0 _=a
 generalize Rho.ci _ _ 1 _=b
 by_cases a0:a=0<;>by_cases a1:a=1<;>by_cases b0:b=0<;>by_cases b1:b=1<;>simp[a0,a1,b0,b1]<;>omega
theorem pf_m6 (ρ:Rho) (h:0≤ρ.i 687):(pf_b.ap ρ).i 687=max (ρ.i 687) (pa (enF ρ 641 (ρ.i 680).toNat) 6):=by
 rw[ap_i (show lassoc 687 pf_b.i=some _ from rfl)]
 dsimp only[pa,exOf,psR,List.getElem?_cons_zero,List.getElem?_cons_succ]
 simp (config:={ maxSteps:=10000000 })only[IE.den,dand_t,deq_t,dnot_t,dlt_f,dlt_t,IOp.den,paR,enF,Nat.reduceSub]
 generalize Rho.ci _ _ 0 _=a
 generalize Rho.ci _ _ 1 _=b
 by_cases a0:a=0<;>by_cases a1:a=1<;>by_cases b0:b=0<;>by_cases b1:b=1<;>simp[a0,a1,b0,b1]<;>omega
theorem pf_m7 (ρ:Rho) (h:0≤ρ.i 688):(pf_b.ap ρ).i 688=max (ρ.i 688) (pa (enF ρ 641 (ρ.i 680).toNat) 7):=by
 rw[ap_i (show lassoc 688 pf_b.i=some _ from rfl)]
 dsimp only[pa,exOf,psR,List.getElem?_cons_zero,List.getElem?_cons_succ]
 simp (config:={ maxSteps:=10000000 })only[IE.den,dand_t,deq_t,dnot_t,dlt_f,dlt_t,IOp.den,paR,enF,Nat.reduceSub]
 generalize Rho.ci _ _ 0 _=a
 generalize Rho.ci _ _ 1 _=b
 by_cases a0:a=0<;>by_cases a1:a=1<;>by_cases b0:b=0<;>by_cases b1:b=1<;>simp[a0,a1,b0,b1]<;>omega
theorem pf_m8 (ρ:Rho) (h:0≤ρ.i 689):(pf_b.ap ρ).i 689=max (ρ.i 689) (pa (enF ρ 641 (ρ.i 680).toNat) 8):=by
 rw[ap_i (show lassoc 689 pf_b.i=some _ from rfl)]
 dsimp only[pa,exOf,psR,List.getElem?_cons_zero,List.getElem?_cons_succ]
 simp (config:={ maxSteps:=10000000 })only[IE.den,dand_t,deq_t,dnot_t,dlt_f,dlt_t,IOp.den,paR,enF,Nat.reduceSub]
 generalize Rho.ci _ _ 0 _=a
 generalize Rho.ci _ _ 1 _=b
 by_cases a0:a=0<;>by_cases a1:a=1<;>by_cases b0:b=0<;>by_cases b1:b=1<;>simp[a0,a1,b0,b1]<;>omega
end Go.Proofs.Ytdlifdoglhhnfaa
namespace Go.Proofs.Ytdlifdoglhhnfaa
open Go Go.Proofs.Aw Go.Proofs.Xw
set_option maxRecDepth 100000
def nrF:Facts:=(List.range 9).flatMap (fun k=>[(.lt (.var k) (.lit 0),false),(.lt (.lit 1099511627776) (.var k),false)])++[(.lt (.var 9) (.lit 1),false),(.lt (.lit 3) (.var 9),false),(.lt (.len 2) (.lit 1),false),(.lt (.lit 6) (.len 2),false)]
def nwF:Facts:=[(.lt (.len 2) (.lit 1),false),(.lt (.lit 6) (.len 2),false)]
def kyA:X := .rl 1 (.len 2) (.app (.len 2) (.var 2 [.s]) (.one [.s (.lit ⟨#[120,55]⟩)])) false
noncomputable def nw_c:Code:=(loopsOf (Try.f9.body.getD .skip))[0]?.getD .skip
theorem nw_fits:fitsC Try.f9.ntmps nw_c=true:=by kernel_rfl
def nw_E:XS:=⟨zTM7_43,[((20,0),zTM7_40),((43,0),zTM7_44),((46,0),zTM7_45),((48,0),zTM7_49)],53⟩
def nw_ks:List Nat:=[38,37,36,8,35,34,33,32,31,30,29,28,27,26,25,24,23,22,21,20,19,18,17,16,15,14,13,12,11,10,7,6,3,0,1,2]
theorem nw_Eb:nw_E.bel 460=true:=by kernel_rfl
def nw_S0:XS:=⟨zTM7_43,[((43,0),zTM7_44),((46,0),zTM7_45),((48,0),zTM7_49)],53⟩
def nw_S1:XS:=⟨zTM7_50,zTM7_51,101⟩
def nw_I0:Bind:=⟨[],[],[],[]⟩
theorem nw_I0ok:okS 20 460 nw_I0 [] nw_S0 nw_E=true:=by kernel_rfl
theorem nw_I0g:nw_I0.ge 460=true:=by kernel_rfl
def nw_A_s:XS:=⟨([(38,zTM7_48),(37,zTM7_26),(36,zTM7_28),(8,zTM7_29)]++zTM7_30++zTM7_42),[((43,0),zTM7_44),((46,0),zTM7_45),((48,0),[zTM7_31,zTM7_32,zTM7_33,zTM7_34,zTM7_35,zTM7_36,zTM7_37,zTM7_38,zTM7_39,zTM7_31,zTM7_32,zTM7_33,zTM7_34,zTM7_35,zTM7_36,zTM7_37,zTM7_38,zTM7_39,zTM7_41,zTM7_46,zTM7_47,(.sl (63,0) 1 0 1 true),zTM7_48,(.sc zTM7_25)]),((63,0),[(.sc zTM7_25)])],69⟩
def nw_A_r:T (XE×XS):=(.ret (.normal,nw_A_s))
theorem nw_A_run:(codeX (cfgL [] (fun _=>[])).ti (callS ⟨(cfgL [] (fun _=>[])),l_able,[20009,20,33,37,58,10010,10011,10013,10014,10023,10021]⟩ 12) (((cfgL [] (fun _=>[])).ft 9).elim [] (·.ms)) 20 ([]) 1000 nw_c (nwF) nw_S0).map (sqz nw_ks)=nw_A_r:=by kernel_rfl
def nw_A_b:Bind:=⟨[(460,(.lit 1))],[],[],[(461,(.lit 1),(.one [(.i .i64 (.lit 0))]))]⟩
theorem nw_A_ok:okS 20 460 nw_A_b [((100,0),(63,0))] nw_S1 nw_A_s=true:=by kernel_rfl
theorem nw_A_g:nw_A_b.ge 460=true:=by kernel_rfl
theorem nw_A_step {ρ ρ1:Rho} (hd:nw_S0.den ρ=nw_S0.den ρ1) (cok:CfgOk Try.prog ρ1 (cfgL [] (fun _=>[]))) (hl:LpsOk Try.prog ρ1 Try.f9.ntmps ([]) nw_c) (hk:Facts.ok ρ1 (nwF)):StepF Try.prog Try.f9.ntmps nw_c 20 nw_S0 nw_S1 ρ (nw_A_b.ap ρ1) :=
 fam_goU nw_fits hd cok hl hk nw_A_run rfl nw_A_ok
theorem nw_A_460:lassoc 460 nw_A_b.i=some (.lit 1):=by kernel_rfl
theorem nw_A_r461:lassoc 461 nw_A_b.r=some ((.lit 1),(.one [(.i .i64 (.lit 0))])):=by kernel_rfl
def nw_B_s:XS:=⟨([(38,(.sc (.i .i64 zTM7_52))),(37,zTM7_26),(36,zTM7_28),(8,zTM7_29)]++zTM7_30++zTM7_42),[((43,0),zTM7_44),((46,0),zTM7_45),((48,0),[zTM7_31,zTM7_32,zTM7_33,zTM7_34,zTM7_35,zTM7_36,zTM7_37,zTM7_38,zTM7_39,zTM7_31,zTM7_32,zTM7_33,zTM7_34,zTM7_35,zTM7_36,zTM7_37,zTM7_38,zTM7_39,zTM7_41,zTM7_46,zTM7_47,(.slv (111,0) 1 (.lit 0) zTM7_53 true),zTM7_48,(.sc zTM7_25)]),((111,0),[(.rows 1 zTM7_53 zTM7_54)])],117⟩
def nw_B_r:T (XE×XS):=(.ret (.normal,nw_B_s))
theorem nw_B_run:(codeX (cfgL [] (fun _=>[])).ti (callS ⟨(cfgL [] (fun _=>[])),l_able,[20009,20,33,37,58,10010,10011,10013,10014,10023,10021]⟩ 12) (((cfgL [] (fun _=>[])).ft 9).elim [] (·.ms)) 20 ([]) 1000 nw_c ((.lt (.var 460) (.len 2),true)::(.lt (.var 460) (.lit 0),false)::(.lt (.lit 6) (.len 461),false)::nwF) nw_S1).map (sqz nw_ks)=nw_B_r:=by kernel_rfl
def nw_B_b:Bind:=⟨[(460,zTM7_52)],[],[],[(461,zTM7_53,zTM7_54)]⟩
theorem nw_B_ok:okS 20 460 nw_B_b [((100,0),(111,0))] nw_S1 nw_B_s=true:=by kernel_rfl
theorem nw_B_g:nw_B_b.ge 460=true:=by kernel_rfl
theorem nw_B_step {ρ ρ1:Rho} (hd:nw_S1.den ρ=nw_S1.den ρ1) (cok:CfgOk Try.prog ρ1 (cfgL [] (fun _=>[]))) (hl:LpsOk Try.prog ρ1 Try.f9.ntmps ([]) nw_c) (hk:Facts.ok ρ1 ((.lt (.var 460) (.len 2),true)::(.lt (.var 460) (.lit 0),false)::(.lt (.lit 6) (.len 461),false)::nwF)):StepF Try.prog Try.f9.ntmps nw_c 20 nw_S1 nw_S1 ρ (nw_B_b.ap ρ1) :=
 fam_goU nw_fits hd cok hl hk nw_B_run rfl nw_B_ok
theorem nw_B_460:lassoc 460 nw_B_b.i=some (.op .add .i64 (.var 460) (.lit 1)):=by kernel_rfl
theorem nw_B_r461:lassoc 461 nw_B_b.r=some ((.op .padd .i64 (.len 461) (.lit 1)),(.app (.len 461) (.var 461 [(.i .i64)]) (.one [(.i .i64 (.var 460))]))):=by kernel_rfl
def nw_X_s:XS:=⟨zTM7_50,zTM7_51,102⟩
def nw_X_r:T (XE×XS):=(.ret ((.exit 0),nw_X_s))
theorem nw_X_run:(codeX (cfgL [] (fun _=>[])).ti (callS ⟨(cfgL [] (fun _=>[])),l_able,[20009,20,33,37,58,10010,10011,10013,10014,10023,10021]⟩ 12) (((cfgL [] (fun _=>[])).ft 9).elim [] (·.ms)) 20 ([]) 1000 nw_c ((.lt (.var 460) (.len 2),false)::nwF) nw_S1).map (sqz nw_ks)=nw_X_r:=by kernel_rfl
def nw_out:T (XE×XS):=(.ret ((.exit 0),nw_X_s))
noncomputable def nw:LoopX:=⟨((codeKey nw_c).getD 0),20,460,nw_E,noB,[],nw_out⟩
theorem nw_X_end {ρ1:Rho} (cok:CfgOk Try.prog ρ1 (cfgL [] (fun _=>[]))) (hl:LpsOk Try.prog ρ1 Try.f9.ntmps ([]) nw_c) (hk:Facts.ok ρ1 ((.lt (.var 460) (.len 2),false)::nwF)) (ho:nw_out.sel ρ1=some ((.exit 0),nw_X_s)):EndL Try.prog Try.f9.ntmps nw_c 20 nw_S1 nw_out ρ1 :=
 fam_endU nw_fits cok hl hk nw_X_run rfl (fun h=>nomatch h) ho (by kernel_rfl)
end Go.Proofs.Ytdlifdoglhhnfaa
