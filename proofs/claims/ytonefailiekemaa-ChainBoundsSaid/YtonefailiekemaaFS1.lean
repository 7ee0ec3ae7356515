/- What functions answer, run over letters; each shown by running it. -/
import Derived.Test.YtonefailiekemaaXT
import Derived.Test.YtonefailiekemaaXLP1
import Derived.Test.YtonefailiekemaaXwM2
namespace Go.Proofs.Ytonefailiekemaa
open Go Go.Proofs.Aw Go.Proofs.Xw
set_option maxRecDepth 100000
def cfgN (n : Int) (j : Bool) (p : Nat) : X := .agg ([iV p, iC n] ++ (List.range 8).map (fun k => iV (p + 2 + k)) ++ [.sc (.b (.lit j)), iV (p + 11), iV (p + 12)])
def cfgV (p : Nat) : X := .agg ([iV p, iV (p + 1)] ++ (List.range 8).map (fun k => iV (p + 2 + k)) ++ [.sc (.b (.var (p + 10))), iV (p + 11), iV (p + 12)])
def l_FS1 : List Sm := []
theorem l_FS1_ok : ∀ s ∈ l_FS1, SmOk Try.prog s := List.forall_mem_nil _
abbrev zFS1_0 : BE := .not (.or (.lt (.var 0) (.lit 1)) (.lt (.lit 1099511627776) (.var 0)))
abbrev zFS1_1 : BE := .eq (.var 4) (.lit 0)
abbrev zFS1_2 : BE := .eq (.var 6) (.lit 0)
abbrev zFS1_3 : BE := .eq (.var 8) (.lit 0)
abbrev zFS1_4 : BE := .and zFS1_3 (.eq (.var 9) (.lit 0))
abbrev zFS1_5 : BE := .or (.not (.and zFS1_2 (.eq (.var 7) (.lit 0)))) (.not zFS1_4)
abbrev zFS1_6 : BE := .not (.or (.not (.and zFS1_1 (.eq (.var 5) (.lit 0)))) zFS1_5)
abbrev zFS1_7 : BE := .or (.or (.not (.and (.not (.lt (.var 2) (.lit 0))) (.lt (.var 2) (.lit 4)))) (.lt (.var 3) (.lit 1))) (.lt (.var 0) (.var 3))
abbrev zFS1_8 : BE := .not (.and (.not (.lt (.var 11) (.lit 0))) (.lt (.var 11) (.lit 4)))
abbrev zFS1_9 : BE := .eq (.var 11) (.lit 0)
abbrev zFS1_10 : BE := .eq (.var 2) (.lit 0)
abbrev zFS1_11 : BE := .eq (.var 11) (.lit 1)
abbrev zFS1_12 : BE := .and (.not zFS1_10) (.eq (.var 2) (.lit 1))
abbrev zFS1_13 : BE := .eq (.var 11) (.lit 2)
abbrev zFS1_14 : BE := .and (.not zFS1_10) (.and (.not (.eq (.var 2) (.lit 1))) (.eq (.var 2) (.lit 2)))
abbrev zFS1_15 : BE := .and (.not zFS1_10) (.and (.not (.eq (.var 2) (.lit 1))) (.not (.eq (.var 2) (.lit 2))))
abbrev zFS1_16 : BE := .lt (.var 12) (.lit 1)
abbrev zFS1_17 : BE := .lt (.var 0) (.var 12)
abbrev zFS1_18 : BE := .and zFS1_9 (.eq (.var 12) (.lit 0))
abbrev zFS1_19 : BE := .eq (.var 4) (.lit 1)
abbrev zFS1_20 : BE := .eq (.var 4) (.lit 2)
abbrev zFS1_21 : BE := .or (.or (.or (.not (.and (.not (.lt (.var 4) (.lit 0))) (.lt (.var 4) (.lit 4)))) (.ite zFS1_1 zFS1_10 (.ite zFS1_19 zFS1_12 (.ite zFS1_20 zFS1_14 zFS1_15)))) (.lt (.var 5) (.lit 1))) (.lt (.var 0) (.var 5))
abbrev zFS1_22 : BE := .or zFS1_1 zFS1_10
abbrev zFS1_23 : BE := .ite zFS1_1 zFS1_12 (.or zFS1_19 zFS1_12)
abbrev zFS1_24 : BE := .ite zFS1_1 zFS1_14 (.ite zFS1_19 zFS1_14 (.or zFS1_20 zFS1_14))
abbrev zFS1_25 : BE := .ite zFS1_1 zFS1_15 (.ite zFS1_19 zFS1_15 (.or (.not zFS1_20) zFS1_15))
abbrev zFS1_26 : BE := .eq (.var 6) (.lit 1)
abbrev zFS1_27 : BE := .eq (.var 6) (.lit 2)
abbrev zFS1_28 : BE := .or (.or (.or (.not (.and (.not (.lt (.var 6) (.lit 0))) (.lt (.var 6) (.lit 4)))) (.ite zFS1_2 zFS1_22 (.ite zFS1_26 zFS1_23 (.ite zFS1_27 zFS1_24 zFS1_25)))) (.lt (.var 7) (.lit 1))) (.lt (.var 0) (.var 7))
abbrev zFS1_29 : BE := .or zFS1_2 zFS1_22
abbrev zFS1_30 : BE := .ite zFS1_2 zFS1_23 (.or zFS1_26 zFS1_23)
abbrev zFS1_31 : BE := .ite zFS1_2 zFS1_24 (.ite zFS1_26 zFS1_24 (.or zFS1_27 zFS1_24))
abbrev zFS1_32 : BE := .ite zFS1_2 zFS1_25 (.ite zFS1_26 zFS1_25 (.or (.not zFS1_27) zFS1_25))
abbrev zFS1_33 : BE := .eq (.var 8) (.lit 1)
abbrev zFS1_34 : BE := .eq (.var 8) (.lit 2)
abbrev zFS1_35 : BE := .or (.or (.or (.not (.and (.not (.lt (.var 8) (.lit 0))) (.lt (.var 8) (.lit 4)))) (.ite zFS1_3 zFS1_29 (.ite zFS1_33 zFS1_30 (.ite zFS1_34 zFS1_31 zFS1_32)))) (.lt (.var 9) (.lit 1))) (.lt (.var 0) (.var 9))
abbrev zFS1_36 : BE := .or (.or (.or (.lt (.var 2) (.lit 0)) (.not (.lt (.var 2) (.lit 4)))) (.lt (.var 3) (.lit 1))) (.lt (.var 0) (.var 3))
abbrev zFS1_37 : BE := .or (.or (.or (.lt (.var 11) (.lit 0)) (.not (.lt (.var 11) (.lit 4)))) zFS1_16) zFS1_17
abbrev zFS1_38 : BE := .eq (.var 2) (.var 11)
abbrev zFS1_39 : BE := .or (.or (.or (.or (.lt (.var 4) (.lit 0)) (.not (.lt (.var 4) (.lit 4)))) (.lt (.var 5) (.lit 1))) (.lt (.var 0) (.var 5))) (.eq (.var 2) (.var 4))
abbrev zFS1_40 : BE := .eq (.var 4) (.var 11)
abbrev zFS1_41 : BE := .or (.or (.or (.or (.lt (.var 6) (.lit 0)) (.not (.lt (.var 6) (.lit 4)))) (.lt (.var 7) (.lit 1))) (.lt (.var 0) (.var 7))) (.or (.eq (.var 2) (.var 6)) (.eq (.var 4) (.var 6)))
abbrev zFS1_42 : BE := .or (.or (.or (.or (.lt (.var 8) (.lit 0)) (.not (.lt (.var 8) (.lit 4)))) (.lt (.var 9) (.lit 1))) (.lt (.var 0) (.var 9))) (.or (.eq (.var 2) (.var 8)) (.or (.eq (.var 4) (.var 8)) (.eq (.var 6) (.var 8))))
def r42_1t : Sm := ⟨42, [(cfgN 1 true 0)], (.sc (.b (.and zFS1_0 (.and zFS1_6 (.not (.or zFS1_7 (.or (.or (.or zFS1_8 (.ite zFS1_9 zFS1_10 (.ite zFS1_11 zFS1_12 (.ite zFS1_13 zFS1_14 zFS1_15)))) zFS1_16) zFS1_17)))))))⟩
theorem r42_1t_ok : SmOk Try.prog r42_1t := smOk (c := ⟨cfg [], l_FS1, [105,82,106,84,51]⟩) (fun _ => cfg_ok (List.forall_mem_nil _)) l_FS1_ok (by kernel_rfl)
def l_r42_1t : List Sm := r42_1t :: l_FS1
theorem l_r42_1t_ok : ∀ s ∈ l_r42_1t, SmOk Try.prog s := List.forall_mem_cons.2 ⟨r42_1t_ok, l_FS1_ok⟩
def r42_1f : Sm := ⟨42, [(cfgN 1 false 0)], (.sc (.b (.and zFS1_0 (.and zFS1_6 (.and zFS1_18 (.not zFS1_7))))))⟩
theorem r42_1f_ok : SmOk Try.prog r42_1f := smOk (c := ⟨cfg [], l_r42_1t, [105,82,106,84,51]⟩) (fun _ => cfg_ok (List.forall_mem_nil _)) l_r42_1t_ok (by kernel_rfl)
def l_r42_1f : List Sm := r42_1f :: l_r42_1t
theorem l_r42_1f_ok : ∀ s ∈ l_r42_1f, SmOk Try.prog s := List.forall_mem_cons.2 ⟨r42_1f_ok, l_r42_1t_ok⟩
def r42_2t : Sm := ⟨42, [(cfgN 2 true 0)], (.sc (.b (.and zFS1_0 (.and (.not zFS1_5) (.not (.or zFS1_7 (.or zFS1_21 (.or (.or (.or zFS1_8 (.ite zFS1_9 zFS1_22 (.ite zFS1_11 zFS1_23 (.ite zFS1_13 zFS1_24 zFS1_25)))) zFS1_16) zFS1_17))))))))⟩
theorem r42_2t_ok : SmOk Try.prog r42_2t := smOk (c := ⟨cfg [], l_r42_1f, [105,82,106,84,51]⟩) (fun _ => cfg_ok (List.forall_mem_nil _)) l_r42_1f_ok (by kernel_rfl)
def l_r42_2t : List Sm := r42_2t :: l_r42_1f
theorem l_r42_2t_ok : ∀ s ∈ l_r42_2t, SmOk Try.prog s := List.forall_mem_cons.2 ⟨r42_2t_ok, l_r42_1f_ok⟩
def r42_2f : Sm := ⟨42, [(cfgN 2 false 0)], (.sc (.b (.and zFS1_0 (.and (.not zFS1_5) (.and zFS1_18 (.not (.or zFS1_7 zFS1_21)))))))⟩
theorem r42_2f_ok : SmOk Try.prog r42_2f := smOk (c := ⟨cfg [], l_r42_2t, [105,82,106,84,51]⟩) (fun _ => cfg_ok (List.forall_mem_nil _)) l_r42_2t_ok (by kernel_rfl)
def l_r42_2f : List Sm := r42_2f :: l_r42_2t
theorem l_r42_2f_ok : ∀ s ∈ l_r42_2f, SmOk Try.prog s := List.forall_mem_cons.2 ⟨r42_2f_ok, l_r42_2t_ok⟩
def r42_3t : Sm := ⟨42, [(cfgN 3 true 0)], (.sc (.b (.and zFS1_0 (.and zFS1_4 (.not (.or zFS1_7 (.or zFS1_21 (.or zFS1_28 (.or (.or (.or zFS1_8 (.ite zFS1_9 zFS1_29 (.ite zFS1_11 zFS1_30 (.ite zFS1_13 zFS1_31 zFS1_32)))) zFS1_16) zFS1_17)))))))))⟩
theorem r42_3t_ok : SmOk Try.prog r42_3t := smOk (c := ⟨cfg [], l_r42_2f, [105,82,106,84,51]⟩) (fun _ => cfg_ok (List.forall_mem_nil _)) l_r42_2f_ok (by kernel_rfl)
def l_r42_3t : List Sm := r42_3t :: l_r42_2f
theorem l_r42_3t_ok : ∀ s ∈ l_r42_3t, SmOk Try.prog s := List.forall_mem_cons.2 ⟨r42_3t_ok, l_r42_2f_ok⟩
def r42_3f : Sm := ⟨42, [(cfgN 3 false 0)], (.sc (.b (.and zFS1_0 (.and zFS1_4 (.and zFS1_18 (.not (.or zFS1_7 (.or zFS1_21 zFS1_28))))))))⟩
theorem r42_3f_ok : SmOk Try.prog r42_3f := smOk (c := ⟨cfg [], l_r42_3t, [105,82,106,84,51]⟩) (fun _ => cfg_ok (List.forall_mem_nil _)) l_r42_3t_ok (by kernel_rfl)
def l_r42_3f : List Sm := r42_3f :: l_r42_3t
theorem l_r42_3f_ok : ∀ s ∈ l_r42_3f, SmOk Try.prog s := List.forall_mem_cons.2 ⟨r42_3f_ok, l_r42_3t_ok⟩
def r42_4t : Sm := ⟨42, [(cfgN 4 true 0)], (.sc (.b (.and zFS1_0 (.not (.or zFS1_7 (.or zFS1_21 (.or zFS1_28 (.or zFS1_35 (.or (.or (.or zFS1_8 (.ite zFS1_9 (.or zFS1_3 zFS1_29) (.ite zFS1_11 (.ite zFS1_3 zFS1_30 (.or zFS1_33 zFS1_30)) (.ite zFS1_13 (.ite zFS1_3 zFS1_31 (.ite zFS1_33 zFS1_31 (.or zFS1_34 zFS1_31))) (.ite zFS1_3 zFS1_32 (.ite zFS1_33 zFS1_32 (.or (.not zFS1_34) zFS1_32))))))) zFS1_16) zFS1_17)))))))))⟩
theorem r42_4t_ok : SmOk Try.prog r42_4t := smOk (c := ⟨cfg [], l_r42_3f, [105,82,106,84,51]⟩) (fun _ => cfg_ok (List.forall_mem_nil _)) l_r42_3f_ok (by kernel_rfl)
def l_r42_4t : List Sm := r42_4t :: l_r42_3f
theorem l_r42_4t_ok : ∀ s ∈ l_r42_4t, SmOk Try.prog s := List.forall_mem_cons.2 ⟨r42_4t_ok, l_r42_3f_ok⟩
def r42_4f : Sm := ⟨42, [(cfgN 4 false 0)], (.sc (.b (.and zFS1_0 (.and zFS1_18 (.not (.or zFS1_7 (.or zFS1_21 (.or zFS1_28 zFS1_35))))))))⟩
theorem r42_4f_ok : SmOk Try.prog r42_4f := smOk (c := ⟨cfg [], l_r42_4t, [105,82,106,84,51]⟩) (fun _ => cfg_ok (List.forall_mem_nil _)) l_r42_4t_ok (by kernel_rfl)
def l_r42_4f : List Sm := r42_4f :: l_r42_4t
theorem l_r42_4f_ok : ∀ s ∈ l_r42_4f, SmOk Try.prog s := List.forall_mem_cons.2 ⟨r42_4f_ok, l_r42_4t_ok⟩
def r89_1t : Sm := ⟨89, [(cfgN 1 true 0)], (.sc (.b (.and zFS1_0 (.and (.not (.or zFS1_36 (.or zFS1_37 zFS1_38))) zFS1_6))))⟩
theorem r89_1t_ok : SmOk Try.prog r89_1t := smOk (c := ⟨cfg [], l_r42_4f, [105,82,106,84,51]⟩) (fun _ => cfg_ok (List.forall_mem_nil _)) l_r42_4f_ok (by kernel_rfl)
def l_r89_1t : List Sm := r89_1t :: l_r42_4f
theorem l_r89_1t_ok : ∀ s ∈ l_r89_1t, SmOk Try.prog s := List.forall_mem_cons.2 ⟨r89_1t_ok, l_r42_4f_ok⟩
def r89_1f : Sm := ⟨89, [(cfgN 1 false 0)], (.sc (.b (.and zFS1_0 (.and (.not zFS1_36) (.and zFS1_6 zFS1_18)))))⟩
theorem r89_1f_ok : SmOk Try.prog r89_1f := smOk (c := ⟨cfg [], l_r89_1t, [105,82,106,84,51]⟩) (fun _ => cfg_ok (List.forall_mem_nil _)) l_r89_1t_ok (by kernel_rfl)
def l_r89_1f : List Sm := r89_1f :: l_r89_1t
theorem l_r89_1f_ok : ∀ s ∈ l_r89_1f, SmOk Try.prog s := List.forall_mem_cons.2 ⟨r89_1f_ok, l_r89_1t_ok⟩
def r89_2t : Sm := ⟨89, [(cfgN 2 true 0)], (.sc (.b (.and zFS1_0 (.and (.not (.or zFS1_36 (.or zFS1_39 (.or zFS1_37 (.or zFS1_38 zFS1_40))))) (.not zFS1_5)))))⟩
theorem r89_2t_ok : SmOk Try.prog r89_2t := smOk (c := ⟨cfg [], l_r89_1f, [105,82,106,84,51]⟩) (fun _ => cfg_ok (List.forall_mem_nil _)) l_r89_1f_ok (by kernel_rfl)
def l_r89_2t : List Sm := r89_2t :: l_r89_1f
theorem l_r89_2t_ok : ∀ s ∈ l_r89_2t, SmOk Try.prog s := List.forall_mem_cons.2 ⟨r89_2t_ok, l_r89_1f_ok⟩
def r89_2f : Sm := ⟨89, [(cfgN 2 false 0)], (.sc (.b (.and zFS1_0 (.and (.not (.or zFS1_36 zFS1_39)) (.and (.not zFS1_5) zFS1_18)))))⟩
theorem r89_2f_ok : SmOk Try.prog r89_2f := smOk (c := ⟨cfg [], l_r89_2t, [105,82,106,84,51]⟩) (fun _ => cfg_ok (List.forall_mem_nil _)) l_r89_2t_ok (by kernel_rfl)
def l_r89_2f : List Sm := r89_2f :: l_r89_2t
theorem l_r89_2f_ok : ∀ s ∈ l_r89_2f, SmOk Try.prog s := List.forall_mem_cons.2 ⟨r89_2f_ok, l_r89_2t_ok⟩
def r89_3t : Sm := ⟨89, [(cfgN 3 true 0)], (.sc (.b (.and zFS1_0 (.and (.not (.or zFS1_36 (.or zFS1_39 (.or zFS1_41 (.or zFS1_37 (.or zFS1_38 (.or zFS1_40 (.eq (.var 6) (.var 11))))))))) zFS1_4))))⟩
theorem r89_3t_ok : SmOk Try.prog r89_3t := smOk (c := ⟨cfg [], l_r89_2f, [105,82,106,84,51]⟩) (fun _ => cfg_ok (List.forall_mem_nil _)) l_r89_2f_ok (by kernel_rfl)
def l_r89_3t : List Sm := r89_3t :: l_r89_2f
theorem l_r89_3t_ok : ∀ s ∈ l_r89_3t, SmOk Try.prog s := List.forall_mem_cons.2 ⟨r89_3t_ok, l_r89_2f_ok⟩
def r89_3f : Sm := ⟨89, [(cfgN 3 false 0)], (.sc (.b (.and zFS1_0 (.and (.not (.or zFS1_36 (.or zFS1_39 zFS1_41))) (.and zFS1_4 zFS1_18)))))⟩
theorem r89_3f_ok : SmOk Try.prog r89_3f := smOk (c := ⟨cfg [], l_r89_3t, [105,82,106,84,51]⟩) (fun _ => cfg_ok (List.forall_mem_nil _)) l_r89_3t_ok (by kernel_rfl)
def l_r89_3f : List Sm := r89_3f :: l_r89_3t
theorem l_r89_3f_ok : ∀ s ∈ l_r89_3f, SmOk Try.prog s := List.forall_mem_cons.2 ⟨r89_3f_ok, l_r89_3t_ok⟩
def r89_4t : Sm := ⟨89, [(cfgN 4 true 0)], (.sc (.b (.and zFS1_0 (.not (.or zFS1_36 (.or zFS1_39 (.or zFS1_41 (.or zFS1_42 (.or zFS1_37 (.or zFS1_38 (.or zFS1_40 (.or (.eq (.var 6) (.var 11)) (.eq (.var 8) (.var 11))))))))))))))⟩
theorem r89_4t_ok : SmOk Try.prog r89_4t := smOk (c := ⟨cfg [], l_r89_3f, [105,82,106,84,51]⟩) (fun _ => cfg_ok (List.forall_mem_nil _)) l_r89_3f_ok (by kernel_rfl)
def l_r89_4t : List Sm := r89_4t :: l_r89_3f
theorem l_r89_4t_ok : ∀ s ∈ l_r89_4t, SmOk Try.prog s := List.forall_mem_cons.2 ⟨r89_4t_ok, l_r89_3f_ok⟩
def r89_4f : Sm := ⟨89, [(cfgN 4 false 0)], (.sc (.b (.and zFS1_0 (.and (.not (.or zFS1_36 (.or zFS1_39 (.or zFS1_41 zFS1_42)))) zFS1_18))))⟩
theorem r89_4f_ok : SmOk Try.prog r89_4f := smOk (c := ⟨cfg [], l_r89_4t, [105,82,106,84,51]⟩) (fun _ => cfg_ok (List.forall_mem_nil _)) l_r89_4t_ok (by kernel_rfl)
def l_r89_4f : List Sm := r89_4f :: l_r89_4t
theorem l_r89_4f_ok : ∀ s ∈ l_r89_4f, SmOk Try.prog s := List.forall_mem_cons.2 ⟨r89_4f_ok, l_r89_4t_ok⟩
end Go.Proofs.Ytonefailiekemaa
