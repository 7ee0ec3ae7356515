/- What functions answer, run over letters, where something is known; each shown by running it. -/
import Derived.Test.YtonefailiekemaaXT
import Derived.Test.YtonefailiekemaaXCa3
import Derived.Test.YtonefailiekemaaXCtd
import Derived.Test.YtonefailiekemaaXCte
import Derived.Test.YtonefailiekemaaXCg
import Derived.Test.YtonefailiekemaaXwM2
namespace Go.Proofs.Ytonefailiekemaa
open Go Go.Proofs.Aw Go.Proofs.Xw
noncomputable def z0_c : Code := La.mC
noncomputable def y0_c : Code := La.mC
noncomputable def z1_c : Code := Lb.mC
noncomputable def y1_c : Code := Lb.mC
noncomputable def y2_c : Code := Lc.mC
noncomputable def w1_c : Code := Ld.sC_c
noncomputable def w2_c : Code := Le.sC_c
noncomputable def z0 : LoopX := La.cZ
noncomputable def y0 : LoopX := La.cY
noncomputable def z1 : LoopX := Lb.cZ
noncomputable def y1 : LoopX := Lb.cY
noncomputable def y2 : LoopX := Lc.cM
noncomputable def w1 : LoopX := Ld.cS
noncomputable def w2 : LoopX := Le.cS
noncomputable def lpM0 (f : Nat) : List LoopX := if Nat.beq f 8 = true then [z0, z1] else []
theorem lpM0_8o : othersB [z0, z1] [0, 1] 0 (loopsOf (Try.f8.body.getD .skip)) = true := by kernel_rfl
theorem lpM0_8 {ρ : Rho} (h_z0 : LoopOk Try.prog ρ Try.f8.ntmps z0_c z0) (h_z1 : LoopOk Try.prog ρ Try.f8.ntmps z1_c z1) : LpsOk Try.prog ρ Try.f8.ntmps [z0, z1] (Try.f8.body.getD .skip) :=
  lps_idx [0, 1] lpM0_8o (List.forall_mem_cons.2 ⟨look_list (c := z0_c) (Ls := [z0]) (by kernel_rfl) (List.forall_mem_cons.2 ⟨h_z0, List.forall_mem_nil _⟩), List.forall_mem_cons.2 ⟨look_list (c := z1_c) (Ls := [z1]) (by kernel_rfl) (List.forall_mem_cons.2 ⟨h_z1, List.forall_mem_nil _⟩), List.forall_mem_nil _⟩⟩)
theorem lpM0_ok {ρ : Rho} (h_z0 : LoopOk Try.prog ρ Try.f8.ntmps z0_c z0) (h_z1 : LoopOk Try.prog ρ Try.f8.ntmps z1_c z1) : ∀ f i, btLook f ftsT = some i → LpsOk Try.prog ρ i.ntmps (lpM0 f) i.body := by
  intro f i h
  have hi := fts_ok (f, i) (bt_of_mem _ _ (btLook_mem h))
  unfold lpM0
  split
  · rename_i hf
    have hf := Nat.eq_of_beq_eq_true hf
    subst hf
    exact lps_row hi Try.func8 (lpM0_8 h_z0 h_z1)
  · exact LpsOk.nil _ _ _ _
noncomputable def lpM1 (f : Nat) : List LoopX := if Nat.beq f 8 = true then [z0, y1, w1] else []
theorem lpM1_8o : othersB [z0, y1, w1] [0, 1, 2] 0 (loopsOf (Try.f8.body.getD .skip)) = true := by kernel_rfl
theorem lpM1_8 {ρ : Rho} (h_z0 : LoopOk Try.prog ρ Try.f8.ntmps z0_c z0) (h_y1 : LoopOk Try.prog ρ Try.f8.ntmps y1_c y1) (h_w1 : LoopOk Try.prog ρ Try.f8.ntmps w1_c w1) : LpsOk Try.prog ρ Try.f8.ntmps [z0, y1, w1] (Try.f8.body.getD .skip) :=
  lps_idx [0, 1, 2] lpM1_8o (List.forall_mem_cons.2 ⟨look_list (c := z0_c) (Ls := [z0]) (by kernel_rfl) (List.forall_mem_cons.2 ⟨h_z0, List.forall_mem_nil _⟩), List.forall_mem_cons.2 ⟨look_list (c := y1_c) (Ls := [y1]) (by kernel_rfl) (List.forall_mem_cons.2 ⟨h_y1, List.forall_mem_nil _⟩), List.forall_mem_cons.2 ⟨look_list (c := w1_c) (Ls := [w1]) (by kernel_rfl) (List.forall_mem_cons.2 ⟨h_w1, List.forall_mem_nil _⟩), List.forall_mem_nil _⟩⟩⟩)
theorem lpM1_ok {ρ : Rho} (h_z0 : LoopOk Try.prog ρ Try.f8.ntmps z0_c z0) (h_y1 : LoopOk Try.prog ρ Try.f8.ntmps y1_c y1) (h_w1 : LoopOk Try.prog ρ Try.f8.ntmps w1_c w1) : ∀ f i, btLook f ftsT = some i → LpsOk Try.prog ρ i.ntmps (lpM1 f) i.body := by
  intro f i h
  have hi := fts_ok (f, i) (bt_of_mem _ _ (btLook_mem h))
  unfold lpM1
  split
  · rename_i hf
    have hf := Nat.eq_of_beq_eq_true hf
    subst hf
    exact lps_row hi Try.func8 (lpM1_8 h_z0 h_y1 h_w1)
  · exact LpsOk.nil _ _ _ _
noncomputable def lpM2 (f : Nat) : List LoopX := if Nat.beq f 8 = true then [y0, y2, w2] else []
theorem lpM2_8o : othersB [y0, y2, w2] [0, 1, 2] 0 (loopsOf (Try.f8.body.getD .skip)) = true := by kernel_rfl
theorem lpM2_8 {ρ : Rho} (h_y0 : LoopOk Try.prog ρ Try.f8.ntmps y0_c y0) (h_y2 : LoopOk Try.prog ρ Try.f8.ntmps y2_c y2) (h_w2 : LoopOk Try.prog ρ Try.f8.ntmps w2_c w2) : LpsOk Try.prog ρ Try.f8.ntmps [y0, y2, w2] (Try.f8.body.getD .skip) :=
  lps_idx [0, 1, 2] lpM2_8o (List.forall_mem_cons.2 ⟨look_list (c := y0_c) (Ls := [y0]) (by kernel_rfl) (List.forall_mem_cons.2 ⟨h_y0, List.forall_mem_nil _⟩), List.forall_mem_cons.2 ⟨look_list (c := y2_c) (Ls := [y2]) (by kernel_rfl) (List.forall_mem_cons.2 ⟨h_y2, List.forall_mem_nil _⟩), List.forall_mem_cons.2 ⟨look_list (c := w2_c) (Ls := [w2]) (by kernel_rfl) (List.forall_mem_cons.2 ⟨h_w2, List.forall_mem_nil _⟩), List.forall_mem_nil _⟩⟩⟩)
theorem lpM2_ok {ρ : Rho} (h_y0 : LoopOk Try.prog ρ Try.f8.ntmps y0_c y0) (h_y2 : LoopOk Try.prog ρ Try.f8.ntmps y2_c y2) (h_w2 : LoopOk Try.prog ρ Try.f8.ntmps w2_c w2) : ∀ f i, btLook f ftsT = some i → LpsOk Try.prog ρ i.ntmps (lpM2 f) i.body := by
  intro f i h
  have hi := fts_ok (f, i) (bt_of_mem _ _ (btLook_mem h))
  unfold lpM2
  split
  · rename_i hf
    have hf := Nat.eq_of_beq_eq_true hf
    subst hf
    exact lps_row hi Try.func8 (lpM2_8 h_y0 h_y2 h_w2)
  · exact LpsOk.nil _ _ _ _
def moR : X := .rl 50 (.len 1) (.var 1 ka) false
def ksA : List (Nat × List X × X) := [(10, [puR], .sc (.b (.var 90)))]
def ksM : List (Nat × List X × X) := [(10, [puR], .sc (.b (.var 90))), (10, [moR], .sc (.b (.var 91)))]
def ksE : List (Nat × List X × X) := (30, [.rl 20 (.len 601) (.var 601 ke) false, .rl 20 (.len 1002) (.var 1002 ke) false], .sc (.b (.lit true))) :: ksM
def bigA : Facts := [(.lt (.lit 400) (.len 0), true)]
def muchA : Facts := [(.var 90, true)]
def bigB : Facts := [(.var 90, false), (.lt (.lit 400) (.len 1), true)]
def muchB : Facts := [(.var 90, false), (.var 91, true)]
def lim0 : Facts := [(.var 90, false), (.var 91, false), (.lt (.lit 400) (.len 0), false), (.lt (.lit 400) (.len 1), false)]
def lim1 : Facts := lim0 ++ [(.lt (.len 601) (.lit 1), false), (.lt (.lit 256) (.len 601), false), (.lt (.len 1002) (.lit 1), false), (.lt (.lit 256) (.len 1002), false), (.eq (.len 1002) (.len 601), true), (.eq (.var 1003) (.len 601), true), (.eq (.var 1004) (.len 601), true)]
def lim2 : Facts := lim0 ++ [(.lt (.len 601) (.lit 1), false), (.lt (.lit 256) (.len 601), false), (.lt (.len 201) (.lit 1), false), (.lt (.lit 256) (.len 201), false), (.lt (.len 601) (.len 201), false), (.lt (.len 1002) (.lit 1), false), (.lt (.lit 256) (.len 1002), false), (.eq (.len 1002) (.len 601), true), (.eq (.var 1003) (.len 601), true), (.eq (.var 1004) (.len 601), true)]
def onceA : T X := (.ret (.sc (.b (.lit true))))
set_option maxRecDepth 100000 in
theorem onceA_run : askF ⟨cfg [], l_able, HFL⟩ 8 ([puR, moR]) bigA = onceA := by kernel_rfl
def onceM : T X := (.ret (.sc (.b (.lit true))))
set_option maxRecDepth 100000 in
theorem onceM_run : askF ⟨cfgL ksA (fun _ => []), l_able, HFL⟩ 8 ([puR, moR]) muchA = onceM := by kernel_rfl
def onceB : T X := (.ret (.sc (.b (.lit true))))
set_option maxRecDepth 100000 in
theorem onceB_run : askF ⟨cfgL ksA (fun _ => []), l_able, HFL⟩ 8 ([puR, moR]) bigB = onceB := by kernel_rfl
def onceN : T X := (.ret (.sc (.b (.lit true))))
set_option maxRecDepth 100000 in
theorem onceN_run : askF ⟨cfgL ksM (fun _ => []), l_able, HFL⟩ 8 ([puR, moR]) muchB = onceN := by kernel_rfl
def once0 : T X := (.ret (.sc (.b (.lit true))))
set_option maxRecDepth 100000 in
theorem once0_run : askF ⟨cfgL ksM lpM0, l_able, HFL⟩ 8 ([puR, moR]) lim0 = once0 := by kernel_rfl
def once1 : T X := (.ret (.sc (.b (.eq (.var 1003) (.len 601)))))
set_option maxRecDepth 100000 in
theorem once1_run : askF ⟨cfgL ksE lpM1, l_able, HFL⟩ 8 ([puR, moR]) lim1 = once1 := by kernel_rfl
def once2 : T X := (.ret (.sc (.b (.eq (.var 1003) (.len 601)))))
set_option maxRecDepth 100000 in
theorem once2_run : askF ⟨cfgL ksE lpM2, l_able, HFL⟩ 8 ([puR, moR]) lim2 = once2 := by kernel_rfl
end Go.Proofs.Ytonefailiekemaa
