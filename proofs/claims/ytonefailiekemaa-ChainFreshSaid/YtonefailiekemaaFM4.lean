/- What functions answer, run over letters, where something is known; each shown by running it. -/
import Derived.Test.YtonefailiekemaaXT
import Derived.Test.YtonefailiekemaaFM2
import Derived.Test.YtonefailiekemaaFM3
import Derived.Test.YtonefailiekemaaXwM3
namespace Go.Proofs.Ytonefailiekemaa
open Go Go.Proofs.Aw Go.Proofs.Xw
set_option maxRecDepth 100000
noncomputable def cML_c : Code := mC
noncomputable def lpMLA (f : Nat) : List LoopX := if Nat.beq f 7 = true then [cML, cA] else []
theorem lpMLA_7o : othersB [cML, cA] [0, 1] 0 (loopsOf (Try.f7.body.getD .skip)) = true := by kernel_rfl
theorem lpMLA_7 {ρ : Rho} (h_cML : LoopOk Try.prog ρ Try.f7.ntmps cML_c cML) (h_cA : LoopOk Try.prog ρ Try.f7.ntmps cA_c cA) : LpsOk Try.prog ρ Try.f7.ntmps [cML, cA] (Try.f7.body.getD .skip) :=
  lps_idx [0, 1] lpMLA_7o (List.forall_mem_cons.2 ⟨look_list (c := cML_c) (Ls := [cML]) (by kernel_rfl) (List.forall_mem_cons.2 ⟨h_cML, List.forall_mem_nil _⟩), List.forall_mem_cons.2 ⟨look_list (c := cA_c) (Ls := [cA]) (by kernel_rfl) (List.forall_mem_cons.2 ⟨h_cA, List.forall_mem_nil _⟩), List.forall_mem_nil _⟩⟩)
theorem lpMLA_ok {ρ : Rho} (h_cML : LoopOk Try.prog ρ Try.f7.ntmps cML_c cML) (h_cA : LoopOk Try.prog ρ Try.f7.ntmps cA_c cA) : ∀ f i, btLook f ftsT = some i → LpsOk Try.prog ρ i.ntmps (lpMLA f) i.body := by
  intro f i h
  have hi := fts_ok (f, i) (bt_of_mem _ _ (btLook_mem h))
  unfold lpMLA
  split
  · rename_i hf
    have hf := Nat.eq_of_beq_eq_true hf
    subst hf
    exact lps_row hi Try.func7 (lpMLA_7 h_cML h_cA)
  · exact LpsOk.nil _ _ _ _
noncomputable def lpK (f : Nat) : List LoopX := if Nat.beq f 35 = true then [cK] else []
theorem lpK_35o : othersB [cK] [0] 0 (loopsOf (Try.f35.body.getD .skip)) = true := by kernel_rfl
theorem lpK_35 {ρ : Rho} (h_cK : LoopOk Try.prog ρ Try.f35.ntmps cK_c cK) : LpsOk Try.prog ρ Try.f35.ntmps [cK] (Try.f35.body.getD .skip) :=
  lps_idx [0] lpK_35o (List.forall_mem_cons.2 ⟨look_list (c := cK_c) (Ls := [cK]) (by kernel_rfl) (List.forall_mem_cons.2 ⟨h_cK, List.forall_mem_nil _⟩), List.forall_mem_nil _⟩)
theorem lpK_ok {ρ : Rho} (h_cK : LoopOk Try.prog ρ Try.f35.ntmps cK_c cK) : ∀ f i, btLook f ftsT = some i → LpsOk Try.prog ρ i.ntmps (lpK f) i.body := by
  intro f i h
  have hi := fts_ok (f, i) (bt_of_mem _ _ (btLook_mem h))
  unfold lpK
  split
  · rename_i hf
    have hf := Nat.eq_of_beq_eq_true hf
    subst hf
    exact lps_row hi Try.func35 (lpK_35 h_cK)
  · exact LpsOk.nil _ _ _ _
def lkA : List X := [.ip (objC logX 226) [] 0, .ip (objC logX 229) [] 0]
def ksEn : List (Nat × List X × X) := [(30, [logX, logX], .sc (.b (.lit true)))]
def ksLk : List (Nat × List X × X) := [(35, lkA, .sc (.b (.lit true)))]
def nA : Facts := [(.lt (.var 304) (.lit 0), true)]
def nB : Facts := [(.lt (.var 304) (.lit 0), false), (.eq (.var 225) (.lit 0), true)]
def nC : Facts := [(.lt (.var 304) (.lit 0), false), (.eq (.var 225) (.lit 0), false), (.lt (.var 227) (.var 225), true)]
def nD (v : Bool) : Facts := [(.lt (.var 304) (.lit 0), false), (.eq (.var 225) (.lit 0), false), (.lt (.var 227) (.var 225), false), (.lt (.var 226) (.var 225), v), (.lt (.var 229) (.var 225), v)]

def frL : T X := (.need (.not (.lt (.var 430) (.len 201))) (.ret (.sc (.b (.lit true)))))
theorem frL_run : askF ⟨cfgL (ksM ++ ksEn ++ ksLk) lpMLA, l_able, (16 :: HFL)⟩ 7 ([iV 0, puR]) limL = frL := by kernel_rfl
def lkAtt : T X := (.need (.lt (.op .add .i64 (.len 201) (.lit 1)) (.var 440)) (.ret (.sc (.b (.lit true)))))
theorem lkAtt_run : askF ⟨cfgL (ksEn ++ ksRos) lpK, l_able, (16 :: HFL)⟩ 35 (lkA) (lkF ++ nA ++ hlF true true ++ ndF) = lkAtt := by kernel_rfl
def lkAtf : T X := (.need (.lt (.op .add .i64 (.len 201) (.lit 1)) (.var 440)) (.ret (.sc (.b (.lit true)))))
theorem lkAtf_run : askF ⟨cfgL (ksEn ++ ksRos) lpK, l_able, (16 :: HFL)⟩ 35 (lkA) (lkF ++ nA ++ hlF true false ++ ndF) = lkAtf := by kernel_rfl
def lkAft : T X := (.need (.lt (.op .add .i64 (.len 201) (.lit 1)) (.var 440)) (.ret (.sc (.b (.lit true)))))
theorem lkAft_run : askF ⟨cfgL (ksEn ++ ksRos) lpK, l_able, (16 :: HFL)⟩ 35 (lkA) (lkF ++ nA ++ hlF false true ++ ndF) = lkAft := by kernel_rfl
def lkAff : T X := (.need (.lt (.op .add .i64 (.len 201) (.lit 1)) (.var 440)) (.ret (.sc (.b (.lit true)))))
theorem lkAff_run : askF ⟨cfgL (ksEn ++ ksRos) lpK, l_able, (16 :: HFL)⟩ 35 (lkA) (lkF ++ nA ++ hlF false false) = lkAff := by kernel_rfl
def lkBtt : T X := (.need (.lt (.op .add .i64 (.len 201) (.lit 1)) (.var 440)) (.ret (.sc (.b (.lit true)))))
theorem lkBtt_run : askF ⟨cfgL (ksEn ++ ksRos) lpK, l_able, (16 :: HFL)⟩ 35 (lkA) (lkF ++ nB ++ hlF true true ++ ndF) = lkBtt := by kernel_rfl
def lkBtf : T X := (.need (.lt (.op .add .i64 (.len 201) (.lit 1)) (.var 440)) (.ret (.sc (.b (.lit true)))))
theorem lkBtf_run : askF ⟨cfgL (ksEn ++ ksRos) lpK, l_able, (16 :: HFL)⟩ 35 (lkA) (lkF ++ nB ++ hlF true false ++ ndF) = lkBtf := by kernel_rfl
def lkBft : T X := (.need (.lt (.op .add .i64 (.len 201) (.lit 1)) (.var 440)) (.ret (.sc (.b (.lit true)))))
theorem lkBft_run : askF ⟨cfgL (ksEn ++ ksRos) lpK, l_able, (16 :: HFL)⟩ 35 (lkA) (lkF ++ nB ++ hlF false true ++ ndF) = lkBft := by kernel_rfl
def lkBff : T X := (.need (.lt (.op .add .i64 (.len 201) (.lit 1)) (.var 440)) (.ret (.sc (.b (.lit true)))))
theorem lkBff_run : askF ⟨cfgL (ksEn ++ ksRos) lpK, l_able, (16 :: HFL)⟩ 35 (lkA) (lkF ++ nB ++ hlF false false) = lkBff := by kernel_rfl
def lkCtt : T X := (.need (.lt (.op .add .i64 (.len 201) (.lit 1)) (.var 440)) (.ret (.sc (.b (.lit true)))))
theorem lkCtt_run : askF ⟨cfgL (ksEn ++ ksRos) lpK, l_able, (16 :: HFL)⟩ 35 (lkA) (lkF ++ nC ++ hlF true true ++ ndF) = lkCtt := by kernel_rfl
def lkCtf : T X := (.need (.lt (.op .add .i64 (.len 201) (.lit 1)) (.var 440)) (.ret (.sc (.b (.lit true)))))
theorem lkCtf_run : askF ⟨cfgL (ksEn ++ ksRos) lpK, l_able, (16 :: HFL)⟩ 35 (lkA) (lkF ++ nC ++ hlF true false ++ ndF) = lkCtf := by kernel_rfl
def lkCft : T X := (.need (.lt (.op .add .i64 (.len 201) (.lit 1)) (.var 440)) (.ret (.sc (.b (.lit true)))))
theorem lkCft_run : askF ⟨cfgL (ksEn ++ ksRos) lpK, l_able, (16 :: HFL)⟩ 35 (lkA) (lkF ++ nC ++ hlF false true ++ ndF) = lkCft := by kernel_rfl
def lkCff : T X := (.need (.lt (.op .add .i64 (.len 201) (.lit 1)) (.var 440)) (.ret (.sc (.b (.lit true)))))
theorem lkCff_run : askF ⟨cfgL (ksEn ++ ksRos) lpK, l_able, (16 :: HFL)⟩ 35 (lkA) (lkF ++ nC ++ hlF false false) = lkCff := by kernel_rfl
def lkDtt : T X := (.need (.lt (.op .add .i64 (.len 201) (.lit 1)) (.var 440)) (.ret (.sc (.b (.lit true)))))
theorem lkDtt_run : askF ⟨cfgL (ksEn ++ ksRos) lpK, l_able, (16 :: HFL)⟩ 35 (lkA) (lkF ++ nD true ++ hlF true true ++ ndF) = lkDtt := by kernel_rfl
def lkDtf : T X := (.need (.lt (.op .add .i64 (.len 201) (.lit 1)) (.var 440)) (.ret (.sc (.b (.lit true)))))
theorem lkDtf_run : askF ⟨cfgL (ksEn ++ ksRos) lpK, l_able, (16 :: HFL)⟩ 35 (lkA) (lkF ++ nD true ++ hlF true false ++ ndF) = lkDtf := by kernel_rfl
def lkDft : T X := (.need (.lt (.op .add .i64 (.len 201) (.lit 1)) (.var 440)) (.ret (.sc (.b (.lit true)))))
theorem lkDft_run : askF ⟨cfgL (ksEn ++ ksRos) lpK, l_able, (16 :: HFL)⟩ 35 (lkA) (lkF ++ nD true ++ hlF false true ++ ndF) = lkDft := by kernel_rfl
def lkDff : T X := (.need (.lt (.op .add .i64 (.len 201) (.lit 1)) (.var 440)) (.ret (.sc (.b (.lit true)))))
theorem lkDff_run : askF ⟨cfgL (ksEn ++ ksRos) lpK, l_able, (16 :: HFL)⟩ 35 (lkA) (lkF ++ nD true ++ hlF false false) = lkDff := by kernel_rfl
def lkEtt : T X := (.need (.lt (.op .add .i64 (.len 201) (.lit 1)) (.var 440)) (.ret (.sc (.b (.lit true)))))
theorem lkEtt_run : askF ⟨cfgL (ksEn ++ ksRos) lpK, l_able, (16 :: HFL)⟩ 35 (lkA) (lkF ++ nD false ++ hlF true true ++ ndF) = lkEtt := by kernel_rfl
def lkEtf : T X := (.need (.lt (.op .add .i64 (.len 201) (.lit 1)) (.var 440)) (.ret (.sc (.b (.lit true)))))
theorem lkEtf_run : askF ⟨cfgL (ksEn ++ ksRos) lpK, l_able, (16 :: HFL)⟩ 35 (lkA) (lkF ++ nD false ++ hlF true false ++ ndF) = lkEtf := by kernel_rfl
def lkEft : T X := (.need (.lt (.op .add .i64 (.len 201) (.lit 1)) (.var 440)) (.ret (.sc (.b (.lit true)))))
theorem lkEft_run : askF ⟨cfgL (ksEn ++ ksRos) lpK, l_able, (16 :: HFL)⟩ 35 (lkA) (lkF ++ nD false ++ hlF false true ++ ndF) = lkEft := by kernel_rfl
def lkEff : T X := (.need (.lt (.op .add .i64 (.len 201) (.lit 1)) (.var 440)) (.ret (.sc (.b (.lit true)))))
theorem lkEff_run : askF ⟨cfgL (ksEn ++ ksRos) lpK, l_able, (16 :: HFL)⟩ 35 (lkA) (lkF ++ nD false ++ hlF false false) = lkEff := by kernel_rfl
end Go.Proofs.Ytonefailiekemaa
