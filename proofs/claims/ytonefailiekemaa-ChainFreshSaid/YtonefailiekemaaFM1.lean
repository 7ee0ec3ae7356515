/- What functions answer, run over letters, where something is known; each shown by running it. -/
import Derived.Test.YtonefailiekemaaXT
import Derived.Test.YtonefailiekemaaFKl
import Derived.Test.YtonefailiekemaaXwM3
namespace Go.Proofs.Ytonefailiekemaa
open Go Go.Proofs.Aw Go.Proofs.Xw
set_option maxRecDepth 100000
noncomputable def cMZ_c : Code := mC
noncomputable def cMN_c : Code := mC
noncomputable def lpMZ (f : Nat) : List LoopX := if Nat.beq f 7 = true then [cMZ] else []
theorem lpMZ_7o : othersB [cMZ] [0] 0 (loopsOf (Try.f7.body.getD .skip)) = true := by kernel_rfl
theorem lpMZ_7 {ρ : Rho} (h_cMZ : LoopOk Try.prog ρ Try.f7.ntmps cMZ_c cMZ) : LpsOk Try.prog ρ Try.f7.ntmps [cMZ] (Try.f7.body.getD .skip) :=
  lps_idx [0] lpMZ_7o (List.forall_mem_cons.2 ⟨look_list (c := cMZ_c) (Ls := [cMZ]) (by kernel_rfl) (List.forall_mem_cons.2 ⟨h_cMZ, List.forall_mem_nil _⟩), List.forall_mem_nil _⟩)
theorem lpMZ_ok {ρ : Rho} (h_cMZ : LoopOk Try.prog ρ Try.f7.ntmps cMZ_c cMZ) : ∀ f i, btLook f ftsT = some i → LpsOk Try.prog ρ i.ntmps (lpMZ f) i.body := by
  intro f i h
  have hi := fts_ok (f, i) (bt_of_mem _ _ (btLook_mem h))
  unfold lpMZ
  split
  · rename_i hf
    have hf := Nat.eq_of_beq_eq_true hf
    subst hf
    exact lps_row hi Try.func7 (lpMZ_7 h_cMZ)
  · exact LpsOk.nil _ _ _ _
noncomputable def lpMN (f : Nat) : List LoopX := if Nat.beq f 7 = true then [cMN] else []
theorem lpMN_7o : othersB [cMN] [0] 0 (loopsOf (Try.f7.body.getD .skip)) = true := by kernel_rfl
theorem lpMN_7 {ρ : Rho} (h_cMN : LoopOk Try.prog ρ Try.f7.ntmps cMN_c cMN) : LpsOk Try.prog ρ Try.f7.ntmps [cMN] (Try.f7.body.getD .skip) :=
  lps_idx [0] lpMN_7o (List.forall_mem_cons.2 ⟨look_list (c := cMN_c) (Ls := [cMN]) (by kernel_rfl) (List.forall_mem_cons.2 ⟨h_cMN, List.forall_mem_nil _⟩), List.forall_mem_nil _⟩)
theorem lpMN_ok {ρ : Rho} (h_cMN : LoopOk Try.prog ρ Try.f7.ntmps cMN_c cMN) : ∀ f i, btLook f ftsT = some i → LpsOk Try.prog ρ i.ntmps (lpMN f) i.body := by
  intro f i h
  have hi := fts_ok (f, i) (bt_of_mem _ _ (btLook_mem h))
  unfold lpMN
  split
  · rename_i hf
    have hf := Nat.eq_of_beq_eq_true hf
    subst hf
    exact lps_row hi Try.func7 (lpMN_7 h_cMN)
  · exact LpsOk.nil _ _ _ _
def bigA : Facts := [(.lt (.lit 400) (.len 0), true)]
def muchA : Facts := [(.var 90, true)]
def limZ : Facts := [(.var 90, false), (.lt (.lit 400) (.len 0), false)]
def limN : Facts := limZ ++ epF ++ [(.eq (.var 229) (.var 226), true), (.eq (.var 225) (.lit 0), true), (.lt (.var 301) (.lit 0), false), (.lt (.var 302) (.lit 0), false)]
def hlF (h l : Bool) : Facts := [(.eq (.var 301) (.var 206), h), (.eq (.var 302) (.var 206), l)]
def ndF : Facts := [(.lt (.var 206) (.lit 0), false)]

def frA : T X := (.ret (.sc (.b (.lit true))))
theorem frA_run : askF ⟨cfg [], l_able, HFL⟩ 7 ([iV 0, puR]) bigA = frA := by kernel_rfl
def frM : T X := (.ret (.sc (.b (.lit true))))
theorem frM_run : askF ⟨cfgL ksM (fun _ => []), l_able, HFL⟩ 7 ([iV 0, puR]) muchA = frM := by kernel_rfl
def frZ : T X := (.need (.not (.and (.not (.lt (.var 206) (.lit 0))) (.eq (.var 206) (.lit (-1))))) (.ret (.sc (.b (.lit true)))))
theorem frZ_run : askF ⟨cfgL ksM lpMZ, l_able, HFL⟩ 7 ([iV 0, puR]) limZ = frZ := by kernel_rfl
def frNtt : T X := (.ret (.sc (.b (.lit true))))
theorem frNtt_run : askF ⟨cfgL (ksM ++ ksRos) lpMN, l_able, HFL⟩ 7 ([iV 0, puR]) (limN ++ hlF true true ++ ndF) = frNtt := by kernel_rfl
def frNtf : T X := (.ret (.sc (.b (.lit true))))
theorem frNtf_run : askF ⟨cfgL (ksM ++ ksRos) lpMN, l_able, HFL⟩ 7 ([iV 0, puR]) (limN ++ hlF true false ++ ndF) = frNtf := by kernel_rfl
def frNft : T X := (.ret (.sc (.b (.lit true))))
theorem frNft_run : askF ⟨cfgL (ksM ++ ksRos) lpMN, l_able, HFL⟩ 7 ([iV 0, puR]) (limN ++ hlF false true ++ ndF) = frNft := by kernel_rfl
def frNff : T X := (.ret (.sc (.b (.lit true))))
theorem frNff_run : askF ⟨cfgL (ksM ++ ksRos) lpMN, l_able, HFL⟩ 7 ([iV 0, puR]) (limN ++ hlF false false) = frNff := by kernel_rfl
end Go.Proofs.Ytonefailiekemaa
