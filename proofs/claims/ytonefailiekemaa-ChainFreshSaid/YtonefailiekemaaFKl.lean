/- ChainFresh, ChainBounds: the loop over acts is shown. -/
import Derived.Test.YtonefailiekemaaFKk
namespace Go.Proofs.Ytonefailiekemaa
open Go Go.Proofs.Aw Go.Proofs.Xw
set_option maxRecDepth 100000
def x0F : Facts := [(.lt (.var 200) (.len 0), false)]
noncomputable def cE : Cfg := cfgL [] (fun _ => [])
noncomputable def xRun (Φ : Facts) (S : XS) : T (XE × XS) := (codeX cE.ti (callS ⟨cE, l_able, HFL⟩ 12) ((cE.ft 7).elim [] (·.ms)) 0 [] 1000 mC Φ S).map (sqz mK)
abbrev zFKl_0 : XTp := [(18, .top), (17, .top), (16, .top), (15, .top), (14, .top), (13, .top), (12, .top), (11, .top), (4, .top)]
abbrev zFKl_1 : X := .sc (.i .i64 (.var 0))
abbrev zFKl_2 : X := .rl 50 (.len 0) (.var 0 [(.i .i64), (.i .i64), (.i .i64), (.i .i64), (.i .i64), (.i .i64), (.i .i64), (.i .i64), (.i .i64), (.i .i64), (.i .i64), (.i .i64), (.i .i64), (.i .i64), (.i .i64), .b, (.i .i64), (.i .i64), .s, .s, .b, (.i .i64), (.i .i64), (.i .i64), (.i .i64), (.i .i64), (.i .i64), (.i .i64), (.i .i64), (.i .i64), (.i .i64), (.i .i64), (.i .i64), (.i .i64), (.i .i64), (.i .i64), .s, .s, .b, (.i .i64), (.i .i64), (.i .i64), (.i .i64), (.i .i64), (.i .i64), (.i .i64), (.i .i64), (.i .i64), (.i .i64), (.i .i64)]) false
abbrev zFKl_3 : XTp := ([(7, (.sc (.i .i64 (.var 200)))), (6, (.ptr (14, 0) [] 0)), (5, (.ptr (12, 0) [] 0))] ++ zFKl_0 ++ [(0, zFKl_1), (1, zFKl_2)])
abbrev zFKl_4 : X := .sc (.i .i64 (.var 204))
abbrev zFKl_5 : X := .sc (.i .i64 (.var 205))
abbrev zFKl_6 : X := .sc (.i .i64 (.var 206))
abbrev zFKl_7 : X := .sc (.i .i64 (.lit 0))
abbrev zFKl_8 : X := .sc (.b (.lit false))
abbrev zFKl_9 : X := .k (.slice none 0 0)
abbrev zFKl_10 : List X := [zFKl_4, zFKl_5, zFKl_6, zFKl_7, zFKl_7, zFKl_7, zFKl_7, zFKl_7, zFKl_7, zFKl_7, zFKl_7, zFKl_7, zFKl_7, zFKl_8, zFKl_7, zFKl_7, zFKl_7, zFKl_7, zFKl_9, zFKl_7, zFKl_7, zFKl_7, zFKl_7, zFKl_8]
abbrev zFKl_11 : XHp := [((12, 0), zFKl_10), ((14, 0), zFKl_10)]
abbrev zFKl_12 : XTp := ([(7, .top), (6, (.ptr (14, 0) [] 0)), (5, (.ptr (12, 0) [] 0))] ++ zFKl_0 ++ [(0, zFKl_1), (1, zFKl_2)])
abbrev zFKl_13 : X := .sc (.i .i64 (.var 210))
abbrev zFKl_14 : X := .sc (.i .i64 (.var 211))
abbrev zFKl_15 : X := .sc (.i .i64 (.var 212))
abbrev zFKl_16 : X := .sc (.i .i64 (.var 213))
abbrev zFKl_17 : X := .sc (.i .i64 (.var 214))
abbrev zFKl_18 : X := .sc (.i .i64 (.var 215))
abbrev zFKl_19 : X := .sc (.i .i64 (.var 216))
abbrev zFKl_20 : X := .sc (.i .i64 (.var 217))
abbrev zFKl_21 : X := .sc (.i .i64 (.var 218))
abbrev zFKl_22 : X := .sc (.i .i64 (.var 219))
abbrev zFKl_23 : X := .sc (.b (.var 220))
abbrev zFKl_24 : X := .sc (.i .i64 (.var 221))
abbrev zFKl_25 : X := .sc (.i .i64 (.var 222))
abbrev zFKl_26 : X := .sc (.i .i64 (.var 223))
abbrev zFKl_27 : X := .sc (.i .i64 (.var 224))
abbrev zFKl_28 : X := .sc (.i .i64 (.var 225))
abbrev zFKl_29 : X := .sc (.i .i64 (.var 227))
abbrev zFKl_30 : X := .sc (.b (.lit true))
abbrev zFKl_31 : XHp := [((12, 0), [zFKl_4, zFKl_5, zFKl_6, zFKl_13, zFKl_14, zFKl_15, zFKl_16, zFKl_17, zFKl_18, zFKl_19, zFKl_20, zFKl_21, zFKl_22, zFKl_23, zFKl_24, zFKl_25, zFKl_26, zFKl_27, zFKl_9, zFKl_28, (.sc (.i .i64 (.var 226))), zFKl_29, zFKl_7, zFKl_30]), ((14, 0), [zFKl_4, zFKl_5, zFKl_6, zFKl_13, zFKl_14, zFKl_15, zFKl_16, zFKl_17, zFKl_18, zFKl_19, zFKl_20, zFKl_21, zFKl_22, zFKl_23, zFKl_24, zFKl_25, zFKl_26, zFKl_27, zFKl_9, zFKl_28, (.sc (.i .i64 (.var 229))), zFKl_29, zFKl_7, zFKl_30])]
abbrev zFKl_32 : List X := [(.rows 20 (.len 201) (.var 201 [(.i .i64), (.i .i64), (.i .i64), (.i .i64), (.i .i64), (.i .i64), .s, .s, .b, (.i .i64), (.i .i64), (.i .i64), (.i .i64), (.i .i64), (.i .i64), (.i .i64), (.i .i64), (.i .i64), (.i .i64), (.i .i64)]))]
abbrev zFKl_33 : XHp := [((12, 0), [zFKl_4, zFKl_5, zFKl_6, zFKl_13, zFKl_14, zFKl_15, zFKl_16, zFKl_17, zFKl_18, zFKl_19, zFKl_20, zFKl_21, zFKl_22, zFKl_23, zFKl_24, zFKl_25, zFKl_26, zFKl_27, (.slv (11, 0) 20 (.lit 0) (.len 201) true), zFKl_28, (.sc (.i .i64 (.var 226))), zFKl_29, zFKl_7, zFKl_30]), ((14, 0), [zFKl_4, zFKl_5, zFKl_6, zFKl_13, zFKl_14, zFKl_15, zFKl_16, zFKl_17, zFKl_18, zFKl_19, zFKl_20, zFKl_21, zFKl_22, zFKl_23, zFKl_24, zFKl_25, zFKl_26, zFKl_27, (.slv (13, 0) 20 (.lit 0) (.len 201) true), zFKl_28, (.sc (.i .i64 (.var 229))), zFKl_29, zFKl_7, zFKl_30]), ((11, 0), zFKl_32), ((13, 0), zFKl_32)]
abbrev zFKl_34 : List X := [zFKl_7, zFKl_7, zFKl_1, zFKl_7, zFKl_7, zFKl_7, zFKl_7, zFKl_7, zFKl_7, zFKl_7, zFKl_7, zFKl_7, zFKl_7, zFKl_8, zFKl_7, zFKl_7, zFKl_7, zFKl_7, zFKl_9, zFKl_7, zFKl_7, zFKl_7, zFKl_7, zFKl_8]
def xZs : XS := ⟨zFKl_3, zFKl_11, 44⟩
theorem xZ_run : xRun x0F (mS hpZ) = .ret (.exit 0, xZs) := by kernel_rfl
def oZ : XS := ⟨zFKl_12, zFKl_11, 60⟩
theorem xZ_ok : okS 0 1000 noB [] oZ xZs = true := by kernel_rfl
def xNs : XS := ⟨zFKl_3, zFKl_31, 44⟩
theorem xN_run : xRun x0F (mS hpN) = .ret (.exit 0, xNs) := by kernel_rfl
def oN : XS := ⟨zFKl_12, zFKl_31, 60⟩
theorem xN_ok : okS 0 1000 noB [] oN xNs = true := by kernel_rfl
def xLs : XS := ⟨zFKl_3, zFKl_33, 44⟩
theorem xL_run : xRun x0F (mS hpL) = .ret (.exit 0, xLs) := by kernel_rfl
def oL : XS := ⟨zFKl_12, zFKl_33, 60⟩
theorem xL_ok : okS 0 1000 noB [] oL xLs = true := by kernel_rfl
def mSi : XS := ⟨[(7, zFKl_7), (6, (.ptr (8, 0) [] 0)), (5, (.ptr (6, 0) [] 0)), (18, (.ptr (8, 0) [] 0)), (17, zFKl_1), (16, (.ptr (6, 0) [] 0)), (15, zFKl_1), (14, (.sc (.b (.var 90)))), (13, zFKl_2), (12, zFKl_8), (11, zFKl_30), (4, zFKl_8), (0, zFKl_1), (1, zFKl_2)], [((6, 0), zFKl_34), ((8, 0), zFKl_34)], 12⟩
def bI : Bind := ⟨[(200, .lit 0), (204, .lit 0), (205, .lit 0), (206, .var 0)], [(901, .lit false), (902, .lit false)], [], []⟩
theorem mSi_ok : okS 0 200 bI (nmS (mS hpZ) mSi) (mS hpZ) mSi = true := by kernel_rfl
theorem mSi_b : mSi.bel 200 = true := by kernel_rfl
def oT : T (XE × XS) := .br (.var 901) (.br (.var 902) (.ret (.exit 0, oL)) (.ret (.exit 0, oN))) (.ret (.exit 0, oZ))
noncomputable def cM : LoopX := ⟨(codeKey mC).getD 0, 0, 200, mSi, noB, [], oT⟩
/-- The loop over acts, in one of its ends each. -/
noncomputable def cMZ : LoopX := ⟨(codeKey mC).getD 0, 0, 200, mSi, noB, [], .ret (.exit 0, oZ)⟩
noncomputable def cMN : LoopX := ⟨(codeKey mC).getD 0, 0, 200, mSi, noB, [], .ret (.exit 0, oN)⟩
noncomputable def cML : LoopX := ⟨(codeKey mC).getD 0, 0, 200, mSi, noB, [], .ret (.exit 0, oL)⟩
theorem end_of {ρ : Rho} {Φ : Facts} {S s o : XS} (hk : Facts.ok ρ Φ) (hs : xRun Φ S = .ret (.exit 0, s)) (ho : cM.out.sel ρ = some (.exit 0, o)) (h : okS 0 1000 noB [] o s = true) : EndL Try.prog mN mC 0 S cM.out ρ := by
  have hsel : (xRun Φ S).sel ρ = some (.exit 0, s) := by rw [hs]; rfl
  exact endF_of (e := .exit 0) mixed tis_ok (callC HFL ρ) (LpsOk.nil _ _ _ _) m_fits hk rfl (fun h => nomatch h) hsel ⟨o, ho, fun E hb => okS_imp hb h ρ⟩
theorem outZ {ρ : Rho} (h : ρ.b 901 = false) : cM.out.sel ρ = some (.exit 0, oZ) := by
  show oT.sel ρ = _
  unfold oT
  rw [T.sel, if_neg (by simp [BE.den, h])]; rfl
theorem outN {ρ : Rho} (h : ρ.b 901 = true) (k : ρ.b 902 = false) : cM.out.sel ρ = some (.exit 0, oN) := by
  show oT.sel ρ = _
  unfold oT
  rw [T.sel, if_pos (by simp [BE.den, h]), T.sel, if_neg (by simp [BE.den, k])]; rfl
theorem outL {ρ : Rho} (h : ρ.b 901 = true) (k : ρ.b 902 = true) : cM.out.sel ρ = some (.exit 0, oL) := by
  show oT.sel ρ = _
  unfold oT
  rw [T.sel, if_pos (by simp [BE.den, h]), T.sel, if_pos (by simp [BE.den, k])]; rfl
theorem cM_ok (ρ : Rho) (hb : ρ.b 90 = false) (h0 : ρ.len 0 ≤ 400) : ∃ i ρf, Agree 200 ρ ρf ∧ Rd i ρf ∧ LoopOk Try.prog ρf mN mC cM := by
  refine loopOk_fam (L := cM) rfl mSi_b Ss Rd Me ?_ ⟨0, bI.ap ρ, Bind.agree rfl ρ, ⟨⟨hb, h0, Int.le_refl 0, ?_⟩, .inl ⟨rfl, rfl⟩⟩, fun E _ hE => okS_imp hE mSi_ok ρ⟩
  · have xk : ∀ {ρ : Rho}, ¬ ρ.i 200 < ρ.len 0 → Facts.ok ρ x0F := fun {ρ} hi => Facts.ok_cons (by rw [dlt_f]; simp only [IE.den]; omega) (Facts.ok_nil _)
    intro i ρ hR
    by_cases hi : ρ.i 200 < ρ.len 0
    · exact .inr (step hR hi)
    · refine .inl ⟨ρ, Agree.refl _ _, hR, rfl, ?_⟩
      obtain ⟨_, ⟨rfl, h1⟩ | ⟨rfl, h1, h2, _⟩ | ⟨rfl, h1, h2, _⟩⟩ := hR
      · exact end_of (xk hi) xZ_run (outZ h1) xZ_ok
      · exact end_of (xk hi) xN_run (outN h1 h2) xN_ok
      · exact end_of (xk hi) xL_run (outL h1 h2) xL_ok
  · show (0 : Int) ≤ ρ.len 0
    omega
end Go.Proofs.Ytonefailiekemaa
