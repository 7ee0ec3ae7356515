/- ChainFresh, ChainBounds: the loop over acts is shown. -/
import Derived.Test.YtonefailiekemaaGKk
namespace Go.Proofs.Ytonefailiekemaa
open Go Go.Proofs.Aw Go.Proofs.Xw
set_option maxRecDepth 100000
def x0F : Facts := [(.lt (.var 200) (.len 0), false)]
noncomputable def cE : Cfg := cfgL [] (fun _ => [])
noncomputable def xRun (Φ : Facts) (S : XS) : T (XE × XS) := (codeX cE.ti (callS ⟨cE, l_able, HFL⟩ 12) ((cE.ft 6).elim [] (·.ms)) 0 [] 1000 mC Φ S).map (sqz mK)
abbrev zGKl_0 : X := .ptr (12, 0) [] 0
abbrev zGKl_1 : XTp := [(28, .top), (27, .top), (26, .top), (25, .top), (24, .top), (23, .top), (22, .top), (21, .top), (20, .top), (19, .top), (18, .top), (17, .top), (8, .top)]
abbrev zGKl_2 : X := .sc (.i .i64 (.var 0))
abbrev zGKl_3 : X := .sc (.i .i64 (.var 1))
abbrev zGKl_4 : X := .sc (.i .i64 (.var 2))
abbrev zGKl_5 : X := .rl 50 (.len 0) (.var 0 [(.i .i64), (.i .i64), (.i .i64), (.i .i64), (.i .i64), (.i .i64), (.i .i64), (.i .i64), (.i .i64), (.i .i64), (.i .i64), (.i .i64), (.i .i64), (.i .i64), (.i .i64), .b, (.i .i64), (.i .i64), .s, .s, .b, (.i .i64), (.i .i64), (.i .i64), (.i .i64), (.i .i64), (.i .i64), (.i .i64), (.i .i64), (.i .i64), (.i .i64), (.i .i64), (.i .i64), (.i .i64), (.i .i64), (.i .i64), .s, .s, .b, (.i .i64), (.i .i64), (.i .i64), (.i .i64), (.i .i64), (.i .i64), (.i .i64), (.i .i64), (.i .i64), (.i .i64), (.i .i64)]) false
abbrev zGKl_6 : XTp := [(0, zGKl_2), (1, zGKl_3), (2, zGKl_4), (3, zGKl_5)]
abbrev zGKl_7 : XTp := ([(11, (.sc (.i .i64 (.var 200)))), (10, (.ptr (14, 0) [] 0)), (9, zGKl_0)] ++ zGKl_1 ++ zGKl_6)
abbrev zGKl_8 : X := .sc (.i .i64 (.var 204))
abbrev zGKl_9 : X := .sc (.i .i64 (.var 205))
abbrev zGKl_10 : X := .sc (.i .i64 (.var 206))
abbrev zGKl_11 : X := .sc (.i .i64 (.lit 0))
abbrev zGKl_12 : X := .sc (.b (.lit false))
abbrev zGKl_13 : X := .k (.slice none 0 0)
abbrev zGKl_14 : List X := [zGKl_8, zGKl_9, zGKl_10, zGKl_11, zGKl_11, zGKl_11, zGKl_11, zGKl_11, zGKl_11, zGKl_11, zGKl_11, zGKl_11, zGKl_11, zGKl_12, zGKl_11, zGKl_11, zGKl_11, zGKl_11, zGKl_13, zGKl_11, zGKl_11, zGKl_11, zGKl_11, zGKl_12]
abbrev zGKl_15 : XHp := [((12, 0), zGKl_14), ((14, 0), zGKl_14)]
abbrev zGKl_16 : XTp := ([(11, .top), (10, (.ptr (14, 0) [] 0)), (9, zGKl_0)] ++ zGKl_1 ++ zGKl_6)
abbrev zGKl_17 : X := .sc (.i .i64 (.var 210))
abbrev zGKl_18 : X := .sc (.i .i64 (.var 211))
abbrev zGKl_19 : X := .sc (.i .i64 (.var 212))
abbrev zGKl_20 : X := .sc (.i .i64 (.var 213))
abbrev zGKl_21 : X := .sc (.i .i64 (.var 214))
abbrev zGKl_22 : X := .sc (.i .i64 (.var 215))
abbrev zGKl_23 : X := .sc (.i .i64 (.var 216))
abbrev zGKl_24 : X := .sc (.i .i64 (.var 217))
abbrev zGKl_25 : X := .sc (.i .i64 (.var 218))
abbrev zGKl_26 : X := .sc (.i .i64 (.var 219))
abbrev zGKl_27 : X := .sc (.b (.var 220))
abbrev zGKl_28 : X := .sc (.i .i64 (.var 221))
abbrev zGKl_29 : X := .sc (.i .i64 (.var 222))
abbrev zGKl_30 : X := .sc (.i .i64 (.var 223))
abbrev zGKl_31 : X := .sc (.i .i64 (.var 224))
abbrev zGKl_32 : X := .sc (.i .i64 (.var 225))
abbrev zGKl_33 : X := .sc (.i .i64 (.var 227))
abbrev zGKl_34 : X := .sc (.b (.lit true))
abbrev zGKl_35 : XHp := [((12, 0), [zGKl_8, zGKl_9, zGKl_10, zGKl_17, zGKl_18, zGKl_19, zGKl_20, zGKl_21, zGKl_22, zGKl_23, zGKl_24, zGKl_25, zGKl_26, zGKl_27, zGKl_28, zGKl_29, zGKl_30, zGKl_31, zGKl_13, zGKl_32, (.sc (.i .i64 (.var 226))), zGKl_33, zGKl_11, zGKl_34]), ((14, 0), [zGKl_8, zGKl_9, zGKl_10, zGKl_17, zGKl_18, zGKl_19, zGKl_20, zGKl_21, zGKl_22, zGKl_23, zGKl_24, zGKl_25, zGKl_26, zGKl_27, zGKl_28, zGKl_29, zGKl_30, zGKl_31, zGKl_13, zGKl_32, (.sc (.i .i64 (.var 229))), zGKl_33, zGKl_11, zGKl_34])]
abbrev zGKl_36 : List X := [(.rows 20 (.len 201) (.var 201 [(.i .i64), (.i .i64), (.i .i64), (.i .i64), (.i .i64), (.i .i64), .s, .s, .b, (.i .i64), (.i .i64), (.i .i64), (.i .i64), (.i .i64), (.i .i64), (.i .i64), (.i .i64), (.i .i64), (.i .i64), (.i .i64)]))]
abbrev zGKl_37 : XHp := [((12, 0), [zGKl_8, zGKl_9, zGKl_10, zGKl_17, zGKl_18, zGKl_19, zGKl_20, zGKl_21, zGKl_22, zGKl_23, zGKl_24, zGKl_25, zGKl_26, zGKl_27, zGKl_28, zGKl_29, zGKl_30, zGKl_31, (.slv (11, 0) 20 (.lit 0) (.len 201) true), zGKl_32, (.sc (.i .i64 (.var 226))), zGKl_33, zGKl_11, zGKl_34]), ((14, 0), [zGKl_8, zGKl_9, zGKl_10, zGKl_17, zGKl_18, zGKl_19, zGKl_20, zGKl_21, zGKl_22, zGKl_23, zGKl_24, zGKl_25, zGKl_26, zGKl_27, zGKl_28, zGKl_29, zGKl_30, zGKl_31, (.slv (13, 0) 20 (.lit 0) (.len 201) true), zGKl_32, (.sc (.i .i64 (.var 229))), zGKl_33, zGKl_11, zGKl_34]), ((11, 0), zGKl_36), ((13, 0), zGKl_36)]
abbrev zGKl_38 : List X := [zGKl_2, zGKl_3, zGKl_4, zGKl_11, zGKl_11, zGKl_11, zGKl_11, zGKl_11, zGKl_11, zGKl_11, zGKl_11, zGKl_11, zGKl_11, zGKl_12, zGKl_11, zGKl_11, zGKl_11, zGKl_11, zGKl_13, zGKl_11, zGKl_11, zGKl_11, zGKl_11, zGKl_12]
def xZs : XS := ⟨zGKl_7, zGKl_15, 32⟩
theorem xZ_run : xRun x0F (mS hpZ) = .ret (.exit 0, xZs) := by kernel_rfl
def oZ : XS := ⟨zGKl_16, zGKl_15, 60⟩
theorem xZ_ok : okS 0 1000 noB [] oZ xZs = true := by kernel_rfl
def xNs : XS := ⟨zGKl_7, zGKl_35, 32⟩
theorem xN_run : xRun x0F (mS hpN) = .ret (.exit 0, xNs) := by kernel_rfl
def oN : XS := ⟨zGKl_16, zGKl_35, 60⟩
theorem xN_ok : okS 0 1000 noB [] oN xNs = true := by kernel_rfl
def xLs : XS := ⟨zGKl_7, zGKl_37, 32⟩
theorem xL_run : xRun x0F (mS hpL) = .ret (.exit 0, xLs) := by kernel_rfl
def oL : XS := ⟨zGKl_16, zGKl_37, 60⟩
theorem xL_ok : okS 0 1000 noB [] oL xLs = true := by kernel_rfl
def mSi : XS := ⟨[(11, zGKl_11), (10, zGKl_0), (9, (.ptr (8, 0) [] 0)), (28, zGKl_0), (27, zGKl_4), (26, zGKl_3), (25, zGKl_2), (24, (.ptr (8, 0) [] 0)), (23, zGKl_4), (22, zGKl_3), (21, zGKl_2), (20, (.sc (.b (.var 90)))), (19, zGKl_5), (18, zGKl_12), (17, zGKl_34), (8, zGKl_12), (0, zGKl_2), (1, zGKl_3), (2, zGKl_4), (3, zGKl_5)], [((8, 0), zGKl_38), ((12, 0), zGKl_38)], 16⟩
def bI : Bind := ⟨[(200, .lit 0), (204, .var 0), (205, .var 1), (206, .var 2)], [(901, .lit false), (902, .lit false)], [], []⟩
theorem mSi_ok : okS 0 200 bI (nmS (mS hpZ) mSi) (mS hpZ) mSi = true := by kernel_rfl
theorem mSi_b : mSi.bel 200 = true := by kernel_rfl
def oT : T (XE × XS) := .br (.var 901) (.br (.var 902) (.ret (.exit 0, oL)) (.ret (.exit 0, oN))) (.ret (.exit 0, oZ))
noncomputable def cM : LoopX := ⟨(codeKey mC).getD 0, 0, 200, mSi, noB, [], oT⟩
/-- The loop over acts, in one of its ends each. -/
noncomputable def cMZ : LoopX := ⟨(codeKey mC).getD 0, 0, 200, mSi, noB, [], .ret (.exit 0, oZ)⟩
noncomputable def cMN : LoopX := ⟨(codeKey mC).getD 0, 0, 200, mSi, noB, [], .ret (.exit 0, oN)⟩
noncomputable def cML : LoopX := ⟨(codeKey mC).getD 0, 0, 200, mSi, noB, [], .ret (.exit 0, oL)⟩
theorem end_of {ρ : Rho} {Φ : Facts} {S s o : XS} (hk : Facts.ok ρ Φ) (hs : xRun Φ S = .ret (.exit 0, s)) (ho : cM.out.sel ρ = some (.exit 0, o)) (h : okS 0 1000 noB [] o s = true) : EndL Try.prog mN mC 0 S cM.out ρ := by
  have hsel : (xRun Φ S).sel ρ = some (.exit 0, s) := by rw [hs]; rfl
  exact endF_of (e := .exit 0) mixed tis_ok (callC HFL ρ) (LpsOk.nil _ _ _ _) m_fits hk rfl (fun h => nomatch h) hsel ⟨o, ho, fun E hb => okS_imp hb h ρ⟩
theorem outZ {ρ : Rho} (h : ρ.b 901 = false) : cM.out.sel ρ = some (.exit 0, oZ) := by
  show oT.sel ρ = _
  unfold oT
  rw [T.sel, if_neg (by simp [BE.den, h])]; rfl
theorem outN {ρ : Rho} (h : ρ.b 901 = true) (k : ρ.b 902 = false) : cM.out.sel ρ = some (.exit 0, oN) := by
  show oT.sel ρ = _
  unfold oT
  rw [T.sel, if_pos (by simp [BE.den, h]), T.sel, if_neg (by simp [BE.den, k])]; rfl
theorem outL {ρ : Rho} (h : ρ.b 901 = true) (k : ρ.b 902 = true) : cM.out.sel ρ = some (.exit 0, oL) := by
  show oT.sel ρ = _
  unfold oT
  rw [T.sel, if_pos (by simp [BE.den, h]), T.sel, if_pos (by simp [BE.den, k])]; rfl
theorem cM_ok (ρ : Rho) (hb : ρ.b 90 = false) (h0 : ρ.len 0 ≤ 400) : ∃ i ρf, Agree 200 ρ ρf ∧ Rd i ρf ∧ LoopOk Try.prog ρf mN mC cM := by
  refine loopOk_fam (L := cM) rfl mSi_b Ss Rd Me ?_ ⟨0, bI.ap ρ, Bind.agree rfl ρ, ⟨⟨hb, h0, Int.le_refl 0, ?_⟩, .inl ⟨rfl, rfl⟩⟩, fun E _ hE => okS_imp hE mSi_ok ρ⟩
  · have xk : ∀ {ρ : Rho}, ¬ ρ.i 200 < ρ.len 0 → Facts.ok ρ x0F := fun {ρ} hi => Facts.ok_cons (by rw [dlt_f]; simp only [IE.den]; omega) (Facts.ok_nil _)
    intro i ρ hR
    by_cases hi : ρ.i 200 < ρ.len 0
    · exact .inr (step hR hi)
    · refine .inl ⟨ρ, Agree.refl _ _, hR, rfl, ?_⟩
      obtain ⟨_, ⟨rfl, h1⟩ | ⟨rfl, h1, h2, _⟩ | ⟨rfl, h1, h2, _⟩⟩ := hR
      · exact end_of (xk hi) xZ_run (outZ h1) xZ_ok
      · exact end_of (xk hi) xN_run (outN h1 h2) xN_ok
      · exact end_of (xk hi) xL_run (outL h1 h2) xL_ok
  · show (0 : Int) ≤ ρ.len 0
    omega
end Go.Proofs.Ytonefailiekemaa
