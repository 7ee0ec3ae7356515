/- Rounds of ChainBounds' loop over acts, from state Z, run once each. -/
import Derived.Test.YtonefailiekemaaFB0
namespace Go.Proofs.Ytonefailiekemaa
open Go Go.Proofs.Aw Go.Proofs.Xw
set_option maxRecDepth 100000
def hZX : XHp := [((12, 0), objZ), ((14, 0), objZ)]
def bdZX : Facts := []
theorem rZX_run : mRun (c0 ([])) (kdX) (mS hpZ) = .ret (.normal, lS hZX 101) := by kernel_rfl
theorem rZE0_run : mRun (c0 (ksE false)) (kd 1) (mS hpZ) = .ret (.normal, lS hZX 101) := by kernel_rfl
def hZE2 : XHp := [((12, 0), objG cfgB (iC 0) (iC 0) nilX (iC 0) (iC 0) (iC 0)), ((14, 0), objG cfgB (iC 0) (iC 0) nilX (iC 0) (iC 0) (iC 0))]
def bdZE2 : Facts := []
theorem rZE2_run : mRun (c0 (ksE true)) (kd 1 ++ [(.lt (.lit 0) (.cl 0 5 (.var 200)), true)] ++ [(.eq (.var 306) (.lit 0), true), (.lt (.lit 0) (.var 306), false)]) (mS hpZ) = .ret (.normal, lS hZE2 101) := by kernel_rfl
def hZE4 : XHp := [((12, 0), objG cfgB (iV 306) (iC 0) nilX (iC 0) (iC 0) (iC 0)), ((14, 0), objG cfgB (iV 306) (iC 0) nilX (iC 0) (iC 0) (iC 0))]
def bdZE4 : Facts := []
theorem rZE4_run : mRun (c0 (ksE true)) (kd 1 ++ [(.lt (.lit 0) (.cl 0 5 (.var 200)), true)] ++ [(.eq (.var 306) (.lit 0), false), (.lt (.lit 0) (.var 306), true)]) (mS hpZ) = .ret (.normal, lS hZE4 84) := by kernel_rfl
theorem rZK2a_run : mRun (c0 ([])) (kd 2 ++ [(.lt (.var 206) (.lit 0), true)]) (mS hpZ) = .ret (.normal, lS hZX 101) := by kernel_rfl
theorem rZK3a_run : mRun (c0 ([])) (kd 3 ++ [(.lt (.var 206) (.lit 0), true)]) (mS hpZ) = .ret (.normal, lS hZX 101) := by kernel_rfl
theorem rZK4a_run : mRun (c0 ([])) (kd 4 ++ [(.lt (.cl 0 1 (.var 200)) (.lit 0), true)]) (mS hpZ) = .ret (.normal, lS hZX 101) := by kernel_rfl
theorem rZK5a_run : mRun (c0 ([])) (kd 5 ++ [(.lt (.var 206) (.lit 0), true)]) (mS hpZ) = .ret (.normal, lS hZX 101) := by kernel_rfl
theorem rZK6a_run : mRun (c0 ([])) (kd 6 ++ [(.lt (.cl 0 1 (.var 200)) (.lit 0), true)]) (mS hpZ) = .ret (.normal, lS hZX 101) := by kernel_rfl
theorem rZK7a_run : mRun (c0 ([])) (kd 7) (mS hpZ) = .ret (.normal, lS hZX 101) := by kernel_rfl
theorem rZK8a_run : mRun (c0 ([])) (kd 8) (mS hpZ) = .ret (.normal, lS hZX 101) := by kernel_rfl
theorem rZK2b_run : mRun (c0 ([])) (kd 2 ++ [(.lt (.var 206) (.lit 0), false)]) (mS hpZ) = .ret (.normal, lS hZX 101) := by kernel_rfl
theorem rZK3b_run : mRun (c0 ([])) (kd 3 ++ [(.lt (.var 206) (.lit 0), false)]) (mS hpZ) = .ret (.normal, lS hZX 101) := by kernel_rfl
theorem rZK4b_run : mRun (c0 ([])) (kd 4 ++ [(.lt (.cl 0 1 (.var 200)) (.lit 0), false)]) (mS hpZ) = .ret (.normal, lS hZX 101) := by kernel_rfl
theorem rZK5b_run : mRun (c0 ([])) (kd 5 ++ [(.lt (.var 206) (.lit 0), false)]) (mS hpZ) = .ret (.normal, lS hZX 101) := by kernel_rfl
theorem rZK6b_run : mRun (c0 ([])) (kd 6 ++ [(.lt (.cl 0 1 (.var 200)) (.lit 0), false)]) (mS hpZ) = .ret (.normal, lS hZX 101) := by kernel_rfl
theorem rZK7b_run : mRun (c0 ([])) (kd 7) (mS hpZ) = .ret (.normal, lS hZX 101) := by kernel_rfl
theorem rZK8b_run : mRun (c0 ([])) (kd 8) (mS hpZ) = .ret (.normal, lS hZX 101) := by kernel_rfl
end Go.Proofs.Ytonefailiekemaa
