/- Parts of the proof, one behind the other. -/
import Derived.Test.YtpdfmnhgocpkcaaGreatTK7
namespace Go.Proofs.YtpdfmnhgocpkcaaGreat
open Go Go.Proofs.Aw Go.Proofs.Xw
set_option maxRecDepth 100000
theorem avg:aV [] a6 (aY 1) 1 16=true:=by kernel_rfl
theorem avh:aV [] a6 (aY 1) 1 17=true:=by kernel_rfl
theorem avi:aV [] a6 (aY 1) 1 18=true:=by kernel_rfl
theorem avj:aV [] a6 (aY 1) 1 19=true:=by kernel_rfl
theorem avl:aV [] a6 (aY 1) 1 20=true:=by kernel_rfl
theorem avm:aV [] a6 (aY 1) 1 21=true:=by kernel_rfl
theorem avn:aV [] a6 (aY 1) 1 22=true:=by kernel_rfl
theorem avo:aV [] a6 (aY 1) 1 23=true:=by kernel_rfl
theorem avp:aV [] a6 (aY 1) 1 24=true:=by kernel_rfl
theorem avq:aV [] a6 (aY 1) 1 25=true:=by kernel_rfl
theorem avr:aV [] a6 (aY 1) 1 26=true:=by kernel_rfl
theorem avs:aV [] a6 (aY 1) 1 27=true:=by kernel_rfl
theorem avt:aV [] a6 (aY 1) 1 28=true:=by kernel_rfl
theorem avu:aV [] a6 (aY 1) 1 29=true:=by kernel_rfl
theorem avw:aV [] a6 (aY 1) 1 30=true:=by kernel_rfl
end Go.Proofs.YtpdfmnhgocpkcaaGreat
