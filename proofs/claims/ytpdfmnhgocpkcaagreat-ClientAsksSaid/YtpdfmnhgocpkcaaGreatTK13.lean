/- Parts of the proof, one behind the other. -/
import Derived.Test.YtpdfmnhgocpkcaaGreatTK7
namespace Go.Proofs.YtpdfmnhgocpkcaaGreat
open Go Go.Proofs.Aw Go.Proofs.Xw
set_option maxRecDepth 100000
theorem au8:aV [] a6 (aY 1) 1 0=true:=by kernel_rfl
theorem au9:aV [] a6 (aY 1) 1 1=true:=by kernel_rfl
theorem avk:aV [] a6 (aY 1) 1 2=true:=by kernel_rfl
theorem avv:aV [] a6 (aY 1) 1 3=true:=by kernel_rfl
theorem avG:aV [] a6 (aY 1) 1 4=true:=by kernel_rfl
theorem avN:aV [] a6 (aY 1) 1 5=true:=by kernel_rfl
theorem avO:aV [] a6 (aY 1) 1 6=true:=by kernel_rfl
theorem avP:aV [] a6 (aY 1) 1 7=true:=by kernel_rfl
theorem avQ:aV [] a6 (aY 1) 1 8=true:=by kernel_rfl
theorem avR:aV [] a6 (aY 1) 1 9=true:=by kernel_rfl
theorem ava:aV [] a6 (aY 1) 1 10=true:=by kernel_rfl
theorem avb:aV [] a6 (aY 1) 1 11=true:=by kernel_rfl
theorem avc:aV [] a6 (aY 1) 1 12=true:=by kernel_rfl
theorem avd:aV [] a6 (aY 1) 1 13=true:=by kernel_rfl
theorem ave:aV [] a6 (aY 1) 1 14=true:=by kernel_rfl
theorem avf:aV [] a6 (aY 1) 1 15=true:=by kernel_rfl
end Go.Proofs.YtpdfmnhgocpkcaaGreat
