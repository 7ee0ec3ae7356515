/- Parts of the proof, one behind the other. -/
import Derived.Test.YtpdfmnhgocpkcaaGreatTK7
namespace Go.Proofs.YtpdfmnhgocpkcaaGreat
open Go Go.Proofs.Aw Go.Proofs.Xw
set_option maxRecDepth 100000
theorem auN:aV [] a6 (aY 0) 0 31=true:=by kernel_rfl
theorem auO:aV [] a6 (aY 0) 0 32=true:=by kernel_rfl
theorem auP:aV [] a6 (aY 0) 0 33=true:=by kernel_rfl
theorem auQ:aV [] a6 (aY 0) 0 34=true:=by kernel_rfl
theorem auR:aV [] a6 (aY 0) 0 35=true:=by kernel_rfl
theorem auS:aV [] a6 (aY 0) 0 36=true:=by kernel_rfl
theorem auT:aV [] a6 (aY 0) 0 37=true:=by kernel_rfl
theorem auU:aV [] a6 (aY 0) 0 38=true:=by kernel_rfl
theorem auV:aV [] a6 (aY 0) 0 39=true:=by kernel_rfl
theorem auX:aV [] a6 (aY 0) 0 40=true:=by kernel_rfl
theorem auY:aV [] a6 (aY 0) 0 41=true:=by kernel_rfl
theorem auZ:aV [] a6 (aY 0) 0 42=true:=by kernel_rfl
theorem au0:aV [] a6 (aY 0) 0 43=true:=by kernel_rfl
theorem au1:aV [] a6 (aY 0) 0 44=true:=by kernel_rfl
theorem au2:aV [] a6 (aY 0) 0 45=true:=by kernel_rfl
end Go.Proofs.YtpdfmnhgocpkcaaGreat
