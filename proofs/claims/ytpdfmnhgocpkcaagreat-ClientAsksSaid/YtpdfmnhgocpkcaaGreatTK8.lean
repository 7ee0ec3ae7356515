/- Parts of the proof, one behind the other. -/
import Derived.Test.YtpdfmnhgocpkcaaGreatTK7
namespace Go.Proofs.YtpdfmnhgocpkcaaGreat
open Go Go.Proofs.Aw Go.Proofs.Xw
set_option maxRecDepth 100000
theorem aun:aV [] a6 (aY 0) 0 0=true:=by kernel_rfl
theorem auo:aV [] a6 (aY 0) 0 1=true:=by kernel_rfl
theorem auA:aV [] a6 (aY 0) 0 2=true:=by kernel_rfl
theorem auL:aV [] a6 (aY 0) 0 3=true:=by kernel_rfl
theorem auW:aV [] a6 (aY 0) 0 4=true:=by kernel_rfl
theorem au3:aV [] a6 (aY 0) 0 5=true:=by kernel_rfl
theorem au4:aV [] a6 (aY 0) 0 6=true:=by kernel_rfl
theorem au5:aV [] a6 (aY 0) 0 7=true:=by kernel_rfl
theorem au6:aV [] a6 (aY 0) 0 8=true:=by kernel_rfl
theorem au7:aV [] a6 (aY 0) 0 9=true:=by kernel_rfl
theorem aup:aV [] a6 (aY 0) 0 10=true:=by kernel_rfl
theorem auq:aV [] a6 (aY 0) 0 11=true:=by kernel_rfl
theorem aur:aV [] a6 (aY 0) 0 12=true:=by kernel_rfl
theorem aus:aV [] a6 (aY 0) 0 13=true:=by kernel_rfl
theorem aut:aV [] a6 (aY 0) 0 14=true:=by kernel_rfl
theorem auu:aV [] a6 (aY 0) 0 15=true:=by kernel_rfl
end Go.Proofs.YtpdfmnhgocpkcaaGreat
