/- Parts of the proof, one behind the other. -/
import Derived.Test.YtpdfmnhgocpkcaaGreatTK7
namespace Go.Proofs.YtpdfmnhgocpkcaaGreat
open Go Go.Proofs.Aw Go.Proofs.Xw
set_option maxRecDepth 100000
theorem auv:aV [] a6 (aY 0) 0 16=true:=by kernel_rfl
theorem auw:aV [] a6 (aY 0) 0 17=true:=by kernel_rfl
theorem auy:aV [] a6 (aY 0) 0 18=true:=by kernel_rfl
theorem auz:aV [] a6 (aY 0) 0 19=true:=by kernel_rfl
theorem auB:aV [] a6 (aY 0) 0 20=true:=by kernel_rfl
theorem auC:aV [] a6 (aY 0) 0 21=true:=by kernel_rfl
theorem auD:aV [] a6 (aY 0) 0 22=true:=by kernel_rfl
theorem auE:aV [] a6 (aY 0) 0 23=true:=by kernel_rfl
theorem auF:aV [] a6 (aY 0) 0 24=true:=by kernel_rfl
theorem auG:aV [] a6 (aY 0) 0 25=true:=by kernel_rfl
theorem auH:aV [] a6 (aY 0) 0 26=true:=by kernel_rfl
theorem auI:aV [] a6 (aY 0) 0 27=true:=by kernel_rfl
theorem auJ:aV [] a6 (aY 0) 0 28=true:=by kernel_rfl
theorem auK:aV [] a6 (aY 0) 0 29=true:=by kernel_rfl
theorem auM:aV [] a6 (aY 0) 0 30=true:=by kernel_rfl
end Go.Proofs.YtpdfmnhgocpkcaaGreat
