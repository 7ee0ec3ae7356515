/- Parts of the proof, one behind the other. -/
import Derived.Test.YtpdfmnhgocpkcaaGreatTK7
namespace Go.Proofs.YtpdfmnhgocpkcaaGreat
open Go Go.Proofs.Aw Go.Proofs.Xw
set_option maxRecDepth 100000
theorem avx:aV [] a6 (aY 1) 1 31=true:=by kernel_rfl
theorem avy:aV [] a6 (aY 1) 1 32=true:=by kernel_rfl
theorem avz:aV [] a6 (aY 1) 1 33=true:=by kernel_rfl
theorem avA:aV [] a6 (aY 1) 1 34=true:=by kernel_rfl
theorem avB:aV [] a6 (aY 1) 1 35=true:=by kernel_rfl
theorem avC:aV [] a6 (aY 1) 1 36=true:=by kernel_rfl
theorem avD:aV [] a6 (aY 1) 1 37=true:=by kernel_rfl
theorem avE:aV [] a6 (aY 1) 1 38=true:=by kernel_rfl
theorem avF:aV [] a6 (aY 1) 1 39=true:=by kernel_rfl
theorem avH:aV [] a6 (aY 1) 1 40=true:=by kernel_rfl
theorem avI:aV [] a6 (aY 1) 1 41=true:=by kernel_rfl
theorem avJ:aV [] a6 (aY 1) 1 42=true:=by kernel_rfl
theorem avK:aV [] a6 (aY 1) 1 43=true:=by kernel_rfl
theorem avL:aV [] a6 (aY 1) 1 44=true:=by kernel_rfl
theorem avM:aV [] a6 (aY 1) 1 45=true:=by kernel_rfl
end Go.Proofs.YtpdfmnhgocpkcaaGreat
