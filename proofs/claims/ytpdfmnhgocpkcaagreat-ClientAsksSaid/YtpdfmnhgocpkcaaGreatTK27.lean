/- Parts of the proof, one behind the other. -/
import Derived.Test.YtpdfmnhgocpkcaaGreatTK3
namespace Go.Proofs.YtpdfmnhgocpkcaaGreat
open Go Go.Proofs.Aw Go.Proofs.Xw
set_option maxRecDepth 100000
theorem alv:az 1 0=true:=by kernel_rfl
theorem alw:az 1 1=true:=by kernel_rfl
theorem alx:az 1 2=true:=by kernel_rfl
theorem aly:az 1 3=true:=by kernel_rfl
theorem alz:az 1 4=true:=by kernel_rfl
theorem alA:az 1 5=true:=by kernel_rfl
theorem alB:az 1 6=true:=by kernel_rfl
theorem alC:az 1 7=true:=by kernel_rfl
theorem alD:az 1 8=true:=by kernel_rfl
theorem alE:az 1 9=true:=by kernel_rfl
theorem apP:kT 1 10:=⟨⟨⟨⟨⟨⟨⟨⟨⟨⟨trivial,alv⟩,alw⟩,alx⟩,aly⟩,alz⟩,alA⟩,alB⟩,alC⟩,alD⟩,alE⟩
theorem apF:((dY false 1).parts bc (a8 1)).length=10:=by kernel_rfl
theorem apZ:(dY false 1).wf bc (a8 1)=true:=by kernel_rfl
theorem ap9:DT.ok bc (bW [] 1) .leaf (gh 1)=true:=by kernel_rfl
end Go.Proofs.YtpdfmnhgocpkcaaGreat
