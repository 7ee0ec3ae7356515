/- Parts of the proof, one behind the other. -/
import Derived.Test.YtpdfmnhgocpkcaaGreatTK3
namespace Go.Proofs.YtpdfmnhgocpkcaaGreat
open Go Go.Proofs.Aw Go.Proofs.Xw
set_option maxRecDepth 100000
theorem anm:az 7 0=true:=by kernel_rfl
theorem ann:az 7 1=true:=by kernel_rfl
theorem anw:az 7 2=true:=by kernel_rfl
theorem anx:az 7 3=true:=by kernel_rfl
theorem anz:az 7 4=true:=by kernel_rfl
theorem anA:az 7 5=true:=by kernel_rfl
theorem anB:az 7 6=true:=by kernel_rfl
theorem anC:az 7 7=true:=by kernel_rfl
theorem anD:az 7 8=true:=by kernel_rfl
theorem anE:az 7 9=true:=by kernel_rfl
theorem ano:az 7 10=true:=by kernel_rfl
theorem anp:az 7 11=true:=by kernel_rfl
theorem anq:az 7 12=true:=by kernel_rfl
theorem anr:az 7 13=true:=by kernel_rfl
theorem ans:az 7 14=true:=by kernel_rfl
theorem ant:az 7 15=true:=by kernel_rfl
theorem anu:az 7 16=true:=by kernel_rfl
theorem anv:az 7 17=true:=by kernel_rfl
theorem apV:kT 7 18:=⟨⟨⟨⟨⟨⟨⟨⟨⟨⟨⟨⟨⟨⟨⟨⟨⟨⟨trivial,anm⟩,ann⟩,anw⟩,anx⟩,anz⟩,anA⟩,anB⟩,anC⟩,anD⟩,anE⟩,ano⟩,anp⟩,anq⟩,anr⟩,ans⟩,ant⟩,anu⟩,anv⟩
theorem apL:((dY false 7).parts bc (a8 7)).length=18:=by kernel_rfl
theorem ap5:(dY false 7).wf bc (a8 7)=true:=by kernel_rfl
theorem aqf:DT.ok bc (bW [] 7) .leaf (gh 7)=true:=by kernel_rfl
end Go.Proofs.YtpdfmnhgocpkcaaGreat
