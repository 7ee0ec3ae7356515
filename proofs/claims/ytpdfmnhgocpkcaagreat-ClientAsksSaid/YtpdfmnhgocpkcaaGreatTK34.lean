/- Parts of the proof, one behind the other. -/
import Derived.Test.YtpdfmnhgocpkcaaGreatTK3
namespace Go.Proofs.YtpdfmnhgocpkcaaGreat
open Go Go.Proofs.Aw Go.Proofs.Xw
set_option maxRecDepth 100000
theorem anF:az 8 0=true:=by kernel_rfl
theorem anG:az 8 1=true:=by kernel_rfl
theorem anR:az 8 2=true:=by kernel_rfl
theorem anS:az 8 3=true:=by kernel_rfl
theorem anT:az 8 4=true:=by kernel_rfl
theorem anU:az 8 5=true:=by kernel_rfl
theorem anV:az 8 6=true:=by kernel_rfl
theorem anW:az 8 7=true:=by kernel_rfl
theorem anX:az 8 8=true:=by kernel_rfl
theorem anY:az 8 9=true:=by kernel_rfl
theorem anH:az 8 10=true:=by kernel_rfl
theorem anI:az 8 11=true:=by kernel_rfl
theorem anJ:az 8 12=true:=by kernel_rfl
theorem anK:az 8 13=true:=by kernel_rfl
theorem anL:az 8 14=true:=by kernel_rfl
theorem anM:az 8 15=true:=by kernel_rfl
theorem anN:az 8 16=true:=by kernel_rfl
theorem anO:az 8 17=true:=by kernel_rfl
theorem anP:az 8 18=true:=by kernel_rfl
theorem anQ:az 8 19=true:=by kernel_rfl
theorem apW:kT 8 20:=⟨⟨⟨⟨⟨⟨⟨⟨⟨⟨⟨⟨⟨⟨⟨⟨⟨⟨⟨⟨trivial,anF⟩,anG⟩,anR⟩,anS⟩,anT⟩,anU⟩,anV⟩,anW⟩,anX⟩,anY⟩,anH⟩,anI⟩,anJ⟩,anK⟩,anL⟩,anM⟩,anN⟩,anO⟩,anP⟩,anQ⟩
theorem apM:((dY false 8).parts bc (a8 8)).length=20:=by kernel_rfl
theorem ap6:(dY false 8).wf bc (a8 8)=true:=by kernel_rfl
theorem aqg:DT.ok bc (bW [] 8) .leaf (gh 8)=true:=by kernel_rfl
end Go.Proofs.YtpdfmnhgocpkcaaGreat
