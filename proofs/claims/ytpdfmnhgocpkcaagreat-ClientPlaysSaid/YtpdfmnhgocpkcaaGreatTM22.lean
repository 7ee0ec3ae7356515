/- Parts of the proof, one behind the other. -/
import Derived.Test.YtpdfmnhgocpkcaaGreatTM6
namespace Go.Proofs.YtpdfmnhgocpkcaaGreat
open Go Go.Proofs.Aw Go.Proofs.Xw
set_option maxRecDepth 100000
theorem ans:aw 7 0=true:=by kernel_rfl
theorem ant:aw 7 1=true:=by kernel_rfl
theorem anD:aw 7 2=true:=by kernel_rfl
theorem anE:aw 7 3=true:=by kernel_rfl
theorem anF:aw 7 4=true:=by kernel_rfl
theorem anG:aw 7 5=true:=by kernel_rfl
theorem anH:aw 7 6=true:=by kernel_rfl
theorem anI:aw 7 7=true:=by kernel_rfl
theorem anJ:aw 7 8=true:=by kernel_rfl
theorem anK:aw 7 9=true:=by kernel_rfl
theorem anu:aw 7 10=true:=by kernel_rfl
theorem anv:aw 7 11=true:=by kernel_rfl
theorem anw:aw 7 12=true:=by kernel_rfl
theorem anx:aw 7 13=true:=by kernel_rfl
theorem anz:aw 7 14=true:=by kernel_rfl
theorem anA:aw 7 15=true:=by kernel_rfl
theorem anB:aw 7 16=true:=by kernel_rfl
theorem anC:aw 7 17=true:=by kernel_rfl
theorem ap6:kE 7 18:=⟨⟨⟨⟨⟨⟨⟨⟨⟨⟨⟨⟨⟨⟨⟨⟨⟨⟨trivial,ans⟩,ant⟩,anD⟩,anE⟩,anF⟩,anG⟩,anH⟩,anI⟩,anJ⟩,anK⟩,anu⟩,anv⟩,anw⟩,anx⟩,anz⟩,anA⟩,anB⟩,anC⟩
theorem apW:((dR true 7).parts a' (a5 7)).length=18:=by kernel_rfl
theorem aqg:(dR true 7).wf a' (a5 7)=true:=by kernel_rfl
theorem aqq:DT.ok a' (bV [] 7) .leaf (ga 7)=true:=by kernel_rfl
end Go.Proofs.YtpdfmnhgocpkcaaGreat
