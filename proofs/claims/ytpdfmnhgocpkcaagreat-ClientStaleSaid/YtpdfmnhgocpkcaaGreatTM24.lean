/- Parts of the proof, one behind the other. -/
import Derived.Test.YtpdfmnhgocpkcaaGreatTM3
namespace Go.Proofs.YtpdfmnhgocpkcaaGreat
open Go Go.Proofs.Aw Go.Proofs.Xw
set_option maxRecDepth 100000
theorem anp:ay 8 0=true:=by kernel_rfl
theorem anq:ay 8 1=true:=by kernel_rfl
theorem anC:ay 8 2=true:=by kernel_rfl
theorem anD:ay 8 3=true:=by kernel_rfl
theorem anE:ay 8 4=true:=by kernel_rfl
theorem anF:ay 8 5=true:=by kernel_rfl
theorem anG:ay 8 6=true:=by kernel_rfl
theorem anH:ay 8 7=true:=by kernel_rfl
theorem anI:ay 8 8=true:=by kernel_rfl
theorem anJ:ay 8 9=true:=by kernel_rfl
theorem anr:ay 8 10=true:=by kernel_rfl
theorem ans:ay 8 11=true:=by kernel_rfl
theorem ant:ay 8 12=true:=by kernel_rfl
theorem anu:ay 8 13=true:=by kernel_rfl
theorem anv:ay 8 14=true:=by kernel_rfl
theorem anw:ay 8 15=true:=by kernel_rfl
theorem anx:ay 8 16=true:=by kernel_rfl
theorem anz:ay 8 17=true:=by kernel_rfl
theorem anA:ay 8 18=true:=by kernel_rfl
theorem anB:ay 8 19=true:=by kernel_rfl
theorem apD:kE 8 20:=⟨⟨⟨⟨⟨⟨⟨⟨⟨⟨⟨⟨⟨⟨⟨⟨⟨⟨⟨⟨trivial,anp⟩,anq⟩,anC⟩,anD⟩,anE⟩,anF⟩,anG⟩,anH⟩,anI⟩,anJ⟩,anr⟩,ans⟩,ant⟩,anu⟩,anv⟩,anw⟩,anx⟩,anz⟩,anA⟩,anB⟩
theorem apt:((dR false 8).parts a' (a5 8)).length=20:=by kernel_rfl
theorem apN:(dR false 8).wf a' (a5 8)=true:=by kernel_rfl
theorem apX:DT.ok a' (bS [] 8) .leaf (ga 8)=true:=by kernel_rfl
end Go.Proofs.YtpdfmnhgocpkcaaGreat
