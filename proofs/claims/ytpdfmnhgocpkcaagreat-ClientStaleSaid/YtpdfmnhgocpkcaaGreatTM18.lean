/- Parts of the proof, one behind the other. -/
import Derived.Test.YtpdfmnhgocpkcaaGreatTM3
namespace Go.Proofs.YtpdfmnhgocpkcaaGreat
open Go Go.Proofs.Aw Go.Proofs.Xw
set_option maxRecDepth 100000
theorem alp:ay 2 0=true:=by kernel_rfl
theorem alq:ay 2 1=true:=by kernel_rfl
theorem alC:ay 2 2=true:=by kernel_rfl
theorem alF:ay 2 3=true:=by kernel_rfl
theorem alG:ay 2 4=true:=by kernel_rfl
theorem alH:ay 2 5=true:=by kernel_rfl
theorem alI:ay 2 6=true:=by kernel_rfl
theorem alJ:ay 2 7=true:=by kernel_rfl
theorem alK:ay 2 8=true:=by kernel_rfl
theorem alL:ay 2 9=true:=by kernel_rfl
theorem alr:ay 2 10=true:=by kernel_rfl
theorem als:ay 2 11=true:=by kernel_rfl
theorem alu:ay 2 12=true:=by kernel_rfl
theorem alv:ay 2 13=true:=by kernel_rfl
theorem alw:ay 2 14=true:=by kernel_rfl
theorem alx:ay 2 15=true:=by kernel_rfl
theorem aly:ay 2 16=true:=by kernel_rfl
theorem alz:ay 2 17=true:=by kernel_rfl
theorem alA:ay 2 18=true:=by kernel_rfl
theorem alB:ay 2 19=true:=by kernel_rfl
theorem alD:ay 2 20=true:=by kernel_rfl
theorem alE:ay 2 21=true:=by kernel_rfl
theorem apx:kE 2 22:=⟨⟨⟨⟨⟨⟨⟨⟨⟨⟨⟨⟨⟨⟨⟨⟨⟨⟨⟨⟨⟨⟨trivial,alp⟩,alq⟩,alC⟩,alF⟩,alG⟩,alH⟩,alI⟩,alJ⟩,alK⟩,alL⟩,alr⟩,als⟩,alu⟩,alv⟩,alw⟩,alx⟩,aly⟩,alz⟩,alA⟩,alB⟩,alD⟩,alE⟩
theorem apm:((dR false 2).parts a' (a5 2)).length=22:=by kernel_rfl
theorem apH:(dR false 2).wf a' (a5 2)=true:=by kernel_rfl
theorem apR:DT.ok a' (bS [] 2) .leaf (ga 2)=true:=by kernel_rfl
end Go.Proofs.YtpdfmnhgocpkcaaGreat
