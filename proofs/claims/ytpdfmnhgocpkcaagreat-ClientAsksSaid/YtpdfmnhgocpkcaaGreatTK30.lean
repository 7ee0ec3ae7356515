/- Parts of the proof, one behind the other. -/
import Derived.Test.YtpdfmnhgocpkcaaGreatTK3
namespace Go.Proofs.YtpdfmnhgocpkcaaGreat
open Go Go.Proofs.Aw Go.Proofs.Xw
set_option maxRecDepth 100000
theorem amp:az 4 0=true:=by kernel_rfl
theorem amq:az 4 1=true:=by kernel_rfl
theorem amB:az 4 2=true:=by kernel_rfl
theorem amC:az 4 3=true:=by kernel_rfl
theorem amD:az 4 4=true:=by kernel_rfl
theorem amE:az 4 5=true:=by kernel_rfl
theorem amF:az 4 6=true:=by kernel_rfl
theorem amG:az 4 7=true:=by kernel_rfl
theorem amH:az 4 8=true:=by kernel_rfl
theorem amI:az 4 9=true:=by kernel_rfl
theorem amr:az 4 10=true:=by kernel_rfl
theorem ams:az 4 11=true:=by kernel_rfl
theorem amt:az 4 12=true:=by kernel_rfl
theorem amu:az 4 13=true:=by kernel_rfl
theorem amv:az 4 14=true:=by kernel_rfl
theorem amw:az 4 15=true:=by kernel_rfl
theorem amx:az 4 16=true:=by kernel_rfl
theorem amy:az 4 17=true:=by kernel_rfl
theorem amz:az 4 18=true:=by kernel_rfl
theorem amA:az 4 19=true:=by kernel_rfl
theorem apS:kT 4 20:=⟨⟨⟨⟨⟨⟨⟨⟨⟨⟨⟨⟨⟨⟨⟨⟨⟨⟨⟨⟨trivial,amp⟩,amq⟩,amB⟩,amC⟩,amD⟩,amE⟩,amF⟩,amG⟩,amH⟩,amI⟩,amr⟩,ams⟩,amt⟩,amu⟩,amv⟩,amw⟩,amx⟩,amy⟩,amz⟩,amA⟩
theorem apI:((dY false 4).parts bc (a8 4)).length=20:=by kernel_rfl
theorem ap2:(dY false 4).wf bc (a8 4)=true:=by kernel_rfl
theorem aqc:DT.ok bc (bW [] 4) .leaf (gh 4)=true:=by kernel_rfl
end Go.Proofs.YtpdfmnhgocpkcaaGreat
