/- Parts of the proof, one behind the other. -/
import Derived.Test.YtpdfmnhgocpkcaaGreatTM3
namespace Go.Proofs.YtpdfmnhgocpkcaaGreat
open Go Go.Proofs.Aw Go.Proofs.Xw
set_option maxRecDepth 100000
theorem amu:ay 5 0=true:=by kernel_rfl
theorem amv:ay 5 1=true:=by kernel_rfl
theorem amE:ay 5 2=true:=by kernel_rfl
theorem amF:ay 5 3=true:=by kernel_rfl
theorem amG:ay 5 4=true:=by kernel_rfl
theorem amH:ay 5 5=true:=by kernel_rfl
theorem amI:ay 5 6=true:=by kernel_rfl
theorem amJ:ay 5 7=true:=by kernel_rfl
theorem amK:ay 5 8=true:=by kernel_rfl
theorem amL:ay 5 9=true:=by kernel_rfl
theorem amw:ay 5 10=true:=by kernel_rfl
theorem amx:ay 5 11=true:=by kernel_rfl
theorem amy:ay 5 12=true:=by kernel_rfl
theorem amz:ay 5 13=true:=by kernel_rfl
theorem amA:ay 5 14=true:=by kernel_rfl
theorem amB:ay 5 15=true:=by kernel_rfl
theorem amC:ay 5 16=true:=by kernel_rfl
theorem amD:ay 5 17=true:=by kernel_rfl
theorem apA:kE 5 18:=⟨⟨⟨⟨⟨⟨⟨⟨⟨⟨⟨⟨⟨⟨⟨⟨⟨⟨trivial,amu⟩,amv⟩,amE⟩,amF⟩,amG⟩,amH⟩,amI⟩,amJ⟩,amK⟩,amL⟩,amw⟩,amx⟩,amy⟩,amz⟩,amA⟩,amB⟩,amC⟩,amD⟩
theorem apq:((dR false 5).parts a' (a5 5)).length=18:=by kernel_rfl
theorem apK:(dR false 5).wf a' (a5 5)=true:=by kernel_rfl
theorem apU:DT.ok a' (bS [] 5) .leaf (ga 5)=true:=by kernel_rfl
end Go.Proofs.YtpdfmnhgocpkcaaGreat
