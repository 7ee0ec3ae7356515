/- Parts of the proof, one behind the other. -/
import Derived.Test.YtpdfmnhgocpkcaaGreatTM3
namespace Go.Proofs.YtpdfmnhgocpkcaaGreat
open Go Go.Proofs.Aw Go.Proofs.Xw
set_option maxRecDepth 100000
theorem am6:ay 7 0=true:=by kernel_rfl
theorem am7:ay 7 1=true:=by kernel_rfl
theorem anh:ay 7 2=true:=by kernel_rfl
theorem ani:ay 7 3=true:=by kernel_rfl
theorem anj:ay 7 4=true:=by kernel_rfl
theorem ank:ay 7 5=true:=by kernel_rfl
theorem anl:ay 7 6=true:=by kernel_rfl
theorem anm:ay 7 7=true:=by kernel_rfl
theorem ann:ay 7 8=true:=by kernel_rfl
theorem ano:ay 7 9=true:=by kernel_rfl
theorem am8:ay 7 10=true:=by kernel_rfl
theorem am9:ay 7 11=true:=by kernel_rfl
theorem ana:ay 7 12=true:=by kernel_rfl
theorem anb:ay 7 13=true:=by kernel_rfl
theorem anc:ay 7 14=true:=by kernel_rfl
theorem ane:ay 7 15=true:=by kernel_rfl
theorem anf:ay 7 16=true:=by kernel_rfl
theorem ang:ay 7 17=true:=by kernel_rfl
theorem apC:kE 7 18:=⟨⟨⟨⟨⟨⟨⟨⟨⟨⟨⟨⟨⟨⟨⟨⟨⟨⟨trivial,am6⟩,am7⟩,anh⟩,ani⟩,anj⟩,ank⟩,anl⟩,anm⟩,ann⟩,ano⟩,am8⟩,am9⟩,ana⟩,anb⟩,anc⟩,ane⟩,anf⟩,ang⟩
theorem aps:((dR false 7).parts a' (a5 7)).length=18:=by kernel_rfl
theorem apM:(dR false 7).wf a' (a5 7)=true:=by kernel_rfl
theorem apW:DT.ok a' (bS [] 7) .leaf (ga 7)=true:=by kernel_rfl
end Go.Proofs.YtpdfmnhgocpkcaaGreat
