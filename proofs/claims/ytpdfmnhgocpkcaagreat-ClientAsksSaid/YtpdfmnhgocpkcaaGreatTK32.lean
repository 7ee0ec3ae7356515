/- Parts of the proof, one behind the other. -/
import Derived.Test.YtpdfmnhgocpkcaaGreatTK3
namespace Go.Proofs.YtpdfmnhgocpkcaaGreat
open Go Go.Proofs.Aw Go.Proofs.Xw
set_option maxRecDepth 100000
theorem am1:az 6 0=true:=by kernel_rfl
theorem am2:az 6 1=true:=by kernel_rfl
theorem ane:az 6 2=true:=by kernel_rfl
theorem anf:az 6 3=true:=by kernel_rfl
theorem ang:az 6 4=true:=by kernel_rfl
theorem anh:az 6 5=true:=by kernel_rfl
theorem ani:az 6 6=true:=by kernel_rfl
theorem anj:az 6 7=true:=by kernel_rfl
theorem ank:az 6 8=true:=by kernel_rfl
theorem anl:az 6 9=true:=by kernel_rfl
theorem am3:az 6 10=true:=by kernel_rfl
theorem am4:az 6 11=true:=by kernel_rfl
theorem am5:az 6 12=true:=by kernel_rfl
theorem am6:az 6 13=true:=by kernel_rfl
theorem am7:az 6 14=true:=by kernel_rfl
theorem am8:az 6 15=true:=by kernel_rfl
theorem am9:az 6 16=true:=by kernel_rfl
theorem ana:az 6 17=true:=by kernel_rfl
theorem anb:az 6 18=true:=by kernel_rfl
theorem anc:az 6 19=true:=by kernel_rfl
theorem apU:kT 6 20:=⟨⟨⟨⟨⟨⟨⟨⟨⟨⟨⟨⟨⟨⟨⟨⟨⟨⟨⟨⟨trivial,am1⟩,am2⟩,ane⟩,anf⟩,ang⟩,anh⟩,ani⟩,anj⟩,ank⟩,anl⟩,am3⟩,am4⟩,am5⟩,am6⟩,am7⟩,am8⟩,am9⟩,ana⟩,anb⟩,anc⟩
theorem apK:((dY false 6).parts bc (a8 6)).length=20:=by kernel_rfl
theorem ap4:(dY false 6).wf bc (a8 6)=true:=by kernel_rfl
theorem aqe:DT.ok bc (bW [] 6) .leaf (gh 6)=true:=by kernel_rfl
end Go.Proofs.YtpdfmnhgocpkcaaGreat
