/- Parts of the proof, one behind the other. -/
import Derived.Test.YtpdfmnhgocpkcaaGreatTM6
namespace Go.Proofs.YtpdfmnhgocpkcaaGreat
open Go Go.Proofs.Aw Go.Proofs.Xw
set_option maxRecDepth 100000
theorem amZ:aw 6 0=true:=by kernel_rfl
theorem am0:aw 6 1=true:=by kernel_rfl
theorem anb:aw 6 2=true:=by kernel_rfl
theorem anl:aw 6 3=true:=by kernel_rfl
theorem anm:aw 6 4=true:=by kernel_rfl
theorem ann:aw 6 5=true:=by kernel_rfl
theorem ano:aw 6 6=true:=by kernel_rfl
theorem anp:aw 6 7=true:=by kernel_rfl
theorem anq:aw 6 8=true:=by kernel_rfl
theorem anr:aw 6 9=true:=by kernel_rfl
theorem am1:aw 6 10=true:=by kernel_rfl
theorem am2:aw 6 11=true:=by kernel_rfl
theorem am3:aw 6 12=true:=by kernel_rfl
theorem am4:aw 6 13=true:=by kernel_rfl
theorem am5:aw 6 14=true:=by kernel_rfl
theorem am6:aw 6 15=true:=by kernel_rfl
theorem am7:aw 6 16=true:=by kernel_rfl
theorem am8:aw 6 17=true:=by kernel_rfl
theorem am9:aw 6 18=true:=by kernel_rfl
theorem ana:aw 6 19=true:=by kernel_rfl
theorem anc:aw 6 20=true:=by kernel_rfl
theorem ane:aw 6 21=true:=by kernel_rfl
theorem anf:aw 6 22=true:=by kernel_rfl
theorem ang:aw 6 23=true:=by kernel_rfl
theorem anh:aw 6 24=true:=by kernel_rfl
theorem ani:aw 6 25=true:=by kernel_rfl
theorem anj:aw 6 26=true:=by kernel_rfl
theorem ank:aw 6 27=true:=by kernel_rfl
theorem ap5:kE 6 28:=⟨⟨⟨⟨⟨⟨⟨⟨⟨⟨⟨⟨⟨⟨⟨⟨⟨⟨⟨⟨⟨⟨⟨⟨⟨⟨⟨⟨trivial,amZ⟩,am0⟩,anb⟩,anl⟩,anm⟩,ann⟩,ano⟩,anp⟩,anq⟩,anr⟩,am1⟩,am2⟩,am3⟩,am4⟩,am5⟩,am6⟩,am7⟩,am8⟩,am9⟩,ana⟩,anc⟩,ane⟩,anf⟩,ang⟩,anh⟩,ani⟩,anj⟩,ank⟩
theorem apV:((dR true 6).parts a' (a5 6)).length=28:=by kernel_rfl
theorem aqf:(dR true 6).wf a' (a5 6)=true:=by kernel_rfl
theorem aqp:DT.ok a' (bV [] 6) .leaf (ga 6)=true:=by kernel_rfl
end Go.Proofs.YtpdfmnhgocpkcaaGreat
