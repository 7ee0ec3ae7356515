/- Parts of the proof, one behind the other. -/
import Derived.Test.YtpdfmnhgocpkcaaGreatTM6
namespace Go.Proofs.YtpdfmnhgocpkcaaGreat
open Go Go.Proofs.Aw Go.Proofs.Xw
set_option maxRecDepth 100000
theorem ak1:aw 0 0=true:=by kernel_rfl
theorem ak2:aw 0 1=true:=by kernel_rfl
theorem ak3:aw 0 2=true:=by kernel_rfl
theorem ak4:aw 0 3=true:=by kernel_rfl
theorem ak5:aw 0 4=true:=by kernel_rfl
theorem ak6:aw 0 5=true:=by kernel_rfl
theorem ak7:aw 0 6=true:=by kernel_rfl
theorem ak8:aw 0 7=true:=by kernel_rfl
theorem ak9:aw 0 8=true:=by kernel_rfl
theorem ala:aw 0 9=true:=by kernel_rfl
theorem apZ:kE 0 10:=⟨⟨⟨⟨⟨⟨⟨⟨⟨⟨trivial,ak1⟩,ak2⟩,ak3⟩,ak4⟩,ak5⟩,ak6⟩,ak7⟩,ak8⟩,ak9⟩,ala⟩
theorem apP:((dR true 0).parts a' (a5 0)).length=10:=by kernel_rfl
theorem ap9:(dR true 0).wf a' (a5 0)=true:=by kernel_rfl
theorem aqj:DT.ok a' (bV [] 0) .leaf (ga 0)=true:=by kernel_rfl
end Go.Proofs.YtpdfmnhgocpkcaaGreat
