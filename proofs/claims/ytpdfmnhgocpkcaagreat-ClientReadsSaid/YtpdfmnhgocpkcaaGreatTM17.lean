/- Parts of the proof, one behind the other. -/
import Derived.Test.YtpdfmnhgocpkcaaGreatTM3
namespace Go.Proofs.YtpdfmnhgocpkcaaGreat
open Go Go.Proofs.Aw Go.Proofs.Xw
set_option maxRecDepth 100000
theorem cw4:bQ 0 0=true:=by kernel_rfl
theorem cw3:bQ 0 1=true:=by kernel_rfl
theorem cw2:bQ 0 2=true:=by kernel_rfl
theorem cw1:bQ 0 3=true:=by kernel_rfl
theorem cw0:bQ 0 4=true:=by kernel_rfl
theorem cv9:bQ 0 5=true:=by kernel_rfl
theorem cv8:bQ 0 6=true:=by kernel_rfl
theorem cv7:bQ 0 7=true:=by kernel_rfl
theorem cv6:bQ 0 8=true:=by kernel_rfl
theorem cv5:bQ 0 9=true:=by kernel_rfl
theorem u0:BR 0 10:=⟨⟨⟨⟨⟨⟨⟨⟨⟨⟨trivial,cw4⟩,cw3⟩,cw2⟩,cw1⟩,cw0⟩,cv9⟩,cv8⟩,cv7⟩,cv6⟩,cv5⟩
theorem n0:((fP 0).parts bH (gz 0)).length=10:=by kernel_rfl
theorem w0:(fP 0).wf bH (gz 0)=true:=by kernel_rfl
theorem x0:DT.ok bH (kX [] 0) .leaf (GM 0)=true:=by kernel_rfl
end Go.Proofs.YtpdfmnhgocpkcaaGreat
