/- Parts of the proof, one behind the other. -/
import Derived.Test.YtpdfmnhgocpkcaaGreatTM3
namespace Go.Proofs.YtpdfmnhgocpkcaaGreat
open Go Go.Proofs.Aw Go.Proofs.Xw
set_option maxRecDepth 100000
theorem cv4:bQ 1 0=true:=by kernel_rfl
theorem cv0:bQ 1 1=true:=by kernel_rfl
theorem cu9:bQ 1 2=true:=by kernel_rfl
theorem cu8:bQ 1 3=true:=by kernel_rfl
theorem cu7:bQ 1 4=true:=by kernel_rfl
theorem cu6:bQ 1 5=true:=by kernel_rfl
theorem cu5:bQ 1 6=true:=by kernel_rfl
theorem cu4:bQ 1 7=true:=by kernel_rfl
theorem cu3:bQ 1 8=true:=by kernel_rfl
theorem cu2:bQ 1 9=true:=by kernel_rfl
theorem u1:BR 1 10:=⟨⟨⟨⟨⟨⟨⟨⟨⟨⟨trivial,cv4⟩,cv0⟩,cu9⟩,cu8⟩,cu7⟩,cu6⟩,cu5⟩,cu4⟩,cu3⟩,cu2⟩
theorem n1:((fP 1).parts bH (gz 1)).length=10:=by kernel_rfl
theorem w1:(fP 1).wf bH (gz 1)=true:=by kernel_rfl
theorem x1:DT.ok bH (kX [] 1) .leaf (GM 1)=true:=by kernel_rfl
end Go.Proofs.YtpdfmnhgocpkcaaGreat
