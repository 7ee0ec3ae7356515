/- Parts of the proof, one behind the other. -/
import Derived.Test.YtpdfmnhgocpkcaaGreatTM3
namespace Go.Proofs.YtpdfmnhgocpkcaaGreat
open Go Go.Proofs.Aw Go.Proofs.Xw
set_option maxRecDepth 100000
theorem cu1:bQ 2 0=true:=by kernel_rfl
theorem cu0:bQ 2 1=true:=by kernel_rfl
theorem ct9:bQ 2 2=true:=by kernel_rfl
theorem ct8:bQ 2 3=true:=by kernel_rfl
theorem ct7:bQ 2 4=true:=by kernel_rfl
theorem ct6:bQ 2 5=true:=by kernel_rfl
theorem ct5:bQ 2 6=true:=by kernel_rfl
theorem ct4:bQ 2 7=true:=by kernel_rfl
theorem ct3:bQ 2 8=true:=by kernel_rfl
theorem ct2:bQ 2 9=true:=by kernel_rfl
theorem bL8:bQ 2 10=true:=by kernel_rfl
theorem bL7:bQ 2 11=true:=by kernel_rfl
theorem bL6:bQ 2 12=true:=by kernel_rfl
theorem bL5:bQ 2 13=true:=by kernel_rfl
theorem bL4:bQ 2 14=true:=by kernel_rfl
theorem bL3:bQ 2 15=true:=by kernel_rfl
theorem bL2:bQ 2 16=true:=by kernel_rfl
theorem bL1:bQ 2 17=true:=by kernel_rfl
theorem bL0:bQ 2 18=true:=by kernel_rfl
theorem bK9:bQ 2 19=true:=by kernel_rfl
theorem bK8:bQ 2 20=true:=by kernel_rfl
theorem bK7:bQ 2 21=true:=by kernel_rfl
theorem u2:BR 2 22:=⟨⟨⟨⟨⟨⟨⟨⟨⟨⟨⟨⟨⟨⟨⟨⟨⟨⟨⟨⟨⟨⟨trivial,cu1⟩,cu0⟩,ct9⟩,ct8⟩,ct7⟩,ct6⟩,ct5⟩,ct4⟩,ct3⟩,ct2⟩,bL8⟩,bL7⟩,bL6⟩,bL5⟩,bL4⟩,bL3⟩,bL2⟩,bL1⟩,bL0⟩,bK9⟩,bK8⟩,bK7⟩
theorem n2:((fP 2).parts bH (gz 2)).length=22:=by kernel_rfl
theorem w2:(fP 2).wf bH (gz 2)=true:=by kernel_rfl
theorem x2:DT.ok bH (kX [] 2) .leaf (GM 2)=true:=by kernel_rfl
end Go.Proofs.YtpdfmnhgocpkcaaGreat
