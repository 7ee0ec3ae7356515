/- Parts of the proof, one behind the other. -/
import Derived.Test.YtpdfmnhgocpkcaaGreatTM3
namespace Go.Proofs.YtpdfmnhgocpkcaaGreat
open Go Go.Proofs.Aw Go.Proofs.Xw
set_option maxRecDepth 100000
theorem cr6:bQ 4 0=true:=by kernel_rfl
theorem cr5:bQ 4 1=true:=by kernel_rfl
theorem cr4:bQ 4 2=true:=by kernel_rfl
theorem cr2:bQ 4 3=true:=by kernel_rfl
theorem cr1:bQ 4 4=true:=by kernel_rfl
theorem cr0:bQ 4 5=true:=by kernel_rfl
theorem cq9:bQ 4 6=true:=by kernel_rfl
theorem cq8:bQ 4 7=true:=by kernel_rfl
theorem cq7:bQ 4 8=true:=by kernel_rfl
theorem cq6:bQ 4 9=true:=by kernel_rfl
theorem bJ6:bQ 4 10=true:=by kernel_rfl
theorem bJ5:bQ 4 11=true:=by kernel_rfl
theorem bJ4:bQ 4 12=true:=by kernel_rfl
theorem bJ3:bQ 4 13=true:=by kernel_rfl
theorem bJ2:bQ 4 14=true:=by kernel_rfl
theorem bJ1:bQ 4 15=true:=by kernel_rfl
theorem bJ0:bQ 4 16=true:=by kernel_rfl
theorem bI9:bQ 4 17=true:=by kernel_rfl
theorem bI8:bQ 4 18=true:=by kernel_rfl
theorem bI7:bQ 4 19=true:=by kernel_rfl
theorem u4:BR 4 20:=⟨⟨⟨⟨⟨⟨⟨⟨⟨⟨⟨⟨⟨⟨⟨⟨⟨⟨⟨⟨trivial,cr6⟩,cr5⟩,cr4⟩,cr2⟩,cr1⟩,cr0⟩,cq9⟩,cq8⟩,cq7⟩,cq6⟩,bJ6⟩,bJ5⟩,bJ4⟩,bJ3⟩,bJ2⟩,bJ1⟩,bJ0⟩,bI9⟩,bI8⟩,bI7⟩
theorem n4:((fP 4).parts bH (gz 4)).length=20:=by kernel_rfl
theorem w4:(fP 4).wf bH (gz 4)=true:=by kernel_rfl
theorem x4:DT.ok bH (kX [] 4) .leaf (GM 4)=true:=by kernel_rfl
end Go.Proofs.YtpdfmnhgocpkcaaGreat
