/- Parts of the proof, one behind the other. -/
import Derived.Test.YtpdfmnhgocpkcaaGreatTM3
namespace Go.Proofs.YtpdfmnhgocpkcaaGreat
open Go Go.Proofs.Aw Go.Proofs.Xw
set_option maxRecDepth 100000
theorem cq5:bQ 5 0=true:=by kernel_rfl
theorem cq4:bQ 5 1=true:=by kernel_rfl
theorem cq3:bQ 5 2=true:=by kernel_rfl
theorem cq2:bQ 5 3=true:=by kernel_rfl
theorem cq1:bQ 5 4=true:=by kernel_rfl
theorem cq0:bQ 5 5=true:=by kernel_rfl
theorem cp9:bQ 5 6=true:=by kernel_rfl
theorem cp7:bQ 5 7=true:=by kernel_rfl
theorem cp1:bQ 5 8=true:=by kernel_rfl
theorem co9:bQ 5 9=true:=by kernel_rfl
theorem bI6:bQ 5 10=true:=by kernel_rfl
theorem bI5:bQ 5 11=true:=by kernel_rfl
theorem bI4:bQ 5 12=true:=by kernel_rfl
theorem bI3:bQ 5 13=true:=by kernel_rfl
theorem bI2:bQ 5 14=true:=by kernel_rfl
theorem bI1:bQ 5 15=true:=by kernel_rfl
theorem bI0:bQ 5 16=true:=by kernel_rfl
theorem bH9:bQ 5 17=true:=by kernel_rfl
theorem u5:BR 5 18:=⟨⟨⟨⟨⟨⟨⟨⟨⟨⟨⟨⟨⟨⟨⟨⟨⟨⟨trivial,cq5⟩,cq4⟩,cq3⟩,cq2⟩,cq1⟩,cq0⟩,cp9⟩,cp7⟩,cp1⟩,co9⟩,bI6⟩,bI5⟩,bI4⟩,bI3⟩,bI2⟩,bI1⟩,bI0⟩,bH9⟩
theorem n5:((fP 5).parts bH (gz 5)).length=18:=by kernel_rfl
theorem w5:(fP 5).wf bH (gz 5)=true:=by kernel_rfl
theorem x5:DT.ok bH (kX [] 5) .leaf (GM 5)=true:=by kernel_rfl
end Go.Proofs.YtpdfmnhgocpkcaaGreat
