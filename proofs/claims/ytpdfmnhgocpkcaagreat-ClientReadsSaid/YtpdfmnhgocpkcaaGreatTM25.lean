/- Parts of the proof, one behind the other. -/
import Derived.Test.YtpdfmnhgocpkcaaGreatTM3
namespace Go.Proofs.YtpdfmnhgocpkcaaGreat
open Go Go.Proofs.Aw Go.Proofs.Xw
set_option maxRecDepth 100000
theorem cm5:bQ 8 0=true:=by kernel_rfl
theorem cm4:bQ 8 1=true:=by kernel_rfl
theorem cm3:bQ 8 2=true:=by kernel_rfl
theorem cm2:bQ 8 3=true:=by kernel_rfl
theorem cm1:bQ 8 4=true:=by kernel_rfl
theorem cm0:bQ 8 5=true:=by kernel_rfl
theorem cl9:bQ 8 6=true:=by kernel_rfl
theorem cl8:bQ 8 7=true:=by kernel_rfl
theorem cl7:bQ 8 8=true:=by kernel_rfl
theorem cl6:bQ 8 9=true:=by kernel_rfl
theorem bG0:bQ 8 10=true:=by kernel_rfl
theorem bF9:bQ 8 11=true:=by kernel_rfl
theorem bF8:bQ 8 12=true:=by kernel_rfl
theorem bF7:bQ 8 13=true:=by kernel_rfl
theorem bF6:bQ 8 14=true:=by kernel_rfl
theorem bF5:bQ 8 15=true:=by kernel_rfl
theorem bF4:bQ 8 16=true:=by kernel_rfl
theorem bF3:bQ 8 17=true:=by kernel_rfl
theorem bF2:bQ 8 18=true:=by kernel_rfl
theorem bF1:bQ 8 19=true:=by kernel_rfl
theorem u8:BR 8 20:=⟨⟨⟨⟨⟨⟨⟨⟨⟨⟨⟨⟨⟨⟨⟨⟨⟨⟨⟨⟨trivial,cm5⟩,cm4⟩,cm3⟩,cm2⟩,cm1⟩,cm0⟩,cl9⟩,cl8⟩,cl7⟩,cl6⟩,bG0⟩,bF9⟩,bF8⟩,bF7⟩,bF6⟩,bF5⟩,bF4⟩,bF3⟩,bF2⟩,bF1⟩
theorem n8:((fP 8).parts bH (gz 8)).length=20:=by kernel_rfl
theorem w8:(fP 8).wf bH (gz 8)=true:=by kernel_rfl
theorem x8:DT.ok bH (kX [] 8) .leaf (GM 8)=true:=by kernel_rfl
end Go.Proofs.YtpdfmnhgocpkcaaGreat
