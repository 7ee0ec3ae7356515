/- Parts of the proof, one behind the other. -/
import Derived.Test.YtpdfmnhgocpkcaaGreatTM3
namespace Go.Proofs.YtpdfmnhgocpkcaaGreat
open Go Go.Proofs.Aw Go.Proofs.Xw
set_option maxRecDepth 100000
theorem cs9:bQ 3 0=true:=by kernel_rfl
theorem cs8:bQ 3 1=true:=by kernel_rfl
theorem cs7:bQ 3 2=true:=by kernel_rfl
theorem cs6:bQ 3 3=true:=by kernel_rfl
theorem cs5:bQ 3 4=true:=by kernel_rfl
theorem cs4:bQ 3 5=true:=by kernel_rfl
theorem cs3:bQ 3 6=true:=by kernel_rfl
theorem cr9:bQ 3 7=true:=by kernel_rfl
theorem cr8:bQ 3 8=true:=by kernel_rfl
theorem cr7:bQ 3 9=true:=by kernel_rfl
theorem bK6:bQ 3 10=true:=by kernel_rfl
theorem bK5:bQ 3 11=true:=by kernel_rfl
theorem bK4:bQ 3 12=true:=by kernel_rfl
theorem bK3:bQ 3 13=true:=by kernel_rfl
theorem bK2:bQ 3 14=true:=by kernel_rfl
theorem bK1:bQ 3 15=true:=by kernel_rfl
theorem bK0:bQ 3 16=true:=by kernel_rfl
theorem bJ9:bQ 3 17=true:=by kernel_rfl
theorem bJ8:bQ 3 18=true:=by kernel_rfl
theorem bJ7:bQ 3 19=true:=by kernel_rfl
theorem u3:BR 3 20:=⟨⟨⟨⟨⟨⟨⟨⟨⟨⟨⟨⟨⟨⟨⟨⟨⟨⟨⟨⟨trivial,cs9⟩,cs8⟩,cs7⟩,cs6⟩,cs5⟩,cs4⟩,cs3⟩,cr9⟩,cr8⟩,cr7⟩,bK6⟩,bK5⟩,bK4⟩,bK3⟩,bK2⟩,bK1⟩,bK0⟩,bJ9⟩,bJ8⟩,bJ7⟩
theorem n3:((fP 3).parts bH (gz 3)).length=20:=by kernel_rfl
theorem w3:(fP 3).wf bH (gz 3)=true:=by kernel_rfl
theorem x3:DT.ok bH (kX [] 3) .leaf (GM 3)=true:=by kernel_rfl
end Go.Proofs.YtpdfmnhgocpkcaaGreat
