/- Parts of the proof, one behind the other. -/
import Derived.Test.YtpdfmnhgocpkcaaGreatTM3
namespace Go.Proofs.YtpdfmnhgocpkcaaGreat
open Go Go.Proofs.Aw Go.Proofs.Xw
set_option maxRecDepth 100000
theorem cn6:bQ 7 0=true:=by kernel_rfl
theorem cn5:bQ 7 1=true:=by kernel_rfl
theorem cn4:bQ 7 2=true:=by kernel_rfl
theorem cn2:bQ 7 3=true:=by kernel_rfl
theorem cn1:bQ 7 4=true:=by kernel_rfl
theorem cn0:bQ 7 5=true:=by kernel_rfl
theorem cm9:bQ 7 6=true:=by kernel_rfl
theorem cm8:bQ 7 7=true:=by kernel_rfl
theorem cm7:bQ 7 8=true:=by kernel_rfl
theorem cm6:bQ 7 9=true:=by kernel_rfl
theorem bG8:bQ 7 10=true:=by kernel_rfl
theorem bG7:bQ 7 11=true:=by kernel_rfl
theorem bG6:bQ 7 12=true:=by kernel_rfl
theorem bG5:bQ 7 13=true:=by kernel_rfl
theorem bG4:bQ 7 14=true:=by kernel_rfl
theorem bG3:bQ 7 15=true:=by kernel_rfl
theorem bG2:bQ 7 16=true:=by kernel_rfl
theorem bG1:bQ 7 17=true:=by kernel_rfl
theorem u7:BR 7 18:=⟨⟨⟨⟨⟨⟨⟨⟨⟨⟨⟨⟨⟨⟨⟨⟨⟨⟨trivial,cn6⟩,cn5⟩,cn4⟩,cn2⟩,cn1⟩,cn0⟩,cm9⟩,cm8⟩,cm7⟩,cm6⟩,bG8⟩,bG7⟩,bG6⟩,bG5⟩,bG4⟩,bG3⟩,bG2⟩,bG1⟩
theorem n7:((fP 7).parts bH (gz 7)).length=18:=by kernel_rfl
theorem w7:(fP 7).wf bH (gz 7)=true:=by kernel_rfl
theorem x7:DT.ok bH (kX [] 7) .leaf (GM 7)=true:=by kernel_rfl
end Go.Proofs.YtpdfmnhgocpkcaaGreat
