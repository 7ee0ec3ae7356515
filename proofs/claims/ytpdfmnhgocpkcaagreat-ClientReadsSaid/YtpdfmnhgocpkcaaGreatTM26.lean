/- Parts of the proof, one behind the other. -/
import Derived.Test.YtpdfmnhgocpkcaaGreatTM3
namespace Go.Proofs.YtpdfmnhgocpkcaaGreat
open Go Go.Proofs.Aw Go.Proofs.Xw
set_option maxRecDepth 100000
theorem cl5:bQ 9 0=true:=by kernel_rfl
theorem cl4:bQ 9 1=true:=by kernel_rfl
theorem cl3:bQ 9 2=true:=by kernel_rfl
theorem cl2:bQ 9 3=true:=by kernel_rfl
theorem cl1:bQ 9 4=true:=by kernel_rfl
theorem cl0:bQ 9 5=true:=by kernel_rfl
theorem ck9:bQ 9 6=true:=by kernel_rfl
theorem ck8:bQ 9 7=true:=by kernel_rfl
theorem ck7:bQ 9 8=true:=by kernel_rfl
theorem ck6:bQ 9 9=true:=by kernel_rfl
theorem bF0:bQ 9 10=true:=by kernel_rfl
theorem bE9:bQ 9 11=true:=by kernel_rfl
theorem bE8:bQ 9 12=true:=by kernel_rfl
theorem bE7:bQ 9 13=true:=by kernel_rfl
theorem bE6:bQ 9 14=true:=by kernel_rfl
theorem bE5:bQ 9 15=true:=by kernel_rfl
theorem bE4:bQ 9 16=true:=by kernel_rfl
theorem bE3:bQ 9 17=true:=by kernel_rfl
theorem u9:BR 9 18:=⟨⟨⟨⟨⟨⟨⟨⟨⟨⟨⟨⟨⟨⟨⟨⟨⟨⟨trivial,cl5⟩,cl4⟩,cl3⟩,cl2⟩,cl1⟩,cl0⟩,ck9⟩,ck8⟩,ck7⟩,ck6⟩,bF0⟩,bE9⟩,bE8⟩,bE7⟩,bE6⟩,bE5⟩,bE4⟩,bE3⟩
theorem n9:((fP 9).parts bH (gz 9)).length=18:=by kernel_rfl
theorem w9:(fP 9).wf bH (gz 9)=true:=by kernel_rfl
theorem x9:DT.ok bH (kX [] 9) .leaf (GM 9)=true:=by kernel_rfl
end Go.Proofs.YtpdfmnhgocpkcaaGreat
