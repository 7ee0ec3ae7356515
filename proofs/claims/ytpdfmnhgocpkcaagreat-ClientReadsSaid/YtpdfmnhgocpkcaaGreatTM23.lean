/- Parts of the proof, one behind the other. -/
import Derived.Test.YtpdfmnhgocpkcaaGreatTM3
namespace Go.Proofs.YtpdfmnhgocpkcaaGreat
open Go Go.Proofs.Aw Go.Proofs.Xw
set_option maxRecDepth 100000
theorem co8:bQ 6 0=true:=by kernel_rfl
theorem co7:bQ 6 1=true:=by kernel_rfl
theorem co6:bQ 6 2=true:=by kernel_rfl
theorem co5:bQ 6 3=true:=by kernel_rfl
theorem co4:bQ 6 4=true:=by kernel_rfl
theorem co2:bQ 6 5=true:=by kernel_rfl
theorem co1:bQ 6 6=true:=by kernel_rfl
theorem co0:bQ 6 7=true:=by kernel_rfl
theorem cn9:bQ 6 8=true:=by kernel_rfl
theorem cn7:bQ 6 9=true:=by kernel_rfl
theorem bH8:bQ 6 10=true:=by kernel_rfl
theorem bH7:bQ 6 11=true:=by kernel_rfl
theorem bH6:bQ 6 12=true:=by kernel_rfl
theorem bH5:bQ 6 13=true:=by kernel_rfl
theorem bH4:bQ 6 14=true:=by kernel_rfl
theorem bH3:bQ 6 15=true:=by kernel_rfl
theorem bH2:bQ 6 16=true:=by kernel_rfl
theorem bH1:bQ 6 17=true:=by kernel_rfl
theorem bH0:bQ 6 18=true:=by kernel_rfl
theorem bG9:bQ 6 19=true:=by kernel_rfl
theorem u6:BR 6 20:=⟨⟨⟨⟨⟨⟨⟨⟨⟨⟨⟨⟨⟨⟨⟨⟨⟨⟨⟨⟨trivial,co8⟩,co7⟩,co6⟩,co5⟩,co4⟩,co2⟩,co1⟩,co0⟩,cn9⟩,cn7⟩,bH8⟩,bH7⟩,bH6⟩,bH5⟩,bH4⟩,bH3⟩,bH2⟩,bH1⟩,bH0⟩,bG9⟩
theorem n6q:((fP 6).parts bH (gz 6)).length=20:=by kernel_rfl
theorem w6:(fP 6).wf bH (gz 6)=true:=by kernel_rfl
theorem x6:DT.ok bH (kX [] 6) .leaf (GM 6)=true:=by kernel_rfl
end Go.Proofs.YtpdfmnhgocpkcaaGreat
