/- Parts of the proof, one behind the other. -/
import Derived.Test.YtpdfmnhgocpkcaaGreatTM3
namespace Go.Proofs.YtpdfmnhgocpkcaaGreat
open Go Go.Proofs.Aw Go.Proofs.Xw
set_option maxRecDepth 100000
theorem amM:ay 6 0=true:=by kernel_rfl
theorem amN:ay 6 1=true:=by kernel_rfl
theorem amY:ay 6 2=true:=by kernel_rfl
theorem amZ:ay 6 3=true:=by kernel_rfl
theorem am0:ay 6 4=true:=by kernel_rfl
theorem am1:ay 6 5=true:=by kernel_rfl
theorem am2:ay 6 6=true:=by kernel_rfl
theorem am3:ay 6 7=true:=by kernel_rfl
theorem am4:ay 6 8=true:=by kernel_rfl
theorem am5:ay 6 9=true:=by kernel_rfl
theorem amO:ay 6 10=true:=by kernel_rfl
theorem amP:ay 6 11=true:=by kernel_rfl
theorem amQ:ay 6 12=true:=by kernel_rfl
theorem amR:ay 6 13=true:=by kernel_rfl
theorem amS:ay 6 14=true:=by kernel_rfl
theorem amT:ay 6 15=true:=by kernel_rfl
theorem amU:ay 6 16=true:=by kernel_rfl
theorem amV:ay 6 17=true:=by kernel_rfl
theorem amW:ay 6 18=true:=by kernel_rfl
theorem amX:ay 6 19=true:=by kernel_rfl
theorem apB:kE 6 20:=⟨⟨⟨⟨⟨⟨⟨⟨⟨⟨⟨⟨⟨⟨⟨⟨⟨⟨⟨⟨trivial,amM⟩,amN⟩,amY⟩,amZ⟩,am0⟩,am1⟩,am2⟩,am3⟩,am4⟩,am5⟩,amO⟩,amP⟩,amQ⟩,amR⟩,amS⟩,amT⟩,amU⟩,amV⟩,amW⟩,amX⟩
theorem apr:((dR false 6).parts a' (a5 6)).length=20:=by kernel_rfl
theorem apL:(dR false 6).wf a' (a5 6)=true:=by kernel_rfl
theorem apV:DT.ok a' (bS [] 6) .leaf (ga 6)=true:=by kernel_rfl
end Go.Proofs.YtpdfmnhgocpkcaaGreat
