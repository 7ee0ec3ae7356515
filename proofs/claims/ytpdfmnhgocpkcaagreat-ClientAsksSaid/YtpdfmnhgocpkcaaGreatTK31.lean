/- Parts of the proof, one behind the other. -/
import Derived.Test.YtpdfmnhgocpkcaaGreatTK3
namespace Go.Proofs.YtpdfmnhgocpkcaaGreat
open Go Go.Proofs.Aw Go.Proofs.Xw
set_option maxRecDepth 100000
theorem amJ:az 5 0=true:=by kernel_rfl
theorem amK:az 5 1=true:=by kernel_rfl
theorem amT:az 5 2=true:=by kernel_rfl
theorem amU:az 5 3=true:=by kernel_rfl
theorem amV:az 5 4=true:=by kernel_rfl
theorem amW:az 5 5=true:=by kernel_rfl
theorem amX:az 5 6=true:=by kernel_rfl
theorem amY:az 5 7=true:=by kernel_rfl
theorem amZ:az 5 8=true:=by kernel_rfl
theorem am0:az 5 9=true:=by kernel_rfl
theorem amL:az 5 10=true:=by kernel_rfl
theorem amM:az 5 11=true:=by kernel_rfl
theorem amN:az 5 12=true:=by kernel_rfl
theorem amO:az 5 13=true:=by kernel_rfl
theorem amP:az 5 14=true:=by kernel_rfl
theorem amQ:az 5 15=true:=by kernel_rfl
theorem amR:az 5 16=true:=by kernel_rfl
theorem amS:az 5 17=true:=by kernel_rfl
theorem apT:kT 5 18:=⟨⟨⟨⟨⟨⟨⟨⟨⟨⟨⟨⟨⟨⟨⟨⟨⟨⟨trivial,amJ⟩,amK⟩,amT⟩,amU⟩,amV⟩,amW⟩,amX⟩,amY⟩,amZ⟩,am0⟩,amL⟩,amM⟩,amN⟩,amO⟩,amP⟩,amQ⟩,amR⟩,amS⟩
theorem apJ:((dY false 5).parts bc (a8 5)).length=18:=by kernel_rfl
theorem ap3:(dY false 5).wf bc (a8 5)=true:=by kernel_rfl
theorem aqd:DT.ok bc (bW [] 5) .leaf (gh 5)=true:=by kernel_rfl
end Go.Proofs.YtpdfmnhgocpkcaaGreat
