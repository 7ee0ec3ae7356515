/- Parts of the proof, one behind the other. -/
import Derived.Test.YtpdfmnhgocpkcaaGreatTM6
namespace Go.Proofs.YtpdfmnhgocpkcaaGreat
open Go Go.Proofs.Aw Go.Proofs.Xw
set_option maxRecDepth 100000
theorem amH:aw 5 0=true:=by kernel_rfl
theorem amI:aw 5 1=true:=by kernel_rfl
theorem amR:aw 5 2=true:=by kernel_rfl
theorem amS:aw 5 3=true:=by kernel_rfl
theorem amT:aw 5 4=true:=by kernel_rfl
theorem amU:aw 5 5=true:=by kernel_rfl
theorem amV:aw 5 6=true:=by kernel_rfl
theorem amW:aw 5 7=true:=by kernel_rfl
theorem amX:aw 5 8=true:=by kernel_rfl
theorem amY:aw 5 9=true:=by kernel_rfl
theorem amJ:aw 5 10=true:=by kernel_rfl
theorem amK:aw 5 11=true:=by kernel_rfl
theorem amL:aw 5 12=true:=by kernel_rfl
theorem amM:aw 5 13=true:=by kernel_rfl
theorem amN:aw 5 14=true:=by kernel_rfl
theorem amO:aw 5 15=true:=by kernel_rfl
theorem amP:aw 5 16=true:=by kernel_rfl
theorem amQ:aw 5 17=true:=by kernel_rfl
theorem ap4:kE 5 18:=⟨⟨⟨⟨⟨⟨⟨⟨⟨⟨⟨⟨⟨⟨⟨⟨⟨⟨trivial,amH⟩,amI⟩,amR⟩,amS⟩,amT⟩,amU⟩,amV⟩,amW⟩,amX⟩,amY⟩,amJ⟩,amK⟩,amL⟩,amM⟩,amN⟩,amO⟩,amP⟩,amQ⟩
theorem apU:((dR true 5).parts a' (a5 5)).length=18:=by kernel_rfl
theorem aqe:(dR true 5).wf a' (a5 5)=true:=by kernel_rfl
theorem aqo:DT.ok a' (bV [] 5) .leaf (ga 5)=true:=by kernel_rfl
end Go.Proofs.YtpdfmnhgocpkcaaGreat
