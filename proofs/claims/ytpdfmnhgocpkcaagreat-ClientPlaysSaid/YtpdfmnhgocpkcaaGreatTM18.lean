/- Parts of the proof, one behind the other. -/
import Derived.Test.YtpdfmnhgocpkcaaGreatTM6
namespace Go.Proofs.YtpdfmnhgocpkcaaGreat
open Go Go.Proofs.Aw Go.Proofs.Xw
set_option maxRecDepth 100000
theorem alR:aw 3 0=true:=by kernel_rfl
theorem alS:aw 3 1=true:=by kernel_rfl
theorem al3:aw 3 2=true:=by kernel_rfl
theorem al4:aw 3 3=true:=by kernel_rfl
theorem al5:aw 3 4=true:=by kernel_rfl
theorem ama:aw 3 5=true:=by kernel_rfl
theorem amb:aw 3 6=true:=by kernel_rfl
theorem amc:aw 3 7=true:=by kernel_rfl
theorem amd:aw 3 8=true:=by kernel_rfl
theorem ame:aw 3 9=true:=by kernel_rfl
theorem alT:aw 3 10=true:=by kernel_rfl
theorem alU:aw 3 11=true:=by kernel_rfl
theorem alV:aw 3 12=true:=by kernel_rfl
theorem alW:aw 3 13=true:=by kernel_rfl
theorem alX:aw 3 14=true:=by kernel_rfl
theorem alY:aw 3 15=true:=by kernel_rfl
theorem alZ:aw 3 16=true:=by kernel_rfl
theorem al0:aw 3 17=true:=by kernel_rfl
theorem al1:aw 3 18=true:=by kernel_rfl
theorem al2:aw 3 19=true:=by kernel_rfl
theorem ap2:kE 3 20:=⟨⟨⟨⟨⟨⟨⟨⟨⟨⟨⟨⟨⟨⟨⟨⟨⟨⟨⟨⟨trivial,alR⟩,alS⟩,al3⟩,al4⟩,al5⟩,ama⟩,amb⟩,amc⟩,amd⟩,ame⟩,alT⟩,alU⟩,alV⟩,alW⟩,alX⟩,alY⟩,alZ⟩,al0⟩,al1⟩,al2⟩
theorem apS:((dR true 3).parts a' (a5 3)).length=20:=by kernel_rfl
theorem aqc:(dR true 3).wf a' (a5 3)=true:=by kernel_rfl
theorem aqm:DT.ok a' (bV [] 3) .leaf (ga 3)=true:=by kernel_rfl
end Go.Proofs.YtpdfmnhgocpkcaaGreat
