/- Parts of the proof, one behind the other. -/
import Derived.Test.YtpdfmnhgocpkcaaGreatTM3
namespace Go.Proofs.YtpdfmnhgocpkcaaGreat
open Go Go.Proofs.Aw Go.Proofs.Xw
set_option maxRecDepth 100000
theorem alM:ay 3 0=true:=by kernel_rfl
theorem alN:ay 3 1=true:=by kernel_rfl
theorem alY:ay 3 2=true:=by kernel_rfl
theorem alZ:ay 3 3=true:=by kernel_rfl
theorem al0:ay 3 4=true:=by kernel_rfl
theorem al1:ay 3 5=true:=by kernel_rfl
theorem al2:ay 3 6=true:=by kernel_rfl
theorem al3:ay 3 7=true:=by kernel_rfl
theorem al4:ay 3 8=true:=by kernel_rfl
theorem al5:ay 3 9=true:=by kernel_rfl
theorem alO:ay 3 10=true:=by kernel_rfl
theorem alP:ay 3 11=true:=by kernel_rfl
theorem alQ:ay 3 12=true:=by kernel_rfl
theorem alR:ay 3 13=true:=by kernel_rfl
theorem alS:ay 3 14=true:=by kernel_rfl
theorem alT:ay 3 15=true:=by kernel_rfl
theorem alU:ay 3 16=true:=by kernel_rfl
theorem alV:ay 3 17=true:=by kernel_rfl
theorem alW:ay 3 18=true:=by kernel_rfl
theorem alX:ay 3 19=true:=by kernel_rfl
theorem apy:kE 3 20:=⟨⟨⟨⟨⟨⟨⟨⟨⟨⟨⟨⟨⟨⟨⟨⟨⟨⟨⟨⟨trivial,alM⟩,alN⟩,alY⟩,alZ⟩,al0⟩,al1⟩,al2⟩,al3⟩,al4⟩,al5⟩,alO⟩,alP⟩,alQ⟩,alR⟩,alS⟩,alT⟩,alU⟩,alV⟩,alW⟩,alX⟩
theorem apn:((dR false 3).parts a' (a5 3)).length=20:=by kernel_rfl
theorem apI:(dR false 3).wf a' (a5 3)=true:=by kernel_rfl
theorem apS:DT.ok a' (bS [] 3) .leaf (ga 3)=true:=by kernel_rfl
end Go.Proofs.YtpdfmnhgocpkcaaGreat
