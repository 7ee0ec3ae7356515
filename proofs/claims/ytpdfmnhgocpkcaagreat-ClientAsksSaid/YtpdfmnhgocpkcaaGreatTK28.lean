/- Parts of the proof, one behind the other. -/
import Derived.Test.YtpdfmnhgocpkcaaGreatTK3
namespace Go.Proofs.YtpdfmnhgocpkcaaGreat
open Go Go.Proofs.Aw Go.Proofs.Xw
set_option maxRecDepth 100000
theorem alF:az 2 0=true:=by kernel_rfl
theorem alG:az 2 1=true:=by kernel_rfl
theorem alR:az 2 2=true:=by kernel_rfl
theorem alU:az 2 3=true:=by kernel_rfl
theorem alV:az 2 4=true:=by kernel_rfl
theorem alW:az 2 5=true:=by kernel_rfl
theorem alX:az 2 6=true:=by kernel_rfl
theorem alY:az 2 7=true:=by kernel_rfl
theorem alZ:az 2 8=true:=by kernel_rfl
theorem al0:az 2 9=true:=by kernel_rfl
theorem alH:az 2 10=true:=by kernel_rfl
theorem alI:az 2 11=true:=by kernel_rfl
theorem alJ:az 2 12=true:=by kernel_rfl
theorem alK:az 2 13=true:=by kernel_rfl
theorem alL:az 2 14=true:=by kernel_rfl
theorem alM:az 2 15=true:=by kernel_rfl
theorem alN:az 2 16=true:=by kernel_rfl
theorem alO:az 2 17=true:=by kernel_rfl
theorem alP:az 2 18=true:=by kernel_rfl
theorem alQ:az 2 19=true:=by kernel_rfl
theorem alS:az 2 20=true:=by kernel_rfl
theorem alT:az 2 21=true:=by kernel_rfl
theorem apQ:kT 2 22:=⟨⟨⟨⟨⟨⟨⟨⟨⟨⟨⟨⟨⟨⟨⟨⟨⟨⟨⟨⟨⟨⟨trivial,alF⟩,alG⟩,alR⟩,alU⟩,alV⟩,alW⟩,alX⟩,alY⟩,alZ⟩,al0⟩,alH⟩,alI⟩,alJ⟩,alK⟩,alL⟩,alM⟩,alN⟩,alO⟩,alP⟩,alQ⟩,alS⟩,alT⟩
theorem apG:((dY false 2).parts bc (a8 2)).length=22:=by kernel_rfl
theorem ap0:(dY false 2).wf bc (a8 2)=true:=by kernel_rfl
theorem aqa:DT.ok bc (bW [] 2) .leaf (gh 2)=true:=by kernel_rfl
end Go.Proofs.YtpdfmnhgocpkcaaGreat
