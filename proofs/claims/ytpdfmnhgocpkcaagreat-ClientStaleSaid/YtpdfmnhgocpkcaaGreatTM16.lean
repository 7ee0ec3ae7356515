/- Parts of the proof, one behind the other. -/
import Derived.Test.YtpdfmnhgocpkcaaGreatTM3
namespace Go.Proofs.YtpdfmnhgocpkcaaGreat
open Go Go.Proofs.Aw Go.Proofs.Xw
set_option maxRecDepth 100000
theorem ak4:ay 0 0=true:=by kernel_rfl
theorem ak5:ay 0 1=true:=by kernel_rfl
theorem ak6:ay 0 2=true:=by kernel_rfl
theorem ak7:ay 0 3=true:=by kernel_rfl
theorem ak8:ay 0 4=true:=by kernel_rfl
theorem ak9:ay 0 5=true:=by kernel_rfl
theorem ala:ay 0 6=true:=by kernel_rfl
theorem alb:ay 0 7=true:=by kernel_rfl
theorem alc:ay 0 8=true:=by kernel_rfl
theorem ald:ay 0 9=true:=by kernel_rfl
theorem apv:kE 0 10:=⟨⟨⟨⟨⟨⟨⟨⟨⟨⟨trivial,ak4⟩,ak5⟩,ak6⟩,ak7⟩,ak8⟩,ak9⟩,ala⟩,alb⟩,alc⟩,ald⟩
theorem apk:((dR false 0).parts a' (a5 0)).length=10:=by kernel_rfl
theorem apF:(dR false 0).wf a' (a5 0)=true:=by kernel_rfl
theorem apP:DT.ok a' (bS [] 0) .leaf (ga 0)=true:=by kernel_rfl
end Go.Proofs.YtpdfmnhgocpkcaaGreat
