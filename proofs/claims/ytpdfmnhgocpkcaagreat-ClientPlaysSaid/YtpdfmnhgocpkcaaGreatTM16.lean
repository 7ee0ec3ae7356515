/- Parts of the proof, one behind the other. -/
import Derived.Test.YtpdfmnhgocpkcaaGreatTM6
namespace Go.Proofs.YtpdfmnhgocpkcaaGreat
open Go Go.Proofs.Aw Go.Proofs.Xw
set_option maxRecDepth 100000
theorem alb:aw 1 0=true:=by kernel_rfl
theorem alc:aw 1 1=true:=by kernel_rfl
theorem ald:aw 1 2=true:=by kernel_rfl
theorem ale:aw 1 3=true:=by kernel_rfl
theorem alf:aw 1 4=true:=by kernel_rfl
theorem alg:aw 1 5=true:=by kernel_rfl
theorem alh:aw 1 6=true:=by kernel_rfl
theorem ali:aw 1 7=true:=by kernel_rfl
theorem alj:aw 1 8=true:=by kernel_rfl
theorem alk:aw 1 9=true:=by kernel_rfl
theorem ap0:kE 1 10:=⟨⟨⟨⟨⟨⟨⟨⟨⟨⟨trivial,alb⟩,alc⟩,ald⟩,ale⟩,alf⟩,alg⟩,alh⟩,ali⟩,alj⟩,alk⟩
theorem apQ:((dR true 1).parts a' (a5 1)).length=10:=by kernel_rfl
theorem aqa:(dR true 1).wf a' (a5 1)=true:=by kernel_rfl
theorem aqk:DT.ok a' (bV [] 1) .leaf (ga 1)=true:=by kernel_rfl
end Go.Proofs.YtpdfmnhgocpkcaaGreat
