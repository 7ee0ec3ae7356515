/- Parts of the proof, one behind the other. -/
import Derived.Test.YtpdfmnhgocpkcaaGreatTM3
namespace Go.Proofs.YtpdfmnhgocpkcaaGreat
open Go Go.Proofs.Aw Go.Proofs.Xw
set_option maxRecDepth 100000
theorem ale:ay 1 0=true:=by kernel_rfl
theorem alf:ay 1 1=true:=by kernel_rfl
theorem alg:ay 1 2=true:=by kernel_rfl
theorem alh:ay 1 3=true:=by kernel_rfl
theorem ali:ay 1 4=true:=by kernel_rfl
theorem alj:ay 1 5=true:=by kernel_rfl
theorem alk:ay 1 6=true:=by kernel_rfl
theorem alm:ay 1 7=true:=by kernel_rfl
theorem aln:ay 1 8=true:=by kernel_rfl
theorem alo:ay 1 9=true:=by kernel_rfl
theorem apw:kE 1 10:=⟨⟨⟨⟨⟨⟨⟨⟨⟨⟨trivial,ale⟩,alf⟩,alg⟩,alh⟩,ali⟩,alj⟩,alk⟩,alm⟩,aln⟩,alo⟩
theorem apl:((dR false 1).parts a' (a5 1)).length=10:=by kernel_rfl
theorem apG:(dR false 1).wf a' (a5 1)=true:=by kernel_rfl
theorem apQ:DT.ok a' (bS [] 1) .leaf (ga 1)=true:=by kernel_rfl
end Go.Proofs.YtpdfmnhgocpkcaaGreat
