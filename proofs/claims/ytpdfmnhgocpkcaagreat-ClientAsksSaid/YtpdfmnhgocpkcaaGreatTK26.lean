/- Parts of the proof, one behind the other. -/
import Derived.Test.YtpdfmnhgocpkcaaGreatTK3
namespace Go.Proofs.YtpdfmnhgocpkcaaGreat
open Go Go.Proofs.Aw Go.Proofs.Xw
set_option maxRecDepth 100000
theorem alj:az 0 0=true:=by kernel_rfl
theorem alk:az 0 1=true:=by kernel_rfl
theorem alm:az 0 2=true:=by kernel_rfl
theorem aln:az 0 3=true:=by kernel_rfl
theorem alo:az 0 4=true:=by kernel_rfl
theorem alp:az 0 5=true:=by kernel_rfl
theorem alq:az 0 6=true:=by kernel_rfl
theorem alr:az 0 7=true:=by kernel_rfl
theorem als:az 0 8=true:=by kernel_rfl
theorem alu:az 0 9=true:=by kernel_rfl
theorem apO:kT 0 10:=⟨⟨⟨⟨⟨⟨⟨⟨⟨⟨trivial,alj⟩,alk⟩,alm⟩,aln⟩,alo⟩,alp⟩,alq⟩,alr⟩,als⟩,alu⟩
theorem apE:((dY false 0).parts bc (a8 0)).length=10:=by kernel_rfl
theorem apY:(dY false 0).wf bc (a8 0)=true:=by kernel_rfl
theorem ap8:DT.ok bc (bW [] 0) .leaf (gh 0)=true:=by kernel_rfl
end Go.Proofs.YtpdfmnhgocpkcaaGreat
