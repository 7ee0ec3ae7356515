/- Parts of the proof, one behind the other. -/
import Derived.Test.YtpdfmnhgocpkcaaGreatTM6
namespace Go.Proofs.YtpdfmnhgocpkcaaGreat
open Go Go.Proofs.Aw Go.Proofs.Xw
set_option maxRecDepth 100000
theorem alm:aw 2 0=true:=by kernel_rfl
theorem aln:aw 2 1=true:=by kernel_rfl
theorem alz:aw 2 2=true:=by kernel_rfl
theorem alK:aw 2 3=true:=by kernel_rfl
theorem alL:aw 2 4=true:=by kernel_rfl
theorem alM:aw 2 5=true:=by kernel_rfl
theorem alN:aw 2 6=true:=by kernel_rfl
theorem alO:aw 2 7=true:=by kernel_rfl
theorem alP:aw 2 8=true:=by kernel_rfl
theorem alQ:aw 2 9=true:=by kernel_rfl
theorem alo:aw 2 10=true:=by kernel_rfl
theorem alp:aw 2 11=true:=by kernel_rfl
theorem alq:aw 2 12=true:=by kernel_rfl
theorem alr:aw 2 13=true:=by kernel_rfl
theorem als:aw 2 14=true:=by kernel_rfl
theorem alu:aw 2 15=true:=by kernel_rfl
theorem alv:aw 2 16=true:=by kernel_rfl
theorem alw:aw 2 17=true:=by kernel_rfl
theorem alx:aw 2 18=true:=by kernel_rfl
theorem aly:aw 2 19=true:=by kernel_rfl
theorem alA:aw 2 20=true:=by kernel_rfl
theorem alB:aw 2 21=true:=by kernel_rfl
theorem alC:aw 2 22=true:=by kernel_rfl
theorem alD:aw 2 23=true:=by kernel_rfl
theorem alE:aw 2 24=true:=by kernel_rfl
theorem alF:aw 2 25=true:=by kernel_rfl
theorem alG:aw 2 26=true:=by kernel_rfl
theorem alH:aw 2 27=true:=by kernel_rfl
theorem alI:aw 2 28=true:=by kernel_rfl
theorem alJ:aw 2 29=true:=by kernel_rfl
theorem ap1:kE 2 30:=⟨⟨⟨⟨⟨⟨⟨⟨⟨⟨⟨⟨⟨⟨⟨⟨⟨⟨⟨⟨⟨⟨⟨⟨⟨⟨⟨⟨⟨⟨trivial,alm⟩,aln⟩,alz⟩,alK⟩,alL⟩,alM⟩,alN⟩,alO⟩,alP⟩,alQ⟩,alo⟩,alp⟩,alq⟩,alr⟩,als⟩,alu⟩,alv⟩,alw⟩,alx⟩,aly⟩,alA⟩,alB⟩,alC⟩,alD⟩,alE⟩,alF⟩,alG⟩,alH⟩,alI⟩,alJ⟩
theorem apR:((dR true 2).parts a' (a5 2)).length=30:=by kernel_rfl
theorem aqb:(dR true 2).wf a' (a5 2)=true:=by kernel_rfl
theorem aql:DT.ok a' (bV [] 2) .leaf (ga 2)=true:=by kernel_rfl
end Go.Proofs.YtpdfmnhgocpkcaaGreat
