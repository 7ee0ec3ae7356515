/- Parts of the proof, one behind the other. -/
import Derived.Test.YtpdfmnhgocpkcaaGreatTM3
namespace Go.Proofs.YtpdfmnhgocpkcaaGreat
open Go Go.Proofs.Aw Go.Proofs.Xw
set_option maxRecDepth 100000
theorem ama:ay 4 0=true:=by kernel_rfl
theorem amb:ay 4 1=true:=by kernel_rfl
theorem amm:ay 4 2=true:=by kernel_rfl
theorem amn:ay 4 3=true:=by kernel_rfl
theorem amo:ay 4 4=true:=by kernel_rfl
theorem amp:ay 4 5=true:=by kernel_rfl
theorem amq:ay 4 6=true:=by kernel_rfl
theorem amr:ay 4 7=true:=by kernel_rfl
theorem ams:ay 4 8=true:=by kernel_rfl
theorem amt:ay 4 9=true:=by kernel_rfl
theorem amc:ay 4 10=true:=by kernel_rfl
theorem amd:ay 4 11=true:=by kernel_rfl
theorem ame:ay 4 12=true:=by kernel_rfl
theorem amf:ay 4 13=true:=by kernel_rfl
theorem amg:ay 4 14=true:=by kernel_rfl
theorem amh:ay 4 15=true:=by kernel_rfl
theorem ami:ay 4 16=true:=by kernel_rfl
theorem amj:ay 4 17=true:=by kernel_rfl
theorem amk:ay 4 18=true:=by kernel_rfl
theorem aml:ay 4 19=true:=by kernel_rfl
theorem apz:kE 4 20:=⟨⟨⟨⟨⟨⟨⟨⟨⟨⟨⟨⟨⟨⟨⟨⟨⟨⟨⟨⟨trivial,ama⟩,amb⟩,amm⟩,amn⟩,amo⟩,amp⟩,amq⟩,amr⟩,ams⟩,amt⟩,amc⟩,amd⟩,ame⟩,amf⟩,amg⟩,amh⟩,ami⟩,amj⟩,amk⟩,aml⟩
theorem apo:((dR false 4).parts a' (a5 4)).length=20:=by kernel_rfl
theorem apJ:(dR false 4).wf a' (a5 4)=true:=by kernel_rfl
theorem apT:DT.ok a' (bS [] 4) .leaf (ga 4)=true:=by kernel_rfl
end Go.Proofs.YtpdfmnhgocpkcaaGreat
