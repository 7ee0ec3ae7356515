/- Parts of the proof, one behind the other. -/
import Derived.Test.YtpdfmnhgocpkcaaGreatTM6
namespace Go.Proofs.YtpdfmnhgocpkcaaGreat
open Go Go.Proofs.Aw Go.Proofs.Xw
set_option maxRecDepth 100000
theorem amf:aw 4 0=true:=by kernel_rfl
theorem amg:aw 4 1=true:=by kernel_rfl
theorem amr:aw 4 2=true:=by kernel_rfl
theorem amA:aw 4 3=true:=by kernel_rfl
theorem amB:aw 4 4=true:=by kernel_rfl
theorem amC:aw 4 5=true:=by kernel_rfl
theorem amD:aw 4 6=true:=by kernel_rfl
theorem amE:aw 4 7=true:=by kernel_rfl
theorem amF:aw 4 8=true:=by kernel_rfl
theorem amG:aw 4 9=true:=by kernel_rfl
theorem amh:aw 4 10=true:=by kernel_rfl
theorem ami:aw 4 11=true:=by kernel_rfl
theorem amj:aw 4 12=true:=by kernel_rfl
theorem amk:aw 4 13=true:=by kernel_rfl
theorem aml:aw 4 14=true:=by kernel_rfl
theorem amm:aw 4 15=true:=by kernel_rfl
theorem amn:aw 4 16=true:=by kernel_rfl
theorem amo:aw 4 17=true:=by kernel_rfl
theorem amp:aw 4 18=true:=by kernel_rfl
theorem amq:aw 4 19=true:=by kernel_rfl
theorem ams:aw 4 20=true:=by kernel_rfl
theorem amt:aw 4 21=true:=by kernel_rfl
theorem amu:aw 4 22=true:=by kernel_rfl
theorem amv:aw 4 23=true:=by kernel_rfl
theorem amw:aw 4 24=true:=by kernel_rfl
theorem amx:aw 4 25=true:=by kernel_rfl
theorem amy:aw 4 26=true:=by kernel_rfl
theorem amz:aw 4 27=true:=by kernel_rfl
theorem ap3:kE 4 28:=⟨⟨⟨⟨⟨⟨⟨⟨⟨⟨⟨⟨⟨⟨⟨⟨⟨⟨⟨⟨⟨⟨⟨⟨⟨⟨⟨⟨trivial,amf⟩,amg⟩,amr⟩,amA⟩,amB⟩,amC⟩,amD⟩,amE⟩,amF⟩,amG⟩,amh⟩,ami⟩,amj⟩,amk⟩,aml⟩,amm⟩,amn⟩,amo⟩,amp⟩,amq⟩,ams⟩,amt⟩,amu⟩,amv⟩,amw⟩,amx⟩,amy⟩,amz⟩
theorem apT:((dR true 4).parts a' (a5 4)).length=28:=by kernel_rfl
theorem aqd:(dR true 4).wf a' (a5 4)=true:=by kernel_rfl
theorem aqn:DT.ok a' (bV [] 4) .leaf (ga 4)=true:=by kernel_rfl
end Go.Proofs.YtpdfmnhgocpkcaaGreat
