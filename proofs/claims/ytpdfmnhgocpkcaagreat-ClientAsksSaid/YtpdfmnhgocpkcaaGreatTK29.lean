/- Parts of the proof, one behind the other. -/
import Derived.Test.YtpdfmnhgocpkcaaGreatTK3
namespace Go.Proofs.YtpdfmnhgocpkcaaGreat
open Go Go.Proofs.Aw Go.Proofs.Xw
set_option maxRecDepth 100000
theorem al1:az 3 0=true:=by kernel_rfl
theorem al2:az 3 1=true:=by kernel_rfl
theorem amh:az 3 2=true:=by kernel_rfl
theorem ami:az 3 3=true:=by kernel_rfl
theorem amj:az 3 4=true:=by kernel_rfl
theorem amk:az 3 5=true:=by kernel_rfl
theorem aml:az 3 6=true:=by kernel_rfl
theorem amm:az 3 7=true:=by kernel_rfl
theorem amn:az 3 8=true:=by kernel_rfl
theorem amo:az 3 9=true:=by kernel_rfl
theorem al3:az 3 10=true:=by kernel_rfl
theorem al4:az 3 11=true:=by kernel_rfl
theorem al5:az 3 12=true:=by kernel_rfl
theorem ama:az 3 13=true:=by kernel_rfl
theorem amb:az 3 14=true:=by kernel_rfl
theorem amc:az 3 15=true:=by kernel_rfl
theorem amd:az 3 16=true:=by kernel_rfl
theorem ame:az 3 17=true:=by kernel_rfl
theorem amf:az 3 18=true:=by kernel_rfl
theorem amg:az 3 19=true:=by kernel_rfl
theorem apR:kT 3 20:=⟨⟨⟨⟨⟨⟨⟨⟨⟨⟨⟨⟨⟨⟨⟨⟨⟨⟨⟨⟨trivial,al1⟩,al2⟩,amh⟩,ami⟩,amj⟩,amk⟩,aml⟩,amm⟩,amn⟩,amo⟩,al3⟩,al4⟩,al5⟩,ama⟩,amb⟩,amc⟩,amd⟩,ame⟩,amf⟩,amg⟩
theorem apH:((dY false 3).parts bc (a8 3)).length=20:=by kernel_rfl
theorem ap1:(dY false 3).wf bc (a8 3)=true:=by kernel_rfl
theorem aqb:DT.ok bc (bW [] 3) .leaf (gh 3)=true:=by kernel_rfl
end Go.Proofs.YtpdfmnhgocpkcaaGreat
