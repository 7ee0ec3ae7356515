/- Parts of the proof, one behind the other. -/
import Derived.Test.YtpdfmnhgocpkcaaGreatTM6
namespace Go.Proofs.YtpdfmnhgocpkcaaGreat
open Go Go.Proofs.Aw Go.Proofs.Xw
set_option maxRecDepth 100000
theorem aod:aw 9 0=true:=by kernel_rfl
theorem aoe:aw 9 1=true:=by kernel_rfl
theorem aon:aw 9 2=true:=by kernel_rfl
theorem aoo:aw 9 3=true:=by kernel_rfl
theorem aop:aw 9 4=true:=by kernel_rfl
theorem aoq:aw 9 5=true:=by kernel_rfl
theorem aor:aw 9 6=true:=by kernel_rfl
theorem aos:aw 9 7=true:=by kernel_rfl
theorem aot:aw 9 8=true:=by kernel_rfl
theorem aou:aw 9 9=true:=by kernel_rfl
theorem aof:aw 9 10=true:=by kernel_rfl
theorem aog:aw 9 11=true:=by kernel_rfl
theorem aoh:aw 9 12=true:=by kernel_rfl
theorem aoi:aw 9 13=true:=by kernel_rfl
theorem aoj:aw 9 14=true:=by kernel_rfl
theorem aok:aw 9 15=true:=by kernel_rfl
theorem aol:aw 9 16=true:=by kernel_rfl
theorem aom:aw 9 17=true:=by kernel_rfl
theorem ap8:kE 9 18:=⟨⟨⟨⟨⟨⟨⟨⟨⟨⟨⟨⟨⟨⟨⟨⟨⟨⟨trivial,aod⟩,aoe⟩,aon⟩,aoo⟩,aop⟩,aoq⟩,aor⟩,aos⟩,aot⟩,aou⟩,aof⟩,aog⟩,aoh⟩,aoi⟩,aoj⟩,aok⟩,aol⟩,aom⟩
theorem apY:((dR true 9).parts a' (a5 9)).length=18:=by kernel_rfl
theorem aqi:(dR true 9).wf a' (a5 9)=true:=by kernel_rfl
theorem aqs:DT.ok a' (bV [] 9) .leaf (ga 9)=true:=by kernel_rfl
end Go.Proofs.YtpdfmnhgocpkcaaGreat
