/- Parts of the proof, one behind the other. -/
import Derived.Test.YtpdfmnhgocpkcaaGreatTK3
namespace Go.Proofs.YtpdfmnhgocpkcaaGreat
open Go Go.Proofs.Aw Go.Proofs.Xw
set_option maxRecDepth 100000
theorem anZ:az 9 0=true:=by kernel_rfl
theorem an0:az 9 1=true:=by kernel_rfl
theorem an9:az 9 2=true:=by kernel_rfl
theorem aoa:az 9 3=true:=by kernel_rfl
theorem aob:az 9 4=true:=by kernel_rfl
theorem aoc:az 9 5=true:=by kernel_rfl
theorem aod:az 9 6=true:=by kernel_rfl
theorem aoe:az 9 7=true:=by kernel_rfl
theorem aof:az 9 8=true:=by kernel_rfl
theorem aog:az 9 9=true:=by kernel_rfl
theorem an1:az 9 10=true:=by kernel_rfl
theorem an2:az 9 11=true:=by kernel_rfl
theorem an3:az 9 12=true:=by kernel_rfl
theorem an4:az 9 13=true:=by kernel_rfl
theorem an5:az 9 14=true:=by kernel_rfl
theorem an6:az 9 15=true:=by kernel_rfl
theorem an7:az 9 16=true:=by kernel_rfl
theorem an8:az 9 17=true:=by kernel_rfl
theorem apX:kT 9 18:=⟨⟨⟨⟨⟨⟨⟨⟨⟨⟨⟨⟨⟨⟨⟨⟨⟨⟨trivial,anZ⟩,an0⟩,an9⟩,aoa⟩,aob⟩,aoc⟩,aod⟩,aoe⟩,aof⟩,aog⟩,an1⟩,an2⟩,an3⟩,an4⟩,an5⟩,an6⟩,an7⟩,an8⟩
theorem apN:((dY false 9).parts bc (a8 9)).length=18:=by kernel_rfl
theorem ap7:(dY false 9).wf bc (a8 9)=true:=by kernel_rfl
theorem aqh:DT.ok bc (bW [] 9) .leaf (gh 9)=true:=by kernel_rfl
end Go.Proofs.YtpdfmnhgocpkcaaGreat
