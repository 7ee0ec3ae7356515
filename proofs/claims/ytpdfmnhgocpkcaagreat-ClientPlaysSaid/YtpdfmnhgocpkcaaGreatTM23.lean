/- Parts of the proof, one behind the other. -/
import Derived.Test.YtpdfmnhgocpkcaaGreatTM6
namespace Go.Proofs.YtpdfmnhgocpkcaaGreat
open Go Go.Proofs.Aw Go.Proofs.Xw
set_option maxRecDepth 100000
theorem anL:aw 8 0=true:=by kernel_rfl
theorem anM:aw 8 1=true:=by kernel_rfl
theorem anX:aw 8 2=true:=by kernel_rfl
theorem an6:aw 8 3=true:=by kernel_rfl
theorem an7:aw 8 4=true:=by kernel_rfl
theorem an8:aw 8 5=true:=by kernel_rfl
theorem an9:aw 8 6=true:=by kernel_rfl
theorem aoa:aw 8 7=true:=by kernel_rfl
theorem aob:aw 8 8=true:=by kernel_rfl
theorem aoc:aw 8 9=true:=by kernel_rfl
theorem anN:aw 8 10=true:=by kernel_rfl
theorem anO:aw 8 11=true:=by kernel_rfl
theorem anP:aw 8 12=true:=by kernel_rfl
theorem anQ:aw 8 13=true:=by kernel_rfl
theorem anR:aw 8 14=true:=by kernel_rfl
theorem anS:aw 8 15=true:=by kernel_rfl
theorem anT:aw 8 16=true:=by kernel_rfl
theorem anU:aw 8 17=true:=by kernel_rfl
theorem anV:aw 8 18=true:=by kernel_rfl
theorem anW:aw 8 19=true:=by kernel_rfl
theorem anY:aw 8 20=true:=by kernel_rfl
theorem anZ:aw 8 21=true:=by kernel_rfl
theorem an0:aw 8 22=true:=by kernel_rfl
theorem an1:aw 8 23=true:=by kernel_rfl
theorem an2:aw 8 24=true:=by kernel_rfl
theorem an3:aw 8 25=true:=by kernel_rfl
theorem an4:aw 8 26=true:=by kernel_rfl
theorem an5:aw 8 27=true:=by kernel_rfl
theorem ap7:kE 8 28:=⟨⟨⟨⟨⟨⟨⟨⟨⟨⟨⟨⟨⟨⟨⟨⟨⟨⟨⟨⟨⟨⟨⟨⟨⟨⟨⟨⟨trivial,anL⟩,anM⟩,anX⟩,an6⟩,an7⟩,an8⟩,an9⟩,aoa⟩,aob⟩,aoc⟩,anN⟩,anO⟩,anP⟩,anQ⟩,anR⟩,anS⟩,anT⟩,anU⟩,anV⟩,anW⟩,anY⟩,anZ⟩,an0⟩,an1⟩,an2⟩,an3⟩,an4⟩,an5⟩
theorem apX:((dR true 8).parts a' (a5 8)).length=28:=by kernel_rfl
theorem aqh:(dR true 8).wf a' (a5 8)=true:=by kernel_rfl
theorem aqr:DT.ok a' (bV [] 8) .leaf (ga 8)=true:=by kernel_rfl
end Go.Proofs.YtpdfmnhgocpkcaaGreat
