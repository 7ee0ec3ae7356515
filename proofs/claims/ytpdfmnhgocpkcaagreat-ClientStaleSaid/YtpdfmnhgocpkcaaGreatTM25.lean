/- Parts of the proof, one behind the other. -/
import Derived.Test.YtpdfmnhgocpkcaaGreatTM3
namespace Go.Proofs.YtpdfmnhgocpkcaaGreat
open Go Go.Proofs.Aw Go.Proofs.Xw
set_option maxRecDepth 100000
theorem anK:ay 9 0=true:=by kernel_rfl
theorem anL:ay 9 1=true:=by kernel_rfl
theorem anU:ay 9 2=true:=by kernel_rfl
theorem anV:ay 9 3=true:=by kernel_rfl
theorem anW:ay 9 4=true:=by kernel_rfl
theorem anX:ay 9 5=true:=by kernel_rfl
theorem anY:ay 9 6=true:=by kernel_rfl
theorem anZ:ay 9 7=true:=by kernel_rfl
theorem an0:ay 9 8=true:=by kernel_rfl
theorem an1:ay 9 9=true:=by kernel_rfl
theorem anM:ay 9 10=true:=by kernel_rfl
theorem anN:ay 9 11=true:=by kernel_rfl
theorem anO:ay 9 12=true:=by kernel_rfl
theorem anP:ay 9 13=true:=by kernel_rfl
theorem anQ:ay 9 14=true:=by kernel_rfl
theorem anR:ay 9 15=true:=by kernel_rfl
theorem anS:ay 9 16=true:=by kernel_rfl
theorem anT:ay 9 17=true:=by kernel_rfl
theorem apE:kE 9 18:=⟨⟨⟨⟨⟨⟨⟨⟨⟨⟨⟨⟨⟨⟨⟨⟨⟨⟨trivial,anK⟩,anL⟩,anU⟩,anV⟩,anW⟩,anX⟩,anY⟩,anZ⟩,an0⟩,an1⟩,anM⟩,anN⟩,anO⟩,anP⟩,anQ⟩,anR⟩,anS⟩,anT⟩
theorem apu:((dR false 9).parts a' (a5 9)).length=18:=by kernel_rfl
theorem apO:(dR false 9).wf a' (a5 9)=true:=by kernel_rfl
theorem apY:DT.ok a' (bS [] 9) .leaf (ga 9)=true:=by kernel_rfl
end Go.Proofs.YtpdfmnhgocpkcaaGreat
