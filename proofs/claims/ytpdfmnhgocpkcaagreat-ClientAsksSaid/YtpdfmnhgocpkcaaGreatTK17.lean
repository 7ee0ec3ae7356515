/- Parts of the proof, one behind the other. -/
import Derived.Test.YtpdfmnhgocpkcaaGreatTK13
import Derived.Test.YtpdfmnhgocpkcaaGreatTK14
import Derived.Test.YtpdfmnhgocpkcaaGreatTK15
import Derived.Test.YtpdfmnhgocpkcaaGreatTK16
namespace Go.Proofs.YtpdfmnhgocpkcaaGreat
open Go Go.Proofs.Aw Go.Proofs.Xw
set_option maxRecDepth 100000
theorem zz1:rM [] a6 (aY 1) 1 46:=⟨⟨⟨⟨⟨⟨⟨⟨⟨⟨⟨⟨⟨⟨⟨⟨⟨⟨⟨⟨⟨⟨⟨⟨⟨⟨⟨⟨⟨⟨⟨⟨⟨⟨⟨⟨⟨⟨⟨⟨⟨⟨⟨⟨⟨⟨trivial,au8⟩,au9⟩,avk⟩,avv⟩,avG⟩,avN⟩,avO⟩,avP⟩,avQ⟩,avR⟩,ava⟩,avb⟩,avc⟩,avd⟩,ave⟩,avf⟩,avg⟩,avh⟩,avi⟩,avj⟩,avl⟩,avm⟩,avn⟩,avo⟩,avp⟩,avq⟩,avr⟩,avs⟩,avt⟩,avu⟩,avw⟩,avx⟩,avy⟩,avz⟩,avA⟩,avB⟩,avC⟩,avD⟩,avE⟩,avF⟩,avH⟩,avI⟩,avJ⟩,avK⟩,avL⟩,avM⟩
theorem zn1:(a6.parts gI (aY 1)).length=46:=by kernel_rfl
theorem zw1:a6.wf gI (aY 1)=true:=by kernel_rfl
theorem xx1:rM fh eh (wF++dK 1) 1 11:=⟨⟨⟨⟨⟨⟨⟨⟨⟨⟨⟨trivial,at9⟩,aua⟩,auc⟩,aud⟩,aue⟩,auf⟩,aug⟩,auh⟩,aui⟩,auj⟩,aub⟩
theorem yn1:(eh.parts gI (wF++dK 1)).length=11:=by kernel_rfl
theorem yw1:eh.wf gI (wF++dK 1)=true:=by kernel_rfl
end Go.Proofs.YtpdfmnhgocpkcaaGreat
