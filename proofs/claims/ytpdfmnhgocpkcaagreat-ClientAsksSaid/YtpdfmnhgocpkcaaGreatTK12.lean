/- Parts of the proof, one behind the other. -/
import Derived.Test.YtpdfmnhgocpkcaaGreatTK8
import Derived.Test.YtpdfmnhgocpkcaaGreatTK9
import Derived.Test.YtpdfmnhgocpkcaaGreatTK10
import Derived.Test.YtpdfmnhgocpkcaaGreatTK11
namespace Go.Proofs.YtpdfmnhgocpkcaaGreat
open Go Go.Proofs.Aw Go.Proofs.Xw
set_option maxRecDepth 100000
theorem zz0:rM [] a6 (aY 0) 0 46:=⟨⟨⟨⟨⟨⟨⟨⟨⟨⟨⟨⟨⟨⟨⟨⟨⟨⟨⟨⟨⟨⟨⟨⟨⟨⟨⟨⟨⟨⟨⟨⟨⟨⟨⟨⟨⟨⟨⟨⟨⟨⟨⟨⟨⟨⟨trivial,aun⟩,auo⟩,auA⟩,auL⟩,auW⟩,au3⟩,au4⟩,au5⟩,au6⟩,au7⟩,aup⟩,auq⟩,aur⟩,aus⟩,aut⟩,auu⟩,auv⟩,auw⟩,auy⟩,auz⟩,auB⟩,auC⟩,auD⟩,auE⟩,auF⟩,auG⟩,auH⟩,auI⟩,auJ⟩,auK⟩,auM⟩,auN⟩,auO⟩,auP⟩,auQ⟩,auR⟩,auS⟩,auT⟩,auU⟩,auV⟩,auX⟩,auY⟩,auZ⟩,au0⟩,au1⟩,au2⟩
theorem zn0:(a6.parts gI (aY 0)).length=46:=by kernel_rfl
theorem zw0:a6.wf gI (aY 0)=true:=by kernel_rfl
theorem xx0:rM fh eh (wF++dK 0) 0 11:=⟨⟨⟨⟨⟨⟨⟨⟨⟨⟨⟨trivial,atY⟩,atZ⟩,at1⟩,at2⟩,at3⟩,at4⟩,at5⟩,at6⟩,at7⟩,at8⟩,at0⟩
theorem yn0:(eh.parts gI (wF++dK 0)).length=11:=by kernel_rfl
theorem yw0:eh.wf gI (wF++dK 0)=true:=by kernel_rfl
end Go.Proofs.YtpdfmnhgocpkcaaGreat
