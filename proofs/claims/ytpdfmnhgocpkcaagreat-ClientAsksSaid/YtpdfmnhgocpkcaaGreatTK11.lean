/- Parts of the proof, one behind the other. -/
import Derived.Test.YtpdfmnhgocpkcaaGreatTK7
namespace Go.Proofs.YtpdfmnhgocpkcaaGreat
open Go Go.Proofs.Aw Go.Proofs.Xw
set_option maxRecDepth 100000
theorem atY:aV fh eh (wF++dK 0) 0 0=true:=by kernel_rfl
theorem atZ:aV fh eh (wF++dK 0) 0 1=true:=by kernel_rfl
theorem at1:aV fh eh (wF++dK 0) 0 2=true:=by kernel_rfl
theorem at2:aV fh eh (wF++dK 0) 0 3=true:=by kernel_rfl
theorem at3:aV fh eh (wF++dK 0) 0 4=true:=by kernel_rfl
theorem at4:aV fh eh (wF++dK 0) 0 5=true:=by kernel_rfl
theorem at5:aV fh eh (wF++dK 0) 0 6=true:=by kernel_rfl
theorem at6:aV fh eh (wF++dK 0) 0 7=true:=by kernel_rfl
theorem at7:aV fh eh (wF++dK 0) 0 8=true:=by kernel_rfl
theorem at8:aV fh eh (wF++dK 0) 0 9=true:=by kernel_rfl
theorem at0:aV fh eh (wF++dK 0) 0 10=true:=by kernel_rfl
theorem aul:DT.ok gI (mL (cW false++cW true) 0) yO (dK 0)=true:=by kernel_rfl
end Go.Proofs.YtpdfmnhgocpkcaaGreat
