/- Parts of the proof, one behind the other. -/
import Derived.Test.YtpdfmnhgocpkcaaGreatTK7
namespace Go.Proofs.YtpdfmnhgocpkcaaGreat
open Go Go.Proofs.Aw Go.Proofs.Xw
set_option maxRecDepth 100000
theorem at9:aV fh eh (wF++dK 1) 1 0=true:=by kernel_rfl
theorem aua:aV fh eh (wF++dK 1) 1 1=true:=by kernel_rfl
theorem auc:aV fh eh (wF++dK 1) 1 2=true:=by kernel_rfl
theorem aud:aV fh eh (wF++dK 1) 1 3=true:=by kernel_rfl
theorem aue:aV fh eh (wF++dK 1) 1 4=true:=by kernel_rfl
theorem auf:aV fh eh (wF++dK 1) 1 5=true:=by kernel_rfl
theorem aug:aV fh eh (wF++dK 1) 1 6=true:=by kernel_rfl
theorem auh:aV fh eh (wF++dK 1) 1 7=true:=by kernel_rfl
theorem aui:aV fh eh (wF++dK 1) 1 8=true:=by kernel_rfl
theorem auj:aV fh eh (wF++dK 1) 1 9=true:=by kernel_rfl
theorem aub:aV fh eh (wF++dK 1) 1 10=true:=by kernel_rfl
theorem y1:DT.ok gI (mL (cW false++cW true) 1) yO (dK 1)=true:=by kernel_rfl
end Go.Proofs.YtpdfmnhgocpkcaaGreat
