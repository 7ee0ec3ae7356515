/- Parts of the proof, one behind the other. -/
import Derived.Test.YtpdfmnhgocpkcaaGreatTM7
namespace Go.Proofs.YtpdfmnhgocpkcaaGreat
open Go Go.Proofs.Aw Go.Proofs.Xw
set_option maxRecDepth 100000
theorem zt0:DT.ok [] (ny 0) .leaf (lW 0)=true:=by kernel_rfl
theorem zt1:DT.ok [] (ny 1) .leaf (lW 1)=true:=by kernel_rfl
theorem zt2:DT.ok [] (ny 2) jK (lW 2)=true:=by kernel_rfl
theorem zt3:DT.ok [] (ny 3) jK (lW 3)=true:=by kernel_rfl
theorem zt4:DT.ok [] (ny 4) jK (lW 4)=true:=by kernel_rfl
theorem zt5:DT.ok [] (ny 5) jK (lW 5)=true:=by kernel_rfl
theorem zt6:DT.ok [] (ny 6) jK (lW 6)=true:=by kernel_rfl
theorem zt7:DT.ok [] (ny 7) jK (lW 7)=true:=by kernel_rfl
theorem zt8:DT.ok [] (ny 8) jK (lW 8)=true:=by kernel_rfl
theorem zt9:DT.ok [] (ny 9) jK (lW 9)=true:=by kernel_rfl
theorem aoo:Ho Xy [(.lt (.lit 250) (.len 2),false)]=true:=by kernel_rfl
theorem aon:Hn true []=true:=by kernel_rfl
end Go.Proofs.YtpdfmnhgocpkcaaGreat
