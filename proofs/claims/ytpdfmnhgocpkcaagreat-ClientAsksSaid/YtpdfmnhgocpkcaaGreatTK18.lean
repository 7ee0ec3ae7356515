/- Parts of the proof, one behind the other. -/
import Derived.Test.YtpdfmnhgocpkcaaGreatTK7
namespace Go.Proofs.YtpdfmnhgocpkcaaGreat
open Go Go.Proofs.Aw Go.Proofs.Xw
set_option maxRecDepth 100000
theorem zt2:mL [] 2 (aY 2)=true:=by kernel_rfl
theorem zt3:mL [] 3 (aY 3)=true:=by kernel_rfl
theorem zt4:mL [] 4 (aY 4)=true:=by kernel_rfl
theorem zt5:mL [] 5 (aY 5)=true:=by kernel_rfl
theorem zt6:mL [] 6 (aY 6)=true:=by kernel_rfl
theorem zt7:mL [] 7 (aY 7)=true:=by kernel_rfl
theorem zt8:mL [] 8 (aY 8)=true:=by kernel_rfl
theorem zt9:mL [] 9 (aY 9)=true:=by kernel_rfl
theorem aoF:HK XV [(.lt (.lit 250) (.len 2),false)]=true:=by kernel_rfl
theorem aoC:yZ true false []=true:=by kernel_rfl
theorem aoD:yZ true true []=true:=by kernel_rfl
theorem aoE:yZ false true []=true:=by kernel_rfl
end Go.Proofs.YtpdfmnhgocpkcaaGreat
