/- Parts of the proof, one behind the other. -/
import Derived.Test.YtpdfmnhgocpkcaaGreatTM6
namespace Go.Proofs.YtpdfmnhgocpkcaaGreat
open Go Go.Proofs.Aw Go.Proofs.Xw
set_option maxRecDepth 100000
theorem zt0:DT.ok [] (nB 0) .leaf (lW 0)=true:=by kernel_rfl
theorem zt1:DT.ok [] (nB 1) .leaf (lW 1)=true:=by kernel_rfl
theorem zt2:DT.ok [] (nB 2) .leaf (lW 2)=true:=by kernel_rfl
theorem zt3:DT.ok [] (nB 3) .leaf (lW 3)=true:=by kernel_rfl
theorem zt4:DT.ok [] (nB 4) .leaf (lW 4)=true:=by kernel_rfl
theorem zt5:DT.ok [] (nB 5) .leaf (lW 5)=true:=by kernel_rfl
theorem zt6:DT.ok [] (nB 6) .leaf (lW 6)=true:=by kernel_rfl
theorem zt7:DT.ok [] (nB 7) .leaf (lW 7)=true:=by kernel_rfl
theorem zt8:DT.ok [] (nB 8) .leaf (lW 8)=true:=by kernel_rfl
theorem zt9:DT.ok [] (nB 9) .leaf (lW 9)=true:=by kernel_rfl
theorem aoS:Hn XB [(.lt (.lit 250) (.len 2),false)]=true:=by kernel_rfl
theorem aoR:Hm true []=true:=by kernel_rfl
end Go.Proofs.YtpdfmnhgocpkcaaGreat
