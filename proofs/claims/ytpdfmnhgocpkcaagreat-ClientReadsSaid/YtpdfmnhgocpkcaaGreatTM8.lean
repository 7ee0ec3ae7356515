/- Parts of the proof, one behind the other. -/
import Derived.Test.YtpdfmnhgocpkcaaGreatTM6
namespace Go.Proofs.YtpdfmnhgocpkcaaGreat
open Go Go.Proofs.Aw Go.Proofs.Xw
set_option maxRecDepth 100000
theorem z1a:vM 1 ((iH (.slen (.var 0)) 1,true)::wY 1)=true:=by kernel_rfl
theorem z1b:vM 1 ((Fz (.slen (.var 0)) 16,true)::(iH (.slen (.var 0)) 1,false)::wY 1)=true:=by kernel_rfl
theorem z1c:vM 1 ((.lt (.var 402) (.lit 1099511627776),false)::(Fz (.slen (.var 0)) 16,false)::(iH (.slen (.var 0)) 1,false)::wY 1)=true:=by kernel_rfl
theorem z1d:vM 1 ((.eq (.uf 1 0 alZ) (.lit 1),false)::(kOk++wY 1))=true:=by kernel_rfl
theorem cd0:DT.ok [] (vM 1) (.br (.var 0) pM pM) (Yx 1 1)=true:=by kernel_rfl
theorem cc9:DT.ok [] (vM 1) (.br (.var 0) pM pM) (Yx 1 2)=true:=by kernel_rfl
theorem cc8:DT.ok [] (vM 1) (.br (.var 0) pM pM) (Yx 1 3)=true:=by kernel_rfl
theorem cc7:DT.ok [] (vM 1) (.br (.var 0) pM pM) (Yx 1 4)=true:=by kernel_rfl
end Go.Proofs.YtpdfmnhgocpkcaaGreat
