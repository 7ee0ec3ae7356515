/- Parts of the proof, one behind the other. -/
import Derived.Test.YtpdfmnhgocpkcaaGreatTM6
namespace Go.Proofs.YtpdfmnhgocpkcaaGreat
open Go Go.Proofs.Aw Go.Proofs.Xw
set_option maxRecDepth 100000
theorem z0a:vM 0 ((iH (.slen (.var 0)) 1,true)::wY 0)=true:=by kernel_rfl
theorem z0b:vM 0 ((Fz (.slen (.var 0)) 16,true)::(iH (.slen (.var 0)) 1,false)::wY 0)=true:=by kernel_rfl
theorem z0c:vM 0 ((.lt (.var 402) (.lit 1099511627776),false)::(Fz (.slen (.var 0)) 16,false)::(iH (.slen (.var 0)) 1,false)::wY 0)=true:=by kernel_rfl
theorem z0d:vM 0 ((.eq (.uf 1 0 alZ) (.lit 1),false)::(kOk++wY 0))=true:=by kernel_rfl
theorem cd4:DT.ok [] (vM 0) (.br (.var 0) pM pM) (Yx 0 1)=true:=by kernel_rfl
theorem cd3:DT.ok [] (vM 0) (.br (.var 0) pM pM) (Yx 0 2)=true:=by kernel_rfl
theorem cd2:DT.ok [] (vM 0) (.br (.var 0) pM pM) (Yx 0 3)=true:=by kernel_rfl
theorem cd1:DT.ok [] (vM 0) (.br (.var 0) pM pM) (Yx 0 4)=true:=by kernel_rfl
end Go.Proofs.YtpdfmnhgocpkcaaGreat
