/- Parts of the proof, one behind the other. -/
import Derived.Test.YtpdfmnhgocpkcaaGreatTM3
import Derived.Test.YtpdfmnhgocpkcaaGreatTM15
namespace Go.Proofs.YtpdfmnhgocpkcaaGreat
open Go Go.Proofs.Aw Go.Proofs.Xw
set_option maxRecDepth 100000
theorem tw0:DT.ok bH (kX (yD false++yD true) 0) (dN) (wF++((aJ (cA 1) 4,true)::(aJ (cA 0) 1,true)::gz 0))=true:=by kernel_rfl
theorem tn0:DT.ok bH (kX (xm false++xm true) 0) (.br (iH (cA 1002) 1) (dN) (dN)) ((aJ (cA 1) 4,true)::(aJ (cA 0) 1,true)::gz 0)=true:=by kernel_rfl
theorem tw1:DT.ok bH (kX (yD false++yD true) 1) (dN) (wF++((aJ (cA 1) 4,true)::(aJ (cA 0) 1,true)::gz 1))=true:=by kernel_rfl
theorem tn1:DT.ok bH (kX (xm false++xm true) 1) (.br (iH (cA 1002) 1) (dN) (dN)) ((aJ (cA 1) 4,true)::(aJ (cA 0) 1,true)::gz 1)=true:=by kernel_rfl
theorem tw2:DT.ok bH (kX (yD false++yD true) 2) (.leaf) (wF++((aJ (cA 1) 4,true)::(aJ (cA 0) 1,true)::gz 2))=true:=by kernel_rfl
theorem tn2:DT.ok bH (kX (xm false++xm true) 2) (.br (iH (cA 1002) 1) (.leaf) (.leaf)) ((aJ (cA 1) 4,true)::(aJ (cA 0) 1,true)::gz 2)=true:=by kernel_rfl
theorem tw3:DT.ok bH (kX (yD false++yD true) 3) (.leaf) (wF++((aJ (cA 1) 4,true)::(aJ (cA 0) 1,true)::gz 3))=true:=by kernel_rfl
theorem tn3:DT.ok bH (kX (xm false++xm true) 3) (.br (iH (cA 1002) 1) (.leaf) (.leaf)) ((aJ (cA 1) 4,true)::(aJ (cA 0) 1,true)::gz 3)=true:=by kernel_rfl
theorem tw4:DT.ok bH (kX (yD false++yD true) 4) (.leaf) (wF++((aJ (cA 1) 4,true)::(aJ (cA 0) 1,true)::gz 4))=true:=by kernel_rfl
theorem tn4:DT.ok bH (kX (xm false++xm true) 4) (.br (iH (cA 1002) 1) (.leaf) (.leaf)) ((aJ (cA 1) 4,true)::(aJ (cA 0) 1,true)::gz 4)=true:=by kernel_rfl
theorem tw5:DT.ok bH (kX (yD false++yD true) 5) (.leaf) (wF++((aJ (cA 1) 4,true)::(aJ (cA 0) 1,true)::gz 5))=true:=by kernel_rfl
theorem tn5:DT.ok bH (kX (xm false++xm true) 5) (.br (iH (cA 1002) 1) (.leaf) (.leaf)) ((aJ (cA 1) 4,true)::(aJ (cA 0) 1,true)::gz 5)=true:=by kernel_rfl
theorem tw6:DT.ok bH (kX (yD false++yD true) 6) (.leaf) (wF++((aJ (cA 1) 4,true)::(aJ (cA 0) 1,true)::gz 6))=true:=by kernel_rfl
theorem tn6:DT.ok bH (kX (xm false++xm true) 6) (.br (iH (cA 1002) 1) (.leaf) (.leaf)) ((aJ (cA 1) 4,true)::(aJ (cA 0) 1,true)::gz 6)=true:=by kernel_rfl
theorem tw7:DT.ok bH (kX (yD false++yD true) 7) (.leaf) (wF++((aJ (cA 1) 4,true)::(aJ (cA 0) 1,true)::gz 7))=true:=by kernel_rfl
theorem tn7:DT.ok bH (kX (xm false++xm true) 7) (.br (iH (cA 1002) 1) (.leaf) (.leaf)) ((aJ (cA 1) 4,true)::(aJ (cA 0) 1,true)::gz 7)=true:=by kernel_rfl
theorem tw8:DT.ok bH (kX (yD false++yD true) 8) (.leaf) (wF++((aJ (cA 1) 4,true)::(aJ (cA 0) 1,true)::gz 8))=true:=by kernel_rfl
theorem tn8:DT.ok bH (kX (xm false++xm true) 8) (.br (iH (cA 1002) 1) (.leaf) (.leaf)) ((aJ (cA 1) 4,true)::(aJ (cA 0) 1,true)::gz 8)=true:=by kernel_rfl
theorem tw9:DT.ok bH (kX (yD false++yD true) 9) (.leaf) (wF++((aJ (cA 1) 4,true)::(aJ (cA 0) 1,true)::gz 9))=true:=by kernel_rfl
theorem tn9:DT.ok bH (kX (xm false++xm true) 9) (.br (iH (cA 1002) 1) (.leaf) (.leaf)) ((aJ (cA 1) 4,true)::(aJ (cA 0) 1,true)::gz 9)=true:=by kernel_rfl
end Go.Proofs.YtpdfmnhgocpkcaaGreat
