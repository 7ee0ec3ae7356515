/- Parts of the proof, one behind the other. -/
import Derived.Test.YtpdfmnhgocpkcaaGreatTK3
import Derived.Test.YtpdfmnhgocpkcaaGreatTK7
namespace Go.Proofs.YtpdfmnhgocpkcaaGreat
open Go Go.Proofs.Aw Go.Proofs.Xw
set_option maxRecDepth 100000
theorem tw0:DT.ok bc (bW (dy false++dy true) 0) (sC) (wF++((ai (cA 1) 4,true)::(ai (cA 0) 1,true)::a8 0))=true:=by kernel_rfl
theorem tn0:DT.ok bc (bW (cW false++cW true) 0) (.br (bD (cA 1002) 1) (sC) (sC)) ((ai (cA 1) 4,true)::(ai (cA 0) 1,true)::a8 0)=true:=by kernel_rfl
theorem tw1:DT.ok bc (bW (dy false++dy true) 1) (sC) (wF++((ai (cA 1) 4,true)::(ai (cA 0) 1,true)::a8 1))=true:=by kernel_rfl
theorem tn1:DT.ok bc (bW (cW false++cW true) 1) (.br (bD (cA 1002) 1) (sC) (sC)) ((ai (cA 1) 4,true)::(ai (cA 0) 1,true)::a8 1)=true:=by kernel_rfl
theorem tw2:DT.ok bc (bW (dy false++dy true) 2) (.leaf) (wF++((ai (cA 1) 4,true)::(ai (cA 0) 1,true)::a8 2))=true:=by kernel_rfl
theorem tn2:DT.ok bc (bW (cW false++cW true) 2) (.br (bD (cA 1002) 1) (.leaf) (.leaf)) ((ai (cA 1) 4,true)::(ai (cA 0) 1,true)::a8 2)=true:=by kernel_rfl
theorem tw3:DT.ok bc (bW (dy false++dy true) 3) (.leaf) (wF++((ai (cA 1) 4,true)::(ai (cA 0) 1,true)::a8 3))=true:=by kernel_rfl
theorem tn3:DT.ok bc (bW (cW false++cW true) 3) (.br (bD (cA 1002) 1) (.leaf) (.leaf)) ((ai (cA 1) 4,true)::(ai (cA 0) 1,true)::a8 3)=true:=by kernel_rfl
theorem tw4:DT.ok bc (bW (dy false++dy true) 4) (.leaf) (wF++((ai (cA 1) 4,true)::(ai (cA 0) 1,true)::a8 4))=true:=by kernel_rfl
theorem tn4:DT.ok bc (bW (cW false++cW true) 4) (.br (bD (cA 1002) 1) (.leaf) (.leaf)) ((ai (cA 1) 4,true)::(ai (cA 0) 1,true)::a8 4)=true:=by kernel_rfl
theorem tw5:DT.ok bc (bW (dy false++dy true) 5) (.leaf) (wF++((ai (cA 1) 4,true)::(ai (cA 0) 1,true)::a8 5))=true:=by kernel_rfl
theorem tn5:DT.ok bc (bW (cW false++cW true) 5) (.br (bD (cA 1002) 1) (.leaf) (.leaf)) ((ai (cA 1) 4,true)::(ai (cA 0) 1,true)::a8 5)=true:=by kernel_rfl
theorem tw6:DT.ok bc (bW (dy false++dy true) 6) (.leaf) (wF++((ai (cA 1) 4,true)::(ai (cA 0) 1,true)::a8 6))=true:=by kernel_rfl
theorem tn6:DT.ok bc (bW (cW false++cW true) 6) (.br (bD (cA 1002) 1) (.leaf) (.leaf)) ((ai (cA 1) 4,true)::(ai (cA 0) 1,true)::a8 6)=true:=by kernel_rfl
theorem tw7:DT.ok bc (bW (dy false++dy true) 7) (.leaf) (wF++((ai (cA 1) 4,true)::(ai (cA 0) 1,true)::a8 7))=true:=by kernel_rfl
theorem tn7:DT.ok bc (bW (cW false++cW true) 7) (.br (bD (cA 1002) 1) (.leaf) (.leaf)) ((ai (cA 1) 4,true)::(ai (cA 0) 1,true)::a8 7)=true:=by kernel_rfl
theorem tw8:DT.ok bc (bW (dy false++dy true) 8) (.leaf) (wF++((ai (cA 1) 4,true)::(ai (cA 0) 1,true)::a8 8))=true:=by kernel_rfl
theorem tn8:DT.ok bc (bW (cW false++cW true) 8) (.br (bD (cA 1002) 1) (.leaf) (.leaf)) ((ai (cA 1) 4,true)::(ai (cA 0) 1,true)::a8 8)=true:=by kernel_rfl
theorem tw9:DT.ok bc (bW (dy false++dy true) 9) (.leaf) (wF++((ai (cA 1) 4,true)::(ai (cA 0) 1,true)::a8 9))=true:=by kernel_rfl
theorem tn9:DT.ok bc (bW (cW false++cW true) 9) (.br (bD (cA 1002) 1) (.leaf) (.leaf)) ((ai (cA 1) 4,true)::(ai (cA 0) 1,true)::a8 9)=true:=by kernel_rfl
end Go.Proofs.YtpdfmnhgocpkcaaGreat
