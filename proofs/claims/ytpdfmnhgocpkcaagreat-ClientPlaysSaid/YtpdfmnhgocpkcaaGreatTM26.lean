/- Parts of the proof, one behind the other. -/
import Derived.Test.YtpdfmnhgocpkcaaGreatTM6
import Derived.Test.YtpdfmnhgocpkcaaGreatTM14
namespace Go.Proofs.YtpdfmnhgocpkcaaGreat
open Go Go.Proofs.Aw Go.Proofs.Xw
set_option maxRecDepth 100000
theorem tw0:DT.ok a' (bV (ei false++ei true) 0) (r7) (wF++((ai (cA 1) 4,true)::(ai (cA 0) 1,true)::a5 0))=true:=by kernel_rfl
theorem tn0:DT.ok a' (bV (dS false++dS true) 0) (.br (bQ (cA 1002) 1) (r7) (r7)) ((ai (cA 1) 4,true)::(ai (cA 0) 1,true)::a5 0)=true:=by kernel_rfl
theorem tw1:DT.ok a' (bV (ei false++ei true) 1) (r7) (wF++((ai (cA 1) 4,true)::(ai (cA 0) 1,true)::a5 1))=true:=by kernel_rfl
theorem tn1:DT.ok a' (bV (dS false++dS true) 1) (.br (bQ (cA 1002) 1) (r7) (r7)) ((ai (cA 1) 4,true)::(ai (cA 0) 1,true)::a5 1)=true:=by kernel_rfl
theorem tw2:DT.ok a' (bV (ei false++ei true) 2) (.leaf) (wF++((ai (cA 1) 4,true)::(ai (cA 0) 1,true)::a5 2))=true:=by kernel_rfl
theorem tn2:DT.ok a' (bV (dS false++dS true) 2) (.br (bQ (cA 1002) 1) (.leaf) (.leaf)) ((ai (cA 1) 4,true)::(ai (cA 0) 1,true)::a5 2)=true:=by kernel_rfl
theorem tw3:DT.ok a' (bV (ei false++ei true) 3) (.leaf) (wF++((ai (cA 1) 4,true)::(ai (cA 0) 1,true)::a5 3))=true:=by kernel_rfl
theorem tn3:DT.ok a' (bV (dS false++dS true) 3) (.br (bQ (cA 1002) 1) (.leaf) (.leaf)) ((ai (cA 1) 4,true)::(ai (cA 0) 1,true)::a5 3)=true:=by kernel_rfl
theorem tw4:DT.ok a' (bV (ei false++ei true) 4) (.leaf) (wF++((ai (cA 1) 4,true)::(ai (cA 0) 1,true)::a5 4))=true:=by kernel_rfl
theorem tn4:DT.ok a' (bV (dS false++dS true) 4) (.br (bQ (cA 1002) 1) (.leaf) (.leaf)) ((ai (cA 1) 4,true)::(ai (cA 0) 1,true)::a5 4)=true:=by kernel_rfl
theorem tw5:DT.ok a' (bV (ei false++ei true) 5) (.leaf) (wF++((ai (cA 1) 4,true)::(ai (cA 0) 1,true)::a5 5))=true:=by kernel_rfl
theorem tn5:DT.ok a' (bV (dS false++dS true) 5) (.br (bQ (cA 1002) 1) (.leaf) (.leaf)) ((ai (cA 1) 4,true)::(ai (cA 0) 1,true)::a5 5)=true:=by kernel_rfl
theorem tw6:DT.ok a' (bV (ei false++ei true) 6) (.leaf) (wF++((ai (cA 1) 4,true)::(ai (cA 0) 1,true)::a5 6))=true:=by kernel_rfl
theorem tn6:DT.ok a' (bV (dS false++dS true) 6) (.br (bQ (cA 1002) 1) (.leaf) (.leaf)) ((ai (cA 1) 4,true)::(ai (cA 0) 1,true)::a5 6)=true:=by kernel_rfl
theorem tw7:DT.ok a' (bV (ei false++ei true) 7) (.leaf) (wF++((ai (cA 1) 4,true)::(ai (cA 0) 1,true)::a5 7))=true:=by kernel_rfl
theorem tn7:DT.ok a' (bV (dS false++dS true) 7) (.br (bQ (cA 1002) 1) (.leaf) (.leaf)) ((ai (cA 1) 4,true)::(ai (cA 0) 1,true)::a5 7)=true:=by kernel_rfl
theorem tw8:DT.ok a' (bV (ei false++ei true) 8) (.leaf) (wF++((ai (cA 1) 4,true)::(ai (cA 0) 1,true)::a5 8))=true:=by kernel_rfl
theorem tn8:DT.ok a' (bV (dS false++dS true) 8) (.br (bQ (cA 1002) 1) (.leaf) (.leaf)) ((ai (cA 1) 4,true)::(ai (cA 0) 1,true)::a5 8)=true:=by kernel_rfl
theorem tw9:DT.ok a' (bV (ei false++ei true) 9) (.leaf) (wF++((ai (cA 1) 4,true)::(ai (cA 0) 1,true)::a5 9))=true:=by kernel_rfl
theorem tn9:DT.ok a' (bV (dS false++dS true) 9) (.br (bQ (cA 1002) 1) (.leaf) (.leaf)) ((ai (cA 1) 4,true)::(ai (cA 0) 1,true)::a5 9)=true:=by kernel_rfl
end Go.Proofs.YtpdfmnhgocpkcaaGreat
