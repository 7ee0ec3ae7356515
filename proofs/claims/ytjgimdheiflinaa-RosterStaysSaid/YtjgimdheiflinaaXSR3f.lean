/- Roster: a round of turns, 3 full members. -/
import Derived.Test.YtjgimdheiflinaaXST
namespace Go.Proofs.Ytjgimdheiflinaa
open Go Go.Proofs.Aw Go.Proofs.Xw
set_option maxRecDepth 100000
theorem s3fK1e_go : stGo 3 false (inS ++ (kd 1 ++ endS)) = true := by kernel_rfl
theorem s3fK2e_go : stGo 3 false (inS ++ (kd 2 ++ endS)) = true := by kernel_rfl
theorem s3fK3e_go : stGo 3 false (inS ++ (kd 3 ++ endS)) = true := by kernel_rfl
theorem s3fKx_go : stGo 3 false (inS ++ (kdX)) = true := by kernel_rfl
theorem s3fK1n32_go : stGo 3 false (inS ++ (kd 1 ++ onS ++ ndE 3 false 32)) = true := by kernel_rfl
theorem s3fK2n32_go : stGo 3 false (inS ++ (kd 2 ++ onS ++ ndE 3 false 32)) = true := by kernel_rfl
theorem s3fK1n34_go : stGo 3 false (inS ++ (kd 1 ++ onS ++ ndE 3 false 34)) = true := by kernel_rfl
theorem s3fK2n34_go : stGo 3 false (inS ++ (kd 2 ++ onS ++ ndE 3 false 34)) = true := by kernel_rfl
theorem s3fK1n36_go : stGo 3 false (inS ++ (kd 1 ++ onS ++ ndE 3 false 36)) = true := by kernel_rfl
theorem s3fK2n36_go : stGo 3 false (inS ++ (kd 2 ++ onS ++ ndE 3 false 36)) = true := by kernel_rfl
theorem s3fK1nx_go : stGo 3 false (inS ++ (kd 1 ++ onS ++ ndX 3 false)) = true := by kernel_rfl
theorem s3fK2nin_go : stGo 3 false (inS ++ (kd 2 ++ onS ++ ndX 3 false ++ inN)) = true := by kernel_rfl
theorem s3fK2nlow_go : stGo 3 false (inS ++ (kd 2 ++ onS ++ ndX 3 false ++ lowN)) = true := by kernel_rfl
theorem s3fK2nhigh_go : stGo 3 false (inS ++ (kd 2 ++ onS ++ ndX 3 false ++ highN)) = true := by kernel_rfl
theorem s3fK3_go : stGo 3 false (inS ++ (kd 3 ++ onS)) = true := by kernel_rfl
end Go.Proofs.Ytjgimdheiflinaa
