/- Roster: a round of turns, 3 full members, and a learner. -/
import Derived.Test.YtjgimdheiflinaaXST
namespace Go.Proofs.Ytjgimdheiflinaa
open Go Go.Proofs.Aw Go.Proofs.Xw
set_option maxRecDepth 100000
theorem s3tK1e_go : stGo 3 true (inS ++ (kd 1 ++ endS)) = true := by kernel_rfl
theorem s3tK2e_go : stGo 3 true (inS ++ (kd 2 ++ endS)) = true := by kernel_rfl
theorem s3tK3e_go : stGo 3 true (inS ++ (kd 3 ++ endS)) = true := by kernel_rfl
theorem s3tKx_go : stGo 3 true (inS ++ (kdX)) = true := by kernel_rfl
theorem s3tK1n32_go : stGo 3 true (inS ++ (kd 1 ++ onS ++ ndE 3 true 32)) = true := by kernel_rfl
theorem s3tK2n32_go : stGo 3 true (inS ++ (kd 2 ++ onS ++ ndE 3 true 32)) = true := by kernel_rfl
theorem s3tK1n34_go : stGo 3 true (inS ++ (kd 1 ++ onS ++ ndE 3 true 34)) = true := by kernel_rfl
theorem s3tK2n34_go : stGo 3 true (inS ++ (kd 2 ++ onS ++ ndE 3 true 34)) = true := by kernel_rfl
theorem s3tK1n36_go : stGo 3 true (inS ++ (kd 1 ++ onS ++ ndE 3 true 36)) = true := by kernel_rfl
theorem s3tK2n36_go : stGo 3 true (inS ++ (kd 2 ++ onS ++ ndE 3 true 36)) = true := by kernel_rfl
theorem s3tK1n41_go : stGo 3 true (inS ++ (kd 1 ++ onS ++ ndE 3 true 41)) = true := by kernel_rfl
theorem s3tK2n41_go : stGo 3 true (inS ++ (kd 2 ++ onS ++ ndE 3 true 41)) = true := by kernel_rfl
theorem s3tK1nx_go : stGo 3 true (inS ++ (kd 1 ++ onS ++ ndX 3 true)) = true := by kernel_rfl
theorem s3tK2nin_go : stGo 3 true (inS ++ (kd 2 ++ onS ++ ndX 3 true ++ inN)) = true := by kernel_rfl
theorem s3tK2nlow_go : stGo 3 true (inS ++ (kd 2 ++ onS ++ ndX 3 true ++ lowN)) = true := by kernel_rfl
theorem s3tK2nhigh_go : stGo 3 true (inS ++ (kd 2 ++ onS ++ ndX 3 true ++ highN)) = true := by kernel_rfl
theorem s3tK3_go : stGo 3 true (inS ++ (kd 3 ++ onS)) = true := by kernel_rfl
end Go.Proofs.Ytjgimdheiflinaa
