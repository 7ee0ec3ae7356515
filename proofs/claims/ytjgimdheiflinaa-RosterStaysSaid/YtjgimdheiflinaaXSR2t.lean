/- Roster: a round of turns, 2 full members, and a learner. -/
import Derived.Test.YtjgimdheiflinaaXST
namespace Go.Proofs.Ytjgimdheiflinaa
open Go Go.Proofs.Aw Go.Proofs.Xw
set_option maxRecDepth 100000
theorem s2tK1e_go : stGo 2 true (inS ++ (kd 1 ++ endS)) = true := by kernel_rfl
theorem s2tK2e_go : stGo 2 true (inS ++ (kd 2 ++ endS)) = true := by kernel_rfl
theorem s2tK3e_go : stGo 2 true (inS ++ (kd 3 ++ endS)) = true := by kernel_rfl
theorem s2tKx_go : stGo 2 true (inS ++ (kdX)) = true := by kernel_rfl
theorem s2tK1n32_go : stGo 2 true (inS ++ (kd 1 ++ onS ++ ndE 2 true 32)) = true := by kernel_rfl
theorem s2tK2n32_go : stGo 2 true (inS ++ (kd 2 ++ onS ++ ndE 2 true 32)) = true := by kernel_rfl
theorem s2tK1n34_go : stGo 2 true (inS ++ (kd 1 ++ onS ++ ndE 2 true 34)) = true := by kernel_rfl
theorem s2tK2n34_go : stGo 2 true (inS ++ (kd 2 ++ onS ++ ndE 2 true 34)) = true := by kernel_rfl
theorem s2tK1n41_go : stGo 2 true (inS ++ (kd 1 ++ onS ++ ndE 2 true 41)) = true := by kernel_rfl
theorem s2tK2n41_go : stGo 2 true (inS ++ (kd 2 ++ onS ++ ndE 2 true 41)) = true := by kernel_rfl
theorem s2tK1nx_go : stGo 2 true (inS ++ (kd 1 ++ onS ++ ndX 2 true)) = true := by kernel_rfl
theorem s2tK2nin_go : stGo 2 true (inS ++ (kd 2 ++ onS ++ ndX 2 true ++ inN)) = true := by kernel_rfl
theorem s2tK2nlow_go : stGo 2 true (inS ++ (kd 2 ++ onS ++ ndX 2 true ++ lowN)) = true := by kernel_rfl
theorem s2tK2nhigh_go : stGo 2 true (inS ++ (kd 2 ++ onS ++ ndX 2 true ++ highN)) = true := by kernel_rfl
theorem s2tK3_go : stGo 2 true (inS ++ (kd 3 ++ onS)) = true := by kernel_rfl
end Go.Proofs.Ytjgimdheiflinaa
