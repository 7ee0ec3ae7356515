/- Roster: a round of turns, 1 full members, and a learner. -/
import Derived.Test.YtjgimdheiflinaaXST
namespace Go.Proofs.Ytjgimdheiflinaa
open Go Go.Proofs.Aw Go.Proofs.Xw
set_option maxRecDepth 100000
theorem s1tK1e_go : stGo 1 true (inS ++ (kd 1 ++ endS)) = true := by kernel_rfl
theorem s1tK2e_go : stGo 1 true (inS ++ (kd 2 ++ endS)) = true := by kernel_rfl
theorem s1tK3e_go : stGo 1 true (inS ++ (kd 3 ++ endS)) = true := by kernel_rfl
theorem s1tKx_go : stGo 1 true (inS ++ (kdX)) = true := by kernel_rfl
theorem s1tK1n32_go : stGo 1 true (inS ++ (kd 1 ++ onS ++ ndE 1 true 32)) = true := by kernel_rfl
theorem s1tK2n32_go : stGo 1 true (inS ++ (kd 2 ++ onS ++ ndE 1 true 32)) = true := by kernel_rfl
theorem s1tK1n41_go : stGo 1 true (inS ++ (kd 1 ++ onS ++ ndE 1 true 41)) = true := by kernel_rfl
theorem s1tK2n41_go : stGo 1 true (inS ++ (kd 2 ++ onS ++ ndE 1 true 41)) = true := by kernel_rfl
theorem s1tK1nx_go : stGo 1 true (inS ++ (kd 1 ++ onS ++ ndX 1 true)) = true := by kernel_rfl
theorem s1tK2nin_go : stGo 1 true (inS ++ (kd 2 ++ onS ++ ndX 1 true ++ inN)) = true := by kernel_rfl
theorem s1tK2nlow_go : stGo 1 true (inS ++ (kd 2 ++ onS ++ ndX 1 true ++ lowN)) = true := by kernel_rfl
theorem s1tK2nhigh_go : stGo 1 true (inS ++ (kd 2 ++ onS ++ ndX 1 true ++ highN)) = true := by kernel_rfl
theorem s1tK3_go : stGo 1 true (inS ++ (kd 3 ++ onS)) = true := by kernel_rfl
end Go.Proofs.Ytjgimdheiflinaa
