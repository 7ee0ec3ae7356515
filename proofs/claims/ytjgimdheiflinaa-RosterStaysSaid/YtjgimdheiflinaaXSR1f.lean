/- Roster: a round of turns, 1 full members. -/
import Derived.Test.YtjgimdheiflinaaXST
namespace Go.Proofs.Ytjgimdheiflinaa
open Go Go.Proofs.Aw Go.Proofs.Xw
set_option maxRecDepth 100000
theorem s1fK1e_go : stGo 1 false (inS ++ (kd 1 ++ endS)) = true := by kernel_rfl
theorem s1fK2e_go : stGo 1 false (inS ++ (kd 2 ++ endS)) = true := by kernel_rfl
theorem s1fK3e_go : stGo 1 false (inS ++ (kd 3 ++ endS)) = true := by kernel_rfl
theorem s1fKx_go : stGo 1 false (inS ++ (kdX)) = true := by kernel_rfl
theorem s1fK1n32_go : stGo 1 false (inS ++ (kd 1 ++ onS ++ ndE 1 false 32)) = true := by kernel_rfl
theorem s1fK2n32_go : stGo 1 false (inS ++ (kd 2 ++ onS ++ ndE 1 false 32)) = true := by kernel_rfl
theorem s1fK1nx_go : stGo 1 false (inS ++ (kd 1 ++ onS ++ ndX 1 false)) = true := by kernel_rfl
theorem s1fK2nin_go : stGo 1 false (inS ++ (kd 2 ++ onS ++ ndX 1 false ++ inN)) = true := by kernel_rfl
theorem s1fK2nlow_go : stGo 1 false (inS ++ (kd 2 ++ onS ++ ndX 1 false ++ lowN)) = true := by kernel_rfl
theorem s1fK2nhigh_go : stGo 1 false (inS ++ (kd 2 ++ onS ++ ndX 1 false ++ highN)) = true := by kernel_rfl
theorem s1fK3_go : stGo 1 false (inS ++ (kd 3 ++ onS)) = true := by kernel_rfl
end Go.Proofs.Ytjgimdheiflinaa
