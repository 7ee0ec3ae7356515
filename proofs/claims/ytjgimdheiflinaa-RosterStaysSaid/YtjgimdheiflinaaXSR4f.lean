/- Roster: a round of turns, 4 full members. -/
import Derived.Test.YtjgimdheiflinaaXST
namespace Go.Proofs.Ytjgimdheiflinaa
open Go Go.Proofs.Aw Go.Proofs.Xw
set_option maxRecDepth 100000
theorem s4fK1e_go : stGo 4 false (inS ++ (kd 1 ++ endS)) = true := by kernel_rfl
theorem s4fK2e_go : stGo 4 false (inS ++ (kd 2 ++ endS)) = true := by kernel_rfl
theorem s4fK3e_go : stGo 4 false (inS ++ (kd 3 ++ endS)) = true := by kernel_rfl
theorem s4fKx_go : stGo 4 false (inS ++ (kdX)) = true := by kernel_rfl
theorem s4fK1n32_go : stGo 4 false (inS ++ (kd 1 ++ onS ++ ndE 4 false 32)) = true := by kernel_rfl
theorem s4fK2n32_go : stGo 4 false (inS ++ (kd 2 ++ onS ++ ndE 4 false 32)) = true := by kernel_rfl
theorem s4fK1n34_go : stGo 4 false (inS ++ (kd 1 ++ onS ++ ndE 4 false 34)) = true := by kernel_rfl
theorem s4fK2n34_go : stGo 4 false (inS ++ (kd 2 ++ onS ++ ndE 4 false 34)) = true := by kernel_rfl
theorem s4fK1n36_go : stGo 4 false (inS ++ (kd 1 ++ onS ++ ndE 4 false 36)) = true := by kernel_rfl
theorem s4fK2n36_go : stGo 4 false (inS ++ (kd 2 ++ onS ++ ndE 4 false 36)) = true := by kernel_rfl
theorem s4fK1n38_go : stGo 4 false (inS ++ (kd 1 ++ onS ++ ndE 4 false 38)) = true := by kernel_rfl
theorem s4fK2n38_go : stGo 4 false (inS ++ (kd 2 ++ onS ++ ndE 4 false 38)) = true := by kernel_rfl
theorem s4fK1nx_go : stGo 4 false (inS ++ (kd 1 ++ onS ++ ndX 4 false)) = true := by kernel_rfl
theorem s4fK2nlow_go : stGo 4 false (inS ++ (kd 2 ++ onS ++ ndX 4 false ++ lowN)) = true := by kernel_rfl
theorem s4fK2nhigh_go : stGo 4 false (inS ++ (kd 2 ++ onS ++ ndX 4 false ++ highN)) = true := by kernel_rfl
theorem s4fK3_go : stGo 4 false (inS ++ (kd 3 ++ onS)) = true := by kernel_rfl
end Go.Proofs.Ytjgimdheiflinaa
