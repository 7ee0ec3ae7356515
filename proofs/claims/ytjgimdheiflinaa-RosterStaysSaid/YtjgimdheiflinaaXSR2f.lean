/- Roster: a round of turns, 2 full members. -/
import Derived.Test.YtjgimdheiflinaaXST
namespace Go.Proofs.Ytjgimdheiflinaa
open Go Go.Proofs.Aw Go.Proofs.Xw
set_option maxRecDepth 100000
theorem s2fK1e_go : stGo 2 false (inS ++ (kd 1 ++ endS)) = true := by kernel_rfl
theorem s2fK2e_go : stGo 2 false (inS ++ (kd 2 ++ endS)) = true := by kernel_rfl
theorem s2fK3e_go : stGo 2 false (inS ++ (kd 3 ++ endS)) = true := by kernel_rfl
theorem s2fKx_go : stGo 2 false (inS ++ (kdX)) = true := by kernel_rfl
theorem s2fK1n32_go : stGo 2 false (inS ++ (kd 1 ++ onS ++ ndE 2 false 32)) = true := by kernel_rfl
theorem s2fK2n32_go : stGo 2 false (inS ++ (kd 2 ++ onS ++ ndE 2 false 32)) = true := by kernel_rfl
theorem s2fK1n34_go : stGo 2 false (inS ++ (kd 1 ++ onS ++ ndE 2 false 34)) = true := by kernel_rfl
theorem s2fK2n34_go : stGo 2 false (inS ++ (kd 2 ++ onS ++ ndE 2 false 34)) = true := by kernel_rfl
theorem s2fK1nx_go : stGo 2 false (inS ++ (kd 1 ++ onS ++ ndX 2 false)) = true := by kernel_rfl
theorem s2fK2nin_go : stGo 2 false (inS ++ (kd 2 ++ onS ++ ndX 2 false ++ inN)) = true := by kernel_rfl
theorem s2fK2nlow_go : stGo 2 false (inS ++ (kd 2 ++ onS ++ ndX 2 false ++ lowN)) = true := by kernel_rfl
theorem s2fK2nhigh_go : stGo 2 false (inS ++ (kd 2 ++ onS ++ ndX 2 false ++ highN)) = true := by kernel_rfl
theorem s2fK3_go : stGo 2 false (inS ++ (kd 3 ++ onS)) = true := by kernel_rfl
end Go.Proofs.Ytjgimdheiflinaa
