/- The tables that symbolic runs btLook things up in: types and functions of this program; each row is shown to be the program's own. -/
import Derived.Test.YtonefailiekemaaXwM2
import Derived.Test.YtonefailiekemaaRows
namespace Go.Proofs.Ytonefailiekemaa
open Go Go.Proofs.Aw Go.Proofs.Xw
set_option maxRecDepth 100000
noncomputable def tis : List (Nat × TI) := [
  (2, (.mk 1 (some false) (some [(.int .i64 (0 : Int))]) none none none none none false false none 8 (some .i64) true false false)),
  (3, (.mk 1 (some false) (some [(.int .i64 (0 : Int))]) none none none none none false false none 8 (some .i64) true false false)),
  (4, (.mk 1 (some false) (some [(.bool false)]) none none none none none false true none 1 none true false false)),
  (5, (.mk 1 (some false) (some [(.int .u8 (0 : Int))]) none none none none none false false none 1 (some .u8) true false false)),
  (9, (.mk 1 (some false) (some [(.string (.mk #[]))]) none none none none none true false none 16 none true false false)),
  (22, (.mk 1 (some false) (some [(.slice none 0 0)]) none none (some (48, 50)) none none false false none 24 none true false false)),
  (23, (.mk 1 (some false) (some [(.slice none 0 0)]) none none (some (3, 1)) none none false false none 24 none true false false)),
  (24, (.mk 1 (some false) (some [.nilFunc]) none none none none none false false none 8 none true false false)),
  (25, (.mk 1 (some false) (some [.nilFunc]) none none none none none false false none 8 none true false false)),
  (26, (.mk 1 (some false) (some [(.pointer none)]) none none none none none false false none 8 none true false true)),
  (27, (.mk 1 (some false) (some [.nilFunc]) none none none none none false false none 8 none true false false)),
  (28, (.mk 2 (some true) (some [(.int .i64 (0 : Int)), (.int .i64 (0 : Int))]) none none none (some [(0, 1), (1, 1)]) (some [(some false), (some false)]) false false (some [1, 1]) 16 none true false false)),
  (29, (.mk 2 (some true) (some [(.int .i64 (0 : Int)), (.int .i64 (0 : Int))]) none none none (some [(0, 1), (1, 1)]) (some [(some false), (some false)]) false false (some [1, 1]) 16 none true false false)),
  (30, (.mk 8 (some true) (some [(.int .i64 (0 : Int)), (.int .i64 (0 : Int)), (.int .i64 (0 : Int)), (.int .i64 (0 : Int)), (.int .i64 (0 : Int)), (.int .i64 (0 : Int)), (.int .i64 (0 : Int)), (.int .i64 (0 : Int))]) (some (4, 2)) (some true) none none none false false (some [1, 1, 1, 1, 1, 1, 1, 1]) 64 none true false false)),
  (31, (.mk 13 (some true) (some [(.int .i64 (0 : Int)), (.int .i64 (0 : Int)), (.int .i64 (0 : Int)), (.int .i64 (0 : Int)), (.int .i64 (0 : Int)), (.int .i64 (0 : Int)), (.int .i64 (0 : Int)), (.int .i64 (0 : Int)), (.int .i64 (0 : Int)), (.int .i64 (0 : Int)), (.bool false), (.int .i64 (0 : Int)), (.int .i64 (0 : Int))]) none none none (some [(0, 1), (1, 1), (2, 8), (10, 1), (11, 2)]) (some [(some false), (some false), (some true), (some false), (some true)]) false false (some [1, 1, 1, 1, 1, 1, 1, 1, 1, 1, 0, 1, 1]) 104 none true false false)),
  (32, (.mk 13 (some true) (some [(.int .i64 (0 : Int)), (.int .i64 (0 : Int)), (.int .i64 (0 : Int)), (.int .i64 (0 : Int)), (.int .i64 (0 : Int)), (.int .i64 (0 : Int)), (.int .i64 (0 : Int)), (.int .i64 (0 : Int)), (.int .i64 (0 : Int)), (.int .i64 (0 : Int)), (.bool false), (.int .i64 (0 : Int)), (.int .i64 (0 : Int))]) none none none (some [(0, 1), (1, 1), (2, 8), (10, 1), (11, 2)]) (some [(some false), (some false), (some true), (some false), (some true)]) false false (some [1, 1, 1, 1, 1, 1, 1, 1, 1, 1, 0, 1, 1]) 104 none true false false)),
  (33, (.mk 1 (some false) (some [(.tuple #[(.agg #[(.int .i64 (0 : Int)), (.int .i64 (0 : Int)), (.int .i64 (0 : Int)), (.int .i64 (0 : Int)), (.int .i64 (0 : Int)), (.int .i64 (0 : Int)), (.int .i64 (0 : Int)), (.int .i64 (0 : Int)), (.int .i64 (0 : Int)), (.int .i64 (0 : Int)), (.bool false), (.int .i64 (0 : Int)), (.int .i64 (0 : Int))]), (.bool false)])]) none none none none none false false none 0 none true false false)),
  (34, (.mk 1 (some false) (some [.nilFunc]) none none none none none false false none 8 none true false false)),
  (35, (.mk 1 (some false) (some [(.int .i64 (0 : Int))]) none none none none none false false none 8 (some .i64) true false false)),
  (36, (.mk 1 (some false) (some [(.tuple #[(.bool false), (.int .i64 (0 : Int))])]) none none none none none false false none 0 none true false false)),
  (37, (.mk 1 (some false) (some [.nilFunc]) none none none none none false false none 8 none true false false)),
  (38, (.mk 3 (some true) (some [(.int .i64 (0 : Int)), (.int .i64 (0 : Int)), (.int .i64 (0 : Int))]) (some (3, 1)) (some false) none none none false false (some [1, 1, 1]) 24 none true false false)),
  (39, (.mk 9 (some true) (some [(.int .i64 (0 : Int)), (.int .i64 (0 : Int)), (.int .i64 (0 : Int)), (.int .i64 (0 : Int)), (.int .i64 (0 : Int)), (.int .i64 (0 : Int)), (.int .i64 (0 : Int)), (.int .i64 (0 : Int)), (.int .i64 (0 : Int))]) (some (3, 3)) (some true) none none none false false (some [1, 1, 1, 1, 1, 1, 1, 1, 1]) 72 none true false false)),
  (40, (.mk 9 (some true) (some [(.int .i64 (0 : Int)), (.int .i64 (0 : Int)), (.int .i64 (0 : Int)), (.int .i64 (0 : Int)), (.int .i64 (0 : Int)), (.int .i64 (0 : Int)), (.int .i64 (0 : Int)), (.int .i64 (0 : Int)), (.int .i64 (0 : Int))]) (some (3, 3)) (some true) none none none false false (some [1, 1, 1, 1, 1, 1, 1, 1, 1]) 72 none true false false)),
  (41, (.mk 3 (some true) (some [(.int .i64 (0 : Int)), (.int .i64 (0 : Int)), (.int .i64 (0 : Int))]) none none none (some [(0, 1), (1, 1), (2, 1)]) (some [(some false), (some false), (some false)]) false false (some [1, 1, 1]) 24 none true false false)),
  (42, (.mk 3 (some true) (some [(.int .i64 (0 : Int)), (.int .i64 (0 : Int)), (.int .i64 (0 : Int))]) none none none (some [(0, 1), (1, 1), (2, 1)]) (some [(some false), (some false), (some false)]) false false (some [1, 1, 1]) 24 none true false false)),
  (43, (.mk 3 (some true) (some [(.int .i64 (0 : Int)), (.int .i64 (0 : Int)), (.int .i64 (0 : Int))]) none none none (some [(0, 1), (1, 1), (2, 1)]) (some [(some false), (some false), (some false)]) false false (some [1, 1, 1]) 24 none true false false)),
  (44, (.mk 3 (some true) (some [(.int .i64 (0 : Int)), (.int .i64 (0 : Int)), (.int .i64 (0 : Int))]) none none none (some [(0, 1), (1, 1), (2, 1)]) (some [(some false), (some false), (some false)]) false false (some [1, 1, 1]) 24 none true false false)),
  (45, (.mk 20 (some true) (some [(.int .i64 (0 : Int)), (.int .i64 (0 : Int)), (.int .i64 (0 : Int)), (.int .i64 (0 : Int)), (.int .i64 (0 : Int)), (.int .i64 (0 : Int)), (.string (.mk #[])), (.string (.mk #[])), (.bool false), (.int .i64 (0 : Int)), (.int .i64 (0 : Int)), (.int .i64 (0 : Int)), (.int .i64 (0 : Int)), (.int .i64 (0 : Int)), (.int .i64 (0 : Int)), (.int .i64 (0 : Int)), (.int .i64 (0 : Int)), (.int .i64 (0 : Int)), (.int .i64 (0 : Int)), (.int .i64 (0 : Int))]) none none none (some [(0, 3), (3, 3), (6, 1), (7, 1), (8, 1), (9, 9), (18, 1), (19, 1)]) (some [(some true), (some true), (some false), (some false), (some false), (some true), (some false), (some false)]) false false (some [1, 1, 1, 1, 1, 1, 2, 2, 0, 1, 1, 1, 1, 1, 1, 1, 1, 1, 1, 1]) 176 none true false false)),
  (46, (.mk 20 (some true) (some [(.int .i64 (0 : Int)), (.int .i64 (0 : Int)), (.int .i64 (0 : Int)), (.int .i64 (0 : Int)), (.int .i64 (0 : Int)), (.int .i64 (0 : Int)), (.string (.mk #[])), (.string (.mk #[])), (.bool false), (.int .i64 (0 : Int)), (.int .i64 (0 : Int)), (.int .i64 (0 : Int)), (.int .i64 (0 : Int)), (.int .i64 (0 : Int)), (.int .i64 (0 : Int)), (.int .i64 (0 : Int)), (.int .i64 (0 : Int)), (.int .i64 (0 : Int)), (.int .i64 (0 : Int)), (.int .i64 (0 : Int))]) none none none (some [(0, 3), (3, 3), (6, 1), (7, 1), (8, 1), (9, 9), (18, 1), (19, 1)]) (some [(some true), (some true), (some false), (some false), (some false), (some true), (some false), (some false)]) false false (some [1, 1, 1, 1, 1, 1, 2, 2, 0, 1, 1, 1, 1, 1, 1, 1, 1, 1, 1, 1]) 176 none true false false)),
  (47, (.mk 50 (some true) (some [(.int .i64 (0 : Int)), (.int .i64 (0 : Int)), (.int .i64 (0 : Int)), (.int .i64 (0 : Int)), (.int .i64 (0 : Int)), (.int .i64 (0 : Int)), (.int .i64 (0 : Int)), (.int .i64 (0 : Int)), (.int .i64 (0 : Int)), (.int .i64 (0 : Int)), (.int .i64 (0 : Int)), (.int .i64 (0 : Int)), (.int .i64 (0 : Int)), (.int .i64 (0 : Int)), (.int .i64 (0 : Int)), (.bool false), (.int .i64 (0 : Int)), (.int .i64 (0 : Int)), (.string (.mk #[])), (.string (.mk #[])), (.bool false), (.int .i64 (0 : Int)), (.int .i64 (0 : Int)), (.int .i64 (0 : Int)), (.int .i64 (0 : Int)), (.int .i64 (0 : Int)), (.int .i64 (0 : Int)), (.int .i64 (0 : Int)), (.int .i64 (0 : Int)), (.int .i64 (0 : Int)), (.int .i64 (0 : Int)), (.int .i64 (0 : Int)), (.int .i64 (0 : Int)), (.int .i64 (0 : Int)), (.int .i64 (0 : Int)), (.int .i64 (0 : Int)), (.string (.mk #[])), (.string (.mk #[])), (.bool false), (.int .i64 (0 : Int)), (.int .i64 (0 : Int)), (.int .i64 (0 : Int)), (.int .i64 (0 : Int)), (.int .i64 (0 : Int)), (.int .i64 (0 : Int)), (.int .i64 (0 : Int)), (.int .i64 (0 : Int)), (.int .i64 (0 : Int)), (.int .i64 (0 : Int)), (.int .i64 (0 : Int))]) none none none (some [(0, 1), (1, 1), (2, 1), (3, 1), (4, 1), (5, 13), (18, 1), (19, 1), (20, 1), (21, 9), (30, 20)]) (some [(some false), (some false), (some false), (some false), (some false), (some true), (some false), (some false), (some false), (some true), (some true)]) false false (some [1, 1, 1, 1, 1, 1, 1, 1, 1, 1, 1, 1, 1, 1, 1, 0, 1, 1, 2, 2, 0, 1, 1, 1, 1, 1, 1, 1, 1, 1, 1, 1, 1, 1, 1, 1, 2, 2, 0, 1, 1, 1, 1, 1, 1, 1, 1, 1, 1, 1]) 432 none true false false)),
  (48, (.mk 50 (some true) (some [(.int .i64 (0 : Int)), (.int .i64 (0 : Int)), (.int .i64 (0 : Int)), (.int .i64 (0 : Int)), (.int .i64 (0 : Int)), (.int .i64 (0 : Int)), (.int .i64 (0 : Int)), (.int .i64 (0 : Int)), (.int .i64 (0 : Int)), (.int .i64 (0 : Int)), (.int .i64 (0 : Int)), (.int .i64 (0 : Int)), (.int .i64 (0 : Int)), (.int .i64 (0 : Int)), (.int .i64 (0 : Int)), (.bool false), (.int .i64 (0 : Int)), (.int .i64 (0 : Int)), (.string (.mk #[])), (.string (.mk #[])), (.bool false), (.int .i64 (0 : Int)), (.int .i64 (0 : Int)), (.int .i64 (0 : Int)), (.int .i64 (0 : Int)), (.int .i64 (0 : Int)), (.int .i64 (0 : Int)), (.int .i64 (0 : Int)), (.int .i64 (0 : Int)), (.int .i64 (0 : Int)), (.int .i64 (0 : Int)), (.int .i64 (0 : Int)), (.int .i64 (0 : Int)), (.int .i64 (0 : Int)), (.int .i64 (0 : Int)), (.int .i64 (0 : Int)), (.string (.mk #[])), (.string (.mk #[])), (.bool false), (.int .i64 (0 : Int)), (.int .i64 (0 : Int)), (.int .i64 (0 : Int)), (.int .i64 (0 : Int)), (.int .i64 (0 : Int)), (.int .i64 (0 : Int)), (.int .i64 (0 : Int)), (.int .i64 (0 : Int)), (.int .i64 (0 : Int)), (.int .i64 (0 : Int)), (.int .i64 (0 : Int))]) none none none (some [(0, 1), (1, 1), (2, 1), (3, 1), (4, 1), (5, 13), (18, 1), (19, 1), (20, 1), (21, 9), (30, 20)]) (some [(some false), (some false), (some false), (some false), (some false), (some true), (some false), (some false), (some false), (some true), (some true)]) false false (some [1, 1, 1, 1, 1, 1, 1, 1, 1, 1, 1, 1, 1, 1, 1, 0, 1, 1, 2, 2, 0, 1, 1, 1, 1, 1, 1, 1, 1, 1, 1, 1, 1, 1, 1, 1, 2, 2, 0, 1, 1, 1, 1, 1, 1, 1, 1, 1, 1, 1]) 432 none true false false)),
  (49, (.mk 1 (some false) (some [.nilFunc]) none none none none none false false none 8 none true false false)),
  (50, (.mk 1 (some false) (some [(.tuple #[(.int .i64 (0 : Int)), (.int .i64 (0 : Int))])]) none none none none none false false none 0 none true false false)),
  (51, (.mk 1 (some false) (some [.nilFunc]) none none none none none false false none 8 none true false false)),
  (52, (.mk 1 (some false) (some [(.slice none 0 0)]) none none (some (46, 20)) none none false false none 24 none true false false)),
  (53, (.mk 1 (some false) (some [.nilFunc]) none none none none none false false none 8 none true false false)),
  (54, (.mk 1 (some false) (some [.nilFunc]) none none none none none false false none 8 none true false false)),
  (55, (.mk 1 (some false) (some [.nilFunc]) none none none none none false false none 8 none true false false)),
  (56, (.mk 3 (some true) (some [(.int .i64 (0 : Int)), (.int .i64 (0 : Int)), (.int .i64 (0 : Int))]) (some (3, 1)) (some false) none none none false false (some [1, 1, 1]) 24 none true false false)),
  (57, (.mk 1 (some false) (some [.nilFunc]) none none none none none false false none 8 none true false false)),
  (58, (.mk 1 (some false) (some [.nilFunc]) none none none none none false false none 8 none true false false)),
  (59, (.mk 1 (some false) (some [.nilFunc]) none none none none none false false none 8 none true false false)),
  (60, (.mk 1 (some false) (some [.nilFunc]) none none none none none false false none 8 none true false false)),
  (61, (.mk 1 (some false) (some [.nilFunc]) none none none none none false false none 8 none true false false)),
  (62, (.mk 1 (some false) (some [.nilFunc]) none none none none none false false none 8 none true false false)),
  (63, (.mk 1 (some false) (some [(.tuple #[(.int .i64 (0 : Int)), (.bool false)])]) none none none none none false false none 0 none true false false)),
  (64, (.mk 1 (some false) (some [.nilFunc]) none none none none none false false none 8 none true false false)),
  (65, (.mk 1 (some false) (some [(.tuple #[(.agg #[(.int .i64 (0 : Int)), (.int .i64 (0 : Int)), (.int .i64 (0 : Int)), (.int .i64 (0 : Int)), (.int .i64 (0 : Int)), (.int .i64 (0 : Int)), (.string (.mk #[])), (.string (.mk #[])), (.bool false), (.int .i64 (0 : Int)), (.int .i64 (0 : Int)), (.int .i64 (0 : Int)), (.int .i64 (0 : Int)), (.int .i64 (0 : Int)), (.int .i64 (0 : Int)), (.int .i64 (0 : Int)), (.int .i64 (0 : Int)), (.int .i64 (0 : Int)), (.int .i64 (0 : Int)), (.int .i64 (0 : Int))]), (.bool false)])]) none none none none none false false none 0 none true false false)),
  (66, (.mk 1 (some false) (some [.nilFunc]) none none none none none false false none 8 none true false false)),
  (67, (.mk 1 (some false) (some [.nilFunc]) none none none none none false false none 8 none true false false)),
  (68, (.mk 1 (some false) (some [.nilFunc]) none none none none none false false none 8 none true false false)),
  (69, (.mk 1 (some false) (some [.nilFunc]) none none none none none false false none 8 none true false false)),
  (70, (.mk 1 (some false) (some [.nilFunc]) none none none none none false false none 8 none true false false)),
  (71, (.mk 1 (some false) (some [(.pointer none)]) none none none none none false false none 8 none true false true)),
  (72, (.mk 1 (some false) (some [.nilFunc]) none none none none none false false none 8 none true false false)),
  (73, (.mk 1 (some false) (some [.nilFunc]) none none none none none false false none 8 none true false false)),
  (74, (.mk 1 (some false) (some [.nilFunc]) none none none none none false false none 8 none true false false)),
  (75, (.mk 24 (some true) (some [(.int .i64 (0 : Int)), (.int .i64 (0 : Int)), (.int .i64 (0 : Int)), (.int .i64 (0 : Int)), (.int .i64 (0 : Int)), (.int .i64 (0 : Int)), (.int .i64 (0 : Int)), (.int .i64 (0 : Int)), (.int .i64 (0 : Int)), (.int .i64 (0 : Int)), (.int .i64 (0 : Int)), (.int .i64 (0 : Int)), (.int .i64 (0 : Int)), (.bool false), (.int .i64 (0 : Int)), (.int .i64 (0 : Int)), (.int .i64 (0 : Int)), (.int .i64 (0 : Int)), (.slice none 0 0), (.int .i64 (0 : Int)), (.int .i64 (0 : Int)), (.int .i64 (0 : Int)), (.int .i64 (0 : Int)), (.bool false)]) none none none (some [(0, 1), (1, 1), (2, 1), (3, 13), (16, 1), (17, 1), (18, 1), (19, 1), (20, 1), (21, 1), (22, 1), (23, 1)]) (some [(some false), (some false), (some false), (some true), (some false), (some false), (some false), (some false), (some false), (some false), (some false), (some false)]) false false none 208 none true false false)),
  (76, (.mk 24 (some true) (some [(.int .i64 (0 : Int)), (.int .i64 (0 : Int)), (.int .i64 (0 : Int)), (.int .i64 (0 : Int)), (.int .i64 (0 : Int)), (.int .i64 (0 : Int)), (.int .i64 (0 : Int)), (.int .i64 (0 : Int)), (.int .i64 (0 : Int)), (.int .i64 (0 : Int)), (.int .i64 (0 : Int)), (.int .i64 (0 : Int)), (.int .i64 (0 : Int)), (.bool false), (.int .i64 (0 : Int)), (.int .i64 (0 : Int)), (.int .i64 (0 : Int)), (.int .i64 (0 : Int)), (.slice none 0 0), (.int .i64 (0 : Int)), (.int .i64 (0 : Int)), (.int .i64 (0 : Int)), (.int .i64 (0 : Int)), (.bool false)]) none none none (some [(0, 1), (1, 1), (2, 1), (3, 13), (16, 1), (17, 1), (18, 1), (19, 1), (20, 1), (21, 1), (22, 1), (23, 1)]) (some [(some false), (some false), (some false), (some true), (some false), (some false), (some false), (some false), (some false), (some false), (some false), (some false)]) false false none 208 none true false false)),
  (77, (.mk 1 (some false) (some [.nilFunc]) none none none none none false false none 8 none true false false)),
  (78, (.mk 1 (some false) (some [.nilFunc]) none none none none none false false none 8 none true false false)),
  (79, (.mk 1 (some false) (some [.nilFunc]) none none none none none false false none 8 none true false false)),
  (80, (.mk 1 (some false) (some [.nilFunc]) none none none none none false false none 8 none true false false)),
  (81, (.mk 1 (some false) (some [.nilFunc]) none none none none none false false none 8 none true false false)),
  (82, (.mk 24 (some true) (some [(.int .i64 (0 : Int)), (.int .i64 (0 : Int)), (.int .i64 (0 : Int)), (.int .i64 (0 : Int)), (.int .i64 (0 : Int)), (.int .i64 (0 : Int)), (.int .i64 (0 : Int)), (.int .i64 (0 : Int)), (.int .i64 (0 : Int)), (.int .i64 (0 : Int)), (.int .i64 (0 : Int)), (.int .i64 (0 : Int)), (.int .i64 (0 : Int)), (.bool false), (.int .i64 (0 : Int)), (.int .i64 (0 : Int)), (.int .i64 (0 : Int)), (.int .i64 (0 : Int)), (.slice none 0 0), (.int .i64 (0 : Int)), (.int .i64 (0 : Int)), (.int .i64 (0 : Int)), (.int .i64 (0 : Int)), (.bool false)]) none none none (some [(0, 1), (1, 1), (2, 1), (3, 13), (16, 1), (17, 1), (18, 1), (19, 1), (20, 1), (21, 1), (22, 1), (23, 1)]) (some [(some false), (some false), (some false), (some true), (some false), (some false), (some false), (some false), (some false), (some false), (some false), (some false)]) false false none 208 none true false false)),
  (83, (.mk 24 (some true) (some [(.int .i64 (0 : Int)), (.int .i64 (0 : Int)), (.int .i64 (0 : Int)), (.int .i64 (0 : Int)), (.int .i64 (0 : Int)), (.int .i64 (0 : Int)), (.int .i64 (0 : Int)), (.int .i64 (0 : Int)), (.int .i64 (0 : Int)), (.int .i64 (0 : Int)), (.int .i64 (0 : Int)), (.int .i64 (0 : Int)), (.int .i64 (0 : Int)), (.bool false), (.int .i64 (0 : Int)), (.int .i64 (0 : Int)), (.int .i64 (0 : Int)), (.int .i64 (0 : Int)), (.slice none 0 0), (.int .i64 (0 : Int)), (.int .i64 (0 : Int)), (.int .i64 (0 : Int)), (.int .i64 (0 : Int)), (.bool false)]) none none none (some [(0, 1), (1, 1), (2, 1), (3, 13), (16, 1), (17, 1), (18, 1), (19, 1), (20, 1), (21, 1), (22, 1), (23, 1)]) (some [(some false), (some false), (some false), (some true), (some false), (some false), (some false), (some false), (some false), (some false), (some false), (some false)]) false false none 208 none true false false)),
  (84, (.mk 1 (some false) (some [.nilFunc]) none none none none none false false none 8 none true false false)),
  (85, (.mk 1 (some false) (some [.nilFunc]) none none none none none false false none 8 none true false false)),
  (86, (.mk 1 (some false) (some [.nilFunc]) none none none none none false false none 8 none true false false)),
  (87, (.mk 1 (some false) (some [(.tuple #[(.agg #[(.int .i64 (0 : Int)), (.int .i64 (0 : Int)), (.int .i64 (0 : Int))]), (.bool false)])]) none none none none none false false none 0 none true false false)),
  (88, (.mk 1 (some false) (some [.nilFunc]) none none none none none false false none 8 none true false false)),
  (89, (.mk 1 (some false) (some [.nilFunc]) none none none none none false false none 8 none true false false)),
  (90, (.mk 1 (some false) (some [.nilFunc]) none none none none none false false none 8 none true false false)),
  (91, (.mk 1 (some false) (some [.nilFunc]) none none none none none false false none 8 none true false false)),
  (92, (.mk 1 (some false) (some [.nilFunc]) none none none none none false false none 8 none true false false)),
  (93, (.mk 1 (some false) (some [.nilFunc]) none none none none none false false none 8 none true false false)),
  (94, (.mk 1 (some false) (some [.nilFunc]) none none none none none false false none 8 none true false false)),
  (95, (.mk 1 (some false) (some [.nilFunc]) none none none none none false false none 8 none true false false)),
  (96, (.mk 1 (some false) (some [.nilFunc]) none none none none none false false none 8 none true false false)),
  (97, (.mk 1 (some false) (some [(.tuple #[(.bool false), (.int .i64 (0 : Int))])]) none none none none none false false none 0 none true false false)),
  (98, (.mk 1 (some false) (some [.nilFunc]) none none none none none false false none 8 none true false false)),
  (99, (.mk 1 (some false) (some [(.tuple #[(.int .i64 (0 : Int)), (.int .i64 (0 : Int))])]) none none none none none false false none 0 none true false false)),
  (100, (.mk 1 (some false) (some [.nilFunc]) none none none none none false false none 8 none true false false)),
  (101, (.mk 1 (some false) (some [.nilFunc]) none none none none none false false none 8 none true false false)),
  (102, (.mk 1 (some false) (some [.nilFunc]) none none none none none false false none 8 none true false false)),
  (103, (.mk 1 (some false) (some [.nilFunc]) none none none none none false false none 8 none true false false)),
  (104, (.mk 1 (some false) (some [(.pointer none)]) none none none none none false false none 8 none true false true)),
  (105, (.mk 1 (some false) (some [.nilFunc]) none none none none none false false none 8 none true false false)),
  (106, (.mk 1 (some false) (some [.nilFunc]) none none none none none false false none 8 none true false false)),
  (107, (.mk 1 (some false) (some [(.slice none 0 0)]) none none (some (29, 2)) none none false false none 24 none true false false)),
  (108, (.mk 1 (some false) (some [.nilFunc]) none none none none none false false none 8 none true false false)),
  (109, (.mk 1 (some false) (some [.nilFunc]) none none none none none false false none 8 none true false false)),
  (110, (.mk 1 (some false) (some [.nilFunc]) none none none none none false false none 8 none true false false)),
  (111, (.mk 4 (some true) (some [(.bool false), (.bool false), (.bool false), (.bool false)]) (some (4, 1)) (some false) none none none false false (some [0, 0, 0, 0]) 4 none true false false)),
  (112, (.mk 1 (some false) (some [.nilFunc]) none none none none none false false none 8 none true false false)),
  (113, (.mk 1 (some false) (some [.nilFunc]) none none none none none false false none 8 none true false false)),
  (114, (.mk 1 (some false) (some [.nilFunc]) none none none none none false false none 8 none true false false)),
  (115, (.mk 1 (some false) (some [.nilFunc]) none none none none none false false none 8 none true false false)),
  (116, (.mk 1 (some false) (some [(.slice none 0 0)]) none none (some (40, 9)) none none false false none 24 none true false false)),
  (117, (.mk 1 (some false) (some [.nilFunc]) none none none none none false false none 8 none true false false)),
  (118, (.mk 1 (some false) (some [.nilFunc]) none none none none none false false none 8 none true false false)),
  (119, (.mk 1 (some false) (some [.nilFunc]) none none none none none false false none 8 none true false false)),
  (120, (.mk 1 (some false) (some [.nilFunc]) none none none none none false false none 8 none true false false)),
  (121, (.mk 1 (some false) (some [.nilFunc]) none none none none none false false none 8 none true false false)),
  (122, (.mk 1 (some false) (some [.nilFunc]) none none none none none false false none 8 none true false false)),
  (123, (.mk 1 (some false) (some [(.slice none 0 0)]) none none (some (42, 3)) none none false false none 24 none true false false)),
  (124, (.mk 1 (some false) (some [.nilFunc]) none none none none none false false none 8 none true false false))]
theorem tis_all : tis = tis.map (fun p => (p.1, tiOf Try.prog p.1)) := by kernel_rfl
noncomputable def tisT : BT TI := bt_of tis 20
theorem tis_ok : TIs.ok Try.prog (fun t => btLook t tisT) := fun t i h => by
  have h1 := bt_of_mem _ _ (btLook_mem h)
  rw [tis_all] at h1
  obtain ⟨q, _, h2⟩ := List.mem_map.1 h1
  cases h2; rfl
theorem mixed : Try.prog.follows .mixedOrders = true := by kernel_rfl
def fi (fn : Func) (ms : List Nat) : FnI := ⟨fn.body.getD .skip, fn.results.toList, fn.ntmps, ms⟩
theorem fi_ok {f : Nat} {fn : Func} {ms : List Nat} (hf : Try.prog.funcs[f]? = some fn) (hb : fn.body.isSome = true) (hfit : fitsC fn.ntmps (fn.body.getD .skip) = true) (hh : hasBody Try.prog f = true) : FnOk Try.prog f (fi fn ms) := by
  obtain ⟨c, hc⟩ := Option.isSome_iff_exists.1 hb
  refine ⟨fn, hf, by simp only [fi, hc, Option.getD_some], rfl, rfl, hfit, hh⟩
theorem fo3 : FnOk Try.prog 3 (fi Try.f3 []) := fi_ok Try.func3 (by kernel_rfl) (by kernel_rfl) (by kernel_rfl)
theorem fo4 : FnOk Try.prog 4 (fi Try.f4 []) := fi_ok Try.func4 (by kernel_rfl) (by kernel_rfl) (by kernel_rfl)
theorem fo5 : FnOk Try.prog 5 (fi Try.f5 []) := fi_ok Try.func5 (by kernel_rfl) (by kernel_rfl) (by kernel_rfl)
theorem fo6 : FnOk Try.prog 6 (fi Try.f6 []) := fi_ok Try.func6 (by kernel_rfl) (by kernel_rfl) (by kernel_rfl)
theorem fo7 : FnOk Try.prog 7 (fi Try.f7 [49]) := fi_ok Try.func7 (by kernel_rfl) (by kernel_rfl) (by kernel_rfl)
theorem fo8 : FnOk Try.prog 8 (fi Try.f8 []) := fi_ok Try.func8 (by kernel_rfl) (by kernel_rfl) (by kernel_rfl)
theorem fo9 : FnOk Try.prog 9 (fi Try.f9 []) := fi_ok Try.func9 (by kernel_rfl) (by kernel_rfl) (by kernel_rfl)
theorem fo10 : FnOk Try.prog 10 (fi Try.f10 []) := fi_ok Try.func10 (by kernel_rfl) (by kernel_rfl) (by kernel_rfl)
theorem fo11 : FnOk Try.prog 11 (fi Try.f11 []) := fi_ok Try.func11 (by kernel_rfl) (by kernel_rfl) (by kernel_rfl)
theorem fo12 : FnOk Try.prog 12 (fi Try.f12 []) := fi_ok Try.func12 (by kernel_rfl) (by kernel_rfl) (by kernel_rfl)
theorem fo13 : FnOk Try.prog 13 (fi Try.f13 []) := fi_ok Try.func13 (by kernel_rfl) (by kernel_rfl) (by kernel_rfl)
theorem fo14 : FnOk Try.prog 14 (fi Try.f14 []) := fi_ok Try.func14 (by kernel_rfl) (by kernel_rfl) (by kernel_rfl)
theorem fo15 : FnOk Try.prog 15 (fi Try.f15 [37,52,125]) := fi_ok Try.func15 (by kernel_rfl) (by kernel_rfl) (by kernel_rfl)
theorem fo16 : FnOk Try.prog 16 (fi Try.f16 []) := fi_ok Try.func16 (by kernel_rfl) (by kernel_rfl) (by kernel_rfl)
theorem fo17 : FnOk Try.prog 17 (fi Try.f17 [74]) := fi_ok Try.func17 (by kernel_rfl) (by kernel_rfl) (by kernel_rfl)
theorem fo18 : FnOk Try.prog 18 (fi Try.f18 []) := fi_ok Try.func18 (by kernel_rfl) (by kernel_rfl) (by kernel_rfl)
theorem fo19 : FnOk Try.prog 19 (fi Try.f19 []) := fi_ok Try.func19 (by kernel_rfl) (by kernel_rfl) (by kernel_rfl)
theorem fo20 : FnOk Try.prog 20 (fi Try.f20 []) := fi_ok Try.func20 (by kernel_rfl) (by kernel_rfl) (by kernel_rfl)
theorem fo21 : FnOk Try.prog 21 (fi Try.f21 []) := fi_ok Try.func21 (by kernel_rfl) (by kernel_rfl) (by kernel_rfl)
theorem fo22 : FnOk Try.prog 22 (fi Try.f22 []) := fi_ok Try.func22 (by kernel_rfl) (by kernel_rfl) (by kernel_rfl)
theorem fo23 : FnOk Try.prog 23 (fi Try.f23 []) := fi_ok Try.func23 (by kernel_rfl) (by kernel_rfl) (by kernel_rfl)
theorem fo24 : FnOk Try.prog 24 (fi Try.f24 []) := fi_ok Try.func24 (by kernel_rfl) (by kernel_rfl) (by kernel_rfl)
theorem fo25 : FnOk Try.prog 25 (fi Try.f25 []) := fi_ok Try.func25 (by kernel_rfl) (by kernel_rfl) (by kernel_rfl)
theorem fo26 : FnOk Try.prog 26 (fi Try.f26 []) := fi_ok Try.func26 (by kernel_rfl) (by kernel_rfl) (by kernel_rfl)
theorem fo27 : FnOk Try.prog 27 (fi Try.f27 [65]) := fi_ok Try.func27 (by kernel_rfl) (by kernel_rfl) (by kernel_rfl)
theorem fo28 : FnOk Try.prog 28 (fi Try.f28 []) := fi_ok Try.func28 (by kernel_rfl) (by kernel_rfl) (by kernel_rfl)
theorem fo29 : FnOk Try.prog 29 (fi Try.f29 []) := fi_ok Try.func29 (by kernel_rfl) (by kernel_rfl) (by kernel_rfl)
theorem fo30 : FnOk Try.prog 30 (fi Try.f30 []) := fi_ok Try.func30 (by kernel_rfl) (by kernel_rfl) (by kernel_rfl)
theorem fo31 : FnOk Try.prog 31 (fi Try.f31 []) := fi_ok Try.func31 (by kernel_rfl) (by kernel_rfl) (by kernel_rfl)
theorem fo32 : FnOk Try.prog 32 (fi Try.f32 []) := fi_ok Try.func32 (by kernel_rfl) (by kernel_rfl) (by kernel_rfl)
theorem fo33 : FnOk Try.prog 33 (fi Try.f33 []) := fi_ok Try.func33 (by kernel_rfl) (by kernel_rfl) (by kernel_rfl)
theorem fo34 : FnOk Try.prog 34 (fi Try.f34 []) := fi_ok Try.func34 (by kernel_rfl) (by kernel_rfl) (by kernel_rfl)
theorem fo35 : FnOk Try.prog 35 (fi Try.f35 []) := fi_ok Try.func35 (by kernel_rfl) (by kernel_rfl) (by kernel_rfl)
theorem fo36 : FnOk Try.prog 36 (fi Try.f36 []) := fi_ok Try.func36 (by kernel_rfl) (by kernel_rfl) (by kernel_rfl)
theorem fo37 : FnOk Try.prog 37 (fi Try.f37 []) := fi_ok Try.func37 (by kernel_rfl) (by kernel_rfl) (by kernel_rfl)
theorem fo38 : FnOk Try.prog 38 (fi Try.f38 []) := fi_ok Try.func38 (by kernel_rfl) (by kernel_rfl) (by kernel_rfl)
theorem fo39 : FnOk Try.prog 39 (fi Try.f39 []) := fi_ok Try.func39 (by kernel_rfl) (by kernel_rfl) (by kernel_rfl)
theorem fo40 : FnOk Try.prog 40 (fi Try.f40 []) := fi_ok Try.func40 (by kernel_rfl) (by kernel_rfl) (by kernel_rfl)
theorem fo41 : FnOk Try.prog 41 (fi Try.f41 []) := fi_ok Try.func41 (by kernel_rfl) (by kernel_rfl) (by kernel_rfl)
theorem fo42 : FnOk Try.prog 42 (fi Try.f42 []) := fi_ok Try.func42 (by kernel_rfl) (by kernel_rfl) (by kernel_rfl)
theorem fo43 : FnOk Try.prog 43 (fi Try.f43 []) := fi_ok Try.func43 (by kernel_rfl) (by kernel_rfl) (by kernel_rfl)
theorem fo44 : FnOk Try.prog 44 (fi Try.f44 []) := fi_ok Try.func44 (by kernel_rfl) (by kernel_rfl) (by kernel_rfl)
theorem fo45 : FnOk Try.prog 45 (fi Try.f45 []) := fi_ok Try.func45 (by kernel_rfl) (by kernel_rfl) (by kernel_rfl)
theorem fo46 : FnOk Try.prog 46 (fi Try.f46 []) := fi_ok Try.func46 (by kernel_rfl) (by kernel_rfl) (by kernel_rfl)
theorem fo47 : FnOk Try.prog 47 (fi Try.f47 []) := fi_ok Try.func47 (by kernel_rfl) (by kernel_rfl) (by kernel_rfl)
theorem fo48 : FnOk Try.prog 48 (fi Try.f48 []) := fi_ok Try.func48 (by kernel_rfl) (by kernel_rfl) (by kernel_rfl)
theorem fo49 : FnOk Try.prog 49 (fi Try.f49 []) := fi_ok Try.func49 (by kernel_rfl) (by kernel_rfl) (by kernel_rfl)
theorem fo50 : FnOk Try.prog 50 (fi Try.f50 []) := fi_ok Try.func50 (by kernel_rfl) (by kernel_rfl) (by kernel_rfl)
theorem fo51 : FnOk Try.prog 51 (fi Try.f51 [5, 7]) := fi_ok Try.func51 (by kernel_rfl) (by kernel_rfl) (by kernel_rfl)
theorem fo52 : FnOk Try.prog 52 (fi Try.f52 []) := fi_ok Try.func52 (by kernel_rfl) (by kernel_rfl) (by kernel_rfl)
theorem fo53 : FnOk Try.prog 53 (fi Try.f53 []) := fi_ok Try.func53 (by kernel_rfl) (by kernel_rfl) (by kernel_rfl)
theorem fo54 : FnOk Try.prog 54 (fi Try.f54 []) := fi_ok Try.func54 (by kernel_rfl) (by kernel_rfl) (by kernel_rfl)
theorem fo55 : FnOk Try.prog 55 (fi Try.f55 []) := fi_ok Try.func55 (by kernel_rfl) (by kernel_rfl) (by kernel_rfl)
theorem fo56 : FnOk Try.prog 56 (fi Try.f56 []) := fi_ok Try.func56 (by kernel_rfl) (by kernel_rfl) (by kernel_rfl)
theorem fo57 : FnOk Try.prog 57 (fi Try.f57 []) := fi_ok Try.func57 (by kernel_rfl) (by kernel_rfl) (by kernel_rfl)
theorem fo58 : FnOk Try.prog 58 (fi Try.f58 []) := fi_ok Try.func58 (by kernel_rfl) (by kernel_rfl) (by kernel_rfl)
theorem fo59 : FnOk Try.prog 59 (fi Try.f59 [75, 96, 161]) := fi_ok Try.func59 (by kernel_rfl) (by kernel_rfl) (by kernel_rfl)
theorem fo60 : FnOk Try.prog 60 (fi Try.f60 [78]) := fi_ok Try.func60 (by kernel_rfl) (by kernel_rfl) (by kernel_rfl)
theorem fo61 : FnOk Try.prog 61 (fi Try.f61 [73]) := fi_ok Try.func61 (by kernel_rfl) (by kernel_rfl) (by kernel_rfl)
theorem fo62 : FnOk Try.prog 62 (fi Try.f62 []) := fi_ok Try.func62 (by kernel_rfl) (by kernel_rfl) (by kernel_rfl)
theorem fo63 : FnOk Try.prog 63 (fi Try.f63 []) := fi_ok Try.func63 (by kernel_rfl) (by kernel_rfl) (by kernel_rfl)
theorem fo64 : FnOk Try.prog 64 (fi Try.f64 []) := fi_ok Try.func64 (by kernel_rfl) (by kernel_rfl) (by kernel_rfl)
theorem fo65 : FnOk Try.prog 65 (fi Try.f65 []) := fi_ok Try.func65 (by kernel_rfl) (by kernel_rfl) (by kernel_rfl)
theorem fo66 : FnOk Try.prog 66 (fi Try.f66 []) := fi_ok Try.func66 (by kernel_rfl) (by kernel_rfl) (by kernel_rfl)
theorem fo67 : FnOk Try.prog 67 (fi Try.f67 []) := fi_ok Try.func67 (by kernel_rfl) (by kernel_rfl) (by kernel_rfl)
theorem fo68 : FnOk Try.prog 68 (fi Try.f68 []) := fi_ok Try.func68 (by kernel_rfl) (by kernel_rfl) (by kernel_rfl)
theorem fo69 : FnOk Try.prog 69 (fi Try.f69 []) := fi_ok Try.func69 (by kernel_rfl) (by kernel_rfl) (by kernel_rfl)
theorem fo70 : FnOk Try.prog 70 (fi Try.f70 []) := fi_ok Try.func70 (by kernel_rfl) (by kernel_rfl) (by kernel_rfl)
theorem fo71 : FnOk Try.prog 71 (fi Try.f71 []) := fi_ok Try.func71 (by kernel_rfl) (by kernel_rfl) (by kernel_rfl)
theorem fo72 : FnOk Try.prog 72 (fi Try.f72 []) := fi_ok Try.func72 (by kernel_rfl) (by kernel_rfl) (by kernel_rfl)
theorem fo73 : FnOk Try.prog 73 (fi Try.f73 []) := fi_ok Try.func73 (by kernel_rfl) (by kernel_rfl) (by kernel_rfl)
theorem fo74 : FnOk Try.prog 74 (fi Try.f74 []) := fi_ok Try.func74 (by kernel_rfl) (by kernel_rfl) (by kernel_rfl)
theorem fo75 : FnOk Try.prog 75 (fi Try.f75 []) := fi_ok Try.func75 (by kernel_rfl) (by kernel_rfl) (by kernel_rfl)
theorem fo76 : FnOk Try.prog 76 (fi Try.f76 []) := fi_ok Try.func76 (by kernel_rfl) (by kernel_rfl) (by kernel_rfl)
theorem fo77 : FnOk Try.prog 77 (fi Try.f77 []) := fi_ok Try.func77 (by kernel_rfl) (by kernel_rfl) (by kernel_rfl)
theorem fo78 : FnOk Try.prog 78 (fi Try.f78 []) := fi_ok Try.func78 (by kernel_rfl) (by kernel_rfl) (by kernel_rfl)
theorem fo79 : FnOk Try.prog 79 (fi Try.f79 []) := fi_ok Try.func79 (by kernel_rfl) (by kernel_rfl) (by kernel_rfl)
theorem fo80 : FnOk Try.prog 80 (fi Try.f80 []) := fi_ok Try.func80 (by kernel_rfl) (by kernel_rfl) (by kernel_rfl)
theorem fo81 : FnOk Try.prog 81 (fi Try.f81 []) := fi_ok Try.func81 (by kernel_rfl) (by kernel_rfl) (by kernel_rfl)
theorem fo82 : FnOk Try.prog 82 (fi Try.f82 [15]) := fi_ok Try.func82 (by kernel_rfl) (by kernel_rfl) (by kernel_rfl)
theorem fo83 : FnOk Try.prog 83 (fi Try.f83 []) := fi_ok Try.func83 (by kernel_rfl) (by kernel_rfl) (by kernel_rfl)
theorem fo84 : FnOk Try.prog 84 (fi Try.f84 [20]) := fi_ok Try.func84 (by kernel_rfl) (by kernel_rfl) (by kernel_rfl)
theorem fo85 : FnOk Try.prog 85 (fi Try.f85 []) := fi_ok Try.func85 (by kernel_rfl) (by kernel_rfl) (by kernel_rfl)
theorem fo86 : FnOk Try.prog 86 (fi Try.f86 []) := fi_ok Try.func86 (by kernel_rfl) (by kernel_rfl) (by kernel_rfl)
theorem fo87 : FnOk Try.prog 87 (fi Try.f87 []) := fi_ok Try.func87 (by kernel_rfl) (by kernel_rfl) (by kernel_rfl)
theorem fo88 : FnOk Try.prog 88 (fi Try.f88 []) := fi_ok Try.func88 (by kernel_rfl) (by kernel_rfl) (by kernel_rfl)
theorem fo89 : FnOk Try.prog 89 (fi Try.f89 []) := fi_ok Try.func89 (by kernel_rfl) (by kernel_rfl) (by kernel_rfl)
theorem fo90 : FnOk Try.prog 90 (fi Try.f90 []) := fi_ok Try.func90 (by kernel_rfl) (by kernel_rfl) (by kernel_rfl)
theorem fo91 : FnOk Try.prog 91 (fi Try.f91 []) := fi_ok Try.func91 (by kernel_rfl) (by kernel_rfl) (by kernel_rfl)
theorem fo92 : FnOk Try.prog 92 (fi Try.f92 []) := fi_ok Try.func92 (by kernel_rfl) (by kernel_rfl) (by kernel_rfl)
theorem fo93 : FnOk Try.prog 93 (fi Try.f93 []) := fi_ok Try.func93 (by kernel_rfl) (by kernel_rfl) (by kernel_rfl)
theorem fo94 : FnOk Try.prog 94 (fi Try.f94 []) := fi_ok Try.func94 (by kernel_rfl) (by kernel_rfl) (by kernel_rfl)
theorem fo95 : FnOk Try.prog 95 (fi Try.f95 []) := fi_ok Try.func95 (by kernel_rfl) (by kernel_rfl) (by kernel_rfl)
theorem fo96 : FnOk Try.prog 96 (fi Try.f96 []) := fi_ok Try.func96 (by kernel_rfl) (by kernel_rfl) (by kernel_rfl)
theorem fo97 : FnOk Try.prog 97 (fi Try.f97 []) := fi_ok Try.func97 (by kernel_rfl) (by kernel_rfl) (by kernel_rfl)
theorem fo98 : FnOk Try.prog 98 (fi Try.f98 []) := fi_ok Try.func98 (by kernel_rfl) (by kernel_rfl) (by kernel_rfl)
theorem fo99 : FnOk Try.prog 99 (fi Try.f99 []) := fi_ok Try.func99 (by kernel_rfl) (by kernel_rfl) (by kernel_rfl)
theorem fo100 : FnOk Try.prog 100 (fi Try.f100 []) := fi_ok Try.func100 (by kernel_rfl) (by kernel_rfl) (by kernel_rfl)
theorem fo101 : FnOk Try.prog 101 (fi Try.f101 []) := fi_ok Try.func101 (by kernel_rfl) (by kernel_rfl) (by kernel_rfl)
theorem fo102 : FnOk Try.prog 102 (fi Try.f102 []) := fi_ok Try.func102 (by kernel_rfl) (by kernel_rfl) (by kernel_rfl)
theorem fo103 : FnOk Try.prog 103 (fi Try.f103 []) := fi_ok Try.func103 (by kernel_rfl) (by kernel_rfl) (by kernel_rfl)
theorem fo104 : FnOk Try.prog 104 (fi Try.f104 []) := fi_ok Try.func104 (by kernel_rfl) (by kernel_rfl) (by kernel_rfl)
theorem fo105 : FnOk Try.prog 105 (fi Try.f105 [5, 7]) := fi_ok Try.func105 (by kernel_rfl) (by kernel_rfl) (by kernel_rfl)
theorem fo106 : FnOk Try.prog 106 (fi Try.f106 [21, 28]) := fi_ok Try.func106 (by kernel_rfl) (by kernel_rfl) (by kernel_rfl)
theorem fo107 : FnOk Try.prog 107 (fi Try.f107 []) := fi_ok Try.func107 (by kernel_rfl) (by kernel_rfl) (by kernel_rfl)
theorem fo108 : FnOk Try.prog 108 (fi Try.f108 []) := fi_ok Try.func108 (by kernel_rfl) (by kernel_rfl) (by kernel_rfl)
theorem fo109 : FnOk Try.prog 109 (fi Try.f109 []) := fi_ok Try.func109 (by kernel_rfl) (by kernel_rfl) (by kernel_rfl)
theorem fo110 : FnOk Try.prog 110 (fi Try.f110 []) := fi_ok Try.func110 (by kernel_rfl) (by kernel_rfl) (by kernel_rfl)
theorem fo111 : FnOk Try.prog 111 (fi Try.f111 []) := fi_ok Try.func111 (by kernel_rfl) (by kernel_rfl) (by kernel_rfl)
theorem fo112 : FnOk Try.prog 112 (fi Try.f112 []) := fi_ok Try.func112 (by kernel_rfl) (by kernel_rfl) (by kernel_rfl)
noncomputable def fts : List (Nat × FnI) := [(3, fi Try.f3 []), (4, fi Try.f4 []), (5, fi Try.f5 []), (6, fi Try.f6 []), (7, fi Try.f7 [49]), (8, fi Try.f8 []), (9, fi Try.f9 []), (10, fi Try.f10 []), (11, fi Try.f11 []), (12, fi Try.f12 []), (13, fi Try.f13 []), (14, fi Try.f14 []), (15, fi Try.f15 [37,52,125]), (16, fi Try.f16 []), (17, fi Try.f17 [74]), (18, fi Try.f18 []), (19, fi Try.f19 []), (20, fi Try.f20 []), (21, fi Try.f21 []), (22, fi Try.f22 []), (23, fi Try.f23 []), (24, fi Try.f24 []), (25, fi Try.f25 []), (26, fi Try.f26 []), (27, fi Try.f27 [65]), (28, fi Try.f28 []), (29, fi Try.f29 []), (30, fi Try.f30 []), (31, fi Try.f31 []), (32, fi Try.f32 []), (33, fi Try.f33 []), (34, fi Try.f34 []), (35, fi Try.f35 []), (36, fi Try.f36 []), (37, fi Try.f37 []), (38, fi Try.f38 []), (39, fi Try.f39 []), (40, fi Try.f40 []), (41, fi Try.f41 []), (42, fi Try.f42 []), (43, fi Try.f43 []), (44, fi Try.f44 []), (45, fi Try.f45 []), (46, fi Try.f46 []), (47, fi Try.f47 []), (48, fi Try.f48 []), (49, fi Try.f49 []), (50, fi Try.f50 []), (51, fi Try.f51 [5, 7]), (52, fi Try.f52 []), (53, fi Try.f53 []), (54, fi Try.f54 []), (55, fi Try.f55 []), (56, fi Try.f56 []), (57, fi Try.f57 []), (58, fi Try.f58 []), (59, fi Try.f59 [75, 96, 161]), (60, fi Try.f60 [78]), (61, fi Try.f61 [73]), (62, fi Try.f62 []), (63, fi Try.f63 []), (64, fi Try.f64 []), (65, fi Try.f65 []), (66, fi Try.f66 []), (67, fi Try.f67 []), (68, fi Try.f68 []), (69, fi Try.f69 []), (70, fi Try.f70 []), (71, fi Try.f71 []), (72, fi Try.f72 []), (73, fi Try.f73 []), (74, fi Try.f74 []), (75, fi Try.f75 []), (76, fi Try.f76 []), (77, fi Try.f77 []), (78, fi Try.f78 []), (79, fi Try.f79 []), (80, fi Try.f80 []), (81, fi Try.f81 []), (82, fi Try.f82 [15]), (83, fi Try.f83 []), (84, fi Try.f84 [20]), (85, fi Try.f85 []), (86, fi Try.f86 []), (87, fi Try.f87 []), (88, fi Try.f88 []), (89, fi Try.f89 []), (90, fi Try.f90 []), (91, fi Try.f91 []), (92, fi Try.f92 []), (93, fi Try.f93 []), (94, fi Try.f94 []), (95, fi Try.f95 []), (96, fi Try.f96 []), (97, fi Try.f97 []), (98, fi Try.f98 []), (99, fi Try.f99 []), (100, fi Try.f100 []), (101, fi Try.f101 []), (102, fi Try.f102 []), (103, fi Try.f103 []), (104, fi Try.f104 []), (105, fi Try.f105 [5, 7]), (106, fi Try.f106 [21, 28]), (107, fi Try.f107 []), (108, fi Try.f108 []), (109, fi Try.f109 []), (110, fi Try.f110 []), (111, fi Try.f111 []), (112, fi Try.f112 [])]
noncomputable def ftsT : BT FnI := bt_of fts 20
noncomputable def cfgL (ks : List (Nat × List X × X)) (lp : Nat → List LoopX) : Cfg := ⟨fun t => btLook t tisT, fun f => btLook f ftsT, 1000, ks, lp⟩
noncomputable def cfg (ks : List (Nat × List X × X)) : Cfg := cfgL ks fun _ => []
theorem fts_ok : ∀ p ∈ fts, FnOk Try.prog p.1 p.2 := List.forall_mem_cons.2 ⟨fo3, List.forall_mem_cons.2 ⟨fo4, List.forall_mem_cons.2 ⟨fo5, List.forall_mem_cons.2 ⟨fo6, List.forall_mem_cons.2 ⟨fo7, List.forall_mem_cons.2 ⟨fo8, List.forall_mem_cons.2 ⟨fo9, List.forall_mem_cons.2 ⟨fo10, List.forall_mem_cons.2 ⟨fo11, List.forall_mem_cons.2 ⟨fo12, List.forall_mem_cons.2 ⟨fo13, List.forall_mem_cons.2 ⟨fo14, List.forall_mem_cons.2 ⟨fo15, List.forall_mem_cons.2 ⟨fo16, List.forall_mem_cons.2 ⟨fo17, List.forall_mem_cons.2 ⟨fo18, List.forall_mem_cons.2 ⟨fo19, List.forall_mem_cons.2 ⟨fo20, List.forall_mem_cons.2 ⟨fo21, List.forall_mem_cons.2 ⟨fo22, List.forall_mem_cons.2 ⟨fo23, List.forall_mem_cons.2 ⟨fo24, List.forall_mem_cons.2 ⟨fo25, List.forall_mem_cons.2 ⟨fo26, List.forall_mem_cons.2 ⟨fo27, List.forall_mem_cons.2 ⟨fo28, List.forall_mem_cons.2 ⟨fo29, List.forall_mem_cons.2 ⟨fo30, List.forall_mem_cons.2 ⟨fo31, List.forall_mem_cons.2 ⟨fo32, List.forall_mem_cons.2 ⟨fo33, List.forall_mem_cons.2 ⟨fo34, List.forall_mem_cons.2 ⟨fo35, List.forall_mem_cons.2 ⟨fo36, List.forall_mem_cons.2 ⟨fo37, List.forall_mem_cons.2 ⟨fo38, List.forall_mem_cons.2 ⟨fo39, List.forall_mem_cons.2 ⟨fo40, List.forall_mem_cons.2 ⟨fo41, List.forall_mem_cons.2 ⟨fo42, List.forall_mem_cons.2 ⟨fo43, List.forall_mem_cons.2 ⟨fo44, List.forall_mem_cons.2 ⟨fo45, List.forall_mem_cons.2 ⟨fo46, List.forall_mem_cons.2 ⟨fo47, List.forall_mem_cons.2 ⟨fo48, List.forall_mem_cons.2 ⟨fo49, List.forall_mem_cons.2 ⟨fo50, List.forall_mem_cons.2 ⟨fo51, List.forall_mem_cons.2 ⟨fo52, List.forall_mem_cons.2 ⟨fo53, List.forall_mem_cons.2 ⟨fo54, List.forall_mem_cons.2 ⟨fo55, List.forall_mem_cons.2 ⟨fo56, List.forall_mem_cons.2 ⟨fo57, List.forall_mem_cons.2 ⟨fo58, List.forall_mem_cons.2 ⟨fo59, List.forall_mem_cons.2 ⟨fo60, List.forall_mem_cons.2 ⟨fo61, List.forall_mem_cons.2 ⟨fo62, List.forall_mem_cons.2 ⟨fo63, List.forall_mem_cons.2 ⟨fo64, List.forall_mem_cons.2 ⟨fo65, List.forall_mem_cons.2 ⟨fo66, List.forall_mem_cons.2 ⟨fo67, List.forall_mem_cons.2 ⟨fo68, List.forall_mem_cons.2 ⟨fo69, List.forall_mem_cons.2 ⟨fo70, List.forall_mem_cons.2 ⟨fo71, List.forall_mem_cons.2 ⟨fo72, List.forall_mem_cons.2 ⟨fo73, List.forall_mem_cons.2 ⟨fo74, List.forall_mem_cons.2 ⟨fo75, List.forall_mem_cons.2 ⟨fo76, List.forall_mem_cons.2 ⟨fo77, List.forall_mem_cons.2 ⟨fo78, List.forall_mem_cons.2 ⟨fo79, List.forall_mem_cons.2 ⟨fo80, List.forall_mem_cons.2 ⟨fo81, List.forall_mem_cons.2 ⟨fo82, List.forall_mem_cons.2 ⟨fo83, List.forall_mem_cons.2 ⟨fo84, List.forall_mem_cons.2 ⟨fo85, List.forall_mem_cons.2 ⟨fo86, List.forall_mem_cons.2 ⟨fo87, List.forall_mem_cons.2 ⟨fo88, List.forall_mem_cons.2 ⟨fo89, List.forall_mem_cons.2 ⟨fo90, List.forall_mem_cons.2 ⟨fo91, List.forall_mem_cons.2 ⟨fo92, List.forall_mem_cons.2 ⟨fo93, List.forall_mem_cons.2 ⟨fo94, List.forall_mem_cons.2 ⟨fo95, List.forall_mem_cons.2 ⟨fo96, List.forall_mem_cons.2 ⟨fo97, List.forall_mem_cons.2 ⟨fo98, List.forall_mem_cons.2 ⟨fo99, List.forall_mem_cons.2 ⟨fo100, List.forall_mem_cons.2 ⟨fo101, List.forall_mem_cons.2 ⟨fo102, List.forall_mem_cons.2 ⟨fo103, List.forall_mem_cons.2 ⟨fo104, List.forall_mem_cons.2 ⟨fo105, List.forall_mem_cons.2 ⟨fo106, List.forall_mem_cons.2 ⟨fo107, List.forall_mem_cons.2 ⟨fo108, List.forall_mem_cons.2 ⟨fo109, List.forall_mem_cons.2 ⟨fo110, List.forall_mem_cons.2 ⟨fo111, List.forall_mem_cons.2 ⟨fo112, List.forall_mem_nil _⟩⟩⟩⟩⟩⟩⟩⟩⟩⟩⟩⟩⟩⟩⟩⟩⟩⟩⟩⟩⟩⟩⟩⟩⟩⟩⟩⟩⟩⟩⟩⟩⟩⟩⟩⟩⟩⟩⟩⟩⟩⟩⟩⟩⟩⟩⟩⟩⟩⟩⟩⟩⟩⟩⟩⟩⟩⟩⟩⟩⟩⟩⟩⟩⟩⟩⟩⟩⟩⟩⟩⟩⟩⟩⟩⟩⟩⟩⟩⟩⟩⟩⟩⟩⟩⟩⟩⟩⟩⟩⟩⟩⟩⟩⟩⟩⟩⟩⟩⟩⟩⟩⟩⟩⟩⟩⟩⟩⟩⟩
theorem cfg_ok {ρ : Rho} {ks : List (Nat × List X × X)} (hk : ∀ p ∈ ks, hasBody Try.prog p.1 = true ∧ ∀ n h, CY Try.prog n p.1 (X.denL ρ p.2.1) h (p.2.2.den ρ) []) : CfgOk Try.prog ρ (cfg ks) :=
  ⟨mixed, tis_ok, fun f i h => fts_ok (f, i) (bt_of_mem _ _ (btLook_mem h)), hk, fun _ _ _ => LpsOk.nil _ _ _ _⟩
theorem cfgL_ok {ρ : Rho} {ks : List (Nat × List X × X)} {lp : Nat → List LoopX} (hk : ∀ p ∈ ks, hasBody Try.prog p.1 = true ∧ ∀ n h, CY Try.prog n p.1 (X.denL ρ p.2.1) h (p.2.2.den ρ) []) (hl : ∀ f i, btLook f ftsT = some i → LpsOk Try.prog ρ i.ntmps (lp f) i.body) : CfgOk Try.prog ρ (cfgL ks lp) :=
  ⟨mixed, tis_ok, fun f i h => fts_ok (f, i) (bt_of_mem _ _ (btLook_mem h)), hk, hl⟩
end Go.Proofs.Ytonefailiekemaa
