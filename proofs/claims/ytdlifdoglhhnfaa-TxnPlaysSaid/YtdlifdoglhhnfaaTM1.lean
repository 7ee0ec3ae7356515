/- Parts of the proof, one behind the other. -/
import Derived.Test.YtdlifdoglhhnfaaXwM2
import Derived.Test.YtdlifdoglhhnfaaRows
namespace Go.Proofs.Ytdlifdoglhhnfaa
open Go Go.Proofs.Aw Go.Proofs.Xw
set_option maxRecDepth 100000
noncomputable def tis:List (Nat×TI):=[
 (2,(.mk 1 (some false) (some [(.int .i64 (0:Int))]) none none none none none false false none 8 (some .i64) true false false)),
 (3,(.mk 1 (some false) (some [(.int .i64 (0:Int))]) none none none none none false false none 8 (some .i64) true false false)),
 (4,(.mk 1 (some false) (some [(.bool false)]) none none none none none false true none 1 none true false false)),
 (5,(.mk 1 (some false) (some [(.int .u8 (0:Int))]) none none none none none false false none 1 (some .u8) true false false)),
 (9,(.mk 1 (some false) (some [(.string (.mk #[]))]) none none none none none true false none 16 none true false false)),
 (22,(.mk 3 (some true) (some [(.int .i64 (0:Int)),(.int .i64 (0:Int)),(.int .i64 (0:Int))]) (some (3,1)) (some false) none none none false false (some [1,1,1]) 24 none true false false)),
 (23,(.mk 9 (some true) (some [(.int .i64 (0:Int)),(.int .i64 (0:Int)),(.int .i64 (0:Int)),(.int .i64 (0:Int)),(.int .i64 (0:Int)),(.int .i64 (0:Int)),(.int .i64 (0:Int)),(.int .i64 (0:Int)),(.int .i64 (0:Int))]) (some (3,3)) (some true) none none none false false (some [1,1,1,1,1,1,1,1,1]) 72 none true false false)),
 (24,(.mk 9 (some true) (some [(.int .i64 (0:Int)),(.int .i64 (0:Int)),(.int .i64 (0:Int)),(.int .i64 (0:Int)),(.int .i64 (0:Int)),(.int .i64 (0:Int)),(.int .i64 (0:Int)),(.int .i64 (0:Int)),(.int .i64 (0:Int))]) (some (3,3)) (some true) none none none false false (some [1,1,1,1,1,1,1,1,1]) 72 none true false false)),
 (25,(.mk 1 (some false) (some [(.slice none 0 0)]) none none (some (9,1)) none none false false none 24 none true false false)),
 (26,(.mk 1 (some false) (some [(.slice none 0 0)]) none none (some (47,25)) none none false false none 24 none true false false)),
 (29,(.mk 1 (some false) (some [(.pointer none)]) none none none none none false false none 8 none true false true)),
 (30,(.mk 1 (some false) (some [(.int .i64 (0:Int))]) none none none none none false false none 8 (some .i64) true false false)),
 (31,(.mk 1 (some false) (some [(.tuple #[(.pointer none),(.int .i64 (0:Int))])]) none none none none none false false none 0 none true false false)),
 (33,(.mk 1 (some false) (some [(.slice none 0 0)]) none none (some (4,1)) none none false false none 24 none true false false)),
 (34,(.mk 3 (some true) (some [(.int .i64 (0:Int)),(.int .i64 (0:Int)),(.int .i64 (0:Int))]) (some (3,1)) (some false) none none none false false (some [1,1,1]) 24 none true false false)),
 (35,(.mk 23 (some true) (some [(.string (.mk #[])),(.int .i64 (0:Int)),(.int .i64 (0:Int)),(.int .i64 (0:Int)),(.int .i64 (0:Int)),(.int .i64 (0:Int)),(.int .i64 (0:Int)),(.int .i64 (0:Int)),(.int .i64 (0:Int)),(.int .i64 (0:Int)),(.bool false),(.int .i64 (0:Int)),(.int .i64 (0:Int)),(.int .i64 (0:Int)),(.int .i64 (0:Int)),(.int .i64 (0:Int)),(.int .i64 (0:Int)),(.int .i64 (0:Int)),(.int .i64 (0:Int)),(.int .i64 (0:Int)),(.int .i64 (0:Int)),(.int .i64 (0:Int)),(.int .i64 (0:Int))]) none none none (some [(0,1),(1,9),(10,1),(11,9),(20,3)]) (some [(some false),(some true),(some false),(some true),(some true)]) false false (some [2,1,1,1,1,1,1,1,1,1,0,1,1,1,1,1,1,1,1,1,1,1,1]) 192 none true false false)),
 (36,(.mk 23 (some true) (some [(.string (.mk #[])),(.int .i64 (0:Int)),(.int .i64 (0:Int)),(.int .i64 (0:Int)),(.int .i64 (0:Int)),(.int .i64 (0:Int)),(.int .i64 (0:Int)),(.int .i64 (0:Int)),(.int .i64 (0:Int)),(.int .i64 (0:Int)),(.bool false),(.int .i64 (0:Int)),(.int .i64 (0:Int)),(.int .i64 (0:Int)),(.int .i64 (0:Int)),(.int .i64 (0:Int)),(.int .i64 (0:Int)),(.int .i64 (0:Int)),(.int .i64 (0:Int)),(.int .i64 (0:Int)),(.int .i64 (0:Int)),(.int .i64 (0:Int)),(.int .i64 (0:Int))]) none none none (some [(0,1),(1,9),(10,1),(11,9),(20,3)]) (some [(some false),(some true),(some false),(some true),(some true)]) false false (some [2,1,1,1,1,1,1,1,1,1,0,1,1,1,1,1,1,1,1,1,1,1,1]) 192 none true false false)),
 (37,(.mk 1 (some false) (some [(.tuple #[(.agg #[(.string (.mk #[])),(.int .i64 (0:Int)),(.int .i64 (0:Int)),(.int .i64 (0:Int)),(.int .i64 (0:Int)),(.int .i64 (0:Int)),(.int .i64 (0:Int)),(.int .i64 (0:Int)),(.int .i64 (0:Int)),(.int .i64 (0:Int)),(.bool false),(.int .i64 (0:Int)),(.int .i64 (0:Int)),(.int .i64 (0:Int)),(.int .i64 (0:Int)),(.int .i64 (0:Int)),(.int .i64 (0:Int)),(.int .i64 (0:Int)),(.int .i64 (0:Int)),(.int .i64 (0:Int)),(.int .i64 (0:Int)),(.int .i64 (0:Int)),(.int .i64 (0:Int))]),(.bool false)])]) none none none none none false false none 0 none true false false)),
 (40,(.mk 3 (some true) (some [(.int .i64 (0:Int)),(.int .i64 (0:Int)),(.int .i64 (0:Int))]) none none none (some [(0,1),(1,1),(2,1)]) (some [(some false),(some false),(some false)]) false false (some [1,1,1]) 24 none true false false)),
 (41,(.mk 3 (some true) (some [(.int .i64 (0:Int)),(.int .i64 (0:Int)),(.int .i64 (0:Int))]) none none none (some [(0,1),(1,1),(2,1)]) (some [(some false),(some false),(some false)]) false false (some [1,1,1]) 24 none true false false)),
 (42,(.mk 3 (some true) (some [(.int .i64 (0:Int)),(.int .i64 (0:Int)),(.int .i64 (0:Int))]) none none none (some [(0,1),(1,1),(2,1)]) (some [(some false),(some false),(some false)]) false false (some [1,1,1]) 24 none true false false)),
 (43,(.mk 3 (some true) (some [(.int .i64 (0:Int)),(.int .i64 (0:Int)),(.int .i64 (0:Int))]) none none none (some [(0,1),(1,1),(2,1)]) (some [(some false),(some false),(some false)]) false false (some [1,1,1]) 24 none true false false)),
 (44,(.mk 20 (some true) (some [(.int .i64 (0:Int)),(.int .i64 (0:Int)),(.int .i64 (0:Int)),(.int .i64 (0:Int)),(.int .i64 (0:Int)),(.int .i64 (0:Int)),(.string (.mk #[])),(.string (.mk #[])),(.bool false),(.int .i64 (0:Int)),(.int .i64 (0:Int)),(.int .i64 (0:Int)),(.int .i64 (0:Int)),(.int .i64 (0:Int)),(.int .i64 (0:Int)),(.int .i64 (0:Int)),(.int .i64 (0:Int)),(.int .i64 (0:Int)),(.int .i64 (0:Int)),(.int .i64 (0:Int))]) none none none (some [(0,3),(3,3),(6,1),(7,1),(8,1),(9,9),(18,1),(19,1)]) (some [(some true),(some true),(some false),(some false),(some false),(some true),(some false),(some false)]) false false (some [1,1,1,1,1,1,2,2,0,1,1,1,1,1,1,1,1,1,1,1]) 176 none true false false)),
 (45,(.mk 20 (some true) (some [(.int .i64 (0:Int)),(.int .i64 (0:Int)),(.int .i64 (0:Int)),(.int .i64 (0:Int)),(.int .i64 (0:Int)),(.int .i64 (0:Int)),(.string (.mk #[])),(.string (.mk #[])),(.bool false),(.int .i64 (0:Int)),(.int .i64 (0:Int)),(.int .i64 (0:Int)),(.int .i64 (0:Int)),(.int .i64 (0:Int)),(.int .i64 (0:Int)),(.int .i64 (0:Int)),(.int .i64 (0:Int)),(.int .i64 (0:Int)),(.int .i64 (0:Int)),(.int .i64 (0:Int))]) none none none (some [(0,3),(3,3),(6,1),(7,1),(8,1),(9,9),(18,1),(19,1)]) (some [(some true),(some true),(some false),(some false),(some false),(some true),(some false),(some false)]) false false (some [1,1,1,1,1,1,2,2,0,1,1,1,1,1,1,1,1,1,1,1]) 176 none true false false)),
 (46,(.mk 25 (some true) (some [(.int .i64 (0:Int)),(.bool false),(.int .i64 (0:Int)),(.int .i64 (0:Int)),(.int .i64 (0:Int)),(.int .i64 (0:Int)),(.int .i64 (0:Int)),(.int .i64 (0:Int)),(.string (.mk #[])),(.string (.mk #[])),(.bool false),(.int .i64 (0:Int)),(.int .i64 (0:Int)),(.int .i64 (0:Int)),(.int .i64 (0:Int)),(.int .i64 (0:Int)),(.int .i64 (0:Int)),(.int .i64 (0:Int)),(.int .i64 (0:Int)),(.int .i64 (0:Int)),(.int .i64 (0:Int)),(.int .i64 (0:Int)),(.int .i64 (0:Int)),(.int .i64 (0:Int)),(.int .i64 (0:Int))]) none none none (some [(0,1),(1,1),(2,20),(22,3)]) (some [(some false),(some false),(some true),(some true)]) false false (some [1,0,1,1,1,1,1,1,2,2,0,1,1,1,1,1,1,1,1,1,1,1,1,1,1]) 216 none true false false)),
 (47,(.mk 25 (some true) (some [(.int .i64 (0:Int)),(.bool false),(.int .i64 (0:Int)),(.int .i64 (0:Int)),(.int .i64 (0:Int)),(.int .i64 (0:Int)),(.int .i64 (0:Int)),(.int .i64 (0:Int)),(.string (.mk #[])),(.string (.mk #[])),(.bool false),(.int .i64 (0:Int)),(.int .i64 (0:Int)),(.int .i64 (0:Int)),(.int .i64 (0:Int)),(.int .i64 (0:Int)),(.int .i64 (0:Int)),(.int .i64 (0:Int)),(.int .i64 (0:Int)),(.int .i64 (0:Int)),(.int .i64 (0:Int)),(.int .i64 (0:Int)),(.int .i64 (0:Int)),(.int .i64 (0:Int)),(.int .i64 (0:Int))]) none none none (some [(0,1),(1,1),(2,20),(22,3)]) (some [(some false),(some false),(some true),(some true)]) false false (some [1,0,1,1,1,1,1,1,2,2,0,1,1,1,1,1,1,1,1,1,1,1,1,1,1]) 216 none true false false)),
 (56,(.mk 1 (some false) (some [(.pointer none)]) none none none none none false false none 8 none true false true)),
 (57,(.mk 1 (some false) (some [(.tuple #[(.pointer none),(.int .i64 (0:Int))])]) none none none none none false false none 0 none true false false)),
 (59,(.mk 1 (some false) (some [(.slice none 0 0)]) none none (some (67,22)) none none false false none 24 none true false false)),
 (61,(.mk 1 (some false) (some [(.slice none 0 0)]) none none (some (3,1)) none none false false none 24 none true false false)),
 (62,(.mk 16 (some true) (some [(.int .i64 (0:Int)),(.slice none 0 0),(.slice none 0 0),(.slice none 0 0),(.int .i64 (0:Int)),(.int .i64 (0:Int)),(.int .i64 (0:Int)),(.int .i64 (0:Int)),(.int .i64 (0:Int)),(.int .i64 (0:Int)),(.int .i64 (0:Int)),(.int .i64 (0:Int)),(.int .i64 (0:Int)),(.int .i64 (0:Int)),(.bool false),(.int .i64 (0:Int))]) none none none (some [(0,1),(1,1),(2,1),(3,1),(4,1),(5,9),(14,1),(15,1)]) (some [(some false),(some false),(some false),(some false),(some false),(some true),(some false),(some false)]) false false none 176 none true false false)),
 (63,(.mk 16 (some true) (some [(.int .i64 (0:Int)),(.slice none 0 0),(.slice none 0 0),(.slice none 0 0),(.int .i64 (0:Int)),(.int .i64 (0:Int)),(.int .i64 (0:Int)),(.int .i64 (0:Int)),(.int .i64 (0:Int)),(.int .i64 (0:Int)),(.int .i64 (0:Int)),(.int .i64 (0:Int)),(.int .i64 (0:Int)),(.int .i64 (0:Int)),(.bool false),(.int .i64 (0:Int))]) none none none (some [(0,1),(1,1),(2,1),(3,1),(4,1),(5,9),(14,1),(15,1)]) (some [(some false),(some false),(some false),(some false),(some false),(some true),(some false),(some false)]) false false none 176 none true false false)),
 (66,(.mk 22 (some true) (some [(.string (.mk #[])),(.bool false),(.int .i64 (0:Int)),(.int .i64 (0:Int)),(.int .i64 (0:Int)),(.int .i64 (0:Int)),(.int .i64 (0:Int)),(.int .i64 (0:Int)),(.string (.mk #[])),(.string (.mk #[])),(.bool false),(.int .i64 (0:Int)),(.int .i64 (0:Int)),(.int .i64 (0:Int)),(.int .i64 (0:Int)),(.int .i64 (0:Int)),(.int .i64 (0:Int)),(.int .i64 (0:Int)),(.int .i64 (0:Int)),(.int .i64 (0:Int)),(.int .i64 (0:Int)),(.int .i64 (0:Int))]) none none none (some [(0,1),(1,1),(2,20)]) (some [(some false),(some false),(some true)]) false false (some [2,0,1,1,1,1,1,1,2,2,0,1,1,1,1,1,1,1,1,1,1,1]) 200 none true false false)),
 (67,(.mk 22 (some true) (some [(.string (.mk #[])),(.bool false),(.int .i64 (0:Int)),(.int .i64 (0:Int)),(.int .i64 (0:Int)),(.int .i64 (0:Int)),(.int .i64 (0:Int)),(.int .i64 (0:Int)),(.string (.mk #[])),(.string (.mk #[])),(.bool false),(.int .i64 (0:Int)),(.int .i64 (0:Int)),(.int .i64 (0:Int)),(.int .i64 (0:Int)),(.int .i64 (0:Int)),(.int .i64 (0:Int)),(.int .i64 (0:Int)),(.int .i64 (0:Int)),(.int .i64 (0:Int)),(.int .i64 (0:Int)),(.int .i64 (0:Int))]) none none none (some [(0,1),(1,1),(2,20)]) (some [(some false),(some false),(some true)]) false false (some [2,0,1,1,1,1,1,1,2,2,0,1,1,1,1,1,1,1,1,1,1,1]) 200 none true false false)),
 (71,(.mk 1 (some false) (some [(.slice none 0 0)]) none none (some (45,20)) none none false false none 24 none true false false)),
 (80,(.mk 1 (some false) (some [(.tuple #[(.agg #[(.int .i64 (0:Int)),(.int .i64 (0:Int)),(.int .i64 (0:Int)),(.int .i64 (0:Int)),(.int .i64 (0:Int)),(.int .i64 (0:Int)),(.string (.mk #[])),(.string (.mk #[])),(.bool false),(.int .i64 (0:Int)),(.int .i64 (0:Int)),(.int .i64 (0:Int)),(.int .i64 (0:Int)),(.int .i64 (0:Int)),(.int .i64 (0:Int)),(.int .i64 (0:Int)),(.int .i64 (0:Int)),(.int .i64 (0:Int)),(.int .i64 (0:Int)),(.int .i64 (0:Int))]),(.bool false)])]) none none none none none false false none 0 none true false false)),
 (86,(.mk 24 (some true) (some [(.int .i64 (0:Int)),(.int .i64 (0:Int)),(.int .i64 (0:Int)),(.int .i64 (0:Int)),(.int .i64 (0:Int)),(.int .i64 (0:Int)),(.int .i64 (0:Int)),(.int .i64 (0:Int)),(.int .i64 (0:Int)),(.int .i64 (0:Int)),(.int .i64 (0:Int)),(.int .i64 (0:Int)),(.int .i64 (0:Int)),(.int .i64 (0:Int)),(.int .i64 (0:Int)),(.int .i64 (0:Int)),(.int .i64 (0:Int)),(.int .i64 (0:Int)),(.int .i64 (0:Int)),(.slice none 0 0),(.slice none 0 0),(.slice none 0 0),(.int .i64 (0:Int)),(.int .i64 (0:Int))]) none none none (some [(0,9),(9,9),(18,1),(19,1),(20,1),(21,1),(22,1),(23,1)]) (some [(some true),(some true),(some false),(some false),(some false),(some false),(some false),(some false)]) false false none 240 none true false false)),
 (87,(.mk 24 (some true) (some [(.int .i64 (0:Int)),(.int .i64 (0:Int)),(.int .i64 (0:Int)),(.int .i64 (0:Int)),(.int .i64 (0:Int)),(.int .i64 (0:Int)),(.int .i64 (0:Int)),(.int .i64 (0:Int)),(.int .i64 (0:Int)),(.int .i64 (0:Int)),(.int .i64 (0:Int)),(.int .i64 (0:Int)),(.int .i64 (0:Int)),(.int .i64 (0:Int)),(.int .i64 (0:Int)),(.int .i64 (0:Int)),(.int .i64 (0:Int)),(.int .i64 (0:Int)),(.int .i64 (0:Int)),(.slice none 0 0),(.slice none 0 0),(.slice none 0 0),(.int .i64 (0:Int)),(.int .i64 (0:Int))]) none none none (some [(0,9),(9,9),(18,1),(19,1),(20,1),(21,1),(22,1),(23,1)]) (some [(some true),(some true),(some false),(some false),(some false),(some false),(some false),(some false)]) false false none 240 none true false false)),
 (90,(.mk 1 (some false) (some [(.slice none 0 0)]) none none (some (93,1)) none none false false none 24 none true false false)),
 (93,(.mk 1 (some false) (some [(.complex .f64 0 0)]) none none none none none false false none 16 none true false false)),
 (104,(.mk 1 (some false) (some [(.slice none 0 0)]) none none (some (24,9)) none none false false none 24 none true false false)),
 (105,(.mk 1 (some false) (some [(.slice none 0 0)]) none none (some (41,3)) none none false false none 24 none true false false)),
 (108,(.mk 1 (some false) (some [(.int .u64 (0:Int))]) none none none none none false false none 8 (some .u64) true false false)),
 (109,(.mk 1 (some false) (some [(.int .u64 (0:Int))]) none none none none none false false none 8 (some .u64) true false false)),
 (110,(.mk 1 (some false) (some [(.tuple #[(.complex .f64 0 0),(.bool false)])]) none none none none none false false none 0 none true false false)),
 (116,(.mk 1 (some false) (some [(.float .f64 0)]) none none none none none false false none 8 none true true false)),
 (119,(.mk 1 (some false) (some [(.tuple #[(.int .i64 (0:Int)),(.int .i64 (0:Int)),(.bool false)])]) none none none none none false false none 0 none true false false)),
 (122,(.mk 1 (some false) (some [(.tuple #[(.int .i64 (0:Int)),(.int .i64 (0:Int))])]) none none none none none false false none 0 none true false false))]
theorem tis_all:tis=tis.map (fun p=>(p.1,tiOf Try.prog p.1)):=by kernel_rfl
noncomputable def tisT:BT TI:=bt_of tis 20
theorem tis_ok:TIs.ok Try.prog (fun t=>btLook t tisT):=fun t i h=>by
 have h1:=bt_of_mem _ _ (btLook_mem h)
 rw[tis_all]at h1
 obtain⟨q,_,h2⟩:=List.mem_map.1 h1
 cases h2;rfl
theorem mixed:Try.prog.follows .mixedOrders=true:=by kernel_rfl
def fi (fn:Func) (ms:List Nat):FnI:=⟨fn.body.getD .skip,fn.results.toList,fn.ntmps,ms⟩
theorem fi_ok {f:Nat} {fn:Func} {ms:List Nat} (hf:Try.prog.funcs[f]? = some fn) (hb:fn.body.isSome=true) (hfit:fitsC fn.ntmps (fn.body.getD .skip)=true) (hh:hasBody Try.prog f=true):FnOk Try.prog f (fi fn ms):=by
 obtain⟨c,hc⟩:=Option.isSome_iff_exists.1 hb
 refine⟨fn,hf,by simp only[fi,hc,Option.getD_some],rfl,rfl,hfit,hh⟩
theorem fo3:FnOk Try.prog 3 (fi Try.f3 []):=fi_ok Try.func3 (by kernel_rfl) (by kernel_rfl) (by kernel_rfl)
theorem fo4:FnOk Try.prog 4 (fi Try.f4 [27,29,31]):=fi_ok Try.func4 (by kernel_rfl) (by kernel_rfl) (by kernel_rfl)
theorem fo5:FnOk Try.prog 5 (fi Try.f5 []):=fi_ok Try.func5 (by kernel_rfl) (by kernel_rfl) (by kernel_rfl)
theorem fo7:FnOk Try.prog 7 (fi Try.f7 []):=fi_ok Try.func7 (by kernel_rfl) (by kernel_rfl) (by kernel_rfl)
theorem fo8:FnOk Try.prog 8 (fi Try.f8 []):=fi_ok Try.func8 (by kernel_rfl) (by kernel_rfl) (by kernel_rfl)
theorem fo9:FnOk Try.prog 9 (fi Try.f9 [48]):=fi_ok Try.func9 (by kernel_rfl) (by kernel_rfl) (by kernel_rfl)
theorem fo10:FnOk Try.prog 10 (fi Try.f10 []):=fi_ok Try.func10 (by kernel_rfl) (by kernel_rfl) (by kernel_rfl)
theorem fo11:FnOk Try.prog 11 (fi Try.f11 []):=fi_ok Try.func11 (by kernel_rfl) (by kernel_rfl) (by kernel_rfl)
theorem fo12:FnOk Try.prog 12 (fi Try.f12 []):=fi_ok Try.func12 (by kernel_rfl) (by kernel_rfl) (by kernel_rfl)
theorem fo13:FnOk Try.prog 13 (fi Try.f13 []):=fi_ok Try.func13 (by kernel_rfl) (by kernel_rfl) (by kernel_rfl)
theorem fo14:FnOk Try.prog 14 (fi Try.f14 []):=fi_ok Try.func14 (by kernel_rfl) (by kernel_rfl) (by kernel_rfl)
theorem fo15:FnOk Try.prog 15 (fi Try.f15 []):=fi_ok Try.func15 (by kernel_rfl) (by kernel_rfl) (by kernel_rfl)
theorem fo16:FnOk Try.prog 16 (fi Try.f16 []):=fi_ok Try.func16 (by kernel_rfl) (by kernel_rfl) (by kernel_rfl)
theorem fo17:FnOk Try.prog 17 (fi Try.f17 []):=fi_ok Try.func17 (by kernel_rfl) (by kernel_rfl) (by kernel_rfl)
theorem fo18:FnOk Try.prog 18 (fi Try.f18 []):=fi_ok Try.func18 (by kernel_rfl) (by kernel_rfl) (by kernel_rfl)
theorem fo19:FnOk Try.prog 19 (fi Try.f19 []):=fi_ok Try.func19 (by kernel_rfl) (by kernel_rfl) (by kernel_rfl)
theorem fo20:FnOk Try.prog 20 (fi Try.f20 [80,90,100]):=fi_ok Try.func20 (by kernel_rfl) (by kernel_rfl) (by kernel_rfl)
theorem fo21:FnOk Try.prog 21 (fi Try.f21 []):=fi_ok Try.func21 (by kernel_rfl) (by kernel_rfl) (by kernel_rfl)
theorem fo22:FnOk Try.prog 22 (fi Try.f22 [40]):=fi_ok Try.func22 (by kernel_rfl) (by kernel_rfl) (by kernel_rfl)
theorem fo23:FnOk Try.prog 23 (fi Try.f23 []):=fi_ok Try.func23 (by kernel_rfl) (by kernel_rfl) (by kernel_rfl)
theorem fo24:FnOk Try.prog 24 (fi Try.f24 []):=fi_ok Try.func24 (by kernel_rfl) (by kernel_rfl) (by kernel_rfl)
theorem fo25:FnOk Try.prog 25 (fi Try.f25 [53]):=fi_ok Try.func25 (by kernel_rfl) (by kernel_rfl) (by kernel_rfl)
theorem fo26:FnOk Try.prog 26 (fi Try.f26 [47,113,164]):=fi_ok Try.func26 (by kernel_rfl) (by kernel_rfl) (by kernel_rfl)
theorem fo31:FnOk Try.prog 31 (fi Try.f31 []):=fi_ok Try.func31 (by kernel_rfl) (by kernel_rfl) (by kernel_rfl)
theorem fo32:FnOk Try.prog 32 (fi Try.f32 []):=fi_ok Try.func32 (by kernel_rfl) (by kernel_rfl) (by kernel_rfl)
theorem fo33:FnOk Try.prog 33 (fi Try.f33 [5,7]):=fi_ok Try.func33 (by kernel_rfl) (by kernel_rfl) (by kernel_rfl)
theorem fo34:FnOk Try.prog 34 (fi Try.f34 [69]):=fi_ok Try.func34 (by kernel_rfl) (by kernel_rfl) (by kernel_rfl)
theorem fo35:FnOk Try.prog 35 (fi Try.f35 []):=fi_ok Try.func35 (by kernel_rfl) (by kernel_rfl) (by kernel_rfl)
theorem fo36:FnOk Try.prog 36 (fi Try.f36 []):=fi_ok Try.func36 (by kernel_rfl) (by kernel_rfl) (by kernel_rfl)
theorem fo37:FnOk Try.prog 37 (fi Try.f37 []):=fi_ok Try.func37 (by kernel_rfl) (by kernel_rfl) (by kernel_rfl)
theorem fo38:FnOk Try.prog 38 (fi Try.f38 []):=fi_ok Try.func38 (by kernel_rfl) (by kernel_rfl) (by kernel_rfl)
theorem fo39:FnOk Try.prog 39 (fi Try.f39 []):=fi_ok Try.func39 (by kernel_rfl) (by kernel_rfl) (by kernel_rfl)
theorem fo40:FnOk Try.prog 40 (fi Try.f40 []):=fi_ok Try.func40 (by kernel_rfl) (by kernel_rfl) (by kernel_rfl)
theorem fo41:FnOk Try.prog 41 (fi Try.f41 []):=fi_ok Try.func41 (by kernel_rfl) (by kernel_rfl) (by kernel_rfl)
theorem fo42:FnOk Try.prog 42 (fi Try.f42 []):=fi_ok Try.func42 (by kernel_rfl) (by kernel_rfl) (by kernel_rfl)
theorem fo43:FnOk Try.prog 43 (fi Try.f43 []):=fi_ok Try.func43 (by kernel_rfl) (by kernel_rfl) (by kernel_rfl)
theorem fo44:FnOk Try.prog 44 (fi Try.f44 []):=fi_ok Try.func44 (by kernel_rfl) (by kernel_rfl) (by kernel_rfl)
theorem fo45:FnOk Try.prog 45 (fi Try.f45 []):=fi_ok Try.func45 (by kernel_rfl) (by kernel_rfl) (by kernel_rfl)
theorem fo46:FnOk Try.prog 46 (fi Try.f46 []):=fi_ok Try.func46 (by kernel_rfl) (by kernel_rfl) (by kernel_rfl)
theorem fo47:FnOk Try.prog 47 (fi Try.f47 []):=fi_ok Try.func47 (by kernel_rfl) (by kernel_rfl) (by kernel_rfl)
theorem fo48:FnOk Try.prog 48 (fi Try.f48 []):=fi_ok Try.func48 (by kernel_rfl) (by kernel_rfl) (by kernel_rfl)
theorem fo49:FnOk Try.prog 49 (fi Try.f49 []):=fi_ok Try.func49 (by kernel_rfl) (by kernel_rfl) (by kernel_rfl)
theorem fo50:FnOk Try.prog 50 (fi Try.f50 []):=fi_ok Try.func50 (by kernel_rfl) (by kernel_rfl) (by kernel_rfl)
theorem fo51:FnOk Try.prog 51 (fi Try.f51 []):=fi_ok Try.func51 (by kernel_rfl) (by kernel_rfl) (by kernel_rfl)
theorem fo52:FnOk Try.prog 52 (fi Try.f52 []):=fi_ok Try.func52 (by kernel_rfl) (by kernel_rfl) (by kernel_rfl)
theorem fo53:FnOk Try.prog 53 (fi Try.f53 []):=fi_ok Try.func53 (by kernel_rfl) (by kernel_rfl) (by kernel_rfl)
theorem fo54:FnOk Try.prog 54 (fi Try.f54 []):=fi_ok Try.func54 (by kernel_rfl) (by kernel_rfl) (by kernel_rfl)
theorem fo55:FnOk Try.prog 55 (fi Try.f55 []):=fi_ok Try.func55 (by kernel_rfl) (by kernel_rfl) (by kernel_rfl)
theorem fo56:FnOk Try.prog 56 (fi Try.f56 []):=fi_ok Try.func56 (by kernel_rfl) (by kernel_rfl) (by kernel_rfl)
theorem fo57:FnOk Try.prog 57 (fi Try.f57 []):=fi_ok Try.func57 (by kernel_rfl) (by kernel_rfl) (by kernel_rfl)
theorem fo58:FnOk Try.prog 58 (fi Try.f58 []):=fi_ok Try.func58 (by kernel_rfl) (by kernel_rfl) (by kernel_rfl)
theorem fo59:FnOk Try.prog 59 (fi Try.f59 []):=fi_ok Try.func59 (by kernel_rfl) (by kernel_rfl) (by kernel_rfl)
theorem fo60:FnOk Try.prog 60 (fi Try.f60 []):=fi_ok Try.func60 (by kernel_rfl) (by kernel_rfl) (by kernel_rfl)
theorem fo61:FnOk Try.prog 61 (fi Try.f61 []):=fi_ok Try.func61 (by kernel_rfl) (by kernel_rfl) (by kernel_rfl)
theorem fo62:FnOk Try.prog 62 (fi Try.f62 []):=fi_ok Try.func62 (by kernel_rfl) (by kernel_rfl) (by kernel_rfl)
theorem fo63:FnOk Try.prog 63 (fi Try.f63 []):=fi_ok Try.func63 (by kernel_rfl) (by kernel_rfl) (by kernel_rfl)
theorem fo64:FnOk Try.prog 64 (fi Try.f64 []):=fi_ok Try.func64 (by kernel_rfl) (by kernel_rfl) (by kernel_rfl)
theorem fo65:FnOk Try.prog 65 (fi Try.f65 []):=fi_ok Try.func65 (by kernel_rfl) (by kernel_rfl) (by kernel_rfl)
theorem fo66:FnOk Try.prog 66 (fi Try.f66 []):=fi_ok Try.func66 (by kernel_rfl) (by kernel_rfl) (by kernel_rfl)
theorem fo67:FnOk Try.prog 67 (fi Try.f67 []):=fi_ok Try.func67 (by kernel_rfl) (by kernel_rfl) (by kernel_rfl)
theorem fo68:FnOk Try.prog 68 (fi Try.f68 []):=fi_ok Try.func68 (by kernel_rfl) (by kernel_rfl) (by kernel_rfl)
theorem fo69:FnOk Try.prog 69 (fi Try.f69 []):=fi_ok Try.func69 (by kernel_rfl) (by kernel_rfl) (by kernel_rfl)
theorem fo70:FnOk Try.prog 70 (fi Try.f70 []):=fi_ok Try.func70 (by kernel_rfl) (by kernel_rfl) (by kernel_rfl)
theorem fo71:FnOk Try.prog 71 (fi Try.f71 []):=fi_ok Try.func71 (by kernel_rfl) (by kernel_rfl) (by kernel_rfl)
theorem fo72:FnOk Try.prog 72 (fi Try.f72 []):=fi_ok Try.func72 (by kernel_rfl) (by kernel_rfl) (by kernel_rfl)
noncomputable def fts:List (Nat×FnI):=[(3,fi Try.f3 []),(4,fi Try.f4 [27,29,31]),(5,fi Try.f5 []),(7,fi Try.f7 []),(8,fi Try.f8 []),(9,fi Try.f9 [48]),(10,fi Try.f10 []),(11,fi Try.f11 []),(12,fi Try.f12 []),(13,fi Try.f13 []),(14,fi Try.f14 []),(15,fi Try.f15 []),(16,fi Try.f16 []),(17,fi Try.f17 []),(18,fi Try.f18 []),(19,fi Try.f19 []),(20,fi Try.f20 [80,90,100]),(21,fi Try.f21 []),(22,fi Try.f22 [40]),(23,fi Try.f23 []),(24,fi Try.f24 []),(25,fi Try.f25 [53]),(26,fi Try.f26 [47,113,164]),(31,fi Try.f31 []),(32,fi Try.f32 []),(33,fi Try.f33 [5,7]),(34,fi Try.f34 [69]),(35,fi Try.f35 []),(36,fi Try.f36 []),(37,fi Try.f37 []),(38,fi Try.f38 []),(39,fi Try.f39 []),(40,fi Try.f40 []),(41,fi Try.f41 []),(42,fi Try.f42 []),(43,fi Try.f43 []),(44,fi Try.f44 []),(45,fi Try.f45 []),(46,fi Try.f46 []),(47,fi Try.f47 []),(48,fi Try.f48 []),(49,fi Try.f49 []),(50,fi Try.f50 []),(51,fi Try.f51 []),(52,fi Try.f52 []),(53,fi Try.f53 []),(54,fi Try.f54 []),(55,fi Try.f55 []),(56,fi Try.f56 []),(57,fi Try.f57 []),(58,fi Try.f58 []),(59,fi Try.f59 []),(60,fi Try.f60 []),(61,fi Try.f61 []),(62,fi Try.f62 []),(63,fi Try.f63 []),(64,fi Try.f64 []),(65,fi Try.f65 []),(66,fi Try.f66 []),(67,fi Try.f67 []),(68,fi Try.f68 []),(69,fi Try.f69 []),(70,fi Try.f70 []),(71,fi Try.f71 []),(72,fi Try.f72 [])]
noncomputable def ftsT:BT FnI:=bt_of fts 20
noncomputable def cfgL (ks:List (Nat×List X×X)) (lp:Nat→List LoopX):Cfg:=⟨fun t=>btLook t tisT,fun f=>btLook f ftsT,1000,ks,lp,[]⟩
noncomputable def cfg (ks:List (Nat×List X×X)):Cfg:=cfgL ks fun _=>[]
theorem fts_ok:∀p∈fts,FnOk Try.prog p.1 p.2:=List.forall_mem_cons.2 ⟨fo3,List.forall_mem_cons.2 ⟨fo4,List.forall_mem_cons.2 ⟨fo5,List.forall_mem_cons.2 ⟨fo7,List.forall_mem_cons.2 ⟨fo8,List.forall_mem_cons.2 ⟨fo9,List.forall_mem_cons.2 ⟨fo10,List.forall_mem_cons.2 ⟨fo11,List.forall_mem_cons.2 ⟨fo12,List.forall_mem_cons.2 ⟨fo13,List.forall_mem_cons.2 ⟨fo14,List.forall_mem_cons.2 ⟨fo15,List.forall_mem_cons.2 ⟨fo16,List.forall_mem_cons.2 ⟨fo17,List.forall_mem_cons.2 ⟨fo18,List.forall_mem_cons.2 ⟨fo19,List.forall_mem_cons.2 ⟨fo20,List.forall_mem_cons.2 ⟨fo21,List.forall_mem_cons.2 ⟨fo22,List.forall_mem_cons.2 ⟨fo23,List.forall_mem_cons.2 ⟨fo24,List.forall_mem_cons.2 ⟨fo25,List.forall_mem_cons.2 ⟨fo26,List.forall_mem_cons.2 ⟨fo31,List.forall_mem_cons.2 ⟨fo32,List.forall_mem_cons.2 ⟨fo33,List.forall_mem_cons.2 ⟨fo34,List.forall_mem_cons.2 ⟨fo35,List.forall_mem_cons.2 ⟨fo36,List.forall_mem_cons.2 ⟨fo37,List.forall_mem_cons.2 ⟨fo38,List.forall_mem_cons.2 ⟨fo39,List.forall_mem_cons.2 ⟨fo40,List.forall_mem_cons.2 ⟨fo41,List.forall_mem_cons.2 ⟨fo42,List.forall_mem_cons.2 ⟨fo43,List.forall_mem_cons.2 ⟨fo44,List.forall_mem_cons.2 ⟨fo45,List.forall_mem_cons.2 ⟨fo46,List.forall_mem_cons.2 ⟨fo47,List.forall_mem_cons.2 ⟨fo48,List.forall_mem_cons.2 ⟨fo49,List.forall_mem_cons.2 ⟨fo50,List.forall_mem_cons.2 ⟨fo51,List.forall_mem_cons.2 ⟨fo52,List.forall_mem_cons.2 ⟨fo53,List.forall_mem_cons.2 ⟨fo54,List.forall_mem_cons.2 ⟨fo55,List.forall_mem_cons.2 ⟨fo56,List.forall_mem_cons.2 ⟨fo57,List.forall_mem_cons.2 ⟨fo58,List.forall_mem_cons.2 ⟨fo59,List.forall_mem_cons.2 ⟨fo60,List.forall_mem_cons.2 ⟨fo61,List.forall_mem_cons.2 ⟨fo62,List.forall_mem_cons.2 ⟨fo63,List.forall_mem_cons.2 ⟨fo64,List.forall_mem_cons.2 ⟨fo65,List.forall_mem_cons.2 ⟨fo66,List.forall_mem_cons.2 ⟨fo67,List.forall_mem_cons.2 ⟨fo68,List.forall_mem_cons.2 ⟨fo69,List.forall_mem_cons.2 ⟨fo70,List.forall_mem_cons.2 ⟨fo71,List.forall_mem_cons.2 ⟨fo72,List.forall_mem_nil _⟩⟩⟩⟩⟩⟩⟩⟩⟩⟩⟩⟩⟩⟩⟩⟩⟩⟩⟩⟩⟩⟩⟩⟩⟩⟩⟩⟩⟩⟩⟩⟩⟩⟩⟩⟩⟩⟩⟩⟩⟩⟩⟩⟩⟩⟩⟩⟩⟩⟩⟩⟩⟩⟩⟩⟩⟩⟩⟩⟩⟩⟩⟩⟩⟩
theorem cfg_ok {ρ:Rho} {ks:List (Nat×List X×X)} (hk:∀p∈ks,hasBody Try.prog p.1=true∧∀n h,CY Try.prog n p.1 (X.denL ρ p.2.1) h (p.2.2.den ρ) []):CfgOk Try.prog ρ (cfg ks) :=
 ⟨mixed,tis_ok,fun f i h=>fts_ok (f,i) (bt_of_mem _ _ (btLook_mem h)),hk,fun _ _ _=>LpsOk.nil _ _ _ _,List.forall_mem_nil _⟩
theorem cfgL_ok {ρ:Rho} {ks:List (Nat×List X×X)} {lp:Nat→List LoopX} (hk:∀p∈ks,hasBody Try.prog p.1=true∧∀n h,CY Try.prog n p.1 (X.denL ρ p.2.1) h (p.2.2.den ρ) []) (hl:∀f i,btLook f ftsT=some i→LpsOk Try.prog ρ i.ntmps (lp f) i.body):CfgOk Try.prog ρ (cfgL ks lp) :=
 ⟨mixed,tis_ok,fun f i h=>fts_ok (f,i) (bt_of_mem _ _ (btLook_mem h)),hk,hl,List.forall_mem_nil _⟩
end Go.Proofs.Ytdlifdoglhhnfaa
