/- What functions answer, run over letters; each shown by running it. -/
import Derived.Test.YtonefailiekemaaXT
import Derived.Test.YtonefailiekemaaXwM2
namespace Go.Proofs.Ytonefailiekemaa
open Go Go.Proofs.Aw Go.Proofs.Xw

def l_XS1 : List Sm := []
theorem l_XS1_ok : ∀ s ∈ l_XS1, SmOk Try.prog s := List.forall_mem_nil _
def able : Sm := ⟨9, [], (.sc (.b (.lit true)))⟩
set_option maxRecDepth 100000 in
theorem able_ok : SmOk Try.prog able := smOk (c := ⟨cfg [], l_XS1, [105,82,106,84,51,11,31,10014,10024,10025,10026,10028,10032,10033,10035,10038,10039,10040,10041,10045,10047,10048,10065,10066,10067,10071,10064,10068,10069,10070,10072,10073,10092,10085]⟩) (fun _ => cfg_ok (List.forall_mem_nil _)) l_XS1_ok (by kernel_rfl)
def l_able : List Sm := able :: l_XS1
theorem l_able_ok : ∀ s ∈ l_able, SmOk Try.prog s := List.forall_mem_cons.2 ⟨able_ok, l_XS1_ok⟩
end Go.Proofs.Ytonefailiekemaa
