/- What functions answer, run over letters; each shown by running it. -/
import Derived.Test.YtkaakinodgafnaaXT
import Derived.Test.YtkaakinodgafnaaXwM2
namespace Go.Proofs.Ytkaakinodgafnaa
open Go Go.Proofs.Aw Go.Proofs.Xw

def l_XS1 : List Sm := []
theorem l_XS1_ok : ∀ s ∈ l_XS1, SmOk Try.prog s := List.forall_mem_nil _
def able : Sm := ⟨7, [], (.sc (.b (.lit true)))⟩
set_option maxRecDepth 100000 in
theorem able_ok : SmOk Try.prog able := smOk (c := ⟨cfg [], l_XS1, [8]⟩) (fun _ => cfg_ok (List.forall_mem_nil _)) l_XS1_ok (by kernel_rfl)
def l_able : List Sm := able :: l_XS1
theorem l_able_ok : ∀ s ∈ l_able, SmOk Try.prog s := List.forall_mem_cons.2 ⟨able_ok, l_XS1_ok⟩
end Go.Proofs.Ytkaakinodgafnaa
