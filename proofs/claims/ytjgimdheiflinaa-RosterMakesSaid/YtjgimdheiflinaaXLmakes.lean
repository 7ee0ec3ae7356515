/- What functions answer, run over letters, where something is known; each shown by running it. -/
import Derived.Test.YtjgimdheiflinaaXT
import Derived.Test.YtjgimdheiflinaaXQ
import Derived.Test.YtjgimdheiflinaaXwM2
namespace Go.Proofs.Ytjgimdheiflinaa
open Go Go.Proofs.Aw Go.Proofs.Xw

def makes1tN : T X := (.ret (.sc (.b (.lit true))))
set_option maxRecDepth 100000 in
theorem makes1tN_run : askF ⟨cfgL (ksN 1 true) (fun _ => []), l_R, [49,45,48,19,25]⟩ 3 ([cfgN 1 true 0, iV 13, iV 14]) ([]) = makes1tN := by kernel_rfl
def makes1tR2e : T X := (.ret (.sc (.b (.lit true))))
set_option maxRecDepth 100000 in
theorem makes1tR2e_run : askF ⟨cfgL (ksR 1 true) (fun _ => []), l_R, [49,45,48,19,25]⟩ 3 ([cfgZ 1 true, iV 13, iV 2]) (endE ++ fR 1 true) = makes1tR2e := by kernel_rfl
def makes1tR11e : T X := (.ret (.sc (.b (.lit true))))
set_option maxRecDepth 100000 in
theorem makes1tR11e_run : askF ⟨cfgL (ksR 1 true) (fun _ => []), l_R, [49,45,48,19,25]⟩ 3 ([cfgZ 1 true, iV 13, iV 11]) (endE ++ fR 1 true) = makes1tR11e := by kernel_rfl
def makes1tRXei : T X := (.ret (.sc (.b (.lit true))))
set_option maxRecDepth 100000 in
theorem makes1tRXei_run : askF ⟨cfgL (ksR 1 true) (fun _ => []), l_R, [49,45,48,19,25]⟩ 3 ([cfgZ 1 true, iV 13, iV 14]) (endE ++ inR ++ fX 1 true 14) = makes1tRXei := by kernel_rfl
def makes1tRXel : T X := (.ret (.sc (.b (.lit true))))
set_option maxRecDepth 100000 in
theorem makes1tRXel_run : askF ⟨cfgL (ksR 1 true) (fun _ => []), l_R, [49,45,48,19,25]⟩ 3 ([cfgZ 1 true, iV 13, iV 14]) (endE ++ lowR ++ fX 1 true 14) = makes1tRXel := by kernel_rfl
def makes1tRXeh : T X := (.ret (.sc (.b (.lit true))))
set_option maxRecDepth 100000 in
theorem makes1tRXeh_run : askF ⟨cfgL (ksR 1 true) (fun _ => []), l_R, [49,45,48,19,25]⟩ 3 ([cfgZ 1 true, iV 13, iV 14]) (endE ++ highR ++ fX 1 true 14) = makes1tRXeh := by kernel_rfl
def makes1tR2o : T X := (.ret (.sc (.b (.lit true))))
set_option maxRecDepth 100000 in
theorem makes1tR2o_run : askF ⟨cfgL (ksR 1 true) (fun _ => []), l_R, [49,45,48,19,25]⟩ 3 ([cfgZ 1 true, iV 13, iV 2]) (onE ++ fR 1 true) = makes1tR2o := by kernel_rfl
def makes1tR11o : T X := (.ret (.sc (.b (.lit true))))
set_option maxRecDepth 100000 in
theorem makes1tR11o_run : askF ⟨cfgL (ksR 1 true) (fun _ => []), l_R, [49,45,48,19,25]⟩ 3 ([cfgZ 1 true, iV 13, iV 11]) (onE ++ fR 1 true) = makes1tR11o := by kernel_rfl
def makes1tRXoi : T X := (.ret (.sc (.b (.lit true))))
set_option maxRecDepth 100000 in
theorem makes1tRXoi_run : askF ⟨cfgL (ksR 1 true) (fun _ => []), l_R, [49,45,48,19,25]⟩ 3 ([cfgZ 1 true, iV 13, iV 14]) (onE ++ inR ++ fX 1 true 14) = makes1tRXoi := by kernel_rfl
def makes1tRXol : T X := (.ret (.sc (.b (.lit true))))
set_option maxRecDepth 100000 in
theorem makes1tRXol_run : askF ⟨cfgL (ksR 1 true) (fun _ => []), l_R, [49,45,48,19,25]⟩ 3 ([cfgZ 1 true, iV 13, iV 14]) (onE ++ lowR ++ fX 1 true 14) = makes1tRXol := by kernel_rfl
def makes1tRXoh : T X := (.ret (.sc (.b (.lit true))))
set_option maxRecDepth 100000 in
theorem makes1tRXoh_run : askF ⟨cfgL (ksR 1 true) (fun _ => []), l_R, [49,45,48,19,25]⟩ 3 ([cfgZ 1 true, iV 13, iV 14]) (onE ++ highR ++ fX 1 true 14) = makes1tRXoh := by kernel_rfl
def makes1fN : T X := (.ret (.sc (.b (.lit true))))
set_option maxRecDepth 100000 in
theorem makes1fN_run : askF ⟨cfgL (ksN 1 false) (fun _ => []), l_R, [49,45,48,19,25]⟩ 3 ([cfgN 1 false 0, iV 13, iV 14]) ([]) = makes1fN := by kernel_rfl
def makes1fR2e : T X := (.ret (.sc (.b (.lit true))))
set_option maxRecDepth 100000 in
theorem makes1fR2e_run : askF ⟨cfgL (ksR 1 false) (fun _ => []), l_R, [49,45,48,19,25]⟩ 3 ([cfgZ 1 false, iV 13, iV 2]) (endE ++ fR 1 false) = makes1fR2e := by kernel_rfl
def makes1fRXei : T X := (.ret (.sc (.b (.lit true))))
set_option maxRecDepth 100000 in
theorem makes1fRXei_run : askF ⟨cfgL (ksR 1 false) (fun _ => []), l_R, [49,45,48,19,25]⟩ 3 ([cfgZ 1 false, iV 13, iV 14]) (endE ++ inR ++ fX 1 false 14) = makes1fRXei := by kernel_rfl
def makes1fRXel : T X := (.ret (.sc (.b (.lit true))))
set_option maxRecDepth 100000 in
theorem makes1fRXel_run : askF ⟨cfgL (ksR 1 false) (fun _ => []), l_R, [49,45,48,19,25]⟩ 3 ([cfgZ 1 false, iV 13, iV 14]) (endE ++ lowR ++ fX 1 false 14) = makes1fRXel := by kernel_rfl
def makes1fRXeh : T X := (.ret (.sc (.b (.lit true))))
set_option maxRecDepth 100000 in
theorem makes1fRXeh_run : askF ⟨cfgL (ksR 1 false) (fun _ => []), l_R, [49,45,48,19,25]⟩ 3 ([cfgZ 1 false, iV 13, iV 14]) (endE ++ highR ++ fX 1 false 14) = makes1fRXeh := by kernel_rfl
def makes1fR2o : T X := (.ret (.sc (.b (.lit true))))
set_option maxRecDepth 100000 in
theorem makes1fR2o_run : askF ⟨cfgL (ksR 1 false) (fun _ => []), l_R, [49,45,48,19,25]⟩ 3 ([cfgZ 1 false, iV 13, iV 2]) (onE ++ fR 1 false) = makes1fR2o := by kernel_rfl
def makes1fRXoi : T X := (.ret (.sc (.b (.lit true))))
set_option maxRecDepth 100000 in
theorem makes1fRXoi_run : askF ⟨cfgL (ksR 1 false) (fun _ => []), l_R, [49,45,48,19,25]⟩ 3 ([cfgZ 1 false, iV 13, iV 14]) (onE ++ inR ++ fX 1 false 14) = makes1fRXoi := by kernel_rfl
def makes1fRXol : T X := (.ret (.sc (.b (.lit true))))
set_option maxRecDepth 100000 in
theorem makes1fRXol_run : askF ⟨cfgL (ksR 1 false) (fun _ => []), l_R, [49,45,48,19,25]⟩ 3 ([cfgZ 1 false, iV 13, iV 14]) (onE ++ lowR ++ fX 1 false 14) = makes1fRXol := by kernel_rfl
def makes1fRXoh : T X := (.ret (.sc (.b (.lit true))))
set_option maxRecDepth 100000 in
theorem makes1fRXoh_run : askF ⟨cfgL (ksR 1 false) (fun _ => []), l_R, [49,45,48,19,25]⟩ 3 ([cfgZ 1 false, iV 13, iV 14]) (onE ++ highR ++ fX 1 false 14) = makes1fRXoh := by kernel_rfl
def makes2tN : T X := (.ret (.sc (.b (.lit true))))
set_option maxRecDepth 100000 in
theorem makes2tN_run : askF ⟨cfgL (ksN 2 true) (fun _ => []), l_R, [49,45,48,19,25]⟩ 3 ([cfgN 2 true 0, iV 13, iV 14]) ([]) = makes2tN := by kernel_rfl
def makes2tR2e : T X := (.ret (.sc (.b (.lit true))))
set_option maxRecDepth 100000 in
theorem makes2tR2e_run : askF ⟨cfgL (ksR 2 true) (fun _ => []), l_R, [49,45,48,19,25]⟩ 3 ([cfgZ 2 true, iV 13, iV 2]) (endE ++ fR 2 true) = makes2tR2e := by kernel_rfl
def makes2tR4e : T X := (.ret (.sc (.b (.lit true))))
set_option maxRecDepth 100000 in
theorem makes2tR4e_run : askF ⟨cfgL (ksR 2 true) (fun _ => []), l_R, [49,45,48,19,25]⟩ 3 ([cfgZ 2 true, iV 13, iV 4]) (endE ++ fR 2 true) = makes2tR4e := by kernel_rfl
def makes2tR11e : T X := (.ret (.sc (.b (.lit true))))
set_option maxRecDepth 100000 in
theorem makes2tR11e_run : askF ⟨cfgL (ksR 2 true) (fun _ => []), l_R, [49,45,48,19,25]⟩ 3 ([cfgZ 2 true, iV 13, iV 11]) (endE ++ fR 2 true) = makes2tR11e := by kernel_rfl
def makes2tRXei : T X := (.ret (.sc (.b (.lit true))))
set_option maxRecDepth 100000 in
theorem makes2tRXei_run : askF ⟨cfgL (ksR 2 true) (fun _ => []), l_R, [49,45,48,19,25]⟩ 3 ([cfgZ 2 true, iV 13, iV 14]) (endE ++ inR ++ fX 2 true 14) = makes2tRXei := by kernel_rfl
def makes2tRXel : T X := (.ret (.sc (.b (.lit true))))
set_option maxRecDepth 100000 in
theorem makes2tRXel_run : askF ⟨cfgL (ksR 2 true) (fun _ => []), l_R, [49,45,48,19,25]⟩ 3 ([cfgZ 2 true, iV 13, iV 14]) (endE ++ lowR ++ fX 2 true 14) = makes2tRXel := by kernel_rfl
def makes2tRXeh : T X := (.ret (.sc (.b (.lit true))))
set_option maxRecDepth 100000 in
theorem makes2tRXeh_run : askF ⟨cfgL (ksR 2 true) (fun _ => []), l_R, [49,45,48,19,25]⟩ 3 ([cfgZ 2 true, iV 13, iV 14]) (endE ++ highR ++ fX 2 true 14) = makes2tRXeh := by kernel_rfl
def makes2tR2o : T X := (.ret (.sc (.b (.lit true))))
set_option maxRecDepth 100000 in
theorem makes2tR2o_run : askF ⟨cfgL (ksR 2 true) (fun _ => []), l_R, [49,45,48,19,25]⟩ 3 ([cfgZ 2 true, iV 13, iV 2]) (onE ++ fR 2 true) = makes2tR2o := by kernel_rfl
def makes2tR4o : T X := (.ret (.sc (.b (.lit true))))
set_option maxRecDepth 100000 in
theorem makes2tR4o_run : askF ⟨cfgL (ksR 2 true) (fun _ => []), l_R, [49,45,48,19,25]⟩ 3 ([cfgZ 2 true, iV 13, iV 4]) (onE ++ fR 2 true) = makes2tR4o := by kernel_rfl
def makes2tR11o : T X := (.ret (.sc (.b (.lit true))))
set_option maxRecDepth 100000 in
theorem makes2tR11o_run : askF ⟨cfgL (ksR 2 true) (fun _ => []), l_R, [49,45,48,19,25]⟩ 3 ([cfgZ 2 true, iV 13, iV 11]) (onE ++ fR 2 true) = makes2tR11o := by kernel_rfl
def makes2tRXoi : T X := (.ret (.sc (.b (.lit true))))
set_option maxRecDepth 100000 in
theorem makes2tRXoi_run : askF ⟨cfgL (ksR 2 true) (fun _ => []), l_R, [49,45,48,19,25]⟩ 3 ([cfgZ 2 true, iV 13, iV 14]) (onE ++ inR ++ fX 2 true 14) = makes2tRXoi := by kernel_rfl
def makes2tRXol : T X := (.ret (.sc (.b (.lit true))))
set_option maxRecDepth 100000 in
theorem makes2tRXol_run : askF ⟨cfgL (ksR 2 true) (fun _ => []), l_R, [49,45,48,19,25]⟩ 3 ([cfgZ 2 true, iV 13, iV 14]) (onE ++ lowR ++ fX 2 true 14) = makes2tRXol := by kernel_rfl
def makes2tRXoh : T X := (.ret (.sc (.b (.lit true))))
set_option maxRecDepth 100000 in
theorem makes2tRXoh_run : askF ⟨cfgL (ksR 2 true) (fun _ => []), l_R, [49,45,48,19,25]⟩ 3 ([cfgZ 2 true, iV 13, iV 14]) (onE ++ highR ++ fX 2 true 14) = makes2tRXoh := by kernel_rfl
def makes2fN : T X := (.ret (.sc (.b (.lit true))))
set_option maxRecDepth 100000 in
theorem makes2fN_run : askF ⟨cfgL (ksN 2 false) (fun _ => []), l_R, [49,45,48,19,25]⟩ 3 ([cfgN 2 false 0, iV 13, iV 14]) ([]) = makes2fN := by kernel_rfl
def makes2fR2e : T X := (.ret (.sc (.b (.lit true))))
set_option maxRecDepth 100000 in
theorem makes2fR2e_run : askF ⟨cfgL (ksR 2 false) (fun _ => []), l_R, [49,45,48,19,25]⟩ 3 ([cfgZ 2 false, iV 13, iV 2]) (endE ++ fR 2 false) = makes2fR2e := by kernel_rfl
def makes2fR4e : T X := (.ret (.sc (.b (.lit true))))
set_option maxRecDepth 100000 in
theorem makes2fR4e_run : askF ⟨cfgL (ksR 2 false) (fun _ => []), l_R, [49,45,48,19,25]⟩ 3 ([cfgZ 2 false, iV 13, iV 4]) (endE ++ fR 2 false) = makes2fR4e := by kernel_rfl
def makes2fRXei : T X := (.ret (.sc (.b (.lit true))))
set_option maxRecDepth 100000 in
theorem makes2fRXei_run : askF ⟨cfgL (ksR 2 false) (fun _ => []), l_R, [49,45,48,19,25]⟩ 3 ([cfgZ 2 false, iV 13, iV 14]) (endE ++ inR ++ fX 2 false 14) = makes2fRXei := by kernel_rfl
def makes2fRXel : T X := (.ret (.sc (.b (.lit true))))
set_option maxRecDepth 100000 in
theorem makes2fRXel_run : askF ⟨cfgL (ksR 2 false) (fun _ => []), l_R, [49,45,48,19,25]⟩ 3 ([cfgZ 2 false, iV 13, iV 14]) (endE ++ lowR ++ fX 2 false 14) = makes2fRXel := by kernel_rfl
def makes2fRXeh : T X := (.ret (.sc (.b (.lit true))))
set_option maxRecDepth 100000 in
theorem makes2fRXeh_run : askF ⟨cfgL (ksR 2 false) (fun _ => []), l_R, [49,45,48,19,25]⟩ 3 ([cfgZ 2 false, iV 13, iV 14]) (endE ++ highR ++ fX 2 false 14) = makes2fRXeh := by kernel_rfl
def makes2fR2o : T X := (.ret (.sc (.b (.lit true))))
set_option maxRecDepth 100000 in
theorem makes2fR2o_run : askF ⟨cfgL (ksR 2 false) (fun _ => []), l_R, [49,45,48,19,25]⟩ 3 ([cfgZ 2 false, iV 13, iV 2]) (onE ++ fR 2 false) = makes2fR2o := by kernel_rfl
def makes2fR4o : T X := (.ret (.sc (.b (.lit true))))
set_option maxRecDepth 100000 in
theorem makes2fR4o_run : askF ⟨cfgL (ksR 2 false) (fun _ => []), l_R, [49,45,48,19,25]⟩ 3 ([cfgZ 2 false, iV 13, iV 4]) (onE ++ fR 2 false) = makes2fR4o := by kernel_rfl
def makes2fRXoi : T X := (.ret (.sc (.b (.lit true))))
set_option maxRecDepth 100000 in
theorem makes2fRXoi_run : askF ⟨cfgL (ksR 2 false) (fun _ => []), l_R, [49,45,48,19,25]⟩ 3 ([cfgZ 2 false, iV 13, iV 14]) (onE ++ inR ++ fX 2 false 14) = makes2fRXoi := by kernel_rfl
def makes2fRXol : T X := (.ret (.sc (.b (.lit true))))
set_option maxRecDepth 100000 in
theorem makes2fRXol_run : askF ⟨cfgL (ksR 2 false) (fun _ => []), l_R, [49,45,48,19,25]⟩ 3 ([cfgZ 2 false, iV 13, iV 14]) (onE ++ lowR ++ fX 2 false 14) = makes2fRXol := by kernel_rfl
def makes2fRXoh : T X := (.ret (.sc (.b (.lit true))))
set_option maxRecDepth 100000 in
theorem makes2fRXoh_run : askF ⟨cfgL (ksR 2 false) (fun _ => []), l_R, [49,45,48,19,25]⟩ 3 ([cfgZ 2 false, iV 13, iV 14]) (onE ++ highR ++ fX 2 false 14) = makes2fRXoh := by kernel_rfl
def makes3tN : T X := (.ret (.sc (.b (.lit true))))
set_option maxRecDepth 100000 in
theorem makes3tN_run : askF ⟨cfgL (ksN 3 true) (fun _ => []), l_R, [49,45,48,19,25]⟩ 3 ([cfgN 3 true 0, iV 13, iV 14]) ([]) = makes3tN := by kernel_rfl
def makes3tR2e : T X := (.ret (.sc (.b (.lit true))))
set_option maxRecDepth 100000 in
theorem makes3tR2e_run : askF ⟨cfgL (ksR 3 true) (fun _ => []), l_R, [49,45,48,19,25]⟩ 3 ([cfgZ 3 true, iV 13, iV 2]) (endE ++ fR 3 true) = makes3tR2e := by kernel_rfl
def makes3tR4e : T X := (.ret (.sc (.b (.lit true))))
set_option maxRecDepth 100000 in
theorem makes3tR4e_run : askF ⟨cfgL (ksR 3 true) (fun _ => []), l_R, [49,45,48,19,25]⟩ 3 ([cfgZ 3 true, iV 13, iV 4]) (endE ++ fR 3 true) = makes3tR4e := by kernel_rfl
def makes3tR6e : T X := (.ret (.sc (.b (.lit true))))
set_option maxRecDepth 100000 in
theorem makes3tR6e_run : askF ⟨cfgL (ksR 3 true) (fun _ => []), l_R, [49,45,48,19,25]⟩ 3 ([cfgZ 3 true, iV 13, iV 6]) (endE ++ fR 3 true) = makes3tR6e := by kernel_rfl
def makes3tR11e : T X := (.ret (.sc (.b (.lit true))))
set_option maxRecDepth 100000 in
theorem makes3tR11e_run : askF ⟨cfgL (ksR 3 true) (fun _ => []), l_R, [49,45,48,19,25]⟩ 3 ([cfgZ 3 true, iV 13, iV 11]) (endE ++ fR 3 true) = makes3tR11e := by kernel_rfl
def makes3tRXei : T X := (.ret (.sc (.b (.lit true))))
set_option maxRecDepth 100000 in
theorem makes3tRXei_run : askF ⟨cfgL (ksR 3 true) (fun _ => []), l_R, [49,45,48,19,25]⟩ 3 ([cfgZ 3 true, iV 13, iV 14]) (endE ++ inR ++ fX 3 true 14) = makes3tRXei := by kernel_rfl
def makes3tRXel : T X := (.ret (.sc (.b (.lit true))))
set_option maxRecDepth 100000 in
theorem makes3tRXel_run : askF ⟨cfgL (ksR 3 true) (fun _ => []), l_R, [49,45,48,19,25]⟩ 3 ([cfgZ 3 true, iV 13, iV 14]) (endE ++ lowR ++ fX 3 true 14) = makes3tRXel := by kernel_rfl
def makes3tRXeh : T X := (.ret (.sc (.b (.lit true))))
set_option maxRecDepth 100000 in
theorem makes3tRXeh_run : askF ⟨cfgL (ksR 3 true) (fun _ => []), l_R, [49,45,48,19,25]⟩ 3 ([cfgZ 3 true, iV 13, iV 14]) (endE ++ highR ++ fX 3 true 14) = makes3tRXeh := by kernel_rfl
def makes3tR2o : T X := (.ret (.sc (.b (.lit true))))
set_option maxRecDepth 100000 in
theorem makes3tR2o_run : askF ⟨cfgL (ksR 3 true) (fun _ => []), l_R, [49,45,48,19,25]⟩ 3 ([cfgZ 3 true, iV 13, iV 2]) (onE ++ fR 3 true) = makes3tR2o := by kernel_rfl
def makes3tR4o : T X := (.ret (.sc (.b (.lit true))))
set_option maxRecDepth 100000 in
theorem makes3tR4o_run : askF ⟨cfgL (ksR 3 true) (fun _ => []), l_R, [49,45,48,19,25]⟩ 3 ([cfgZ 3 true, iV 13, iV 4]) (onE ++ fR 3 true) = makes3tR4o := by kernel_rfl
def makes3tR6o : T X := (.ret (.sc (.b (.lit true))))
set_option maxRecDepth 100000 in
theorem makes3tR6o_run : askF ⟨cfgL (ksR 3 true) (fun _ => []), l_R, [49,45,48,19,25]⟩ 3 ([cfgZ 3 true, iV 13, iV 6]) (onE ++ fR 3 true) = makes3tR6o := by kernel_rfl
def makes3tR11o : T X := (.ret (.sc (.b (.lit true))))
set_option maxRecDepth 100000 in
theorem makes3tR11o_run : askF ⟨cfgL (ksR 3 true) (fun _ => []), l_R, [49,45,48,19,25]⟩ 3 ([cfgZ 3 true, iV 13, iV 11]) (onE ++ fR 3 true) = makes3tR11o := by kernel_rfl
def makes3tRXoi : T X := (.ret (.sc (.b (.lit true))))
set_option maxRecDepth 100000 in
theorem makes3tRXoi_run : askF ⟨cfgL (ksR 3 true) (fun _ => []), l_R, [49,45,48,19,25]⟩ 3 ([cfgZ 3 true, iV 13, iV 14]) (onE ++ inR ++ fX 3 true 14) = makes3tRXoi := by kernel_rfl
def makes3tRXol : T X := (.ret (.sc (.b (.lit true))))
set_option maxRecDepth 100000 in
theorem makes3tRXol_run : askF ⟨cfgL (ksR 3 true) (fun _ => []), l_R, [49,45,48,19,25]⟩ 3 ([cfgZ 3 true, iV 13, iV 14]) (onE ++ lowR ++ fX 3 true 14) = makes3tRXol := by kernel_rfl
def makes3tRXoh : T X := (.ret (.sc (.b (.lit true))))
set_option maxRecDepth 100000 in
theorem makes3tRXoh_run : askF ⟨cfgL (ksR 3 true) (fun _ => []), l_R, [49,45,48,19,25]⟩ 3 ([cfgZ 3 true, iV 13, iV 14]) (onE ++ highR ++ fX 3 true 14) = makes3tRXoh := by kernel_rfl
def makes3fN : T X := (.ret (.sc (.b (.lit true))))
set_option maxRecDepth 100000 in
theorem makes3fN_run : askF ⟨cfgL (ksN 3 false) (fun _ => []), l_R, [49,45,48,19,25]⟩ 3 ([cfgN 3 false 0, iV 13, iV 14]) ([]) = makes3fN := by kernel_rfl
def makes3fR2e : T X := (.ret (.sc (.b (.lit true))))
set_option maxRecDepth 100000 in
theorem makes3fR2e_run : askF ⟨cfgL (ksR 3 false) (fun _ => []), l_R, [49,45,48,19,25]⟩ 3 ([cfgZ 3 false, iV 13, iV 2]) (endE ++ fR 3 false) = makes3fR2e := by kernel_rfl
def makes3fR4e : T X := (.ret (.sc (.b (.lit true))))
set_option maxRecDepth 100000 in
theorem makes3fR4e_run : askF ⟨cfgL (ksR 3 false) (fun _ => []), l_R, [49,45,48,19,25]⟩ 3 ([cfgZ 3 false, iV 13, iV 4]) (endE ++ fR 3 false) = makes3fR4e := by kernel_rfl
def makes3fR6e : T X := (.ret (.sc (.b (.lit true))))
set_option maxRecDepth 100000 in
theorem makes3fR6e_run : askF ⟨cfgL (ksR 3 false) (fun _ => []), l_R, [49,45,48,19,25]⟩ 3 ([cfgZ 3 false, iV 13, iV 6]) (endE ++ fR 3 false) = makes3fR6e := by kernel_rfl
def makes3fRXei : T X := (.ret (.sc (.b (.lit true))))
set_option maxRecDepth 100000 in
theorem makes3fRXei_run : askF ⟨cfgL (ksR 3 false) (fun _ => []), l_R, [49,45,48,19,25]⟩ 3 ([cfgZ 3 false, iV 13, iV 14]) (endE ++ inR ++ fX 3 false 14) = makes3fRXei := by kernel_rfl
def makes3fRXel : T X := (.ret (.sc (.b (.lit true))))
set_option maxRecDepth 100000 in
theorem makes3fRXel_run : askF ⟨cfgL (ksR 3 false) (fun _ => []), l_R, [49,45,48,19,25]⟩ 3 ([cfgZ 3 false, iV 13, iV 14]) (endE ++ lowR ++ fX 3 false 14) = makes3fRXel := by kernel_rfl
def makes3fRXeh : T X := (.ret (.sc (.b (.lit true))))
set_option maxRecDepth 100000 in
theorem makes3fRXeh_run : askF ⟨cfgL (ksR 3 false) (fun _ => []), l_R, [49,45,48,19,25]⟩ 3 ([cfgZ 3 false, iV 13, iV 14]) (endE ++ highR ++ fX 3 false 14) = makes3fRXeh := by kernel_rfl
def makes3fR2o : T X := (.ret (.sc (.b (.lit true))))
set_option maxRecDepth 100000 in
theorem makes3fR2o_run : askF ⟨cfgL (ksR 3 false) (fun _ => []), l_R, [49,45,48,19,25]⟩ 3 ([cfgZ 3 false, iV 13, iV 2]) (onE ++ fR 3 false) = makes3fR2o := by kernel_rfl
def makes3fR4o : T X := (.ret (.sc (.b (.lit true))))
set_option maxRecDepth 100000 in
theorem makes3fR4o_run : askF ⟨cfgL (ksR 3 false) (fun _ => []), l_R, [49,45,48,19,25]⟩ 3 ([cfgZ 3 false, iV 13, iV 4]) (onE ++ fR 3 false) = makes3fR4o := by kernel_rfl
def makes3fR6o : T X := (.ret (.sc (.b (.lit true))))
set_option maxRecDepth 100000 in
theorem makes3fR6o_run : askF ⟨cfgL (ksR 3 false) (fun _ => []), l_R, [49,45,48,19,25]⟩ 3 ([cfgZ 3 false, iV 13, iV 6]) (onE ++ fR 3 false) = makes3fR6o := by kernel_rfl
def makes3fRXoi : T X := (.ret (.sc (.b (.lit true))))
set_option maxRecDepth 100000 in
theorem makes3fRXoi_run : askF ⟨cfgL (ksR 3 false) (fun _ => []), l_R, [49,45,48,19,25]⟩ 3 ([cfgZ 3 false, iV 13, iV 14]) (onE ++ inR ++ fX 3 false 14) = makes3fRXoi := by kernel_rfl
def makes3fRXol : T X := (.ret (.sc (.b (.lit true))))
set_option maxRecDepth 100000 in
theorem makes3fRXol_run : askF ⟨cfgL (ksR 3 false) (fun _ => []), l_R, [49,45,48,19,25]⟩ 3 ([cfgZ 3 false, iV 13, iV 14]) (onE ++ lowR ++ fX 3 false 14) = makes3fRXol := by kernel_rfl
def makes3fRXoh : T X := (.ret (.sc (.b (.lit true))))
set_option maxRecDepth 100000 in
theorem makes3fRXoh_run : askF ⟨cfgL (ksR 3 false) (fun _ => []), l_R, [49,45,48,19,25]⟩ 3 ([cfgZ 3 false, iV 13, iV 14]) (onE ++ highR ++ fX 3 false 14) = makes3fRXoh := by kernel_rfl
def makes4tN : T X := (.ret (.sc (.b (.lit true))))
set_option maxRecDepth 100000 in
theorem makes4tN_run : askF ⟨cfgL (ksN 4 true) (fun _ => []), l_R, [49,45,48,19,25]⟩ 3 ([cfgN 4 true 0, iV 13, iV 14]) ([]) = makes4tN := by kernel_rfl
def makes4fN : T X := (.ret (.sc (.b (.lit true))))
set_option maxRecDepth 100000 in
theorem makes4fN_run : askF ⟨cfgL (ksN 4 false) (fun _ => []), l_R, [49,45,48,19,25]⟩ 3 ([cfgN 4 false 0, iV 13, iV 14]) ([]) = makes4fN := by kernel_rfl
def makes4fR2e : T X := (.ret (.sc (.b (.lit true))))
set_option maxRecDepth 100000 in
theorem makes4fR2e_run : askF ⟨cfgL (ksR 4 false) (fun _ => []), l_R, [49,45,48,19,25]⟩ 3 ([cfgZ 4 false, iV 13, iV 2]) (endE ++ fR 4 false) = makes4fR2e := by kernel_rfl
def makes4fR4e : T X := (.ret (.sc (.b (.lit true))))
set_option maxRecDepth 100000 in
theorem makes4fR4e_run : askF ⟨cfgL (ksR 4 false) (fun _ => []), l_R, [49,45,48,19,25]⟩ 3 ([cfgZ 4 false, iV 13, iV 4]) (endE ++ fR 4 false) = makes4fR4e := by kernel_rfl
def makes4fR6e : T X := (.ret (.sc (.b (.lit true))))
set_option maxRecDepth 100000 in
theorem makes4fR6e_run : askF ⟨cfgL (ksR 4 false) (fun _ => []), l_R, [49,45,48,19,25]⟩ 3 ([cfgZ 4 false, iV 13, iV 6]) (endE ++ fR 4 false) = makes4fR6e := by kernel_rfl
def makes4fR8e : T X := (.ret (.sc (.b (.lit true))))
set_option maxRecDepth 100000 in
theorem makes4fR8e_run : askF ⟨cfgL (ksR 4 false) (fun _ => []), l_R, [49,45,48,19,25]⟩ 3 ([cfgZ 4 false, iV 13, iV 8]) (endE ++ fR 4 false) = makes4fR8e := by kernel_rfl
def makes4fRXei : T X := (.ret (.sc (.b (.lit true))))
set_option maxRecDepth 100000 in
theorem makes4fRXei_run : askF ⟨cfgL (ksR 4 false) (fun _ => []), l_R, [49,45,48,19,25]⟩ 3 ([cfgZ 4 false, iV 13, iV 14]) (endE ++ inR ++ fX 4 false 14) = makes4fRXei := by kernel_rfl
def makes4fRXel : T X := (.ret (.sc (.b (.lit true))))
set_option maxRecDepth 100000 in
theorem makes4fRXel_run : askF ⟨cfgL (ksR 4 false) (fun _ => []), l_R, [49,45,48,19,25]⟩ 3 ([cfgZ 4 false, iV 13, iV 14]) (endE ++ lowR ++ fX 4 false 14) = makes4fRXel := by kernel_rfl
def makes4fRXeh : T X := (.ret (.sc (.b (.lit true))))
set_option maxRecDepth 100000 in
theorem makes4fRXeh_run : askF ⟨cfgL (ksR 4 false) (fun _ => []), l_R, [49,45,48,19,25]⟩ 3 ([cfgZ 4 false, iV 13, iV 14]) (endE ++ highR ++ fX 4 false 14) = makes4fRXeh := by kernel_rfl
def makes4fR2o : T X := (.ret (.sc (.b (.lit true))))
set_option maxRecDepth 100000 in
theorem makes4fR2o_run : askF ⟨cfgL (ksR 4 false) (fun _ => []), l_R, [49,45,48,19,25]⟩ 3 ([cfgZ 4 false, iV 13, iV 2]) (onE ++ fR 4 false) = makes4fR2o := by kernel_rfl
def makes4fR4o : T X := (.ret (.sc (.b (.lit true))))
set_option maxRecDepth 100000 in
theorem makes4fR4o_run : askF ⟨cfgL (ksR 4 false) (fun _ => []), l_R, [49,45,48,19,25]⟩ 3 ([cfgZ 4 false, iV 13, iV 4]) (onE ++ fR 4 false) = makes4fR4o := by kernel_rfl
def makes4fR6o : T X := (.ret (.sc (.b (.lit true))))
set_option maxRecDepth 100000 in
theorem makes4fR6o_run : askF ⟨cfgL (ksR 4 false) (fun _ => []), l_R, [49,45,48,19,25]⟩ 3 ([cfgZ 4 false, iV 13, iV 6]) (onE ++ fR 4 false) = makes4fR6o := by kernel_rfl
def makes4fR8o : T X := (.ret (.sc (.b (.lit true))))
set_option maxRecDepth 100000 in
theorem makes4fR8o_run : askF ⟨cfgL (ksR 4 false) (fun _ => []), l_R, [49,45,48,19,25]⟩ 3 ([cfgZ 4 false, iV 13, iV 8]) (onE ++ fR 4 false) = makes4fR8o := by kernel_rfl
def makes4fRXoi : T X := (.ret (.sc (.b (.lit true))))
set_option maxRecDepth 100000 in
theorem makes4fRXoi_run : askF ⟨cfgL (ksR 4 false) (fun _ => []), l_R, [49,45,48,19,25]⟩ 3 ([cfgZ 4 false, iV 13, iV 14]) (onE ++ inR ++ fX 4 false 14) = makes4fRXoi := by kernel_rfl
def makes4fRXol : T X := (.ret (.sc (.b (.lit true))))
set_option maxRecDepth 100000 in
theorem makes4fRXol_run : askF ⟨cfgL (ksR 4 false) (fun _ => []), l_R, [49,45,48,19,25]⟩ 3 ([cfgZ 4 false, iV 13, iV 14]) (onE ++ lowR ++ fX 4 false 14) = makes4fRXol := by kernel_rfl
def makes4fRXoh : T X := (.ret (.sc (.b (.lit true))))
set_option maxRecDepth 100000 in
theorem makes4fRXoh_run : askF ⟨cfgL (ksR 4 false) (fun _ => []), l_R, [49,45,48,19,25]⟩ 3 ([cfgZ 4 false, iV 13, iV 14]) (onE ++ highR ++ fX 4 false 14) = makes4fRXoh := by kernel_rfl
def makes0 : T X := (.ret (.sc (.b (.lit true))))
set_option maxRecDepth 100000 in
theorem makes0_run : askF ⟨cfg [], l_R, [49,45,48,19,25]⟩ 3 ([cfgV 0, iV 13, iV 14]) (f0) = makes0 := by kernel_rfl
def makes5 : T X := (.ret (.sc (.b (.lit true))))
set_option maxRecDepth 100000 in
theorem makes5_run : askF ⟨cfg [], l_R, [49,45,48,19,25]⟩ 3 ([cfgV 0, iV 13, iV 14]) (f5) = makes5 := by kernel_rfl
end Go.Proofs.Ytjgimdheiflinaa
