/- What functions answer, run over letters, where something is known; each shown by running it. -/
import Derived.Test.YtjgimdheiflinaaXT
import Derived.Test.YtjgimdheiflinaaXQ
import Derived.Test.YtjgimdheiflinaaXwM2
namespace Go.Proofs.Ytjgimdheiflinaa
open Go Go.Proofs.Aw Go.Proofs.Xw

def round1tN : T X := (.ret (.sc (.b (.lit true))))
set_option maxRecDepth 100000 in
theorem round1tN_run : askF ⟨cfgL (ksN 1 true) (fun _ => []), l_R, [49,45,48,19,25]⟩ 4 ([cfgN 1 true 0, iV 13]) ([]) = round1tN := by kernel_rfl
def round1tR : T X := (.ret (.sc (.b (.lit true))))
set_option maxRecDepth 100000 in
theorem round1tR_run : askF ⟨cfgL (ksR 1 true) (fun _ => []), l_R, [49,45,48,19,25]⟩ 4 ([cfgZ 1 true, iV 13]) (fR 1 true) = round1tR := by kernel_rfl
def round1fN : T X := (.ret (.sc (.b (.lit true))))
set_option maxRecDepth 100000 in
theorem round1fN_run : askF ⟨cfgL (ksN 1 false) (fun _ => []), l_R, [49,45,48,19,25]⟩ 4 ([cfgN 1 false 0, iV 13]) ([]) = round1fN := by kernel_rfl
def round1fR : T X := (.ret (.sc (.b (.lit true))))
set_option maxRecDepth 100000 in
theorem round1fR_run : askF ⟨cfgL (ksR 1 false) (fun _ => []), l_R, [49,45,48,19,25]⟩ 4 ([cfgZ 1 false, iV 13]) (fR 1 false) = round1fR := by kernel_rfl
def round2tN : T X := (.ret (.sc (.b (.lit true))))
set_option maxRecDepth 100000 in
theorem round2tN_run : askF ⟨cfgL (ksN 2 true) (fun _ => []), l_R, [49,45,48,19,25]⟩ 4 ([cfgN 2 true 0, iV 13]) ([]) = round2tN := by kernel_rfl
def round2tR : T X := (.ret (.sc (.b (.lit true))))
set_option maxRecDepth 100000 in
theorem round2tR_run : askF ⟨cfgL (ksR 2 true) (fun _ => []), l_R, [49,45,48,19,25]⟩ 4 ([cfgZ 2 true, iV 13]) (fR 2 true) = round2tR := by kernel_rfl
def round2fN : T X := (.ret (.sc (.b (.lit true))))
set_option maxRecDepth 100000 in
theorem round2fN_run : askF ⟨cfgL (ksN 2 false) (fun _ => []), l_R, [49,45,48,19,25]⟩ 4 ([cfgN 2 false 0, iV 13]) ([]) = round2fN := by kernel_rfl
def round2fR2b : T X := (.ret (.sc (.b (.lit true))))
set_option maxRecDepth 100000 in
theorem round2fR2b_run : askF ⟨cfgL (ksR 2 false) (fun _ => []), l_R, [49,45,48,19,25]⟩ 4 ([cfgZ 2 false, iV 2]) (bigE ++ fR 2 false) = round2fR2b := by kernel_rfl
def round2fR4b : T X := (.ret (.sc (.b (.lit true))))
set_option maxRecDepth 100000 in
theorem round2fR4b_run : askF ⟨cfgL (ksR 2 false) (fun _ => []), l_R, [49,45,48,19,25]⟩ 4 ([cfgZ 2 false, iV 4]) (bigE ++ fR 2 false) = round2fR4b := by kernel_rfl
def round2fRXb : T X := (.ret (.sc (.b (.lit true))))
set_option maxRecDepth 100000 in
theorem round2fRXb_run : askF ⟨cfgL (ksR 2 false) (fun _ => []), l_R, [49,45,48,19,25]⟩ 4 ([cfgZ 2 false, iV 13]) (bigE ++ fX 2 false 13) = round2fRXb := by kernel_rfl
def round2fR2s : T X := (.ret (.sc (.b (.lit true))))
set_option maxRecDepth 100000 in
theorem round2fR2s_run : askF ⟨cfgL (ksR 2 false) (fun _ => []), l_R, [49,45,48,19,25]⟩ 4 ([cfgZ 2 false, iV 2]) (smE ++ fR 2 false) = round2fR2s := by kernel_rfl
def round2fR4s : T X := (.ret (.sc (.b (.lit true))))
set_option maxRecDepth 100000 in
theorem round2fR4s_run : askF ⟨cfgL (ksR 2 false) (fun _ => []), l_R, [49,45,48,19,25]⟩ 4 ([cfgZ 2 false, iV 4]) (smE ++ fR 2 false) = round2fR4s := by kernel_rfl
def round2fRXs : T X := (.ret (.sc (.b (.lit true))))
set_option maxRecDepth 100000 in
theorem round2fRXs_run : askF ⟨cfgL (ksR 2 false) (fun _ => []), l_R, [49,45,48,19,25]⟩ 4 ([cfgZ 2 false, iV 13]) (smE ++ fX 2 false 13) = round2fRXs := by kernel_rfl
def round3tN : T X := (.ret (.sc (.b (.lit true))))
set_option maxRecDepth 100000 in
theorem round3tN_run : askF ⟨cfgL (ksN 3 true) (fun _ => []), l_R, [49,45,48,19,25]⟩ 4 ([cfgN 3 true 0, iV 13]) ([]) = round3tN := by kernel_rfl
def round3tR : T X := (.ret (.sc (.b (.lit true))))
set_option maxRecDepth 100000 in
theorem round3tR_run : askF ⟨cfgL (ksR 3 true) (fun _ => []), l_R, [49,45,48,19,25]⟩ 4 ([cfgZ 3 true, iV 13]) (fR 3 true) = round3tR := by kernel_rfl
def round3fN : T X := (.ret (.sc (.b (.lit true))))
set_option maxRecDepth 100000 in
theorem round3fN_run : askF ⟨cfgL (ksN 3 false) (fun _ => []), l_R, [49,45,48,19,25]⟩ 4 ([cfgN 3 false 0, iV 13]) ([]) = round3fN := by kernel_rfl
def round3fR2b : T X := (.ret (.sc (.b (.lit true))))
set_option maxRecDepth 100000 in
theorem round3fR2b_run : askF ⟨cfgL (ksR 3 false) (fun _ => []), l_R, [49,45,48,19,25]⟩ 4 ([cfgZ 3 false, iV 2]) (bigE ++ fR 3 false) = round3fR2b := by kernel_rfl
def round3fR4b : T X := (.ret (.sc (.b (.lit true))))
set_option maxRecDepth 100000 in
theorem round3fR4b_run : askF ⟨cfgL (ksR 3 false) (fun _ => []), l_R, [49,45,48,19,25]⟩ 4 ([cfgZ 3 false, iV 4]) (bigE ++ fR 3 false) = round3fR4b := by kernel_rfl
def round3fR6b : T X := (.ret (.sc (.b (.lit true))))
set_option maxRecDepth 100000 in
theorem round3fR6b_run : askF ⟨cfgL (ksR 3 false) (fun _ => []), l_R, [49,45,48,19,25]⟩ 4 ([cfgZ 3 false, iV 6]) (bigE ++ fR 3 false) = round3fR6b := by kernel_rfl
def round3fRXb : T X := (.ret (.sc (.b (.lit true))))
set_option maxRecDepth 100000 in
theorem round3fRXb_run : askF ⟨cfgL (ksR 3 false) (fun _ => []), l_R, [49,45,48,19,25]⟩ 4 ([cfgZ 3 false, iV 13]) (bigE ++ fX 3 false 13) = round3fRXb := by kernel_rfl
def round3fR2s : T X := (.ret (.sc (.b (.lit true))))
set_option maxRecDepth 100000 in
theorem round3fR2s_run : askF ⟨cfgL (ksR 3 false) (fun _ => []), l_R, [49,45,48,19,25]⟩ 4 ([cfgZ 3 false, iV 2]) (smE ++ fR 3 false) = round3fR2s := by kernel_rfl
def round3fR4s : T X := (.ret (.sc (.b (.lit true))))
set_option maxRecDepth 100000 in
theorem round3fR4s_run : askF ⟨cfgL (ksR 3 false) (fun _ => []), l_R, [49,45,48,19,25]⟩ 4 ([cfgZ 3 false, iV 4]) (smE ++ fR 3 false) = round3fR4s := by kernel_rfl
def round3fR6s : T X := (.ret (.sc (.b (.lit true))))
set_option maxRecDepth 100000 in
theorem round3fR6s_run : askF ⟨cfgL (ksR 3 false) (fun _ => []), l_R, [49,45,48,19,25]⟩ 4 ([cfgZ 3 false, iV 6]) (smE ++ fR 3 false) = round3fR6s := by kernel_rfl
def round3fRXs : T X := (.ret (.sc (.b (.lit true))))
set_option maxRecDepth 100000 in
theorem round3fRXs_run : askF ⟨cfgL (ksR 3 false) (fun _ => []), l_R, [49,45,48,19,25]⟩ 4 ([cfgZ 3 false, iV 13]) (smE ++ fX 3 false 13) = round3fRXs := by kernel_rfl
def round4tN : T X := (.ret (.sc (.b (.lit true))))
set_option maxRecDepth 100000 in
theorem round4tN_run : askF ⟨cfgL (ksN 4 true) (fun _ => []), l_R, [49,45,48,19,25]⟩ 4 ([cfgN 4 true 0, iV 13]) ([]) = round4tN := by kernel_rfl
def round4fN : T X := (.ret (.sc (.b (.lit true))))
set_option maxRecDepth 100000 in
theorem round4fN_run : askF ⟨cfgL (ksN 4 false) (fun _ => []), l_R, [49,45,48,19,25]⟩ 4 ([cfgN 4 false 0, iV 13]) ([]) = round4fN := by kernel_rfl
def round4fR2b : T X := (.ret (.sc (.b (.lit true))))
set_option maxRecDepth 100000 in
theorem round4fR2b_run : askF ⟨cfgL (ksR 4 false) (fun _ => []), l_R, [49,45,48,19,25]⟩ 4 ([cfgZ 4 false, iV 2]) (bigE ++ fR 4 false) = round4fR2b := by kernel_rfl
def round4fR4b : T X := (.ret (.sc (.b (.lit true))))
set_option maxRecDepth 100000 in
theorem round4fR4b_run : askF ⟨cfgL (ksR 4 false) (fun _ => []), l_R, [49,45,48,19,25]⟩ 4 ([cfgZ 4 false, iV 4]) (bigE ++ fR 4 false) = round4fR4b := by kernel_rfl
def round4fR6b : T X := (.ret (.sc (.b (.lit true))))
set_option maxRecDepth 100000 in
theorem round4fR6b_run : askF ⟨cfgL (ksR 4 false) (fun _ => []), l_R, [49,45,48,19,25]⟩ 4 ([cfgZ 4 false, iV 6]) (bigE ++ fR 4 false) = round4fR6b := by kernel_rfl
def round4fR8b : T X := (.ret (.sc (.b (.lit true))))
set_option maxRecDepth 100000 in
theorem round4fR8b_run : askF ⟨cfgL (ksR 4 false) (fun _ => []), l_R, [49,45,48,19,25]⟩ 4 ([cfgZ 4 false, iV 8]) (bigE ++ fR 4 false) = round4fR8b := by kernel_rfl
def round4fRXb : T X := (.ret (.sc (.b (.lit true))))
set_option maxRecDepth 100000 in
theorem round4fRXb_run : askF ⟨cfgL (ksR 4 false) (fun _ => []), l_R, [49,45,48,19,25]⟩ 4 ([cfgZ 4 false, iV 13]) (bigE ++ fX 4 false 13) = round4fRXb := by kernel_rfl
def round4fR2s : T X := (.ret (.sc (.b (.lit true))))
set_option maxRecDepth 100000 in
theorem round4fR2s_run : askF ⟨cfgL (ksR 4 false) (fun _ => []), l_R, [49,45,48,19,25]⟩ 4 ([cfgZ 4 false, iV 2]) (smE ++ fR 4 false) = round4fR2s := by kernel_rfl
def round4fR4s : T X := (.ret (.sc (.b (.lit true))))
set_option maxRecDepth 100000 in
theorem round4fR4s_run : askF ⟨cfgL (ksR 4 false) (fun _ => []), l_R, [49,45,48,19,25]⟩ 4 ([cfgZ 4 false, iV 4]) (smE ++ fR 4 false) = round4fR4s := by kernel_rfl
def round4fR6s : T X := (.ret (.sc (.b (.lit true))))
set_option maxRecDepth 100000 in
theorem round4fR6s_run : askF ⟨cfgL (ksR 4 false) (fun _ => []), l_R, [49,45,48,19,25]⟩ 4 ([cfgZ 4 false, iV 6]) (smE ++ fR 4 false) = round4fR6s := by kernel_rfl
def round4fR8s : T X := (.ret (.sc (.b (.lit true))))
set_option maxRecDepth 100000 in
theorem round4fR8s_run : askF ⟨cfgL (ksR 4 false) (fun _ => []), l_R, [49,45,48,19,25]⟩ 4 ([cfgZ 4 false, iV 8]) (smE ++ fR 4 false) = round4fR8s := by kernel_rfl
def round4fRXs : T X := (.ret (.sc (.b (.lit true))))
set_option maxRecDepth 100000 in
theorem round4fRXs_run : askF ⟨cfgL (ksR 4 false) (fun _ => []), l_R, [49,45,48,19,25]⟩ 4 ([cfgZ 4 false, iV 13]) (smE ++ fX 4 false 13) = round4fRXs := by kernel_rfl
def round0 : T X := (.ret (.sc (.b (.lit true))))
set_option maxRecDepth 100000 in
theorem round0_run : askF ⟨cfg [], l_R, [49,45,48,19,25]⟩ 4 ([cfgV 0, iV 13]) (f0) = round0 := by kernel_rfl
def round5 : T X := (.ret (.sc (.b (.lit true))))
set_option maxRecDepth 100000 in
theorem round5_run : askF ⟨cfg [], l_R, [49,45,48,19,25]⟩ 4 ([cfgV 0, iV 13]) (f5) = round5 := by kernel_rfl
end Go.Proofs.Ytjgimdheiflinaa
