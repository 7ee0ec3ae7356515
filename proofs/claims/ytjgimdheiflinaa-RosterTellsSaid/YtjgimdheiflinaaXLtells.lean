/- What functions answer, run over letters, where something is known; each shown by running it. -/
import Derived.Test.YtjgimdheiflinaaXT
import Derived.Test.YtjgimdheiflinaaXQ
import Derived.Test.YtjgimdheiflinaaXwM2
namespace Go.Proofs.Ytjgimdheiflinaa
open Go Go.Proofs.Aw Go.Proofs.Xw

def tells1tN : T X := (.ret (.sc (.b (.lit true))))
set_option maxRecDepth 100000 in
theorem tells1tN_run : askF ⟨cfgL (ksN 1 true) (fun _ => []), l_R, [49,45,48,19,25]⟩ 6 ([cfgN 1 true 0, iV 13]) ([]) = tells1tN := by kernel_rfl
def tells1tR2 : T X := (.ret (.sc (.b (.lit true))))
set_option maxRecDepth 100000 in
theorem tells1tR2_run : askF ⟨cfgL (ksR 1 true) (fun _ => []), l_R, [49,45,48,19,25]⟩ 6 ([cfgZ 1 true, iV 2]) (fR 1 true) = tells1tR2 := by kernel_rfl
def tells1tR11 : T X := (.ret (.sc (.b (.lit true))))
set_option maxRecDepth 100000 in
theorem tells1tR11_run : askF ⟨cfgL (ksR 1 true) (fun _ => []), l_R, [49,45,48,19,25]⟩ 6 ([cfgZ 1 true, iV 11]) (fR 1 true) = tells1tR11 := by kernel_rfl
def tells1tRX : T X := (.ret (.sc (.b (.lit true))))
set_option maxRecDepth 100000 in
theorem tells1tRX_run : askF ⟨cfgL (ksR 1 true) (fun _ => []), l_R, [49,45,48,19,25]⟩ 6 ([cfgZ 1 true, iV 13]) (fX 1 true 13) = tells1tRX := by kernel_rfl
def tells1fN : T X := (.ret (.sc (.b (.lit true))))
set_option maxRecDepth 100000 in
theorem tells1fN_run : askF ⟨cfgL (ksN 1 false) (fun _ => []), l_R, [49,45,48,19,25]⟩ 6 ([cfgN 1 false 0, iV 13]) ([]) = tells1fN := by kernel_rfl
def tells1fR2 : T X := (.ret (.sc (.b (.lit true))))
set_option maxRecDepth 100000 in
theorem tells1fR2_run : askF ⟨cfgL (ksR 1 false) (fun _ => []), l_R, [49,45,48,19,25]⟩ 6 ([cfgZ 1 false, iV 2]) (fR 1 false) = tells1fR2 := by kernel_rfl
def tells1fRX : T X := (.ret (.sc (.b (.lit true))))
set_option maxRecDepth 100000 in
theorem tells1fRX_run : askF ⟨cfgL (ksR 1 false) (fun _ => []), l_R, [49,45,48,19,25]⟩ 6 ([cfgZ 1 false, iV 13]) (fX 1 false 13) = tells1fRX := by kernel_rfl
def tells2tN : T X := (.ret (.sc (.b (.lit true))))
set_option maxRecDepth 100000 in
theorem tells2tN_run : askF ⟨cfgL (ksN 2 true) (fun _ => []), l_R, [49,45,48,19,25]⟩ 6 ([cfgN 2 true 0, iV 13]) ([]) = tells2tN := by kernel_rfl
def tells2tR2 : T X := (.ret (.sc (.b (.lit true))))
set_option maxRecDepth 100000 in
theorem tells2tR2_run : askF ⟨cfgL (ksR 2 true) (fun _ => []), l_R, [49,45,48,19,25]⟩ 6 ([cfgZ 2 true, iV 2]) (fR 2 true) = tells2tR2 := by kernel_rfl
def tells2tR4 : T X := (.ret (.sc (.b (.lit true))))
set_option maxRecDepth 100000 in
theorem tells2tR4_run : askF ⟨cfgL (ksR 2 true) (fun _ => []), l_R, [49,45,48,19,25]⟩ 6 ([cfgZ 2 true, iV 4]) (fR 2 true) = tells2tR4 := by kernel_rfl
def tells2tR11 : T X := (.ret (.sc (.b (.lit true))))
set_option maxRecDepth 100000 in
theorem tells2tR11_run : askF ⟨cfgL (ksR 2 true) (fun _ => []), l_R, [49,45,48,19,25]⟩ 6 ([cfgZ 2 true, iV 11]) (fR 2 true) = tells2tR11 := by kernel_rfl
def tells2tRX : T X := (.ret (.sc (.b (.lit true))))
set_option maxRecDepth 100000 in
theorem tells2tRX_run : askF ⟨cfgL (ksR 2 true) (fun _ => []), l_R, [49,45,48,19,25]⟩ 6 ([cfgZ 2 true, iV 13]) (fX 2 true 13) = tells2tRX := by kernel_rfl
def tells2fN : T X := (.ret (.sc (.b (.lit true))))
set_option maxRecDepth 100000 in
theorem tells2fN_run : askF ⟨cfgL (ksN 2 false) (fun _ => []), l_R, [49,45,48,19,25]⟩ 6 ([cfgN 2 false 0, iV 13]) ([]) = tells2fN := by kernel_rfl
def tells2fR2 : T X := (.ret (.sc (.b (.lit true))))
set_option maxRecDepth 100000 in
theorem tells2fR2_run : askF ⟨cfgL (ksR 2 false) (fun _ => []), l_R, [49,45,48,19,25]⟩ 6 ([cfgZ 2 false, iV 2]) (fR 2 false) = tells2fR2 := by kernel_rfl
def tells2fR4 : T X := (.ret (.sc (.b (.lit true))))
set_option maxRecDepth 100000 in
theorem tells2fR4_run : askF ⟨cfgL (ksR 2 false) (fun _ => []), l_R, [49,45,48,19,25]⟩ 6 ([cfgZ 2 false, iV 4]) (fR 2 false) = tells2fR4 := by kernel_rfl
def tells2fRX : T X := (.ret (.sc (.b (.lit true))))
set_option maxRecDepth 100000 in
theorem tells2fRX_run : askF ⟨cfgL (ksR 2 false) (fun _ => []), l_R, [49,45,48,19,25]⟩ 6 ([cfgZ 2 false, iV 13]) (fX 2 false 13) = tells2fRX := by kernel_rfl
def tells3tN : T X := (.ret (.sc (.b (.lit true))))
set_option maxRecDepth 100000 in
theorem tells3tN_run : askF ⟨cfgL (ksN 3 true) (fun _ => []), l_R, [49,45,48,19,25]⟩ 6 ([cfgN 3 true 0, iV 13]) ([]) = tells3tN := by kernel_rfl
def tells3tR2 : T X := (.ret (.sc (.b (.lit true))))
set_option maxRecDepth 100000 in
theorem tells3tR2_run : askF ⟨cfgL (ksR 3 true) (fun _ => []), l_R, [49,45,48,19,25]⟩ 6 ([cfgZ 3 true, iV 2]) (fR 3 true) = tells3tR2 := by kernel_rfl
def tells3tR4 : T X := (.ret (.sc (.b (.lit true))))
set_option maxRecDepth 100000 in
theorem tells3tR4_run : askF ⟨cfgL (ksR 3 true) (fun _ => []), l_R, [49,45,48,19,25]⟩ 6 ([cfgZ 3 true, iV 4]) (fR 3 true) = tells3tR4 := by kernel_rfl
def tells3tR6 : T X := (.ret (.sc (.b (.lit true))))
set_option maxRecDepth 100000 in
theorem tells3tR6_run : askF ⟨cfgL (ksR 3 true) (fun _ => []), l_R, [49,45,48,19,25]⟩ 6 ([cfgZ 3 true, iV 6]) (fR 3 true) = tells3tR6 := by kernel_rfl
def tells3tR11 : T X := (.ret (.sc (.b (.lit true))))
set_option maxRecDepth 100000 in
theorem tells3tR11_run : askF ⟨cfgL (ksR 3 true) (fun _ => []), l_R, [49,45,48,19,25]⟩ 6 ([cfgZ 3 true, iV 11]) (fR 3 true) = tells3tR11 := by kernel_rfl
def tells3tRX : T X := (.ret (.sc (.b (.lit true))))
set_option maxRecDepth 100000 in
theorem tells3tRX_run : askF ⟨cfgL (ksR 3 true) (fun _ => []), l_R, [49,45,48,19,25]⟩ 6 ([cfgZ 3 true, iV 13]) (fX 3 true 13) = tells3tRX := by kernel_rfl
def tells3fN : T X := (.ret (.sc (.b (.lit true))))
set_option maxRecDepth 100000 in
theorem tells3fN_run : askF ⟨cfgL (ksN 3 false) (fun _ => []), l_R, [49,45,48,19,25]⟩ 6 ([cfgN 3 false 0, iV 13]) ([]) = tells3fN := by kernel_rfl
def tells3fR2 : T X := (.ret (.sc (.b (.lit true))))
set_option maxRecDepth 100000 in
theorem tells3fR2_run : askF ⟨cfgL (ksR 3 false) (fun _ => []), l_R, [49,45,48,19,25]⟩ 6 ([cfgZ 3 false, iV 2]) (fR 3 false) = tells3fR2 := by kernel_rfl
def tells3fR4 : T X := (.ret (.sc (.b (.lit true))))
set_option maxRecDepth 100000 in
theorem tells3fR4_run : askF ⟨cfgL (ksR 3 false) (fun _ => []), l_R, [49,45,48,19,25]⟩ 6 ([cfgZ 3 false, iV 4]) (fR 3 false) = tells3fR4 := by kernel_rfl
def tells3fR6 : T X := (.ret (.sc (.b (.lit true))))
set_option maxRecDepth 100000 in
theorem tells3fR6_run : askF ⟨cfgL (ksR 3 false) (fun _ => []), l_R, [49,45,48,19,25]⟩ 6 ([cfgZ 3 false, iV 6]) (fR 3 false) = tells3fR6 := by kernel_rfl
def tells3fRX : T X := (.ret (.sc (.b (.lit true))))
set_option maxRecDepth 100000 in
theorem tells3fRX_run : askF ⟨cfgL (ksR 3 false) (fun _ => []), l_R, [49,45,48,19,25]⟩ 6 ([cfgZ 3 false, iV 13]) (fX 3 false 13) = tells3fRX := by kernel_rfl
def tells4tN : T X := (.ret (.sc (.b (.lit true))))
set_option maxRecDepth 100000 in
theorem tells4tN_run : askF ⟨cfgL (ksN 4 true) (fun _ => []), l_R, [49,45,48,19,25]⟩ 6 ([cfgN 4 true 0, iV 13]) ([]) = tells4tN := by kernel_rfl
def tells4fN : T X := (.ret (.sc (.b (.lit true))))
set_option maxRecDepth 100000 in
theorem tells4fN_run : askF ⟨cfgL (ksN 4 false) (fun _ => []), l_R, [49,45,48,19,25]⟩ 6 ([cfgN 4 false 0, iV 13]) ([]) = tells4fN := by kernel_rfl
def tells4fR2 : T X := (.ret (.sc (.b (.lit true))))
set_option maxRecDepth 100000 in
theorem tells4fR2_run : askF ⟨cfgL (ksR 4 false) (fun _ => []), l_R, [49,45,48,19,25]⟩ 6 ([cfgZ 4 false, iV 2]) (fR 4 false) = tells4fR2 := by kernel_rfl
def tells4fR4 : T X := (.ret (.sc (.b (.lit true))))
set_option maxRecDepth 100000 in
theorem tells4fR4_run : askF ⟨cfgL (ksR 4 false) (fun _ => []), l_R, [49,45,48,19,25]⟩ 6 ([cfgZ 4 false, iV 4]) (fR 4 false) = tells4fR4 := by kernel_rfl
def tells4fR6 : T X := (.ret (.sc (.b (.lit true))))
set_option maxRecDepth 100000 in
theorem tells4fR6_run : askF ⟨cfgL (ksR 4 false) (fun _ => []), l_R, [49,45,48,19,25]⟩ 6 ([cfgZ 4 false, iV 6]) (fR 4 false) = tells4fR6 := by kernel_rfl
def tells4fR8 : T X := (.ret (.sc (.b (.lit true))))
set_option maxRecDepth 100000 in
theorem tells4fR8_run : askF ⟨cfgL (ksR 4 false) (fun _ => []), l_R, [49,45,48,19,25]⟩ 6 ([cfgZ 4 false, iV 8]) (fR 4 false) = tells4fR8 := by kernel_rfl
def tells4fRX : T X := (.ret (.sc (.b (.lit true))))
set_option maxRecDepth 100000 in
theorem tells4fRX_run : askF ⟨cfgL (ksR 4 false) (fun _ => []), l_R, [49,45,48,19,25]⟩ 6 ([cfgZ 4 false, iV 13]) (fX 4 false 13) = tells4fRX := by kernel_rfl
def tells0 : T X := (.ret (.sc (.b (.lit true))))
set_option maxRecDepth 100000 in
theorem tells0_run : askF ⟨cfg [], l_R, [49,45,48,19,25]⟩ 6 ([cfgV 0, iV 13]) (f0) = tells0 := by kernel_rfl
def tells5 : T X := (.ret (.sc (.b (.lit true))))
set_option maxRecDepth 100000 in
theorem tells5_run : askF ⟨cfg [], l_R, [49,45,48,19,25]⟩ 6 ([cfgV 0, iV 13]) (f5) = tells5 := by kernel_rfl
end Go.Proofs.Ytjgimdheiflinaa
