/- What functions answer, run over letters, where something is known; each shown by running it. -/
import Derived.Test.YtjgimdheiflinaaXT
import Derived.Test.YtjgimdheiflinaaXQ
import Derived.Test.YtjgimdheiflinaaXwM2
namespace Go.Proofs.Ytjgimdheiflinaa
open Go Go.Proofs.Aw Go.Proofs.Xw

def row1tR : T X := (.ret (.sc (.b (.lit true))))
set_option maxRecDepth 100000 in
theorem row1tR_run : askF ⟨cfgL (ksR 1 true) (fun _ => []), l_R, [49,45,48,19,25]⟩ 7 ([cfgZ 1 true]) (fR 1 true) = row1tR := by kernel_rfl
def row1tN : T X := (.ret (.sc (.b (.lit true))))
set_option maxRecDepth 100000 in
theorem row1tN_run : askF ⟨cfgL (ksN 1 true) (fun _ => []), l_R, [49,45,48,19,25]⟩ 7 ([cfgN 1 true 0]) ([]) = row1tN := by kernel_rfl
def row1fR : T X := (.ret (.sc (.b (.lit true))))
set_option maxRecDepth 100000 in
theorem row1fR_run : askF ⟨cfgL (ksR 1 false) (fun _ => []), l_R, [49,45,48,19,25]⟩ 7 ([cfgZ 1 false]) (fR 1 false) = row1fR := by kernel_rfl
def row1fN : T X := (.ret (.sc (.b (.lit true))))
set_option maxRecDepth 100000 in
theorem row1fN_run : askF ⟨cfgL (ksN 1 false) (fun _ => []), l_R, [49,45,48,19,25]⟩ 7 ([cfgN 1 false 0]) ([]) = row1fN := by kernel_rfl
def row2tR : T X := (.ret (.sc (.b (.lit true))))
set_option maxRecDepth 100000 in
theorem row2tR_run : askF ⟨cfgL (ksR 2 true) (fun _ => []), l_R, [49,45,48,19,25]⟩ 7 ([cfgZ 2 true]) (fR 2 true) = row2tR := by kernel_rfl
def row2tN : T X := (.ret (.sc (.b (.lit true))))
set_option maxRecDepth 100000 in
theorem row2tN_run : askF ⟨cfgL (ksN 2 true) (fun _ => []), l_R, [49,45,48,19,25]⟩ 7 ([cfgN 2 true 0]) ([]) = row2tN := by kernel_rfl
def row2fR : T X := (.ret (.sc (.b (.lit true))))
set_option maxRecDepth 100000 in
theorem row2fR_run : askF ⟨cfgL (ksR 2 false) (fun _ => []), l_R, [49,45,48,19,25]⟩ 7 ([cfgZ 2 false]) (fR 2 false) = row2fR := by kernel_rfl
def row2fN : T X := (.ret (.sc (.b (.lit true))))
set_option maxRecDepth 100000 in
theorem row2fN_run : askF ⟨cfgL (ksN 2 false) (fun _ => []), l_R, [49,45,48,19,25]⟩ 7 ([cfgN 2 false 0]) ([]) = row2fN := by kernel_rfl
def row3tR : T X := (.ret (.sc (.b (.lit true))))
set_option maxRecDepth 100000 in
theorem row3tR_run : askF ⟨cfgL (ksR 3 true) (fun _ => []), l_R, [49,45,48,19,25]⟩ 7 ([cfgZ 3 true]) (fR 3 true) = row3tR := by kernel_rfl
def row3tN : T X := (.ret (.sc (.b (.lit true))))
set_option maxRecDepth 100000 in
theorem row3tN_run : askF ⟨cfgL (ksN 3 true) (fun _ => []), l_R, [49,45,48,19,25]⟩ 7 ([cfgN 3 true 0]) ([]) = row3tN := by kernel_rfl
def row3fR : T X := (.ret (.sc (.b (.lit true))))
set_option maxRecDepth 100000 in
theorem row3fR_run : askF ⟨cfgL (ksR 3 false) (fun _ => []), l_R, [49,45,48,19,25]⟩ 7 ([cfgZ 3 false]) (fR 3 false) = row3fR := by kernel_rfl
def row3fN : T X := (.ret (.sc (.b (.lit true))))
set_option maxRecDepth 100000 in
theorem row3fN_run : askF ⟨cfgL (ksN 3 false) (fun _ => []), l_R, [49,45,48,19,25]⟩ 7 ([cfgN 3 false 0]) ([]) = row3fN := by kernel_rfl
def row4tN : T X := (.ret (.sc (.b (.lit true))))
set_option maxRecDepth 100000 in
theorem row4tN_run : askF ⟨cfgL (ksN 4 true) (fun _ => []), l_R, [49,45,48,19,25]⟩ 7 ([cfgN 4 true 0]) ([]) = row4tN := by kernel_rfl
def row4fR : T X := (.ret (.sc (.b (.lit true))))
set_option maxRecDepth 100000 in
theorem row4fR_run : askF ⟨cfgL (ksR 4 false) (fun _ => []), l_R, [49,45,48,19,25]⟩ 7 ([cfgZ 4 false]) (fR 4 false) = row4fR := by kernel_rfl
def row4fN : T X := (.ret (.sc (.b (.lit true))))
set_option maxRecDepth 100000 in
theorem row4fN_run : askF ⟨cfgL (ksN 4 false) (fun _ => []), l_R, [49,45,48,19,25]⟩ 7 ([cfgN 4 false 0]) ([]) = row4fN := by kernel_rfl
def row0 : T X := (.ret (.sc (.b (.lit true))))
set_option maxRecDepth 100000 in
theorem row0_run : askF ⟨cfg [], l_R, [49,45,48,19,25]⟩ 7 ([cfgV 0]) (f0) = row0 := by kernel_rfl
def row5 : T X := (.ret (.sc (.b (.lit true))))
set_option maxRecDepth 100000 in
theorem row5_run : askF ⟨cfg [], l_R, [49,45,48,19,25]⟩ 7 ([cfgV 0]) (f5) = row5 := by kernel_rfl
end Go.Proofs.Ytjgimdheiflinaa
