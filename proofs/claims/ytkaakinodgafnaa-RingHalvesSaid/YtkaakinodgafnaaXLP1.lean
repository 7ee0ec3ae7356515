/- What is shown of loops, each by one run of its body over letters. -/
import Derived.Test.YtkaakinodgafnaaXT
import Derived.Test.YtkaakinodgafnaaXS1
import Derived.Test.YtkaakinodgafnaaXwM2
namespace Go.Proofs.Ytkaakinodgafnaa
open Go Go.Proofs.Aw Go.Proofs.Xw
def keyX : X := .sc (.s (.var 0))
/-! wP: letters [100, 101] [] [] [] -/
noncomputable def wP_c : Code := (loopsOf (Try.f11.body.getD .skip))[0]?.getD .skip
def wP_S : XS := ⟨[(9, (.sc (.i .i64 (.var 100)))), (8, (.sc (.i .i64 (.slen (.var 0))))), (7, (.sc (.s (.var 0)))), (3, (.sc (.i .u64 (.var 101)))), (2, (.sc (.c (.lit (0 : Int)) (.lit false) (.lit (0 : Int)) (.lit false)))), (0, (.sc (.s (.var 0))))], [], 5⟩
def wP_Φ : Facts := [(.lt (.var 100) (.lit 0), false)]
def wP_b : Bind := ⟨[(100, (.op .add .i64 (.var 100) (.lit (1 : Int)))), (101, (.op .mul .u64 (.op .xor .u64 (.var 101) (.op .conv .u64 (.byt (.var 0) (.var 100)) (.lit (0 : Int)))) (.lit (1099511628211 : Int))))], [], [], []⟩
def wP_i : Bind := ⟨[(100, (.lit (0 : Int))), (101, (.lit (14695981039346656037 : Int)))], [], [], []⟩
def wP_t : T (XE × XS) := (.br (.lt (.var 100) (.slen (.var 0))) (.ret (.normal, ⟨[(9, (.sc (.i .i64 (.op .add .i64 (.var 100) (.lit (1 : Int)))))), (8, (.sc (.i .i64 (.slen (.var 0))))), (7, (.sc (.s (.var 0)))), (3, (.sc (.i .u64 (.op .mul .u64 (.op .xor .u64 (.var 101) (.op .conv .u64 (.byt (.var 0) (.var 100)) (.lit (0 : Int)))) (.lit (1099511628211 : Int)))))), (2, (.sc (.c (.lit (0 : Int)) (.lit false) (.lit (0 : Int)) (.lit false)))), (0, (.sc (.s (.var 0))))], [], 18⟩)) (.ret ((.exit 0), ⟨[(9, (.sc (.i .i64 (.var 100)))), (8, (.sc (.i .i64 (.slen (.var 0))))), (7, (.sc (.s (.var 0)))), (3, (.sc (.i .u64 (.var 101)))), (2, (.sc (.c (.lit (0 : Int)) (.lit false) (.lit (0 : Int)) (.lit false)))), (0, (.sc (.s (.var 0))))], [], 6⟩)))
noncomputable def wP : LoopX := ⟨((codeKey wP_c).getD 0), 0, 100, wP_S, wP_i, [], wP_t.outs⟩
set_option maxRecDepth 100000 in
theorem wP_run : (codeX (cfgL ([]) (fun _ => [])).ti (callS ⟨(cfgL ([]) (fun _ => [])), l_able, []⟩ 12) (((cfgL ([]) (fun _ => [])).ft 11).elim [] (·.ms)) wP.k0 ((fun _ => []) 11) 1000 wP_c wP_Φ wP.S).map (sqz (wP_S.t.map (·.1))) = wP_t := by kernel_rfl
theorem wP_back : wP_t.nrm (okS wP.k0 wP.n wP_b [] wP.S) = true := by kernel_rfl
theorem wP_bel : wP_t.outs.belX 102 = true := by kernel_rfl
theorem wP_ib : wP_i.bel 100 = true := by kernel_rfl
theorem wP_ig : wP_i.ge 100 = true := by kernel_rfl
theorem wP_bg : wP_b.ge 100 = true := by kernel_rfl
theorem wP_same : wP_i.same wP_b = true := by kernel_rfl
theorem wP_Sb : wP_S.bel 102 = true := by kernel_rfl
theorem wP_fits : fitsC Try.f11.ntmps wP_c = true := by kernel_rfl
/-! wQ: letters [140, 141] [] [] [] -/
noncomputable def wQ_c : Code := (loopsOf (Try.f23.body.getD .skip))[0]?.getD .skip
def wQ_S : XS := ⟨[(5, (.sc (.i .i64 (.var 140)))), (4, (.sc (.i .u64 (.var 141)))), (3, (.sc (.i .i64 (.lit (0 : Int))))), (2, (.sc (.i .i64 (.lit (0 : Int))))), (0, (.sc (.s (.var 0))))], [], 4⟩
def wQ_Φ : Facts := [(.lt (.var 140) (.lit 0), false)]
def wQ_b : Bind := ⟨[(140, (.op .add .i64 (.var 140) (.lit (1 : Int)))), (141, (.op .mul .u64 (.op .xor .u64 (.var 141) (.op .conv .u64 (.byt (.var 0) (.var 140)) (.lit (0 : Int)))) (.lit (1099511628211 : Int))))], [], [], []⟩
def wQ_i : Bind := ⟨[(140, (.lit (0 : Int))), (141, (.lit (14695981039346656037 : Int)))], [], [], []⟩
def wQ_t : T (XE × XS) := (.br (.lt (.var 140) (.slen (.var 0))) (.ret (.normal, ⟨[(5, (.sc (.i .i64 (.op .add .i64 (.var 140) (.lit (1 : Int)))))), (4, (.sc (.i .u64 (.op .mul .u64 (.op .xor .u64 (.var 141) (.op .conv .u64 (.byt (.var 0) (.var 140)) (.lit (0 : Int)))) (.lit (1099511628211 : Int)))))), (3, (.sc (.i .i64 (.lit (0 : Int))))), (2, (.sc (.i .i64 (.lit (0 : Int))))), (0, (.sc (.s (.var 0))))], [], 19⟩)) (.ret ((.exit 0), ⟨[(5, (.sc (.i .i64 (.var 140)))), (4, (.sc (.i .u64 (.var 141)))), (3, (.sc (.i .i64 (.lit (0 : Int))))), (2, (.sc (.i .i64 (.lit (0 : Int))))), (0, (.sc (.s (.var 0))))], [], 8⟩)))
noncomputable def wQ : LoopX := ⟨((codeKey wQ_c).getD 0), 0, 140, wQ_S, wQ_i, [], wQ_t.outs⟩
set_option maxRecDepth 100000 in
theorem wQ_run : (codeX (cfgL ([]) (fun _ => [])).ti (callS ⟨(cfgL ([]) (fun _ => [])), l_able, []⟩ 12) (((cfgL ([]) (fun _ => [])).ft 23).elim [] (·.ms)) wQ.k0 ((fun _ => []) 23) 1000 wQ_c wQ_Φ wQ.S).map (sqz (wQ_S.t.map (·.1))) = wQ_t := by kernel_rfl
theorem wQ_back : wQ_t.nrm (okS wQ.k0 wQ.n wQ_b [] wQ.S) = true := by kernel_rfl
theorem wQ_bel : wQ_t.outs.belX 142 = true := by kernel_rfl
theorem wQ_ib : wQ_i.bel 140 = true := by kernel_rfl
theorem wQ_ig : wQ_i.ge 140 = true := by kernel_rfl
theorem wQ_bg : wQ_b.ge 140 = true := by kernel_rfl
theorem wQ_same : wQ_i.same wQ_b = true := by kernel_rfl
theorem wQ_Sb : wQ_S.bel 142 = true := by kernel_rfl
theorem wQ_fits : fitsC Try.f23.ntmps wQ_c = true := by kernel_rfl
end Go.Proofs.Ytkaakinodgafnaa
