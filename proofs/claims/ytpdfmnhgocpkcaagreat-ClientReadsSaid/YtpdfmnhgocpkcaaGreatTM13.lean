/- Parts of the proof, one behind the other. -/
import Derived.Test.YtpdfmnhgocpkcaaGreatTM2
import Derived.Test.YtpdfmnhgocpkcaaGreatTM12
import Derived.Test.YtpdfmnhgocpkcaaGreatXwM3
namespace Go.Proofs.YtpdfmnhgocpkcaaGreat
open Go Go.Proofs.Aw Go.Proofs.Xw
set_option maxRecDepth 100000
def oP (e:IE):Facts:=[(.eq e (.lit 0),false),(.lt (.lit 0) e,true),(.lt e (.lit 0),false)]
def gu (e:IE):Facts:=[(.eq e (.lit 0),false),(.lt (.lit 0) e,false),(.lt e (.lit 0),true)]
def JQ (e:IE):Facts:=[(.eq e (.lit 0),true),(.lt (.lit 0) e,false),(.lt e (.lit 0),false)]
def bP6:Facts:=xg++(oP (.var 301)++(oP (oA (1) (0))++(gu (oB (0) (1))++(gu (oA (-1) (2))++(oP (oB (2) (-1))++(gu (oA (-1) (-2))++(oP (oB (-2) (-1))++(gu (oA (-1) (0))++(oP (oB (0) (-1)))))))))))
def bP5:Facts:=xg++(oP (.var 301)++(oP (oA (1) (0))++(gu (oB (0) (1))++(gu (oA (-1) (2))++(oP (oB (2) (-1))++(JQ (oA (-1) (-2))++(JQ (oB (-2) (-1))++(gu (oA (-1) (0))++(oP (oB (0) (-1)))))))))))
def bP4:Facts:=xg++(oP (.var 301)++(oP (oA (1) (0))++(gu (oB (0) (1))++(gu (oA (-1) (2))++(oP (oB (2) (-1))++(oP (oA (-1) (-2))++(gu (oB (-2) (-1))++(gu (oA (-1) (0))++(oP (oB (0) (-1)))))))))))
def bP3:Facts:=xg++(oP (.var 301)++(oP (oA (1) (0))++(gu (oB (0) (1))++(JQ (oA (-1) (2))++(JQ (oB (2) (-1))++(gu (oA (-1) (-2))++(oP (oB (-2) (-1))++(gu (oA (-1) (0))++(oP (oB (0) (-1)))))))))))
def bP2:Facts:=xg++(oP (.var 301)++(oP (oA (1) (0))++(gu (oB (0) (1))++(oP (oA (-1) (2))++(gu (oB (2) (-1))++(gu (oA (-1) (-2))++(oP (oB (-2) (-1))++(gu (oA (-1) (0))++(oP (oB (0) (-1)))))))))))
def bP1:Facts:=xg++(gu (.var 301)++(gu (oA (1) (0))++(oP (oB (0) (1))++(oP (oA (-1) (2))++(gu (oB (2) (-1))++(oP (oA (-1) (-2))++(gu (oB (-2) (-1))++(oP (oA (-1) (0))++(gu (oB (0) (-1)))))))))))
def bP0:Facts:=xg++(gu (.var 301)++(gu (oA (1) (0))++(oP (oB (0) (1))++(oP (oA (-1) (2))++(gu (oB (2) (-1))++(JQ (oA (-1) (-2))++(JQ (oB (-2) (-1))++(oP (oA (-1) (0))++(gu (oB (0) (-1)))))))))))
def bO9:Facts:=xg++(gu (.var 301)++(gu (oA (1) (0))++(oP (oB (0) (1))++(oP (oA (-1) (2))++(gu (oB (2) (-1))++(gu (oA (-1) (-2))++(oP (oB (-2) (-1))++(oP (oA (-1) (0))++(gu (oB (0) (-1)))))))))))
def bO8:Facts:=xg++(gu (.var 301)++(gu (oA (1) (0))++(oP (oB (0) (1))++(JQ (oA (-1) (2))++(JQ (oB (2) (-1))++(oP (oA (-1) (-2))++(gu (oB (-2) (-1))++(oP (oA (-1) (0))++(gu (oB (0) (-1)))))))))))
def bO7:Facts:=xg++(gu (.var 301)++(gu (oA (1) (0))++(oP (oB (0) (1))++(gu (oA (-1) (2))++(oP (oB (2) (-1))++(oP (oA (-1) (-2))++(gu (oB (-2) (-1))++(oP (oA (-1) (0))++(gu (oB (0) (-1)))))))))))
def bO6:Facts:=xg++(JQ (.var 301)++(oP (.var 300)++(JQ (oA (1) (0))++(JQ (oB (0) (1))++(gu (oA (-1) (2))++(oP (oB (2) (-1))++(oP (oA (-1) (-2))++(gu (oB (-2) (-1))++(JQ (oA (-1) (0))++(JQ (oB (0) (-1))))))))))))
def bO5:Facts:=xg++(JQ (.var 301)++(gu (.var 300)++(JQ (oA (1) (0))++(JQ (oB (0) (1))++(oP (oA (-1) (2))++(gu (oB (2) (-1))++(gu (oA (-1) (-2))++(oP (oB (-2) (-1))++(JQ (oA (-1) (0))++(JQ (oB (0) (-1))))))))))))
def cx2:T X:=(.ret (.sc (.i .i64 (.lit 0))))
theorem ab3:aU ⟨bU gW (fun _=>[]),[],[66,127]⟩ 104 ([oD 0,qG 1]) xg=cx2:=by kernel_rfl
def bO2:T X:=(.ret (.sc (.i .i64 (.lit 0))))
theorem WR:aU ⟨bU gW (fun _=>[]),[],[66,127]⟩ 104 ([oD 0,qG 3]) bP6=bO2:=by kernel_rfl
def bO0:T X:=(.ret (.sc (.i .i64 (.lit 0))))
theorem WP:aU ⟨bU gW (fun _=>[]),[],[66,127]⟩ 104 ([oD 0,qG 3]) bP5=bO0:=by kernel_rfl
def bN8:T X:=(.ret (.sc (.i .i64 (.lit 0))))
theorem WN:aU ⟨bU gW (fun _=>[]),[],[66,127]⟩ 104 ([oD 0,qG 3]) bP4=bN8:=by kernel_rfl
def bN6:T X:=(.ret (.sc (.i .i64 (.lit 1))))
theorem WL:aU ⟨bU gW (fun _=>[]),[],[66,127]⟩ 104 ([oD 0,qG 3]) bP3=bN6:=by kernel_rfl
def bN4:T X:=(.ret (.sc (.i .i64 (.lit 1))))
theorem WI:aU ⟨bU gW (fun _=>[]),[],[66,127]⟩ 104 ([oD 0,qG 3]) bP2=bN4:=by kernel_rfl
def bN2:T X:=(.ret (.sc (.i .i64 (.lit 2))))
theorem WG:aU ⟨bU gW (fun _=>[]),[],[66,127]⟩ 104 ([oD 0,qG 3]) bP1=bN2:=by kernel_rfl
def bN0:T X:=(.ret (.sc (.i .i64 (.lit 2))))
theorem WE:aU ⟨bU gW (fun _=>[]),[],[66,127]⟩ 104 ([oD 0,qG 3]) bP0=bN0:=by kernel_rfl
def bM8:T X:=(.ret (.sc (.i .i64 (.lit 1))))
theorem WB:aU ⟨bU gW (fun _=>[]),[],[66,127]⟩ 104 ([oD 0,qG 3]) bO9=bM8:=by kernel_rfl
def bM6:T X:=(.ret (.sc (.i .i64 (.lit 2))))
theorem Wy:aU ⟨bU gW (fun _=>[]),[],[66,127]⟩ 104 ([oD 0,qG 3]) bO8=bM6:=by kernel_rfl
def bM4:T X:=(.ret (.sc (.i .i64 (.lit 2))))
theorem Wv:aU ⟨bU gW (fun _=>[]),[],[66,127]⟩ 104 ([oD 0,qG 3]) bO7=bM4:=by kernel_rfl
def bM2:T X:=(.ret (.sc (.i .i64 (.lit 0))))
theorem Ws:aU ⟨bU gW (fun _=>[]),[],[66,127]⟩ 104 ([oD 0,qG 3]) bO6=bM2:=by kernel_rfl
def bM0:T X:=(.ret (.sc (.i .i64 (.lit 1))))
theorem Wp:aU ⟨bU gW (fun _=>[]),[],[66,127]⟩ 104 ([oD 0,qG 3]) bO5=bM0:=by kernel_rfl
def bO3:T X:=(.ret (.sc (.i .i64 (.lit 0))))
theorem WS:aU ⟨bU gW (fun _=>[]),[],[66,127]⟩ 104 ([oD 0,qG 2]) bP6=bO3:=by kernel_rfl
def bO1:T X:=(.ret (.sc (.i .i64 (.lit 0))))
theorem WQ:aU ⟨bU gW (fun _=>[]),[],[66,127]⟩ 104 ([oD 0,qG 2]) bP5=bO1:=by kernel_rfl
def bN9:T X:=(.ret (.sc (.i .i64 (.lit 0))))
theorem WO:aU ⟨bU gW (fun _=>[]),[],[66,127]⟩ 104 ([oD 0,qG 2]) bP4=bN9:=by kernel_rfl
def bN7:T X:=(.ret (.sc (.i .i64 (.lit 0))))
theorem WM:aU ⟨bU gW (fun _=>[]),[],[66,127]⟩ 104 ([oD 0,qG 2]) bP3=bN7:=by kernel_rfl
def bN5:T X:=(.ret (.sc (.i .i64 (.lit 0))))
theorem WJ:aU ⟨bU gW (fun _=>[]),[],[66,127]⟩ 104 ([oD 0,qG 2]) bP2=bN5:=by kernel_rfl
def bN3:T X:=(.ret (.sc (.i .i64 (.lit 1))))
theorem WH:aU ⟨bU gW (fun _=>[]),[],[66,127]⟩ 104 ([oD 0,qG 2]) bP1=bN3:=by kernel_rfl
def bN1:T X:=(.ret (.sc (.i .i64 (.lit 1))))
theorem WF:aU ⟨bU gW (fun _=>[]),[],[66,127]⟩ 104 ([oD 0,qG 2]) bP0=bN1:=by kernel_rfl
def bM9:T X:=(.ret (.sc (.i .i64 (.lit 1))))
theorem WC:aU ⟨bU gW (fun _=>[]),[],[66,127]⟩ 104 ([oD 0,qG 2]) bO9=bM9:=by kernel_rfl
def bM7:T X:=(.ret (.sc (.i .i64 (.lit 1))))
theorem WA:aU ⟨bU gW (fun _=>[]),[],[66,127]⟩ 104 ([oD 0,qG 2]) bO8=bM7:=by kernel_rfl
def bM5:T X:=(.ret (.sc (.i .i64 (.lit 1))))
theorem Wx:aU ⟨bU gW (fun _=>[]),[],[66,127]⟩ 104 ([oD 0,qG 2]) bO7=bM5:=by kernel_rfl
def bM3:T X:=(.ret (.sc (.i .i64 (.lit 0))))
theorem Wu:aU ⟨bU gW (fun _=>[]),[],[66,127]⟩ 104 ([oD 0,qG 2]) bO6=bM3:=by kernel_rfl
def bM1:T X:=(.ret (.sc (.i .i64 (.lit 1))))
theorem Wq:aU ⟨bU gW (fun _=>[]),[],[66,127]⟩ 104 ([oD 0,qG 2]) bO5=bM1:=by kernel_rfl
end Go.Proofs.YtpdfmnhgocpkcaaGreat
