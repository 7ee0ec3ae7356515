/- Parts of the proof, one behind the other. -/
import Derived.Test.YtpdfmnhgocpkcaaGreatTM2
import Derived.Test.YtpdfmnhgocpkcaaGreatTM10
import Derived.Test.YtpdfmnhgocpkcaaGreatXwM3
namespace Go.Proofs.YtpdfmnhgocpkcaaGreat
open Go Go.Proofs.Aw Go.Proofs.Xw
set_option maxRecDepth 100000
def oD (k:Nat):X := .sc (.s (.var k))
def oiV (k:Nat):X := .sc (.i .i64 (.var k))
def ba3 (a b:Nat):X := .sc (.c (.var a) (.lit false) (.var b) (.lit false))
def ba0 (a b:Nat):X := .tup [oiV a,oiV b]
def aD1 (k:Nat):Facts:=[(.lt (.var k) (.lit (-524288)),false),(.lt (.lit 524288) (.var k),false)]
def gW:List (Nat×List X×X):=[(68,[oD 0],ba3 300 301),(145,[oD 0],ba0 300 301)]
def xg:Facts:=aD1 300++aD1 301++[(.and (.eq (.var 300) (.lit 0)) (.eq (.var 301) (.lit 0)),false)]
def qG (n:Int):X := .sc (.i .i64 (.lit n))
def oA (a b:Int):IE := .op .sub .i64 (.op .mul .i64 (.lit a) (.var 301)) (.op .mul .i64 (.lit b) (.var 300))
def oB (a b:Int):IE := .op .sub .i64 (.op .mul .i64 (.var 300) (.lit a)) (.op .mul .i64 (.var 301) (.lit b))
def owA (a b:Int):IE := .op .psub .i64 (.op .pmul .i64 (.lit a) (.var 300)) (.op .pmul .i64 (.lit b) (.var 301))
def We (e:IE):Facts:=[(.eq e (.lit 0),true),(.lt (.lit 0) e,false)]
def ops (e:IE):Facts:=[(.eq e (.lit 0),false),(.lt (.lit 0) e,true)]
def PV (e:IE):Facts:=[(.eq e (.lit 0),false),(.lt (.lit 0) e,false)]
def cy8:Facts:=xg++(ops (oA 1 0)++ops (oB 2 (-1)))
def cy6:Facts:=xg++(We (oA 1 0)++(ops (.var 300)++ops (oB 2 (-1))))
def cy4:Facts:=xg++(ops (oA 1 0)++(We (oB 2 (-1))++(We (oA (-1) 2)++(ops (owA (-1) (-2))++ops (oB (-2) (-1))))))
def cy2:Facts:=xg++(ops (oA 1 0)++(PV (oB 2 (-1))++(ops (oA (-1) 2)++ops (oB (-2) (-1)))))
def cy1:Facts:=xg++(We (oA 1 0)++(PV (.var 300)++(ops (oA (-1) 2)++ops (oB (-2) (-1)))))
def cy0:Facts:=xg++(PV (oA 1 0)++(ops (oA (-1) 2)++ops (oB (-2) (-1))))
def cx9:Facts:=xg++(PV (oA 1 0)++(ops (oA (-1) 2)++(We (oB (-2) (-1))++(We (oA (-1) (-2))++(ops (owA (-1) 2)++ops (oB 0 1))))))
def cx8:Facts:=xg++(PV (oA 1 0)++(ops (oA (-1) 2)++(PV (oB (-2) (-1))++(ops (oA (-1) (-2))++ops (oB 0 1)))))
def cx7:Facts:=xg++(PV (oA 1 0)++(We (oA (-1) 2)++(PV (owA (-1) (-2))++(PV (oB (-2) (-1))++(ops (oA (-1) (-2))++ops (oB 0 1))))))
def cx6:Facts:=xg++(PV (oA 1 0)++(PV (oA (-1) 2)++(PV (oB (-2) (-1))++(ops (oA (-1) (-2))++ops (oB 0 1)))))
def cy9:Facts:=xg++ops (oA 1 0)
def cy7:Facts:=xg++(We (oA 1 0)++ops (.var 300))
def cy5:Facts:=xg++(We (oA 1 0)++(PV (.var 300)++(We (oB 0 (-1))++(We (oA (-1) 0)++(ops (.op .pmul .i64 (.lit (-1)) (.var 300))++We (oB 0 1))))))
def cy3:Facts:=xg++(PV (oA 1 0)++(PV (oB 0 (-1))++(ops (oA (-1) 0)++ops (oB 0 1))))
def cz0:T X:=(.ret (.sc (.i .i64 (.lit 0))))
theorem ab6:aU ⟨bU gW (fun _=>[]),[],[66,127]⟩ 33 ([oD 0,qG 1]) xg=cz0:=by kernel_rfl
def bR0:T X:=(.ret (.sc (.i .i64 (.lit 0))))
theorem Xf:aU ⟨bU gW (fun _=>[]),[],[66,127]⟩ 33 ([oD 0,qG 3]) cy8=bR0:=by kernel_rfl
def bQ8:T X:=(.ret (.sc (.i .i64 (.lit 0))))
theorem Xd:aU ⟨bU gW (fun _=>[]),[],[66,127]⟩ 33 ([oD 0,qG 3]) cy6=bQ8:=by kernel_rfl
def bQ6:T X:=(.ret (.sc (.i .i64 (.lit 1))))
theorem Xb:aU ⟨bU gW (fun _=>[]),[],[66,127]⟩ 33 ([oD 0,qG 3]) cy4=bQ6:=by kernel_rfl
def bQ4:T X:=(.ret (.sc (.i .i64 (.lit 1))))
theorem W9:aU ⟨bU gW (fun _=>[]),[],[66,127]⟩ 33 ([oD 0,qG 3]) cy2=bQ4:=by kernel_rfl
def bQ3:T X:=(.ret (.sc (.i .i64 (.lit 1))))
theorem WZ:aU ⟨bU gW (fun _=>[]),[],[66,127]⟩ 33 ([oD 0,qG 3]) cy1=bQ3:=by kernel_rfl
def bQ2:T X:=(.ret (.sc (.i .i64 (.lit 1))))
theorem WY:aU ⟨bU gW (fun _=>[]),[],[66,127]⟩ 33 ([oD 0,qG 3]) cy0=bQ2:=by kernel_rfl
def bQ1:T X:=(.ret (.sc (.i .i64 (.lit 2))))
theorem WX:aU ⟨bU gW (fun _=>[]),[],[66,127]⟩ 33 ([oD 0,qG 3]) cx9=bQ1:=by kernel_rfl
def bQ0:T X:=(.ret (.sc (.i .i64 (.lit 2))))
theorem WW:aU ⟨bU gW (fun _=>[]),[],[66,127]⟩ 33 ([oD 0,qG 3]) cx8=bQ0:=by kernel_rfl
def bP9:T X:=(.ret (.sc (.i .i64 (.lit 2))))
theorem WV:aU ⟨bU gW (fun _=>[]),[],[66,127]⟩ 33 ([oD 0,qG 3]) cx7=bP9:=by kernel_rfl
def bP8:T X:=(.ret (.sc (.i .i64 (.lit 2))))
theorem WU:aU ⟨bU gW (fun _=>[]),[],[66,127]⟩ 33 ([oD 0,qG 3]) cx6=bP8:=by kernel_rfl
def bR3:T X:=(.ret (.sc (.i .i64 (.lit 0))))
theorem Xg:aU ⟨bU gW (fun _=>[]),[],[66,127]⟩ 33 ([oD 0,qG 2]) cy9=bR3:=by kernel_rfl
def bQ9:T X:=(.ret (.sc (.i .i64 (.lit 0))))
theorem Xe:aU ⟨bU gW (fun _=>[]),[],[66,127]⟩ 33 ([oD 0,qG 2]) cy7=bQ9:=by kernel_rfl
def bQ7:T X:=(.ret (.sc (.i .i64 (.lit 1))))
theorem Xc:aU ⟨bU gW (fun _=>[]),[],[66,127]⟩ 33 ([oD 0,qG 2]) cy5=bQ7:=by kernel_rfl
def bQ5:T X:=(.ret (.sc (.i .i64 (.lit 1))))
theorem Xa:aU ⟨bU gW (fun _=>[]),[],[66,127]⟩ 33 ([oD 0,qG 2]) cy3=bQ5:=by kernel_rfl
end Go.Proofs.YtpdfmnhgocpkcaaGreat
