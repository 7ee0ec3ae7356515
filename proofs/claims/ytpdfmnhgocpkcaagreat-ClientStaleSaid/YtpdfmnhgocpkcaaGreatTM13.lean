/- Parts of the proof, one behind the other. -/
import Derived.Test.YtpdfmnhgocpkcaaGreatTM2
import Derived.Test.YtpdfmnhgocpkcaaGreatTM12
import Derived.Test.YtpdfmnhgocpkcaaGreatXwM3
namespace Go.Proofs.YtpdfmnhgocpkcaaGreat
open Go Go.Proofs.Aw Go.Proofs.Xw
set_option maxRecDepth 100000
def cB (e:U):J:=[(.eq e (.lit 0),false),(.lt (.lit 0) e,true),(.lt e (.lit 0),false)]
def a6 (e:U):J:=[(.eq e (.lit 0),false),(.lt (.lit 0) e,false),(.lt e (.lit 0),true)]
def h1 (e:U):J:=[(.eq e (.lit 0),true),(.lt (.lit 0) e,false),(.lt e (.lit 0),false)]
def W1:J:=dU++(cB (.var 301)++(cB (oA (1) (0))++(a6 (oB (0) (1))++(a6 (oA (-1) (2))++(cB (oB (2) (-1))++(a6 (oA (-1) (-2))++(cB (oB (-2) (-1))++(a6 (oA (-1) (0))++(cB (oB (0) (-1)))))))))))
def W2:J:=dU++(cB (.var 301)++(cB (oA (1) (0))++(a6 (oB (0) (1))++(a6 (oA (-1) (2))++(cB (oB (2) (-1))++(h1 (oA (-1) (-2))++(h1 (oB (-2) (-1))++(a6 (oA (-1) (0))++(cB (oB (0) (-1)))))))))))
def W3:J:=dU++(cB (.var 301)++(cB (oA (1) (0))++(a6 (oB (0) (1))++(a6 (oA (-1) (2))++(cB (oB (2) (-1))++(cB (oA (-1) (-2))++(a6 (oB (-2) (-1))++(a6 (oA (-1) (0))++(cB (oB (0) (-1)))))))))))
def W4:J:=dU++(cB (.var 301)++(cB (oA (1) (0))++(a6 (oB (0) (1))++(h1 (oA (-1) (2))++(h1 (oB (2) (-1))++(a6 (oA (-1) (-2))++(cB (oB (-2) (-1))++(a6 (oA (-1) (0))++(cB (oB (0) (-1)))))))))))
def W5:J:=dU++(cB (.var 301)++(cB (oA (1) (0))++(a6 (oB (0) (1))++(cB (oA (-1) (2))++(a6 (oB (2) (-1))++(a6 (oA (-1) (-2))++(cB (oB (-2) (-1))++(a6 (oA (-1) (0))++(cB (oB (0) (-1)))))))))))
def W6:J:=dU++(a6 (.var 301)++(a6 (oA (1) (0))++(cB (oB (0) (1))++(cB (oA (-1) (2))++(a6 (oB (2) (-1))++(cB (oA (-1) (-2))++(a6 (oB (-2) (-1))++(cB (oA (-1) (0))++(a6 (oB (0) (-1)))))))))))
def W7:J:=dU++(a6 (.var 301)++(a6 (oA (1) (0))++(cB (oB (0) (1))++(cB (oA (-1) (2))++(a6 (oB (2) (-1))++(h1 (oA (-1) (-2))++(h1 (oB (-2) (-1))++(cB (oA (-1) (0))++(a6 (oB (0) (-1)))))))))))
def W8:J:=dU++(a6 (.var 301)++(a6 (oA (1) (0))++(cB (oB (0) (1))++(cB (oA (-1) (2))++(a6 (oB (2) (-1))++(a6 (oA (-1) (-2))++(cB (oB (-2) (-1))++(cB (oA (-1) (0))++(a6 (oB (0) (-1)))))))))))
def W9:J:=dU++(a6 (.var 301)++(a6 (oA (1) (0))++(cB (oB (0) (1))++(h1 (oA (-1) (2))++(h1 (oB (2) (-1))++(cB (oA (-1) (-2))++(a6 (oB (-2) (-1))++(cB (oA (-1) (0))++(a6 (oB (0) (-1)))))))))))
def W_:J:=dU++(a6 (.var 301)++(a6 (oA (1) (0))++(cB (oB (0) (1))++(a6 (oA (-1) (2))++(cB (oB (2) (-1))++(cB (oA (-1) (-2))++(a6 (oB (-2) (-1))++(cB (oA (-1) (0))++(a6 (oB (0) (-1)))))))))))
def Xa:J:=dU++(h1 (.var 301)++(cB (.var 300)++(h1 (oA (1) (0))++(h1 (oB (0) (1))++(a6 (oA (-1) (2))++(cB (oB (2) (-1))++(cB (oA (-1) (-2))++(a6 (oB (-2) (-1))++(h1 (oA (-1) (0))++(h1 (oB (0) (-1))))))))))))
def Xb:J:=dU++(h1 (.var 301)++(a6 (.var 300)++(h1 (oA (1) (0))++(h1 (oB (0) (1))++(cB (oA (-1) (2))++(a6 (oB (2) (-1))++(a6 (oA (-1) (-2))++(cB (oB (-2) (-1))++(h1 (oA (-1) (0))++(h1 (oB (0) (-1))))))))))))
def aj1:T X:=(.ret (.sc (.i .i64 (.lit 0))))
theorem aj2:aM ⟨bd cH (fun _=>[]),[],[66,127]⟩ 104 ([cv 0,cT 1]) dU=aj1:=by kernel_rfl
def aj9:T X:=(.ret (.sc (.i .i64 (.lit 0))))
theorem aka:aM ⟨bd cH (fun _=>[]),[],[66,127]⟩ 104 ([cv 0,cT 3]) W1=aj9:=by kernel_rfl
def akd:T X:=(.ret (.sc (.i .i64 (.lit 0))))
theorem ake:aM ⟨bd cH (fun _=>[]),[],[66,127]⟩ 104 ([cv 0,cT 3]) W2=akd:=by kernel_rfl
def akh:T X:=(.ret (.sc (.i .i64 (.lit 0))))
theorem aki:aM ⟨bd cH (fun _=>[]),[],[66,127]⟩ 104 ([cv 0,cT 3]) W3=akh:=by kernel_rfl
def akl:T X:=(.ret (.sc (.i .i64 (.lit 1))))
theorem akm:aM ⟨bd cH (fun _=>[]),[],[66,127]⟩ 104 ([cv 0,cT 3]) W4=akl:=by kernel_rfl
def akp:T X:=(.ret (.sc (.i .i64 (.lit 1))))
theorem akq:aM ⟨bd cH (fun _=>[]),[],[66,127]⟩ 104 ([cv 0,cT 3]) W5=akp:=by kernel_rfl
def akt:T X:=(.ret (.sc (.i .i64 (.lit 2))))
theorem aku:aM ⟨bd cH (fun _=>[]),[],[66,127]⟩ 104 ([cv 0,cT 3]) W6=akt:=by kernel_rfl
def akx:T X:=(.ret (.sc (.i .i64 (.lit 2))))
theorem aky:aM ⟨bd cH (fun _=>[]),[],[66,127]⟩ 104 ([cv 0,cT 3]) W7=akx:=by kernel_rfl
def akB:T X:=(.ret (.sc (.i .i64 (.lit 1))))
theorem akC:aM ⟨bd cH (fun _=>[]),[],[66,127]⟩ 104 ([cv 0,cT 3]) W8=akB:=by kernel_rfl
def akF:T X:=(.ret (.sc (.i .i64 (.lit 2))))
theorem akG:aM ⟨bd cH (fun _=>[]),[],[66,127]⟩ 104 ([cv 0,cT 3]) W9=akF:=by kernel_rfl
def akJ:T X:=(.ret (.sc (.i .i64 (.lit 2))))
theorem akK:aM ⟨bd cH (fun _=>[]),[],[66,127]⟩ 104 ([cv 0,cT 3]) W_=akJ:=by kernel_rfl
def akN:T X:=(.ret (.sc (.i .i64 (.lit 0))))
theorem akO:aM ⟨bd cH (fun _=>[]),[],[66,127]⟩ 104 ([cv 0,cT 3]) Xa=akN:=by kernel_rfl
def akR:T X:=(.ret (.sc (.i .i64 (.lit 1))))
theorem akS:aM ⟨bd cH (fun _=>[]),[],[66,127]⟩ 104 ([cv 0,cT 3]) Xb=akR:=by kernel_rfl
def aj7:T X:=(.ret (.sc (.i .i64 (.lit 0))))
theorem aj8:aM ⟨bd cH (fun _=>[]),[],[66,127]⟩ 104 ([cv 0,cT 2]) W1=aj7:=by kernel_rfl
def akb:T X:=(.ret (.sc (.i .i64 (.lit 0))))
theorem akc:aM ⟨bd cH (fun _=>[]),[],[66,127]⟩ 104 ([cv 0,cT 2]) W2=akb:=by kernel_rfl
def akf:T X:=(.ret (.sc (.i .i64 (.lit 0))))
theorem akg:aM ⟨bd cH (fun _=>[]),[],[66,127]⟩ 104 ([cv 0,cT 2]) W3=akf:=by kernel_rfl
def akj:T X:=(.ret (.sc (.i .i64 (.lit 0))))
theorem akk:aM ⟨bd cH (fun _=>[]),[],[66,127]⟩ 104 ([cv 0,cT 2]) W4=akj:=by kernel_rfl
def akn:T X:=(.ret (.sc (.i .i64 (.lit 0))))
theorem ako:aM ⟨bd cH (fun _=>[]),[],[66,127]⟩ 104 ([cv 0,cT 2]) W5=akn:=by kernel_rfl
def akr:T X:=(.ret (.sc (.i .i64 (.lit 1))))
theorem aks:aM ⟨bd cH (fun _=>[]),[],[66,127]⟩ 104 ([cv 0,cT 2]) W6=akr:=by kernel_rfl
def akv:T X:=(.ret (.sc (.i .i64 (.lit 1))))
theorem akw:aM ⟨bd cH (fun _=>[]),[],[66,127]⟩ 104 ([cv 0,cT 2]) W7=akv:=by kernel_rfl
def akz:T X:=(.ret (.sc (.i .i64 (.lit 1))))
theorem akA:aM ⟨bd cH (fun _=>[]),[],[66,127]⟩ 104 ([cv 0,cT 2]) W8=akz:=by kernel_rfl
def akD:T X:=(.ret (.sc (.i .i64 (.lit 1))))
theorem akE:aM ⟨bd cH (fun _=>[]),[],[66,127]⟩ 104 ([cv 0,cT 2]) W9=akD:=by kernel_rfl
def akH:T X:=(.ret (.sc (.i .i64 (.lit 1))))
theorem akI:aM ⟨bd cH (fun _=>[]),[],[66,127]⟩ 104 ([cv 0,cT 2]) W_=akH:=by kernel_rfl
def akL:T X:=(.ret (.sc (.i .i64 (.lit 0))))
theorem akM:aM ⟨bd cH (fun _=>[]),[],[66,127]⟩ 104 ([cv 0,cT 2]) Xa=akL:=by kernel_rfl
def akP:T X:=(.ret (.sc (.i .i64 (.lit 1))))
theorem akQ:aM ⟨bd cH (fun _=>[]),[],[66,127]⟩ 104 ([cv 0,cT 2]) Xb=akP:=by kernel_rfl
end Go.Proofs.YtpdfmnhgocpkcaaGreat
