/- Parts of the proof, one behind the other. -/
import Derived.Test.YtpdfmnhgocpkcaaGreatTM2
import Derived.Test.YtpdfmnhgocpkcaaGreatTM11
import Derived.Test.YtpdfmnhgocpkcaaGreatXwM3
namespace Go.Proofs.YtpdfmnhgocpkcaaGreat
open Go Go.Proofs.Aw Go.Proofs.Xw
set_option maxRecDepth 100000
def cz (e:U):J:=[(.eq e (.lit 0),false),(.lt (.lit 0) e,true),(.lt e (.lit 0),false)]
def a6 (e:U):J:=[(.eq e (.lit 0),false),(.lt (.lit 0) e,false),(.lt e (.lit 0),true)]
def h1 (e:U):J:=[(.eq e (.lit 0),true),(.lt (.lit 0) e,false),(.lt e (.lit 0),false)]
def W4:J:=dU++(cz (.var 301)++(cz (oA (1) (0))++(a6 (oB (0) (1))++(a6 (oA (-1) (2))++(cz (oB (2) (-1))++(a6 (oA (-1) (-2))++(cz (oB (-2) (-1))++(a6 (oA (-1) (0))++(cz (oB (0) (-1)))))))))))
def W5:J:=dU++(cz (.var 301)++(cz (oA (1) (0))++(a6 (oB (0) (1))++(a6 (oA (-1) (2))++(cz (oB (2) (-1))++(h1 (oA (-1) (-2))++(h1 (oB (-2) (-1))++(a6 (oA (-1) (0))++(cz (oB (0) (-1)))))))))))
def W6:J:=dU++(cz (.var 301)++(cz (oA (1) (0))++(a6 (oB (0) (1))++(a6 (oA (-1) (2))++(cz (oB (2) (-1))++(cz (oA (-1) (-2))++(a6 (oB (-2) (-1))++(a6 (oA (-1) (0))++(cz (oB (0) (-1)))))))))))
def W7:J:=dU++(cz (.var 301)++(cz (oA (1) (0))++(a6 (oB (0) (1))++(h1 (oA (-1) (2))++(h1 (oB (2) (-1))++(a6 (oA (-1) (-2))++(cz (oB (-2) (-1))++(a6 (oA (-1) (0))++(cz (oB (0) (-1)))))))))))
def W8:J:=dU++(cz (.var 301)++(cz (oA (1) (0))++(a6 (oB (0) (1))++(cz (oA (-1) (2))++(a6 (oB (2) (-1))++(a6 (oA (-1) (-2))++(cz (oB (-2) (-1))++(a6 (oA (-1) (0))++(cz (oB (0) (-1)))))))))))
def W9:J:=dU++(a6 (.var 301)++(a6 (oA (1) (0))++(cz (oB (0) (1))++(cz (oA (-1) (2))++(a6 (oB (2) (-1))++(cz (oA (-1) (-2))++(a6 (oB (-2) (-1))++(cz (oA (-1) (0))++(a6 (oB (0) (-1)))))))))))
def W_:J:=dU++(a6 (.var 301)++(a6 (oA (1) (0))++(cz (oB (0) (1))++(cz (oA (-1) (2))++(a6 (oB (2) (-1))++(h1 (oA (-1) (-2))++(h1 (oB (-2) (-1))++(cz (oA (-1) (0))++(a6 (oB (0) (-1)))))))))))
def Xa:J:=dU++(a6 (.var 301)++(a6 (oA (1) (0))++(cz (oB (0) (1))++(cz (oA (-1) (2))++(a6 (oB (2) (-1))++(a6 (oA (-1) (-2))++(cz (oB (-2) (-1))++(cz (oA (-1) (0))++(a6 (oB (0) (-1)))))))))))
def Xb:J:=dU++(a6 (.var 301)++(a6 (oA (1) (0))++(cz (oB (0) (1))++(h1 (oA (-1) (2))++(h1 (oB (2) (-1))++(cz (oA (-1) (-2))++(a6 (oB (-2) (-1))++(cz (oA (-1) (0))++(a6 (oB (0) (-1)))))))))))
def Xc:J:=dU++(a6 (.var 301)++(a6 (oA (1) (0))++(cz (oB (0) (1))++(a6 (oA (-1) (2))++(cz (oB (2) (-1))++(cz (oA (-1) (-2))++(a6 (oB (-2) (-1))++(cz (oA (-1) (0))++(a6 (oB (0) (-1)))))))))))
def Xd:J:=dU++(h1 (.var 301)++(cz (.var 300)++(h1 (oA (1) (0))++(h1 (oB (0) (1))++(a6 (oA (-1) (2))++(cz (oB (2) (-1))++(cz (oA (-1) (-2))++(a6 (oB (-2) (-1))++(h1 (oA (-1) (0))++(h1 (oB (0) (-1))))))))))))
def Xe:J:=dU++(h1 (.var 301)++(a6 (.var 300)++(h1 (oA (1) (0))++(h1 (oB (0) (1))++(cz (oA (-1) (2))++(a6 (oB (2) (-1))++(a6 (oA (-1) (-2))++(cz (oB (-2) (-1))++(h1 (oA (-1) (0))++(h1 (oB (0) (-1))))))))))))
def ajY:T X:=(.ret (.sc (.i .i64 (.lit 0))))
theorem ajZ:aN ⟨bd cH (fun _=>[]),[],[66,127]⟩ 104 ([cv 0,cV 1]) dU=ajY:=by kernel_rfl
def aj6:T X:=(.ret (.sc (.i .i64 (.lit 0))))
theorem aj7:aN ⟨bd cH (fun _=>[]),[],[66,127]⟩ 104 ([cv 0,cV 3]) W4=aj6:=by kernel_rfl
def aka:T X:=(.ret (.sc (.i .i64 (.lit 0))))
theorem akb:aN ⟨bd cH (fun _=>[]),[],[66,127]⟩ 104 ([cv 0,cV 3]) W5=aka:=by kernel_rfl
def ake:T X:=(.ret (.sc (.i .i64 (.lit 0))))
theorem akf:aN ⟨bd cH (fun _=>[]),[],[66,127]⟩ 104 ([cv 0,cV 3]) W6=ake:=by kernel_rfl
def aki:T X:=(.ret (.sc (.i .i64 (.lit 1))))
theorem akj:aN ⟨bd cH (fun _=>[]),[],[66,127]⟩ 104 ([cv 0,cV 3]) W7=aki:=by kernel_rfl
def akm:T X:=(.ret (.sc (.i .i64 (.lit 1))))
theorem akn:aN ⟨bd cH (fun _=>[]),[],[66,127]⟩ 104 ([cv 0,cV 3]) W8=akm:=by kernel_rfl
def akq:T X:=(.ret (.sc (.i .i64 (.lit 2))))
theorem akr:aN ⟨bd cH (fun _=>[]),[],[66,127]⟩ 104 ([cv 0,cV 3]) W9=akq:=by kernel_rfl
def aku:T X:=(.ret (.sc (.i .i64 (.lit 2))))
theorem akv:aN ⟨bd cH (fun _=>[]),[],[66,127]⟩ 104 ([cv 0,cV 3]) W_=aku:=by kernel_rfl
def aky:T X:=(.ret (.sc (.i .i64 (.lit 1))))
theorem akz:aN ⟨bd cH (fun _=>[]),[],[66,127]⟩ 104 ([cv 0,cV 3]) Xa=aky:=by kernel_rfl
def akC:T X:=(.ret (.sc (.i .i64 (.lit 2))))
theorem akD:aN ⟨bd cH (fun _=>[]),[],[66,127]⟩ 104 ([cv 0,cV 3]) Xb=akC:=by kernel_rfl
def akG:T X:=(.ret (.sc (.i .i64 (.lit 2))))
theorem akH:aN ⟨bd cH (fun _=>[]),[],[66,127]⟩ 104 ([cv 0,cV 3]) Xc=akG:=by kernel_rfl
def akK:T X:=(.ret (.sc (.i .i64 (.lit 0))))
theorem akL:aN ⟨bd cH (fun _=>[]),[],[66,127]⟩ 104 ([cv 0,cV 3]) Xd=akK:=by kernel_rfl
def akO:T X:=(.ret (.sc (.i .i64 (.lit 1))))
theorem akP:aN ⟨bd cH (fun _=>[]),[],[66,127]⟩ 104 ([cv 0,cV 3]) Xe=akO:=by kernel_rfl
def aj4:T X:=(.ret (.sc (.i .i64 (.lit 0))))
theorem aj5:aN ⟨bd cH (fun _=>[]),[],[66,127]⟩ 104 ([cv 0,cV 2]) W4=aj4:=by kernel_rfl
def aj8:T X:=(.ret (.sc (.i .i64 (.lit 0))))
theorem aj9:aN ⟨bd cH (fun _=>[]),[],[66,127]⟩ 104 ([cv 0,cV 2]) W5=aj8:=by kernel_rfl
def akc:T X:=(.ret (.sc (.i .i64 (.lit 0))))
theorem akd:aN ⟨bd cH (fun _=>[]),[],[66,127]⟩ 104 ([cv 0,cV 2]) W6=akc:=by kernel_rfl
def akg:T X:=(.ret (.sc (.i .i64 (.lit 0))))
theorem akh:aN ⟨bd cH (fun _=>[]),[],[66,127]⟩ 104 ([cv 0,cV 2]) W7=akg:=by kernel_rfl
def akk:T X:=(.ret (.sc (.i .i64 (.lit 0))))
theorem akl:aN ⟨bd cH (fun _=>[]),[],[66,127]⟩ 104 ([cv 0,cV 2]) W8=akk:=by kernel_rfl
def ako:T X:=(.ret (.sc (.i .i64 (.lit 1))))
theorem akp:aN ⟨bd cH (fun _=>[]),[],[66,127]⟩ 104 ([cv 0,cV 2]) W9=ako:=by kernel_rfl
def aks:T X:=(.ret (.sc (.i .i64 (.lit 1))))
theorem akt:aN ⟨bd cH (fun _=>[]),[],[66,127]⟩ 104 ([cv 0,cV 2]) W_=aks:=by kernel_rfl
def akw:T X:=(.ret (.sc (.i .i64 (.lit 1))))
theorem akx:aN ⟨bd cH (fun _=>[]),[],[66,127]⟩ 104 ([cv 0,cV 2]) Xa=akw:=by kernel_rfl
def akA:T X:=(.ret (.sc (.i .i64 (.lit 1))))
theorem akB:aN ⟨bd cH (fun _=>[]),[],[66,127]⟩ 104 ([cv 0,cV 2]) Xb=akA:=by kernel_rfl
def akE:T X:=(.ret (.sc (.i .i64 (.lit 1))))
theorem akF:aN ⟨bd cH (fun _=>[]),[],[66,127]⟩ 104 ([cv 0,cV 2]) Xc=akE:=by kernel_rfl
def akI:T X:=(.ret (.sc (.i .i64 (.lit 0))))
theorem akJ:aN ⟨bd cH (fun _=>[]),[],[66,127]⟩ 104 ([cv 0,cV 2]) Xd=akI:=by kernel_rfl
def akM:T X:=(.ret (.sc (.i .i64 (.lit 1))))
theorem akN:aN ⟨bd cH (fun _=>[]),[],[66,127]⟩ 104 ([cv 0,cV 2]) Xe=akM:=by kernel_rfl
end Go.Proofs.YtpdfmnhgocpkcaaGreat
