/- Parts of the proof, one behind the other. -/
import Derived.Test.YtpdfmnhgocpkcaaGreatTK2
import Derived.Test.YtpdfmnhgocpkcaaGreatTK22
import Derived.Test.YtpdfmnhgocpkcaaGreatXwK3
namespace Go.Proofs.YtpdfmnhgocpkcaaGreat
open Go Go.Proofs.Aw Go.Proofs.Xw
set_option maxRecDepth 100000
def cG (e:U):J:=[(.eq e (.lit 0),false),(.lt (.lit 0) e,true),(.lt e (.lit 0),false)]
def a9 (e:U):J:=[(.eq e (.lit 0),false),(.lt (.lit 0) e,false),(.lt e (.lit 0),true)]
def im (e:U):J:=[(.eq e (.lit 0),true),(.lt (.lit 0) e,false),(.lt e (.lit 0),false)]
def Xj:J:=d_++(cG (.var 301)++(cG (oA (1) (0))++(a9 (oB (0) (1))++(a9 (oA (-1) (2))++(cG (oB (2) (-1))++(a9 (oA (-1) (-2))++(cG (oB (-2) (-1))++(a9 (oA (-1) (0))++(cG (oB (0) (-1)))))))))))
def Xk:J:=d_++(cG (.var 301)++(cG (oA (1) (0))++(a9 (oB (0) (1))++(a9 (oA (-1) (2))++(cG (oB (2) (-1))++(im (oA (-1) (-2))++(im (oB (-2) (-1))++(a9 (oA (-1) (0))++(cG (oB (0) (-1)))))))))))
def Xl:J:=d_++(cG (.var 301)++(cG (oA (1) (0))++(a9 (oB (0) (1))++(a9 (oA (-1) (2))++(cG (oB (2) (-1))++(cG (oA (-1) (-2))++(a9 (oB (-2) (-1))++(a9 (oA (-1) (0))++(cG (oB (0) (-1)))))))))))
def Xm:J:=d_++(cG (.var 301)++(cG (oA (1) (0))++(a9 (oB (0) (1))++(im (oA (-1) (2))++(im (oB (2) (-1))++(a9 (oA (-1) (-2))++(cG (oB (-2) (-1))++(a9 (oA (-1) (0))++(cG (oB (0) (-1)))))))))))
def Xn:J:=d_++(cG (.var 301)++(cG (oA (1) (0))++(a9 (oB (0) (1))++(cG (oA (-1) (2))++(a9 (oB (2) (-1))++(a9 (oA (-1) (-2))++(cG (oB (-2) (-1))++(a9 (oA (-1) (0))++(cG (oB (0) (-1)))))))))))
def Xo:J:=d_++(a9 (.var 301)++(a9 (oA (1) (0))++(cG (oB (0) (1))++(cG (oA (-1) (2))++(a9 (oB (2) (-1))++(cG (oA (-1) (-2))++(a9 (oB (-2) (-1))++(cG (oA (-1) (0))++(a9 (oB (0) (-1)))))))))))
def Xp:J:=d_++(a9 (.var 301)++(a9 (oA (1) (0))++(cG (oB (0) (1))++(cG (oA (-1) (2))++(a9 (oB (2) (-1))++(im (oA (-1) (-2))++(im (oB (-2) (-1))++(cG (oA (-1) (0))++(a9 (oB (0) (-1)))))))))))
def Xq:J:=d_++(a9 (.var 301)++(a9 (oA (1) (0))++(cG (oB (0) (1))++(cG (oA (-1) (2))++(a9 (oB (2) (-1))++(a9 (oA (-1) (-2))++(cG (oB (-2) (-1))++(cG (oA (-1) (0))++(a9 (oB (0) (-1)))))))))))
def Xr:J:=d_++(a9 (.var 301)++(a9 (oA (1) (0))++(cG (oB (0) (1))++(im (oA (-1) (2))++(im (oB (2) (-1))++(cG (oA (-1) (-2))++(a9 (oB (-2) (-1))++(cG (oA (-1) (0))++(a9 (oB (0) (-1)))))))))))
def Xt:J:=d_++(a9 (.var 301)++(a9 (oA (1) (0))++(cG (oB (0) (1))++(a9 (oA (-1) (2))++(cG (oB (2) (-1))++(cG (oA (-1) (-2))++(a9 (oB (-2) (-1))++(cG (oA (-1) (0))++(a9 (oB (0) (-1)))))))))))
def Xu:J:=d_++(im (.var 301)++(cG (.var 300)++(im (oA (1) (0))++(im (oB (0) (1))++(a9 (oA (-1) (2))++(cG (oB (2) (-1))++(cG (oA (-1) (-2))++(a9 (oB (-2) (-1))++(im (oA (-1) (0))++(im (oB (0) (-1))))))))))))
def Xv:J:=d_++(im (.var 301)++(a9 (.var 300)++(im (oA (1) (0))++(im (oB (0) (1))++(cG (oA (-1) (2))++(a9 (oB (2) (-1))++(a9 (oA (-1) (-2))++(cG (oB (-2) (-1))++(im (oA (-1) (0))++(im (oB (0) (-1))))))))))))
def akf:T X:=(.ret (.sc (.i .i64 (.lit 0))))
theorem akg:aS ⟨bg cO (fun _=>[]),[],[66,127]⟩ 104 ([cD 0,cX 1]) d_=akf:=by kernel_rfl
def akn:T X:=(.ret (.sc (.i .i64 (.lit 0))))
theorem ako:aS ⟨bg cO (fun _=>[]),[],[66,127]⟩ 104 ([cD 0,cX 3]) Xj=akn:=by kernel_rfl
def akr:T X:=(.ret (.sc (.i .i64 (.lit 0))))
theorem aks:aS ⟨bg cO (fun _=>[]),[],[66,127]⟩ 104 ([cD 0,cX 3]) Xk=akr:=by kernel_rfl
def akv:T X:=(.ret (.sc (.i .i64 (.lit 0))))
theorem akw:aS ⟨bg cO (fun _=>[]),[],[66,127]⟩ 104 ([cD 0,cX 3]) Xl=akv:=by kernel_rfl
def akz:T X:=(.ret (.sc (.i .i64 (.lit 1))))
theorem akA:aS ⟨bg cO (fun _=>[]),[],[66,127]⟩ 104 ([cD 0,cX 3]) Xm=akz:=by kernel_rfl
def akD:T X:=(.ret (.sc (.i .i64 (.lit 1))))
theorem akE:aS ⟨bg cO (fun _=>[]),[],[66,127]⟩ 104 ([cD 0,cX 3]) Xn=akD:=by kernel_rfl
def akH:T X:=(.ret (.sc (.i .i64 (.lit 2))))
theorem akI:aS ⟨bg cO (fun _=>[]),[],[66,127]⟩ 104 ([cD 0,cX 3]) Xo=akH:=by kernel_rfl
def akL:T X:=(.ret (.sc (.i .i64 (.lit 2))))
theorem akM:aS ⟨bg cO (fun _=>[]),[],[66,127]⟩ 104 ([cD 0,cX 3]) Xp=akL:=by kernel_rfl
def akP:T X:=(.ret (.sc (.i .i64 (.lit 1))))
theorem akQ:aS ⟨bg cO (fun _=>[]),[],[66,127]⟩ 104 ([cD 0,cX 3]) Xq=akP:=by kernel_rfl
def akT:T X:=(.ret (.sc (.i .i64 (.lit 2))))
theorem akU:aS ⟨bg cO (fun _=>[]),[],[66,127]⟩ 104 ([cD 0,cX 3]) Xr=akT:=by kernel_rfl
def akX:T X:=(.ret (.sc (.i .i64 (.lit 2))))
theorem akY:aS ⟨bg cO (fun _=>[]),[],[66,127]⟩ 104 ([cD 0,cX 3]) Xt=akX:=by kernel_rfl
def ak1:T X:=(.ret (.sc (.i .i64 (.lit 0))))
theorem ak2:aS ⟨bg cO (fun _=>[]),[],[66,127]⟩ 104 ([cD 0,cX 3]) Xu=ak1:=by kernel_rfl
def ak5:T X:=(.ret (.sc (.i .i64 (.lit 1))))
theorem ak6:aS ⟨bg cO (fun _=>[]),[],[66,127]⟩ 104 ([cD 0,cX 3]) Xv=ak5:=by kernel_rfl
def akl:T X:=(.ret (.sc (.i .i64 (.lit 0))))
theorem akm:aS ⟨bg cO (fun _=>[]),[],[66,127]⟩ 104 ([cD 0,cX 2]) Xj=akl:=by kernel_rfl
def akp:T X:=(.ret (.sc (.i .i64 (.lit 0))))
theorem akq:aS ⟨bg cO (fun _=>[]),[],[66,127]⟩ 104 ([cD 0,cX 2]) Xk=akp:=by kernel_rfl
def akt:T X:=(.ret (.sc (.i .i64 (.lit 0))))
theorem aku:aS ⟨bg cO (fun _=>[]),[],[66,127]⟩ 104 ([cD 0,cX 2]) Xl=akt:=by kernel_rfl
def akx:T X:=(.ret (.sc (.i .i64 (.lit 0))))
theorem aky:aS ⟨bg cO (fun _=>[]),[],[66,127]⟩ 104 ([cD 0,cX 2]) Xm=akx:=by kernel_rfl
def akB:T X:=(.ret (.sc (.i .i64 (.lit 0))))
theorem akC:aS ⟨bg cO (fun _=>[]),[],[66,127]⟩ 104 ([cD 0,cX 2]) Xn=akB:=by kernel_rfl
def akF:T X:=(.ret (.sc (.i .i64 (.lit 1))))
theorem akG:aS ⟨bg cO (fun _=>[]),[],[66,127]⟩ 104 ([cD 0,cX 2]) Xo=akF:=by kernel_rfl
def akJ:T X:=(.ret (.sc (.i .i64 (.lit 1))))
theorem akK:aS ⟨bg cO (fun _=>[]),[],[66,127]⟩ 104 ([cD 0,cX 2]) Xp=akJ:=by kernel_rfl
def akN:T X:=(.ret (.sc (.i .i64 (.lit 1))))
theorem akO:aS ⟨bg cO (fun _=>[]),[],[66,127]⟩ 104 ([cD 0,cX 2]) Xq=akN:=by kernel_rfl
def akR:T X:=(.ret (.sc (.i .i64 (.lit 1))))
theorem akS:aS ⟨bg cO (fun _=>[]),[],[66,127]⟩ 104 ([cD 0,cX 2]) Xr=akR:=by kernel_rfl
def akV:T X:=(.ret (.sc (.i .i64 (.lit 1))))
theorem akW:aS ⟨bg cO (fun _=>[]),[],[66,127]⟩ 104 ([cD 0,cX 2]) Xt=akV:=by kernel_rfl
def akZ:T X:=(.ret (.sc (.i .i64 (.lit 0))))
theorem ak0:aS ⟨bg cO (fun _=>[]),[],[66,127]⟩ 104 ([cD 0,cX 2]) Xu=akZ:=by kernel_rfl
def ak3:T X:=(.ret (.sc (.i .i64 (.lit 1))))
theorem ak4:aS ⟨bg cO (fun _=>[]),[],[66,127]⟩ 104 ([cD 0,cX 2]) Xv=ak3:=by kernel_rfl
end Go.Proofs.YtpdfmnhgocpkcaaGreat
