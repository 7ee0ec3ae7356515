/- Parts of the proof, one behind the other. -/
import Derived.Test.YtpdfmnhgocpkcaaGreatTM2
import Derived.Test.YtpdfmnhgocpkcaaGreatTM10
import Derived.Test.YtpdfmnhgocpkcaaGreatXwM3
namespace Go.Proofs.YtpdfmnhgocpkcaaGreat
open Go Go.Proofs.Aw Go.Proofs.Xw
set_option maxRecDepth 100000
def cv (k:Nat):X := .sc (.s (.var k))
def Xc (k:Nat):X := .sc (.i .i64 (.var k))
def OI (a b:Nat):X := .sc (.c (.var a) (.lit false) (.var b) (.lit false))
def OV (a b:Nat):X := .tup [Xc a,Xc b]
def G3 (k:Nat):J:=[(.lt (.var k) (.lit (-524288)),false),(.lt (.lit 524288) (.var k),false)]
def cH:List (Nat×List X×X):=[(68,[cv 0],OI 300 301),(145,[cv 0],OV 300 301)]
def dU:J:=G3 300++G3 301++[(.and (.eq (.var 300) (.lit 0)) (.eq (.var 301) (.lit 0)),false)]
def cT (n:Int):X := .sc (.i .i64 (.lit n))
def oA (a b:Int):U := .op .sub .i64 (.op .mul .i64 (.lit a) (.var 301)) (.op .mul .i64 (.lit b) (.var 300))
def oB (a b:Int):U := .op .sub .i64 (.op .mul .i64 (.var 300) (.lit a)) (.op .mul .i64 (.var 301) (.lit b))
def Hf (a b:Int):U := .op .fN .i64 (.op .nk .i64 (.lit a) (.var 300)) (.op .nk .i64 (.lit b) (.var 301))
def mA (e:U):J:=[(.eq e (.lit 0),true),(.lt (.lit 0) e,false)]
def ops (e:U):J:=[(.eq e (.lit 0),false),(.lt (.lit 0) e,true)]
def jF (e:U):J:=[(.eq e (.lit 0),false),(.lt (.lit 0) e,false)]
def ajk:J:=dU++(ops (oA 1 0)++ops (oB 2 (-1)))
def ajq:J:=dU++(mA (oA 1 0)++(ops (.var 300)++ops (oB 2 (-1))))
def ajw:J:=dU++(ops (oA 1 0)++(mA (oB 2 (-1))++(mA (oA (-1) 2)++(ops (Hf (-1) (-2))++ops (oB (-2) (-1))))))
def ajC:J:=dU++(ops (oA 1 0)++(jF (oB 2 (-1))++(ops (oA (-1) 2)++ops (oB (-2) (-1)))))
def ajF:J:=dU++(mA (oA 1 0)++(jF (.var 300)++(ops (oA (-1) 2)++ops (oB (-2) (-1)))))
def ajI:J:=dU++(jF (oA 1 0)++(ops (oA (-1) 2)++ops (oB (-2) (-1))))
def ajL:J:=dU++(jF (oA 1 0)++(ops (oA (-1) 2)++(mA (oB (-2) (-1))++(mA (oA (-1) (-2))++(ops (Hf (-1) 2)++ops (oB 0 1))))))
def ajO:J:=dU++(jF (oA 1 0)++(ops (oA (-1) 2)++(jF (oB (-2) (-1))++(ops (oA (-1) (-2))++ops (oB 0 1)))))
def ajR:J:=dU++(jF (oA 1 0)++(mA (oA (-1) 2)++(jF (Hf (-1) (-2))++(jF (oB (-2) (-1))++(ops (oA (-1) (-2))++ops (oB 0 1))))))
def ajU:J:=dU++(jF (oA 1 0)++(jF (oA (-1) 2)++(jF (oB (-2) (-1))++(ops (oA (-1) (-2))++ops (oB 0 1)))))
def ajh:J:=dU++ops (oA 1 0)
def ajn:J:=dU++(mA (oA 1 0)++ops (.var 300))
def ajt:J:=dU++(mA (oA 1 0)++(jF (.var 300)++(mA (oB 0 (-1))++(mA (oA (-1) 0)++(ops (.op .nk .i64 (.lit (-1)) (.var 300))++mA (oB 0 1))))))
def ajz:J:=dU++(jF (oA 1 0)++(jF (oB 0 (-1))++(ops (oA (-1) 0)++ops (oB 0 1))))
def ajf:T X:=(.ret (.sc (.i .i64 (.lit 0))))
theorem ajg:aM ⟨bd cH (fun _=>[]),[],[66,127]⟩ 33 ([cv 0,cT 1]) dU=ajf:=by kernel_rfl
def ajl:T X:=(.ret (.sc (.i .i64 (.lit 0))))
theorem ajm:aM ⟨bd cH (fun _=>[]),[],[66,127]⟩ 33 ([cv 0,cT 3]) ajk=ajl:=by kernel_rfl
def ajr:T X:=(.ret (.sc (.i .i64 (.lit 0))))
theorem ajs:aM ⟨bd cH (fun _=>[]),[],[66,127]⟩ 33 ([cv 0,cT 3]) ajq=ajr:=by kernel_rfl
def ajx:T X:=(.ret (.sc (.i .i64 (.lit 1))))
theorem ajy:aM ⟨bd cH (fun _=>[]),[],[66,127]⟩ 33 ([cv 0,cT 3]) ajw=ajx:=by kernel_rfl
def ajD:T X:=(.ret (.sc (.i .i64 (.lit 1))))
theorem ajE:aM ⟨bd cH (fun _=>[]),[],[66,127]⟩ 33 ([cv 0,cT 3]) ajC=ajD:=by kernel_rfl
def ajG:T X:=(.ret (.sc (.i .i64 (.lit 1))))
theorem ajH:aM ⟨bd cH (fun _=>[]),[],[66,127]⟩ 33 ([cv 0,cT 3]) ajF=ajG:=by kernel_rfl
def ajJ:T X:=(.ret (.sc (.i .i64 (.lit 1))))
theorem ajK:aM ⟨bd cH (fun _=>[]),[],[66,127]⟩ 33 ([cv 0,cT 3]) ajI=ajJ:=by kernel_rfl
def ajM:T X:=(.ret (.sc (.i .i64 (.lit 2))))
theorem ajN:aM ⟨bd cH (fun _=>[]),[],[66,127]⟩ 33 ([cv 0,cT 3]) ajL=ajM:=by kernel_rfl
def ajP:T X:=(.ret (.sc (.i .i64 (.lit 2))))
theorem ajQ:aM ⟨bd cH (fun _=>[]),[],[66,127]⟩ 33 ([cv 0,cT 3]) ajO=ajP:=by kernel_rfl
def ajS:T X:=(.ret (.sc (.i .i64 (.lit 2))))
theorem ajT:aM ⟨bd cH (fun _=>[]),[],[66,127]⟩ 33 ([cv 0,cT 3]) ajR=ajS:=by kernel_rfl
def ajV:T X:=(.ret (.sc (.i .i64 (.lit 2))))
theorem ajW:aM ⟨bd cH (fun _=>[]),[],[66,127]⟩ 33 ([cv 0,cT 3]) ajU=ajV:=by kernel_rfl
def aji:T X:=(.ret (.sc (.i .i64 (.lit 0))))
theorem ajj:aM ⟨bd cH (fun _=>[]),[],[66,127]⟩ 33 ([cv 0,cT 2]) ajh=aji:=by kernel_rfl
def ajo:T X:=(.ret (.sc (.i .i64 (.lit 0))))
theorem ajp:aM ⟨bd cH (fun _=>[]),[],[66,127]⟩ 33 ([cv 0,cT 2]) ajn=ajo:=by kernel_rfl
def aju:T X:=(.ret (.sc (.i .i64 (.lit 1))))
theorem ajv:aM ⟨bd cH (fun _=>[]),[],[66,127]⟩ 33 ([cv 0,cT 2]) ajt=aju:=by kernel_rfl
def ajA:T X:=(.ret (.sc (.i .i64 (.lit 1))))
theorem ajB:aM ⟨bd cH (fun _=>[]),[],[66,127]⟩ 33 ([cv 0,cT 2]) ajz=ajA:=by kernel_rfl
end Go.Proofs.YtpdfmnhgocpkcaaGreat
