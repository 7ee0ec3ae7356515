/- Parts of the proof, one behind the other. -/
import Derived.Test.YtpdfmnhgocpkcaaGreatTM2
import Derived.Test.YtpdfmnhgocpkcaaGreatTM9
import Derived.Test.YtpdfmnhgocpkcaaGreatXwM3
namespace Go.Proofs.YtpdfmnhgocpkcaaGreat
open Go Go.Proofs.Aw Go.Proofs.Xw
set_option maxRecDepth 100000
def cv (k:Nat):X := .sc (.s (.var k))
def Xf (k:Nat):X := .sc (.i .i64 (.var k))
def OI (a b:Nat):X := .sc (.c (.var a) (.lit false) (.var b) (.lit false))
def OV (a b:Nat):X := .tup [Xf a,Xf b]
def G2 (k:Nat):J:=[(.lt (.var k) (.lit (-524288)),false),(.lt (.lit 524288) (.var k),false)]
def cH:List (Nat×List X×X):=[(68,[cv 0],OI 300 301),(145,[cv 0],OV 300 301)]
def dU:J:=G2 300++G2 301++[(.and (.eq (.var 300) (.lit 0)) (.eq (.var 301) (.lit 0)),false)]
def cV (n:Int):X := .sc (.i .i64 (.lit n))
def oA (a b:Int):U := .op .sub .i64 (.op .mul .i64 (.lit a) (.var 301)) (.op .mul .i64 (.lit b) (.var 300))
def oB (a b:Int):U := .op .sub .i64 (.op .mul .i64 (.var 300) (.lit a)) (.op .mul .i64 (.var 301) (.lit b))
def He (a b:Int):U := .op .fO .i64 (.op .np .i64 (.lit a) (.var 300)) (.op .np .i64 (.lit b) (.var 301))
def mA (e:U):J:=[(.eq e (.lit 0),true),(.lt (.lit 0) e,false)]
def ops (e:U):J:=[(.eq e (.lit 0),false),(.lt (.lit 0) e,true)]
def jG (e:U):J:=[(.eq e (.lit 0),false),(.lt (.lit 0) e,false)]
def ajh:J:=dU++(ops (oA 1 0)++ops (oB 2 (-1)))
def ajn:J:=dU++(mA (oA 1 0)++(ops (.var 300)++ops (oB 2 (-1))))
def ajt:J:=dU++(ops (oA 1 0)++(mA (oB 2 (-1))++(mA (oA (-1) 2)++(ops (He (-1) (-2))++ops (oB (-2) (-1))))))
def ajz:J:=dU++(ops (oA 1 0)++(jG (oB 2 (-1))++(ops (oA (-1) 2)++ops (oB (-2) (-1)))))
def ajC:J:=dU++(mA (oA 1 0)++(jG (.var 300)++(ops (oA (-1) 2)++ops (oB (-2) (-1)))))
def ajF:J:=dU++(jG (oA 1 0)++(ops (oA (-1) 2)++ops (oB (-2) (-1))))
def ajI:J:=dU++(jG (oA 1 0)++(ops (oA (-1) 2)++(mA (oB (-2) (-1))++(mA (oA (-1) (-2))++(ops (He (-1) 2)++ops (oB 0 1))))))
def ajL:J:=dU++(jG (oA 1 0)++(ops (oA (-1) 2)++(jG (oB (-2) (-1))++(ops (oA (-1) (-2))++ops (oB 0 1)))))
def ajO:J:=dU++(jG (oA 1 0)++(mA (oA (-1) 2)++(jG (He (-1) (-2))++(jG (oB (-2) (-1))++(ops (oA (-1) (-2))++ops (oB 0 1))))))
def ajR:J:=dU++(jG (oA 1 0)++(jG (oA (-1) 2)++(jG (oB (-2) (-1))++(ops (oA (-1) (-2))++ops (oB 0 1)))))
def aje:J:=dU++ops (oA 1 0)
def ajk:J:=dU++(mA (oA 1 0)++ops (.var 300))
def ajq:J:=dU++(mA (oA 1 0)++(jG (.var 300)++(mA (oB 0 (-1))++(mA (oA (-1) 0)++(ops (.op .np .i64 (.lit (-1)) (.var 300))++mA (oB 0 1))))))
def ajw:J:=dU++(jG (oA 1 0)++(jG (oB 0 (-1))++(ops (oA (-1) 0)++ops (oB 0 1))))
def ajc:T X:=(.ret (.sc (.i .i64 (.lit 0))))
theorem ajd:aN ⟨bd cH (fun _=>[]),[],[66,127]⟩ 33 ([cv 0,cV 1]) dU=ajc:=by kernel_rfl
def aji:T X:=(.ret (.sc (.i .i64 (.lit 0))))
theorem ajj:aN ⟨bd cH (fun _=>[]),[],[66,127]⟩ 33 ([cv 0,cV 3]) ajh=aji:=by kernel_rfl
def ajo:T X:=(.ret (.sc (.i .i64 (.lit 0))))
theorem ajp:aN ⟨bd cH (fun _=>[]),[],[66,127]⟩ 33 ([cv 0,cV 3]) ajn=ajo:=by kernel_rfl
def aju:T X:=(.ret (.sc (.i .i64 (.lit 1))))
theorem ajv:aN ⟨bd cH (fun _=>[]),[],[66,127]⟩ 33 ([cv 0,cV 3]) ajt=aju:=by kernel_rfl
def ajA:T X:=(.ret (.sc (.i .i64 (.lit 1))))
theorem ajB:aN ⟨bd cH (fun _=>[]),[],[66,127]⟩ 33 ([cv 0,cV 3]) ajz=ajA:=by kernel_rfl
def ajD:T X:=(.ret (.sc (.i .i64 (.lit 1))))
theorem ajE:aN ⟨bd cH (fun _=>[]),[],[66,127]⟩ 33 ([cv 0,cV 3]) ajC=ajD:=by kernel_rfl
def ajG:T X:=(.ret (.sc (.i .i64 (.lit 1))))
theorem ajH:aN ⟨bd cH (fun _=>[]),[],[66,127]⟩ 33 ([cv 0,cV 3]) ajF=ajG:=by kernel_rfl
def ajJ:T X:=(.ret (.sc (.i .i64 (.lit 2))))
theorem ajK:aN ⟨bd cH (fun _=>[]),[],[66,127]⟩ 33 ([cv 0,cV 3]) ajI=ajJ:=by kernel_rfl
def ajM:T X:=(.ret (.sc (.i .i64 (.lit 2))))
theorem ajN:aN ⟨bd cH (fun _=>[]),[],[66,127]⟩ 33 ([cv 0,cV 3]) ajL=ajM:=by kernel_rfl
def ajP:T X:=(.ret (.sc (.i .i64 (.lit 2))))
theorem ajQ:aN ⟨bd cH (fun _=>[]),[],[66,127]⟩ 33 ([cv 0,cV 3]) ajO=ajP:=by kernel_rfl
def ajS:T X:=(.ret (.sc (.i .i64 (.lit 2))))
theorem ajT:aN ⟨bd cH (fun _=>[]),[],[66,127]⟩ 33 ([cv 0,cV 3]) ajR=ajS:=by kernel_rfl
def ajf:T X:=(.ret (.sc (.i .i64 (.lit 0))))
theorem ajg:aN ⟨bd cH (fun _=>[]),[],[66,127]⟩ 33 ([cv 0,cV 2]) aje=ajf:=by kernel_rfl
def ajl:T X:=(.ret (.sc (.i .i64 (.lit 0))))
theorem ajm:aN ⟨bd cH (fun _=>[]),[],[66,127]⟩ 33 ([cv 0,cV 2]) ajk=ajl:=by kernel_rfl
def ajr:T X:=(.ret (.sc (.i .i64 (.lit 1))))
theorem ajs:aN ⟨bd cH (fun _=>[]),[],[66,127]⟩ 33 ([cv 0,cV 2]) ajq=ajr:=by kernel_rfl
def ajx:T X:=(.ret (.sc (.i .i64 (.lit 1))))
theorem ajy:aN ⟨bd cH (fun _=>[]),[],[66,127]⟩ 33 ([cv 0,cV 2]) ajw=ajx:=by kernel_rfl
end Go.Proofs.YtpdfmnhgocpkcaaGreat
