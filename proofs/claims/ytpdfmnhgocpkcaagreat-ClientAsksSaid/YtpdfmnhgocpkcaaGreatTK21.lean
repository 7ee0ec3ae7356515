/- Parts of the proof, one behind the other. -/
import Derived.Test.YtpdfmnhgocpkcaaGreatTK2
import Derived.Test.YtpdfmnhgocpkcaaGreatTK20
import Derived.Test.YtpdfmnhgocpkcaaGreatXwK3
namespace Go.Proofs.YtpdfmnhgocpkcaaGreat
open Go Go.Proofs.Aw Go.Proofs.Xw
set_option maxRecDepth 100000
def cD (k:Nat):X := .sc (.s (.var k))
def Xx (k:Nat):X := .sc (.i .i64 (.var k))
def OT (a b:Nat):X := .sc (.c (.var a) (.lit false) (.var b) (.lit false))
def O8 (a b:Nat):X := .tup [Xx a,Xx b]
def Hn (k:Nat):J:=[(.lt (.var k) (.lit (-524288)),false),(.lt (.lit 524288) (.var k),false)]
def cO:List (Nat×List X×X):=[(68,[cD 0],OT 300 301),(145,[cD 0],O8 300 301)]
def d_:J:=Hn 300++Hn 301++[(.and (.eq (.var 300) (.lit 0)) (.eq (.var 301) (.lit 0)),false)]
def cX (n:Int):X := .sc (.i .i64 (.lit n))
def oA (a b:Int):U := .op .sub .i64 (.op .mul .i64 (.lit a) (.var 301)) (.op .mul .i64 (.lit b) (.var 300))
def oB (a b:Int):U := .op .sub .i64 (.op .mul .i64 (.var 300) (.lit a)) (.op .mul .i64 (.var 301) (.lit b))
def HC (a b:Int):U := .op .fT .i64 (.op .nw .i64 (.lit a) (.var 300)) (.op .nw .i64 (.lit b) (.var 301))
def mH (e:U):J:=[(.eq e (.lit 0),true),(.lt (.lit 0) e,false)]
def ops (e:U):J:=[(.eq e (.lit 0),false),(.lt (.lit 0) e,true)]
def jT (e:U):J:=[(.eq e (.lit 0),false),(.lt (.lit 0) e,false)]
def ajy:J:=d_++(ops (oA 1 0)++ops (oB 2 (-1)))
def ajE:J:=d_++(mH (oA 1 0)++(ops (.var 300)++ops (oB 2 (-1))))
def ajK:J:=d_++(ops (oA 1 0)++(mH (oB 2 (-1))++(mH (oA (-1) 2)++(ops (HC (-1) (-2))++ops (oB (-2) (-1))))))
def ajQ:J:=d_++(ops (oA 1 0)++(jT (oB 2 (-1))++(ops (oA (-1) 2)++ops (oB (-2) (-1)))))
def ajT:J:=d_++(mH (oA 1 0)++(jT (.var 300)++(ops (oA (-1) 2)++ops (oB (-2) (-1)))))
def ajW:J:=d_++(jT (oA 1 0)++(ops (oA (-1) 2)++ops (oB (-2) (-1))))
def ajZ:J:=d_++(jT (oA 1 0)++(ops (oA (-1) 2)++(mH (oB (-2) (-1))++(mH (oA (-1) (-2))++(ops (HC (-1) 2)++ops (oB 0 1))))))
def aj2:J:=d_++(jT (oA 1 0)++(ops (oA (-1) 2)++(jT (oB (-2) (-1))++(ops (oA (-1) (-2))++ops (oB 0 1)))))
def aj5:J:=d_++(jT (oA 1 0)++(mH (oA (-1) 2)++(jT (HC (-1) (-2))++(jT (oB (-2) (-1))++(ops (oA (-1) (-2))++ops (oB 0 1))))))
def aj8:J:=d_++(jT (oA 1 0)++(jT (oA (-1) 2)++(jT (oB (-2) (-1))++(ops (oA (-1) (-2))++ops (oB 0 1)))))
def ajv:J:=d_++ops (oA 1 0)
def ajB:J:=d_++(mH (oA 1 0)++ops (.var 300))
def ajH:J:=d_++(mH (oA 1 0)++(jT (.var 300)++(mH (oB 0 (-1))++(mH (oA (-1) 0)++(ops (.op .nw .i64 (.lit (-1)) (.var 300))++mH (oB 0 1))))))
def ajN:J:=d_++(jT (oA 1 0)++(jT (oB 0 (-1))++(ops (oA (-1) 0)++ops (oB 0 1))))
def ajt:T X:=(.ret (.sc (.i .i64 (.lit 0))))
theorem aju:aS ⟨bg cO (fun _=>[]),[],[66,127]⟩ 33 ([cD 0,cX 1]) d_=ajt:=by kernel_rfl
def ajz:T X:=(.ret (.sc (.i .i64 (.lit 0))))
theorem ajA:aS ⟨bg cO (fun _=>[]),[],[66,127]⟩ 33 ([cD 0,cX 3]) ajy=ajz:=by kernel_rfl
def ajF:T X:=(.ret (.sc (.i .i64 (.lit 0))))
theorem ajG:aS ⟨bg cO (fun _=>[]),[],[66,127]⟩ 33 ([cD 0,cX 3]) ajE=ajF:=by kernel_rfl
def ajL:T X:=(.ret (.sc (.i .i64 (.lit 1))))
theorem ajM:aS ⟨bg cO (fun _=>[]),[],[66,127]⟩ 33 ([cD 0,cX 3]) ajK=ajL:=by kernel_rfl
def ajR:T X:=(.ret (.sc (.i .i64 (.lit 1))))
theorem ajS:aS ⟨bg cO (fun _=>[]),[],[66,127]⟩ 33 ([cD 0,cX 3]) ajQ=ajR:=by kernel_rfl
def ajU:T X:=(.ret (.sc (.i .i64 (.lit 1))))
theorem ajV:aS ⟨bg cO (fun _=>[]),[],[66,127]⟩ 33 ([cD 0,cX 3]) ajT=ajU:=by kernel_rfl
def ajX:T X:=(.ret (.sc (.i .i64 (.lit 1))))
theorem ajY:aS ⟨bg cO (fun _=>[]),[],[66,127]⟩ 33 ([cD 0,cX 3]) ajW=ajX:=by kernel_rfl
def aj0:T X:=(.ret (.sc (.i .i64 (.lit 2))))
theorem aj1:aS ⟨bg cO (fun _=>[]),[],[66,127]⟩ 33 ([cD 0,cX 3]) ajZ=aj0:=by kernel_rfl
def aj3:T X:=(.ret (.sc (.i .i64 (.lit 2))))
theorem aj4:aS ⟨bg cO (fun _=>[]),[],[66,127]⟩ 33 ([cD 0,cX 3]) aj2=aj3:=by kernel_rfl
def aj6:T X:=(.ret (.sc (.i .i64 (.lit 2))))
theorem aj7:aS ⟨bg cO (fun _=>[]),[],[66,127]⟩ 33 ([cD 0,cX 3]) aj5=aj6:=by kernel_rfl
def aj9:T X:=(.ret (.sc (.i .i64 (.lit 2))))
theorem aka:aS ⟨bg cO (fun _=>[]),[],[66,127]⟩ 33 ([cD 0,cX 3]) aj8=aj9:=by kernel_rfl
def ajw:T X:=(.ret (.sc (.i .i64 (.lit 0))))
theorem ajx:aS ⟨bg cO (fun _=>[]),[],[66,127]⟩ 33 ([cD 0,cX 2]) ajv=ajw:=by kernel_rfl
def ajC:T X:=(.ret (.sc (.i .i64 (.lit 0))))
theorem ajD:aS ⟨bg cO (fun _=>[]),[],[66,127]⟩ 33 ([cD 0,cX 2]) ajB=ajC:=by kernel_rfl
def ajI:T X:=(.ret (.sc (.i .i64 (.lit 1))))
theorem ajJ:aS ⟨bg cO (fun _=>[]),[],[66,127]⟩ 33 ([cD 0,cX 2]) ajH=ajI:=by kernel_rfl
def ajO:T X:=(.ret (.sc (.i .i64 (.lit 1))))
theorem ajP:aS ⟨bg cO (fun _=>[]),[],[66,127]⟩ 33 ([cD 0,cX 2]) ajN=ajO:=by kernel_rfl
end Go.Proofs.YtpdfmnhgocpkcaaGreat
