/- Parts of the proof, one behind the other. -/
import Derived.Test.YtpdfmnhgocpkcaaGreatTK3
namespace Go.Proofs.YtpdfmnhgocpkcaaGreat
open Go Go.Proofs.Aw Go.Proofs.Xw
set_option maxRecDepth 100000
def iK:T X->T X->Bool
 | .ret x,.ret y=>X.beq x y
 | _,_=>false
def hfU:List Nat:=[124,98,130,61,117,12]
noncomputable def cU (sm:List Sm):cr:=⟨bg [] (fun _=>[]),sm,hfU⟩
theorem kc (ρ:aa):cf Tryz.prog ρ (bg [] (fun _=>[])):=lb (List.forall_mem_nil _)
theorem tf {hs:List BE} {b:BE} {cs:List BE} {ρ:aa} (hb:b.I ρ=true) (h:(cs.all fun c=>nH false 400 [] hs (.or (.not b) c))=true):∀c∈cs,c.I ρ=true:=fun c H=>by
 have:=ue (ρ:=ρ) 400 [] hs _ (List.all_eq_true.1 h c H) (J.bq ρ)
 simp only[BE.I,hb,Bool.not_true,Bool.false_or]at this
 exact this
def q_ (l z:List Nat):List BE:=z.map (fun k => .eq (.var k) (.lit 0))++l.flatMap (fun k=>[.lt (.var (k+1)) (.lit 1),.lt (.var 0) (.var (k+1))])++l.flatMap fun k=>[.lt (.var k) (.lit 0),.lt (.var k) (.lit 4),.lt (.var k) (.lit 1),.lt (.var k) (.lit 2),.lt (.var k) (.lit 3)]
def fu (n:Nat) (j:Bool):List X:=[.agg ([xi 0,xn n]++vi 2 8++[xl j]++vi 11 2)]
def qy (n:Nat):List BE:=(List.range n).flatMap fun k=>[.not (.lt (.var (2+2*k)) (.lit 0)),.not (.lt (.lit 3) (.var (2+2*k)))]
def gy:J:=[(.lt (.var 0) (.lit 1),false),(.lt (.lit 1099511627776) (.var 0),false)]
abbrev zM:BE := .eq (.var 4) (.lit 0)
abbrev zN:BE := .eq (.var 6) (.lit 0)
abbrev zP:BE := .eq (.var 8) (.lit 0)
abbrev D2:BE := .and zP (.eq (.var 9) (.lit 0))
abbrev D5:BE := .or (.not (.and zN (.eq (.var 7) (.lit 0)))) (.not D2)
abbrev Jq:BE := .not (.or (.not (.and zM (.eq (.var 5) (.lit 0)))) D5)
abbrev D6:BE := .eq (.var 11) (.lit 0)
abbrev uu:BE := .and D6 (.eq (.var 12) (.lit 0))
abbrev uv:BE := .or (.or (.not (.and (.not (.lt (.var 2) (.lit 0))) (.lt (.var 2) (.lit 4)))) (.lt (.var 3) (.lit 1))) (.lt (.var 0) (.var 3))
abbrev uw:BE := .or (.or (.or (.lt (.var 2) (.lit 0)) (.not (.lt (.var 2) (.lit 4)))) (.lt (.var 3) (.lit 1))) (.lt (.var 0) (.var 3))
abbrev Jd:BE := .not (.and (.not (.lt (.var 11) (.lit 0))) (.lt (.var 11) (.lit 4)))
abbrev zO:BE := .eq (.var 2) (.lit 0)
abbrev Je:BE := .eq (.var 11) (.lit 1)
abbrev Jf:BE := .and (.not zO) (.eq (.var 2) (.lit 1))
abbrev Jg:BE := .eq (.var 11) (.lit 2)
abbrev DW:BE := .and (.not zO) (.and (.not (.eq (.var 2) (.lit 1))) (.eq (.var 2) (.lit 2)))
abbrev DX:BE := .and (.not zO) (.and (.not (.eq (.var 2) (.lit 1))) (.not (.eq (.var 2) (.lit 2))))
abbrev DY:BE := .lt (.var 12) (.lit 1)
abbrev DZ:BE := .lt (.var 0) (.var 12)
abbrev Jh:BE := .or (.or (.or (.lt (.var 11) (.lit 0)) (.not (.lt (.var 11) (.lit 4)))) DY) DZ
abbrev Ji:BE := .eq (.var 2) (.var 11)
abbrev Jj:BE := .eq (.var 4) (.lit 1)
abbrev Rw:BE := .eq (.var 4) (.lit 2)
abbrev zQ:BE := .or (.or (.or (.not (.and (.not (.lt (.var 4) (.lit 0))) (.lt (.var 4) (.lit 4)))) (.ite zM zO (.ite Jj Jf (.ite Rw DW DX)))) (.lt (.var 5) (.lit 1))) (.lt (.var 0) (.var 5))
abbrev zR:BE := .or (.or (.or (.or (.lt (.var 4) (.lit 0)) (.not (.lt (.var 4) (.lit 4)))) (.lt (.var 5) (.lit 1))) (.lt (.var 0) (.var 5))) (.eq (.var 2) (.var 4))
abbrev Rx:BE := .or zM zO
abbrev Jk:BE := .ite zM Jf (.or Jj Jf)
abbrev D0:BE := .ite zM DW (.ite Jj DW (.or Rw DW))
abbrev D1:BE := .ite zM DX (.ite Jj DX (.or (.not Rw) DX))
abbrev Ry:BE := .eq (.var 4) (.var 11)
abbrev Jl:BE := .eq (.var 6) (.lit 1)
abbrev Rz:BE := .eq (.var 6) (.lit 2)
abbrev Jm:BE := .or (.or (.or (.not (.and (.not (.lt (.var 6) (.lit 0))) (.lt (.var 6) (.lit 4)))) (.ite zN Rx (.ite Jl Jk (.ite Rz D0 D1)))) (.lt (.var 7) (.lit 1))) (.lt (.var 0) (.var 7))
abbrev Jn:BE := .or (.or (.or (.or (.lt (.var 6) (.lit 0)) (.not (.lt (.var 6) (.lit 4)))) (.lt (.var 7) (.lit 1))) (.lt (.var 0) (.var 7))) (.or (.eq (.var 2) (.var 6)) (.eq (.var 4) (.var 6)))
abbrev RA:BE := .or zN Rx
abbrev Jo:BE := .ite zN Jk (.or Jl Jk)
abbrev D3:BE := .ite zN D0 (.ite Jl D0 (.or Rz D0))
abbrev D4:BE := .ite zN D1 (.ite Jl D1 (.or (.not Rz) D1))
abbrev Jp:BE := .eq (.var 8) (.lit 1)
abbrev RB:BE := .eq (.var 8) (.lit 2)
abbrev abh:BE := .or (.or (.or (.not (.and (.not (.lt (.var 8) (.lit 0))) (.lt (.var 8) (.lit 4)))) (.ite zP RA (.ite Jp Jo (.ite RB D3 D4)))) (.lt (.var 9) (.lit 1))) (.lt (.var 0) (.var 9))
abbrev abi:BE := .or (.or (.or (.or (.lt (.var 8) (.lit 0)) (.not (.lt (.var 8) (.lit 4)))) (.lt (.var 9) (.lit 1))) (.lt (.var 0) (.var 9))) (.or (.eq (.var 2) (.var 8)) (.or (.eq (.var 4) (.var 8)) (.eq (.var 6) (.var 8))))
def Tw:BE:=(.and Jq (.and uu (.not uv)))
theorem apq:aS (cU []) 97 (fu 1 false) gy = .ret (.sc (.b Tw)):=by kernel_rfl
def KQ:BE:=(.and (.not uw) (.and Jq uu))
theorem ao5:aS (cU []) 105 (fu 1 false) gy = .ret (.sc (.b KQ)):=by kernel_rfl
theorem atn (ρ:aa):(Tw).I ρ=(KQ).I ρ:=ud (w:=false) (n:=300) (hs:=q_ [2] [4,5,6,7,8,9,11,12]) (by kernel_rfl) ρ
theorem adq (ρ:aa) (h:(KQ).I ρ=true):∀c∈qy 1,c.I ρ=true:=tf (hs:=[]) h (by kernel_rfl)
def Tx:BE:=(.and Jq (.not (.or uv (.or (.or (.or Jd (.ite D6 zO (.ite Je Jf (.ite Jg DW DX)))) DY) DZ))))
theorem apr:aS (cU []) 97 (fu 1 true) gy = .ret (.sc (.b Tx)):=by kernel_rfl
def KR:BE:=(.and (.not (.or uw (.or Jh Ji))) Jq)
theorem ao6:aS (cU []) 105 (fu 1 true) gy = .ret (.sc (.b KR)):=by kernel_rfl
theorem ato (ρ:aa):(Tx).I ρ=(KR).I ρ:=ud (w:=false) (n:=300) (hs:=q_ [2,11] [4,5,6,7,8,9]) (by kernel_rfl) ρ
theorem adr (ρ:aa) (h:(KR).I ρ=true):∀c∈qy 1,c.I ρ=true:=tf (hs:=[]) h (by kernel_rfl)
def Ty:BE:=(.and (.not D5) (.and uu (.not (.or uv zQ))))
theorem aps:aS (cU []) 97 (fu 2 false) gy = .ret (.sc (.b Ty)):=by kernel_rfl
def KT:BE:=(.and (.not (.or uw zR)) (.and (.not D5) uu))
theorem ao7:aS (cU []) 105 (fu 2 false) gy = .ret (.sc (.b KT)):=by kernel_rfl
theorem atp (ρ:aa):(Ty).I ρ=(KT).I ρ:=ud (w:=false) (n:=300) (hs:=q_ [2,4] [6,7,8,9,11,12]) (by kernel_rfl) ρ
theorem ads (ρ:aa) (h:(KT).I ρ=true):∀c∈qy 2,c.I ρ=true:=tf (hs:=[]) h (by kernel_rfl)
def Tz:BE:=(.and (.not D5) (.not (.or uv (.or zQ (.or (.or (.or Jd (.ite D6 Rx (.ite Je Jk (.ite Jg D0 D1)))) DY) DZ)))))
theorem apt:aS (cU []) 97 (fu 2 true) gy = .ret (.sc (.b Tz)):=by kernel_rfl
def KU:BE:=(.and (.not (.or uw (.or zR (.or Jh (.or Ji Ry))))) (.not D5))
theorem ao8:aS (cU []) 105 (fu 2 true) gy = .ret (.sc (.b KU)):=by kernel_rfl
theorem atq (ρ:aa):(Tz).I ρ=(KU).I ρ:=ud (w:=false) (n:=300) (hs:=q_ [2,4,11] [6,7,8,9]) (by kernel_rfl) ρ
theorem adt (ρ:aa) (h:(KU).I ρ=true):∀c∈qy 2,c.I ρ=true:=tf (hs:=[]) h (by kernel_rfl)
def TA:BE:=(.and D2 (.and uu (.not (.or uv (.or zQ Jm)))))
theorem apu:aS (cU []) 97 (fu 3 false) gy = .ret (.sc (.b TA)):=by kernel_rfl
def KV:BE:=(.and (.not (.or uw (.or zR Jn))) (.and D2 uu))
theorem ao9:aS (cU []) 105 (fu 3 false) gy = .ret (.sc (.b KV)):=by kernel_rfl
theorem atr (ρ:aa):(TA).I ρ=(KV).I ρ:=ud (w:=false) (n:=300) (hs:=q_ [2,4,6] [8,9,11,12]) (by kernel_rfl) ρ
theorem adu (ρ:aa) (h:(KV).I ρ=true):∀c∈qy 3,c.I ρ=true:=tf (hs:=[]) h (by kernel_rfl)
def TB:BE:=(.and D2 (.not (.or uv (.or zQ (.or Jm (.or (.or (.or Jd (.ite D6 RA (.ite Je Jo (.ite Jg D3 D4)))) DY) DZ))))))
theorem apv:aS (cU []) 97 (fu 3 true) gy = .ret (.sc (.b TB)):=by kernel_rfl
def KW:BE:=(.and (.not (.or uw (.or zR (.or Jn (.or Jh (.or Ji (.or Ry (.eq (.var 6) (.var 11))))))))) D2)
theorem apa:aS (cU []) 105 (fu 3 true) gy = .ret (.sc (.b KW)):=by kernel_rfl
theorem ats (ρ:aa):(TB).I ρ=(KW).I ρ:=ud (w:=false) (n:=300) (hs:=q_ [2,4,6,11] [8,9]) (by kernel_rfl) ρ
theorem adv (ρ:aa) (h:(KW).I ρ=true):∀c∈qy 3,c.I ρ=true:=tf (hs:=[]) h (by kernel_rfl)
def TC:BE:=(.and uu (.not (.or uv (.or zQ (.or Jm abh)))))
theorem apw:aS (cU []) 97 (fu 4 false) gy = .ret (.sc (.b TC)):=by kernel_rfl
def KY:BE:=(.and (.not (.or uw (.or zR (.or Jn abi)))) uu)
theorem apb:aS (cU []) 105 (fu 4 false) gy = .ret (.sc (.b KY)):=by kernel_rfl
theorem att (ρ:aa):(TC).I ρ=(KY).I ρ:=ud (w:=false) (n:=300) (hs:=q_ [2,4,6,8] [11,12]) (by kernel_rfl) ρ
theorem adw (ρ:aa) (h:(KY).I ρ=true):∀c∈qy 4,c.I ρ=true:=tf (hs:=[]) h (by kernel_rfl)
def E3:BE:=(.not (.or uv (.or zQ (.or Jm (.or abh (.or (.or (.or Jd (.ite D6 (.or zP RA) (.ite Je (.ite zP Jo (.or Jp Jo)) (.ite Jg (.ite zP D3 (.ite Jp D3 (.or RB D3))) (.ite zP D4 (.ite Jp D4 (.or (.not RB) D4))))))) DY) DZ))))))
theorem apx:aS (cU []) 97 (fu 4 true) gy = .ret (.sc (.b E3)):=by kernel_rfl
def AJ:BE:=(.not (.or uw (.or zR (.or Jn (.or abi (.or Jh (.or Ji (.or Ry (.or (.eq (.var 6) (.var 11)) (.eq (.var 8) (.var 11)))))))))))
theorem apc:aS (cU []) 105 (fu 4 true) gy = .ret (.sc (.b AJ)):=by kernel_rfl
theorem ao4 (ρ:aa):(E3).I ρ=false:=by
 have:=ue (ρ:=ρ) (w:=false) 300 [] (q_ [2,4,6,8,11] []) (.not E3) (by kernel_rfl) (J.bq ρ)
 simpa only[BE.I,Bool.not_eq_true']using this
theorem X6 (ρ:aa):(AJ).I ρ=false:=by
 have:=ue (ρ:=ρ) (w:=true) 300 [] (q_ [2,4,6,8,11] []) (.not AJ) (by kernel_rfl) (J.bq ρ)
 simpa only[BE.I,Bool.not_eq_true']using this
theorem atu (ρ:aa):(E3).I ρ=(AJ).I ρ:=(ao4 ρ).trans (X6 ρ).symm
theorem adx (ρ:aa) (h:(AJ).I ρ=true):∀c∈qy 4,c.I ρ=true:=by rw[X6]at h;cases h
end Go.Proofs.YtpdfmnhgocpkcaaGreat
