/- Parts of the proof, one behind the other. -/
import Derived.Test.YtpdfmnhgocpkcaaGreatTM3
namespace Go.Proofs.YtpdfmnhgocpkcaaGreat
open Go Go.Proofs.Aw Go.Proofs.Xw
set_option maxRecDepth 100000
def tY:T X->T X->Bool
 | .ret x,.ret y=>X.beq x y
 | _,_=>false
def hfU:List Nat:=[124,98,130,61,117,12]
noncomputable def cU (sm:List Sm):Cfg2:=⟨bU [] (fun _=>[]),sm,hfU⟩
theorem pJ (J:Rho):CfgOk Tryz.prog J (bU [] (fun _=>[])):=lG (List.forall_mem_nil _)
theorem qh {hs:List BE} {b:BE} {cs:List BE} {J:Rho} (hb:b.den J=true) (h:(cs.all fun c=>CO false 400 [] hs (.or (.not b) c))=true):∀c∈cs,c.den J=true:=fun c hc=>by
 have:=pO (J:=J) 400 [] hs _ (List.all_eq_true.1 h c hc) (Facts.ok_nil J)
 simp only[BE.den,hb,Bool.not_true,Bool.false_or]at this
 exact this
def hnt (l z:List Nat):List BE:=z.map (fun k => .eq (.var k) (.lit 0))++l.flatMap (fun k=>[.lt (.var (k+1)) (.lit 1),.lt (.var 0) (.var (k+1))])++l.flatMap fun k=>[.lt (.var k) (.lit 0),.lt (.var k) (.lit 4),.lt (.var k) (.lit 1),.lt (.var k) (.lit 2),.lt (.var k) (.lit 3)]
def DV (n:Nat) (j:Bool):List X:=[.agg ([xi 0,xn n]++vi 2 8++[xl j]++vi 11 2)]
def bdN (n:Nat):List BE:=(List.range n).flatMap fun k=>[.not (.lt (.var (2+2*k)) (.lit 0)),.not (.lt (.lit 3) (.var (2+2*k)))]
def G9:Facts:=[(.lt (.var 0) (.lit 1),false),(.lt (.lit 1099511627776) (.var 0),false)]
abbrev Aa:BE := .eq (.var 4) (.lit 0)
abbrev zZ:BE := .eq (.var 6) (.lit 0)
abbrev zY:BE := .eq (.var 8) (.lit 0)
abbrev Ea:BE := .and zY (.eq (.var 9) (.lit 0))
abbrev D9:BE := .or (.not (.and zZ (.eq (.var 7) (.lit 0)))) (.not Ea)
abbrev Ju:BE := .not (.or (.not (.and Aa (.eq (.var 5) (.lit 0)))) D9)
abbrev D8:BE := .eq (.var 11) (.lit 0)
abbrev ui:BE := .and D8 (.eq (.var 12) (.lit 0))
abbrev uh:BE := .or (.or (.not (.and (.not (.lt (.var 2) (.lit 0))) (.lt (.var 2) (.lit 4)))) (.lt (.var 3) (.lit 1))) (.lt (.var 0) (.var 3))
abbrev ug:BE := .or (.or (.or (.lt (.var 2) (.lit 0)) (.not (.lt (.var 2) (.lit 4)))) (.lt (.var 3) (.lit 1))) (.lt (.var 0) (.var 3))
abbrev Dw:BE := .not (.and (.not (.lt (.var 11) (.lit 0))) (.lt (.var 11) (.lit 4)))
abbrev vJ:BE := .eq (.var 2) (.lit 0)
abbrev Dv:BE := .eq (.var 11) (.lit 1)
abbrev Du:BE := .and (.not vJ) (.eq (.var 2) (.lit 1))
abbrev Dt:BE := .eq (.var 11) (.lit 2)
abbrev yM:BE := .and (.not vJ) (.and (.not (.eq (.var 2) (.lit 1))) (.eq (.var 2) (.lit 2)))
abbrev yL:BE := .and (.not vJ) (.and (.not (.eq (.var 2) (.lit 1))) (.not (.eq (.var 2) (.lit 2))))
abbrev yK:BE := .lt (.var 12) (.lit 1)
abbrev yJ:BE := .lt (.var 0) (.var 12)
abbrev Dq:BE := .or (.or (.or (.lt (.var 11) (.lit 0)) (.not (.lt (.var 11) (.lit 4)))) yK) yJ
abbrev Dp:BE := .eq (.var 2) (.var 11)
abbrev Dn:BE := .eq (.var 4) (.lit 1)
abbrev JB:BE := .eq (.var 4) (.lit 2)
abbrev vH:BE := .or (.or (.or (.not (.and (.not (.lt (.var 4) (.lit 0))) (.lt (.var 4) (.lit 4)))) (.ite Aa vJ (.ite Dn Du (.ite JB yM yL)))) (.lt (.var 5) (.lit 1))) (.lt (.var 0) (.var 5))
abbrev vG:BE := .or (.or (.or (.or (.lt (.var 4) (.lit 0)) (.not (.lt (.var 4) (.lit 4)))) (.lt (.var 5) (.lit 1))) (.lt (.var 0) (.var 5))) (.eq (.var 2) (.var 4))
abbrev JA:BE := .or Aa vJ
abbrev Dk:BE := .ite Aa Du (.or Dn Du)
abbrev yI:BE := .ite Aa yM (.ite Dn yM (.or JB yM))
abbrev yH:BE := .ite Aa yL (.ite Dn yL (.or (.not JB) yL))
abbrev Jz:BE := .eq (.var 4) (.var 11)
abbrev Dj:BE := .eq (.var 6) (.lit 1)
abbrev Jy:BE := .eq (.var 6) (.lit 2)
abbrev Di:BE := .or (.or (.or (.not (.and (.not (.lt (.var 6) (.lit 0))) (.lt (.var 6) (.lit 4)))) (.ite zZ JA (.ite Dj Dk (.ite Jy yI yH)))) (.lt (.var 7) (.lit 1))) (.lt (.var 0) (.var 7))
abbrev Dh:BE := .or (.or (.or (.or (.lt (.var 6) (.lit 0)) (.not (.lt (.var 6) (.lit 4)))) (.lt (.var 7) (.lit 1))) (.lt (.var 0) (.var 7))) (.or (.eq (.var 2) (.var 6)) (.eq (.var 4) (.var 6)))
abbrev Jw:BE := .or zZ JA
abbrev Df:BE := .ite zZ Dk (.or Dj Dk)
abbrev yG:BE := .ite zZ yI (.ite Dj yI (.or Jy yI))
abbrev yF:BE := .ite zZ yH (.ite Dj yH (.or (.not Jy) yH))
abbrev Dc:BE := .eq (.var 8) (.lit 1)
abbrev Jv:BE := .eq (.var 8) (.lit 2)
abbrev Tu:BE := .or (.or (.or (.not (.and (.not (.lt (.var 8) (.lit 0))) (.lt (.var 8) (.lit 4)))) (.ite zY Jw (.ite Dc Df (.ite Jv yG yF)))) (.lt (.var 9) (.lit 1))) (.lt (.var 0) (.var 9))
abbrev Tt:BE := .or (.or (.or (.or (.lt (.var 8) (.lit 0)) (.not (.lt (.var 8) (.lit 4)))) (.lt (.var 9) (.lit 1))) (.lt (.var 0) (.var 9))) (.or (.eq (.var 2) (.var 8)) (.or (.eq (.var 4) (.var 8)) (.eq (.var 6) (.var 8))))
def al4:BE:=(.and Ju (.and ui (.not uh)))
theorem a08:aU (cU []) 97 (DV 1 false) G9 = .ret (.sc (.b al4)):=by kernel_rfl
def LH:BE:=(.and (.not ug) (.and Ju ui))
theorem aB1:aU (cU []) 105 (DV 1 false) G9 = .ret (.sc (.b LH)):=by kernel_rfl
theorem ce7 (J:Rho):(al4).den J=(LH).den J:=mP (w:=false) (n:=300) (hs:=hnt [2] [4,5,6,7,8,9,11,12]) (by kernel_rfl) J
theorem cF4 (J:Rho) (h:(LH).den J=true):∀c∈bdN 1,c.den J=true:=qh (hs:=[]) h (by kernel_rfl)
def al3:BE:=(.and Ju (.not (.or uh (.or (.or (.or Dw (.ite D8 vJ (.ite Dv Du (.ite Dt yM yL)))) yK) yJ))))
theorem a07:aU (cU []) 97 (DV 1 true) G9 = .ret (.sc (.b al3)):=by kernel_rfl
def LG:BE:=(.and (.not (.or ug (.or Dq Dp))) Ju)
theorem aB0:aU (cU []) 105 (DV 1 true) G9 = .ret (.sc (.b LG)):=by kernel_rfl
theorem ce6 (J:Rho):(al3).den J=(LG).den J:=mP (w:=false) (n:=300) (hs:=hnt [2,11] [4,5,6,7,8,9]) (by kernel_rfl) J
theorem cF3 (J:Rho) (h:(LG).den J=true):∀c∈bdN 1,c.den J=true:=qh (hs:=[]) h (by kernel_rfl)
def al2:BE:=(.and (.not D9) (.and ui (.not (.or uh vH))))
theorem a06:aU (cU []) 97 (DV 2 false) G9 = .ret (.sc (.b al2)):=by kernel_rfl
def LD:BE:=(.and (.not (.or ug vG)) (.and (.not D9) ui))
theorem aA9:aU (cU []) 105 (DV 2 false) G9 = .ret (.sc (.b LD)):=by kernel_rfl
theorem ce5 (J:Rho):(al2).den J=(LD).den J:=mP (w:=false) (n:=300) (hs:=hnt [2,4] [6,7,8,9,11,12]) (by kernel_rfl) J
theorem cF2 (J:Rho) (h:(LD).den J=true):∀c∈bdN 2,c.den J=true:=qh (hs:=[]) h (by kernel_rfl)
def al1:BE:=(.and (.not D9) (.not (.or uh (.or vH (.or (.or (.or Dw (.ite D8 JA (.ite Dv Dk (.ite Dt yI yH)))) yK) yJ)))))
theorem a05:aU (cU []) 97 (DV 2 true) G9 = .ret (.sc (.b al1)):=by kernel_rfl
def LC:BE:=(.and (.not (.or ug (.or vG (.or Dq (.or Dp Jz))))) (.not D9))
theorem aA8:aU (cU []) 105 (DV 2 true) G9 = .ret (.sc (.b LC)):=by kernel_rfl
theorem ce4 (J:Rho):(al1).den J=(LC).den J:=mP (w:=false) (n:=300) (hs:=hnt [2,4,11] [6,7,8,9]) (by kernel_rfl) J
theorem cF1 (J:Rho) (h:(LC).den J=true):∀c∈bdN 2,c.den J=true:=qh (hs:=[]) h (by kernel_rfl)
def al0:BE:=(.and Ea (.and ui (.not (.or uh (.or vH Di)))))
theorem a04:aU (cU []) 97 (DV 3 false) G9 = .ret (.sc (.b al0)):=by kernel_rfl
def Lu:BE:=(.and (.not (.or ug (.or vG Dh))) (.and Ea ui))
theorem aA7:aU (cU []) 105 (DV 3 false) G9 = .ret (.sc (.b Lu)):=by kernel_rfl
theorem ce3 (J:Rho):(al0).den J=(Lu).den J:=mP (w:=false) (n:=300) (hs:=hnt [2,4,6] [8,9,11,12]) (by kernel_rfl) J
theorem cF0 (J:Rho) (h:(Lu).den J=true):∀c∈bdN 3,c.den J=true:=qh (hs:=[]) h (by kernel_rfl)
def ak9:BE:=(.and Ea (.not (.or uh (.or vH (.or Di (.or (.or (.or Dw (.ite D8 Jw (.ite Dv Df (.ite Dt yG yF)))) yK) yJ))))))
theorem a03:aU (cU []) 97 (DV 3 true) G9 = .ret (.sc (.b ak9)):=by kernel_rfl
def Lt:BE:=(.and (.not (.or ug (.or vG (.or Dh (.or Dq (.or Dp (.or Jz (.eq (.var 6) (.var 11))))))))) Ea)
theorem aA6:aU (cU []) 105 (DV 3 true) G9 = .ret (.sc (.b Lt)):=by kernel_rfl
theorem ce2 (J:Rho):(ak9).den J=(Lt).den J:=mP (w:=false) (n:=300) (hs:=hnt [2,4,6,11] [8,9]) (by kernel_rfl) J
theorem cE9 (J:Rho) (h:(Lt).den J=true):∀c∈bdN 3,c.den J=true:=qh (hs:=[]) h (by kernel_rfl)
def ak8:BE:=(.and ui (.not (.or uh (.or vH (.or Di Tu)))))
theorem a02:aU (cU []) 97 (DV 4 false) G9 = .ret (.sc (.b ak8)):=by kernel_rfl
def Lr:BE:=(.and (.not (.or ug (.or vG (.or Dh Tt)))) ui)
theorem aA5:aU (cU []) 105 (DV 4 false) G9 = .ret (.sc (.b Lr)):=by kernel_rfl
theorem ce1 (J:Rho):(ak8).den J=(Lr).den J:=mP (w:=false) (n:=300) (hs:=hnt [2,4,6,8] [11,12]) (by kernel_rfl) J
theorem cE8 (J:Rho) (h:(Lr).den J=true):∀c∈bdN 4,c.den J=true:=qh (hs:=[]) h (by kernel_rfl)
def Lp:BE:=(.not (.or uh (.or vH (.or Di (.or Tu (.or (.or (.or Dw (.ite D8 (.or zY Jw) (.ite Dv (.ite zY Df (.or Dc Df)) (.ite Dt (.ite zY yG (.ite Dc yG (.or Jv yG))) (.ite zY yF (.ite Dc yF (.or (.not Jv) yF))))))) yK) yJ))))))
theorem a01:aU (cU []) 97 (DV 4 true) G9 = .ret (.sc (.b Lp)):=by kernel_rfl
def zN:BE:=(.not (.or ug (.or vG (.or Dh (.or Tt (.or Dq (.or Dp (.or Jz (.or (.eq (.var 6) (.var 11)) (.eq (.var 8) (.var 11)))))))))))
theorem aA4:aU (cU []) 105 (DV 4 true) G9 = .ret (.sc (.b zN)):=by kernel_rfl
theorem a14 (J:Rho):(Lp).den J=false:=by
 have:=pO (J:=J) (w:=false) 300 [] (hnt [2,4,6,8,11] []) (.not Lp) (by kernel_rfl) (Facts.ok_nil J)
 simpa only[BE.den,Bool.not_eq_true']using this
theorem Ue (J:Rho):(zN).den J=false:=by
 have:=pO (J:=J) (w:=true) 300 [] (hnt [2,4,6,8,11] []) (.not zN) (by kernel_rfl) (Facts.ok_nil J)
 simpa only[BE.den,Bool.not_eq_true']using this
theorem ce0 (J:Rho):(Lp).den J=(zN).den J:=(a14 J).trans (Ue J).symm
theorem cE7 (J:Rho) (h:(zN).den J=true):∀c∈bdN 4,c.den J=true:=by rw[Ue]at h;cases h
end Go.Proofs.YtpdfmnhgocpkcaaGreat
