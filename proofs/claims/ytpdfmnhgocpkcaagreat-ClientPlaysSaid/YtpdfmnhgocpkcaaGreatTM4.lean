/- Parts of the proof, one behind the other. -/
import Derived.Test.YtpdfmnhgocpkcaaGreatTM3
namespace Go.Proofs.YtpdfmnhgocpkcaaGreat
open Go Go.Proofs.Aw Go.Proofs.Xw
set_option maxRecDepth 100000
def iw:T X->T X->Bool
 | .ret x,.ret y=>X.beq x y
 | _,_=>false
def hfU:List Nat:=[124,98,130,61,117,12]
noncomputable def cU (sm:List Sm):cj:=⟨bd [] (fun _=>[]),sm,hfU⟩
theorem jW (ρ:aa):bZ Tryz.prog ρ (bd [] (fun _=>[])):=kW (List.forall_mem_nil _)
theorem sS {hs:List BE} {b:BE} {cs:List BE} {ρ:aa} (hb:b.I ρ=true) (h:(cs.all fun c=>nA false 400 [] hs (.or (.not b) c))=true):∀c∈cs,c.I ρ=true:=fun c H=>by
 have:=tN (ρ:=ρ) 400 [] hs _ (List.all_eq_true.1 h c H) (J.bq ρ)
 simp only[BE.I,hb,Bool.not_true,Bool.false_or]at this
 exact this
def qE (l z:List Nat):List BE:=z.map (fun k => .eq (.var k) (.lit 0))++l.flatMap (fun k=>[.lt (.var (k+1)) (.lit 1),.lt (.var 0) (.var (k+1))])++l.flatMap fun k=>[.lt (.var k) (.lit 0),.lt (.var k) (.lit 4),.lt (.var k) (.lit 1),.lt (.var k) (.lit 2),.lt (.var k) (.lit 3)]
def fj (n:Nat) (j:Bool):List X:=[.agg ([xi 0,xn n]++vi 2 8++[xl j]++vi 11 2)]
def qe (n:Nat):List BE:=(List.range n).flatMap fun k=>[.not (.lt (.var (2+2*k)) (.lit 0)),.not (.lt (.lit 3) (.var (2+2*k)))]
def gr:J:=[(.lt (.var 0) (.lit 1),false),(.lt (.lit 1099511627776) (.var 0),false)]
abbrev zB:BE := .eq (.var 4) (.lit 0)
abbrev zC:BE := .eq (.var 6) (.lit 0)
abbrev zE:BE := .eq (.var 8) (.lit 0)
abbrev DB:BE := .and zE (.eq (.var 9) (.lit 0))
abbrev DE:BE := .or (.not (.and zC (.eq (.var 7) (.lit 0)))) (.not DB)
abbrev I7:BE := .not (.or (.not (.and zB (.eq (.var 5) (.lit 0)))) DE)
abbrev DF:BE := .eq (.var 11) (.lit 0)
abbrev tU:BE := .and DF (.eq (.var 12) (.lit 0))
abbrev tV:BE := .or (.or (.not (.and (.not (.lt (.var 2) (.lit 0))) (.lt (.var 2) (.lit 4)))) (.lt (.var 3) (.lit 1))) (.lt (.var 0) (.var 3))
abbrev tW:BE := .or (.or (.or (.lt (.var 2) (.lit 0)) (.not (.lt (.var 2) (.lit 4)))) (.lt (.var 3) (.lit 1))) (.lt (.var 0) (.var 3))
abbrev IU:BE := .not (.and (.not (.lt (.var 11) (.lit 0))) (.lt (.var 11) (.lit 4)))
abbrev zD:BE := .eq (.var 2) (.lit 0)
abbrev IV:BE := .eq (.var 11) (.lit 1)
abbrev IW:BE := .and (.not zD) (.eq (.var 2) (.lit 1))
abbrev IX:BE := .eq (.var 11) (.lit 2)
abbrev Dv:BE := .and (.not zD) (.and (.not (.eq (.var 2) (.lit 1))) (.eq (.var 2) (.lit 2)))
abbrev Dw:BE := .and (.not zD) (.and (.not (.eq (.var 2) (.lit 1))) (.not (.eq (.var 2) (.lit 2))))
abbrev Dx:BE := .lt (.var 12) (.lit 1)
abbrev Dy:BE := .lt (.var 0) (.var 12)
abbrev IY:BE := .or (.or (.or (.lt (.var 11) (.lit 0)) (.not (.lt (.var 11) (.lit 4)))) Dx) Dy
abbrev IZ:BE := .eq (.var 2) (.var 11)
abbrev I0:BE := .eq (.var 4) (.lit 1)
abbrev Rg:BE := .eq (.var 4) (.lit 2)
abbrev zF:BE := .or (.or (.or (.not (.and (.not (.lt (.var 4) (.lit 0))) (.lt (.var 4) (.lit 4)))) (.ite zB zD (.ite I0 IW (.ite Rg Dv Dw)))) (.lt (.var 5) (.lit 1))) (.lt (.var 0) (.var 5))
abbrev zG:BE := .or (.or (.or (.or (.lt (.var 4) (.lit 0)) (.not (.lt (.var 4) (.lit 4)))) (.lt (.var 5) (.lit 1))) (.lt (.var 0) (.var 5))) (.eq (.var 2) (.var 4))
abbrev Rh:BE := .or zB zD
abbrev I1:BE := .ite zB IW (.or I0 IW)
abbrev Dz:BE := .ite zB Dv (.ite I0 Dv (.or Rg Dv))
abbrev DA:BE := .ite zB Dw (.ite I0 Dw (.or (.not Rg) Dw))
abbrev Ri:BE := .eq (.var 4) (.var 11)
abbrev I2:BE := .eq (.var 6) (.lit 1)
abbrev Rj:BE := .eq (.var 6) (.lit 2)
abbrev I3:BE := .or (.or (.or (.not (.and (.not (.lt (.var 6) (.lit 0))) (.lt (.var 6) (.lit 4)))) (.ite zC Rh (.ite I2 I1 (.ite Rj Dz DA)))) (.lt (.var 7) (.lit 1))) (.lt (.var 0) (.var 7))
abbrev I4:BE := .or (.or (.or (.or (.lt (.var 6) (.lit 0)) (.not (.lt (.var 6) (.lit 4)))) (.lt (.var 7) (.lit 1))) (.lt (.var 0) (.var 7))) (.or (.eq (.var 2) (.var 6)) (.eq (.var 4) (.var 6)))
abbrev Rk:BE := .or zC Rh
abbrev I5:BE := .ite zC I1 (.or I2 I1)
abbrev DC:BE := .ite zC Dz (.ite I2 Dz (.or Rj Dz))
abbrev DD:BE := .ite zC DA (.ite I2 DA (.or (.not Rj) DA))
abbrev I6:BE := .eq (.var 8) (.lit 1)
abbrev Rl:BE := .eq (.var 8) (.lit 2)
abbrev aaB:BE := .or (.or (.or (.not (.and (.not (.lt (.var 8) (.lit 0))) (.lt (.var 8) (.lit 4)))) (.ite zE Rk (.ite I6 I5 (.ite Rl DC DD)))) (.lt (.var 9) (.lit 1))) (.lt (.var 0) (.var 9))
abbrev aaC:BE := .or (.or (.or (.or (.lt (.var 8) (.lit 0)) (.not (.lt (.var 8) (.lit 4)))) (.lt (.var 9) (.lit 1))) (.lt (.var 0) (.var 9))) (.or (.eq (.var 2) (.var 8)) (.or (.eq (.var 4) (.var 8)) (.eq (.var 6) (.var 8))))
def Te:BE:=(.and I7 (.and tU (.not tV)))
theorem apC:aN (cU []) 97 (fj 1 false) gr = .ret (.sc (.b Te)):=by kernel_rfl
def Kz:BE:=(.and (.not tW) (.and I7 tU))
theorem api:aN (cU []) 105 (fj 1 false) gr = .ret (.sc (.b Kz)):=by kernel_rfl
theorem atE (ρ:aa):(Te).I ρ=(Kz).I ρ:=tM (w:=false) (n:=300) (hs:=qE [2] [4,5,6,7,8,9,11,12]) (by kernel_rfl) ρ
theorem acW (ρ:aa) (h:(Kz).I ρ=true):∀c∈qe 1,c.I ρ=true:=sS (hs:=[]) h (by kernel_rfl)
def Tf:BE:=(.and I7 (.not (.or tV (.or (.or (.or IU (.ite DF zD (.ite IV IW (.ite IX Dv Dw)))) Dx) Dy))))
theorem apD:aN (cU []) 97 (fj 1 true) gr = .ret (.sc (.b Tf)):=by kernel_rfl
def KA:BE:=(.and (.not (.or tW (.or IY IZ))) I7)
theorem apj:aN (cU []) 105 (fj 1 true) gr = .ret (.sc (.b KA)):=by kernel_rfl
theorem atF (ρ:aa):(Tf).I ρ=(KA).I ρ:=tM (w:=false) (n:=300) (hs:=qE [2,11] [4,5,6,7,8,9]) (by kernel_rfl) ρ
theorem acX (ρ:aa) (h:(KA).I ρ=true):∀c∈qe 1,c.I ρ=true:=sS (hs:=[]) h (by kernel_rfl)
def Tg:BE:=(.and (.not DE) (.and tU (.not (.or tV zF))))
theorem apE:aN (cU []) 97 (fj 2 false) gr = .ret (.sc (.b Tg)):=by kernel_rfl
def KB:BE:=(.and (.not (.or tW zG)) (.and (.not DE) tU))
theorem apk:aN (cU []) 105 (fj 2 false) gr = .ret (.sc (.b KB)):=by kernel_rfl
theorem atG (ρ:aa):(Tg).I ρ=(KB).I ρ:=tM (w:=false) (n:=300) (hs:=qE [2,4] [6,7,8,9,11,12]) (by kernel_rfl) ρ
theorem acY (ρ:aa) (h:(KB).I ρ=true):∀c∈qe 2,c.I ρ=true:=sS (hs:=[]) h (by kernel_rfl)
def Th:BE:=(.and (.not DE) (.not (.or tV (.or zF (.or (.or (.or IU (.ite DF Rh (.ite IV I1 (.ite IX Dz DA)))) Dx) Dy)))))
theorem apF:aN (cU []) 97 (fj 2 true) gr = .ret (.sc (.b Th)):=by kernel_rfl
def KC:BE:=(.and (.not (.or tW (.or zG (.or IY (.or IZ Ri))))) (.not DE))
theorem apl:aN (cU []) 105 (fj 2 true) gr = .ret (.sc (.b KC)):=by kernel_rfl
theorem atH (ρ:aa):(Th).I ρ=(KC).I ρ:=tM (w:=false) (n:=300) (hs:=qE [2,4,11] [6,7,8,9]) (by kernel_rfl) ρ
theorem acZ (ρ:aa) (h:(KC).I ρ=true):∀c∈qe 2,c.I ρ=true:=sS (hs:=[]) h (by kernel_rfl)
def Ti:BE:=(.and DB (.and tU (.not (.or tV (.or zF I3)))))
theorem apG:aN (cU []) 97 (fj 3 false) gr = .ret (.sc (.b Ti)):=by kernel_rfl
def KD:BE:=(.and (.not (.or tW (.or zG I4))) (.and DB tU))
theorem apm:aN (cU []) 105 (fj 3 false) gr = .ret (.sc (.b KD)):=by kernel_rfl
theorem atI (ρ:aa):(Ti).I ρ=(KD).I ρ:=tM (w:=false) (n:=300) (hs:=qE [2,4,6] [8,9,11,12]) (by kernel_rfl) ρ
theorem ac0 (ρ:aa) (h:(KD).I ρ=true):∀c∈qe 3,c.I ρ=true:=sS (hs:=[]) h (by kernel_rfl)
def Tj:BE:=(.and DB (.not (.or tV (.or zF (.or I3 (.or (.or (.or IU (.ite DF Rk (.ite IV I5 (.ite IX DC DD)))) Dx) Dy))))))
theorem apH:aN (cU []) 97 (fj 3 true) gr = .ret (.sc (.b Tj)):=by kernel_rfl
def KE:BE:=(.and (.not (.or tW (.or zG (.or I4 (.or IY (.or IZ (.or Ri (.eq (.var 6) (.var 11))))))))) DB)
theorem apn:aN (cU []) 105 (fj 3 true) gr = .ret (.sc (.b KE)):=by kernel_rfl
theorem atJ (ρ:aa):(Tj).I ρ=(KE).I ρ:=tM (w:=false) (n:=300) (hs:=qE [2,4,6,11] [8,9]) (by kernel_rfl) ρ
theorem ac1 (ρ:aa) (h:(KE).I ρ=true):∀c∈qe 3,c.I ρ=true:=sS (hs:=[]) h (by kernel_rfl)
def Tl:BE:=(.and tU (.not (.or tV (.or zF (.or I3 aaB)))))
theorem apI:aN (cU []) 97 (fj 4 false) gr = .ret (.sc (.b Tl)):=by kernel_rfl
def KF:BE:=(.and (.not (.or tW (.or zG (.or I4 aaC)))) tU)
theorem apo:aN (cU []) 105 (fj 4 false) gr = .ret (.sc (.b KF)):=by kernel_rfl
theorem atK (ρ:aa):(Tl).I ρ=(KF).I ρ:=tM (w:=false) (n:=300) (hs:=qE [2,4,6,8] [11,12]) (by kernel_rfl) ρ
theorem ac2 (ρ:aa) (h:(KF).I ρ=true):∀c∈qe 4,c.I ρ=true:=sS (hs:=[]) h (by kernel_rfl)
def EG:BE:=(.not (.or tV (.or zF (.or I3 (.or aaB (.or (.or (.or IU (.ite DF (.or zE Rk) (.ite IV (.ite zE I5 (.or I6 I5)) (.ite IX (.ite zE DC (.ite I6 DC (.or Rl DC))) (.ite zE DD (.ite I6 DD (.or (.not Rl) DD))))))) Dx) Dy))))))
theorem apJ:aN (cU []) 97 (fj 4 true) gr = .ret (.sc (.b EG)):=by kernel_rfl
def Ap:BE:=(.not (.or tW (.or zG (.or I4 (.or aaC (.or IY (.or IZ (.or Ri (.or (.eq (.var 6) (.var 11)) (.eq (.var 8) (.var 11)))))))))))
theorem apq:aN (cU []) 105 (fj 4 true) gr = .ret (.sc (.b Ap)):=by kernel_rfl
theorem aph (ρ:aa):(EG).I ρ=false:=by
 have:=tN (ρ:=ρ) (w:=false) 300 [] (qE [2,4,6,8,11] []) (.not EG) (by kernel_rfl) (J.bq ρ)
 simpa only[BE.I,Bool.not_eq_true']using this
theorem XM (ρ:aa):(Ap).I ρ=false:=by
 have:=tN (ρ:=ρ) (w:=true) 300 [] (qE [2,4,6,8,11] []) (.not Ap) (by kernel_rfl) (J.bq ρ)
 simpa only[BE.I,Bool.not_eq_true']using this
theorem atL (ρ:aa):(EG).I ρ=(Ap).I ρ:=(aph ρ).trans (XM ρ).symm
theorem ac3 (ρ:aa) (h:(Ap).I ρ=true):∀c∈qe 4,c.I ρ=true:=by rw[XM]at h;cases h
end Go.Proofs.YtpdfmnhgocpkcaaGreat
