/- Parts of the proof, one behind the other. -/
import Derived.Test.YtpdfmnhgocpkcaaGreatTM3
namespace Go.Proofs.YtpdfmnhgocpkcaaGreat
open Go Go.Proofs.Aw Go.Proofs.Xw
set_option maxRecDepth 100000
def iw:T X->T X->Bool
 | .ret x,.ret y=>X.beq x y
 | _,_=>false
def hfU:List Nat:=[124,98,130,61,117,12]
noncomputable def cU (sm:List Sm):cr:=⟨bd [] (fun _=>[]),sm,hfU⟩
theorem jX (ρ:aa):b4 Tryz.prog ρ (bd [] (fun _=>[])):=kW (List.forall_mem_nil _)
theorem sT {hs:List BE} {b:BE} {cs:List BE} {ρ:aa} (hb:b.I ρ=true) (h:(cs.all fun c=>nw false 400 [] hs (.or (.not b) c))=true):∀c∈cs,c.I ρ=true:=fun c H=>by
 have:=tN (ρ:=ρ) 400 [] hs _ (List.all_eq_true.1 h c H) (J.bt ρ)
 simp only[BE.I,hb,Bool.not_true,Bool.false_or]at this
 exact this
def qE (l z:List Nat):List BE:=z.map (fun k => .eq (.var k) (.lit 0))++l.flatMap (fun k=>[.lt (.var (k+1)) (.lit 1),.lt (.var 0) (.var (k+1))])++l.flatMap fun k=>[.lt (.var k) (.lit 0),.lt (.var k) (.lit 4),.lt (.var k) (.lit 1),.lt (.var k) (.lit 2),.lt (.var k) (.lit 3)]
def fj (n:Nat) (j:Bool):List X:=[.agg ([xi 0,xn n]++vi 2 8++[xl j]++vi 11 2)]
def qf (n:Nat):List BE:=(List.range n).flatMap fun k=>[.not (.lt (.var (2+2*k)) (.lit 0)),.not (.lt (.lit 3) (.var (2+2*k)))]
def gq:J:=[(.lt (.var 0) (.lit 1),false),(.lt (.lit 1099511627776) (.var 0),false)]
abbrev zC:BE := .eq (.var 4) (.lit 0)
abbrev zD:BE := .eq (.var 6) (.lit 0)
abbrev zF:BE := .eq (.var 8) (.lit 0)
abbrev DC:BE := .and zF (.eq (.var 9) (.lit 0))
abbrev DF:BE := .or (.not (.and zD (.eq (.var 7) (.lit 0)))) (.not DC)
abbrev I8:BE := .not (.or (.not (.and zC (.eq (.var 5) (.lit 0)))) DF)
abbrev DG:BE := .eq (.var 11) (.lit 0)
abbrev tW:BE := .and DG (.eq (.var 12) (.lit 0))
abbrev tX:BE := .or (.or (.not (.and (.not (.lt (.var 2) (.lit 0))) (.lt (.var 2) (.lit 4)))) (.lt (.var 3) (.lit 1))) (.lt (.var 0) (.var 3))
abbrev tY:BE := .or (.or (.or (.lt (.var 2) (.lit 0)) (.not (.lt (.var 2) (.lit 4)))) (.lt (.var 3) (.lit 1))) (.lt (.var 0) (.var 3))
abbrev IV:BE := .not (.and (.not (.lt (.var 11) (.lit 0))) (.lt (.var 11) (.lit 4)))
abbrev zE:BE := .eq (.var 2) (.lit 0)
abbrev IW:BE := .eq (.var 11) (.lit 1)
abbrev IX:BE := .and (.not zE) (.eq (.var 2) (.lit 1))
abbrev IY:BE := .eq (.var 11) (.lit 2)
abbrev Dw:BE := .and (.not zE) (.and (.not (.eq (.var 2) (.lit 1))) (.eq (.var 2) (.lit 2)))
abbrev Dx:BE := .and (.not zE) (.and (.not (.eq (.var 2) (.lit 1))) (.not (.eq (.var 2) (.lit 2))))
abbrev Dy:BE := .lt (.var 12) (.lit 1)
abbrev Dz:BE := .lt (.var 0) (.var 12)
abbrev IZ:BE := .or (.or (.or (.lt (.var 11) (.lit 0)) (.not (.lt (.var 11) (.lit 4)))) Dy) Dz
abbrev I0:BE := .eq (.var 2) (.var 11)
abbrev I1:BE := .eq (.var 4) (.lit 1)
abbrev Rf:BE := .eq (.var 4) (.lit 2)
abbrev zG:BE := .or (.or (.or (.not (.and (.not (.lt (.var 4) (.lit 0))) (.lt (.var 4) (.lit 4)))) (.ite zC zE (.ite I1 IX (.ite Rf Dw Dx)))) (.lt (.var 5) (.lit 1))) (.lt (.var 0) (.var 5))
abbrev zH:BE := .or (.or (.or (.or (.lt (.var 4) (.lit 0)) (.not (.lt (.var 4) (.lit 4)))) (.lt (.var 5) (.lit 1))) (.lt (.var 0) (.var 5))) (.eq (.var 2) (.var 4))
abbrev Rg:BE := .or zC zE
abbrev I2:BE := .ite zC IX (.or I1 IX)
abbrev DA:BE := .ite zC Dw (.ite I1 Dw (.or Rf Dw))
abbrev DB:BE := .ite zC Dx (.ite I1 Dx (.or (.not Rf) Dx))
abbrev Rh:BE := .eq (.var 4) (.var 11)
abbrev I3:BE := .eq (.var 6) (.lit 1)
abbrev Ri:BE := .eq (.var 6) (.lit 2)
abbrev I4:BE := .or (.or (.or (.not (.and (.not (.lt (.var 6) (.lit 0))) (.lt (.var 6) (.lit 4)))) (.ite zD Rg (.ite I3 I2 (.ite Ri DA DB)))) (.lt (.var 7) (.lit 1))) (.lt (.var 0) (.var 7))
abbrev I5:BE := .or (.or (.or (.or (.lt (.var 6) (.lit 0)) (.not (.lt (.var 6) (.lit 4)))) (.lt (.var 7) (.lit 1))) (.lt (.var 0) (.var 7))) (.or (.eq (.var 2) (.var 6)) (.eq (.var 4) (.var 6)))
abbrev Rj:BE := .or zD Rg
abbrev I6:BE := .ite zD I2 (.or I3 I2)
abbrev DD:BE := .ite zD DA (.ite I3 DA (.or Ri DA))
abbrev DE:BE := .ite zD DB (.ite I3 DB (.or (.not Ri) DB))
abbrev I7:BE := .eq (.var 8) (.lit 1)
abbrev Rk:BE := .eq (.var 8) (.lit 2)
abbrev aaz:BE := .or (.or (.or (.not (.and (.not (.lt (.var 8) (.lit 0))) (.lt (.var 8) (.lit 4)))) (.ite zF Rj (.ite I7 I6 (.ite Rk DD DE)))) (.lt (.var 9) (.lit 1))) (.lt (.var 0) (.var 9))
abbrev aaA:BE := .or (.or (.or (.or (.lt (.var 8) (.lit 0)) (.not (.lt (.var 8) (.lit 4)))) (.lt (.var 9) (.lit 1))) (.lt (.var 0) (.var 9))) (.or (.eq (.var 2) (.var 8)) (.or (.eq (.var 4) (.var 8)) (.eq (.var 6) (.var 8))))
def Tc:BE:=(.and I8 (.and tW (.not tX)))
theorem ao7:aM (cU []) 97 (fj 1 false) gq = .ret (.sc (.b Tc)):=by kernel_rfl
def Ky:BE:=(.and (.not tY) (.and I8 tW))
theorem aoO:aM (cU []) 105 (fj 1 false) gq = .ret (.sc (.b Ky)):=by kernel_rfl
theorem atb (ρ:aa):(Tc).I ρ=(Ky).I ρ:=tM (w:=false) (n:=300) (hs:=qE [2] [4,5,6,7,8,9,11,12]) (by kernel_rfl) ρ
theorem acU (ρ:aa) (h:(Ky).I ρ=true):∀c∈qf 1,c.I ρ=true:=sT (hs:=[]) h (by kernel_rfl)
def Td:BE:=(.and I8 (.not (.or tX (.or (.or (.or IV (.ite DG zE (.ite IW IX (.ite IY Dw Dx)))) Dy) Dz))))
theorem ao8:aM (cU []) 97 (fj 1 true) gq = .ret (.sc (.b Td)):=by kernel_rfl
def Kz:BE:=(.and (.not (.or tY (.or IZ I0))) I8)
theorem aoP:aM (cU []) 105 (fj 1 true) gq = .ret (.sc (.b Kz)):=by kernel_rfl
theorem atc (ρ:aa):(Td).I ρ=(Kz).I ρ:=tM (w:=false) (n:=300) (hs:=qE [2,11] [4,5,6,7,8,9]) (by kernel_rfl) ρ
theorem acV (ρ:aa) (h:(Kz).I ρ=true):∀c∈qf 1,c.I ρ=true:=sT (hs:=[]) h (by kernel_rfl)
def Te:BE:=(.and (.not DF) (.and tW (.not (.or tX zG))))
theorem ao9:aM (cU []) 97 (fj 2 false) gq = .ret (.sc (.b Te)):=by kernel_rfl
def KA:BE:=(.and (.not (.or tY zH)) (.and (.not DF) tW))
theorem aoQ:aM (cU []) 105 (fj 2 false) gq = .ret (.sc (.b KA)):=by kernel_rfl
theorem atd (ρ:aa):(Te).I ρ=(KA).I ρ:=tM (w:=false) (n:=300) (hs:=qE [2,4] [6,7,8,9,11,12]) (by kernel_rfl) ρ
theorem acW (ρ:aa) (h:(KA).I ρ=true):∀c∈qf 2,c.I ρ=true:=sT (hs:=[]) h (by kernel_rfl)
def Tf:BE:=(.and (.not DF) (.not (.or tX (.or zG (.or (.or (.or IV (.ite DG Rg (.ite IW I2 (.ite IY DA DB)))) Dy) Dz)))))
theorem apa:aM (cU []) 97 (fj 2 true) gq = .ret (.sc (.b Tf)):=by kernel_rfl
def KB:BE:=(.and (.not (.or tY (.or zH (.or IZ (.or I0 Rh))))) (.not DF))
theorem aoR:aM (cU []) 105 (fj 2 true) gq = .ret (.sc (.b KB)):=by kernel_rfl
theorem ate (ρ:aa):(Tf).I ρ=(KB).I ρ:=tM (w:=false) (n:=300) (hs:=qE [2,4,11] [6,7,8,9]) (by kernel_rfl) ρ
theorem acX (ρ:aa) (h:(KB).I ρ=true):∀c∈qf 2,c.I ρ=true:=sT (hs:=[]) h (by kernel_rfl)
def Tg:BE:=(.and DC (.and tW (.not (.or tX (.or zG I4)))))
theorem apb:aM (cU []) 97 (fj 3 false) gq = .ret (.sc (.b Tg)):=by kernel_rfl
def KC:BE:=(.and (.not (.or tY (.or zH I5))) (.and DC tW))
theorem aoS:aM (cU []) 105 (fj 3 false) gq = .ret (.sc (.b KC)):=by kernel_rfl
theorem atf (ρ:aa):(Tg).I ρ=(KC).I ρ:=tM (w:=false) (n:=300) (hs:=qE [2,4,6] [8,9,11,12]) (by kernel_rfl) ρ
theorem acY (ρ:aa) (h:(KC).I ρ=true):∀c∈qf 3,c.I ρ=true:=sT (hs:=[]) h (by kernel_rfl)
def Th:BE:=(.and DC (.not (.or tX (.or zG (.or I4 (.or (.or (.or IV (.ite DG Rj (.ite IW I6 (.ite IY DD DE)))) Dy) Dz))))))
theorem apc:aM (cU []) 97 (fj 3 true) gq = .ret (.sc (.b Th)):=by kernel_rfl
def KD:BE:=(.and (.not (.or tY (.or zH (.or I5 (.or IZ (.or I0 (.or Rh (.eq (.var 6) (.var 11))))))))) DC)
theorem aoT:aM (cU []) 105 (fj 3 true) gq = .ret (.sc (.b KD)):=by kernel_rfl
theorem atg (ρ:aa):(Th).I ρ=(KD).I ρ:=tM (w:=false) (n:=300) (hs:=qE [2,4,6,11] [8,9]) (by kernel_rfl) ρ
theorem acZ (ρ:aa) (h:(KD).I ρ=true):∀c∈qf 3,c.I ρ=true:=sT (hs:=[]) h (by kernel_rfl)
def Ti:BE:=(.and tW (.not (.or tX (.or zG (.or I4 aaz)))))
theorem apd:aM (cU []) 97 (fj 4 false) gq = .ret (.sc (.b Ti)):=by kernel_rfl
def KE:BE:=(.and (.not (.or tY (.or zH (.or I5 aaA)))) tW)
theorem aoU:aM (cU []) 105 (fj 4 false) gq = .ret (.sc (.b KE)):=by kernel_rfl
theorem ath (ρ:aa):(Ti).I ρ=(KE).I ρ:=tM (w:=false) (n:=300) (hs:=qE [2,4,6,8] [11,12]) (by kernel_rfl) ρ
theorem ac0 (ρ:aa) (h:(KE).I ρ=true):∀c∈qf 4,c.I ρ=true:=sT (hs:=[]) h (by kernel_rfl)
def EJ:BE:=(.not (.or tX (.or zG (.or I4 (.or aaz (.or (.or (.or IV (.ite DG (.or zF Rj) (.ite IW (.ite zF I6 (.or I7 I6)) (.ite IY (.ite zF DD (.ite I7 DD (.or Rk DD))) (.ite zF DE (.ite I7 DE (.or (.not Rk) DE))))))) Dy) Dz))))))
theorem ape:aM (cU []) 97 (fj 4 true) gq = .ret (.sc (.b EJ)):=by kernel_rfl
def Am:BE:=(.not (.or tY (.or zH (.or I5 (.or aaA (.or IZ (.or I0 (.or Rh (.or (.eq (.var 6) (.var 11)) (.eq (.var 8) (.var 11)))))))))))
theorem aoV:aM (cU []) 105 (fj 4 true) gq = .ret (.sc (.b Am)):=by kernel_rfl
theorem aoN (ρ:aa):(EJ).I ρ=false:=by
 have:=tN (ρ:=ρ) (w:=false) 300 [] (qE [2,4,6,8,11] []) (.not EJ) (by kernel_rfl) (J.bt ρ)
 simpa only[BE.I,Bool.not_eq_true']using this
theorem XJ (ρ:aa):(Am).I ρ=false:=by
 have:=tN (ρ:=ρ) (w:=true) 300 [] (qE [2,4,6,8,11] []) (.not Am) (by kernel_rfl) (J.bt ρ)
 simpa only[BE.I,Bool.not_eq_true']using this
theorem ati (ρ:aa):(EJ).I ρ=(Am).I ρ:=(aoN ρ).trans (XJ ρ).symm
theorem ac1 (ρ:aa) (h:(Am).I ρ=true):∀c∈qf 4,c.I ρ=true:=by rw[XJ]at h;cases h
end Go.Proofs.YtpdfmnhgocpkcaaGreat
