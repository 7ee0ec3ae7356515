/- Parts of the proof, one behind the other. -/
import Derived.Test.YtpdfmnhgocpkcaaGreatTM30
import Derived.Test.YtpdfmnhgocpkcaaGreatTM9
namespace Go.Proofs.YtpdfmnhgocpkcaaGreat
open Go Go.Proofs.Aw Go.Proofs.Xw
set_option maxRecDepth 100000
def ky:Nat->TE
 | 0 => .cl 194 0 (.cl 2 2 (.var 400))
 | j+1 => .cl 194 0 (.op .padd .i64 (.lit ((j+1:Nat):Int)) (.cl 2 2 (.var 400)))
def E5 (j:Nat):BE := .lt (.slen (ky j)) (.lit 1)
def EZ (j:Nat):BE := .lt (.lit 16) (.slen (ky j))
def Aj (j k:Nat):BE := .seq (ky j) (ky k)
def KX:X := .rl 1 kyN kyL false
def KS:List (Nat×List X×X):=[(64,[.agg (vi 405 9)],xb 690),(102,[.agg (vi 405 9)],xb 690),(87,[KX],xb 691)]
noncomputable def cK:Cfg2:=⟨bU [] (fun _=>[]),[],[117,140]⟩
noncomputable def cN:Cfg2:=⟨RH KS (fun _=>[]) [] cls [],[],[48]⟩
def aN:List X:=[.agg (vi 405 9),xi 1,KX]
def atF (j:Nat):Facts:=[(.lt (.lit j) kyN,true),(.lt (.lit 6) kyN,false)]
def xG:X := .tup [.k (.pointer none),xn 1]
def nJ:T (X×dR)->Bool
 | .ret (r,d)=>X.beq r xG&&d.isEmpty
 | .br _ x y=>nJ x&&nJ y
 | _=>false
theorem gU {J:Rho}:∀{t:T (X×dR)},nJ t=true->t.sel J=some (xG,[])
 | .ret (r,d),h=>by
  simp only[nJ,Bool.and_eq_true]at h
  have h1:=X.beq_eq _ _ h.1
  have h2:=List.isEmpty_iff.1 h.2
  subst h1 h2
  rfl
 | .br c x y,h=>by
  simp only[nJ,Bool.and_eq_true]at h
  simp only[T.sel]
  split
  ·exact gU h.1
  ·exact gU h.2
 | .need _ _,h=>by cases h
 | .fail _,h=>by cases h
noncomputable def n87 (j:Nat) (c:BE):Bool:=tY (aU cK 87 [KX] ((c,true)::atF j)) (.ret (xl false))
noncomputable def n74 (j:Nat) (c:BE):Bool:=nJ (pK cN 74 aN [] ((c,true)::(.var 690,true)::(atF j++rQ)))
theorem bS3:(n87 0 (E5 0)&&(n87 0 (EZ 0)&&(List.range 0).all fun k=>n87 0 (Aj 0 k)))=true:=by kernel_rfl
theorem bS9:(n74 0 (E5 0)&&(n74 0 (EZ 0)&&(List.range 0).all fun k=>n74 0 (Aj k 0)))=true:=by kernel_rfl
theorem bS0:(n87 1 (E5 1)&&(n87 1 (EZ 1)&&(List.range 1).all fun k=>n87 1 (Aj 1 k)))=true:=by kernel_rfl
theorem bS8:(n74 1 (E5 1)&&(n74 1 (EZ 1)&&(List.range 1).all fun k=>n74 1 (Aj k 1)))=true:=by kernel_rfl
theorem bR9:(n87 2 (E5 2)&&(n87 2 (EZ 2)&&(List.range 2).all fun k=>n87 2 (Aj 2 k)))=true:=by kernel_rfl
theorem bS7:(n74 2 (E5 2)&&(n74 2 (EZ 2)&&(List.range 2).all fun k=>n74 2 (Aj k 2)))=true:=by kernel_rfl
theorem bR8:(n87 3 (E5 3)&&(n87 3 (EZ 3)&&(List.range 3).all fun k=>n87 3 (Aj 3 k)))=true:=by kernel_rfl
theorem bS6:(n74 3 (E5 3)&&(n74 3 (EZ 3)&&(List.range 3).all fun k=>n74 3 (Aj k 3)))=true:=by kernel_rfl
theorem bR7:(n87 4 (E5 4)&&(n87 4 (EZ 4)&&(List.range 4).all fun k=>n87 4 (Aj 4 k)))=true:=by kernel_rfl
theorem bS5:(n74 4 (E5 4)&&(n74 4 (EZ 4)&&(List.range 4).all fun k=>n74 4 (Aj k 4)))=true:=by kernel_rfl
theorem bR6:(n87 5 (E5 5)&&(n87 5 (EZ 5)&&(List.range 5).all fun k=>n87 5 (Aj 5 k)))=true:=by kernel_rfl
theorem bS4:(n74 5 (E5 5)&&(n74 5 (EZ 5)&&(List.range 5).all fun k=>n74 5 (Aj k 5)))=true:=by kernel_rfl
theorem aE7 {j:Nat} (h:j<6):n87 j (E5 j)=true/\n87 j (EZ j)=true/\∀k,k<j->n87 j (Aj j k)=true:=by
 have go:∀j,(n87 j (E5 j)&&(n87 j (EZ j)&&(List.range j).all fun k=>n87 j (Aj j k)))=true->n87 j (E5 j)=true/\n87 j (EZ j)=true/\∀k,k<j->n87 j (Aj j k)=true:=fun j h=>by
  simp only[Bool.and_eq_true,List.all_eq_true,List.mem_range]at h
  exact h
 rcases(show j=0\/j=1\/j=2\/j=3\/j=4\/j=5 by omega)with rfl | rfl | rfl | rfl | rfl | rfl
 ·exact go 0 bS3
 ·exact go 1 bS0
 ·exact go 2 bR9
 ·exact go 3 bR8
 ·exact go 4 bR7
 ·exact go 5 bR6
theorem aE8 {j:Nat} (h:j<6):n74 j (E5 j)=true/\n74 j (EZ j)=true/\∀k,k<j->n74 j (Aj k j)=true:=by
 have go:∀j,(n74 j (E5 j)&&(n74 j (EZ j)&&(List.range j).all fun k=>n74 j (Aj k j)))=true->n74 j (E5 j)=true/\n74 j (EZ j)=true/\∀k,k<j->n74 j (Aj k j)=true:=fun j h=>by
  simp only[Bool.and_eq_true,List.all_eq_true,List.mem_range]at h
  exact h
 rcases(show j=0\/j=1\/j=2\/j=3\/j=4\/j=5 by omega)with rfl | rfl | rfl | rfl | rfl | rfl
 ·exact go 0 bS9
 ·exact go 1 bS8
 ·exact go 2 bS7
 ·exact go 3 bS6
 ·exact go 4 bS5
 ·exact go 5 bS4
def zF:Facts:=[(.lt kyN (.lit 1),true),(.lt kyN (.lit 0),false)]
theorem z87:tY (aU cK 87 [KX] zF) (.ret (xl false))=true:=by kernel_rfl
def z74:T (X×dR)->Bool
 | .need c x=>isT (nR zF c)&&nJ x
 | t=>nJ t
theorem aT4:z74 (pK cN 74 aN [] ((.var 690,true)::(zF++rQ)))=true:=by kernel_rfl
theorem bn1:nJ (pK cN 74 aN [] ((.var 690,true)::(.lt (.lit 6) kyN,true)::(.lt kyN (.lit 1),false)::rQ))=true:=by kernel_rfl
theorem YX:nJ (pK cN 74 aN [] ((.var 690,false)::rQ))=true:=by kernel_rfl
theorem YY:nJ (pK cN 51 aN [] ((.var 690,false)::rQ))=true:=by kernel_rfl
theorem a13:nJ (pK cN 51 aN [] ((.var 690,true)::(.var 691,false)::rQ))=true:=by kernel_rfl
end Go.Proofs.YtpdfmnhgocpkcaaGreat
