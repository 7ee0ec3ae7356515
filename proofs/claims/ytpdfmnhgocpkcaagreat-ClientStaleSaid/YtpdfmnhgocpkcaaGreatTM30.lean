/- Parts of the proof, one behind the other. -/
import Derived.Test.YtpdfmnhgocpkcaaGreatTM29
import Derived.Test.YtpdfmnhgocpkcaaGreatTM9
namespace Go.Proofs.YtpdfmnhgocpkcaaGreat
open Go Go.Proofs.Aw Go.Proofs.Xw
set_option maxRecDepth 100000
def ky:Nat->TE
 | 0 => .cl 194 0 (.cl 2 2 (.var 400))
 | j+1 => .cl 194 0 (.op .cV .i64 (.lit ((j+1:Nat):Int)) (.cl 2 2 (.var 400)))
def fJ (j:Nat):BE := .lt (.ch (ky j)) (.lit 1)
def fK (j:Nat):BE := .lt (.lit 16) (.ch (ky j))
def eS (j k:Nat):BE := .seq (ky j) (ky k)
def KX:X := .rl 1 bh om false
def KS:List (Nat×List X×X):=[(64,[.agg (vi 405 9)],xb 690),(102,[.agg (vi 405 9)],xb 690),(87,[KX],xb 691)]
noncomputable def qg:cr:=⟨bd [] (fun _=>[]),[],[117,140]⟩
noncomputable def iD:cr:=⟨r5 KS (fun _=>[]) [] cls [],[],[48]⟩
def kO:List X:=[.agg (vi 405 9),xi 1,KX]
def JD (j:Nat):J:=[(.lt (.lit j) bh,true),(.lt (.lit 6) bh,false)]
def kA:X := .tup [.k (.pointer none),xn 1]
def mJ:T (X×aL)->Bool
 | .ret (r,d)=>X.beq r kA&&d.isEmpty
 | .br _ x y=>mJ x&&mJ y
 | _=>false
theorem nK {ρ:aa}:∀{t:T (X×aL)},mJ t=true->t.aq ρ=some (kA,[])
 | .ret (r,d),h=>by
  simp only[mJ,Bool.and_eq_true]at h
  have A:=X.beq_eq _ _ h.1
  have E:=List.isEmpty_iff.1 h.2
  subst A E
  rfl
 | .br c x y,h=>by
  simp only[mJ,Bool.and_eq_true]at h
  simp only[T.aq]
  split
  ·exact nK h.1
  ·exact nK h.2
 | .cL _ _,h=>by cases h
 | .fail _,h=>by cases h
noncomputable def eG (j:Nat) (c:BE):Bool:=iw (aM qg 87 [KX] ((c,true)::JD j)) (.ret (xl false))
noncomputable def eF (j:Nat) (c:BE):Bool:=mJ (fB iD 74 kO [] ((c,true)::(.var 690,true)::(JD j++dh)))
theorem aiK:(eG 0 (fJ 0)&&(eG 0 (fK 0)&&(List.range 0).all fun k=>eG 0 (eS 0 k)))=true:=by kernel_rfl
theorem aiD:(eF 0 (fJ 0)&&(eF 0 (fK 0)&&(List.range 0).all fun k=>eF 0 (eS k 0)))=true:=by kernel_rfl
theorem aiL:(eG 1 (fJ 1)&&(eG 1 (fK 1)&&(List.range 1).all fun k=>eG 1 (eS 1 k)))=true:=by kernel_rfl
theorem aiE:(eF 1 (fJ 1)&&(eF 1 (fK 1)&&(List.range 1).all fun k=>eF 1 (eS k 1)))=true:=by kernel_rfl
theorem aiM:(eG 2 (fJ 2)&&(eG 2 (fK 2)&&(List.range 2).all fun k=>eG 2 (eS 2 k)))=true:=by kernel_rfl
theorem aiF:(eF 2 (fJ 2)&&(eF 2 (fK 2)&&(List.range 2).all fun k=>eF 2 (eS k 2)))=true:=by kernel_rfl
theorem aiN:(eG 3 (fJ 3)&&(eG 3 (fK 3)&&(List.range 3).all fun k=>eG 3 (eS 3 k)))=true:=by kernel_rfl
theorem aiG:(eF 3 (fJ 3)&&(eF 3 (fK 3)&&(List.range 3).all fun k=>eF 3 (eS k 3)))=true:=by kernel_rfl
theorem aiO:(eG 4 (fJ 4)&&(eG 4 (fK 4)&&(List.range 4).all fun k=>eG 4 (eS 4 k)))=true:=by kernel_rfl
theorem aiH:(eF 4 (fJ 4)&&(eF 4 (fK 4)&&(List.range 4).all fun k=>eF 4 (eS k 4)))=true:=by kernel_rfl
theorem aiP:(eG 5 (fJ 5)&&(eG 5 (fK 5)&&(List.range 5).all fun k=>eG 5 (eS 5 k)))=true:=by kernel_rfl
theorem aiI:(eF 5 (fJ 5)&&(eF 5 (fK 5)&&(List.range 5).all fun k=>eF 5 (eS k 5)))=true:=by kernel_rfl
theorem aiQ {j:Nat} (h:j<6):eG j (fJ j)=true/\eG j (fK j)=true/\∀k,k<j->eG j (eS j k)=true:=by
 have go:∀j,(eG j (fJ j)&&(eG j (fK j)&&(List.range j).all fun k=>eG j (eS j k)))=true->eG j (fJ j)=true/\eG j (fK j)=true/\∀k,k<j->eG j (eS j k)=true:=fun j h=>by
  simp only[Bool.and_eq_true,List.all_eq_true,List.mem_range]at h
  exact h
 rcases(show j=0\/j=1\/j=2\/j=3\/j=4\/j=5 by omega)with rfl | rfl | rfl | rfl | rfl | rfl
 ·exact go 0 aiK
 ·exact go 1 aiL
 ·exact go 2 aiM
 ·exact go 3 aiN
 ·exact go 4 aiO
 ·exact go 5 aiP
theorem aiJ {j:Nat} (h:j<6):eF j (fJ j)=true/\eF j (fK j)=true/\∀k,k<j->eF j (eS k j)=true:=by
 have go:∀j,(eF j (fJ j)&&(eF j (fK j)&&(List.range j).all fun k=>eF j (eS k j)))=true->eF j (fJ j)=true/\eF j (fK j)=true/\∀k,k<j->eF j (eS k j)=true:=fun j h=>by
  simp only[Bool.and_eq_true,List.all_eq_true,List.mem_range]at h
  exact h
 rcases(show j=0\/j=1\/j=2\/j=3\/j=4\/j=5 by omega)with rfl | rfl | rfl | rfl | rfl | rfl
 ·exact go 0 aiD
 ·exact go 1 aiE
 ·exact go 2 aiF
 ·exact go 3 aiG
 ·exact go 4 aiH
 ·exact go 5 aiI
def Du:J:=[(.lt bh (.lit 1),true),(.lt bh (.lit 0),false)]
theorem z87:iw (aM qg 87 [KX] Du) (.ret (xl false))=true:=by kernel_rfl
def z74:T (X×aL)->Bool
 | .cL c x=>sU (fu Du c)&&mJ x
 | t=>mJ t
theorem atN:z74 (fB iD 74 kO [] ((.var 690,true)::(Du++dh)))=true:=by kernel_rfl
theorem acR:mJ (fB iD 74 kO [] ((.var 690,true)::(.lt (.lit 6) bh,true)::(.lt bh (.lit 1),false)::dh))=true:=by kernel_rfl
theorem aai:mJ (fB iD 74 kO [] ((.var 690,false)::dh))=true:=by kernel_rfl
theorem aah:mJ (fB iD 51 kO [] ((.var 690,false)::dh))=true:=by kernel_rfl
theorem aoY:mJ (fB iD 51 kO [] ((.var 690,true)::(.var 691,false)::dh))=true:=by kernel_rfl
end Go.Proofs.YtpdfmnhgocpkcaaGreat
