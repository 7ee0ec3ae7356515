/- Parts of the proof, one behind the other. -/
import Derived.Test.YtpdfmnhgocpkcaaGreatTM28
import Derived.Test.YtpdfmnhgocpkcaaGreatTM8
namespace Go.Proofs.YtpdfmnhgocpkcaaGreat
open Go Go.Proofs.Aw Go.Proofs.Xw
set_option maxRecDepth 100000
def ky:Nat->TE
 | 0 => .cl 194 0 (.cl 2 2 (.var 400))
 | j+1 => .cl 194 0 (.op .cW .i64 (.lit ((j+1:Nat):Int)) (.cl 2 2 (.var 400)))
def fK (j:Nat):BE := .lt (.cB (ky j)) (.lit 1)
def fL (j:Nat):BE := .lt (.lit 16) (.cB (ky j))
def eS (j k:Nat):BE := .seq (ky j) (ky k)
def KX:X := .rl 1 bj oo false
def KS:List (Nat×List X×X):=[(64,[.agg (vi 405 9)],xb 690),(102,[.agg (vi 405 9)],xb 690),(87,[KX],xb 691)]
noncomputable def qf:cj:=⟨bd [] (fun _=>[]),[],[117,140]⟩
noncomputable def iE:cj:=⟨r4 KS (fun _=>[]) [] cls [],[],[48]⟩
def kO:List X:=[.agg (vi 405 9),xi 1,KX]
def JE (j:Nat):J:=[(.lt (.lit j) bj,true),(.lt (.lit 6) bj,false)]
def kA:X := .tup [.k (.pointer none),xn 1]
def mJ:T (X×aL)->Bool
 | .ret (r,d)=>X.beq r kA&&d.isEmpty
 | .br _ x y=>mJ x&&mJ y
 | _=>false
theorem nN {ρ:aa}:∀{t:T (X×aL)},mJ t=true->t.aq ρ=some (kA,[])
 | .ret (r,d),h=>by
  simp only[mJ,Bool.and_eq_true]at h
  have A:=X.beq_eq _ _ h.1
  have E:=List.isEmpty_iff.1 h.2
  subst A E
  rfl
 | .br c x y,h=>by
  simp only[mJ,Bool.and_eq_true]at h
  simp only[T.aq]
  split
  ·exact nN h.1
  ·exact nN h.2
 | .cL _ _,h=>by cases h
 | .fail _,h=>by cases h
noncomputable def eF (j:Nat) (c:BE):Bool:=iw (aN qf 87 [KX] ((c,true)::JE j)) (.ret (xl false))
noncomputable def eE (j:Nat) (c:BE):Bool:=mJ (fC iE 74 kO [] ((c,true)::(.var 690,true)::(JE j++dh)))
theorem aiH:(eF 0 (fK 0)&&(eF 0 (fL 0)&&(List.range 0).all fun k=>eF 0 (eS 0 k)))=true:=by kernel_rfl
theorem aiA:(eE 0 (fK 0)&&(eE 0 (fL 0)&&(List.range 0).all fun k=>eE 0 (eS k 0)))=true:=by kernel_rfl
theorem aiI:(eF 1 (fK 1)&&(eF 1 (fL 1)&&(List.range 1).all fun k=>eF 1 (eS 1 k)))=true:=by kernel_rfl
theorem aiB:(eE 1 (fK 1)&&(eE 1 (fL 1)&&(List.range 1).all fun k=>eE 1 (eS k 1)))=true:=by kernel_rfl
theorem aiJ:(eF 2 (fK 2)&&(eF 2 (fL 2)&&(List.range 2).all fun k=>eF 2 (eS 2 k)))=true:=by kernel_rfl
theorem aiC:(eE 2 (fK 2)&&(eE 2 (fL 2)&&(List.range 2).all fun k=>eE 2 (eS k 2)))=true:=by kernel_rfl
theorem aiK:(eF 3 (fK 3)&&(eF 3 (fL 3)&&(List.range 3).all fun k=>eF 3 (eS 3 k)))=true:=by kernel_rfl
theorem aiD:(eE 3 (fK 3)&&(eE 3 (fL 3)&&(List.range 3).all fun k=>eE 3 (eS k 3)))=true:=by kernel_rfl
theorem aiL:(eF 4 (fK 4)&&(eF 4 (fL 4)&&(List.range 4).all fun k=>eF 4 (eS 4 k)))=true:=by kernel_rfl
theorem aiE:(eE 4 (fK 4)&&(eE 4 (fL 4)&&(List.range 4).all fun k=>eE 4 (eS k 4)))=true:=by kernel_rfl
theorem aiM:(eF 5 (fK 5)&&(eF 5 (fL 5)&&(List.range 5).all fun k=>eF 5 (eS 5 k)))=true:=by kernel_rfl
theorem aiF:(eE 5 (fK 5)&&(eE 5 (fL 5)&&(List.range 5).all fun k=>eE 5 (eS k 5)))=true:=by kernel_rfl
theorem aiN {j:Nat} (h:j<6):eF j (fK j)=true/\eF j (fL j)=true/\∀k,k<j->eF j (eS j k)=true:=by
 have go:∀j,(eF j (fK j)&&(eF j (fL j)&&(List.range j).all fun k=>eF j (eS j k)))=true->eF j (fK j)=true/\eF j (fL j)=true/\∀k,k<j->eF j (eS j k)=true:=fun j h=>by
  simp only[Bool.and_eq_true,List.all_eq_true,List.mem_range]at h
  exact h
 rcases(show j=0\/j=1\/j=2\/j=3\/j=4\/j=5 by omega)with rfl | rfl | rfl | rfl | rfl | rfl
 ·exact go 0 aiH
 ·exact go 1 aiI
 ·exact go 2 aiJ
 ·exact go 3 aiK
 ·exact go 4 aiL
 ·exact go 5 aiM
theorem aiG {j:Nat} (h:j<6):eE j (fK j)=true/\eE j (fL j)=true/\∀k,k<j->eE j (eS k j)=true:=by
 have go:∀j,(eE j (fK j)&&(eE j (fL j)&&(List.range j).all fun k=>eE j (eS k j)))=true->eE j (fK j)=true/\eE j (fL j)=true/\∀k,k<j->eE j (eS k j)=true:=fun j h=>by
  simp only[Bool.and_eq_true,List.all_eq_true,List.mem_range]at h
  exact h
 rcases(show j=0\/j=1\/j=2\/j=3\/j=4\/j=5 by omega)with rfl | rfl | rfl | rfl | rfl | rfl
 ·exact go 0 aiA
 ·exact go 1 aiB
 ·exact go 2 aiC
 ·exact go 3 aiD
 ·exact go 4 aiE
 ·exact go 5 aiF
def Du:J:=[(.lt bj (.lit 1),true),(.lt bj (.lit 0),false)]
theorem z87:iw (aN qf 87 [KX] Du) (.ret (xl false))=true:=by kernel_rfl
def z74:T (X×aL)->Bool
 | .cL c x=>sT (fu Du c)&&mJ x
 | t=>mJ t
theorem aug:z74 (fC iE 74 kO [] ((.var 690,true)::(Du++dh)))=true:=by kernel_rfl
theorem acU:mJ (fC iE 74 kO [] ((.var 690,true)::(.lt (.lit 6) bj,true)::(.lt bj (.lit 1),false)::dh))=true:=by kernel_rfl
theorem aal:mJ (fC iE 74 kO [] ((.var 690,false)::dh))=true:=by kernel_rfl
theorem aak:mJ (fC iE 51 kO [] ((.var 690,false)::dh))=true:=by kernel_rfl
theorem apt:mJ (fC iE 51 kO [] ((.var 690,true)::(.var 691,false)::dh))=true:=by kernel_rfl
end Go.Proofs.YtpdfmnhgocpkcaaGreat
