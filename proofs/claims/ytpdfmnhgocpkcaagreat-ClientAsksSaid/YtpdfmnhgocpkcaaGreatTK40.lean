/- Parts of the proof, one behind the other. -/
import Derived.Test.YtpdfmnhgocpkcaaGreatTK39
import Derived.Test.YtpdfmnhgocpkcaaGreatTK19
namespace Go.Proofs.YtpdfmnhgocpkcaaGreat
open Go Go.Proofs.Aw Go.Proofs.Xw
set_option maxRecDepth 100000
def ky:Nat->TE
 | 0 => .cl 194 0 (.cl 2 2 (.var 400))
 | j+1 => .cl 194 0 (.op .cY .i64 (.lit ((j+1:Nat):Int)) (.cl 2 2 (.var 400)))
def fO (j:Nat):BE := .lt (.cm (ky j)) (.lit 1)
def fP (j:Nat):BE := .lt (.lit 16) (.cm (ky j))
def eY (j k:Nat):BE := .seq (ky j) (ky k)
def KX:X := .rl 1 bm oy false
def KS:List (Nat×List X×X):=[(64,[.agg (vi 405 9)],xb 690),(102,[.agg (vi 405 9)],xb 690),(87,[KX],xb 691)]
noncomputable def qA:cr:=⟨bg [] (fun _=>[]),[],[117,140]⟩
noncomputable def iS:cr:=⟨uP KS (fun _=>[]) [] cls [],[],[48]⟩
def kY:List X:=[.agg (vi 405 9),xi 1,KX]
def J0 (j:Nat):J:=[(.lt (.lit j) bm,true),(.lt (.lit 6) bm,false)]
def kO:X := .tup [.k (.pointer none),xn 1]
def mU:T (X×aN)->Bool
 | .ret (r,d)=>X.beq r kO&&d.isEmpty
 | .br _ x y=>mU x&&mU y
 | _=>false
theorem nU {ρ:aa}:∀{t:T (X×aN)},mU t=true->t.aq ρ=some (kO,[])
 | .ret (r,d),h=>by
  simp only[mU,Bool.and_eq_true]at h
  have A:=X.beq_eq _ _ h.1
  have E:=List.isEmpty_iff.1 h.2
  subst A E
  rfl
 | .br c x y,h=>by
  simp only[mU,Bool.and_eq_true]at h
  simp only[T.aq]
  split
  ·exact nU h.1
  ·exact nU h.2
 | .cT _ _,h=>by cases h
 | .fail _,h=>by cases h
noncomputable def eJ (j:Nat) (c:BE):Bool:=iK (aS qA 87 [KX] ((c,true)::J0 j)) (.ret (xl false))
noncomputable def eI (j:Nat) (c:BE):Bool:=mU (fH iS 74 kY [] ((c,true)::(.var 690,true)::(J0 j++di)))
theorem aiZ:(eJ 0 (fO 0)&&(eJ 0 (fP 0)&&(List.range 0).all fun k=>eJ 0 (eY 0 k)))=true:=by kernel_rfl
theorem aiS:(eI 0 (fO 0)&&(eI 0 (fP 0)&&(List.range 0).all fun k=>eI 0 (eY k 0)))=true:=by kernel_rfl
theorem ai0:(eJ 1 (fO 1)&&(eJ 1 (fP 1)&&(List.range 1).all fun k=>eJ 1 (eY 1 k)))=true:=by kernel_rfl
theorem aiT:(eI 1 (fO 1)&&(eI 1 (fP 1)&&(List.range 1).all fun k=>eI 1 (eY k 1)))=true:=by kernel_rfl
theorem ai1:(eJ 2 (fO 2)&&(eJ 2 (fP 2)&&(List.range 2).all fun k=>eJ 2 (eY 2 k)))=true:=by kernel_rfl
theorem aiU:(eI 2 (fO 2)&&(eI 2 (fP 2)&&(List.range 2).all fun k=>eI 2 (eY k 2)))=true:=by kernel_rfl
theorem ai2:(eJ 3 (fO 3)&&(eJ 3 (fP 3)&&(List.range 3).all fun k=>eJ 3 (eY 3 k)))=true:=by kernel_rfl
theorem aiV:(eI 3 (fO 3)&&(eI 3 (fP 3)&&(List.range 3).all fun k=>eI 3 (eY k 3)))=true:=by kernel_rfl
theorem ai3:(eJ 4 (fO 4)&&(eJ 4 (fP 4)&&(List.range 4).all fun k=>eJ 4 (eY 4 k)))=true:=by kernel_rfl
theorem aiW:(eI 4 (fO 4)&&(eI 4 (fP 4)&&(List.range 4).all fun k=>eI 4 (eY k 4)))=true:=by kernel_rfl
theorem ai4:(eJ 5 (fO 5)&&(eJ 5 (fP 5)&&(List.range 5).all fun k=>eJ 5 (eY 5 k)))=true:=by kernel_rfl
theorem aiX:(eI 5 (fO 5)&&(eI 5 (fP 5)&&(List.range 5).all fun k=>eI 5 (eY k 5)))=true:=by kernel_rfl
theorem ai5 {j:Nat} (h:j<6):eJ j (fO j)=true/\eJ j (fP j)=true/\∀k,k<j->eJ j (eY j k)=true:=by
 have go:∀j,(eJ j (fO j)&&(eJ j (fP j)&&(List.range j).all fun k=>eJ j (eY j k)))=true->eJ j (fO j)=true/\eJ j (fP j)=true/\∀k,k<j->eJ j (eY j k)=true:=fun j h=>by
  simp only[Bool.and_eq_true,List.all_eq_true,List.mem_range]at h
  exact h
 rcases(show j=0\/j=1\/j=2\/j=3\/j=4\/j=5 by omega)with rfl | rfl | rfl | rfl | rfl | rfl
 ·exact go 0 aiZ
 ·exact go 1 ai0
 ·exact go 2 ai1
 ·exact go 3 ai2
 ·exact go 4 ai3
 ·exact go 5 ai4
theorem aiY {j:Nat} (h:j<6):eI j (fO j)=true/\eI j (fP j)=true/\∀k,k<j->eI j (eY k j)=true:=by
 have go:∀j,(eI j (fO j)&&(eI j (fP j)&&(List.range j).all fun k=>eI j (eY k j)))=true->eI j (fO j)=true/\eI j (fP j)=true/\∀k,k<j->eI j (eY k j)=true:=fun j h=>by
  simp only[Bool.and_eq_true,List.all_eq_true,List.mem_range]at h
  exact h
 rcases(show j=0\/j=1\/j=2\/j=3\/j=4\/j=5 by omega)with rfl | rfl | rfl | rfl | rfl | rfl
 ·exact go 0 aiS
 ·exact go 1 aiT
 ·exact go 2 aiU
 ·exact go 3 aiV
 ·exact go 4 aiW
 ·exact go 5 aiX
def DU:J:=[(.lt bm (.lit 1),true),(.lt bm (.lit 0),false)]
theorem z87:iK (aS qA 87 [KX] DU) (.ret (xl false))=true:=by kernel_rfl
def z74:T (X×aN)->Bool
 | .cT c x=>tg (fB DU c)&&mU x
 | t=>mU t
theorem avS:z74 (fH iS 74 kY [] ((.var 690,true)::(DU++di)))=true:=by kernel_rfl
theorem adp:mU (fH iS 74 kY [] ((.var 690,true)::(.lt (.lit 6) bm,true)::(.lt bm (.lit 1),false)::di))=true:=by kernel_rfl
theorem aaB:mU (fH iS 74 kY [] ((.var 690,false)::di))=true:=by kernel_rfl
theorem aaA:mU (fH iS 51 kY [] ((.var 690,false)::di))=true:=by kernel_rfl
theorem apf:mU (fH iS 51 kY [] ((.var 690,true)::(.var 691,false)::di))=true:=by kernel_rfl
end Go.Proofs.YtpdfmnhgocpkcaaGreat
