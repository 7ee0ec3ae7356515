/- Parts of the proof, one behind the other. -/
import Derived.Test.YtpdfmnhgocpkcaaGreatTM8
import Derived.Test.YtpdfmnhgocpkcaaGreatXwM3
namespace Go.Proofs.YtpdfmnhgocpkcaaGreat
open Go Go.Proofs.Aw Go.Proofs.Xw
set_option maxRecDepth 100000
theorem W2:∀ρ,cS Tryz.prog ρ (eC ⟨bd [] (fun _=>[]),[],[]⟩ 12):=fun _=>eU (c:=⟨bd [] (fun _=>[]),[],[]⟩) (hl (List.forall_mem_nil _) (fun _ _ _=>a1.nil _ _ _ _)) (List.forall_mem_nil _) 12
theorem atT (ρ:aa) (h:(ρ.s 0).size<9223372036854775808):bW Tryz.prog (lK.it (jh.ap ρ) (ρ.s 0).size) Tryz.f68.ntmps wB wP :=
 V6 mixed cR atU atQ atO rfl 102 atP atS QR atV (aB:=100) (e := .cB (.var 0)) rfl (by intro h;cases h) rfl rfl (by kernel_rfl) (dk:=[]) rfl (by kernel_rfl) (J.bq _) QS W2 (fun _=>a1.nil _ _ _ _) _ h rfl
theorem at1 (ρ:aa) (h:(ρ.s 0).size<9223372036854775808):bW Tryz.prog (lL.it (ji.ap ρ) (ρ.s 0).size) Tryz.f145.ntmps wC wQ :=
 V6 mixed cR at2 atZ atX rfl 142 atY at0 QT at3 (aB:=140) (e := .cB (.var 0)) rfl (by intro h;cases h) rfl rfl (by kernel_rfl) (dk:=[]) rfl (by kernel_rfl) (J.bq _) QU W2 (fun _=>a1.nil _ _ _ _) _ h rfl
theorem Xr (ρ:aa):∀j:Nat,(lK.it (jh.ap ρ) j).i 100=(lL.it (ji.ap ρ) j).i 140/\(lK.it (jh.ap ρ) j).i 101=(lL.it (ji.ap ρ) j).i 141
 | 0=>⟨rfl,rfl⟩
 | j+1=>by
  obtain⟨A,E⟩:=Xr ρ j
  have s1:(lK.it (jh.ap ρ) j).s 0=ρ.s 0:=(((Bind.bt QS ρ).trans (Bind.vt QR (jh.ap ρ) j)).s 0 (by decide)).symm
  have s2:(lL.it (ji.ap ρ) j).s 0=ρ.s 0:=(((Bind.bt QU ρ).trans (Bind.vt QT (ji.ap ρ) j)).s 0 (by decide)).symm
  have e1:(lK.it (jh.ap ρ) (j+1)).i 100=a7.I .add .i64 ((lK.it (jh.ap ρ) j).i 100) 1:=by kernel_rfl
  have e2:(lL.it (ji.ap ρ) (j+1)).i 140=a7.I .add .i64 ((lL.it (ji.ap ρ) j).i 140) 1:=by kernel_rfl
  have e3:(lK.it (jh.ap ρ) (j+1)).i 101=a7.I .mul .u64 (a7.I .xor .u64 ((lK.it (jh.ap ρ) j).i 101) (a7.I .conv .u64 (((((lK.it (jh.ap ρ) j).s 0)[((lK.it (jh.ap ρ) j).i 100).toNat]?).getD 0).toNat:Int) 0)) 1099511628211:=by kernel_rfl
  have e4:(lL.it (ji.ap ρ) (j+1)).i 141=a7.I .mul .u64 (a7.I .xor .u64 ((lL.it (ji.ap ρ) j).i 141) (a7.I .conv .u64 (((((lL.it (ji.ap ρ) j).s 0)[((lL.it (ji.ap ρ) j).i 140).toNat]?).getD 0).toNat:Int) 0)) 1099511628211:=by kernel_rfl
  rw[e1,e2,e3,e4,s1,s2,A,E]
  exact⟨rfl,rfl⟩
def ni (h:Int):Int:=a7.I .xor .u64 (a7.I .mul .u64 (a7.I .xor .u64 h (a7.I .shr .u64 h 32)) 11400714819323198485) (a7.I .shr .u64 (a7.I .mul .u64 (a7.I .xor .u64 h (a7.I .shr .u64 h 32)) 11400714819323198485) 29)
def lP (h:Int):Int:=bits .and .u64 (ni h) 1048575 + -524288
def lQ (h:Int):Int:=bits .and .u64 (a7.I .shr .u64 (ni h) 20) 1048575 + -524288
theorem acS (h:Int) : -524288<=lP h/\lP h<=524287:=by
 have:=yx .u64 (.inr rfl) (ni h) 1048575 (by decide) (by decide)
 unfold lP;omega
theorem acT (h:Int) : -524288<=lQ h/\lQ h<=524287:=by
 have:=yx .u64 (.inr rfl) (a7.I .shr .u64 (ni h) 20) 1048575 (by decide) (by decide)
 unfold lQ;omega
theorem Zn (m:Int) (h:0<=m/\m<=1048575):a7.I .sub .i64 (a7.I .conv .i64 m 0) 524288=m + -524288:=by
 simp only[a7.I]
 rw[cc m (by omega) (by omega),cc _ (by omega) (by omega)]
 omega
theorem aoM (ρ:aa) (h:(ρ.s 0).size<9223372036854775808):∃x y:Int,(-524288<=x/\x<=524287)/\(-524288<=y/\y<=524287)/\¬(x=0/\y=0) /\
  (b_ Tryz.prog 68=true/\∀n h,CY Tryz.prog n 68 (X.af ρ [ym]) h (.sc (.complex .f64 (fv x false) (fv y false))) []) /\
  (b_ Tryz.prog 145=true/\∀n h,CY Tryz.prog n 145 (X.af ρ [ym]) h (.tup [.sc (.int .i64 x),.sc (.int .i64 y)]) []):=by
 generalize e1:lK.it (jh.ap ρ) (ρ.s 0).size=bP
 generalize e2:lL.it (ji.ap ρ) (ρ.s 0).size=ax
 have l1:=atT ρ h
 have l2:=at1 ρ h
 have D3:az 100 ρ bP:=by rw[<-e1];exact(Bind.bt QS ρ).trans (Bind.vt QR (jh.ap ρ) _)
 have rS:az 140 ρ ax:=by rw[<-e2];exact(Bind.bt QU ρ).trans (Bind.vt QT (ji.ap ρ) _)
 have c1:bP.i 100=(ρ.s 0).size:=by rw[<-e1];exact FV (e := .lit 0) rfl (by rfl) _ h
 have c2:ax.i 140=(ρ.s 0).size:=by rw[<-e2];exact FV (e := .lit 0) rfl (by rfl) _ h
 have sm:bP.i 101=ax.i 141:=by rw[<-e1,<-e2];exact(Xr ρ _).2
 rw[e1]at l1
 rw[e2]at l2
 have n1:(BE.not (.lt (.var 100) (.cB (.var 0)))).I bP=true:=by
  rw[S7,mO]
  simp only[U.I,TE.I,c1,<-D3.s 0 (by decide)]
  omega
 have n2:(BE.not (.lt (.var 140) (.cB (.var 0)))).I ax=true:=by
  rw[S7,mO]
  simp only[U.I,TE.I,c2,<-rS.s 0 (by decide)]
  omega
 have g1:=fun r (hr:O7.aq bP=some r)=>ef (c:=⟨bd [] Gk,[],[]⟩) (hl (List.forall_mem_nil _) (ah3 l1)) (List.forall_mem_nil _) (J.bq bP) (by rw[aoN];exact hr)
 have g2:=fun r (hr:PC.aq ax=some r)=>ef (c:=⟨bd [] Gl,[],[]⟩) (hl (List.forall_mem_nil _) (ah6 l2)) (List.forall_mem_nil _) (J.bq ax) (by rw[aqU];exact hr)
 have g1:=g1 _ (by unfold O7;rw[T.aq,if_pos n1];rfl)
 have g2:=g2 _ (by unfold PC;rw[T.aq,if_pos n2];rfl)
 rw[<-X.fZ D3 [ym] (by kernel_rfl)]at g1
 rw[<-X.fZ rS [ym] (by kernel_rfl)]at g2
 have acl:=acS (bP.i 101)
 have R6:=acT (bP.i 101)
 generalize W:bP.i 101=R at acl R6 sm
 refine⟨if lP R=0/\lQ R=0 then 1 else lP R,lQ R,?_,R6,?_,?_,?_⟩
 ·split<;>omega
 ·split<;>omega
 ·refine⟨g1.1,fun n hp => ?_⟩
  have g:=g1.2 n hp
  simp only[X.I,Sc.I,U.I,BE.I,a7.I,W]at g
  have bm:bits .and .u64 (ni R) 1048575 + -524288=lP R:=rfl
  have bl:bits .and .u64 (a7.I .shr .u64 (ni R) 20) 1048575 + -524288=lQ R:=rfl
  simp only[ni,a7.I]at bm bl
  rw[bm,bl]at g
  have b:(lP R==0&&lQ R==0)=decide (lP R=0/\lQ R=0):=by rw[Bool.eq_iff_iff];simp
  rw[b]at g
  by_cases H:lP R=0/\lQ R=0
  ·simp only[H,and_self,decide_true,if_true]at g ⊢
   exact g
  ·simp only[H,decide_false,Bool.false_eq_true,if_false]at g ⊢
   exact g
 ·refine⟨g2.1,fun n hp => ?_⟩
  have g:=g2.2 n hp
  have bm:=Zn _ (yx .u64 (.inr rfl) (ni R) 1048575 (by decide) (by decide))
  have bl:=Zn _ (yx .u64 (.inr rfl) (a7.I .shr .u64 (ni R) 20) 1048575 (by decide) (by decide))
  simp only[X.I,X.af,Sc.I,U.I,BE.I,a7.I,<-sm]at g
  have gL:bits .and .u64 (ni R) 1048575 + -524288=lP R:=rfl
  have DZ:bits .and .u64 (a7.I .shr .u64 (ni R) 20) 1048575 + -524288=lQ R:=rfl
  rw[gL]at bm
  rw[DZ]at bl
  simp only[ni,a7.I]at bm bl
  rw[bm,bl]at g
  have b:(lP R==0&&lQ R==0)=decide (lP R=0/\lQ R=0):=by rw[Bool.eq_iff_iff];simp
  rw[b]at g
  by_cases H:lP R=0/\lQ R=0
  ·simp only[H,and_self,decide_true,if_true]at g ⊢
   exact g
  ·simp only[H,decide_false,Bool.false_eq_true,if_false]at g ⊢
   exact g
end Go.Proofs.YtpdfmnhgocpkcaaGreat
