/- Parts of the proof, one behind the other. -/
import Derived.Test.YtpdfmnhgocpkcaaGreatTM9
import Derived.Test.YtpdfmnhgocpkcaaGreatXwM3
namespace Go.Proofs.YtpdfmnhgocpkcaaGreat
open Go Go.Proofs.Aw Go.Proofs.Xw
set_option maxRecDepth 100000
theorem WZ:∀ρ,cX Tryz.prog ρ (eD ⟨bd [] (fun _=>[]),[],[]⟩ 12):=fun _=>eU (c:=⟨bd [] (fun _=>[]),[],[]⟩) (hj (List.forall_mem_nil _) (fun _ _ _=>a1.nil _ _ _ _)) (List.forall_mem_nil _) 12
theorem atp (ρ:aa) (h:(ρ.s 0).size<9223372036854775808):bY Tryz.prog (lK.it (jg.ap ρ) (ρ.s 0).size) Tryz.f68.ntmps wB wP :=
 V2 mixed cR atq atn atl rfl 102 atm ato QQ atr (aB:=100) (e := .ch (.var 0)) rfl (by intro h;cases h) rfl rfl (by kernel_rfl) (dk:=[]) rfl (by kernel_rfl) (J.bt _) QR WZ (fun _=>a1.nil _ _ _ _) _ h rfl
theorem atx (ρ:aa) (h:(ρ.s 0).size<9223372036854775808):bY Tryz.prog (lL.it (jh.ap ρ) (ρ.s 0).size) Tryz.f145.ntmps wC wQ :=
 V2 mixed cR aty atv att rfl 142 atu atw QS atz (aB:=140) (e := .ch (.var 0)) rfl (by intro h;cases h) rfl rfl (by kernel_rfl) (dk:=[]) rfl (by kernel_rfl) (J.bt _) QT WZ (fun _=>a1.nil _ _ _ _) _ h rfl
theorem Xo (ρ:aa):∀j:Nat,(lK.it (jg.ap ρ) j).i 100=(lL.it (jh.ap ρ) j).i 140/\(lK.it (jg.ap ρ) j).i 101=(lL.it (jh.ap ρ) j).i 141
 | 0=>⟨rfl,rfl⟩
 | j+1=>by
  obtain⟨A,E⟩:=Xo ρ j
  have s1:(lK.it (jg.ap ρ) j).s 0=ρ.s 0:=(((Bind.bq QR ρ).trans (Bind.vv QQ (jg.ap ρ) j)).s 0 (by decide)).symm
  have s2:(lL.it (jh.ap ρ) j).s 0=ρ.s 0:=(((Bind.bq QT ρ).trans (Bind.vv QS (jh.ap ρ) j)).s 0 (by decide)).symm
  have e1:(lK.it (jg.ap ρ) (j+1)).i 100=a7.I .add .i64 ((lK.it (jg.ap ρ) j).i 100) 1:=by kernel_rfl
  have e2:(lL.it (jh.ap ρ) (j+1)).i 140=a7.I .add .i64 ((lL.it (jh.ap ρ) j).i 140) 1:=by kernel_rfl
  have e3:(lK.it (jg.ap ρ) (j+1)).i 101=a7.I .mul .u64 (a7.I .xor .u64 ((lK.it (jg.ap ρ) j).i 101) (a7.I .conv .u64 (((((lK.it (jg.ap ρ) j).s 0)[((lK.it (jg.ap ρ) j).i 100).toNat]?).getD 0).toNat:Int) 0)) 1099511628211:=by kernel_rfl
  have e4:(lL.it (jh.ap ρ) (j+1)).i 141=a7.I .mul .u64 (a7.I .xor .u64 ((lL.it (jh.ap ρ) j).i 141) (a7.I .conv .u64 (((((lL.it (jh.ap ρ) j).s 0)[((lL.it (jh.ap ρ) j).i 140).toNat]?).getD 0).toNat:Int) 0)) 1099511628211:=by kernel_rfl
  rw[e1,e2,e3,e4,s1,s2,A,E]
  exact⟨rfl,rfl⟩
def ng (h:Int):Int:=a7.I .xor .u64 (a7.I .mul .u64 (a7.I .xor .u64 h (a7.I .shr .u64 h 32)) 11400714819323198485) (a7.I .shr .u64 (a7.I .mul .u64 (a7.I .xor .u64 h (a7.I .shr .u64 h 32)) 11400714819323198485) 29)
def lP (h:Int):Int:=bits .and .u64 (ng h) 1048575 + -524288
def lQ (h:Int):Int:=bits .and .u64 (a7.I .shr .u64 (ng h) 20) 1048575 + -524288
theorem acP (h:Int) : -524288<=lP h/\lP h<=524287:=by
 have:=yx .u64 (.inr rfl) (ng h) 1048575 (by decide) (by decide)
 unfold lP;omega
theorem acQ (h:Int) : -524288<=lQ h/\lQ h<=524287:=by
 have:=yx .u64 (.inr rfl) (a7.I .shr .u64 (ng h) 20) 1048575 (by decide) (by decide)
 unfold lQ;omega
theorem Zk (m:Int) (h:0<=m/\m<=1048575):a7.I .sub .i64 (a7.I .conv .i64 m 0) 524288=m + -524288:=by
 simp only[a7.I]
 rw[ca m (by omega) (by omega),ca _ (by omega) (by omega)]
 omega
theorem aoi (ρ:aa) (h:(ρ.s 0).size<9223372036854775808):∃x y:Int,(-524288<=x/\x<=524287)/\(-524288<=y/\y<=524287)/\¬(x=0/\y=0) /\
  (cf Tryz.prog 68=true/\∀n h,CY Tryz.prog n 68 (X.af ρ [ym]) h (.sc (.complex .f64 (fv x false) (fv y false))) []) /\
  (cf Tryz.prog 145=true/\∀n h,CY Tryz.prog n 145 (X.af ρ [ym]) h (.tup [.sc (.int .i64 x),.sc (.int .i64 y)]) []):=by
 generalize e1:lK.it (jg.ap ρ) (ρ.s 0).size=bQ
 generalize e2:lL.it (jh.ap ρ) (ρ.s 0).size=aw
 have l1:=atp ρ h
 have l2:=atx ρ h
 have D4:az 100 ρ bQ:=by rw[<-e1];exact(Bind.bq QR ρ).trans (Bind.vv QQ (jg.ap ρ) _)
 have rT:az 140 ρ aw:=by rw[<-e2];exact(Bind.bq QT ρ).trans (Bind.vv QS (jh.ap ρ) _)
 have c1:bQ.i 100=(ρ.s 0).size:=by rw[<-e1];exact FY (e := .lit 0) rfl (by rfl) _ h
 have c2:aw.i 140=(ρ.s 0).size:=by rw[<-e2];exact FY (e := .lit 0) rfl (by rfl) _ h
 have sm:bQ.i 101=aw.i 141:=by rw[<-e1,<-e2];exact(Xo ρ _).2
 rw[e1]at l1
 rw[e2]at l2
 have n1:(BE.not (.lt (.var 100) (.ch (.var 0)))).I bQ=true:=by
  rw[S6,mO]
  simp only[U.I,TE.I,c1,<-D4.s 0 (by decide)]
  omega
 have n2:(BE.not (.lt (.var 140) (.ch (.var 0)))).I aw=true:=by
  rw[S6,mO]
  simp only[U.I,TE.I,c2,<-rT.s 0 (by decide)]
  omega
 have g1:=fun r (hr:O7.aq bQ=some r)=>ec (c:=⟨bd [] Gm,[],[]⟩) (hj (List.forall_mem_nil _) (ah3 l1)) (List.forall_mem_nil _) (J.bt bQ) (by rw[aoj];exact hr)
 have g2:=fun r (hr:PC.aq aw=some r)=>ec (c:=⟨bd [] Gn,[],[]⟩) (hj (List.forall_mem_nil _) (ah6 l2)) (List.forall_mem_nil _) (J.bt aw) (by rw[aqq];exact hr)
 have g1:=g1 _ (by unfold O7;rw[T.aq,if_pos n1];rfl)
 have g2:=g2 _ (by unfold PC;rw[T.aq,if_pos n2];rfl)
 rw[<-X.fZ D4 [ym] (by kernel_rfl)]at g1
 rw[<-X.fZ rT [ym] (by kernel_rfl)]at g2
 have act:=acP (bQ.i 101)
 have R5:=acQ (bQ.i 101)
 generalize W:bQ.i 101=R at act R5 sm
 refine⟨if lP R=0/\lQ R=0 then 1 else lP R,lQ R,?_,R5,?_,?_,?_⟩
 ·split<;>omega
 ·split<;>omega
 ·refine⟨g1.1,fun n hp => ?_⟩
  have g:=g1.2 n hp
  simp only[X.I,Sc.I,U.I,BE.I,a7.I,W]at g
  have bm:bits .and .u64 (ng R) 1048575 + -524288=lP R:=rfl
  have bl:bits .and .u64 (a7.I .shr .u64 (ng R) 20) 1048575 + -524288=lQ R:=rfl
  simp only[ng,a7.I]at bm bl
  rw[bm,bl]at g
  have b:(lP R==0&&lQ R==0)=decide (lP R=0/\lQ R=0):=by rw[Bool.eq_iff_iff];simp
  rw[b]at g
  by_cases H:lP R=0/\lQ R=0
  ·simp only[H,and_self,decide_true,if_true]at g ⊢
   exact g
  ·simp only[H,decide_false,Bool.false_eq_true,if_false]at g ⊢
   exact g
 ·refine⟨g2.1,fun n hp => ?_⟩
  have g:=g2.2 n hp
  have bm:=Zk _ (yx .u64 (.inr rfl) (ng R) 1048575 (by decide) (by decide))
  have bl:=Zk _ (yx .u64 (.inr rfl) (a7.I .shr .u64 (ng R) 20) 1048575 (by decide) (by decide))
  simp only[X.I,X.af,Sc.I,U.I,BE.I,a7.I,<-sm]at g
  have gK:bits .and .u64 (ng R) 1048575 + -524288=lP R:=rfl
  have D0:bits .and .u64 (a7.I .shr .u64 (ng R) 20) 1048575 + -524288=lQ R:=rfl
  rw[gK]at bm
  rw[D0]at bl
  simp only[ng,a7.I]at bm bl
  rw[bm,bl]at g
  have b:(lP R==0&&lQ R==0)=decide (lP R=0/\lQ R=0):=by rw[Bool.eq_iff_iff];simp
  rw[b]at g
  by_cases H:lP R=0/\lQ R=0
  ·simp only[H,and_self,decide_true,if_true]at g ⊢
   exact g
  ·simp only[H,decide_false,Bool.false_eq_true,if_false]at g ⊢
   exact g
end Go.Proofs.YtpdfmnhgocpkcaaGreat
