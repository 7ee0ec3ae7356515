/- Parts of the proof, one behind the other. -/
import Derived.Test.YtpdfmnhgocpkcaaGreatTM9
import Derived.Test.YtpdfmnhgocpkcaaGreatXwM3
namespace Go.Proofs.YtpdfmnhgocpkcaaGreat
open Go Go.Proofs.Aw Go.Proofs.Xw
set_option maxRecDepth 100000
theorem ab7:∀J,dJ Tryz.prog J (iK ⟨bU [] (fun _=>[]),[],[]⟩ 12):=fun _=>dP (c:=⟨bU [] (fun _=>[]),[],[]⟩) (iW (List.forall_mem_nil _) (fun _ _ _=>LpsOk.nil _ _ _ _)) (List.forall_mem_nil _) 12
theorem br8 (J:Rho) (h:(J.s 0).size<9223372036854775808):LoopOk Tryz.prog (wP_b.it (wP_i.ap J) (J.s 0).size) Tryz.f68.ntmps P8 wP :=
 Cc mixed dm aU5 au5 au6 rfl 102 aU6 br9 YV au4 (I:=100) (e := .slen (.var 0)) rfl (by intro h;cases h) rfl rfl (by kernel_rfl) (Φ0:=[]) rfl (by kernel_rfl) (Facts.ok_nil _) YU ab7 (fun _=>LpsOk.nil _ _ _ _) _ h rfl
theorem br5 (J:Rho) (h:(J.s 0).size<9223372036854775808):LoopOk Tryz.prog (wQ_b.it (wQ_i.ap J) (J.s 0).size) Tryz.f145.ntmps P7 wQ :=
 Cc mixed dm aU3 au2 au3 rfl 142 aU4 br6 YT au1 (I:=140) (e := .slen (.var 0)) rfl (by intro h;cases h) rfl rfl (by kernel_rfl) (Φ0:=[]) rfl (by kernel_rfl) (Facts.ok_nil _) YS ab7 (fun _=>LpsOk.nil _ _ _ _) _ h rfl
theorem aQ4 (J:Rho):∀j:Nat,(wP_b.it (wP_i.ap J) j).i 100=(wQ_b.it (wQ_i.ap J) j).i 140/\(wP_b.it (wP_i.ap J) j).i 101=(wQ_b.it (wQ_i.ap J) j).i 141
 | 0=>⟨rfl,rfl⟩
 | j+1=>by
  obtain⟨h1,h2⟩:=aQ4 J j
  have s1:(wP_b.it (wP_i.ap J) j).s 0=J.s 0:=(((Bind.agree YU J).trans (Bind.it_agree YV (wP_i.ap J) j)).s 0 (by decide)).symm
  have s2:(wQ_b.it (wQ_i.ap J) j).s 0=J.s 0:=(((Bind.agree YS J).trans (Bind.it_agree YT (wQ_i.ap J) j)).s 0 (by decide)).symm
  have e1:(wP_b.it (wP_i.ap J) (j+1)).i 100=IOp.den .add .i64 ((wP_b.it (wP_i.ap J) j).i 100) 1:=by kernel_rfl
  have e2:(wQ_b.it (wQ_i.ap J) (j+1)).i 140=IOp.den .add .i64 ((wQ_b.it (wQ_i.ap J) j).i 140) 1:=by kernel_rfl
  have e3:(wP_b.it (wP_i.ap J) (j+1)).i 101=IOp.den .mul .u64 (IOp.den .xor .u64 ((wP_b.it (wP_i.ap J) j).i 101) (IOp.den .conv .u64 (((((wP_b.it (wP_i.ap J) j).s 0)[((wP_b.it (wP_i.ap J) j).i 100).toNat]?).getD 0).toNat:Int) 0)) 1099511628211:=by kernel_rfl
  have e4:(wQ_b.it (wQ_i.ap J) (j+1)).i 141=IOp.den .mul .u64 (IOp.den .xor .u64 ((wQ_b.it (wQ_i.ap J) j).i 141) (IOp.den .conv .u64 (((((wQ_b.it (wQ_i.ap J) j).s 0)[((wQ_b.it (wQ_i.ap J) j).i 140).toNat]?).getD 0).toNat:Int) 0)) 1099511628211:=by kernel_rfl
  rw[e1,e2,e3,e4,s1,s2,h1,h2]
  exact⟨rfl,rfl⟩
def Yy (h:Int):Int:=IOp.den .xor .u64 (IOp.den .mul .u64 (IOp.den .xor .u64 h (IOp.den .shr .u64 h 32)) 11400714819323198485) (IOp.den .shr .u64 (IOp.den .mul .u64 (IOp.den .xor .u64 h (IOp.den .shr .u64 h 32)) 11400714819323198485) 29)
def Yf (h:Int):Int:=bits .and .u64 (Yy h) 1048575 + -524288
def Ye (h:Int):Int:=bits .and .u64 (IOp.den .shr .u64 (Yy h) 20) 1048575 + -524288
theorem b42 (h:Int) : -524288<=Yf h/\Yf h<=524287:=by
 have:=wu .u64 (.inr rfl) (Yy h) 1048575 (by decide) (by decide)
 unfold Yf;omega
theorem b41 (h:Int) : -524288<=Ye h/\Ye h<=524287:=by
 have:=wu .u64 (.inr rfl) (IOp.den .shr .u64 (Yy h) 20) 1048575 (by decide) (by decide)
 unfold Ye;omega
theorem aP4 (m:Int) (h:0<=m/\m<=1048575):IOp.den .sub .i64 (IOp.den .conv .i64 m 0) 524288=m + -524288:=by
 simp only[IOp.den]
 rw[aP m (by omega) (by omega),aP _ (by omega) (by omega)]
 omega
theorem a96 (J:Rho) (h:(J.s 0).size<9223372036854775808):∃x y:Int,(-524288<=x/\x<=524287)/\(-524288<=y/\y<=524287)/\¬(x=0/\y=0) /\
  (aQ Tryz.prog 68=true/\∀n h,CY Tryz.prog n 68 (X.denL J [XG]) h (.sc (.complex .f64 (fv x false) (fv y false))) []) /\
  (aQ Tryz.prog 145=true/\∀n h,CY Tryz.prog n 145 (X.denL J [XG]) h (.tup [.sc (.int .i64 x),.sc (.int .i64 y)]) []):=by
 generalize e1:wP_b.it (wP_i.ap J) (J.s 0).size=J1
 generalize e2:wQ_b.it (wQ_i.ap J) (J.s 0).size=J2
 have l1:=br8 J h
 have l2:=br5 J h
 have ag1:Agree 100 J J1:=by rw[<-e1];exact(Bind.agree YU J).trans (Bind.it_agree YV (wP_i.ap J) _)
 have ag2:Agree 140 J J2:=by rw[<-e2];exact(Bind.agree YS J).trans (Bind.it_agree YT (wQ_i.ap J) _)
 have c1:J1.i 100=(J.s 0).size:=by rw[<-e1];exact zy (e := .lit 0) rfl (by rfl) _ h
 have c2:J2.i 140=(J.s 0).size:=by rw[<-e2];exact zy (e := .lit 0) rfl (by rfl) _ h
 have sm:J1.i 101=J2.i 141:=by rw[<-e1,<-e2];exact(aQ4 J _).2
 rw[e1]at l1
 rw[e2]at l2
 have n1:(BE.not (.lt (.var 100) (.slen (.var 0)))).den J1=true:=by
  rw[am0,tX]
  simp only[IE.den,TE.den,c1,<-ag1.s 0 (by decide)]
  omega
 have n2:(BE.not (.lt (.var 140) (.slen (.var 0)))).den J2=true:=by
  rw[am0,tX]
  simp only[IE.den,TE.den,c2,<-ag2.s 0 (by decide)]
  omega
 have g1:=fun r (hr:pnt.sel J1=some r)=>dM (c:=⟨bU [] aG3,[],[]⟩) (iW (List.forall_mem_nil _) (aG1 l1)) (List.forall_mem_nil _) (Facts.ok_nil J1) (by rw[aB7];exact hr)
 have g2:=fun r (hr:rpt.sel J2=some r)=>dM (c:=⟨bU [] aG0,[],[]⟩) (iW (List.forall_mem_nil _) (aF9 l2)) (List.forall_mem_nil _) (Facts.ok_nil J2) (by rw[az1];exact hr)
 have g1:=g1 _ (by unfold pnt;rw[T.sel,if_pos n1];rfl)
 have g2:=g2 _ (by unfold rpt;rw[T.sel,if_pos n2];rfl)
 rw[<-X.belL_den ag1 [XG] (by kernel_rfl)]at g1
 rw[<-X.belL_den ag2 [XG] (by kernel_rfl)]at g2
 have ax:=b42 (J1.i 101)
 have ay:=b41 (J1.i 101)
 generalize hh:J1.i 101=hv at ax ay sm
 refine⟨if Yf hv=0/\Ye hv=0 then 1 else Yf hv,Ye hv,?_,ay,?_,?_,?_⟩
 ·split<;>omega
 ·split<;>omega
 ·refine⟨g1.1,fun n hp => ?_⟩
  have g:=g1.2 n hp
  simp only[X.den,Sc.den,IE.den,BE.den,IOp.den,hh]at g
  have a1:bits .and .u64 (Yy hv) 1048575 + -524288=Yf hv:=rfl
  have a2:bits .and .u64 (IOp.den .shr .u64 (Yy hv) 20) 1048575 + -524288=Ye hv:=rfl
  simp only[Yy,IOp.den]at a1 a2
  rw[a1,a2]at g
  have b:(Yf hv==0&&Ye hv==0)=decide (Yf hv=0/\Ye hv=0):=by rw[Bool.eq_iff_iff];simp
  rw[b]at g
  by_cases hc:Yf hv=0/\Ye hv=0
  ·simp only[hc,and_self,decide_true,if_true]at g ⊢
   exact g
  ·simp only[hc,decide_false,Bool.false_eq_true,if_false]at g ⊢
   exact g
 ·refine⟨g2.1,fun n hp => ?_⟩
  have g:=g2.2 n hp
  have a1:=aP4 _ (wu .u64 (.inr rfl) (Yy hv) 1048575 (by decide) (by decide))
  have a2:=aP4 _ (wu .u64 (.inr rfl) (IOp.den .shr .u64 (Yy hv) 20) 1048575 (by decide) (by decide))
  simp only[X.den,X.denL,Sc.den,IE.den,BE.den,IOp.den,<-sm]at g
  have a3:bits .and .u64 (Yy hv) 1048575 + -524288=Yf hv:=rfl
  have a4:bits .and .u64 (IOp.den .shr .u64 (Yy hv) 20) 1048575 + -524288=Ye hv:=rfl
  rw[a3]at a1
  rw[a4]at a2
  simp only[Yy,IOp.den]at a1 a2
  rw[a1,a2]at g
  have b:(Yf hv==0&&Ye hv==0)=decide (Yf hv=0/\Ye hv=0):=by rw[Bool.eq_iff_iff];simp
  rw[b]at g
  by_cases hc:Yf hv=0/\Ye hv=0
  ·simp only[hc,and_self,decide_true,if_true]at g ⊢
   exact g
  ·simp only[hc,decide_false,Bool.false_eq_true,if_false]at g ⊢
   exact g
end Go.Proofs.YtpdfmnhgocpkcaaGreat
