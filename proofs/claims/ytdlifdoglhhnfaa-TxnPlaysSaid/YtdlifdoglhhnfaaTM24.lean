/- Parts of the proof, one behind the other. -/
import Derived.Test.YtdlifdoglhhnfaaTM22
import Derived.Test.YtdlifdoglhhnfaaTM23
namespace Go.Proofs.Ytdlifdoglhhnfaa
open Go Go.Proofs.Aw Go.Proofs.Xw Go.Proofs.Sr
set_option maxRecDepth 100000
theorem nrF_ok {ρ:Rho} {n:Nat} (hv:rightV ρ) (h1:1≤ρ.i 9) (h3:ρ.i 9≤3) (hn:ρ.len 2=n) (n1:1≤n) (n6:n≤6):Facts.ok ρ nrF:=by
 refine all_ok (fun p hp => ?_) (Facts.ok_cons (by rw[dlt_f];exact h1) (Facts.ok_cons (by rw[dlt_f];exact h3) (Facts.ok_cons (by rw[dlt_f];simp only[IE.den];omega) (Facts.ok_cons (by rw[dlt_f];simp only[IE.den];omega) (Facts.ok_nil _)))))
 obtain⟨k,hk,hp⟩:=List.mem_flatMap.1 hp
 have hk:=hv k (List.mem_range.1 hk)
 rcases List.mem_cons.1 hp with rfl | hp
 ·show(BE.lt (.var k) (.lit 0)).den ρ=false
  rw[dlt_f];exact hk.1
 ·rcases List.mem_cons.1 hp with rfl | hp
  ·show(BE.lt (.lit 1099511627776) (.var k)).den ρ=false
   rw[dlt_f];exact hk.2
  ·cases hp
theorem mnD_ok {ρ:Rho} {n m i:Nat} {g:Nat→ByteArray} (h:Bs ρ n m g i):Facts.ok ρ (mnF.drop 2):=by
 have h1:=h.t.f.en;have h2:=h.t.f.em;have h3:=h.t.k1;have h4:=h.t.k3;have h5:=h.xi;have h6:=h.t.f.n1;have h7:=h.t.f.n6
 refine(all_ok (Facts.ok_cons (by rw[dlt_f];simp only[IE.den];omega) (Facts.ok_cons (by rw[dlt_f];simp only[IE.den];omega) (Facts.ok_cons (by rw[deq_t];simp only[IE.den];omega) (Facts.ok_cons (by rw[deq_t];simp only[IE.den];omega) (Facts.ok_cons (by rw[deq_t];exact h.rd) (Facts.ok_nil _)))))) (map9_ok fun d hd=>by rw[deq_t];exact h.cut d hd):Facts.ok ρ ([(.lt (.len 2) (.lit 1),false),(.lt (.lit 6) (.len 2),false),(.eq (.len 471) (.len 2),true),(.eq (.len 473) (.len 2),true),(.eq (.var 519) (.var 529),true)]++(List.range 9).map (fun k=>(.eq (.var (510+k)) (.var (520+k)),true))))
theorem eaF_ok {ρ:Rho} {n off len:Nat} (h:Lv ρ n off len) (n6:n≤6):Facts.ok ρ eaF:=by
 have h1:=h.p.o;have h2:=h.p.l;have h3:=h.p.t;have h4:=h.p.on
 have k1:=h.d.o;have k2:=h.d.l;have k3:=h.d.t;have l0:=h.l0
 refine Facts.ok_cons (by rw[dlt_t];simp only[IE.den];omega) (Facts.ok_cons h.b (Facts.ok_cons (by rw[dlt_f];simp only[IE.den];omega) (Facts.ok_cons (by rw[dlt_f];simp only[IE.den];omega) (Facts.ok_cons (by rw[dlt_f];simp only[IE.den];omega) (Facts.ok_cons ?_ (Facts.ok_cons (by rw[dlt_f];simp only[IE.den];omega) (Facts.ok_cons (by rw[dlt_f];simp only[IE.den];omega) (Facts.ok_cons (by rw[dlt_f];simp only[IE.den];omega) (Facts.ok_cons (by rw[dlt_f];simp only[IE.den];omega) (Facts.ok_cons ?_ (Facts.ok_nil _)))))))))))
 ·rw[deq_t]
  show(ρ.len 505:Int)=ρ.i 502+ρ.i 503
  omega
 ·rw[deq_t]
  show(ρ.len 509:Int)=ρ.i 507+ρ.i 508
  omega
theorem endF_ok {ρ:Rho} {n:Nat} (hn:ρ.len 2=n) (h:ρ.cs 493 0 n=⟨#[120,55]⟩):Facts.ok ρ endF:=by
 refine Facts.ok_cons ?_ (Facts.ok_nil _)
 rw[seq_t]
 show ρ.cs 493 0 ((ρ.len 2:Nat):Int).toNat=⟨#[120,55]⟩
 rw[hn,Int.toNat_natCast];exact h
theorem kyA_den {ρ:Rho} {n:Nat} {g:Nat→ByteArray} (hn:ρ.len 2=n) (hg:stR ρ 2=g):X.denL ρ [kyA]=[roV n g]:=by
 show [AV.ro 1 (rowsD ρ (.len 2) (.app (.len 2) (.var 2 [.s]) (.one [.s (.lit ⟨#[120,55]⟩)]))) false]=_
 unfold roV rowsD
 simp only[IE.den,Int.toNat_natCast,hn]
 rw[List.map_congr_left (g:=fun j=>[AV.sc (.string (g j))]) fun j hj => ?_]
 rw[app_row ρ hn j,if_pos (List.mem_range.1 hj),←hg];rfl
theorem mnA_of {ρ:Rho} (h:LoopOk Try.prog ρ Try.f4.ntmps mn_c mn) (b0:ρ.b 533=true):LoopOk Try.prog ρ Try.f4.ntmps mnA_c mnA :=
 one_way h rfl rfl rfl fun e s hs=>by
  have:mn_out.sel ρ=some (e,s):=hs
  unfold mn_out at this
  rw[T.sel,if_pos (show(BE.var 533).den ρ=true from b0)]at this
  exact this
theorem mnB_of {ρ:Rho} (h:LoopOk Try.prog ρ Try.f4.ntmps mn_c mn) (b0:ρ.b 533=false) (b1:ρ.b 534=true):LoopOk Try.prog ρ Try.f4.ntmps mnB_c mnB :=
 one_way h rfl rfl rfl fun e s hs=>by
  have:mn_out.sel ρ=some (e,s):=hs
  unfold mn_out at this
  rw[T.sel,if_neg (show ¬(BE.var 533).den ρ=true from by rw[show(BE.var 533).den ρ=ρ.b 533 from rfl,b0];decide),T.sel,if_pos (show(BE.var 534).den ρ=true from b1)]at this
  exact this
theorem mnC_of {ρ:Rho} (h:LoopOk Try.prog ρ Try.f4.ntmps mn_c mn) (b0:ρ.b 533=false) (b1:ρ.b 534=false) (b2:ρ.b 535=true):LoopOk Try.prog ρ Try.f4.ntmps mnC_c mnC :=
 one_way h rfl rfl rfl fun e s hs=>by
  have:mn_out.sel ρ=some (e,s):=hs
  unfold mn_out at this
  rw[T.sel,if_neg (show ¬(BE.var 533).den ρ=true from by rw[show(BE.var 533).den ρ=ρ.b 533 from rfl,b0];decide),T.sel,if_neg (show ¬(BE.var 534).den ρ=true from by rw[show(BE.var 534).den ρ=ρ.b 534 from rfl,b1];decide),T.sel,if_pos (show(BE.var 535).den ρ=true from b2)]at this
  exact this
theorem mnD_of {ρ:Rho} (h:LoopOk Try.prog ρ Try.f4.ntmps mn_c mn) (b0:ρ.b 533=false) (b1:ρ.b 534=false) (b2:ρ.b 535=false):LoopOk Try.prog ρ Try.f4.ntmps mnD_c mnD :=
 one_way h rfl rfl rfl fun e s hs=>by
  have:mn_out.sel ρ=some (e,s):=hs
  unfold mn_out at this
  rw[T.sel,if_neg (show ¬(BE.var 533).den ρ=true from by rw[show(BE.var 533).den ρ=ρ.b 533 from rfl,b0];decide),T.sel,if_neg (show ¬(BE.var 534).den ρ=true from by rw[show(BE.var 534).den ρ=ρ.b 534 from rfl,b1];decide),T.sel,if_neg (show ¬(BE.var 535).den ρ=true from by rw[show(BE.var 535).den ρ=ρ.b 535 from rfl,b2];decide)]at this
  exact this
theorem mv_ok {ρ ρ':Rho} {f:Nat} {a:List X} {e:X} {v:AV} (h:X.denL ρ a=X.denL ρ' a) (he:e.den ρ'=v) (k:hasBody Try.prog f=true∧∀n h,CY Try.prog n f (X.denL ρ a) h v []):hasBody Try.prog f=true∧∀n h,CY Try.prog n f (X.denL ρ' a) h (e.den ρ') []:=by
 rw[←h,he];exact k
theorem pl_cy (ρ:Rho) {n m:Nat} {g:Nat→ByteArray} (hn:ρ.len 2=n) (hm:ρ.len 3=m) (hg:stR ρ 2=g) (bn:n<8796093022208) (bm:m≤140737488355327) (hz:∀j,j<n→(g j).size<9223372036854775808):∀k hp,CY Try.prog k 4 (X.denL ρ plA) hp (.sc (.bool true)) []:=by
 obtain⟨b,k8⟩:=mu_cy ρ (by omega)
 have cap:∀{ρ':Rho},Agree 460 ρ ρ'→(BE.and (.not (.lt (.lit 8796093022208) (.len 2))) (.not (.lt (.lit 8796093022208) (.op .padd .i64 (.len 2) (.lit 1))))).den ρ'=true:=fun {ρ'} a=>by
  have h:=a.len 2 (by decide)
  rw[dand_t,dnot_t,dnot_t,dlt_f,dlt_f]
  exact⟨by simp only[IE.den];omega,by show(ρ'.len 2:Int)+1≤8796093022208;omega⟩
 have tr:∀{ρ':Rho} {t:Bool},(X.sc (.b (.lit t))).den ρ' = .sc (.bool t):=rfl
 cases b with
 | true=>exact tru_cy (cK_ok (List.forall_mem_cons.2 ⟨mv_ok rfl tr k8,List.forall_mem_nil _⟩)) (Facts.ok_nil ρ) plM_run (x := .sc (.b (.lit true))) rfl rfl rfl
 | false =>
  obtain⟨v,hv,v31,v41⟩:=rv_both ρ
  have ks:∀{ρ':Rho},Agree 460 ρ ρ'→∀p∈[k8F,(31,[.agg (vi 0 9)],.sc (.b (.lit v))),(41,[.agg (vi 0 9)],.sc (.b (.lit v)))],hasBody Try.prog p.1=true∧∀n h,CY Try.prog n p.1 (X.denL ρ' p.2.1) h (p.2.2.den ρ') []:=fun {ρ'} a =>
   List.forall_mem_cons.2 ⟨mv_ok (X.belL_den a [kyR,anR] (by kernel_rfl)) tr k8,List.forall_mem_cons.2 ⟨mv_ok (X.belL_den a [.agg (vi 0 9)] (by kernel_rfl)) tr v31,List.forall_mem_cons.2 ⟨mv_ok (X.belL_den a [.agg (vi 0 9)] (by kernel_rfl)) tr v41,List.forall_mem_nil _⟩⟩⟩
  obtain⟨ρs,ga,xs,Ls⟩:=sq_ok ρ (n:=n) hn (by omega)
  have ga':Agree 460 ρ ρs:=ga.le (by decide)
  have hns:ρs.len 2=n:=by rw[←ga.len 2 (by decide)];exact hn
  have i9:ρs.i 9=ρ.i 9:=(ga.i 9 (by decide)).symm
  have hs:Facts.ok ρs endF:=endF_ok hns xs
  have es:X.denL ρ plA=X.denL ρs plA:=X.belL_den ga' plA (by kernel_rfl)
  cases v with
  | false=>exact tru_cy (cfgL_ok (ks:=ksR1) (ks ga') (lpSq_ok Ls)) hs plR1_run (x := .sc (.b (.lit true))) (sel_need (cap ga') rfl) rfl es
  | true =>
   by_cases r1:ρ.i 9<1
   ·exact tru_cy (cfgL_ok (ks:=ksR2) (ks ga') (lpSq_ok Ls)) (Facts.ok_cons (by rw[dlt_t];show ρs.i 9<1;omega) hs) plR2_run (x := .sc (.b (.lit true))) (sel_need (cap ga') rfl) rfl es
   ·by_cases r3:3<ρ.i 9
    ·exact tru_cy (cfgL_ok (ks:=ksR2) (ks ga') (lpSq_ok Ls)) (Facts.ok_cons (by rw[dlt_t];show 3<ρs.i 9;omega) hs) plR3_run (x := .sc (.b (.lit true))) (sel_need (cap ga') rfl) rfl es
    ·obtain⟨r,hr,k32⟩:=right_cy ρ n g (by omega) hn hg
     rw[←kyA_den hn hg]at k32
     have f1:∀{x:Rho},x.i 9=ρ.i 9→(BE.lt (.var 9) (.lit 1)).den x=false:=fun {x} h=>by rw[dlt_f];show 1≤x.i 9;omega
     have f3:∀{x:Rho},x.i 9=ρ.i 9→(BE.lt (.lit 3) (.var 9)).den x=false:=fun {x} h=>by rw[dlt_f];show x.i 9≤3;omega
     cases r with
     | false =>
      have ks3:∀{ρ':Rho},Agree 460 ρ ρ'→∀p∈ksR3',hasBody Try.prog p.1=true∧∀n h,CY Try.prog n p.1 (X.denL ρ' p.2.1) h (p.2.2.den ρ') []:=fun {ρ'} a =>
       List.forall_mem_cons.2 ⟨mv_ok (X.belL_den a [kyA] (by kernel_rfl)) tr k32,ks a⟩
      by_cases n1:n<1
      ·exact tru_cy (cfgL_ok (ks:=ksR3') (ks3 ga') (lpSq_ok Ls)) (Facts.ok_cons (f1 i9) (Facts.ok_cons (f3 i9) (Facts.ok_cons (by rw[dlt_t];simp only[IE.den];omega) hs))) plR4_run (x := .sc (.b (.lit true))) rfl rfl es
      ·by_cases n6:6<n
       ·exact tru_cy (cfgL_ok (ks:=ksR3') (ks3 ga') (lpSq_ok Ls)) (Facts.ok_cons (f1 i9) (Facts.ok_cons (f3 i9) (Facts.ok_cons (by rw[dlt_t];simp only[IE.den];omega) hs))) plR5_run (x := .sc (.b (.lit true))) (sel_need (cap ga') rfl) rfl es
       ·have nf:¬∀j,j<n→fitK g j:=fun h=>by
         have:=hr.2 ⟨h,by omega,by omega⟩
         cases this
        obtain⟨ρ1,a1,hQ,L1⟩:=dn_ok ρ (n:=n) (g:=g) hn hg (by omega) (by omega)
        rcases hQ with⟨_,hf,_⟩ | ⟨hb,_⟩
        ·exact absurd hf nf
        ·obtain⟨ρ2,a2,x2,L2⟩:=sq_ok ρ1 (n:=n) (by rw[←a1.len 2 (by decide)];exact hn) (by omega)
         have a':Agree 460 ρ ρ2:=(a1.le (by decide)).trans (a2.le (by decide))
         have n2:ρ2.len 2=n:=by rw[←a'.len 2 (by decide)];exact hn
         have j9:ρ2.i 9=ρ.i 9:=(a'.i 9 (by decide)).symm
         have L1':LoopOk Try.prog ρ2 Try.f20.ntmps dnB_c dnB:=LoopOk.agree (B:=492) (show dnB.S.bel 492=true by kernel_rfl) rfl (show dnB.out.belX 492=true by kernel_rfl) a2 (dnB_of L1 hb)
         exact tru_cy (cfgL_ok (ks:=ksR3') (ks3 a') (lpSb_ok L1' L2)) (Facts.ok_cons (f1 j9) (Facts.ok_cons (f3 j9) (Facts.ok_cons (by rw[dlt_f];simp only[IE.den];omega) (Facts.ok_cons (by rw[dlt_f];simp only[IE.den];omega) (endF_ok n2 x2))))) plR6_run (x := .sc (.b (.lit true))) rfl rfl (X.belL_den a' plA (by kernel_rfl))
     | true =>
      obtain⟨hfit,n1,n6⟩:=hr.1 rfl
      have hf:EnF ρ n m g:=⟨hn,hm,hg,n1,n6,by omega,by omega,by omega,hz⟩
      obtain⟨ρ1,a1,⟨l1,c1⟩,L1⟩:=nw_ok ρ n hn n1 n6
      obtain⟨ρ2,a2,hQ,L2⟩:=dn_ok ρ1 (n:=n) (g:=g) (by rw[←a1.len 2 (by decide)];exact hn) (by rw[agree_st a1 (by decide)];exact hg) n1 n6
      rcases hQ with⟨hb,_,hw⟩ | ⟨_,hh⟩
      ·obtain⟨ρ3,a3,x3,L3⟩:=sp_ok ρ2 (n:=n) (by rw[←a2.len 2 (by decide),←a1.len 2 (by decide)];exact hn) (by omega)
       have a13:Agree 470 ρ1 ρ3:=a2.trans (a3.le (by decide))
       have a03:Agree 460 ρ ρ3:=a1.trans (a13.le (by decide))
       have hw3:Nw ρ3 g n:=hw.agree a3 (by decide)
       obtain⟨s,ρ4,a4,⟨⟨i,hB,hT⟩,b0,b1,b2⟩,L4⟩:=mn_ok ρ3 (g:=g) (m:=m) ⟨hf.agree a03 (by decide),hw3.l1,hw3.k,hw3.l3⟩ ((hv rfl).agree a03 (by decide)) (by rw[←a13.len 461 (by decide)];exact l1) (by rw[←a13.ci 461 (by decide)];exact c1) hw3.l2 hw3.t hw3.a
       have a14:Agree 470 ρ1 ρ4:=a13.trans (a4.le (by decide))
       have a04:Agree 460 ρ ρ4:=a03.trans (a4.le (by decide))
       have M1:∀{ρ5:Rho},Agree 500 ρ4 ρ5→LoopOk Try.prog ρ5 Try.f9.ntmps nw_c nw:=fun a=>LoopOk.agree (B:=470) (show nw.S.bel 470=true by kernel_rfl) rfl (show nw.out.belX 470=true by kernel_rfl) (a14.trans (a.le (by decide))) L1
       have M2:∀{ρ5:Rho},Agree 500 ρ4 ρ5→LoopOk Try.prog ρ5 Try.f20.ntmps dnX_c dnX:=fun a=>LoopOk.agree (B:=492) (show dnX.S.bel 492=true by kernel_rfl) rfl (show dnX.out.belX 492=true by kernel_rfl) (a3.trans ((a4.trans a).le (by decide))) (dnX_of L2 hb)
       have M3:∀{ρ5:Rho},Agree 500 ρ4 ρ5→LoopOk Try.prog ρ5 Try.f4.ntmps sp_c sp:=fun a=>LoopOk.agree (B:=500) (show sp.S.bel 500=true by kernel_rfl) rfl (show sp.out.belX 500=true by kernel_rfl) (a4.trans a) L3
       have kN:∀{ρ5:Rho},Agree 500 ρ4 ρ5→∀p∈ksN,hasBody Try.prog p.1=true∧∀n h,CY Try.prog n p.1 (X.denL ρ5 p.2.1) h (p.2.2.den ρ5) []:=fun {ρ5} a=>by
        have a':Agree 460 ρ ρ5:=a04.trans (a.le (by decide))
        exact List.forall_mem_cons.2 ⟨mv_ok (X.belL_den a' [kyR,anR] (by kernel_rfl)) tr k8,List.forall_mem_cons.2 ⟨mv_ok (X.belL_den a' [kyA] (by kernel_rfl)) tr k32,List.forall_mem_nil _⟩⟩
       have fe:∀{ρ5:Rho},Agree 500 ρ4 ρ5→Facts.ok ρ5 (endF++nrF):=fun {ρ5} a=>by
        have a':Agree 460 ρ ρ5:=a04.trans (a.le (by decide))
        have h9:=a'.i 9 (by decide)
        exact all_ok (endF_ok (n:=n) (by rw[←a'.len 2 (by decide)];exact hn) (by rw[←a.cs 493 (by decide),←a4.cs 493 (by decide)];exact x3)) (nrF_ok ((hv rfl).agree a' (by decide)) (by omega) (by omega) (by rw[←a'.len 2 (by decide)];exact hn) n1 n6)
       have re:=Agree.refl 500 ρ4
       have ea:∀{ρ5:Rho},Agree 500 ρ4 ρ5→X.denL ρ plA=X.denL ρ5 plA:=fun {ρ5} a=>X.belL_den (a04.trans (a.le (by decide))) plA (by kernel_rfl)
       match s,hT,b0,b1,b2 with
       | 0,⟨off,len,hL⟩,b0,_,_ =>
        exact tru_cy (cfgL_ok (kN re) (lpZA_ok (M1 re) (M2 re) (M3 re) (mnA_of L4 b0))) (all_ok (eaF_ok hL n6) (fe re)) plA1_run (x := .sc (.b (.lit true))) (sel_need (by rw[dand_t];exact⟨aE_t hL.p,bE_t hL.d⟩) rfl) rfl (ea re)
       | 1,⟨⟨off,len,hD⟩,h1,h2,h3⟩,b0,b1,_ =>
        exact tru_cy (cfgL_ok (kN re) (lpZB_ok (M1 re) (M2 re) (M3 re) (mnB_of L4 b0 b1))) (all_ok (Facts.ok_cons (show(BE.var 530).den ρ4=true from h1) (Facts.ok_cons (by rw[deq_t];exact h3) (Facts.ok_cons (by rw[deq_t];exact h2) (mnD_ok hB)))) (fe re)) plB1_run (x := .sc (.b (.lit true))) (sel_need (ndZ hD) rfl) rfl (ea re)
       | 2,⟨⟨off,o2,hP,hD⟩,h1,h2⟩,b0,b1,b2 =>
        obtain⟨ρ5,a5,R5,L5⟩:=rz_ok ρ4 n1 n6 hB.t.f.en
        have hB5:Bs ρ5 n m g i:=hB.agree a5 (by decide)
        obtain⟨ρ6,a6,R6,L6⟩:=r2_ok ρ5 n1 n6 ⟨⟨hB5.t.f.en,hB5.t.k1,hB5.t.k3⟩,by rw[←a5.b 530 (by decide)];exact h1,by rw[←a5.i 531 (by decide)];exact h2⟩
        have a46:Agree 560 ρ4 ρ6:=a5.trans (a6.le (by decide))
        have aa:Agree 500 ρ4 ρ6:=a46.le (by decide)
        have hB6:Bs ρ6 n m g i:=hB.agree a46 (by decide)
        have hP6:Tp ρ6 n off 0:=hP.agree a46 (by decide)
        have hD6:Td ρ6 n o2 0:=hD.agree a46 (by decide)
        have R5':ReR ρ6 561 2 504 n:=R5.agree a6 (by decide) (by decide) (by decide)
        have hl:=hP6.l
        have L5':LoopOk Try.prog ρ6 Try.f22.ntmps rz_c rz:=LoopOk.agree (B:=570) (show rz.S.bel 570=true by kernel_rfl) rfl (show rz.out.belX 570=true by kernel_rfl) a6 L5
        have L4':LoopOk Try.prog ρ6 Try.f4.ntmps mnC_c mnC:=LoopOk.agree (B:=540) (show mnC.S.bel 540=true by kernel_rfl) rfl (show mnC.out.belX 540=true by kernel_rfl) (a46.le (by decide)) (mnC_of L4 b0 b1 b2)
        exact tru_cy (cfgL_ok (ks:=ksZ) (List.forall_mem_cons.2 ⟨re_same hB6 R5' R6,kN aa⟩) (lpZC_ok (M1 aa) (M2 aa) (M3 aa) L4' L5' L6)) (all_ok (all_ok (Facts.ok_cons (by rw[dlt_f];simp only[IE.den];omega) (Facts.ok_cons (by rw[dlt_f];simp only[IE.den];omega) (Facts.ok_cons (by show ρ6.b 530=true;rw[←a46.b 530 (by decide)];exact h1) (Facts.ok_cons (by rw[deq_t];show ρ6.i 531=0;rw[←a46.i 531 (by decide)];exact h2) (dz_ok R5' R6 hB6.t.f.en n6))))) (all_ok (mnD_ok hB6) (lnT_ok hP6 n6))) (fe aa)) plC1_run (x := .sc (.b (.lit true))) (sel_need (ndD hP6 hD6) rfl) rfl (ea aa)
       | 3,⟨⟨off,hP⟩,h1,h2⟩,b0,b1,b2 =>
        obtain⟨ρ5,a5,R5,L5⟩:=rz_ok ρ4 n1 n6 hB.t.f.en
        have hB5:Bs ρ5 n m g i:=hB.agree a5 (by decide)
        obtain⟨ρ6,a6,R6,L6⟩:=r3_ok ρ5 n1 n6 ⟨⟨hB5.t.f.en,hB5.t.k1,hB5.t.k3⟩,by rw[←a5.b 530 (by decide)];exact h1,by rw[←a5.i 531 (by decide)];exact h2⟩
        have a46:Agree 560 ρ4 ρ6:=a5.trans (a6.le (by decide))
        have aa:Agree 500 ρ4 ρ6:=a46.le (by decide)
        have hB6:Bs ρ6 n m g i:=hB.agree a46 (by decide)
        have hP6:Tp ρ6 n off 0:=hP.agree a46 (by decide)
        have R5':ReR ρ6 561 2 504 n:=R5.agree a6 (by decide) (by decide) (by decide)
        have hl:=hP6.l
        have L5':LoopOk Try.prog ρ6 Try.f22.ntmps rz_c rz:=LoopOk.agree (B:=570) (show rz.S.bel 570=true by kernel_rfl) rfl (show rz.out.belX 570=true by kernel_rfl) a6 L5
        have L4':LoopOk Try.prog ρ6 Try.f4.ntmps mnD_c mnD:=LoopOk.agree (B:=540) (show mnD.S.bel 540=true by kernel_rfl) rfl (show mnD.out.belX 540=true by kernel_rfl) (a46.le (by decide)) (mnD_of L4 b0 b1 b2)
        exact tru_cy (cfgL_ok (ks:=ksZ) (List.forall_mem_cons.2 ⟨re_same hB6 R5' R6,kN aa⟩) (lpZD_ok (M1 aa) (M2 aa) (M3 aa) L4' L5' L6)) (all_ok (all_ok (Facts.ok_cons (by rw[dlt_f];simp only[IE.den];omega) (Facts.ok_cons (by rw[dlt_f];simp only[IE.den];omega) (Facts.ok_cons (by show ρ6.b 530=true;rw[←a46.b 530 (by decide)];exact h1) (Facts.ok_cons (by rw[deq_t];show ρ6.i 531=0;rw[←a46.i 531 (by decide)];exact h2) (dz_ok R5' R6 hB6.t.f.en n6))))) (all_ok (mnD_ok hB6) (lnT_ok hP6 n6))) (fe aa)) plD1_run (x := .sc (.b (.lit true))) (sel_need (aE_t hP6) rfl) rfl (ea aa)
       | s+4,hT,_,_,_=>exact hT.elim
      ·exact absurd hfit hh
def enSh:List Sh:=[.flat (List.replicate 9 (.i .i64)) true,.flat [.i .i64] false,.sl [.s],.sl ka]
theorem pl_law (W:World) (vs:List Value) (hl:enSh.length=vs.length) (hf:∀(i:Nat) (sh:Sh) (v:Value),enSh[i]? = some sh→vs[i]? = some v→Fits W sh v) (hs:Short Try.prog Try.f4.params.toList vs):CY Try.prog 0 4 (X.denL (mkR W (plain enSh vs) vs (enSh.map shZ)) (pats 0 0 enSh)) [] (.sc (.bool true)) []:=by
 match vs,hl with
 | [v0,v1,v2,v3],_ =>
  have f2:=hf 2 (.sl [.s]) v2 rfl rfl
  have f3:=hf 3 (.sl ka) v3 rfl rfl
  have hz:=sl_sizes (j:=2) f2 [v0,v1,v2,v3] (plain enSh [v0,v1,v2,v3]) (enSh.map shZ) rfl rfl
  obtain⟨A2,n,c2,e2,l2⟩:=sl_len (j:=2) f2 [v0,v1,v2,v3] (plain enSh [v0,v1,v2,v3]) (enSh.map shZ) rfl
  obtain⟨A3,m,c3,e3,l3⟩:=sl_len (j:=3) f3 [v0,v1,v2,v3] (plain enSh [v0,v1,v2,v3]) (enSh.map shZ) rfl
  have s2:=hs 2 25 9 A2 n c2 (by kernel_rfl) (by rw[e2];rfl) (by kernel_rfl)
  have s3:=hs 3 26 47 A3 m c3 (by kernel_rfl) (by rw[e3];rfl) (by kernel_rfl)
  have b2:Try.prog.bytesOf 9=16:=by kernel_rfl
  have b3:Try.prog.bytesOf 47=216:=by kernel_rfl
  have rb:reachBytes=140737488351232:=rfl
  rw[b2,rb]at s2
  rw[b3,rb]at s3
  show CY Try.prog 0 4 (X.denL _ plA) [] _ []
  exact pl_cy _ (n:=n) (m:=m) l2 l3 rfl (by omega) (by omega) (by rw[←l2];exact hz) 0 []
end Go.Proofs.Ytdlifdoglhhnfaa
