/- Parts of the proof, one behind the other. -/
import Derived.Test.YtdlifdoglhhnfaaTM17
import Derived.Test.YtdlifdoglhhnfaaTM13
namespace Go.Proofs.Ytdlifdoglhhnfaa
open Go Go.Proofs.Aw Go.Proofs.Xw Go.Proofs.Sr
set_option maxRecDepth 100000
def t2S:Nat→XS
 | 0=>t2_S0
 | _=>t2_S1
def t2R (n m off κ:Nat) (g:Nat→ByteArray) (P:Nat→Prop) (ρ0:Rho) (s:Nat) (ρ:Rho):Prop:=LastA ρ n m g off κ∧Agree 620 ρ0 ρ∧∃j:Nat,ρ.i 620=j∧j≤n∧match s with
 | 0=>∀x,x<j→¬P x
 | _=>1≤cnt P j∧LsC ρ 621 j P
def t2Q' (n:Nat) (P:Nat→Prop) (ρ:Rho):Prop:=(ρ.b 626=true∧∀x,x<n→¬P x)∨(ρ.b 626=false∧1≤cnt P n∧LsC ρ 621 n P)
theorem t2_ok (ρ:Rho) {n m off κ:Nat} {g:Nat→ByteArray} (h:LastA ρ n m g off κ):∃ρf,Agree 620 ρ ρf∧t2Q' n (NC g (ρ.i 9) (An ρ 600) fun d=>ρ.i (602+d)) ρf∧LoopOk Try.prog ρf Try.f34.ntmps t2_c t2:=by
 generalize hP:NC g (ρ.i 9) (An ρ 600) (fun d=>ρ.i (602+d))=P
 suffices hh:∃(_:Nat) (ρf:Rho),Agree t2.n ρ ρf∧t2Q' n P ρf∧LoopOk Try.prog ρf Try.f34.ntmps t2_c t2 by
  obtain⟨_,ρf,h1,h2,h3⟩:=hh
  exact⟨ρf,h1,h2,h3⟩
 have a0:=Bind.agree t2_I0g ρ
 have hn:=h.f.n6
 refine loopOk_famE (L:=t2) (N:=Try.f34.ntmps) (body:=t2_c) (P:=Try.prog) rfl t2_Eb t2S (t2R n m off κ g P ρ) (fun _ ρ'=>t2Q' n P ρ') (fun _ ρ'=>(n-ρ'.i 620).toNat) ?_
  ⟨0,t2_I0.ap ρ,a0,⟨h.agree a0 (by decide),a0,0,ap_i t2_I0_620,Nat.zero_le _,fun x hx=>absurd hx (by omega)⟩,fun E _ hE=>okS_imp hE t2_I0ok ρ⟩
 rintro s ρ' ⟨hA,ag0,j,hj,hjn,hs⟩
 have hen:=hA.f.en
 by_cases c:j<n
 ·
  generalize hq:sec (ρ'.i 9) (pt (g j))=q
  generalize e0:putI ρ' [(622,q)]=ρ0
  have hp:=part_row ρ0 602 (.var 622)
  have hof:=of_cy (g j) (hA.f.z j c) (ρ'.i 9) ⟨hA.f.r1,hA.f.r3⟩
  unfold OfG at hof
  rw[hq]at hof
  generalize ha:pc (fun k=>ρ0.i (602+k)) ((IE.var 622).den ρ0) 0=a at hp
  generalize hb:pc (fun k=>ρ0.i (602+k)) ((IE.var 622).den ρ0) 1=b at hp
  generalize hd':pc (fun k=>ρ0.i (602+k)) ((IE.var 622).den ρ0) 2=d at hp
  generalize e1:putI ρ' [(622,q),(623,a),(624,b),(625,d)]=ρ1
  have ag:Agree 622 ρ' ρ1:=by rw[←e1];exact putI_agree ρ' rfl
  have i622:ρ1.i 622=q:=by rw[←e1];rfl
  have i623:ρ1.i 623=a:=by rw[←e1];rfl
  have i624:ρ1.i 624=b:=by rw[←e1];rfl
  have i625:ρ1.i 625=d:=by rw[←e1];rfl
  have i620:ρ1.i 620=j:=by rw[←ag.i 620 (by decide)];exact hj
  have hA1:LastA ρ1 n m g off κ:=hA.agree ag (by decide)
  have cok:CfgOk Try.prog ρ1 (cfgL ksOf (fun _=>[])):=cK_ok (List.forall_mem_cons.2 ⟨⟨hof.1,fun k hp=>by
    show CY Try.prog k 17 (X.denL ρ1 [.sc (.s (.cl 2 0 (.var 620))),.sc (.i .i64 (.var 9))]) hp (X.den ρ1 (.sc (.i .i64 (.var 622)))) []
    have e:(TE.cl 2 0 (.var 620)).den ρ1=g j:=by rw[sl_den (ρ:=ρ1) (e := .var 620) (n:=j) i620,hA1.f.eg]
    simp only[X.denL,X.den,Sc.den,e,IE.den,i622,←ag.i 9 (by decide)]
    exact hof.2 k hp⟩,List.forall_mem_cons.2 ⟨⟨hp.1,fun k hp'=>by
    show CY Try.prog k 19 (X.denL ρ1 [.agg (vi 602 9),.sc (.i .i64 (.var 622))]) hp' (X.den ρ1 (.agg (vi 623 3))) []
    have:=hp.2 k hp'
    have e2:X.denL ρ0 [.agg (vi 602 9),.sc (.i .i64 (.var 622))]=X.denL ρ1 [.agg (vi 602 9),.sc (.i .i64 (.var 622))]:=by rw[←e0,←e1];rfl
    have e3:X.den ρ1 (.agg (vi 623 3)) = .agg [.sc (.int .i64 a),.sc (.int .i64 b),.sc (.int .i64 d)]:=by rw[←e1];rfl
    rw[e2]at this
    rw[e3]
    exact this⟩,List.forall_mem_nil _⟩⟩)
  have hnc:ncE.den ρ1=true↔P j:=by
   have pcq:∀x,x<3→pc (fun k=>ρ0.i (602+k)) ((IE.var 622).den ρ0) x=pc (fun k=>ρ.i (602+k)) (sec (ρ.i 9) (pt (g j))) x:=fun x hx=>by
    have e4:(IE.var 622).den ρ0=sec (ρ.i 9) (pt (g j)):=by rw[←e0,ag0.i 9 (by decide),hq];rfl
    have ag00:Agree 622 ρ' ρ0:=by rw[←e0];exact putI_agree ρ' rfl
    rw[e4]
    exact pc_congr hx fun k hk=>by rw[←ag00.i (602+k) (by omega),←ag0.i (602+k) (by omega)]
   rw[←hP]
   unfold NC ncol
   rw[←pcq 0 (by decide),←pcq 1 (by decide),←pcq 2 (by decide),ha,hb,hd']
   have c22:∀k,k=22∨k=23∨k=24→(IE.cl 600 k (.var 620)).den ρ1=(An ρ 600 j).1 k:=fun k hk=>by
    rw[cl_i (e := .var 620) (j:=j) i620,←ag.ci 600 (by decide),←ag0.ci 600 (by decide)]
    rcases hk with rfl | rfl | rfl<;>rfl
   unfold ncE
   rw[dor_t,dor_t,dlt_t,dlt_t,dlt_t,c22 22 (by omega),c22 23 (by omega),c22 24 (by omega)]
   simp only[IE.den,i623,i624,i625]
  have hlt:(BE.lt (.var 620) (.len 2)).den ρ1=true:=by rw[dlt_t];simp only[IE.den,i620,hA1.f.en];omega
  have fk:Facts.ok ρ1 t2F:=Facts.ok_cons (by rw[dlt_f];simp only[IE.den,i620];omega) (Facts.ok_cons (by rw[dlt_f];simp only[IE.den,hA1.f.en];omega) (Facts.ok_nil _))
  have up:∀{β:Bind},lassoc 620 β.i=some (.op .add .i64 (.var 620) (.lit 1))→(β.ap ρ1).i 620=((j+1:Nat):Int):=fun hb=>(ap_i hb).trans (inc i620 (by omega))
  have down:∀{x:Rho},x.i 620=((j+1:Nat):Int)→(n-x.i 620).toNat<(n-ρ'.i 620).toNat:=fun e=>by rw[e,hj];omega
  have ag5:Agree 620 ρ' ρ1:=ag.le (by decide)
  match s,hs with
  | 0,hs =>
   have hd:t2_S0.den ρ'=t2_S0.den ρ1:=XS.bel_den ag t2_S0 (by kernel_rfl)
   cases hc:ncE.den ρ1 with
   | false =>
    have ag2:=ag5.trans (Bind.agree t2_Y0_g ρ1)
    have hnp:¬P j:=fun k=>by rw[hnc.2 k]at hc;cases hc
    refine .inr ⟨0,t2_Y0_b.ap ρ1,t2_Y0_step hd cok (LpsOk.nil _ _ _ _) (Facts.ok_cons hlt (Facts.ok_cons hc fk)),⟨hA.agree ag2 (by decide),ag0.trans ag2,j+1,up t2_Y0_620,c,fun x hx => ?_⟩,down (up t2_Y0_620),ag2⟩
    by_cases q:x=j
    ·subst q;exact hnp
    ·exact hs x (by omega)
   | true =>
    have ag2:=ag5.trans (Bind.agree t2_N0_g ρ1)
    refine .inr ⟨1,t2_N0_b.ap ρ1,t2_N0_step hd cok (LpsOk.nil _ _ _ _) (Facts.ok_cons hlt (Facts.ok_cons hc (Facts.ok_cons (by rw[deq_t];exact hA1.l) (all_ok (tnP_ok hA1) fk)))) ?_,⟨hA.agree ag2 (by decide),ag0.trans ag2,j+1,up t2_N0_620,c,by rw[cnt_t (hnc.1 hc)];omega,LsC.one t2_N0_r621 i620 (hnc.1 hc) hs⟩,down (up t2_N0_620),ag2⟩
    rw[deq_t]
    show(ρ1.len 505:Int)=(ρ1.i 502+1)+(ρ1.i 503-1)
    have:=hA1.o;have:=hA1.l;have:=hA1.t
    omega
  | s+1,⟨k1,hk⟩ =>
   have hd:t2_S1.den ρ'=t2_S1.den ρ1:=XS.bel_den ag t2_S1 (by kernel_rfl)
   have hk1:LsC ρ1 621 j P:=hk.agree ag (by decide)
   cases hc:ncE.den ρ1 with
   | false =>
    have ag2:=ag5.trans (Bind.agree t2_Y1_g ρ1)
    have hnp:¬P j:=fun k=>by rw[hnc.2 k]at hc;cases hc
    exact .inr ⟨1,t2_Y1_b.ap ρ1,t2_Y1_step hd cok (LpsOk.nil _ _ _ _) (Facts.ok_cons hlt (Facts.ok_cons hc fk)),⟨hA.agree ag2 (by decide),ag0.trans ag2,j+1,up t2_Y1_620,c,by rw[cnt_f hnp];exact k1,(hk1.skip hnp).same t2_Y1_r621⟩,down (up t2_Y1_620),ag2⟩
   | true =>
    have ag2:=ag5.trans (Bind.agree t2_N1_g ρ1)
    exact .inr ⟨1,t2_N1_b.ap ρ1,t2_N1_step hd cok (LpsOk.nil _ _ _ _) (Facts.ok_cons hlt (Facts.ok_cons hc (Facts.ok_cons (by have:=cnt_le P j;rw[dlt_f];simp only[IE.den,hk1.1];omega) fk))),⟨hA.agree ag2 (by decide),ag0.trans ag2,j+1,up t2_N1_620,c,by rw[cnt_t (hnc.1 hc)];omega,hk1.app t2_N1_r621 i620 (hnc.1 hc)⟩,down (up t2_N1_620),ag2⟩
 ·obtain rfl:j=n:=by omega
  match s,hs with
  | 0,hs =>
   have ag:Agree 626 ρ' (putB ρ' 626 true):=putB_agree ρ' (Nat.le_refl _)
   refine .inl ⟨putB ρ' 626 true,ag.le (by decide),.inl ⟨rfl,hs⟩,XS.bel_den ag t2_S0 (by kernel_rfl),?_⟩
   exact t2_X0_end (cN_ok _) (LpsOk.nil _ _ _ _) (Facts.ok_cons (by show(BE.lt (.var 620) (.len 2)).den _=false;rw[dlt_f];show(ρ'.len 2:Int)≤ρ'.i 620;omega) (Facts.ok_nil _)) rfl
  | s+1,⟨k1,hk⟩ =>
   have ag:Agree 626 ρ' (putB ρ' 626 false):=putB_agree ρ' (Nat.le_refl _)
   refine .inl ⟨putB ρ' 626 false,ag.le (by decide),.inr ⟨rfl,k1,hk⟩,XS.bel_den ag t2_S1 (by kernel_rfl),?_⟩
   exact t2_X1_end (cN_ok _) (LpsOk.nil _ _ _ _) (Facts.ok_cons (by show(BE.lt (.var 620) (.len 2)).den _=false;rw[dlt_f];show(ρ'.len 2:Int)≤ρ'.i 620;omega) (Facts.ok_nil _)) rfl
def paE (cs:List AV) (d:Nat):Int:=pa (fun c=>cellI cs[c-2]?) d
theorem paE_of (ρ:Rho) (l y:Nat):∀d,d<9→pa (enF ρ l y) d=paE (rw_ ρ l ke y) d:=nine rfl rfl rfl rfl rfl rfl rfl rfl rfl
def enS (l:Nat) (i:IE):List Sc:=[.i .i64 (.cl l 2 i),.i .i64 (.cl l 3 i),.i .i64 (.cl l 4 i),.i .i64 (.cl l 5 i),.i .i64 (.cl l 6 i),.i .i64 (.cl l 7 i),.s (.cl l 8 i),.s (.cl l 9 i),.b (.cl l 10 i),.i .i64 (.cl l 11 i),.i .i64 (.cl l 12 i),.i .i64 (.cl l 13 i),.i .i64 (.cl l 14 i),.i .i64 (.cl l 15 i),.i .i64 (.cl l 16 i),.i .i64 (.cl l 17 i),.i .i64 (.cl l 18 i),.i .i64 (.cl l 19 i),.i .i64 (.cl l 20 i),.i .i64 (.cl l 21 i)]
theorem paE_new (ρ:Rho) (l:Nat) (i:IE):∀d,d<9→paE (kcells (scL ρ (enS l i)) 0 ke) d=pa (fun c=>ρ.ci l c (i.den ρ).toNat) d:=nine rfl rfl rfl rfl rfl rfl rfl rfl rfl
theorem kc_ke (ρ:Rho) (l j:Nat):kcells (rw_ ρ l ke j) 0 ke=rw_ ρ l ke j:=rfl
def Fnd (ρ:Rho) (j:Nat):Prop:=∃c:Nat,1≤c∧c≤j∧ρ.len 641=c∧∀d,d<9→fo (enF ρ 641) d c=mx (An ρ 639) d j
theorem Fnd.agree {ρ ρ':Rho} {b j:Nat} (h:Fnd ρ j) (ag:Agree b ρ ρ') (hb:642≤b):Fnd ρ' j:=by
 obtain⟨c,c1,c2,c3,c4⟩:=h
 refine⟨c,c1,c2,by rw[←ag.len 641 (by omega)];exact c3,fun d hd => ?_⟩
 have e1:enF ρ' 641=enF ρ 641:=by funext x;unfold enF;rw[←ag.ci 641 (by omega)]
 have e2:An ρ' 639=An ρ 639:=by funext x;exact An.agree ag (by omega) x
 rw[e1,e2];exact c4 d hd
def fdS:Nat→XS
 | 0=>fd_S0
 | _=>fd_S1
def fdB (n κ i:Nat) (ρ0 ρ:Rho):Prop:=Agree 639 ρ0 ρ∧(∀x,rw_ ρ 639 ka x=if x=κ then rw_ ρ0 3 ka i else rw_ ρ0 506 ka x)
def fdI (n κ i:Nat) (ρ0:Rho) (s:Nat) (ρ:Rho):Prop:=fdB n κ i ρ0 ρ∧∃j:Nat,ρ.i 640=j∧j≤n∧match s with
 | 0=>∀x,x<j→(An ρ 639 x).2=false
 | _=>Fnd ρ j
def fdQ (n κ i:Nat) (ρ0 ρ:Rho):Prop:=(∀x,rw_ ρ 639 ka x=if x=κ then rw_ ρ0 3 ka i else rw_ ρ0 506 ka x)∧ρ.i 640=n∧((ρ.b 642=true∧∀x,x<n→(An ρ 639 x).2=false)∨(ρ.b 642=false∧Fnd ρ n))
theorem fd_same {ρ:Rho} {β:Bind} {n κ i:Nat} {ρ0:Rho} {m:IE} (h:fdB n κ i ρ0 ρ) (ag:Agree 639 ρ (β.ap ρ)) (hr:lassoc 639 β.r=some (m,.var 639 ka)):fdB n κ i ρ0 (β.ap ρ)∧∀x,An (β.ap ρ) 639 x=An ρ 639 x:=by
 have e:∀x,rw_ (β.ap ρ) 639 ka x=rw_ ρ 639 ka x:=fun x=>by rw[ap_row hr,var_row,kc_ka]
 exact⟨⟨h.1.trans ag,fun x=>by rw[e];exact h.2 x⟩,fun x=>An_eq (e x)⟩
theorem fd_ok (ρ:Rho) {n κ i:Nat} (hn:ρ.len 2=n) (hl:ρ.len 473=n) (n1:1≤n) (n6:n≤6) (hκ:(IE.cl 509 0 (.var 507)).den ρ=κ) (hi:ρ.i 500=i):∃ρf,Agree 639 ρ ρf∧fdQ n κ i ρ ρf∧LoopOk Try.prog ρf Try.f26.ntmps fd_c fd:=by
 suffices hh:∃(_:Nat) (ρf:Rho),Agree fd.n ρ ρf∧fdQ n κ i ρ ρf∧LoopOk Try.prog ρf Try.f26.ntmps fd_c fd by
  obtain⟨_,ρf,h1,h2,h3⟩:=hh
  exact⟨ρf,h1,h2,h3⟩
 have a0:Agree 639 ρ (fd_I0.ap ρ):=Bind.agree fd_I0g ρ
 refine loopOk_famE (L:=fd) (N:=Try.f26.ntmps) (body:=fd_c) (P:=Try.prog) rfl fd_Eb fdS (fdI n κ i ρ) (fun _ ρ'=>fdQ n κ i ρ ρ') (fun _ ρ'=>(n-ρ'.i 640).toNat) ?_
  ⟨0,fd_I0.ap ρ,a0,⟨⟨a0,fun x=>by
   rw[ap_row fd_I0_r639]
   refine Eq.trans (congrArg (fun r=>kcells r 0 ka) (upd_row ρ (ks:=ka) (ss:=anS 3 (.var 500)) hκ x)) ?_
   by_cases q:x=κ
   ·rw[if_pos q,if_pos q,an_row ρ (i := .var 500) hi,kc_ka]
   ·rw[if_neg q,if_neg q,kc_ka]⟩,0,ap_i fd_I0_640,Nat.zero_le _,fun x hx=>absurd hx (by omega)⟩,fun E _ hE=>okS_imp hE fd_I0ok ρ⟩
 rintro s ρ' ⟨hB,j,hj,hjn,hs⟩
 have hn':ρ'.len 2=n:=by rw[←hB.1.len 2 (by decide)];exact hn
 have hl':ρ'.len 473=n:=by rw[←hB.1.len 473 (by decide)];exact hl
 have fk:∀{x:Rho},x.len 2=n→x.len 473=n→x.i 640=j→Facts.ok x fdF:=fun h1 h2 h3=>Facts.ok_cons (by rw[dlt_f];simp only[IE.den];omega) (Facts.ok_cons (by rw[dlt_f];simp only[IE.den];omega) (Facts.ok_cons (by rw[dlt_f];simp only[IE.den];omega) (Facts.ok_cons (by rw[deq_t];simp only[IE.den];omega) (Facts.ok_nil _))))
 have hin:∀{x:Rho} {b:Bool},x.len 473=n→x.i 640=j→decide (j<n)=b→inF.den x=b:=fun {x b} h1 h2 h3=>by
  show decide (x.i 640<(x.len 473:Int))=b
  rw[h1,h2,←h3];exact decide_eq_decide.2 (by omega)
 have down:∀{x:Rho},x.i 640=((j+1:Nat):Int)→j<n→(n-x.i 640).toNat<(n-ρ'.i 640).toNat:=fun e c=>by rw[e,hj];omega
 have hh:(BE.cl 639 1 (.var 640)).den ρ'=(An ρ' 639 j).2:=cl_b (e := .var 640) hj
 by_cases c:j<n
 ·match s,hs with
  | 0,hs =>
   cases hb:(An ρ' 639 j).2 with
   | false =>
    have ag:=Bind.agree fd_N0_g ρ'
    obtain⟨b1,b2⟩:=fd_same hB ag fd_N0_r639
    have up:(fd_N0_b.ap ρ').i 640=((j+1:Nat):Int):=(ap_i fd_N0_640).trans (inc hj (by omega))
    refine .inr ⟨0,fd_N0_b.ap ρ',fd_N0_step rfl (cN_ok _) (LpsOk.nil _ _ _ _) (Facts.ok_cons (hin hl' hj (decide_eq_true c)) (Facts.ok_cons (hh.trans hb) (fk hn' hl' hj))),⟨b1,j+1,up,c,fun x hx => ?_⟩,down up c,ag⟩
    rw[b2]
    by_cases q:x=j
    ·rw[q];exact hb
    ·exact hs x (by omega)
   | true =>
    have ag:=Bind.agree fd_H0_g ρ'
    obtain⟨b1,b2⟩:=fd_same hB ag fd_H0_r639
    have up:(fd_H0_b.ap ρ').i 640=((j+1:Nat):Int):=(ap_i fd_H0_640).trans (inc hj (by omega))
    refine .inr ⟨1,fd_H0_b.ap ρ',fd_H0_step rfl (cN_ok _) (LpsOk.nil _ _ _ _) (Facts.ok_cons (hin hl' hj (decide_eq_true c)) (Facts.ok_cons (hh.trans hb) (fk hn' hl' hj))),⟨b1,j+1,up,c,1,Nat.le_refl _,by omega,ap_len fd_H0_r641,fun d hd => ?_⟩,down up c,ag⟩
    have e:An (fd_H0_b.ap ρ') 639=An ρ' 639:=funext b2
    show max 0 (pa (enF (fd_H0_b.ap ρ') 641 0) d)=if(An (fd_H0_b.ap ρ') 639 j).2=true then max (mx (An (fd_H0_b.ap ρ') 639) d j) (pa (An (fd_H0_b.ap ρ') 639 j).1 d)else mx (An (fd_H0_b.ap ρ') 639) d j
    rw[e,if_pos hb,mx_none hs,paE_of _ _ _ d hd,ap_row fd_H0_r641]
    have e2:=paE_new ρ' 639 (.var 640) d hd
    rw[show(IE.var 640).den ρ'=j from hj,Int.toNat_natCast,←pa_norm _ d hd]at e2
    exact congrArg (max 0) e2
  | s+1,hs =>
   obtain⟨k,k1,k2,k3,k4⟩:=hs
   cases hb:(An ρ' 639 j).2 with
   | false =>
    have ag:=Bind.agree fd_N1_g ρ'
    obtain⟨b1,b2⟩:=fd_same hB ag fd_N1_r639
    have up:(fd_N1_b.ap ρ').i 640=((j+1:Nat):Int):=(ap_i fd_N1_640).trans (inc hj (by omega))
    have e:An (fd_N1_b.ap ρ') 639=An ρ' 639:=funext b2
    refine .inr ⟨1,fd_N1_b.ap ρ',fd_N1_step rfl (cN_ok _) (LpsOk.nil _ _ _ _) (Facts.ok_cons (hin hl' hj (decide_eq_true c)) (Facts.ok_cons (hh.trans hb) (fk hn' hl' hj))),⟨b1,j+1,up,c,k,k1,by omega,by rw[ap_len fd_N1_r641];show((ρ'.len 641:Int)).toNat=_;rw[k3];omega,fun d hd => ?_⟩,down up c,ag⟩
    show _=if(An (fd_N1_b.ap ρ') 639 j).2=true then max (mx (An (fd_N1_b.ap ρ') 639) d j) (pa (An (fd_N1_b.ap ρ') 639 j).1 d)else mx (An (fd_N1_b.ap ρ') 639) d j
    rw[e,if_neg (by rw[hb];decide),←k4 d hd]
    refine fo_congr fun y _ => ?_
    rw[paE_of _ _ _ d hd,paE_of _ _ _ d hd,ap_row fd_N1_r641]
    exact congrArg (fun r=>paE (kcells r 0 ke) d) (var_row ρ' 641 ke y)
   | true =>
    have ag:=Bind.agree fd_H1_g ρ'
    obtain⟨b1,b2⟩:=fd_same hB ag fd_H1_r639
    have up:(fd_H1_b.ap ρ').i 640=((j+1:Nat):Int):=(ap_i fd_H1_640).trans (inc hj (by omega))
    have e:An (fd_H1_b.ap ρ') 639=An ρ' 639:=funext b2
    have row:∀y,rw_ (fd_H1_b.ap ρ') 641 ke y=kcells (if y<k then rw_ ρ' 641 ke y else scL ρ' (enS 639 (.var 640))) 0 ke:=fun y=>by
     rw[ap_row fd_H1_r641]
     exact congrArg (fun r=>kcells r 0 ke) (app_row ρ' (ks:=ke) (ss:=enS 639 (.var 640)) k3 y)
    refine .inr ⟨1,fd_H1_b.ap ρ',fd_H1_step rfl (cN_ok _) (LpsOk.nil _ _ _ _) (Facts.ok_cons (hin hl' hj (decide_eq_true c)) (Facts.ok_cons (hh.trans hb) (Facts.ok_cons (by rw[dlt_f];simp only[IE.den];omega) (fk hn' hl' hj)))),⟨b1,j+1,up,c,k+1,by omega,by omega,by rw[ap_len fd_H1_r641];show((ρ'.len 641:Int)+1).toNat=_;rw[k3];omega,fun d hd => ?_⟩,down up c,ag⟩
    show max (fo (enF (fd_H1_b.ap ρ') 641) d k) (pa (enF (fd_H1_b.ap ρ') 641 k) d)=if(An (fd_H1_b.ap ρ') 639 j).2=true then max (mx (An (fd_H1_b.ap ρ') 639) d j) (pa (An (fd_H1_b.ap ρ') 639 j).1 d)else mx (An (fd_H1_b.ap ρ') 639) d j
    rw[e,if_pos hb,←k4 d hd]
    have e1:fo (enF (fd_H1_b.ap ρ') 641) d k=fo (enF ρ' 641) d k:=fo_congr fun y hy=>by rw[paE_of _ _ _ d hd,paE_of _ _ _ d hd,row,if_pos hy,kc_ke]
    have e2:=paE_new ρ' 639 (.var 640) d hd
    rw[show(IE.var 640).den ρ'=j from hj,Int.toNat_natCast,←pa_norm _ d hd]at e2
    rw[e1,paE_of _ _ _ d hd,row,if_neg (by omega)]
    exact congrArg (max _) e2
 ·obtain rfl:j=n:=by omega
  match s,hs with
  | 0,hs =>
   have ag:Agree 642 ρ' (putB ρ' 642 true):=putB_agree ρ' (Nat.le_refl _)
   refine .inl ⟨putB ρ' 642 true,ag.le (by decide),⟨fun x=>by rw[rw_agree ag (by decide)];exact hB.2 x,hj,.inl ⟨rfl,fun x hx=>by rw[An.agree ag (by decide)];exact hs x hx⟩⟩,XS.bel_den ag fd_S0 (by kernel_rfl),?_⟩
   exact fd_X0_end (cN_ok _) (LpsOk.nil _ _ _ _) (Facts.ok_cons (hin (x:=putB ρ' 642 true) hl' hj (decide_eq_false (by omega))) (fk (x:=putB ρ' 642 true) hn' hl' hj)) rfl
  | s+1,hs =>
   have ag:Agree 642 ρ' (putB ρ' 642 false):=putB_agree ρ' (Nat.le_refl _)
   have hs:Fnd ρ' j:=hs
   refine .inl ⟨putB ρ' 642 false,ag.le (by decide),⟨fun x=>by rw[rw_agree ag (by decide)];exact hB.2 x,hj,.inr ⟨rfl,hs.agree ag (by decide)⟩⟩,XS.bel_den ag fd_S1 (by kernel_rfl),?_⟩
   exact fd_X1_end (cN_ok _) (LpsOk.nil _ _ _ _) (Facts.ok_cons (hin (x:=putB ρ' 642 false) hl' hj (decide_eq_false (by omega))) (fk (x:=putB ρ' 642 false) hn' hl' hj)) rfl
theorem fdN_of {ρ:Rho} (h:LoopOk Try.prog ρ Try.f26.ntmps fd_c fd) (hb:ρ.b 642=true):LoopOk Try.prog ρ Try.f26.ntmps fdN_c fdN :=
 one_way h rfl rfl rfl fun e s hs=>by
  have:fd_out.sel ρ=some (e,s):=hs
  unfold fd_out at this
  rw[T.sel,if_pos (show(BE.var 642).den ρ=true from hb)]at this
  exact this
theorem fdR_of {ρ:Rho} (h:LoopOk Try.prog ρ Try.f26.ntmps fd_c fd) (hb:ρ.b 642=false):LoopOk Try.prog ρ Try.f26.ntmps fdR_c fdR :=
 one_way h rfl rfl rfl fun e s hs=>by
  have:fd_out.sel ρ=some (e,s):=hs
  unfold fd_out at this
  rw[T.sel,if_neg (show ¬(BE.var 642).den ρ=true from by rw[show(BE.var 642).den ρ=ρ.b 642 from rfl,hb];decide)]at this
  exact this
end Go.Proofs.Ytdlifdoglhhnfaa
namespace Go.Proofs.Ytdlifdoglhhnfaa
open Go Go.Proofs.Aw Go.Proofs.Xw Go.Proofs.Sr
set_option maxRecDepth 100000
theorem putB_at (ρ:Rho) (k:Nat) (b:Bool):(putB ρ k b).b k=b:=by
 show(if k=k then b else ρ.b k)=b
 exact if_pos rfl
structure TdB (ρ:Rho) (n m:Nat) (g:Nat→ByteArray):Prop where
 f:EnF ρ n m g
 k1:ρ.len 471=n
 k2:∀x,x<n→ρ.cs 471 0 x=g x
 k3:ρ.len 473=n
theorem TdB.agree {ρ ρ':Rho} {n m k:Nat} {g:Nat→ByteArray} (h:TdB ρ n m g) (ag:Agree k ρ ρ') (hk:480≤k):TdB ρ' n m g :=
 ⟨h.f.agree ag (by omega),by rw[←ag.len 471 (by omega)];exact h.k1,by rw[←ag.cs 471 (by omega)];exact h.k2,by rw[←ag.len 473 (by omega)];exact h.k3⟩
def tdS:Nat→XS
 | 0=>td_S0
 | _=>td_S1
def tdI (n:Nat) (P:Nat→Prop) (ρ0:Rho) (s:Nat) (ρ:Rho):Prop:=Agree 660 ρ0 ρ∧∃j:Nat,ρ.i 660=j∧j≤n∧match s with
 | 0=>∀x,x<j→¬P x
 | _=>1≤cnt P j∧LsC ρ 661 j P
def tdQ' (n:Nat) (P:Nat→Prop) (ρ:Rho):Prop:=ρ.i 660=n∧((ρ.b 667=true∧∀x,x<n→¬P x)∨(ρ.b 667=false∧1≤cnt P n∧LsC ρ 661 n P))
theorem td_ok (ρ:Rho) {n m:Nat} {g:Nat→ByteArray} (h:TdB ρ n m g):∃ρf,Agree 660 ρ ρf∧tdQ' n (NC g (ρ.i 9) (An ρ 639) fun d=>ρ.i (602+d)) ρf∧LoopOk Try.prog ρf Try.f26.ntmps td_c td:=by
 generalize hP:NC g (ρ.i 9) (An ρ 639) (fun d=>ρ.i (602+d))=P
 suffices hh:∃(_:Nat) (ρf:Rho),Agree td.n ρ ρf∧tdQ' n P ρf∧LoopOk Try.prog ρf Try.f26.ntmps td_c td by
  obtain⟨_,ρf,h1,h2,h3⟩:=hh
  exact⟨ρf,h1,h2,h3⟩
 have a0:Agree 660 ρ (td_I0.ap ρ):=Bind.agree td_I0g ρ
 refine loopOk_famE (L:=td) (N:=Try.f26.ntmps) (body:=td_c) (P:=Try.prog) rfl td_Eb tdS (tdI n P ρ) (fun _ ρ'=>tdQ' n P ρ') (fun _ ρ'=>(n-ρ'.i 660).toNat) ?_
  ⟨0,td_I0.ap ρ,a0,⟨a0,0,ap_i td_I0_660,Nat.zero_le _,fun x hx=>absurd hx (by omega)⟩,fun E _ hE=>okS_imp hE td_I0ok ρ⟩
 rintro s ρ' ⟨ag0,j,hj,hjn,hs⟩
 have hA:TdB ρ' n m g:=h.agree ag0 (by decide)
 have hn6:=h.f.n6;have hn1:=h.f.n1
 by_cases c:j<n
 ·generalize hq:sec (ρ.i 9) (pt (g j))=q
  have hof:=og_cy (g j) (hA.f.z j c) (ρ'.i 9) ⟨hA.f.r1,hA.f.r3⟩
  unfold OgG at hof
  rw[←ag0.i 9 (by decide),hq]at hof
  generalize hp:(fun x=>pc (fun d=>ρ.i (602+d)) q x)=p
  obtain⟨t,ht⟩:∃t:Bool,t=true↔P j:=⟨@decide (P j) (Classical.propDecidable _),by simp⟩
  generalize e1:putB (putI ρ' [(662,q),(663,p 0),(664,p 1),(665,p 2)]) 666 t=ρ1
  have ag:Agree 662 ρ' ρ1:=by rw[←e1];exact(putI_agree ρ' rfl).trans ((putB_agree (n:=666) (k:=666) _ (Nat.le_refl _)).le (by decide))
  have agA:Agree 660 ρ ρ1:=ag0.trans (ag.le (by decide))
  have i660:ρ1.i 660=j:=by rw[←ag.i 660 (by decide)];exact hj
  have i662:ρ1.i 662=q:=by rw[←e1];rfl
  have b666:ρ1.b 666=t:=by rw[←e1];exact putB_at _ _ _
  have h1:TdB ρ1 n m g:=h.agree agA (by decide)
  have k45:hasBody Try.prog 45=true∧∀k hp,CY Try.prog k 45 (X.denL ρ1 [.sc (.s (.cl 471 0 (.var 660))),.sc (.i .i64 (.var 9))]) hp (X.den ρ1 (.sc (.i .i64 (.var 662)))) []:=⟨hof.1,fun k hp=>by
   have e:(TE.cl 471 0 (.var 660)).den ρ1=g j:=by
    show ρ1.cs 471 0 (ρ1.i 660).toNat=_
    rw[i660,Int.toNat_natCast];exact h1.k2 j c
   simp only[X.denL,X.den,Sc.den,e,IE.den,i662,←agA.i 9 (by decide)]
   exact hof.2 k hp⟩
  have k47:hasBody Try.prog 47=true∧∀k hp,CY Try.prog k 47 (X.denL ρ1 [.agg (vi 602 9),.sc (.i .i64 (.var 662))]) hp (X.den ρ1 (.agg (vi 663 3))) []:=by
   have h:=partD_row ρ1 602 (.var 662)
   refine⟨h.1,fun k hp' => ?_⟩
   have:=h.2 k hp'
   have ep:∀x,x<3→pc (fun k=>ρ1.i (602+k)) ((IE.var 662).den ρ1) x=p x:=fun x hx=>by
    rw[←hp]
    show pc (fun k=>ρ1.i (602+k)) (ρ1.i 662) x=pc (fun d=>ρ.i (602+d)) q x
    rw[i662]
    exact pc_congr hx fun k hk=>(agA.i (602+k) (by omega)).symm
   rw[ep 0 (by decide),ep 1 (by decide),ep 2 (by decide)]at this
   have e3:X.den ρ1 (.agg (vi 663 3)) = .agg [.sc (.int .i64 (p 0)),.sc (.int .i64 (p 1)),.sc (.int .i64 (p 2))]:=by rw[←e1];rfl
   rw[e3];exact this
  have k46:hasBody Try.prog 46=true∧∀k hp,CY Try.prog k 46 (X.denL ρ1 [.agg [.sc (.i .i64 (.cl 639 22 (.var 660))),.sc (.i .i64 (.cl 639 23 (.var 660))),.sc (.i .i64 (.cl 639 24 (.var 660)))],.agg (vi 663 3)]) hp (X.den ρ1 (.sc (.b (.not (.var 666))))) []:=by
   have h:=cc_row (ρ1.ci 639 22 j) (ρ1.ci 639 23 j) (ρ1.ci 639 24 j) (p 0) (p 1) (p 2) t (by
    rw[ht,←hP]
    unfold NC ncol
    rw[hq,←hp,←agA.ci 639 (by decide)]
    exact Iff.rfl)
   refine⟨h.1,fun k hp' => ?_⟩
   have e4:X.denL ρ1 [.agg [.sc (.i .i64 (.cl 639 22 (.var 660))),.sc (.i .i64 (.cl 639 23 (.var 660))),.sc (.i .i64 (.cl 639 24 (.var 660)))],.agg (vi 663 3)]=[colV (ρ1.ci 639 22 j) (ρ1.ci 639 23 j) (ρ1.ci 639 24 j),colV (p 0) (p 1) (p 2)]:=by
    have e3:X.den ρ1 (.agg (vi 663 3))=colV (p 0) (p 1) (p 2):=by rw[←e1];rfl
    have e2:X.den ρ1 (.agg [.sc (.i .i64 (.cl 639 22 (.var 660))),.sc (.i .i64 (.cl 639 23 (.var 660))),.sc (.i .i64 (.cl 639 24 (.var 660)))])=colV (ρ1.ci 639 22 (ρ1.i 660).toNat) (ρ1.ci 639 23 (ρ1.i 660).toNat) (ρ1.ci 639 24 (ρ1.i 660).toNat):=rfl
    rw[X.denL,X.denL,X.denL,e2,e3,i660,Int.toNat_natCast]
   have e5:X.den ρ1 (.sc (.b (.not (.var 666)))) = .sc (.bool (!t)):=by rw[←b666];rfl
   rw[e4,e5];exact h.2 k hp'
  have cok:CfgOk Try.prog ρ1 (cfgL ksDO (fun _=>[])):=cK_ok (List.forall_mem_cons.2 ⟨k45,List.forall_mem_cons.2 ⟨k47,List.forall_mem_cons.2 ⟨k46,List.forall_mem_nil _⟩⟩⟩)
  have hlt:inT.den ρ1=true:=by show(BE.lt (.var 660) (.len 471)).den ρ1=true;rw[dlt_t];simp only[IE.den,i660,h1.k1];omega
  have fk:Facts.ok ρ1 tdF:=by
   have l2:=h1.f.en;have l3:=h1.k1;have l4:=h1.k3
   exact Facts.ok_cons (by rw[dlt_f];simp only[IE.den];omega) (Facts.ok_cons (by rw[dlt_f];simp only[IE.den];omega) (Facts.ok_cons (by rw[dlt_f];simp only[IE.den];omega) (Facts.ok_cons (by rw[deq_t];simp only[IE.den];omega) (Facts.ok_cons (by rw[deq_t];simp only[IE.den];omega) (Facts.ok_cons (by rw[dlt_t];simp only[IE.den];omega) (Facts.ok_cons (by rw[dlt_t];simp only[IE.den];omega) (Facts.ok_nil _)))))))
  have up:∀{β:Bind},lassoc 660 β.i=some (.op .add .i64 (.var 660) (.lit 1))→(β.ap ρ1).i 660=((j+1:Nat):Int):=fun hb=>(ap_i hb).trans (inc i660 (by omega))
  have down:∀{x:Rho},x.i 660=((j+1:Nat):Int)→(n-x.i 660).toNat<(n-ρ'.i 660).toNat:=fun e=>by rw[e,hj];omega
  have ag6:Agree 660 ρ' ρ1:=ag.le (by decide)
  match s,hs with
  | 0,hs =>
   have hd:td_S0.den ρ'=td_S0.den ρ1:=XS.bel_den ag td_S0 (by kernel_rfl)
   cases t with
   | false =>
    have ag2:=ag6.trans (Bind.agree td_Y0_g ρ1)
    have hnp:¬P j:=fun k=>by have:=ht.2 k;cases this
    refine .inr ⟨0,td_Y0_b.ap ρ1,td_Y0_step hd cok (LpsOk.nil _ _ _ _) (Facts.ok_cons hlt (Facts.ok_cons b666 fk)),⟨ag0.trans ag2,j+1,up td_Y0_660,c,fun x hx => ?_⟩,down (up td_Y0_660),ag2⟩
    by_cases q:x=j
    ·subst q;exact hnp
    ·exact hs x (by omega)
   | true =>
    have ag2:=ag6.trans (Bind.agree td_N0_g ρ1)
    exact .inr ⟨1,td_N0_b.ap ρ1,td_N0_step hd cok (LpsOk.nil _ _ _ _) (Facts.ok_cons hlt (Facts.ok_cons b666 fk)),⟨ag0.trans ag2,j+1,up td_N0_660,c,by rw[cnt_t (ht.1 rfl)];omega,LsC.one td_N0_r661 i660 (ht.1 rfl) hs⟩,down (up td_N0_660),ag2⟩
  | s+1,⟨k1,hk⟩ =>
   have hd:td_S1.den ρ'=td_S1.den ρ1:=XS.bel_den ag td_S1 (by kernel_rfl)
   have hk1:LsC ρ1 661 j P:=hk.agree ag (by decide)
   cases t with
   | false =>
    have ag2:=ag6.trans (Bind.agree td_Y1_g ρ1)
    have hnp:¬P j:=fun k=>by have:=ht.2 k;cases this
    exact .inr ⟨1,td_Y1_b.ap ρ1,td_Y1_step hd cok (LpsOk.nil _ _ _ _) (Facts.ok_cons hlt (Facts.ok_cons b666 fk)),⟨ag0.trans ag2,j+1,up td_Y1_660,c,by rw[cnt_f hnp];exact k1,(hk1.skip hnp).same td_Y1_r661⟩,down (up td_Y1_660),ag2⟩
   | true =>
    have ag2:=ag6.trans (Bind.agree td_N1_g ρ1)
    exact .inr ⟨1,td_N1_b.ap ρ1,td_N1_step hd cok (LpsOk.nil _ _ _ _) (Facts.ok_cons hlt (Facts.ok_cons b666 (Facts.ok_cons (by have:=cnt_le P j;rw[dlt_f];simp only[IE.den,hk1.1];omega) fk))),⟨ag0.trans ag2,j+1,up td_N1_660,c,by rw[cnt_t (ht.1 rfl)];omega,hk1.app td_N1_r661 i660 (ht.1 rfl)⟩,down (up td_N1_660),ag2⟩
 ·obtain rfl:j=n:=by omega
  have hf:∀{x:Rho},x.i 660=j→x.len 471=j→inT.den x=false:=fun {x} h1 h2=>by show(BE.lt (.var 660) (.len 471)).den x=false;rw[dlt_f];simp only[IE.den];omega
  match s,hs with
  | 0,hs =>
   have ag:Agree 667 ρ' (putB ρ' 667 true):=putB_agree ρ' (Nat.le_refl _)
   refine .inl ⟨putB ρ' 667 true,ag.le (by decide),⟨hj,.inl ⟨rfl,hs⟩⟩,XS.bel_den ag td_S0 (by kernel_rfl),?_⟩
   exact td_X0_end (cN_ok _) (LpsOk.nil _ _ _ _) (Facts.ok_cons (hf (x:=putB ρ' 667 true) hj hA.k1) (Facts.ok_nil _)) rfl
  | s+1,⟨k1,hk⟩ =>
   have ag:Agree 667 ρ' (putB ρ' 667 false):=putB_agree ρ' (Nat.le_refl _)
   refine .inl ⟨putB ρ' 667 false,ag.le (by decide),⟨hj,.inr ⟨rfl,k1,hk⟩⟩,XS.bel_den ag td_S1 (by kernel_rfl),?_⟩
   exact td_X1_end (cN_ok _) (LpsOk.nil _ _ _ _) (Facts.ok_cons (hf (x:=putB ρ' 667 false) hj hA.k1) (Facts.ok_nil _)) rfl
end Go.Proofs.Ytdlifdoglhhnfaa
