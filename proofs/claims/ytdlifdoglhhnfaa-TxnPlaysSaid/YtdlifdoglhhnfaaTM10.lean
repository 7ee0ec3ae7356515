/- Parts of the proof, one behind the other. -/
import Derived.Test.YtdlifdoglhhnfaaTM7
import Derived.Test.YtdlifdoglhhnfaaTM9
import Derived.Test.YtdlifdoglhhnfaaTM3
import Derived.Test.YtdlifdoglhhnfaaTM1
import Derived.Test.YtdlifdoglhhnfaaTM6
import Derived.Test.YtdlifdoglhhnfaaXwM3
namespace Go.Proofs.Ytdlifdoglhhnfaa
open Go Go.Proofs.Aw Go.Proofs.Xw Go.Proofs.Sr
set_option maxRecDepth 100000
def norm (f:Nat→Int) (c:Nat):Int:=if c=1∨c=8∨c=9∨c=10∨25≤c then 0 else f c
theorem pa_norm (f:Nat→Int) (d:Nat) (hd:d<9):pa (norm f) d=pa f d:=by
 match d,hd with
 | 0,_=>rfl
 | 1,_=>rfl
 | 2,_=>rfl
 | 3,_=>rfl
 | 4,_=>rfl
 | 5,_=>rfl
 | 6,_=>rfl
 | 7,_=>rfl
 | 8,_=>rfl
def An (ρ:Rho) (l j:Nat):(Nat→Int)×Bool:=(norm fun c=>ρ.ci l c j,ρ.cb l 1 j)
theorem An.agree {ρ ρ':Rho} {k l:Nat} (ag:Agree k ρ ρ') (hl:l<k) (j:Nat):An ρ' l j=An ρ l j:=by
 unfold An;rw[ag.ci l hl,ag.cb l hl]
theorem lt25 {c:Nat} (h:c<25):c=0∨c=1∨c=2∨c=3∨c=4∨c=5∨c=6∨c=7∨c=8∨c=9∨c=10∨c=11∨c=12∨c=13∨c=14∨c=15∨c=16∨c=17∨c=18∨c=19∨c=20∨c=21∨c=22∨c=23∨c=24:=by omega
theorem var_ci (ρ:Rho) (l j c:Nat):cellI ((RL.var l ka).row ρ j)[c]? = norm (fun c=>ρ.ci l c j) c:=by
 rcases Nat.lt_or_ge c 25 with h | h
 ·rcases lt25 h with e | e | e | e | e | e | e | e | e | e | e | e | e | e | e | e | e | e | e | e | e | e | e | e | e<;>subst e<;>rfl
 ·have h1:((RL.var l ka).row ρ j)[c]? = none:=List.getElem?_eq_none (by
   have:((RL.var l ka).row ρ j).length=25:=rfl
   omega)
  rw[h1]
  unfold norm
  rw[if_pos (by omega)];rfl
def anS (l:Nat) (i:IE):List Sc:=[.i .i64 (.cl l 0 i),.b (.cl l 1 i),.i .i64 (.cl l 2 i),.i .i64 (.cl l 3 i),.i .i64 (.cl l 4 i),.i .i64 (.cl l 5 i),.i .i64 (.cl l 6 i),.i .i64 (.cl l 7 i),.s (.cl l 8 i),.s (.cl l 9 i),.b (.cl l 10 i),.i .i64 (.cl l 11 i),.i .i64 (.cl l 12 i),.i .i64 (.cl l 13 i),.i .i64 (.cl l 14 i),.i .i64 (.cl l 15 i),.i .i64 (.cl l 16 i),.i .i64 (.cl l 17 i),.i .i64 (.cl l 18 i),.i .i64 (.cl l 19 i),.i .i64 (.cl l 20 i),.i .i64 (.cl l 21 i),.i .i64 (.cl l 22 i),.i .i64 (.cl l 23 i),.i .i64 (.cl l 24 i)]
theorem pc_nine (c:Nat→Int) (r:Int) {x:Nat} (hx:x<3):pc c r x=pc (fun k=>if k<9 then c k else 0) r x:=by
 match x,hx with
 | 0,_=>rfl
 | 1,_=>rfl
 | 2,_=>rfl
theorem pc_congr {c1 c2:Nat→Int} {r:Int} {x:Nat} (hx:x<3) (h:∀k,k<9→c1 k=c2 k):pc c1 r x=pc c2 r x:=by
 rw[pc_nine c1 r hx,pc_nine c2 r hx]
 congr 1
 funext k
 split
 ·exact h k (by assumption)
 ·rfl
def NC (g:Nat→ByteArray) (r:Int) (an:Nat→(Nat→Int)×Bool) (cut:Nat→Int) (x:Nat):Prop:=ncol (an x).1 (pc cut (sec r (pt (g x))))
theorem NC_congr {g:Nat→ByteArray} {r r':Int} {a a':Nat→(Nat→Int)×Bool} {c c':Nat→Int} {k:Nat} (hr:r=r') (ha:a k=a' k) (hc:∀d,d<9→c d=c' d):NC g r a c k↔NC g r' a' c' k:=by
 unfold NC ncol
 rw[hr,ha,pc_congr (x:=0) (by decide) hc,pc_congr (x:=1) (by decide) hc,pc_congr (x:=2) (by decide) hc]
theorem nine {P:Nat→Prop} (h0:P 0) (h1:P 1) (h2:P 2) (h3:P 3) (h4:P 4) (h5:P 5) (h6:P 6) (h7:P 7) (h8:P 8):∀d,d<9→P d:=fun d hd =>
 match d,hd with
 | 0,_=>h0
 | 1,_=>h1
 | 2,_=>h2
 | 3,_=>h3
 | 4,_=>h4
 | 5,_=>h5
 | 6,_=>h6
 | 7,_=>h7
 | 8,_=>h8
theorem ap_cs {β:Bind} {ρ:Rho} {l k:Nat} {m:IE} {r:RL} (h:lassoc l β.r=some (m,r)) (j:Nat):(β.ap ρ).cs l k j=cellS (r.row ρ j)[k]? := by simp only[Bind.ap,h]
def kcell (cs:List AV) (k:Nat):Kd→AV
 | .i K => .sc (.int K (cellI cs[k]?))
 | .b => .sc (.bool (cellB cs[k]?))
 | .s => .sc (.string (cellS cs[k]?))
def kcells (cs:List AV):Nat→List Kd→List AV
 | _,[]=>[]
 | k,d::ks=>kcell cs k d::kcells cs (k+1) ks
theorem cellsV_k {β:Bind} {ρ:Rho} {l:Nat} {m:IE} {r:RL} (h:lassoc l β.r=some (m,r)) (j:Nat):∀(ks:List Kd) (k:Nat),cellsV (β.ap ρ) l k ks j=kcells (r.row ρ j) k ks
 | [],_=>rfl
 | .i K::ks,k=>by simp only[cellsV,kcells,kcell,cellsV_k h j ks (k+1),ap_ci h]
 | .b::ks,k=>by simp only[cellsV,kcells,kcell,cellsV_k h j ks (k+1),ap_cb h]
 | .s::ks,k=>by simp only[cellsV,kcells,kcell,cellsV_k h j ks (k+1),ap_cs h]
theorem cellsV_congr {ρ ρ':Rho} {l:Nat} (hi:ρ'.ci l=ρ.ci l) (hb:ρ'.cb l=ρ.cb l) (hs:ρ'.cs l=ρ.cs l) (j:Nat):∀(ks:List Kd) (k:Nat),cellsV ρ' l k ks j=cellsV ρ l k ks j
 | [],_=>rfl
 | .i K::ks,k=>by simp only[cellsV,cellsV_congr hi hb hs j ks (k+1),hi]
 | .b::ks,k=>by simp only[cellsV,cellsV_congr hi hb hs j ks (k+1),hb]
 | .s::ks,k=>by simp only[cellsV,cellsV_congr hi hb hs j ks (k+1),hs]
def rw_ (ρ:Rho) (l:Nat) (ks:List Kd) (j:Nat):List AV:=cellsV ρ l 0 ks j
theorem rw_agree {n:Nat} {ρ ρ':Rho} (h:Agree n ρ ρ') {l:Nat} (hl:l<n) (ks:List Kd) (j:Nat):rw_ ρ' l ks j=rw_ ρ l ks j :=
 cellsV_congr (h.ci l hl).symm (h.cb l hl).symm (h.cs l hl).symm j ks 0
theorem ap_row {β:Bind} {ρ:Rho} {l:Nat} {m:IE} {r:RL} (h:lassoc l β.r=some (m,r)) (ks:List Kd) (j:Nat):rw_ (β.ap ρ) l ks j=kcells (r.row ρ j) 0 ks:=cellsV_k h j ks 0
theorem var_row (ρ:Rho) (l:Nat) (ks:List Kd) (j:Nat):(RL.var l ks).row ρ j=rw_ ρ l ks j:=by simp only[RL.row,rw_,Int.toNat_natCast]
theorem upd_row (ρ:Rho) {e:IE} {ss:List Sc} {l x:Nat} {ks:List Kd} (he:e.den ρ=x) (j:Nat):(RL.upd e ss (.var l ks)).row ρ j=if j=x then scL ρ ss else rw_ ρ l ks j:=by
 simp only[RL.row]
 by_cases c:j=x
 ·rw[if_pos (by rw[he];omega),if_pos c]
 ·rw[if_neg (by rw[he];omega),if_neg c];exact var_row ρ l ks j
theorem app_row (ρ:Rho) {ss:List Sc} {l c:Nat} {ks:List Kd} (hc:ρ.len l=c) (j:Nat):(RL.app (.len l) (.var l ks) (.one ss)).row ρ j=if j<c then rw_ ρ l ks j else scL ρ ss:=by
 simp only[RL.row]
 by_cases q:j<c
 ·rw[if_pos (show(j:Int)<(IE.len l).den ρ from by simp only[IE.den];omega),if_pos q];exact var_row ρ l ks j
 ·rw[if_neg (show ¬(j:Int)<(IE.len l).den ρ from by simp only[IE.den];omega),if_neg q]
theorem one_row (ρ:Rho) {ss:List Sc} (j:Int):(RL.one ss).row ρ j=scL ρ ss:=rfl
theorem kc_ka (ρ:Rho) (l j:Nat):kcells (rw_ ρ l ka j) 0 ka=rw_ ρ l ka j:=rfl
theorem an_row (ρ:Rho) {l:Nat} {i:IE} {y:Nat} (hi:i.den ρ=y):scL ρ (anS l i)=rw_ ρ l ka y:=by
 rw[show anS l i=cellsG l i 0 ka from rfl,cellsG_den,hi,Int.toNat_natCast];rfl
def Ar (cs:List AV):(Nat→Int)×Bool:=(fun c=>cellI cs[c]?,cellB cs[1]?)
theorem An_row (ρ:Rho) (l j:Nat):An ρ l j=Ar (rw_ ρ l ka j):=by
 unfold An Ar
 congr 1
 funext c
 rw[←var_row,var_ci]
theorem An_eq {ρ ρ':Rho} {l l' j j':Nat} (h:rw_ ρ l ka j=rw_ ρ' l' ka j'):An ρ l j=An ρ' l' j':=by rw[An_row,An_row,h]
def nwS:Nat→XS
 | 0=>nw_S0
 | _=>nw_S1
def nwR (n:Nat) (s:Nat) (ρ:Rho):Prop:=ρ.len 2=n∧match s with
 | 0=>True
 | _=>∃k:Nat,1≤k∧k≤n∧ρ.i 460=k∧ρ.len 461=k∧∀j,j<k→ρ.ci 461 0 j=j
theorem nwF_ok {ρ:Rho} {n:Nat} (h:ρ.len 2=n) (h1:1≤n) (h6:n≤6):Facts.ok ρ nwF :=
 Facts.ok_cons (by rw[dlt_f];simp only[IE.den];omega) (Facts.ok_cons (by rw[dlt_f];simp only[IE.den];omega) (Facts.ok_nil _))
theorem nw_ok (ρ:Rho) (n:Nat) (h:ρ.len 2=n) (h1:1≤n) (h6:n≤6):∃ρf,Agree 460 ρ ρf∧(ρf.len 461=n∧∀j,j<n→ρf.ci 461 0 j=j)∧LoopOk Try.prog ρf Try.f9.ntmps nw_c nw:=by
 suffices hh:∃(_:Nat) (ρf:Rho),Agree nw.n ρ ρf∧(ρf.len 461=n∧∀j,j<n→ρf.ci 461 0 j=j)∧LoopOk Try.prog ρf Try.f9.ntmps nw_c nw by
  obtain⟨_,ρf,h1,h2,h3⟩:=hh
  exact⟨ρf,h1,h2,h3⟩
 have a0:=Bind.agree nw_I0g ρ
 refine loopOk_famE (L:=nw) (N:=Try.f9.ntmps) (body:=nw_c) (P:=Try.prog) rfl nw_Eb nwS (nwR n) (fun _ ρ'=>ρ'.len 461=n∧∀j,j<n→ρ'.ci 461 0 j=j) (fun s ρ'=>match s with
  | 0=>n+1
  | _=>(n-ρ'.i 460).toNat) ?_
  ⟨0,nw_I0.ap ρ,a0,⟨by rw[←a0.len 2 (by decide)];exact h,trivial⟩,fun E _ hE=>okS_imp hE nw_I0ok ρ⟩
 intro s ρ' hR
 match s,hR with
 | 0,⟨hl,_⟩ =>
  have ag:Agree 460 ρ' (nw_A_b.ap ρ'):=Bind.agree nw_A_g _
  refine .inr ⟨1,nw_A_b.ap ρ',nw_A_step rfl (cN_ok _) (LpsOk.nil _ _ _ _) (nwF_ok hl h1 h6),?_,?_,ag⟩
  ·refine⟨by rw[←ag.len 2 (by decide)];exact hl,1,Nat.le_refl _,h1,ap_i nw_A_460,ap_len nw_A_r461,fun j hj => ?_⟩
   obtain rfl:j=0:=by omega
   rw[ap_ci nw_A_r461]
   exact row_one _ _ _
  ·show(_:Int).toNat<n+1
   have:(nw_A_b.ap ρ').i 460=1:=ap_i nw_A_460
   rw[this];omega
 | s+1,⟨hl,k,k1,k2,hi,hk,hc⟩ =>
  by_cases c:k<n
  ·have ag:Agree 460 ρ' (nw_B_b.ap ρ'):=Bind.agree nw_B_g _
   have e:(nw_B_b.ap ρ').i 460=((k+1:Nat):Int):=(ap_i nw_B_460).trans (inc hi (by omega))
   refine .inr ⟨1,nw_B_b.ap ρ',nw_B_step rfl (cN_ok _) (LpsOk.nil _ _ _ _) (Facts.ok_cons (by rw[dlt_t];simp only[IE.den];omega) (Facts.ok_cons (by rw[dlt_f];simp only[IE.den];omega) (Facts.ok_cons (by rw[dlt_f];simp only[IE.den];omega) (nwF_ok hl h1 h6)))),?_,?_,ag⟩
   ·refine⟨by rw[←ag.len 2 (by decide)];exact hl,k+1,by omega,c,e,?_,fun j hj => ?_⟩
    ·rw[ap_len nw_B_r461]
     show((ρ'.len 461:Int)+1).toNat=_
     rw[hk];omega
    ·rw[ap_ci nw_B_r461,row_app,hk]
     by_cases q:j<k
     ·rw[if_pos q];exact hc j q
     ·rw[if_neg q];show ρ'.i 460=_;rw[hi];omega
   ·show(_:Int).toNat<(_:Int).toNat
    rw[e,hi];omega
  ·obtain rfl:k=n:=by omega
   refine .inl ⟨ρ',Agree.refl _ _,⟨hk,hc⟩,rfl,?_⟩
   exact nw_X_end (cN_ok _) (LpsOk.nil _ _ _ _) (Facts.ok_cons (by rw[dlt_f];simp only[IE.den];omega) (nwF_ok hl h1 h6)) rfl
def fit1 (g:Nat→ByteArray) (j:Nat):Prop:=1≤(g j).size∧(g j).size≤16
theorem szD_den {ρ:Rho} {g:Nat→ByteArray} {j:Nat} (hg:stR ρ 2=g) (hj:ρ.i 470=j):szD.den ρ=(g j).size:=by
 show((((TE.cl 2 0 (.var 470)).den ρ).size:Nat):Int)=_
 rw[sl_den (ρ:=ρ) (e := .var 470) (n:=j) hj,hg]
theorem inD_den {ρ:Rho} {n j:Nat} (hn:ρ.len 2=n) (hj:ρ.i 470=j):inD.den ρ=decide (j<n):=by
 show decide (ρ.i 470<(ρ.len 2:Int))=_
 rw[hj,hn];exact decide_eq_decide.2 (by omega)
theorem dnF_ok {ρ:Rho} {n j:Nat} (hn:ρ.len 2=n) (hj:ρ.i 470=j) (n1:1≤n) (n6:n≤6):Facts.ok ρ dnF :=
 Facts.ok_cons (by rw[dlt_f];simp only[IE.den];omega) (Facts.ok_cons (by rw[dlt_f];simp only[IE.den];omega) (Facts.ok_cons (by rw[dlt_f];simp only[IE.den];omega) (Facts.ok_nil _)))
theorem okD_ok {ρ:Rho} {n j:Nat} {g:Nat→ByteArray} (hn:ρ.len 2=n) (hg:stR ρ 2=g) (hj:ρ.i 470=j) (h:j<n) (hf:fit1 g j):Facts.ok ρ okD :=
 Facts.ok_cons (by rw[inD_den hn hj];exact decide_eq_true h) (Facts.ok_cons (by rw[dlt_f,szD_den hg hj];have:=hf.1;simp only[IE.den];omega) (Facts.ok_cons (by rw[dlt_f,szD_den hg hj];have:=hf.2;simp only[IE.den];omega) (Facts.ok_nil _)))
theorem dk_ok (ρ:Rho) {n j:Nat} {g:Nat→ByteArray} (hn:ρ.len 2=n) (hg:stR ρ 2=g) (hj:ρ.i 470=j) (hjn:j<n) (n1:1≤n) (n6:n≤6) (hf:fit1 g j):∃ρf,Agree 480 ρ ρf∧((ρf.b 481=true∧∃k,k<j∧g k=g j)∨(ρf.b 481=false∧∀k,k<j→g k≠g j))∧LoopOk Try.prog ρf Try.f20.ntmps dk_c dk:=by
 suffices hh:∃(_:Nat) (ρf:Rho),Agree dk.n ρ ρf∧((ρf.b 481=true∧∃k,k<j∧g k=g j)∨(ρf.b 481=false∧∀k,k<j→g k≠g j))∧LoopOk Try.prog ρf Try.f20.ntmps dk_c dk by
  obtain⟨_,ρf,h1,h2,h3⟩:=hh
  exact⟨ρf,h1,h2,h3⟩
 have a0:=Bind.agree dk_I0g ρ
 refine loopOk_famE (L:=dk) (N:=Try.f20.ntmps) (body:=dk_c) (P:=Try.prog) rfl dk_Eb (fun _=>dk_S0) (fun _ ρ'=>Agree 480 ρ ρ'∧∃k:Nat,ρ'.i 480=k∧k≤j∧∀x,x<k→g x≠g j) (fun _ ρ'=>(ρ'.b 481=true∧∃k,k<j∧g k=g j)∨(ρ'.b 481=false∧∀k,k<j→g k≠g j)) (fun _ ρ'=>(j-ρ'.i 480).toNat) ?_
  ⟨0,dk_I0.ap ρ,a0,⟨a0,0,ap_i dk_I0_480,Nat.zero_le _,fun x hx=>absurd hx (by omega)⟩,fun E _ hE=>okS_imp hE dk_I0ok ρ⟩
 rintro _ ρ' ⟨ag,k,hk,hkj,hu⟩
 have hn':ρ'.len 2=n:=by rw[←ag.len 2 (by decide)];exact hn
 have hg':stR ρ' 2=g:=by rw[agree_st ag (by decide)];exact hg
 have hj':ρ'.i 470=j:=by rw[←ag.i 470 (by decide)];exact hj
 have hin:∀{b:Bool} {x:Rho},x.i 480=k→x.i 470=j→decide (k<j)=b→inE.den x=b:=fun {b x} h1 h2 h3=>by
  show decide (x.i 480<x.i 470)=b
  rw[h1,h2,←h3];exact decide_eq_decide.2 (by omega)
 by_cases c:k<j
 ·have heq:eqE.den ρ'=true↔g k=g j:=by
   show(BE.seq (.cl 2 0 (.var 480)) (.cl 2 0 (.var 470))).den ρ'=true↔_
   rw[seq_t,sl_den (ρ:=ρ') (e := .var 480) (n:=k) hk,sl_den (ρ:=ρ') (e := .var 470) (n:=j) hj',hg']
  have fk:∀{x:Rho},x.i 480=k→x.len 2=n→stR x 2=g→x.i 470=j→Facts.ok x dkF:=fun {x} h1 h2 h3 h4=>Facts.ok_cons (by rw[dlt_f];simp only[IE.den,h1];omega) (Facts.ok_cons (by rw[dlt_t];simp only[IE.den,h1,h2];omega) (all_ok (okD_ok h2 h3 h4 hjn hf) (dnF_ok h2 h4 n1 n6)))
  cases hc:eqE.den ρ' with
  | false =>
   have a1:=Bind.agree dk_G_g ρ'
   have up:(dk_G_b.ap ρ').i 480=((k+1:Nat):Int):=(ap_i dk_G_480).trans (inc hk (by omega))
   refine .inr ⟨0,dk_G_b.ap ρ',dk_G_step rfl (cN_ok _) (LpsOk.nil _ _ _ _) (Facts.ok_cons (hin hk hj' (decide_eq_true c)) (Facts.ok_cons hc (fk hk hn' hg' hj'))),⟨ag.trans a1,k+1,up,c,fun x hx => ?_⟩,by show(_:Int).toNat<(_:Int).toNat;rw[up,hk];omega,a1⟩
   by_cases q:x=k
   ·subst q;exact fun e=>by rw[heq.2 e]at hc;cases hc
   ·exact hu x (by omega)
  | true =>
   have a1:Agree 481 ρ' (putB ρ' 481 true):=putB_agree ρ' (Nat.le_refl _)
   refine .inl ⟨putB ρ' 481 true,a1.le (by decide),.inl ⟨rfl,k,c,heq.1 hc⟩,XS.bel_den a1 dk_S0 (by kernel_rfl),?_⟩
   exact dk_B_end (cN_ok _) (LpsOk.nil _ _ _ _) (Facts.ok_cons (hin hk hj' (decide_eq_true c)) (Facts.ok_cons hc (fk hk hn' hg' hj'))) rfl
 ·obtain rfl:k=j:=by omega
  have a1:Agree 481 ρ' (putB ρ' 481 false):=putB_agree ρ' (Nat.le_refl _)
  refine .inl ⟨putB ρ' 481 false,a1.le (by decide),.inr ⟨rfl,hu⟩,XS.bel_den a1 dk_S0 (by kernel_rfl),?_⟩
  exact dk_X_end (cN_ok _) (LpsOk.nil _ _ _ _) (Facts.ok_cons (hin hk hj' (decide_eq_false (by omega))) (Facts.ok_nil _)) rfl
theorem dkX_of {ρ:Rho} (h:LoopOk Try.prog ρ Try.f20.ntmps dk_c dk) (hb:ρ.b 481=false):LoopOk Try.prog ρ Try.f20.ntmps dkX_c dkX :=
 one_way h rfl rfl rfl fun e s hs=>by
  have:dk_out.sel ρ=some (e,s):=hs
  unfold dk_out at this
  rw[T.sel,if_neg (show ¬(BE.var 481).den ρ=true from by rw[show(BE.var 481).den ρ=ρ.b 481 from rfl,hb];decide)]at this
  exact this
theorem dkB_of {ρ:Rho} (h:LoopOk Try.prog ρ Try.f20.ntmps dk_c dk) (hb:ρ.b 481=true):LoopOk Try.prog ρ Try.f20.ntmps dkB_c dkB :=
 one_way h rfl rfl rfl fun e s hs=>by
  have:dk_out.sel ρ=some (e,s):=hs
  unfold dk_out at this
  rw[T.sel,if_pos (show(BE.var 481).den ρ=true from hb)]at this
  exact this
theorem dkX_o:othersB [dkX] [0] 0 (loopsOf dn_c)=true:=by kernel_rfl
theorem dkX_l {ρ:Rho} (h:LoopOk Try.prog ρ Try.f20.ntmps dkX_c dkX):LpsOk Try.prog ρ Try.f20.ntmps [dkX] dn_c :=
 lps_idx [0] dkX_o (List.forall_mem_cons.2 ⟨look_list (c:=dkX_c) (Ls:=[dkX]) (by kernel_rfl) (List.forall_mem_cons.2 ⟨h,List.forall_mem_nil _⟩),List.forall_mem_nil _⟩)
theorem dkB_o:othersB [dkB] [0] 0 (loopsOf dn_c)=true:=by kernel_rfl
theorem dkB_l {ρ:Rho} (h:LoopOk Try.prog ρ Try.f20.ntmps dkB_c dkB):LpsOk Try.prog ρ Try.f20.ntmps [dkB] dn_c :=
 lps_idx [0] dkB_o (List.forall_mem_cons.2 ⟨look_list (c:=dkB_c) (Ls:=[dkB]) (by kernel_rfl) (List.forall_mem_cons.2 ⟨h,List.forall_mem_nil _⟩),List.forall_mem_nil _⟩)
def ρZ:Rho:=⟨fun _=>0,fun _=>false,fun _=>⟨#[]⟩,fun _=>0,fun _ _ _=>0,fun _ _ _=>false,fun _ _ _=>⟨#[]⟩⟩
def zR:List AV:=rw_ ρZ 0 ka 0
structure Nw (ρ:Rho) (g:Nat→ByteArray) (j:Nat):Prop where
 l1:ρ.len 471=j
 l2:ρ.len 472=j
 l3:ρ.len 473=j
 k:∀x,x<j→ρ.cs 471 0 x=g x
 t:∀x,x<j→ρ.ci 472 0 x=x
 a:∀x,x<j→rw_ ρ 473 ka x=zR
theorem Nw.agree {ρ ρ':Rho} {b j:Nat} {g:Nat→ByteArray} (h:Nw ρ g j) (ag:Agree b ρ ρ') (hb:474≤b):Nw ρ' g j :=
 ⟨by rw[←ag.len 471 (by omega)];exact h.l1,by rw[←ag.len 472 (by omega)];exact h.l2,by rw[←ag.len 473 (by omega)];exact h.l3,by rw[←ag.cs 471 (by omega)];exact h.k,by rw[←ag.ci 472 (by omega)];exact h.t,fun x hx=>by rw[rw_agree ag (by omega)];exact h.a x hx⟩
def dnS:Nat→XS
 | 0=>dn_S0
 | _=>dn_S1
def dnR (n:Nat) (g:Nat→ByteArray) (s:Nat) (ρ:Rho):Prop:=(ρ.len 2=n∧stR ρ 2=g)∧match s with
 | 0=>True
 | _=>∃j:Nat,1≤j∧j≤n∧ρ.i 470=j∧(∀x,x<j→fitK g x)∧Nw ρ g j
def dnQ (n:Nat) (g:Nat→ByteArray) (ρ:Rho):Prop:=(ρ.b 490=false∧(∀x,x<n→fitK g x)∧Nw ρ g n)∨(ρ.b 490=true∧¬∀x,x<n→fitK g x)
theorem dn_ok (ρ:Rho) {n:Nat} {g:Nat→ByteArray} (hn:ρ.len 2=n) (hg:stR ρ 2=g) (n1:1≤n) (n6:n≤6):∃ρf,Agree 470 ρ ρf∧dnQ n g ρf∧LoopOk Try.prog ρf Try.f20.ntmps dn_c dn:=by
 suffices hh:∃(_:Nat) (ρf:Rho),Agree dn.n ρ ρf∧dnQ n g ρf∧LoopOk Try.prog ρf Try.f20.ntmps dn_c dn by
  obtain⟨_,ρf,h1,h2,h3⟩:=hh
  exact⟨ρf,h1,h2,h3⟩
 have a0:=Bind.agree dn_I0g ρ
 refine loopOk_famE (L:=dn) (N:=Try.f20.ntmps) (body:=dn_c) (P:=Try.prog) rfl dn_Eb dnS (dnR n g) (fun _ ρ'=>dnQ n g ρ') (fun s ρ'=>match s with
  | 0=>n+1
  | _=>(n-ρ'.i 470).toNat) ?_
  ⟨0,dn_I0.ap ρ,a0,⟨⟨by rw[←a0.len 2 (by decide)];exact hn,by rw[agree_st a0 (by decide)];exact hg⟩,trivial⟩,fun E _ hE=>okS_imp hE dn_I0ok ρ⟩
 rintro s ρ' ⟨⟨hn',hg'⟩,hs⟩
 have f26:∀{x:Rho},x.len 2=n→Facts.ok x ((.lt (.len 2) (.lit 1),false)::[(.lt (.lit 6) (.len 2),false)]):=fun {x} h=>Facts.ok_cons (by rw[dlt_f];simp only[IE.den];omega) (Facts.ok_cons (by rw[dlt_f];simp only[IE.den];omega) (Facts.ok_nil _))
 have bad:∀{S:XS} (hS:S.bel 490=true) {j:Nat},j<n→¬fitK g j→(∀x:Rho,x=putB ρ' 490 true→EndL Try.prog Try.f20.ntmps dn_c 29 S dn_out x)→∃ρf,Agree 470 ρ' ρf∧dnQ n g ρf∧S.den ρ'=S.den ρf∧EndL Try.prog Try.f20.ntmps dn_c 29 S dn_out ρf:=fun {S} hS {j} hj hf he =>
  ⟨putB ρ' 490 true,(putB_agree ρ' (Nat.le_refl _):Agree 490 ρ' _).le (by decide),.inr ⟨rfl,fun h=>hf (h j hj)⟩,XS.bel_den (putB_agree ρ' (Nat.le_refl _)) S hS,he _ rfl⟩
 match s,hs with
 | 0,_ =>
  have sz:(IE.slen (.cl 2 0 (.lit 0))).den ρ'=(g 0).size:=by
   show((((TE.cl 2 0 (.lit 0)).den ρ').size:Nat):Int)=_
   rw[sl_den (ρ:=ρ') (e := .lit 0) (n:=0) rfl,hg']
  have sz':(IE.slen (.cl 2 0 (.lit 0))).den (putB ρ' 490 true)=(g 0).size:=sz
  by_cases c1:(g 0).size<1
  ·exact .inl (bad (S:=dn_S0) (by kernel_rfl) (j:=0) (by omega) (fun h=>by have:=h.1.1;omega) fun x hx=>by
    subst hx
    exact dn_A1_end (cN_ok _) (LpsOk.nil _ _ _ _) (Facts.ok_cons (by rw[dlt_t,sz'];simp only[IE.den];omega) (f26 hn')) rfl)
  ·by_cases c2:16<(g 0).size
   ·exact .inl (bad (S:=dn_S0) (by kernel_rfl) (j:=0) (by omega) (fun h=>by have:=h.1.2;omega) fun x hx=>by
     subst hx
     exact dn_A2_end (cN_ok _) (LpsOk.nil _ _ _ _) (Facts.ok_cons (by rw[dlt_f,sz'];simp only[IE.den];omega) (Facts.ok_cons (by rw[dlt_t,sz'];simp only[IE.den];omega) (f26 hn'))) rfl)
   ·have ag:Agree 470 ρ' (dn_A_b.ap ρ'):=Bind.agree dn_A_g _
    have up:(dn_A_b.ap ρ').i 470=1:=ap_i dn_A_470
    refine .inr ⟨1,dn_A_b.ap ρ',dn_A_step rfl (cN_ok _) (LpsOk.nil _ _ _ _) (Facts.ok_cons (by rw[dlt_f,sz];simp only[IE.den];omega) (Facts.ok_cons (by rw[dlt_f,sz];simp only[IE.den];omega) (f26 hn'))),⟨⟨by rw[←ag.len 2 (by decide)];exact hn',by rw[agree_st ag (by decide)];exact hg'⟩,1,Nat.le_refl _,n1,up,fun x hx => ?_,⟨ap_len dn_A_r471,ap_len dn_A_r472,ap_len dn_A_r473,fun x hx => ?_,fun x hx => ?_,fun x hx => ?_⟩⟩,?_,ag⟩
    ·obtain rfl:x=0:=by omega
     exact⟨⟨by omega,by omega⟩,fun j hj=>absurd hj (by omega)⟩
    ·obtain rfl:x=0:=by omega
     rw[ap_cs dn_A_r471]
     show(TE.cl 2 0 (.lit 0)).den ρ'=_
     rw[sl_den (ρ:=ρ') (e := .lit 0) (n:=0) rfl,hg']
    ·obtain rfl:x=0:=by omega
     rw[ap_ci dn_A_r472,row_one];rfl
    ·rw[ap_row dn_A_r473];rfl
    ·show(_:Int).toNat<n+1
     rw[up];omega
 | s+1,⟨j,j1,j2,hj,hf,hw⟩ =>
  have hpj:(putB ρ' 490 true).i 470=j:=hj
  have fk:∀{x:Rho},x.len 2=n→x.i 470=j→Facts.ok x dnF:=fun h1 h2=>dnF_ok h1 h2 n1 n6
  by_cases c:j<n
  ·have hin:∀{x:Rho},x.len 2=n→x.i 470=j→inD.den x=true:=fun h1 h2=>by rw[inD_den h1 h2];exact decide_eq_true c
   have sz:∀{x:Rho},stR x 2=g→x.i 470=j→szD.den x=(g j).size:=fun h1 h2=>szD_den h1 h2
   by_cases c1:(g j).size<1
   ·exact .inl (bad (S:=dn_S1) (by kernel_rfl) (j:=j) c (fun h=>by have:=h.1.1;omega) fun x hx=>by
     subst hx
     exact dn_B1_end (cN_ok _) (LpsOk.nil _ _ _ _) (Facts.ok_cons (hin hn' hpj) (Facts.ok_cons (by rw[dlt_t,sz (x:=putB ρ' 490 true) hg' hpj];simp only[IE.den];omega) (fk hn' hpj))) rfl)
   ·by_cases c2:16<(g j).size
    ·exact .inl (bad (S:=dn_S1) (by kernel_rfl) (j:=j) c (fun h=>by have:=h.1.2;omega) fun x hx=>by
      subst hx
      exact dn_B2_end (cN_ok _) (LpsOk.nil _ _ _ _) (Facts.ok_cons (hin hn' hpj) (Facts.ok_cons (by rw[dlt_f,sz (x:=putB ρ' 490 true) hg' hpj];simp only[IE.den];omega) (Facts.ok_cons (by rw[dlt_t,sz (x:=putB ρ' 490 true) hg' hpj];simp only[IE.den];omega) (fk hn' hpj)))) rfl)
    ·have f1:fit1 g j:=⟨by omega,by omega⟩
     obtain⟨ρ1,a1,hd,L⟩:=dk_ok ρ' hn' hg' hj c n1 n6 f1
     have n1':ρ1.len 2=n:=by rw[←a1.len 2 (by decide)];exact hn'
     have g1':stR ρ1 2=g:=by rw[agree_st a1 (by decide)];exact hg'
     have j1':ρ1.i 470=j:=by rw[←a1.i 470 (by decide)];exact hj
     rcases hd with⟨hb,k,hk,hkj⟩ | ⟨hb,hne⟩
     ·refine .inl ⟨putB ρ1 490 true,(a1.le (by decide):Agree 470 ρ' ρ1).trans ((putB_agree ρ1 (Nat.le_refl _):Agree 490 ρ1 _).le (by decide)),.inr ⟨rfl,fun h=>(h j c).2 k hk hkj⟩,XS.bel_den ((a1.trans ((putB_agree ρ1 (Nat.le_refl _):Agree 490 ρ1 _).le (by decide))):Agree 480 ρ' _) dn_S1 (by kernel_rfl),?_⟩
      exact dn_B3_end (cN_ok _) (dkB_l (dkB_of (LoopOk.agree (B:=490) (by kernel_rfl) (by kernel_rfl) (by kernel_rfl) (putB_agree ρ1 (Nat.le_refl _)) L) (by show(if 481=490 then true else ρ1.b 481)=true;rw[if_neg (by decide)];exact hb))) (all_ok (okD_ok (ρ:=putB ρ1 490 true) n1' g1' j1' c f1) (fk (x:=putB ρ1 490 true) n1' j1')) rfl
     ·have ag:Agree 470 ρ' (dn_B_b.ap ρ1):=(a1.le (by decide)).trans (Bind.agree dn_B_g ρ1)
      have hw1:Nw ρ1 g j:=hw.agree a1 (by decide)
      have up:(dn_B_b.ap ρ1).i 470=((j+1:Nat):Int):=(ap_i dn_B_470).trans (inc j1' (by omega))
      have l6:Facts.ok ρ1 l6D:=by
       have:=hw1.l1;have:=hw1.l2;have:=hw1.l3
       exact Facts.ok_cons (by rw[dlt_f];simp only[IE.den];omega) (Facts.ok_cons (by rw[dlt_f];simp only[IE.den];omega) (Facts.ok_cons (by rw[dlt_f];simp only[IE.den];omega) (Facts.ok_nil _)))
      refine .inr ⟨1,dn_B_b.ap ρ1,dn_B_step (XS.bel_den a1 dn_S1 (by kernel_rfl)) (cN_ok _) (dkX_l (dkX_of L hb)) (all_ok (okD_ok n1' g1' j1' c f1) (all_ok l6 (fk n1' j1'))),⟨⟨by rw[←ag.len 2 (by decide)];exact hn',by rw[agree_st ag (by decide)];exact hg'⟩,j+1,by omega,c,up,fun x hx => ?_,⟨?_,?_,?_,fun x hx => ?_,fun x hx => ?_,fun x hx => ?_⟩⟩,?_,ag⟩
      ·by_cases q:x<j
       ·exact hf x q
       ·obtain rfl:x=j:=by omega
        exact⟨f1,hne⟩
      ·rw[ap_len dn_B_r471];show((ρ1.len 471:Int)+1).toNat=_;rw[hw1.l1];omega
      ·rw[ap_len dn_B_r472];show((ρ1.len 472:Int)+1).toNat=_;rw[hw1.l2];omega
      ·rw[ap_len dn_B_r473];show((ρ1.len 473:Int)+1).toNat=_;rw[hw1.l3];omega
      ·rw[ap_cs dn_B_r471,app_row ρ1 hw1.l1]
       by_cases q:x<j
       ·rw[if_pos q];exact hw1.k x q
       ·obtain rfl:x=j:=by omega
        rw[if_neg q]
        show(TE.cl 2 0 (.var 470)).den ρ1=_
        rw[sl_den (ρ:=ρ1) (e := .var 470) (n:=x) j1',g1']
      ·rw[ap_ci dn_B_r472,row_app,hw1.l2]
       by_cases q:x<j
       ·rw[if_pos q];exact hw1.t x q
       ·obtain rfl:x=j:=by omega
        rw[if_neg q];exact j1'
      ·rw[ap_row dn_B_r473]
       refine Eq.trans (congrArg (fun r=>kcells r 0 ka) (app_row ρ1 (ks:=ka) hw1.l3 x)) ?_
       by_cases q:x<j
       ·rw[if_pos q,kc_ka];exact hw1.a x q
       ·rw[if_neg q];rfl
      ·show(_:Int).toNat<(_:Int).toNat
       rw[up,hj];omega
  ·obtain rfl:j=n:=by omega
   have a1:Agree 490 ρ' (putB ρ' 490 false):=putB_agree ρ' (Nat.le_refl _)
   refine .inl ⟨putB ρ' 490 false,a1.le (by decide),.inl ⟨rfl,hf,hw.agree a1 (by decide)⟩,XS.bel_den a1 dn_S1 (by kernel_rfl),?_⟩
   exact dn_X_end (cN_ok _) (LpsOk.nil _ _ _ _) (Facts.ok_cons (by rw[inD_den (ρ:=putB ρ' 490 false) hn' hj];exact decide_eq_false c) (fk (x:=putB ρ' 490 false) hn' hj)) rfl
theorem dnX_of {ρ:Rho} (h:LoopOk Try.prog ρ Try.f20.ntmps dn_c dn) (hb:ρ.b 490=false):LoopOk Try.prog ρ Try.f20.ntmps dnX_c dnX :=
 one_way h rfl rfl rfl fun e s hs=>by
  have:dn_out.sel ρ=some (e,s):=hs
  unfold dn_out at this
  rw[T.sel,if_neg (show ¬(BE.var 490).den ρ=true from by rw[show(BE.var 490).den ρ=ρ.b 490 from rfl,hb];decide)]at this
  exact this
theorem dnB_of {ρ:Rho} (h:LoopOk Try.prog ρ Try.f20.ntmps dn_c dn) (hb:ρ.b 490=true):LoopOk Try.prog ρ Try.f20.ntmps dnB_c dnB :=
 one_way h rfl rfl rfl fun e s hs=>by
  have:dn_out.sel ρ=some (e,s):=hs
  unfold dn_out at this
  rw[T.sel,if_pos (show(BE.var 490).den ρ=true from hb)]at this
  exact this
end Go.Proofs.Ytdlifdoglhhnfaa
namespace Go.Proofs.Ytdlifdoglhhnfaa
open Go Go.Proofs.Aw Go.Proofs.Xw
noncomputable def lpPf (f:Nat):List LoopX:=if Nat.beq f 43=true then [pf]else []
theorem lpPf_43o:othersB [pf] [0] 0 (loopsOf (Try.f43.body.getD .skip))=true:=by kernel_rfl
theorem lpPf_43 {ρ:Rho} (h_pf:LoopOk Try.prog ρ Try.f43.ntmps pf_c pf):LpsOk Try.prog ρ Try.f43.ntmps [pf] (Try.f43.body.getD .skip) :=
 lps_idx [0] lpPf_43o (List.forall_mem_cons.2 ⟨look_list (c:=pf_c) (Ls:=[pf]) (by kernel_rfl) (List.forall_mem_cons.2 ⟨h_pf,List.forall_mem_nil _⟩),List.forall_mem_nil _⟩)
theorem lpPf_ok {ρ:Rho} (h_pf:LoopOk Try.prog ρ Try.f43.ntmps pf_c pf):∀f i,btLook f ftsT=some i→LpsOk Try.prog ρ i.ntmps (lpPf f) i.body:=by
 intro f i h
 have hi:=fts_ok (f,i) (bt_of_mem _ _ (btLook_mem h))
 unfold lpPf
 split
 ·rename_i hf
  have hf:=Nat.eq_of_beq_eq_true hf
  subst hf
  exact lps_row hi Try.func43 (lpPf_43 h_pf)
 ·exact LpsOk.nil _ _ _ _
abbrev zTM10_0:X := .sc (.i .i64 (.lit 0))
def pfR:T X:=(.need (.not (.lt (.var 680) (.len 641))) (.ret (.agg [(.sc (.i .i64 (.var 681))),(.sc (.i .i64 (.var 682))),(.sc (.i .i64 (.var 683))),(.sc (.i .i64 (.var 684))),(.sc (.i .i64 (.var 685))),(.sc (.i .i64 (.var 686))),(.sc (.i .i64 (.var 687))),(.sc (.i .i64 (.var 688))),(.sc (.i .i64 (.var 689)))])))
theorem pfR_run:askF ⟨cfgL [] lpPf,l_able,[]⟩ 43 (pfA) ((.lt (.lit 0) (.len 641),true)::pfP)=pfR:=by kernel_rfl
def pfN:T X:=(.ret (.agg [zTM10_0,zTM10_0,zTM10_0,zTM10_0,zTM10_0,zTM10_0,zTM10_0,zTM10_0,zTM10_0]))
theorem pfN_run:askF ⟨cfgL [] (fun _=>[]),l_able,[]⟩ 43 ([.k (.slice none 0 0)]) []=pfN:=by kernel_rfl
end Go.Proofs.Ytdlifdoglhhnfaa
