/- Parts of the proof, one behind the other. -/
import Derived.Test.YtdlifdoglhhnfaaTM21
namespace Go.Proofs.Ytdlifdoglhhnfaa
open Go Go.Proofs.Aw Go.Proofs.Xw Go.Proofs.Sr
set_option maxRecDepth 100000
def aE:BE := .not (.lt (.len 505) (.op .padd .i64 (.var 502) (.var 503)))
def bE:BE := .not (.lt (.len 509) (.op .padd .i64 (.var 507) (.var 508)))
theorem aE_t {ρ:Rho} {n off len:Nat} (h:Tp ρ n off len):aE.den ρ=true:=by
 have h2:=h.o;have h3:=h.l;have h4:=h.t
 unfold aE
 rw[dnot_t,dlt_f]
 show ρ.i 502+ρ.i 503≤(ρ.len 505:Int)
 omega
theorem bE_t {ρ:Rho} {n off len:Nat} (h:Td ρ n off len):bE.den ρ=true:=by
 have h2:=h.o;have h3:=h.l;have h4:=h.t
 unfold bE
 rw[dnot_t,dlt_f]
 show ρ.i 507+ρ.i 508≤(ρ.len 509:Int)
 omega
theorem d1_t {ρ:Rho} {n m i off len:Nat} {g:Nat→ByteArray} (hB:Bs ρ n m g i) (h:Lv ρ n off len):(BE.lt d0E (.len 471)).den ρ=true:=by
 obtain⟨κ,k1,_,k3,_,_⟩:=h.key
 have:=hB.t.k1
 rw[dlt_t,k3];simp only[IE.den];omega
theorem d3_t {ρ:Rho} {n m i off len:Nat} {g:Nat→ByteArray} (hB:Bs ρ n m g i) (h:Lv ρ n off len):(BE.lt d0E (.len 473)).den ρ=true:=by
 obtain⟨κ,k1,_,k3,_,_⟩:=h.key
 have:=hB.t.k3
 rw[dlt_t,k3];simp only[IE.den];omega
theorem ndL {ρ:Rho} {n m i off len:Nat} {g:Nat→ByteArray} (hB:Bs ρ n m g i) (h:Lv ρ n off len):(BE.and aE (.and bE (.lt d0E (.len 471)))).den ρ=true:=by
 rw[dand_t,dand_t];exact⟨aE_t h.p,bE_t h.d,d1_t hB h⟩
theorem ndW {ρ:Rho} {n m i off len:Nat} {g:Nat→ByteArray} (hB:Bs ρ n m g i) (h:Lv ρ n off len):(BE.and aE (.and (.and bE (.lt d0E (.len 471))) (.lt d0E (.len 473)))).den ρ=true:=by
 rw[dand_t,dand_t,dand_t];exact⟨aE_t h.p,⟨bE_t h.d,d1_t hB h⟩,d3_t hB h⟩
theorem ndT {ρ:Rho} {n m i off len:Nat} {g:Nat→ByteArray} (hB:Bs ρ n m g i) (h:Lv ρ n off len) (h6:ρ.i 601=n):(BE.and aE (.and (.and bE (.lt d0E (.len 471))) (.and (.not (.lt (.var 601) (.len 2))) (.lt d0E (.len 473))))).den ρ=true:=by
 rw[dand_t,dand_t,dand_t,dand_t,dnot_t,dlt_f];exact⟨aE_t h.p,⟨bE_t h.d,d1_t hB h⟩,by have:=hB.t.f.en;simp only[IE.den];omega,d3_t hB h⟩
theorem ndZ {ρ:Rho} {n off len:Nat} (h:Td ρ n off len):(BE.and (.not (.lt (.var 507) (.lit 0))) (.and (.not (.lt (.var 508) (.lit 0))) bE)).den ρ=true:=by
 have h1:=h.o;have h2:=h.l
 rw[dand_t,dand_t,dnot_t,dnot_t,dlt_f,dlt_f]
 exact⟨by simp only[IE.den];omega,by simp only[IE.den];omega,bE_t h⟩
theorem ndD {ρ:Rho} {n off len o2 l2:Nat} (k:Tp ρ n off len) (h:Td ρ n o2 l2):(BE.and aE (.and (.not (.lt (.var 507) (.lit 0))) (.and (.not (.lt (.var 508) (.lit 0))) bE))).den ρ=true:=by
 rw[dand_t];exact⟨aE_t k,ndZ h⟩
theorem row_eq {β:Bind} {ρ:Rho} {m4 m6:IE} {l l6 x:Nat} (r4:lassoc 504 β.r=some (m4,.var l ka)) (r6:lassoc 506 β.r=some (m6,.var l6 ka)) (h:rw_ ρ l ka x=rw_ ρ l6 ka x):rw_ (β.ap ρ) 504 ka x=rw_ (β.ap ρ) 506 ka x:=by rw[ap_row r4,ap_row r6,var_row,var_row,h]
def zS:List Sc:=[.i .i64 (.lit 0),.b (.lit false),.i .i64 (.lit 0),.i .i64 (.lit 0),.i .i64 (.lit 0),.i .i64 (.lit 0),.i .i64 (.lit 0),.i .i64 (.lit 0),.s (.lit ⟨#[]⟩),.s (.lit ⟨#[]⟩),.b (.lit false),.i .i64 (.lit 0),.i .i64 (.lit 0),.i .i64 (.lit 0),.i .i64 (.lit 0),.i .i64 (.lit 0),.i .i64 (.lit 0),.i .i64 (.lit 0),.i .i64 (.lit 0),.i .i64 (.lit 0),.i .i64 (.lit 0),.i .i64 (.lit 0),.i .i64 (.lit 0),.i .i64 (.lit 0),.i .i64 (.lit 0)]
theorem row_z {β:Bind} {ρ:Rho} {m4 m6:IE} {l6 x:Nat} (r4:lassoc 504 β.r=some (m4,.one zS)) (r6:lassoc 506 β.r=some (m6,.var l6 ka)) (h:rw_ ρ l6 ka x=zR):rw_ (β.ap ρ) 504 ka x=rw_ (β.ap ρ) 506 ka x:=by
 rw[ap_row r4,ap_row r6,var_row,one_row,kc_ka,h];rfl
def mnS:Nat→XS
 | 0=>mn_S0
 | 1=>mn_S1
 | 2=>mn_S2
 | _=>mn_S3
def mnT (n:Nat) (s:Nat) (ρ:Rho):Prop:=match s with
 | 0=>∃off len:Nat,Lv ρ n off len
 | 1=>(∃off len:Nat,Td ρ n off len)∧ρ.b 530=true∧ρ.i 531=60∧ρ.i 532=60
 | 2=>(∃off o2:Nat,Tp ρ n off 0∧Td ρ n o2 0)∧ρ.b 530=true∧ρ.i 531=0
 | 3=>(∃off:Nat,Tp ρ n off 0)∧ρ.b 530=true∧ρ.i 531=0
 | _=>False
theorem mnT.agree {ρ ρ':Rho} {b n:Nat}:∀{s:Nat},mnT n s ρ→Agree b ρ ρ'→533≤b→mnT n s ρ'
 | 0,⟨off,len,h⟩,ag,hb=>⟨off,len,h.agree ag (by omega)⟩
 | 1,⟨⟨off,len,h⟩,h1,h2,h3⟩,ag,hb=>⟨⟨off,len,h.agree ag (by omega)⟩,by rw[←ag.b 530 (by omega)];exact h1,by rw[←ag.i 531 (by omega)];exact h2,by rw[←ag.i 532 (by omega)];exact h3⟩
 | 2,⟨⟨off,o2,h,k⟩,h1,h2⟩,ag,hb=>⟨⟨off,o2,h.agree ag (by omega),k.agree ag (by omega)⟩,by rw[←ag.b 530 (by omega)];exact h1,by rw[←ag.i 531 (by omega)];exact h2⟩
 | 3,⟨⟨off,h⟩,h1,h2⟩,ag,hb=>⟨⟨off,h.agree ag (by omega)⟩,by rw[←ag.b 530 (by omega)];exact h1,by rw[←ag.i 531 (by omega)];exact h2⟩
 | _+4,h,_,_=>h.elim
def mnK (n m:Nat) (g:Nat→ByteArray) (s:Nat) (ρ:Rho):Prop:=∃i:Nat,Bs ρ n m g i∧mnT n s ρ
def mnQ (n m:Nat) (g:Nat→ByteArray) (s:Nat) (ρ:Rho):Prop:=mnK n m g s ρ∧ρ.b 533=Nat.beq s 0∧ρ.b 534=Nat.beq s 1∧ρ.b 535=Nat.beq s 2
def mnM (m:Nat) (_:Nat) (ρ:Rho):Nat:=(((m+1:Nat):Int)-ρ.i 500).toNat
def Go1 (n m:Nat) (g:Nat→ByteArray) (s:Nat) (ρ:Rho):Prop:=(∃ρ',Agree mn.n ρ ρ'∧mnQ n m g s ρ'∧(mnS s).den ρ=(mnS s).den ρ'∧EndL Try.prog Try.f4.ntmps mn_c mn.k0 (mnS s) mn.out ρ')∨∃i' ρ',StepF Try.prog Try.f4.ntmps mn_c mn.k0 (mnS s) (mnS i') ρ ρ'∧mnK n m g i' ρ'∧mnM m i' ρ'<mnM m s ρ∧Agree mn.n ρ ρ'
theorem Go1.to (s':Nat) {n m i s:Nat} {g:Nat→ByteArray} {ρ ρ1:Rho} {β:Bind} (hB:Bs ρ n m g i) (him:i≤m) (ag:Agree 500 ρ ρ1) (hg:β.ge 500=true) (st:StepF Try.prog Try.f4.ntmps mn_c 0 (mnS s) (mnS s') ρ (β.ap ρ1)) (h1:Bs (β.ap ρ1) n m g (i+1)) (h2:mnT n s' (β.ap ρ1)):Go1 n m g s ρ :=
 .inr ⟨s',β.ap ρ1,st,⟨i+1,h1,h2⟩,by unfold mnM;rw[h1.xi,hB.xi];omega,ag.trans (Bind.agree hg ρ1)⟩
theorem Go1.out {n m i s:Nat} {g:Nat→ByteArray} {ρ:Rho} (hB:Bs ρ n m g i) (h2:mnT n s ρ) (hb:(mnS s).bel 530=true∨(mnS s).bel 533=true) (he:∀ρ':Rho,ρ'.i=ρ.i→ρ'.len=ρ.len→ρ'.b 533=Nat.beq s 0→ρ'.b 534=Nat.beq s 1→ρ'.b 535=Nat.beq s 2→EndL Try.prog Try.f4.ntmps mn_c 0 (mnS s) mn_out ρ'):Go1 n m g s ρ:=by
 let ρ':Rho:={ ρ with b:=fun k=>if k=533 then Nat.beq s 0 else if k=534 then Nat.beq s 1 else if k=535 then Nat.beq s 2 else ρ.b k }
 have ag:Agree 533 ρ ρ':=⟨fun _ _=>rfl,fun k hk=>by show ρ.b k=if k=533 then _ else if k=534 then _ else if k=535 then _ else _;rw[if_neg (by omega),if_neg (by omega),if_neg (by omega)],fun _ _=>rfl,fun _ _=>rfl,fun _ _=>rfl,fun _ _=>rfl,fun _ _=>rfl⟩
 exact .inl ⟨ρ',(ag.le (by decide):Agree 500 ρ ρ'),⟨⟨i,hB.agree ag (by decide),h2.agree ag (by decide)⟩,rfl,rfl,rfl⟩,hb.elim (fun h=>XS.bel_den (ag.le (by decide)) _ h) (fun h=>XS.bel_den ag _ h),he ρ' rfl rfl rfl rfl rfl⟩
theorem gt_ok {ρ ρ':Rho} {n m i:Nat} {g:Nat→ByteArray} (hB:Bs ρ n m g i) (hi:i=m+1) (e1:ρ'.i=ρ.i) (e2:ρ'.len=ρ.len):Facts.ok ρ' [(.lt (.len 3) (.var 500),true)]:=by
 have h1:=hB.xi;have h2:=hB.t.f.em
 refine Facts.ok_cons ?_ (Facts.ok_nil _)
 rw[dlt_t]
 show(ρ'.len 3:Int)<ρ'.i 500
 rw[e1,e2];omega
theorem goL1 {n m i off len:Nat} {g:Nat→ByteArray} {ρ:Rho} (hB:Bs ρ n m g i) (hL:Lv ρ n off len) (him:i≤m) (r:ρ.i 519=1) (hc:∀d,d<9→ρ.i (510+d)=ρ.i d) (q:¬i<m):Go1 n m g 0 ρ :=
 Go1.to 0 hB him (Agree.refl _ _) mn_L1_g (mn_L1_step rfl (cN_ok _) (LpsOk.nil _ _ _ _) (Facts.ok_cons (by rw[inM_den hB];exact decide_eq_false q) (rd1_ok hB hL him r hc)) (ndL hB hL)) (hB.stay him mn_L1_g mn_L1_500 (nine ⟨mn_L1_510,mn_L1_520⟩ ⟨mn_L1_511,mn_L1_521⟩ ⟨mn_L1_512,mn_L1_522⟩ ⟨mn_L1_513,mn_L1_523⟩ ⟨mn_L1_514,mn_L1_524⟩ ⟨mn_L1_515,mn_L1_525⟩ ⟨mn_L1_516,mn_L1_526⟩ ⟨mn_L1_517,mn_L1_527⟩ ⟨mn_L1_518,mn_L1_528⟩) mn_L1_519 mn_L1_529 mn_L1_r504 mn_L1_r506) ⟨_,_,hL.stay mn_L1_g mn_L1_502 mn_L1_503 mn_L1_507 mn_L1_508 mn_L1_r505 mn_L1_r509 (by kernel_rfl) mn_L1_531 mn_L1_519 (nine ⟨mn_L1_510,mn_L1_520⟩ ⟨mn_L1_511,mn_L1_521⟩ ⟨mn_L1_512,mn_L1_522⟩ ⟨mn_L1_513,mn_L1_523⟩ ⟨mn_L1_514,mn_L1_524⟩ ⟨mn_L1_515,mn_L1_525⟩ ⟨mn_L1_516,mn_L1_526⟩ ⟨mn_L1_517,mn_L1_527⟩ ⟨mn_L1_518,mn_L1_528⟩)⟩
theorem goE1 {n m i off len:Nat} {g:Nat→ByteArray} {ρ:Rho} (hB:Bs ρ n m g i) (hL:Lv ρ n off len) (him:i≤m) (r:ρ.i 519=1) (hc:∀d,d<9→ρ.i (510+d)=ρ.i d) (q:i<m) (x:cdE.den ρ≠60) (y:cdE.den ρ≠0):Go1 n m g 0 ρ :=
 Go1.to 0 hB him (Agree.refl _ _) mn_E1_g (mn_E1_step rfl (cN_ok _) (LpsOk.nil _ _ _ _) (Facts.ok_cons (by rw[inM_den hB];exact decide_eq_true q) (Facts.ok_cons (by rw[deq_f];exact x) (Facts.ok_cons (by rw[deq_f];exact y) (rd1_ok hB hL him r hc)))) (ndL hB hL)) (hB.stay him mn_E1_g mn_E1_500 (nine ⟨mn_E1_510,mn_E1_520⟩ ⟨mn_E1_511,mn_E1_521⟩ ⟨mn_E1_512,mn_E1_522⟩ ⟨mn_E1_513,mn_E1_523⟩ ⟨mn_E1_514,mn_E1_524⟩ ⟨mn_E1_515,mn_E1_525⟩ ⟨mn_E1_516,mn_E1_526⟩ ⟨mn_E1_517,mn_E1_527⟩ ⟨mn_E1_518,mn_E1_528⟩) mn_E1_519 mn_E1_529 mn_E1_r504 mn_E1_r506) ⟨_,_,hL.stay mn_E1_g mn_E1_502 mn_E1_503 mn_E1_507 mn_E1_508 mn_E1_r505 mn_E1_r509 (by kernel_rfl) mn_E1_531 mn_E1_519 (nine ⟨mn_E1_510,mn_E1_520⟩ ⟨mn_E1_511,mn_E1_521⟩ ⟨mn_E1_512,mn_E1_522⟩ ⟨mn_E1_513,mn_E1_523⟩ ⟨mn_E1_514,mn_E1_524⟩ ⟨mn_E1_515,mn_E1_525⟩ ⟨mn_E1_516,mn_E1_526⟩ ⟨mn_E1_517,mn_E1_527⟩ ⟨mn_E1_518,mn_E1_528⟩)⟩
theorem goG1 {n m i off len:Nat} {g:Nat→ByteArray} {ρ:Rho} (hB:Bs ρ n m g i) (hL:Lv ρ n off len) (him:i≤m) (r:ρ.i 519=1) (hc:∀d,d<9→ρ.i (510+d)=ρ.i d) (q:i<m) (x:cdE.den ρ=60):Go1 n m g 0 ρ :=
 Go1.to 1 hB him (Agree.refl _ _) mn_G1_g (mn_G1_step rfl (cN_ok _) (LpsOk.nil _ _ _ _) (Facts.ok_cons (by rw[inM_den hB];exact decide_eq_true q) (Facts.ok_cons (by rw[deq_t];exact x) (rd1_ok hB hL him r hc))) (ndL hB hL)) (hB.stay him mn_G1_g mn_G1_500 (nine ⟨mn_G1_510,mn_G1_520⟩ ⟨mn_G1_511,mn_G1_521⟩ ⟨mn_G1_512,mn_G1_522⟩ ⟨mn_G1_513,mn_G1_523⟩ ⟨mn_G1_514,mn_G1_524⟩ ⟨mn_G1_515,mn_G1_525⟩ ⟨mn_G1_516,mn_G1_526⟩ ⟨mn_G1_517,mn_G1_527⟩ ⟨mn_G1_518,mn_G1_528⟩) mn_G1_519 mn_G1_529 mn_G1_r504 mn_G1_r506) ⟨⟨_,_,hL.d.stay mn_G1_507 mn_G1_508 mn_G1_r509⟩,ap_b (show lassoc 530 mn_G1_b.b=some (.lit true)by kernel_rfl),ap_i mn_G1_531,(ap_i mn_G1_532).trans x⟩
theorem goL2 {n m i off len:Nat} {g:Nat→ByteArray} {ρ:Rho} (hB:Bs ρ n m g i) (hL:Lv ρ n off len) (him:i≤m) (r:ρ.i 519=2) (q:¬i<m):Go1 n m g 0 ρ :=
 Go1.to 0 hB him (Agree.refl _ _) mn_L2_g (mn_L2_step rfl (cN_ok _) (LpsOk.nil _ _ _ _) (Facts.ok_cons (by rw[inM_den hB];exact decide_eq_false q) (rd2_ok hB hL him r)) (ndL hB hL)) (hB.stay him mn_L2_g mn_L2_500 (nine ⟨mn_L2_510,mn_L2_520⟩ ⟨mn_L2_511,mn_L2_521⟩ ⟨mn_L2_512,mn_L2_522⟩ ⟨mn_L2_513,mn_L2_523⟩ ⟨mn_L2_514,mn_L2_524⟩ ⟨mn_L2_515,mn_L2_525⟩ ⟨mn_L2_516,mn_L2_526⟩ ⟨mn_L2_517,mn_L2_527⟩ ⟨mn_L2_518,mn_L2_528⟩) mn_L2_519 mn_L2_529 mn_L2_r504 mn_L2_r506) ⟨_,_,hL.stay mn_L2_g mn_L2_502 mn_L2_503 mn_L2_507 mn_L2_508 mn_L2_r505 mn_L2_r509 (by kernel_rfl) mn_L2_531 mn_L2_519 (nine ⟨mn_L2_510,mn_L2_520⟩ ⟨mn_L2_511,mn_L2_521⟩ ⟨mn_L2_512,mn_L2_522⟩ ⟨mn_L2_513,mn_L2_523⟩ ⟨mn_L2_514,mn_L2_524⟩ ⟨mn_L2_515,mn_L2_525⟩ ⟨mn_L2_516,mn_L2_526⟩ ⟨mn_L2_517,mn_L2_527⟩ ⟨mn_L2_518,mn_L2_528⟩)⟩
theorem goE2 {n m i off len:Nat} {g:Nat→ByteArray} {ρ:Rho} (hB:Bs ρ n m g i) (hL:Lv ρ n off len) (him:i≤m) (r:ρ.i 519=2) (q:i<m) (x:cdE.den ρ≠60) (y:cdE.den ρ≠0):Go1 n m g 0 ρ :=
 Go1.to 0 hB him (Agree.refl _ _) mn_E2_g (mn_E2_step rfl (cN_ok _) (LpsOk.nil _ _ _ _) (Facts.ok_cons (by rw[inM_den hB];exact decide_eq_true q) (Facts.ok_cons (by rw[deq_f];exact x) (Facts.ok_cons (by rw[deq_f];exact y) (rd2_ok hB hL him r)))) (ndL hB hL)) (hB.stay him mn_E2_g mn_E2_500 (nine ⟨mn_E2_510,mn_E2_520⟩ ⟨mn_E2_511,mn_E2_521⟩ ⟨mn_E2_512,mn_E2_522⟩ ⟨mn_E2_513,mn_E2_523⟩ ⟨mn_E2_514,mn_E2_524⟩ ⟨mn_E2_515,mn_E2_525⟩ ⟨mn_E2_516,mn_E2_526⟩ ⟨mn_E2_517,mn_E2_527⟩ ⟨mn_E2_518,mn_E2_528⟩) mn_E2_519 mn_E2_529 mn_E2_r504 mn_E2_r506) ⟨_,_,hL.stay mn_E2_g mn_E2_502 mn_E2_503 mn_E2_507 mn_E2_508 mn_E2_r505 mn_E2_r509 (by kernel_rfl) mn_E2_531 mn_E2_519 (nine ⟨mn_E2_510,mn_E2_520⟩ ⟨mn_E2_511,mn_E2_521⟩ ⟨mn_E2_512,mn_E2_522⟩ ⟨mn_E2_513,mn_E2_523⟩ ⟨mn_E2_514,mn_E2_524⟩ ⟨mn_E2_515,mn_E2_525⟩ ⟨mn_E2_516,mn_E2_526⟩ ⟨mn_E2_517,mn_E2_527⟩ ⟨mn_E2_518,mn_E2_528⟩)⟩
theorem goG2 {n m i off len:Nat} {g:Nat→ByteArray} {ρ:Rho} (hB:Bs ρ n m g i) (hL:Lv ρ n off len) (him:i≤m) (r:ρ.i 519=2) (q:i<m) (x:cdE.den ρ=60):Go1 n m g 0 ρ :=
 Go1.to 1 hB him (Agree.refl _ _) mn_G2_g (mn_G2_step rfl (cN_ok _) (LpsOk.nil _ _ _ _) (Facts.ok_cons (by rw[inM_den hB];exact decide_eq_true q) (Facts.ok_cons (by rw[deq_t];exact x) (rd2_ok hB hL him r))) (ndL hB hL)) (hB.stay him mn_G2_g mn_G2_500 (nine ⟨mn_G2_510,mn_G2_520⟩ ⟨mn_G2_511,mn_G2_521⟩ ⟨mn_G2_512,mn_G2_522⟩ ⟨mn_G2_513,mn_G2_523⟩ ⟨mn_G2_514,mn_G2_524⟩ ⟨mn_G2_515,mn_G2_525⟩ ⟨mn_G2_516,mn_G2_526⟩ ⟨mn_G2_517,mn_G2_527⟩ ⟨mn_G2_518,mn_G2_528⟩) mn_G2_519 mn_G2_529 mn_G2_r504 mn_G2_r506) ⟨⟨_,_,hL.d.stay mn_G2_507 mn_G2_508 mn_G2_r509⟩,ap_b (show lassoc 530 mn_G2_b.b=some (.lit true)by kernel_rfl),ap_i mn_G2_531,(ap_i mn_G2_532).trans x⟩
theorem goW1 {n m i off len κ:Nat} {g:Nat→ByteArray} {ρ ρ1:Rho} (hB0:Bs ρ n m g i) (ag:Agree 532 ρ ρ1) (hB:Bs ρ1 n m g i) (hL:Lv ρ1 n off len) (him:i≤m) (r:ρ1.i 519=1) (hc:∀d,d<9→ρ1.i (510+d)=ρ1.i d) (q:i<m) (x:cdE.den ρ1=0) (k4:t0E.den ρ1=κ) (k6:d0E.den ρ1=κ)  (l1:1<len)  : Go1 n m g 0 ρ :=
 Go1.to 0 hB0 him (ag.le (by decide)) mn_W1_g (mn_W1_step (XS.bel_den ag mn_S0 (by kernel_rfl)) (cN_ok _) (LpsOk.nil _ _ _ _) (all_ok (Facts.ok_cons (by rw[inM_den hB];exact decide_eq_true q) (Facts.ok_cons (by rw[deq_t];exact x) (Facts.ok_nil _))) (all_ok (lg_ok hL l1) (rd1_ok hB hL him r hc))) (ndW hB hL)) (hB.put him mn_W1_g mn_W1_500 (nine ⟨mn_W1_510,mn_W1_520⟩ ⟨mn_W1_511,mn_W1_521⟩ ⟨mn_W1_512,mn_W1_522⟩ ⟨mn_W1_513,mn_W1_523⟩ ⟨mn_W1_514,mn_W1_524⟩ ⟨mn_W1_515,mn_W1_525⟩ ⟨mn_W1_516,mn_W1_526⟩ ⟨mn_W1_517,mn_W1_527⟩ ⟨mn_W1_518,mn_W1_528⟩) mn_W1_519 mn_W1_529 mn_W1_r504 mn_W1_r506 k4 k6) ⟨_,_,hL.pop l1 mn_W1_g mn_W1_502 mn_W1_503 mn_W1_507 mn_W1_508 mn_W1_r505 mn_W1_r509 (by kernel_rfl) mn_W1_531 mn_W1_519 (nine ⟨mn_W1_510,mn_W1_520⟩ ⟨mn_W1_511,mn_W1_521⟩ ⟨mn_W1_512,mn_W1_522⟩ ⟨mn_W1_513,mn_W1_523⟩ ⟨mn_W1_514,mn_W1_524⟩ ⟨mn_W1_515,mn_W1_525⟩ ⟨mn_W1_516,mn_W1_526⟩ ⟨mn_W1_517,mn_W1_527⟩ ⟨mn_W1_518,mn_W1_528⟩)⟩
theorem goW2 {n m i off len κ:Nat} {g:Nat→ByteArray} {ρ ρ1:Rho} (hB0:Bs ρ n m g i) (ag:Agree 532 ρ ρ1) (hB:Bs ρ1 n m g i) (hL:Lv ρ1 n off len) (him:i≤m) (r:ρ1.i 519=2) (q:i<m) (x:cdE.den ρ1=0) (k4:t0E.den ρ1=κ) (k6:d0E.den ρ1=κ) (hs:hasE.den ρ1=false) (l1:1<len)  : Go1 n m g 0 ρ :=
 Go1.to 0 hB0 him (ag.le (by decide)) mn_W2_g (mn_W2_step (XS.bel_den ag mn_S0 (by kernel_rfl)) (cN_ok _) (LpsOk.nil _ _ _ _) (Facts.ok_cons hs (all_ok (Facts.ok_cons (by rw[inM_den hB];exact decide_eq_true q) (Facts.ok_cons (by rw[deq_t];exact x) (Facts.ok_nil _))) (all_ok (lg_ok hL l1) (rd2_ok hB hL him r)))) (ndW hB hL)) (hB.put him mn_W2_g mn_W2_500 (nine ⟨mn_W2_510,mn_W2_520⟩ ⟨mn_W2_511,mn_W2_521⟩ ⟨mn_W2_512,mn_W2_522⟩ ⟨mn_W2_513,mn_W2_523⟩ ⟨mn_W2_514,mn_W2_524⟩ ⟨mn_W2_515,mn_W2_525⟩ ⟨mn_W2_516,mn_W2_526⟩ ⟨mn_W2_517,mn_W2_527⟩ ⟨mn_W2_518,mn_W2_528⟩) mn_W2_519 mn_W2_529 mn_W2_r504 mn_W2_r506 k4 k6) ⟨_,_,hL.pop l1 mn_W2_g mn_W2_502 mn_W2_503 mn_W2_507 mn_W2_508 mn_W2_r505 mn_W2_r509 (by kernel_rfl) mn_W2_531 mn_W2_519 (nine ⟨mn_W2_510,mn_W2_520⟩ ⟨mn_W2_511,mn_W2_521⟩ ⟨mn_W2_512,mn_W2_522⟩ ⟨mn_W2_513,mn_W2_523⟩ ⟨mn_W2_514,mn_W2_524⟩ ⟨mn_W2_515,mn_W2_525⟩ ⟨mn_W2_516,mn_W2_526⟩ ⟨mn_W2_517,mn_W2_527⟩ ⟨mn_W2_518,mn_W2_528⟩)⟩
theorem goV2 {n m i off len κ:Nat} {g:Nat→ByteArray} {ρ ρ1:Rho} (hB0:Bs ρ n m g i) (ag:Agree 532 ρ ρ1) (hB:Bs ρ1 n m g i) (hL:Lv ρ1 n off len) (him:i≤m) (r:ρ1.i 519=2) (q:i<m) (x:cdE.den ρ1=0) (k4:t0E.den ρ1=κ) (k6:d0E.den ρ1=κ) (hs:hasE.den ρ1=false) (l1:len=1)  : Go1 n m g 0 ρ :=
 Go1.to 2 hB0 him (ag.le (by decide)) mn_V2_g (mn_V2_step (XS.bel_den ag mn_S0 (by kernel_rfl)) (cN_ok _) (LpsOk.nil _ _ _ _) (Facts.ok_cons hs (all_ok (Facts.ok_cons (by rw[inM_den hB];exact decide_eq_true q) (Facts.ok_cons (by rw[deq_t];exact x) (Facts.ok_nil _))) (all_ok (sh_ok hL l1) (rd2_ok hB hL him r)))) (ndW hB hL)) (hB.put him mn_V2_g mn_V2_500 (nine ⟨mn_V2_510,mn_V2_520⟩ ⟨mn_V2_511,mn_V2_521⟩ ⟨mn_V2_512,mn_V2_522⟩ ⟨mn_V2_513,mn_V2_523⟩ ⟨mn_V2_514,mn_V2_524⟩ ⟨mn_V2_515,mn_V2_525⟩ ⟨mn_V2_516,mn_V2_526⟩ ⟨mn_V2_517,mn_V2_527⟩ ⟨mn_V2_518,mn_V2_528⟩) mn_V2_519 mn_V2_529 mn_V2_r504 mn_V2_r506 k4 k6) (by
  subst l1
  exact⟨⟨_,_,hL.p.pop (by decide) mn_V2_502 mn_V2_503 mn_V2_r505,hL.d.pop (by decide) mn_V2_507 mn_V2_508 mn_V2_r509⟩,ap_b (show lassoc 530 mn_V2_b.b=some (.lit true)by kernel_rfl),(ap_i mn_V2_531).trans hL.c⟩)
theorem goW3 {n m i off len κ:Nat} {g:Nat→ByteArray} {ρ ρ1:Rho} (hB0:Bs ρ n m g i) (ag:Agree 532 ρ ρ1) (hB:Bs ρ1 n m g i) (hL:Lv ρ1 n off len) (him:i≤m) (r:ρ1.i 519=2) (q:i<m) (x:cdE.den ρ1=0) (k4:t0E.den ρ1=κ) (k6:d0E.den ρ1=κ) (hs:hasE.den ρ1=true) (ht:ρ1.b 549=true) (l1:1<len) (cok:CfgOk Try.prog ρ1 (cfgL ksP (fun _=>[]))):Go1 n m g 0 ρ :=
 Go1.to 0 hB0 him (ag.le (by decide)) mn_W3_g (mn_W3_step (XS.bel_den ag mn_S0 (by kernel_rfl)) cok (LpsOk.nil _ _ _ _) (Facts.ok_cons hs (Facts.ok_cons ht (all_ok (Facts.ok_cons (by rw[inM_den hB];exact decide_eq_true q) (Facts.ok_cons (by rw[deq_t];exact x) (Facts.ok_nil _))) (all_ok (lg_ok hL l1) (rd2_ok hB hL him r))))) (ndW hB hL)) (hB.put him mn_W3_g mn_W3_500 (nine ⟨mn_W3_510,mn_W3_520⟩ ⟨mn_W3_511,mn_W3_521⟩ ⟨mn_W3_512,mn_W3_522⟩ ⟨mn_W3_513,mn_W3_523⟩ ⟨mn_W3_514,mn_W3_524⟩ ⟨mn_W3_515,mn_W3_525⟩ ⟨mn_W3_516,mn_W3_526⟩ ⟨mn_W3_517,mn_W3_527⟩ ⟨mn_W3_518,mn_W3_528⟩) mn_W3_519 mn_W3_529 mn_W3_r504 mn_W3_r506 k4 k6) ⟨_,_,hL.pop l1 mn_W3_g mn_W3_502 mn_W3_503 mn_W3_507 mn_W3_508 mn_W3_r505 mn_W3_r509 (by kernel_rfl) mn_W3_531 mn_W3_519 (nine ⟨mn_W3_510,mn_W3_520⟩ ⟨mn_W3_511,mn_W3_521⟩ ⟨mn_W3_512,mn_W3_522⟩ ⟨mn_W3_513,mn_W3_523⟩ ⟨mn_W3_514,mn_W3_524⟩ ⟨mn_W3_515,mn_W3_525⟩ ⟨mn_W3_516,mn_W3_526⟩ ⟨mn_W3_517,mn_W3_527⟩ ⟨mn_W3_518,mn_W3_528⟩)⟩
theorem goV3 {n m i off len κ:Nat} {g:Nat→ByteArray} {ρ ρ1:Rho} (hB0:Bs ρ n m g i) (ag:Agree 532 ρ ρ1) (hB:Bs ρ1 n m g i) (hL:Lv ρ1 n off len) (him:i≤m) (r:ρ1.i 519=2) (q:i<m) (x:cdE.den ρ1=0) (k4:t0E.den ρ1=κ) (k6:d0E.den ρ1=κ) (hs:hasE.den ρ1=true) (ht:ρ1.b 549=true) (l1:len=1) (cok:CfgOk Try.prog ρ1 (cfgL ksP (fun _=>[]))):Go1 n m g 0 ρ :=
 Go1.to 2 hB0 him (ag.le (by decide)) mn_V3_g (mn_V3_step (XS.bel_den ag mn_S0 (by kernel_rfl)) cok (LpsOk.nil _ _ _ _) (Facts.ok_cons hs (Facts.ok_cons ht (all_ok (Facts.ok_cons (by rw[inM_den hB];exact decide_eq_true q) (Facts.ok_cons (by rw[deq_t];exact x) (Facts.ok_nil _))) (all_ok (sh_ok hL l1) (rd2_ok hB hL him r))))) (ndW hB hL)) (hB.put him mn_V3_g mn_V3_500 (nine ⟨mn_V3_510,mn_V3_520⟩ ⟨mn_V3_511,mn_V3_521⟩ ⟨mn_V3_512,mn_V3_522⟩ ⟨mn_V3_513,mn_V3_523⟩ ⟨mn_V3_514,mn_V3_524⟩ ⟨mn_V3_515,mn_V3_525⟩ ⟨mn_V3_516,mn_V3_526⟩ ⟨mn_V3_517,mn_V3_527⟩ ⟨mn_V3_518,mn_V3_528⟩) mn_V3_519 mn_V3_529 mn_V3_r504 mn_V3_r506 k4 k6) (by
  subst l1
  exact⟨⟨_,_,hL.p.pop (by decide) mn_V3_502 mn_V3_503 mn_V3_r505,hL.d.pop (by decide) mn_V3_507 mn_V3_508 mn_V3_r509⟩,ap_b (show lassoc 530 mn_V3_b.b=some (.lit true)by kernel_rfl),(ap_i mn_V3_531).trans hL.c⟩)
theorem goW4 {n m i off len:Nat} {g:Nat→ByteArray} {ρ ρ1:Rho} (hB0:Bs ρ n m g i) (ag:Agree 532 ρ ρ1) (hB:Bs ρ1 n m g i) (hL:Lv ρ1 n off len) (him:i≤m) (r:ρ1.i 519=2) (q:i<m) (x:cdE.den ρ1=0) (hs:hasE.den ρ1=true) (ht:ρ1.b 549=false) (cok:CfgOk Try.prog ρ1 (cfgL ksP (fun _=>[]))):Go1 n m g 0 ρ :=
 Go1.to 0 hB0 him (ag.le (by decide)) mn_W4_g (mn_W4_step (XS.bel_den ag mn_S0 (by kernel_rfl)) cok (LpsOk.nil _ _ _ _) (Facts.ok_cons hs (Facts.ok_cons ht (all_ok (Facts.ok_cons (by rw[inM_den hB];exact decide_eq_true q) (Facts.ok_cons (by rw[deq_t];exact x) (Facts.ok_nil _))) (rd2_ok hB hL him r)))) (ndL hB hL)) (hB.stay him mn_W4_g mn_W4_500 (nine ⟨mn_W4_510,mn_W4_520⟩ ⟨mn_W4_511,mn_W4_521⟩ ⟨mn_W4_512,mn_W4_522⟩ ⟨mn_W4_513,mn_W4_523⟩ ⟨mn_W4_514,mn_W4_524⟩ ⟨mn_W4_515,mn_W4_525⟩ ⟨mn_W4_516,mn_W4_526⟩ ⟨mn_W4_517,mn_W4_527⟩ ⟨mn_W4_518,mn_W4_528⟩) mn_W4_519 mn_W4_529 mn_W4_r504 mn_W4_r506) ⟨_,_,hL.stay mn_W4_g mn_W4_502 mn_W4_503 mn_W4_507 mn_W4_508 mn_W4_r505 mn_W4_r509 (by kernel_rfl) mn_W4_531 mn_W4_519 (nine ⟨mn_W4_510,mn_W4_520⟩ ⟨mn_W4_511,mn_W4_521⟩ ⟨mn_W4_512,mn_W4_522⟩ ⟨mn_W4_513,mn_W4_523⟩ ⟨mn_W4_514,mn_W4_524⟩ ⟨mn_W4_515,mn_W4_525⟩ ⟨mn_W4_516,mn_W4_526⟩ ⟨mn_W4_517,mn_W4_527⟩ ⟨mn_W4_518,mn_W4_528⟩)⟩
theorem tnF_ok {n m i:Nat} {g:Nat→ByteArray} {ρ ρ1:Rho} (hB:Bs ρ1 n m g i) (H:Lst5 ρ ρ1 n):Facts.ok ρ1 tnF:=by
 have h1:=H.i601;have h2:=H.i640;have h3:=H.i660;have h4:=hB.t.f.en;have h5:=hB.t.k1;have h6:=hB.t.k3
 exact Facts.ok_cons (by rw[dlt_f];simp only[IE.den];omega) (Facts.ok_cons (by rw[dlt_f];simp only[IE.den];omega) (Facts.ok_cons (by rw[dlt_f];simp only[IE.den];omega) (Facts.ok_nil _)))
theorem goTNP {n m i off:Nat} {g:Nat→ByteArray} {ρ ρ1:Rho} (hB0:Bs ρ n m g i) (ag:Agree 532 ρ ρ1) (hB:Bs ρ1 n m g i) (hL:Lv ρ1 n off 1) (him:i≤m) (r:ρ1.i 519=1) (hc:∀d,d<9→ρ1.i (510+d)=ρ1.i d) (q:i<m) (x:cdE.den ρ1=0) (H:Lst5 ρ ρ1 n) (k:k43 ρ1 [.k (.slice none 0 0)]) (h_fd:LoopOk Try.prog ρ1 Try.f26.ntmps fdN_c fdN) (h_t2:LoopOk Try.prog ρ1 Try.f34.ntmps t2P_c t2P) (h_td:LoopOk Try.prog ρ1 Try.f26.ntmps tdP_c tdP)  : Go1 n m g 0 ρ:=by
 have cok:CfgOk Try.prog ρ1 (cfgL ksFN lpTNP):=cfgL_ok (List.forall_mem_cons.2 ⟨k,List.forall_mem_cons.2 ⟨H.k44,List.forall_mem_nil _⟩⟩) (lpTNP_ok H.t1 h_t2 h_fd h_td)
 refine Go1.to 3 hB0 him (ag.le (by decide)) mn_TNP_g (mn_TNP_step (XS.bel_den ag mn_S0 (by kernel_rfl)) cok (LpsOk.nil _ _ _ _) (all_ok (Facts.ok_cons (by rw[inM_den hB];exact decide_eq_true q) (Facts.ok_cons (by rw[deq_t];exact x) (Facts.ok_nil _))) (all_ok (sh_ok hL rfl) (all_ok (tnF_ok hB H) (rd1_ok hB hL him r hc)))) (ndT hB hL H.i601)) (hB.next him mn_TNP_g mn_TNP_500 (fun x hx => ?_) (fun d hd => ?_) ?_) ?_
 ·exact row_eq mn_TNP_r504 mn_TNP_r506 (H.an x hx)
 ·have e1:∀d,d<9→lassoc (510+d) mn_TNP_b.i=some (.var (602+d)):=nine mn_TNP_510 mn_TNP_511 mn_TNP_512 mn_TNP_513 mn_TNP_514 mn_TNP_515 mn_TNP_516 mn_TNP_517 mn_TNP_518
  have e2:∀d,d<9→lassoc (520+d) mn_TNP_b.i=some (.var (602+d)):=nine mn_TNP_520 mn_TNP_521 mn_TNP_522 mn_TNP_523 mn_TNP_524 mn_TNP_525 mn_TNP_526 mn_TNP_527 mn_TNP_528
  rw[ap_i (e1 d hd),ap_i (e2 d hd)]
 ·rw[ap_i mn_TNP_519,ap_i mn_TNP_529];exact hB.rd
 ·exact⟨⟨_,hL.p.pop (by decide) mn_TNP_502 mn_TNP_503 mn_TNP_r505⟩,ap_b (show lassoc 530 mn_TNP_b.b=some (.lit true)by kernel_rfl),(ap_i mn_TNP_531).trans hL.c⟩
theorem goTNQ {n m i off:Nat} {g:Nat→ByteArray} {ρ ρ1:Rho} (hB0:Bs ρ n m g i) (ag:Agree 532 ρ ρ1) (hB:Bs ρ1 n m g i) (hL:Lv ρ1 n off 1) (him:i≤m) (r:ρ1.i 519=1) (hc:∀d,d<9→ρ1.i (510+d)=ρ1.i d) (q:i<m) (x:cdE.den ρ1=0) (H:Lst5 ρ ρ1 n) (k:k43 ρ1 [.k (.slice none 0 0)]) (h_fd:LoopOk Try.prog ρ1 Try.f26.ntmps fdN_c fdN) (h_t2:LoopOk Try.prog ρ1 Try.f34.ntmps t2Q_c t2Q) (h_td:LoopOk Try.prog ρ1 Try.f26.ntmps tdQ_c tdQ) {cc:Nat} (c1:1≤cc) (cn:cc≤n) (l6:ρ1.len 621=cc) (l7:ρ1.len 661=cc) (hs:∀y,y<cc→∃x:Nat,x<n∧ρ1.ci 621 0 y=x∧ρ1.ci 661 0 y=x):Go1 n m g 0 ρ:=by
 have cok:CfgOk Try.prog ρ1 (cfgL ksFN lpTNQ):=cfgL_ok (List.forall_mem_cons.2 ⟨k,List.forall_mem_cons.2 ⟨H.k44,List.forall_mem_nil _⟩⟩) (lpTNQ_ok H.t1 h_t2 h_fd h_td)
 refine Go1.to 0 hB0 him (ag.le (by decide)) mn_TNQ_g (mn_TNQ_step (XS.bel_den ag mn_S0 (by kernel_rfl)) cok (LpsOk.nil _ _ _ _) (Facts.ok_cons (by rw[dlt_t];simp only[IE.den];omega) (Facts.ok_cons (by rw[dlt_t];simp only[IE.den];omega) (Facts.ok_cons (by have:=hB.t.f.n6;rw[dlt_f];simp only[IE.den];omega) (all_ok (Facts.ok_cons (by rw[inM_den hB];exact decide_eq_true q) (Facts.ok_cons (by rw[deq_t];exact x) (Facts.ok_nil _))) (all_ok (sh_ok hL rfl) (all_ok (tnF_ok hB H) (rd1_ok hB hL him r hc))))))) (ndT hB hL H.i601)) (hB.next him mn_TNQ_g mn_TNQ_500 (fun x hx => ?_) (fun d hd => ?_) ?_) ?_
 ·exact row_eq mn_TNQ_r504 mn_TNQ_r506 (H.an x hx)
 ·have e1:∀d,d<9→lassoc (510+d) mn_TNQ_b.i=some (.var (602+d)):=nine mn_TNQ_510 mn_TNQ_511 mn_TNQ_512 mn_TNQ_513 mn_TNQ_514 mn_TNQ_515 mn_TNQ_516 mn_TNQ_517 mn_TNQ_518
  have e2:∀d,d<9→lassoc (520+d) mn_TNQ_b.i=some (.var (602+d)):=nine mn_TNQ_520 mn_TNQ_521 mn_TNQ_522 mn_TNQ_523 mn_TNQ_524 mn_TNQ_525 mn_TNQ_526 mn_TNQ_527 mn_TNQ_528
  rw[ap_i (e1 d hd),ap_i (e2 d hd)]
 ·rw[ap_i mn_TNQ_519,ap_i mn_TNQ_529]
 ·have e5:(mn_TNQ_b.ap ρ1).len 505=cc:=by rw[ap_len mn_TNQ_r505];show((ρ1.len 621:Int)).toNat=_;rw[l6];omega
  have e9:(mn_TNQ_b.ap ρ1).len 509=cc:=by rw[ap_len mn_TNQ_r509];show((ρ1.len 661:Int)).toNat=_;rw[l7];omega
  refine⟨0,cc,⟨ap_i mn_TNQ_502,(ap_i mn_TNQ_503).trans (by show(ρ1.len 621:Int)=_;rw[l6]),by rw[e5];omega,by omega⟩,⟨ap_i mn_TNQ_507,(ap_i mn_TNQ_508).trans (by show(ρ1.len 661:Int)=_;rw[l7]),by rw[e9];omega,by omega⟩,fun y hy => ?_,c1,(ap_b (show lassoc 530 mn_TNQ_b.b=some (.var 530)by kernel_rfl)).trans hL.b,(ap_i mn_TNQ_531).trans hL.c,.inr (ap_i mn_TNQ_519)⟩
  obtain⟨x,x1,x2,x3⟩:=hs y (by omega)
  exact⟨x,x1,by rw[ap_ci mn_TNQ_r505,row_i];exact x2,by rw[ap_ci mn_TNQ_r509,row_i];exact x3⟩
theorem goTRP {n m i off:Nat} {g:Nat→ByteArray} {ρ ρ1:Rho} (hB0:Bs ρ n m g i) (ag:Agree 532 ρ ρ1) (hB:Bs ρ1 n m g i) (hL:Lv ρ1 n off 1) (him:i≤m) (r:ρ1.i 519=1) (hc:∀d,d<9→ρ1.i (510+d)=ρ1.i d) (q:i<m) (x:cdE.den ρ1=0) (H:Lst5 ρ ρ1 n) (k0:0<ρ1.len 641) (k:k43 ρ1 [ke20]) (h_fd:LoopOk Try.prog ρ1 Try.f26.ntmps fdR_c fdR) (h_t2:LoopOk Try.prog ρ1 Try.f34.ntmps t2P_c t2P) (h_td:LoopOk Try.prog ρ1 Try.f26.ntmps tdP_c tdP)  : Go1 n m g 0 ρ:=by
 have cok:CfgOk Try.prog ρ1 (cfgL ksFR lpTRP):=cfgL_ok (List.forall_mem_cons.2 ⟨k,List.forall_mem_cons.2 ⟨H.k44,List.forall_mem_nil _⟩⟩) (lpTRP_ok H.t1 h_t2 h_fd h_td)
 refine Go1.to 3 hB0 him (ag.le (by decide)) mn_TRP_g (mn_TRP_step (XS.bel_den ag mn_S0 (by kernel_rfl)) cok (LpsOk.nil _ _ _ _) (Facts.ok_cons (by rw[dlt_t];simp only[IE.den];omega) (all_ok (Facts.ok_cons (by rw[inM_den hB];exact decide_eq_true q) (Facts.ok_cons (by rw[deq_t];exact x) (Facts.ok_nil _))) (all_ok (sh_ok hL rfl) (all_ok (tnF_ok hB H) (rd1_ok hB hL him r hc))))) (ndT hB hL H.i601)) (hB.next him mn_TRP_g mn_TRP_500 (fun x hx => ?_) (fun d hd => ?_) ?_) ?_
 ·exact row_eq mn_TRP_r504 mn_TRP_r506 (H.an x hx)
 ·have e1:∀d,d<9→lassoc (510+d) mn_TRP_b.i=some (.var (602+d)):=nine mn_TRP_510 mn_TRP_511 mn_TRP_512 mn_TRP_513 mn_TRP_514 mn_TRP_515 mn_TRP_516 mn_TRP_517 mn_TRP_518
  have e2:∀d,d<9→lassoc (520+d) mn_TRP_b.i=some (.var (602+d)):=nine mn_TRP_520 mn_TRP_521 mn_TRP_522 mn_TRP_523 mn_TRP_524 mn_TRP_525 mn_TRP_526 mn_TRP_527 mn_TRP_528
  rw[ap_i (e1 d hd),ap_i (e2 d hd)]
 ·rw[ap_i mn_TRP_519,ap_i mn_TRP_529];exact hB.rd
 ·exact⟨⟨_,hL.p.pop (by decide) mn_TRP_502 mn_TRP_503 mn_TRP_r505⟩,ap_b (show lassoc 530 mn_TRP_b.b=some (.lit true)by kernel_rfl),(ap_i mn_TRP_531).trans hL.c⟩
theorem goTRQ {n m i off:Nat} {g:Nat→ByteArray} {ρ ρ1:Rho} (hB0:Bs ρ n m g i) (ag:Agree 532 ρ ρ1) (hB:Bs ρ1 n m g i) (hL:Lv ρ1 n off 1) (him:i≤m) (r:ρ1.i 519=1) (hc:∀d,d<9→ρ1.i (510+d)=ρ1.i d) (q:i<m) (x:cdE.den ρ1=0) (H:Lst5 ρ ρ1 n) (k0:0<ρ1.len 641) (k:k43 ρ1 [ke20]) (h_fd:LoopOk Try.prog ρ1 Try.f26.ntmps fdR_c fdR) (h_t2:LoopOk Try.prog ρ1 Try.f34.ntmps t2Q_c t2Q) (h_td:LoopOk Try.prog ρ1 Try.f26.ntmps tdQ_c tdQ) {cc:Nat} (c1:1≤cc) (cn:cc≤n) (l6:ρ1.len 621=cc) (l7:ρ1.len 661=cc) (hs:∀y,y<cc→∃x:Nat,x<n∧ρ1.ci 621 0 y=x∧ρ1.ci 661 0 y=x):Go1 n m g 0 ρ:=by
 have cok:CfgOk Try.prog ρ1 (cfgL ksFR lpTRQ):=cfgL_ok (List.forall_mem_cons.2 ⟨k,List.forall_mem_cons.2 ⟨H.k44,List.forall_mem_nil _⟩⟩) (lpTRQ_ok H.t1 h_t2 h_fd h_td)
 refine Go1.to 0 hB0 him (ag.le (by decide)) mn_TRQ_g (mn_TRQ_step (XS.bel_den ag mn_S0 (by kernel_rfl)) cok (LpsOk.nil _ _ _ _) (Facts.ok_cons (by rw[dlt_t];simp only[IE.den];omega) (Facts.ok_cons (by rw[dlt_t];simp only[IE.den];omega) (Facts.ok_cons (by rw[dlt_t];simp only[IE.den];omega) (Facts.ok_cons (by have:=hB.t.f.n6;rw[dlt_f];simp only[IE.den];omega) (all_ok (Facts.ok_cons (by rw[inM_den hB];exact decide_eq_true q) (Facts.ok_cons (by rw[deq_t];exact x) (Facts.ok_nil _))) (all_ok (sh_ok hL rfl) (all_ok (tnF_ok hB H) (rd1_ok hB hL him r hc)))))))) (ndT hB hL H.i601)) (hB.next him mn_TRQ_g mn_TRQ_500 (fun x hx => ?_) (fun d hd => ?_) ?_) ?_
 ·exact row_eq mn_TRQ_r504 mn_TRQ_r506 (H.an x hx)
 ·have e1:∀d,d<9→lassoc (510+d) mn_TRQ_b.i=some (.var (602+d)):=nine mn_TRQ_510 mn_TRQ_511 mn_TRQ_512 mn_TRQ_513 mn_TRQ_514 mn_TRQ_515 mn_TRQ_516 mn_TRQ_517 mn_TRQ_518
  have e2:∀d,d<9→lassoc (520+d) mn_TRQ_b.i=some (.var (602+d)):=nine mn_TRQ_520 mn_TRQ_521 mn_TRQ_522 mn_TRQ_523 mn_TRQ_524 mn_TRQ_525 mn_TRQ_526 mn_TRQ_527 mn_TRQ_528
  rw[ap_i (e1 d hd),ap_i (e2 d hd)]
 ·rw[ap_i mn_TRQ_519,ap_i mn_TRQ_529]
 ·have e5:(mn_TRQ_b.ap ρ1).len 505=cc:=by rw[ap_len mn_TRQ_r505];show((ρ1.len 621:Int)).toNat=_;rw[l6];omega
  have e9:(mn_TRQ_b.ap ρ1).len 509=cc:=by rw[ap_len mn_TRQ_r509];show((ρ1.len 661:Int)).toNat=_;rw[l7];omega
  refine⟨0,cc,⟨ap_i mn_TRQ_502,(ap_i mn_TRQ_503).trans (by show(ρ1.len 621:Int)=_;rw[l6]),by rw[e5];omega,by omega⟩,⟨ap_i mn_TRQ_507,(ap_i mn_TRQ_508).trans (by show(ρ1.len 661:Int)=_;rw[l7]),by rw[e9];omega,by omega⟩,fun y hy => ?_,c1,(ap_b (show lassoc 530 mn_TRQ_b.b=some (.var 530)by kernel_rfl)).trans hL.b,(ap_i mn_TRQ_531).trans hL.c,.inr (ap_i mn_TRQ_519)⟩
  obtain⟨x,x1,x2,x3⟩:=hs y (by omega)
  exact⟨x,x1,by rw[ap_ci mn_TRQ_r505,row_i];exact x2,by rw[ap_ci mn_TRQ_r509,row_i];exact x3⟩
theorem goZI {n m i off len:Nat} {g:Nat→ByteArray} {ρ:Rho} (hB:Bs ρ n m g i) (him:i≤m) (hT:Td ρ n off len) (hb:ρ.b 530=true) (h1:ρ.i 531=60) (h2:ρ.i 532=60) (q:i<m):Go1 n m g 1 ρ :=
 Go1.to 1 hB him (Agree.refl _ _) mn_ZI_g (mn_ZI_step rfl (cN_ok _) (LpsOk.nil _ _ _ _) (Facts.ok_cons (by rw[inM_den hB];exact decide_eq_true q) (Facts.ok_cons hb (Facts.ok_cons (by rw[deq_t];exact h2) (Facts.ok_cons (by rw[deq_t];exact h1) (mnF_ok hB him))))) (ndZ hT)) (hB.stay him mn_ZI_g mn_ZI_500 (nine ⟨mn_ZI_510,mn_ZI_520⟩ ⟨mn_ZI_511,mn_ZI_521⟩ ⟨mn_ZI_512,mn_ZI_522⟩ ⟨mn_ZI_513,mn_ZI_523⟩ ⟨mn_ZI_514,mn_ZI_524⟩ ⟨mn_ZI_515,mn_ZI_525⟩ ⟨mn_ZI_516,mn_ZI_526⟩ ⟨mn_ZI_517,mn_ZI_527⟩ ⟨mn_ZI_518,mn_ZI_528⟩) mn_ZI_519 mn_ZI_529 mn_ZI_r504 mn_ZI_r506) ⟨⟨_,_,hT.stay mn_ZI_507 mn_ZI_508 mn_ZI_r509⟩,(ap_b (show lassoc 530 mn_ZI_b.b=some (.var 530)by kernel_rfl)).trans hb,(ap_i mn_ZI_531).trans h1,(ap_i mn_ZI_532).trans h2⟩
theorem goZM {n m i off len:Nat} {g:Nat→ByteArray} {ρ:Rho} (hB:Bs ρ n m g i) (him:i≤m) (hT:Td ρ n off len) (hb:ρ.b 530=true) (h1:ρ.i 531=60) (h2:ρ.i 532=60) (q:¬i<m):Go1 n m g 1 ρ :=
 Go1.to 1 hB him (Agree.refl _ _) mn_ZM_g (mn_ZM_step rfl (cN_ok _) (LpsOk.nil _ _ _ _) (Facts.ok_cons (by rw[inM_den hB];exact decide_eq_false q) (Facts.ok_cons hb (Facts.ok_cons (by rw[deq_t];exact h2) (Facts.ok_cons (by rw[deq_t];exact h1) (mnF_ok hB him))))) (ndZ hT)) (hB.stay him mn_ZM_g mn_ZM_500 (nine ⟨mn_ZM_510,mn_ZM_520⟩ ⟨mn_ZM_511,mn_ZM_521⟩ ⟨mn_ZM_512,mn_ZM_522⟩ ⟨mn_ZM_513,mn_ZM_523⟩ ⟨mn_ZM_514,mn_ZM_524⟩ ⟨mn_ZM_515,mn_ZM_525⟩ ⟨mn_ZM_516,mn_ZM_526⟩ ⟨mn_ZM_517,mn_ZM_527⟩ ⟨mn_ZM_518,mn_ZM_528⟩) mn_ZM_519 mn_ZM_529 mn_ZM_r504 mn_ZM_r506) ⟨⟨_,_,hT.stay mn_ZM_507 mn_ZM_508 mn_ZM_r509⟩,(ap_b (show lassoc 530 mn_ZM_b.b=some (.var 530)by kernel_rfl)).trans hb,(ap_i mn_ZM_531).trans h1,(ap_i mn_ZM_532).trans h2⟩
theorem dz_ok {ρ:Rho} {n:Nat} {a b c d:Nat} (h1:ReR ρ 561 a b n) (h2:ReR ρ 571 c d n) (hn:ρ.len 2=n) (n6:n≤6):Facts.ok ρ dzF:=by
 have e1:=h1.1;have e2:=h2.1
 exact Facts.ok_cons (by rw[deq_t];simp only[IE.den];omega) (Facts.ok_cons (by rw[deq_t];simp only[IE.den];omega) (Facts.ok_cons (by rw[dlt_f];simp only[IE.den];omega) (Facts.ok_nil _)))
theorem re_same {ρ:Rho} {n m i:Nat} {g:Nat→ByteArray} (hB:Bs ρ n m g i) (h1:ReR ρ 561 2 504 n) (h2:ReR ρ 571 471 506 n):hasBody Try.prog 24=true∧∀n h,CY Try.prog n 24 (X.denL ρ rsQ) h (.sc (.bool true)) [] :=
 rs_cy ρ h1.1 h2.1 hB.t.f.n6 fun y hy=>by
  rw[h1.2 y hy,h2.2 y hy,hB.an y hy,hB.t.k2 y hy]
  congr 1
  rw[←hB.t.f.eg];rfl
theorem goDI {n m i off o2:Nat} {g:Nat→ByteArray} {ρ:Rho} (hB:Bs ρ n m g i) (him:i≤m) (hP:Tp ρ n off 0) (hD:Td ρ n o2 0) (hb:ρ.b 530=true) (h1:ρ.i 531=0) (q:i<m):Go1 n m g 2 ρ:=by
 have n6:=hB.t.f.n6
 obtain⟨ρ1,a1,R1,L1⟩:=r1_ok ρ hB.t.f.n1 n6 hB.t.f.en
 have hB1:Bs ρ1 n m g i:=hB.agree a1 (by decide)
 obtain⟨ρ2,a2,R2,L2⟩:=r2_ok ρ1 hB.t.f.n1 n6 ⟨⟨hB1.t.f.en,hB1.t.k1,hB1.t.k3⟩,by rw[←a1.b 530 (by decide)];exact hb,by rw[←a1.i 531 (by decide)];exact h1⟩
 have ag:Agree 560 ρ ρ2:=a1.trans (a2.le (by decide))
 have hB2:Bs ρ2 n m g i:=hB.agree ag (by decide)
 have hP2:Tp ρ2 n off 0:=hP.agree ag (by decide)
 have R1':ReR ρ2 561 2 504 n:=R1.agree a2 (by decide) (by decide) (by decide)
 have hb2:ρ2.b 530=true:=by rw[←ag.b 530 (by decide)];exact hb
 have h2:ρ2.i 531=0:=by rw[←ag.i 531 (by decide)];exact h1
 have hD2:Td ρ2 n o2 0:=hD.agree ag (by decide)
 have L1':LoopOk Try.prog ρ2 Try.f22.ntmps r1_c r1:=LoopOk.agree (B:=570) (show r1.S.bel 570=true by kernel_rfl) rfl (show r1.out.belX 570=true by kernel_rfl) a2 L1
 have hl:ρ2.i 503=0:=hP2.l
 exact Go1.to 2 hB him (ag.le (by decide)) mn_DI_g (mn_DI_step (XS.bel_den (ag.le (by decide):Agree 533 ρ ρ2) mn_S2 (by kernel_rfl)) (cfgL_ok (List.forall_mem_cons.2 ⟨re_same hB2 R1' R2,List.forall_mem_nil _⟩) (lpDn_ok L1' L2)) (LpsOk.nil _ _ _ _) (Facts.ok_cons (by rw[inM_den hB2];exact decide_eq_true q) (Facts.ok_cons (by rw[dlt_f];simp only[IE.den];omega) (Facts.ok_cons (by rw[dlt_f];simp only[IE.den];omega) (Facts.ok_cons hb2 (Facts.ok_cons (by rw[deq_t];exact h2) (all_ok (dz_ok R1' R2 hB2.t.f.en n6) (all_ok (mnF_ok hB2 him) (lnT_ok hP2 n6)))))))) (ndD hP2 hD2)) (hB2.stay him mn_DI_g mn_DI_500 (nine ⟨mn_DI_510,mn_DI_520⟩ ⟨mn_DI_511,mn_DI_521⟩ ⟨mn_DI_512,mn_DI_522⟩ ⟨mn_DI_513,mn_DI_523⟩ ⟨mn_DI_514,mn_DI_524⟩ ⟨mn_DI_515,mn_DI_525⟩ ⟨mn_DI_516,mn_DI_526⟩ ⟨mn_DI_517,mn_DI_527⟩ ⟨mn_DI_518,mn_DI_528⟩) mn_DI_519 mn_DI_529 mn_DI_r504 mn_DI_r506) ⟨⟨_,_,hP2.stay mn_DI_502 mn_DI_503 mn_DI_r505,hD2.stay mn_DI_507 mn_DI_508 mn_DI_r509⟩,(ap_b (show lassoc 530 mn_DI_b.b=some (.var 530)by kernel_rfl)).trans hb2,(ap_i mn_DI_531).trans h2⟩
theorem goDM {n m i off o2:Nat} {g:Nat→ByteArray} {ρ:Rho} (hB:Bs ρ n m g i) (him:i≤m) (hP:Tp ρ n off 0) (hD:Td ρ n o2 0) (hb:ρ.b 530=true) (h1:ρ.i 531=0) (q:¬i<m):Go1 n m g 2 ρ:=by
 have n6:=hB.t.f.n6
 obtain⟨ρ1,a1,R1,L1⟩:=r1_ok ρ hB.t.f.n1 n6 hB.t.f.en
 have hB1:Bs ρ1 n m g i:=hB.agree a1 (by decide)
 obtain⟨ρ2,a2,R2,L2⟩:=r2_ok ρ1 hB.t.f.n1 n6 ⟨⟨hB1.t.f.en,hB1.t.k1,hB1.t.k3⟩,by rw[←a1.b 530 (by decide)];exact hb,by rw[←a1.i 531 (by decide)];exact h1⟩
 have ag:Agree 560 ρ ρ2:=a1.trans (a2.le (by decide))
 have hB2:Bs ρ2 n m g i:=hB.agree ag (by decide)
 have hP2:Tp ρ2 n off 0:=hP.agree ag (by decide)
 have R1':ReR ρ2 561 2 504 n:=R1.agree a2 (by decide) (by decide) (by decide)
 have hb2:ρ2.b 530=true:=by rw[←ag.b 530 (by decide)];exact hb
 have h2:ρ2.i 531=0:=by rw[←ag.i 531 (by decide)];exact h1
 have hD2:Td ρ2 n o2 0:=hD.agree ag (by decide)
 have L1':LoopOk Try.prog ρ2 Try.f22.ntmps r1_c r1:=LoopOk.agree (B:=570) (show r1.S.bel 570=true by kernel_rfl) rfl (show r1.out.belX 570=true by kernel_rfl) a2 L1
 have hl:ρ2.i 503=0:=hP2.l
 exact Go1.to 2 hB him (ag.le (by decide)) mn_DM_g (mn_DM_step (XS.bel_den (ag.le (by decide):Agree 533 ρ ρ2) mn_S2 (by kernel_rfl)) (cfgL_ok (List.forall_mem_cons.2 ⟨re_same hB2 R1' R2,List.forall_mem_nil _⟩) (lpDn_ok L1' L2)) (LpsOk.nil _ _ _ _) (Facts.ok_cons (by rw[inM_den hB2];exact decide_eq_false q) (Facts.ok_cons (by rw[dlt_f];simp only[IE.den];omega) (Facts.ok_cons (by rw[dlt_f];simp only[IE.den];omega) (Facts.ok_cons hb2 (Facts.ok_cons (by rw[deq_t];exact h2) (all_ok (dz_ok R1' R2 hB2.t.f.en n6) (all_ok (mnF_ok hB2 him) (lnT_ok hP2 n6)))))))) (ndD hP2 hD2)) (hB2.stay him mn_DM_g mn_DM_500 (nine ⟨mn_DM_510,mn_DM_520⟩ ⟨mn_DM_511,mn_DM_521⟩ ⟨mn_DM_512,mn_DM_522⟩ ⟨mn_DM_513,mn_DM_523⟩ ⟨mn_DM_514,mn_DM_524⟩ ⟨mn_DM_515,mn_DM_525⟩ ⟨mn_DM_516,mn_DM_526⟩ ⟨mn_DM_517,mn_DM_527⟩ ⟨mn_DM_518,mn_DM_528⟩) mn_DM_519 mn_DM_529 mn_DM_r504 mn_DM_r506) ⟨⟨_,_,hP2.stay mn_DM_502 mn_DM_503 mn_DM_r505,hD2.stay mn_DM_507 mn_DM_508 mn_DM_r509⟩,(ap_b (show lassoc 530 mn_DM_b.b=some (.var 530)by kernel_rfl)).trans hb2,(ap_i mn_DM_531).trans h2⟩
theorem goDJ {n m i off:Nat} {g:Nat→ByteArray} {ρ:Rho} (hB:Bs ρ n m g i) (him:i≤m) (hP:Tp ρ n off 0) (hb:ρ.b 530=true) (h1:ρ.i 531=0) (q:i<m):Go1 n m g 3 ρ:=by
 have n6:=hB.t.f.n6
 obtain⟨ρ1,a1,R1,L1⟩:=r1_ok ρ hB.t.f.n1 n6 hB.t.f.en
 have hB1:Bs ρ1 n m g i:=hB.agree a1 (by decide)
 obtain⟨ρ2,a2,R2,L2⟩:=r3_ok ρ1 hB.t.f.n1 n6 ⟨⟨hB1.t.f.en,hB1.t.k1,hB1.t.k3⟩,by rw[←a1.b 530 (by decide)];exact hb,by rw[←a1.i 531 (by decide)];exact h1⟩
 have ag:Agree 560 ρ ρ2:=a1.trans (a2.le (by decide))
 have hB2:Bs ρ2 n m g i:=hB.agree ag (by decide)
 have hP2:Tp ρ2 n off 0:=hP.agree ag (by decide)
 have R1':ReR ρ2 561 2 504 n:=R1.agree a2 (by decide) (by decide) (by decide)
 have hb2:ρ2.b 530=true:=by rw[←ag.b 530 (by decide)];exact hb
 have h2:ρ2.i 531=0:=by rw[←ag.i 531 (by decide)];exact h1
 have L1':LoopOk Try.prog ρ2 Try.f22.ntmps r1_c r1:=LoopOk.agree (B:=570) (show r1.S.bel 570=true by kernel_rfl) rfl (show r1.out.belX 570=true by kernel_rfl) a2 L1
 have hl:ρ2.i 503=0:=hP2.l
 exact Go1.to 3 hB him (ag.le (by decide)) mn_DJ_g (mn_DJ_step (XS.bel_den (ag.le (by decide):Agree 533 ρ ρ2) mn_S3 (by kernel_rfl)) (cfgL_ok (List.forall_mem_cons.2 ⟨re_same hB2 R1' R2,List.forall_mem_nil _⟩) (lpDm_ok L1' L2)) (LpsOk.nil _ _ _ _) (Facts.ok_cons (by rw[inM_den hB2];exact decide_eq_true q) (Facts.ok_cons (by rw[dlt_f];simp only[IE.den];omega) (Facts.ok_cons (by rw[dlt_f];simp only[IE.den];omega) (Facts.ok_cons hb2 (Facts.ok_cons (by rw[deq_t];exact h2) (all_ok (dz_ok R1' R2 hB2.t.f.en n6) (all_ok (mnF_ok hB2 him) (lnT_ok hP2 n6)))))))) (aE_t hP2)) (hB2.stay him mn_DJ_g mn_DJ_500 (nine ⟨mn_DJ_510,mn_DJ_520⟩ ⟨mn_DJ_511,mn_DJ_521⟩ ⟨mn_DJ_512,mn_DJ_522⟩ ⟨mn_DJ_513,mn_DJ_523⟩ ⟨mn_DJ_514,mn_DJ_524⟩ ⟨mn_DJ_515,mn_DJ_525⟩ ⟨mn_DJ_516,mn_DJ_526⟩ ⟨mn_DJ_517,mn_DJ_527⟩ ⟨mn_DJ_518,mn_DJ_528⟩) mn_DJ_519 mn_DJ_529 mn_DJ_r504 mn_DJ_r506) ⟨⟨_,hP2.stay mn_DJ_502 mn_DJ_503 mn_DJ_r505⟩,(ap_b (show lassoc 530 mn_DJ_b.b=some (.var 530)by kernel_rfl)).trans hb2,(ap_i mn_DJ_531).trans h2⟩
theorem goDN {n m i off:Nat} {g:Nat→ByteArray} {ρ:Rho} (hB:Bs ρ n m g i) (him:i≤m) (hP:Tp ρ n off 0) (hb:ρ.b 530=true) (h1:ρ.i 531=0) (q:¬i<m):Go1 n m g 3 ρ:=by
 have n6:=hB.t.f.n6
 obtain⟨ρ1,a1,R1,L1⟩:=r1_ok ρ hB.t.f.n1 n6 hB.t.f.en
 have hB1:Bs ρ1 n m g i:=hB.agree a1 (by decide)
 obtain⟨ρ2,a2,R2,L2⟩:=r3_ok ρ1 hB.t.f.n1 n6 ⟨⟨hB1.t.f.en,hB1.t.k1,hB1.t.k3⟩,by rw[←a1.b 530 (by decide)];exact hb,by rw[←a1.i 531 (by decide)];exact h1⟩
 have ag:Agree 560 ρ ρ2:=a1.trans (a2.le (by decide))
 have hB2:Bs ρ2 n m g i:=hB.agree ag (by decide)
 have hP2:Tp ρ2 n off 0:=hP.agree ag (by decide)
 have R1':ReR ρ2 561 2 504 n:=R1.agree a2 (by decide) (by decide) (by decide)
 have hb2:ρ2.b 530=true:=by rw[←ag.b 530 (by decide)];exact hb
 have h2:ρ2.i 531=0:=by rw[←ag.i 531 (by decide)];exact h1
 have L1':LoopOk Try.prog ρ2 Try.f22.ntmps r1_c r1:=LoopOk.agree (B:=570) (show r1.S.bel 570=true by kernel_rfl) rfl (show r1.out.belX 570=true by kernel_rfl) a2 L1
 have hl:ρ2.i 503=0:=hP2.l
 exact Go1.to 3 hB him (ag.le (by decide)) mn_DN_g (mn_DN_step (XS.bel_den (ag.le (by decide):Agree 533 ρ ρ2) mn_S3 (by kernel_rfl)) (cfgL_ok (List.forall_mem_cons.2 ⟨re_same hB2 R1' R2,List.forall_mem_nil _⟩) (lpDm_ok L1' L2)) (LpsOk.nil _ _ _ _) (Facts.ok_cons (by rw[inM_den hB2];exact decide_eq_false q) (Facts.ok_cons (by rw[dlt_f];simp only[IE.den];omega) (Facts.ok_cons (by rw[dlt_f];simp only[IE.den];omega) (Facts.ok_cons hb2 (Facts.ok_cons (by rw[deq_t];exact h2) (all_ok (dz_ok R1' R2 hB2.t.f.en n6) (all_ok (mnF_ok hB2 him) (lnT_ok hP2 n6)))))))) (aE_t hP2)) (hB2.stay him mn_DN_g mn_DN_500 (nine ⟨mn_DN_510,mn_DN_520⟩ ⟨mn_DN_511,mn_DN_521⟩ ⟨mn_DN_512,mn_DN_522⟩ ⟨mn_DN_513,mn_DN_523⟩ ⟨mn_DN_514,mn_DN_524⟩ ⟨mn_DN_515,mn_DN_525⟩ ⟨mn_DN_516,mn_DN_526⟩ ⟨mn_DN_517,mn_DN_527⟩ ⟨mn_DN_518,mn_DN_528⟩) mn_DN_519 mn_DN_529 mn_DN_r504 mn_DN_r506) ⟨⟨_,hP2.stay mn_DN_502 mn_DN_503 mn_DN_r505⟩,(ap_b (show lassoc 530 mn_DN_b.b=some (.var 530)by kernel_rfl)).trans hb2,(ap_i mn_DN_531).trans h2⟩
theorem go3 {n m i off len κ:Nat} {g:Nat→ByteArray} {ρ:Rho} (hB:Bs ρ n m g i) (hL:Lv ρ n off len) (him:i≤m) (r:ρ.i 519=2) (q:i<m) (x:cdE.den ρ=0) (k4:t0E.den ρ=κ) (k6:d0E.den ρ=κ) (hs:hasE.den ρ=true):Go1 n m g 0 ρ:=by
 have p1:=past_row ρ 3 (.var 500)
 have p2:=pastD_row ρ 3 (.var 500)
 generalize pa (fun c=>ρ.ci 3 c ((IE.var 500).den ρ).toNat)=v at p1 p2
 generalize e1:putI ρ [(540,v 0),(541,v 1),(542,v 2),(543,v 3),(544,v 4),(545,v 5),(546,v 6),(547,v 7),(548,v 8)]=ρ1
 have a1:Agree 540 ρ ρ1:=by rw[←e1];exact putI_agree ρ rfl
 obtain⟨t,c1,c2⟩:=cov_both ρ1 510 540 520 540 (fun d hd=>by rw[←a1.i (510+d) (by omega),←a1.i (520+d) (by omega)];exact hB.cut d hd) fun _ _=>rfl
 generalize e2:putB ρ1 549 t=ρ2
 have a2:Agree 549 ρ1 ρ2:=by rw[←e2];exact putB_agree ρ1 (Nat.le_refl _)
 have ag:Agree 540 ρ ρ2:=a1.trans (a2.le (by decide))
 have b2:ρ2.b 549=t:=by rw[←e2];exact putB_at _ _ _
 have e3:X.den ρ2 (.agg (vi 540 9))=nineV v:=by rw[←e2,←e1];rfl
 have e4:X.den ρ2 (.sc (.b (.var 549))) = .sc (.bool t):=by rw[←b2];rfl
 have cok:CfgOk Try.prog ρ2 (cfgL ksP (fun _=>[])):=cK_ok (List.forall_mem_cons.2 ⟨⟨p1.1,fun k hp=>by
   show CY Try.prog k 16 (X.denL ρ2 [.ro 20 [enC 3 (.var 500)] true]) hp (X.den ρ2 (.agg (vi 540 9))) []
   rw[←X.belL_den ag [.ro 20 [enC 3 (.var 500)] true] (by kernel_rfl),e3];exact p1.2 k hp⟩,List.forall_mem_cons.2 ⟨⟨c1.1,fun k hp=>by
   show CY Try.prog k 15 (X.denL ρ2 [.agg (vi 510 9),.agg (vi 540 9)]) hp (X.den ρ2 (.sc (.b (.var 549)))) []
   rw[←X.belL_den a2 [.agg (vi 510 9),.agg (vi 540 9)] (by kernel_rfl),e4];exact c1.2 k hp⟩,List.forall_mem_cons.2 ⟨⟨p2.1,fun k hp=>by
   show CY Try.prog k 43 (X.denL ρ2 [.ro 20 [enC 3 (.var 500)] false]) hp (X.den ρ2 (.agg (vi 540 9))) []
   rw[←X.belL_den ag [.ro 20 [enC 3 (.var 500)] false] (by kernel_rfl),e3];exact p2.2 k hp⟩,List.forall_mem_cons.2 ⟨⟨c2.1,fun k hp=>by
   show CY Try.prog k 42 (X.denL ρ2 [.agg (vi 520 9),.agg (vi 540 9)]) hp (X.den ρ2 (.sc (.b (.var 549)))) []
   rw[←X.belL_den a2 [.agg (vi 520 9),.agg (vi 540 9)] (by kernel_rfl),e4];exact c2.2 k hp⟩,List.forall_mem_nil _⟩⟩⟩⟩)
 have hB2:Bs ρ2 n m g i:=hB.agree ag (by decide)
 have hL2:Lv ρ2 n off len:=hL.agree ag (by decide)
 have r2:ρ2.i 519=2:=by rw[←ag.i 519 (by decide)];exact r
 have x2:cdE.den ρ2=0:=by rw[show cdE.den ρ2=ρ2.ci 3 0 i from cl_i (e := .var 500) hB2.xi,←ag.ci 3 (by decide)];exact(cl_i (e := .var 500) hB.xi).symm.trans x
 have h2:hasE.den ρ2=true:=by rw[show hasE.den ρ2=ρ2.cb 3 1 i from cl_b (e := .var 500) hB2.xi,←ag.cb 3 (by decide)];exact(cl_b (e := .var 500) hB.xi).symm.trans hs
 have k42:t0E.den ρ2=κ:=by rw[show t0E.den ρ2=ρ2.ci 505 0 off from cl_i (e := .var 502) hL2.p.o,←ag.ci 505 (by decide)];exact(cl_i (e := .var 502) hL.p.o).symm.trans k4
 have k62:d0E.den ρ2=κ:=by rw[show d0E.den ρ2=ρ2.ci 509 0 off from cl_i (e := .var 507) hL2.d.o,←ag.ci 509 (by decide)];exact(cl_i (e := .var 507) hL.d.o).symm.trans k6
 have a3:Agree 532 ρ ρ2:=ag.le (by decide)
 cases t with
 | false=>exact goW4 hB a3 hB2 hL2 him r2 q x2 h2 b2 cok
 | true =>
  by_cases l1:len=1
  ·exact goV3 hB a3 hB2 hL2 him r2 q x2 k42 k62 h2 b2 l1 cok
  ·exact goW3 hB a3 hB2 hL2 him r2 q x2 k42 k62 h2 b2 (by have:=hL.l0;omega) cok
theorem go1 {n m i off κ:Nat} {g:Nat→ByteArray} {ρ:Rho} (hB:Bs ρ n m g i) (hL:Lv ρ n off 1) (him:i≤m) (r:ρ.i 519=1) (hc:∀d,d<9→ρ.i (510+d)=ρ.i d) (q:i<m) (x:cdE.den ρ=0) (kn:κ<n) (k4:ρ.ci 505 0 off=κ) (k6:ρ.ci 509 0 off=κ):Go1 n m g 0 ρ:=by
 obtain⟨ρ5,H⟩:=last_ok ρ hB ⟨hB.t.f,hL.p.o,hL.p.l,r,hL.p.t,hL.p.on,k4,kn⟩ hL.d.o k6 hc
 have ag:=H.ag
 have hB5:Bs ρ5 n m g i:=hB.agree ag (by decide)
 have hL5:Lv ρ5 n off 1:=hL.agree ag (by decide)
 have r5:ρ5.i 519=1:=by rw[←ag.i 519 (by decide)];exact r
 have hc5:∀d,d<9→ρ5.i (510+d)=ρ5.i d:=fun d hd=>by rw[←ag.i (510+d) (by omega),←ag.i d (by omega)];exact hc d hd
 have x5:cdE.den ρ5=0:=by rw[show cdE.den ρ5=ρ5.ci 3 0 i from cl_i (e := .var 500) hB5.xi,←ag.ci 3 (by decide)];exact(cl_i (e := .var 500) hB.xi).symm.trans x
 have a3:Agree 532 ρ ρ5:=ag.le (by decide)
 rcases H.fd with⟨f1,f2⟩ | ⟨f0,f1,f2⟩
 ·rcases H.ls with⟨l1,l2⟩ | ⟨⟨l1,l2⟩,c,c1,c2,c3,c4,c5⟩
  ·exact goTNP hB a3 hB5 hL5 him r5 hc5 q x5 H f1 f2 l1 l2
  ·exact goTNQ hB a3 hB5 hL5 him r5 hc5 q x5 H f1 f2 l1 l2 c1 c2 c3 c4 c5
 ·rcases H.ls with⟨l1,l2⟩ | ⟨⟨l1,l2⟩,c,c1,c2,c3,c4,c5⟩
  ·exact goTRP hB a3 hB5 hL5 him r5 hc5 q x5 H f0 f1 f2 l1 l2
  ·exact goTRQ hB a3 hB5 hL5 him r5 hc5 q x5 H f0 f1 f2 l1 l2 c1 c2 c3 c4 c5
theorem go0 {n m i off len:Nat} {g:Nat→ByteArray} {ρ:Rho} (hB:Bs ρ n m g i) (hL:Lv ρ n off len) (him:i≤m):Go1 n m g 0 ρ:=by
 obtain⟨κ,kn,k4,k6,j4,j6⟩:=hL.key
 have l0:=hL.l0
 by_cases q:i<m
 ·by_cases c60:cdE.den ρ=60
  ·rcases hL.r with⟨r,hc⟩ | r
   ·exact goG1 hB hL him r hc q c60
   ·exact goG2 hB hL him r q c60
  ·by_cases c0:cdE.den ρ=0
   ·rcases hL.r with⟨r,hc⟩ | r
    ·by_cases l1:len=1
     ·subst l1;exact go1 hB hL him r hc q c0 kn j4 j6
     ·exact goW1 hB (Agree.refl _ _) hB hL him r hc q c0 k4 k6 (by omega)
    ·cases hs:hasE.den ρ with
     | true=>exact go3 hB hL him r q c0 k4 k6 hs
     | false =>
      by_cases l1:len=1
      ·exact goV2 hB (Agree.refl _ _) hB hL him r q c0 k4 k6 hs l1
      ·exact goW2 hB (Agree.refl _ _) hB hL him r q c0 k4 k6 hs (by omega)
   ·rcases hL.r with⟨r,hc⟩ | r
    ·exact goE1 hB hL him r hc q c60 c0
    ·exact goE2 hB hL him r q c60 c0
 ·rcases hL.r with⟨r,hc⟩ | r
  ·exact goL1 hB hL him r hc q
  ·exact goL2 hB hL him r q
theorem goX0 {n m i:Nat} {g:Nat→ByteArray} {ρ:Rho} (hB:Bs ρ n m g i) (hT:mnT n 0 ρ) (hi:i=m+1):Go1 n m g 0 ρ :=
 Go1.out hB hT (.inr (show mn_S0.bel 533=true by kernel_rfl)) fun ρ' e1 e2 b533 b534 b535=>mn_X0_end (cN_ok _) (LpsOk.nil _ _ _ _) (gt_ok hB hi e1 e2) (by
  unfold mn_out
  rw[T.sel,if_pos (show(BE.var 533).den ρ'=true from b533)]
  rfl)
theorem goX1 {n m i:Nat} {g:Nat→ByteArray} {ρ:Rho} (hB:Bs ρ n m g i) (hT:mnT n 1 ρ) (hi:i=m+1):Go1 n m g 1 ρ :=
 Go1.out hB hT (.inr (show mn_S1.bel 533=true by kernel_rfl)) fun ρ' e1 e2 b533 b534 b535=>mn_X1_end (cN_ok _) (LpsOk.nil _ _ _ _) (gt_ok hB hi e1 e2) (by
  unfold mn_out
  rw[T.sel,if_neg (show ¬(BE.var 533).den ρ'=true from by rw[show(BE.var 533).den ρ'=ρ'.b 533 from rfl,b533];decide)]
  rw[T.sel,if_pos (show(BE.var 534).den ρ'=true from b534)]
  rfl)
theorem goX2 {n m i:Nat} {g:Nat→ByteArray} {ρ:Rho} (hB:Bs ρ n m g i) (hT:mnT n 2 ρ) (hi:i=m+1):Go1 n m g 2 ρ :=
 Go1.out hB hT (.inr (show mn_S2.bel 533=true by kernel_rfl)) fun ρ' e1 e2 b533 b534 b535=>mn_X2_end (cN_ok _) (LpsOk.nil _ _ _ _) (gt_ok hB hi e1 e2) (by
  unfold mn_out
  rw[T.sel,if_neg (show ¬(BE.var 533).den ρ'=true from by rw[show(BE.var 533).den ρ'=ρ'.b 533 from rfl,b533];decide)]
  rw[T.sel,if_neg (show ¬(BE.var 534).den ρ'=true from by rw[show(BE.var 534).den ρ'=ρ'.b 534 from rfl,b534];decide)]
  rw[T.sel,if_pos (show(BE.var 535).den ρ'=true from b535)]
  rfl)
theorem goX3 {n m i:Nat} {g:Nat→ByteArray} {ρ:Rho} (hB:Bs ρ n m g i) (hT:mnT n 3 ρ) (hi:i=m+1):Go1 n m g 3 ρ :=
 Go1.out hB hT (.inr (show mn_S3.bel 533=true by kernel_rfl)) fun ρ' e1 e2 b533 b534 b535=>mn_X3_end (cN_ok _) (LpsOk.nil _ _ _ _) (gt_ok hB hi e1 e2) (by
  unfold mn_out
  rw[T.sel,if_neg (show ¬(BE.var 533).den ρ'=true from by rw[show(BE.var 533).den ρ'=ρ'.b 533 from rfl,b533];decide)]
  rw[T.sel,if_neg (show ¬(BE.var 534).den ρ'=true from by rw[show(BE.var 534).den ρ'=ρ'.b 534 from rfl,b534];decide)]
  rw[T.sel,if_neg (show ¬(BE.var 535).den ρ'=true from by rw[show(BE.var 535).den ρ'=ρ'.b 535 from rfl,b535];decide)]
  rfl)
theorem mn_ok (ρ:Rho) {n m:Nat} {g:Nat→ByteArray} (hT:TdB ρ n m g) (rv:rightV ρ) (l1:ρ.len 461=n) (c1:∀j,j<n→ρ.ci 461 0 j=j) (l2:ρ.len 472=n) (c2:∀x,x<n→ρ.ci 472 0 x=x) (z:∀x,x<n→rw_ ρ 473 ka x=zR):∃s ρf,Agree 500 ρ ρf∧mnQ n m g s ρf∧LoopOk Try.prog ρf Try.f4.ntmps mn_c mn:=by
 have a0:Agree 500 ρ (mn_I0.ap ρ):=Bind.agree mn_I0g ρ
 have n1:=hT.f.n1
 have e1:∀d,d<9→lassoc (510+d) mn_I0.i=some (.var d):=nine mn_I0_510 mn_I0_511 mn_I0_512 mn_I0_513 mn_I0_514 mn_I0_515 mn_I0_516 mn_I0_517 mn_I0_518
 have e2:∀d,d<9→lassoc (520+d) mn_I0.i=some (.var d):=nine mn_I0_520 mn_I0_521 mn_I0_522 mn_I0_523 mn_I0_524 mn_I0_525 mn_I0_526 mn_I0_527 mn_I0_528
 have k5:(mn_I0.ap ρ).len 505=n:=by rw[ap_len mn_I0_r505];show((ρ.len 461:Int)).toNat=_;rw[l1];omega
 have k9:(mn_I0.ap ρ).len 509=n:=by rw[ap_len mn_I0_r509];show((ρ.len 472:Int)).toNat=_;rw[l2];omega
 refine loopOk_famE (L:=mn) (N:=Try.f4.ntmps) (body:=mn_c) (P:=Try.prog) rfl mn_Eb mnS (mnK n m g) (mnQ n m g) (mnM m) (fun s ρ' hK => ?_)
  ⟨0,mn_I0.ap ρ,a0,⟨0,⟨hT.agree a0 (by decide),ap_i mn_I0_500,Nat.zero_le _,rv.agree a0 (by decide),fun x hx => ?_,fun d hd=>by rw[ap_i (e1 d hd),ap_i (e2 d hd)],by rw[ap_i mn_I0_519,ap_i mn_I0_529]⟩,0,n,⟨ap_i mn_I0_502,(ap_i mn_I0_503).trans (by show(ρ.len 461:Int)=_;rw[l1]),by rw[k5];omega,by omega⟩,⟨ap_i mn_I0_507,(ap_i mn_I0_508).trans (by show(ρ.len 472:Int)=_;rw[l2]),by rw[k9];omega,by omega⟩,fun y hy=>⟨y,by omega,by rw[ap_ci mn_I0_r505,row_i];exact c1 y (by omega),by rw[ap_ci mn_I0_r509,row_i];exact c2 y (by omega)⟩,n1,ap_b (show lassoc 530 mn_I0.b=some (.lit false)by kernel_rfl),ap_i mn_I0_531,.inl ⟨ap_i mn_I0_519,fun d hd=>by rw[ap_i (e1 d hd),←a0.i d (by omega)];rfl⟩⟩,fun E _ hE=>okS_imp hE mn_I0ok ρ⟩
 ·show Go1 n m g s ρ'
  obtain⟨i,hB,h⟩:=hK
  have him:=hB.im
  by_cases c:i=m+1
  ·match s,h with
   | 0,h=>exact goX0 hB h c
   | 1,h=>exact goX1 hB h c
   | 2,h=>exact goX2 hB h c
   | 3,h=>exact goX3 hB h c
   | s+4,h=>exact h.elim
  ·have him:i≤m:=by omega
   match s,h with
   | 0,⟨off,len,hL⟩=>exact go0 hB hL him
   | 1,⟨⟨off,len,hT⟩,h1,h2,h3⟩ =>
    by_cases q:i<m
    ·exact goZI hB him hT h1 h2 h3 q
    ·exact goZM hB him hT h1 h2 h3 q
   | 2,⟨⟨off,o2,hP,hD⟩,h1,h2⟩ =>
    by_cases q:i<m
    ·exact goDI hB him hP hD h1 h2 q
    ·exact goDM hB him hP hD h1 h2 q
   | 3,⟨⟨off,hP⟩,h1,h2⟩ =>
    by_cases q:i<m
    ·exact goDJ hB him hP h1 h2 q
    ·exact goDN hB him hP h1 h2 q
   | s+4,h=>exact h.elim
 ·exact row_z mn_I0_r504 mn_I0_r506 (z x hx)
end Go.Proofs.Ytdlifdoglhhnfaa
