/- Parts of the proof, one behind the other. -/
import Derived.Test.YtdlifdoglhhnfaaTM3
import Derived.Test.YtdlifdoglhhnfaaXwM3
import Derived.Test.YtdlifdoglhhnfaaTM1
namespace Go.Proofs.Ytdlifdoglhhnfaa
open Go Go.Proofs.Aw Go.Proofs.Xw Go.Proofs.Sr
set_option maxRecDepth 100000
theorem seq_t (ρ:Rho) (a b:TE):(BE.seq a b).den ρ=true↔a.den ρ=b.den ρ:=by
 show((a.den ρ).toList==(b.den ρ).toList)=true↔_
 rw[beq_iff_eq,ByteArray.toList_eq,ByteArray.toList_eq]
 constructor
 ·intro h
  generalize a.den ρ=u at h
  generalize b.den ρ=v at h
  cases u;cases v
  simp only[ByteArray.mk.injEq]
  exact Array.toList_inj.1 h
 ·intro h;rw[h]
theorem first_fail (P:Nat→Prop):∀n:Nat,¬P n→∃N,N≤n∧¬P N∧∀j,j<N→P j:=by
 intro n
 induction n using Nat.strongRecOn with
 | ind n ih =>
  intro h
  by_cases c:∀j,j<n→P j
  ·exact⟨n,Nat.le_refl _,h,c⟩
  ·obtain⟨m,hm⟩:=Classical.not_forall.1 c
   obtain⟨hm,hp⟩:=Classical.not_imp.1 hm
   obtain⟨N,h1,h2,h3⟩:=ih m hm hp
   exact⟨N,by omega,h2,h3⟩
theorem sel_need {α:Type} {ρ:Rho} {c:BE} {t:T α} {a:Option α} (h:c.den ρ=true) (k:t.sel ρ=a):(T.need c t).sel ρ=a:=by rw[T.sel,if_pos h];exact k
def roV (n:Nat) (g:Nat→ByteArray):AV := .ro 1 ((List.range n).map fun j=>[AV.sc (.string (g j))]) false
def muC:BE := .and (.lt (.var 410) (.len 2)) (.not (.lt (.lit 500) (.var 411)))
theorem mu_tree:∃c s1 s2,mu_t = .br muC (.ret (.normal,s1)) (.ret (.exit c,s2)):=⟨_,_,_,rfl⟩
theorem mu_cy (ρ:Rho) (hl:ρ.len 2<4611686018427387904):∃b:Bool,hasBody Try.prog 8=true∧∀k hp,CY Try.prog k 8 (X.denL ρ [kyR,anR]) hp (.sc (.bool b)) []:=by
 obtain⟨N,h1,h2,h3⟩:=first_fail (fun j=>muC.den (mu_b.it (mu_i.ap ρ) j)=true) (ρ.len 2) (by
  have cnt:=it_count (e := .lit 0) (I:=410) (β:=mu_b) rfl (ρ:=mu_i.ap ρ) (by rfl) (ρ.len 2) (by omega)
  have ag:=(Bind.agree mu_ig ρ).trans (Bind.it_agree mu_bg (mu_i.ap ρ) (ρ.len 2))
  unfold muC
  rw[dand_t,dlt_t]
  simp only[IE.den,cnt,←ag.len 2 (by decide)]
  omega)
 have hN:N<9223372036854775808:=by omega
 obtain⟨c,s1,s2,ht⟩:=mu_tree
 have L:LoopOk Try.prog (mu_b.it (mu_i.ap ρ) N) Try.f8.ntmps mu_c mu:=by
  refine loopOk_cntG mixed tis_ok mu_run mu_fits mu_back rfl 412 mu_bel mu_ib mu_bg mu_same (I:=410) rfl rfl (Φ0:=[]) rfl rfl (Facts.ok_nil _) mu_ig call0 (fun _=>LpsOk.nil _ _ _ _) N hN (fun j hj _ _=>⟨s1,?_⟩) (fun _ _=>⟨.exit c,s2,(fun h=>nomatch h),?_⟩)
  ·rw[ht,T.sel];exact(if_pos (h3 j hj)).trans rfl
  ·rw[ht,T.sel];exact(if_neg h2).trans rfl
 have ag:=(Bind.agree mu_ig ρ).trans (Bind.it_agree mu_bg (mu_i.ap ρ) N)
 generalize mu_b.it (mu_i.ap ρ) N=ρ1 at L ag h2
 have hr:muR = .need (.not muC) (.ret (.sc (.b (.lt (.lit 500) (.var 411))))):=rfl
 have q:=askF_ok (c:=⟨cfgL [] lpMu,l_able,[]⟩) (f:=8) (args:=[kyR,anR]) (Φ:=[]) (cfgL_ok (List.forall_mem_nil _) (lpMu_ok L)) l_able_ok (Facts.ok_nil ρ1) (r := .sc (.b (.lt (.lit 500) (.var 411)))) (by
  rw[muR_run,hr]
  exact sel_need (by rw[dnot_t];exact Bool.eq_false_iff.2 h2) rfl)
 rw[←X.belL_den ag [kyR,anR] (by kernel_rfl)]at q
 exact⟨_,q⟩
def rhoC (n:Nat) (g:Nat→ByteArray) (s:ByteArray):Rho:=⟨fun _=>n,fun _=>false,fun _=>s,fun _=>n,fun _ _ _=>0,fun _ _ _=>false,fun _ _ j=>g j⟩
theorem ix_den (n:Nat) (g:Nat→ByteArray) (s:ByteArray):X.denL (rhoC n g s) ixA=[roV n g,.sc (.string s)]:=by
 show [AV.ro 1 (rowsD (rhoC n g s) (.var 0) (.var 1 [.s])) false,_]=_
 unfold roV rowsD
 congr 1
def ixL:BE := .lt (.var 400) (.var 0)
def ixH:BE := .seq (.var 0) (.cl 1 0 (.var 400))
theorem ix_tree:∃c s1 s2 s3,ix_t = .br ixL (.br ixH (.ret (.ret,s1)) (.ret (.normal,s2))) (.ret (.exit c,s3)):=⟨_,_,_,_,rfl⟩
theorem ct_cy (n:Nat) (g:Nat→ByteArray) (s:ByteArray) (hn:n<4611686018427387904):∃b:Bool,(b=true↔∃j,j<n∧g j=s)∧hasBody Try.prog 53=true∧∀k hp,CY Try.prog k 53 [roV n g,.sc (.string s)] hp (.sc (.bool b)) []:=by
 have e0:=ix_den n g s
 generalize hρ:rhoC n g s=ρ at e0
 have h0:ρ.i 0=n:=by rw[←hρ];rfl
 have hs:ρ.s 0=s:=by rw[←hρ];rfl
 have hg:∀j,ρ.cs 1 0 j=g j:=by rw[←hρ];exact fun _=>rfl
 have cnt:=fun j hj=>it_count (e := .lit 0) (I:=400) (β:=ix_b) rfl (ρ:=ix_i.ap ρ) (by rfl) j hj
 have ag:=fun j=>(Bind.agree ix_ig ρ).trans (Bind.it_agree ix_bg (ix_i.ap ρ) j)
 have hL:∀j,j≤n→(ixL.den (ix_b.it (ix_i.ap ρ) j)=true↔j<n):=fun j hj=>by
  unfold ixL
  rw[dlt_t]
  simp only[IE.den,cnt j (by omega),←(ag j).i 0 (by decide),h0]
  omega
 have hH:∀j,j≤n→(ixH.den (ix_b.it (ix_i.ap ρ) j)=true↔g j=s):=fun j hj=>by
  unfold ixH
  rw[seq_t]
  show(ix_b.it (ix_i.ap ρ) j).s 0=(ix_b.it (ix_i.ap ρ) j).cs 1 0 ((ix_b.it (ix_i.ap ρ) j).i 400).toNat↔_
  rw[cnt j (by omega),Int.toNat_natCast,←(ag j).s 0 (by decide),←(ag j).cs 1 (by decide),hs,hg]
  exact eq_comm
 have fk:∀{ρ':Rho},ρ'.i 0=n→Facts.ok ρ' [(.lt (.var 0) (.lit 0),false)]:=fun h=>Facts.ok_cons (by rw[dlt_f];simp only[IE.den,h];omega) (Facts.ok_nil _)
 obtain⟨N,h1,h2,h3⟩:=first_fail (fun j=>j<n∧g j≠s) n (fun h=>by omega)
 obtain⟨c,s1,s2,s3,ht⟩:=ix_tree
 have L:LoopOk Try.prog (ix_b.it (ix_i.ap ρ) N) Try.f62.ntmps ix_c ix:=by
  refine loopOk_cntG mixed tis_ok ix_run ix_fits ix_back rfl 401 ix_bel ix_ib ix_bg ix_same (I:=400) rfl rfl (Φ0:=[(.lt (.var 0) (.lit 0),false)]) rfl (by kernel_rfl) (fk h0) ix_ig call0 (fun _=>LpsOk.nil _ _ _ _) N (by omega) (fun j hj _ _=>⟨s2,?_⟩) (fun _ _ => ?_)
  ·have:=h3 j hj
   rw[ht,T.sel]
   exact(if_pos ((hL j (by omega)).2 this.1)).trans (by rw[T.sel];exact(if_neg (fun k=>this.2 ((hH j (by omega)).1 k))).trans rfl)
  ·by_cases hlt:N<n
   ·refine⟨.ret,s1,(fun h=>nomatch h),?_⟩
    have hh:g N=s:=Classical.byContradiction fun k=>h2 ⟨hlt,k⟩
    rw[ht,T.sel]
    exact(if_pos ((hL N (by omega)).2 hlt)).trans (by rw[T.sel];exact(if_pos ((hH N (by omega)).2 hh)).trans rfl)
   ·refine⟨.exit c,s3,(fun h=>nomatch h),?_⟩
    rw[ht,T.sel]
    exact(if_neg (fun k=>hlt ((hL N (by omega)).1 k))).trans rfl
 have lN:=hL N (by omega)
 have hN:=hH N (by omega)
 have c1:=cnt N (by omega)
 have ag:=ag N
 generalize ix_b.it (ix_i.ap ρ) N=ρ1 at L ag lN hN c1
 have i0:ρ1.i 0=n:=by rw[←ag.i 0 (by decide),h0]
 have hr:ctR = .need (.or (.not ixL) ixH) (.ret (.sc (.b (.not (.or (.not ixL) (.lt (.var 400) (.lit 0))))))):=rfl
 have nd:(BE.or (.not ixL) ixH).den ρ1=true:=by
  rw[dor_t,dnot_t]
  by_cases hlt:N<n
  ·exact .inr (hN.2 (Classical.byContradiction fun k=>h2 ⟨hlt,k⟩))
  ·exact .inl (Bool.eq_false_iff.2 (fun k=>hlt (lN.1 k)))
 have q:=askF_ok (c:=⟨cfgL [] lpIx,l_able,[]⟩) (f:=53) (args:=ixA) (Φ:=[(.lt (.var 0) (.lit 0),false)]) (cfgL_ok (List.forall_mem_nil _) (lpIx_ok L)) l_able_ok (fk i0) (by
  rw[ctR_run,hr]
  exact sel_need nd rfl)
 rw[←X.belL_den ag ixA (by kernel_rfl),e0]at q
 refine⟨_,?_,q⟩
 show(BE.not (.or (.not ixL) (.lt (.var 400) (.lit 0)))).den ρ1=true↔_
 rw[dnot_t,dor_f,dnot_f,dlt_f]
 constructor
 ·rintro⟨k,_⟩
  exact⟨N,lN.1 k,Classical.byContradiction fun e=>h2 ⟨lN.1 k,e⟩⟩
 ·rintro⟨j,hj,e⟩
  have hlt:N<n:=by
   rcases Nat.lt_or_ge N n with h | h
   ·exact h
   ·exact absurd e (h3 j (by omega)).2
  exact⟨lN.2 hlt,by simp only[IE.den,c1];omega⟩
end Go.Proofs.Ytdlifdoglhhnfaa
namespace Go.Proofs.Ytdlifdoglhhnfaa
open Go Go.Proofs.Aw Go.Proofs.Xw Go.Proofs.Sr
set_option maxRecDepth 100000
theorem fam_goU {N k0 n:Nat} {body:Code} {S U:XS} {ks ms hf:List Nat} {lps:List LoopX} {ρ ρ1:Rho} {c:Cfg} {Φ:Facts} {t:T (XE×XS)} {s:XS} {β:Bind} {nm:List (Nm×Nm)} (hfit:fitsC N body=true) (hd:S.den ρ=S.den ρ1) (cok:CfgOk Try.prog ρ1 c) (hl:LpsOk Try.prog ρ1 N lps body) (hk:Facts.ok ρ1 Φ)
  (hrun:(codeX c.ti (callS ⟨c,l_able,hf⟩ 12) ms k0 lps 1000 body Φ S).map (sqz ks)=t) (hs:t.sel ρ1=some (.normal,s)) (hok:okS k0 n β nm U s=true):StepF Try.prog N body k0 S U ρ (β.ap ρ1) :=
 StepF.from hd (stepF_of mixed cok.ti (callS_ok (c:=⟨c,l_able,hf⟩) cok l_able_ok 12) hl hfit hk rfl (by rw[hrun];exact hs) hok)
theorem fam_endU {N k0:Nat} {body:Code} {S:XS} {ks ms hf:List Nat} {lps:List LoopX} {ρ:Rho} {c:Cfg} {Φ:Facts} {t out:T (XE×XS)} {e:XE} {s s':XS} (hfit:fitsC N body=true) (cok:CfgOk Try.prog ρ c) (hl:LpsOk Try.prog ρ N lps body) (hk:Facts.ok ρ Φ)
  (hrun:(codeX c.ti (callS ⟨c,l_able,hf⟩ 12) ms k0 lps 1000 body Φ S).map (sqz ks)=t) (hs:t.sel ρ=some (e,s)) (he:e ≠ .normal) (ho:out.sel ρ=some (e,s')) (hi:okS k0 1000 noB [] s' s=true):EndL Try.prog N body k0 S out ρ :=
 endF_of mixed cok.ti (callS_ok (c:=⟨c,l_able,hf⟩) cok l_able_ok 12) hl hfit hk rfl he (by rw[hrun];exact hs) ⟨s',ho,fun E hb=>okS_imp hb hi ρ⟩
theorem cN_ok (ρ:Rho):CfgOk Try.prog ρ (cfgL [] (fun _=>[])):=cfgL_ok (List.forall_mem_nil _) (fun _ _ _=>LpsOk.nil _ _ _ _)
theorem cK_ok {ρ:Rho} {ks:List (Nat×List X×X)} (h:∀p∈ks,hasBody Try.prog p.1=true∧∀n h,CY Try.prog n p.1 (X.denL ρ p.2.1) h (p.2.2.den ρ) []):CfgOk Try.prog ρ (cfgL ks (fun _=>[])):=cfgL_ok h (fun _ _ _=>LpsOk.nil _ _ _ _)
end Go.Proofs.Ytdlifdoglhhnfaa
namespace Go.Proofs.Ytdlifdoglhhnfaa
open Go Go.Proofs.Aw Go.Proofs.Xw
set_option maxRecDepth 100000
def rgI:List (BE×Bool):=[(.lt (.var 440) (.lit 0),false)]
def kyI:X := .sc (.s (.cl 2 0 (.var 440)))
def ksR:List (Nat×List X×X):=[(53,[.rl 1 (.var 440) (.var 2 [.s]) false,kyI],.sc (.b (.var 441)))]
def szI:IE := .slen (.cl 2 0 (.var 440))
def inI:BE := .lt (.var 440) (.len 2)
noncomputable def rg_c:Code:=(loopsOf (Try.f32.body.getD .skip))[0]?.getD .skip
theorem rg_fits:fitsC Try.f32.ntmps rg_c=true:=by kernel_rfl
abbrev zTM4_0:X := .sc (.i .i64 (.len 2))
abbrev zTM4_1:X := .rl 1 (.len 2) (.var 2 [.s]) false
abbrev zTM4_2:X := .sc (.b (.lit false))
abbrev zTM4_3:XTp:=[(7,(.sc (.i .i64 (.var 440)))),(6,zTM4_0),(5,zTM4_1),(2,zTM4_2),(0,zTM4_1)]
abbrev zTM4_4:BE := .and (.not (.lt (.var 552) (.lit 0))) (.lt (.var 552) (.lit 3))
abbrev zTM4_5:BE := .eq (.var 552) (.lit 0)
abbrev zTM4_6:BE := .eq (.var 552) (.lit 1)
abbrev zTM4_7:IE := .cl 3 2 (.var 500)
abbrev zTM4_8:IE := .cl 3 3 (.var 500)
abbrev zTM4_9:BE := .and (.and (.and (.not (.lt zTM4_7 (.lit 0))) (.lt zTM4_7 (.lit 3))) (.not (.lt zTM4_8 (.lit 0)))) (.lt zTM4_8 (.lit 3))
abbrev zTM4_10:BE := .eq zTM4_7 (.lit 0)
abbrev zTM4_11:BE := .eq zTM4_8 (.lit 0)
abbrev zTM4_12:BE := .and zTM4_10 zTM4_11
abbrev zTM4_13:IE := .op .max .i64 (.lit 0) (.cl 3 11 (.var 500))
abbrev zTM4_14:BE := .eq zTM4_8 (.lit 1)
abbrev zTM4_15:BE := .and zTM4_10 zTM4_14
abbrev zTM4_16:IE := .op .max .i64 (.lit 0) (.cl 3 12 (.var 500))
abbrev zTM4_17:IE := .op .max .i64 (.lit 0) (.cl 3 13 (.var 500))
abbrev zTM4_18:BE := .eq zTM4_7 (.lit 1)
abbrev zTM4_19:BE := .and zTM4_18 zTM4_11
abbrev zTM4_20:IE := .op .max .i64 (.lit 0) (.cl 3 14 (.var 500))
abbrev zTM4_21:BE := .and zTM4_18 zTM4_14
abbrev zTM4_22:IE := .op .max .i64 (.lit 0) (.cl 3 15 (.var 500))
abbrev zTM4_23:IE := .op .max .i64 (.lit 0) (.cl 3 16 (.var 500))
abbrev zTM4_24:IE := .op .max .i64 (.lit 0) (.cl 3 17 (.var 500))
abbrev zTM4_25:IE := .op .max .i64 (.lit 0) (.cl 3 18 (.var 500))
abbrev zTM4_26:IE := .op .max .i64 (.lit 0) (.cl 3 19 (.var 500))
abbrev zTM4_27:IE := .op .max .i64 (.ite zTM4_12 zTM4_13 (.ite zTM4_15 zTM4_16 (.ite zTM4_10 zTM4_17 (.ite zTM4_19 zTM4_20 (.ite zTM4_21 zTM4_22 (.ite zTM4_18 zTM4_23 (.ite zTM4_11 zTM4_24 (.ite zTM4_14 zTM4_25 zTM4_26)))))))) (.cl 3 4 (.var 500))
abbrev zTM4_28:IE := .lit 1099511627776
def rg_E:XS:=⟨[(7,(.sc (.i .i64 (.lit 0)))),(6,zTM4_0),(5,zTM4_1),(2,zTM4_2),(0,zTM4_1)],[],4⟩
def rg_ks:List Nat:=[7,6,5,2,0]
theorem rg_Eb:rg_E.bel 440=true:=by kernel_rfl
def rg_S0:XS:=⟨zTM4_3,[],4⟩
def rg_I0:Bind:=⟨[(440,(.lit 0))],[],[],[]⟩
theorem rg_I0ok:okS 0 440 rg_I0 [] rg_S0 rg_E=true:=by kernel_rfl
theorem rg_I0g:rg_I0.ge 440=true:=by kernel_rfl
theorem rg_I0_440:lassoc 440 rg_I0.i=some (.lit 0):=by kernel_rfl
def rg_G_s:XS:=⟨[(7,(.sc (.i .i64 (.op .add .i64 (.var 440) (.lit 1))))),(6,zTM4_0),(5,zTM4_1),(2,zTM4_2),(0,zTM4_1)],[],27⟩
def rg_G_r:T (XE×XS):=(.ret (.normal,rg_G_s))
theorem rg_G_run:(codeX (cfgL ksR (fun _=>[])).ti (callS ⟨(cfgL ksR (fun _=>[])),l_able,[]⟩ 12) (((cfgL ksR (fun _=>[])).ft 32).elim [] (·.ms)) 0 ([]) 1000 rg_c ((inI,true)::(.lt szI (.lit 1),false)::(.lt (.lit 16) szI,false)::(.var 441,false)::rgI) rg_S0).map (sqz rg_ks)=rg_G_r:=by kernel_rfl
def rg_G_b:Bind:=⟨[(440,(.op .add .i64 (.var 440) (.lit 1)))],[],[],[]⟩
theorem rg_G_ok:okS 0 440 rg_G_b [] rg_S0 rg_G_s=true:=by kernel_rfl
theorem rg_G_g:rg_G_b.ge 440=true:=by kernel_rfl
theorem rg_G_step {ρ ρ1:Rho} (hd:rg_S0.den ρ=rg_S0.den ρ1) (cok:CfgOk Try.prog ρ1 (cfgL ksR (fun _=>[]))) (hl:LpsOk Try.prog ρ1 Try.f32.ntmps ([]) rg_c) (hk:Facts.ok ρ1 ((inI,true)::(.lt szI (.lit 1),false)::(.lt (.lit 16) szI,false)::(.var 441,false)::rgI)):StepF Try.prog Try.f32.ntmps rg_c 0 rg_S0 rg_S0 ρ (rg_G_b.ap ρ1) :=
 fam_goU rg_fits hd cok hl hk rg_G_run rfl rg_G_ok
theorem rg_G_440:lassoc 440 rg_G_b.i=some (.op .add .i64 (.var 440) (.lit 1)):=by kernel_rfl
def rg_A_s:XS:=⟨zTM4_3,[],18⟩
def rg_A_r:T (XE×XS):=(.ret (.ret,rg_A_s))
theorem rg_A_run:(codeX (cfgL [] (fun _=>[])).ti (callS ⟨(cfgL [] (fun _=>[])),l_able,[]⟩ 12) (((cfgL [] (fun _=>[])).ft 32).elim [] (·.ms)) 0 ([]) 1000 rg_c ((inI,true)::(.lt szI (.lit 1),true)::rgI) rg_S0).map (sqz rg_ks)=rg_A_r:=by kernel_rfl
def rg_B_s:XS:=⟨zTM4_3,[],21⟩
def rg_B_r:T (XE×XS):=(.ret (.ret,rg_B_s))
theorem rg_B_run:(codeX (cfgL [] (fun _=>[])).ti (callS ⟨(cfgL [] (fun _=>[])),l_able,[]⟩ 12) (((cfgL [] (fun _=>[])).ft 32).elim [] (·.ms)) 0 ([]) 1000 rg_c ((inI,true)::(.lt szI (.lit 1),false)::(.lt (.lit 16) szI,true)::rgI) rg_S0).map (sqz rg_ks)=rg_B_r:=by kernel_rfl
def rg_D_s:XS:=⟨zTM4_3,[],26⟩
def rg_D_r:T (XE×XS):=(.ret (.ret,rg_D_s))
theorem rg_D_run:(codeX (cfgL ksR (fun _=>[])).ti (callS ⟨(cfgL ksR (fun _=>[])),l_able,[]⟩ 12) (((cfgL ksR (fun _=>[])).ft 32).elim [] (·.ms)) 0 ([]) 1000 rg_c ((inI,true)::(.lt szI (.lit 1),false)::(.lt (.lit 16) szI,false)::(.var 441,true)::rgI) rg_S0).map (sqz rg_ks)=rg_D_r:=by kernel_rfl
def rg_X_s:XS:=⟨zTM4_3,[],5⟩
def rg_X_r:T (XE×XS):=(.ret ((.exit 0),rg_X_s))
theorem rg_X_run:(codeX (cfgL [] (fun _=>[])).ti (callS ⟨(cfgL [] (fun _=>[])),l_able,[]⟩ 12) (((cfgL [] (fun _=>[])).ft 32).elim [] (·.ms)) 0 ([]) 1000 rg_c ((inI,false)::rgI) rg_S0).map (sqz rg_ks)=rg_X_r:=by kernel_rfl
def rg_out:T (XE×XS):=(.br (.var 442) (.ret (.ret,rg_A_s)) (.ret ((.exit 0),rg_X_s)))
noncomputable def rg:LoopX:=⟨((codeKey rg_c).getD 0),0,440,rg_E,noB,[],rg_out⟩
theorem rg_A_end {ρ1:Rho} (cok:CfgOk Try.prog ρ1 (cfgL [] (fun _=>[]))) (hl:LpsOk Try.prog ρ1 Try.f32.ntmps ([]) rg_c) (hk:Facts.ok ρ1 ((inI,true)::(.lt szI (.lit 1),true)::rgI)) (ho:rg_out.sel ρ1=some (.ret,rg_A_s)):EndL Try.prog Try.f32.ntmps rg_c 0 rg_S0 rg_out ρ1 :=
 fam_endU rg_fits cok hl hk rg_A_run rfl (fun h=>nomatch h) ho (by kernel_rfl)
theorem rg_B_end {ρ1:Rho} (cok:CfgOk Try.prog ρ1 (cfgL [] (fun _=>[]))) (hl:LpsOk Try.prog ρ1 Try.f32.ntmps ([]) rg_c) (hk:Facts.ok ρ1 ((inI,true)::(.lt szI (.lit 1),false)::(.lt (.lit 16) szI,true)::rgI)) (ho:rg_out.sel ρ1=some (.ret,rg_A_s)):EndL Try.prog Try.f32.ntmps rg_c 0 rg_S0 rg_out ρ1 :=
 fam_endU rg_fits cok hl hk rg_B_run rfl (fun h=>nomatch h) ho (by kernel_rfl)
theorem rg_D_end {ρ1:Rho} (cok:CfgOk Try.prog ρ1 (cfgL ksR (fun _=>[]))) (hl:LpsOk Try.prog ρ1 Try.f32.ntmps ([]) rg_c) (hk:Facts.ok ρ1 ((inI,true)::(.lt szI (.lit 1),false)::(.lt (.lit 16) szI,false)::(.var 441,true)::rgI)) (ho:rg_out.sel ρ1=some (.ret,rg_A_s)):EndL Try.prog Try.f32.ntmps rg_c 0 rg_S0 rg_out ρ1 :=
 fam_endU rg_fits cok hl hk rg_D_run rfl (fun h=>nomatch h) ho (by kernel_rfl)
theorem rg_X_end {ρ1:Rho} (cok:CfgOk Try.prog ρ1 (cfgL [] (fun _=>[]))) (hl:LpsOk Try.prog ρ1 Try.f32.ntmps ([]) rg_c) (hk:Facts.ok ρ1 ((inI,false)::rgI)) (ho:rg_out.sel ρ1=some ((.exit 0),rg_X_s)):EndL Try.prog Try.f32.ntmps rg_c 0 rg_S0 rg_out ρ1 :=
 fam_endU rg_fits cok hl hk rg_X_run rfl (fun h=>nomatch h) ho (by kernel_rfl)
end Go.Proofs.Ytdlifdoglhhnfaa
namespace Go.Proofs.Ytdlifdoglhhnfaa
open Go Go.Proofs.Aw Go.Proofs.Xw
noncomputable def lpRg (f:Nat):List LoopX:=if Nat.beq f 32=true then [rg]else []
theorem lpRg_32o:othersB [rg] [0] 0 (loopsOf (Try.f32.body.getD .skip))=true:=by kernel_rfl
theorem lpRg_32 {ρ:Rho} (h_rg:LoopOk Try.prog ρ Try.f32.ntmps rg_c rg):LpsOk Try.prog ρ Try.f32.ntmps [rg] (Try.f32.body.getD .skip) :=
 lps_idx [0] lpRg_32o (List.forall_mem_cons.2 ⟨look_list (c:=rg_c) (Ls:=[rg]) (by kernel_rfl) (List.forall_mem_cons.2 ⟨h_rg,List.forall_mem_nil _⟩),List.forall_mem_nil _⟩)
theorem lpRg_ok {ρ:Rho} (h_rg:LoopOk Try.prog ρ Try.f32.ntmps rg_c rg):∀f i,btLook f ftsT=some i→LpsOk Try.prog ρ i.ntmps (lpRg f) i.body:=by
 intro f i h
 have hi:=fts_ok (f,i) (bt_of_mem _ _ (btLook_mem h))
 unfold lpRg
 split
 ·rename_i hf
  have hf:=Nat.eq_of_beq_eq_true hf
  subst hf
  exact lps_row hi Try.func32 (lpRg_32 h_rg)
 ·exact LpsOk.nil _ _ _ _
def rgR:T X:=(.ret (.sc (.b (.and (.not (.var 442)) (.and (.not (.lt (.len 2) (.lit 1))) (.not (.lt (.lit 6) (.len 2))))))))
theorem rgR_run:askF ⟨cfgL [] lpRg,l_able,[]⟩ 32 ([kyR]) []=rgR:=by kernel_rfl
end Go.Proofs.Ytdlifdoglhhnfaa
namespace Go.Proofs.Ytdlifdoglhhnfaa
open Go Go.Proofs.Aw Go.Proofs.Xw Go.Proofs.Sr
set_option maxRecDepth 100000
theorem ky_den (ρ:Rho):X.den ρ kyR=roV (ρ.len 2) (stR ρ 2):=by
 show AV.ro 1 (rowsD ρ (.len 2) (.var 2 [.s])) false=_
 unfold roV rowsD
 simp only[IE.den,Int.toNat_natCast]
 congr 1
def fitK (g:Nat→ByteArray) (i:Nat):Prop:=(1≤(g i).size∧(g i).size≤16)∧∀j,j<i→g j≠g i
def RgR (n:Nat) (g:Nat→ByteArray) (ρ:Rho):Prop:=ρ.len 2=n∧stR ρ 2=g∧∃i:Nat,ρ.i 440=i∧i≤n∧∀j,j<i→fitK g j
theorem sl_den {ρ:Rho} {e:IE} {n:Nat} (h:e.den ρ=n):(TE.cl 2 0 e).den ρ=stR ρ 2 n:=by
 show ρ.cs 2 0 (e.den ρ).toNat=_
 rw[h,Int.toNat_natCast];rfl
theorem rg_ok (ρ:Rho) (n:Nat) (g:Nat→ByteArray) (hn:n<4611686018427387904) (hl:ρ.len 2=n) (hg:stR ρ 2=g):∃ρf,Agree 440 ρ ρf∧(ρf.b 442=true↔¬∀j,j<n→fitK g j)∧LoopOk Try.prog ρf Try.f32.ntmps rg_c rg:=by
 suffices hh:∃(_:Nat) (ρf:Rho),Agree rg.n ρ ρf∧(ρf.b 442=true↔¬∀j,j<n→fitK g j)∧LoopOk Try.prog ρf Try.f32.ntmps rg_c rg by
  obtain⟨_,ρf,h1,h2,h3⟩:=hh
  exact⟨ρf,h1,h2,h3⟩
 have a0:=Bind.agree rg_I0g ρ
 refine loopOk_famE (L:=rg) (N:=Try.f32.ntmps) (body:=rg_c) (P:=Try.prog) rfl rg_Eb (fun _=>rg_S0) (fun _=>RgR n g) (fun _ ρ'=>ρ'.b 442=true↔¬∀j,j<n→fitK g j) (fun _ ρ'=>(n-ρ'.i 440).toNat) ?_
  ⟨0,rg_I0.ap ρ,a0,⟨by rw[←a0.len 2 (by decide)];exact hl,by rw[agree_st a0 (by decide)];exact hg,0,ap_i rg_I0_440,Nat.zero_le _,fun j hj=>absurd hj (by omega)⟩,fun E _ hE=>okS_imp hE rg_I0ok ρ⟩
 rintro _ ρ' ⟨h1,h2,i,hi,hin,hf⟩
 have mk:∀(b c:Bool),∃ρ1:Rho,Agree 440 ρ' ρ1∧ρ1.i=ρ'.i∧ρ1.b 441=b∧ρ1.b 442=c∧rg_S0.den ρ'=rg_S0.den ρ1:=fun b c=>by
  let ρ1:Rho:={ ρ' with b:=fun k=>if k=441 then b else if k=442 then c else ρ'.b k }
  have ag:Agree 441 ρ' ρ1:=⟨fun _ _=>rfl,fun k hk=>by show _=if k=441 then _ else _;rw[if_neg (by omega),if_neg (by omega)],fun _ _=>rfl,fun _ _=>rfl,fun _ _=>rfl,fun _ _=>rfl,fun _ _=>rfl⟩
  exact⟨ρ1,ag.le (by decide),rfl,rfl,rfl,XS.bel_den ag rg_S0 (by kernel_rfl)⟩
 have lt:∀{ρ1:Rho},Agree 440 ρ' ρ1→ρ1.i=ρ'.i→(inI.den ρ1=decide (i<n)):=fun {ρ1} ag e=>by
  show decide (ρ1.i 440<(ρ1.len 2:Int))=_
  rw[e,hi,←ag.len 2 (by decide),h1]
  exact decide_eq_decide.2 (by omega)
 have sz:∀{ρ1:Rho},Agree 440 ρ' ρ1→ρ1.i=ρ'.i→szI.den ρ1=(g i).size:=fun {ρ1} ag e=>by
  show(((TE.cl 2 0 (.var 440)).den ρ1).size:Int)=_
  rw[sl_den (n:=i) (by show ρ1.i 440=_;rw[e,hi]),agree_st ag (by decide),h2]
 have f0:∀{ρ1:Rho},ρ1.i=ρ'.i→Facts.ok ρ1 rgI:=fun {ρ1} e=>Facts.ok_cons (by rw[dlt_f];show 0≤ρ1.i 440;rw[e,hi];omega) (Facts.ok_nil _)
 by_cases c:i<n
 ·by_cases z1:(g i).size<1
  ·obtain⟨ρ1,ag,e,e1,e2,e3⟩:=mk false true
   refine .inl ⟨ρ1,ag,⟨fun _ h=>absurd (h i c).1.1 (by omega),fun _=>e2⟩,e3,?_⟩
   exact rg_A_end (cN_ok _) (LpsOk.nil _ _ _ _) (Facts.ok_cons (by rw[lt ag e];exact decide_eq_true c) (Facts.ok_cons (by rw[dlt_t,sz ag e];simp only[IE.den];omega) (f0 e))) (by unfold rg_out;rw[T.sel,if_pos (show(BE.var 442).den ρ1=true from e2)];rfl)
  ·by_cases z2:16<(g i).size
   ·obtain⟨ρ1,ag,e,e1,e2,e3⟩:=mk false true
    refine .inl ⟨ρ1,ag,⟨fun _ h=>absurd (h i c).1.2 (by omega),fun _=>e2⟩,e3,?_⟩
    exact rg_B_end (cN_ok _) (LpsOk.nil _ _ _ _) (Facts.ok_cons (by rw[lt ag e];exact decide_eq_true c) (Facts.ok_cons (by rw[dlt_f,sz ag e];simp only[IE.den];omega) (Facts.ok_cons (by rw[dlt_t,sz ag e];simp only[IE.den];omega) (f0 e)))) (by unfold rg_out;rw[T.sel,if_pos (show(BE.var 442).den ρ1=true from e2)];rfl)
   ·obtain⟨b,hb,hcy⟩:=ct_cy i g (g i) (by omega)
    obtain⟨ρ1,ag,e,e1,e2,e3⟩:=mk b b
    have cok:CfgOk Try.prog ρ1 (cfgL ksR (fun _=>[])):=cK_ok (List.forall_mem_cons.2 ⟨⟨hcy.1,fun m hp=>by
     show CY Try.prog m 53 (X.denL ρ1 [.rl 1 (.var 440) (.var 2 [.s]) false,kyI]) hp (X.den ρ1 (.sc (.b (.var 441)))) []
     have q1:X.den ρ1 (.rl 1 (.var 440) (.var 2 [.s]) false)=roV i g:=by
      show AV.ro 1 (rowsD ρ1 (.var 440) (.var 2 [.s])) false=_
      unfold roV rowsD
      simp only[IE.den,e,hi,Int.toNat_natCast]
      rw[←h2,←agree_st ag (by decide)]
      congr 1
     have q2:X.den ρ1 kyI = .sc (.string (g i)):=by
      simp only[kyI,X.den,Sc.den]
      rw[sl_den (n:=i) (by show ρ1.i 440=_;rw[e,hi]),agree_st ag (by decide),h2]
     simp only[X.denL]
     rw[q1,q2,show X.den ρ1 (.sc (.b (.var 441))) = .sc (.bool b)from by simp only[X.den,Sc.den,BE.den,e1]]
     exact hcy.2 m hp⟩,List.forall_mem_nil _⟩)
    have fs:Facts.ok ρ1 ((.lt szI (.lit 1),false)::(.lt (.lit 16) szI,false)::(.var 441,b)::rgI) :=
     Facts.ok_cons (by rw[dlt_f,sz ag e];simp only[IE.den];omega) (Facts.ok_cons (by rw[dlt_f,sz ag e];simp only[IE.den];omega) (Facts.ok_cons e1 (f0 e)))
    cases b with
    | true =>
     obtain⟨j,hj,hji⟩:=hb.1 rfl
     refine .inl ⟨ρ1,ag,⟨fun _ h=>(h i c).2 j hj hji,fun _=>e2⟩,e3,?_⟩
     exact rg_D_end cok (LpsOk.nil _ _ _ _) (Facts.ok_cons (by rw[lt ag e];exact decide_eq_true c) fs) (by unfold rg_out;rw[T.sel,if_pos (show(BE.var 442).den ρ1=true from e2)];rfl)
    | false =>
     refine .inr ⟨0,rg_G_b.ap ρ1,rg_G_step e3 cok (LpsOk.nil _ _ _ _) (Facts.ok_cons (by rw[lt ag e];exact decide_eq_true c) fs),?_⟩
     have ag2:Agree 440 ρ' (rg_G_b.ap ρ1):=ag.trans (Bind.agree rg_G_g _)
     have e4:(rg_G_b.ap ρ1).i 440=((i+1:Nat):Int):=(ap_i rg_G_440).trans (by
      show IOp.den .add .i64 (ρ1.i 440) 1=_
      rw[e,hi];simp only[IOp.den];rw[wrap_id _ (by omega) (by omega)];omega)
     refine⟨⟨by rw[←ag2.len 2 (by decide)];exact h1,by rw[agree_st ag2 (by decide)];exact h2,i+1,e4,c,fun j hj => ?_⟩,?_,ag2⟩
     ·by_cases q:j=i
      ·subst q
       exact⟨⟨by omega,by omega⟩,fun k hk hkj=>absurd (hb.2 ⟨k,hk,hkj⟩) (by simp)⟩
      ·exact hf j (by omega)
     ·show(_:Int).toNat<(_:Int).toNat
      rw[e4,hi];omega
 ·obtain⟨ρ1,ag,e,e1,e2,e3⟩:=mk false false
  refine .inl ⟨ρ1,ag,⟨fun h=>(by rw[e2]at h;cases h),fun h=>absurd (fun j hj=>hf j (by omega)) h⟩,e3,?_⟩
  exact rg_X_end (cN_ok _) (LpsOk.nil _ _ _ _) (Facts.ok_cons (by rw[lt ag e];exact decide_eq_false c) (f0 e)) (by unfold rg_out;rw[T.sel,if_neg (by rw[show(BE.var 442).den ρ1=ρ1.b 442 from rfl,e2];decide)];rfl)
theorem right_cy (ρ:Rho) (n:Nat) (g:Nat→ByteArray) (hn:n<4611686018427387904) (hl:ρ.len 2=n) (hg:stR ρ 2=g):∃b:Bool,(b=true↔(∀j,j<n→fitK g j)∧1≤n∧n≤6)∧hasBody Try.prog 32=true∧∀k hp,CY Try.prog k 32 [roV n g] hp (.sc (.bool b)) []:=by
 obtain⟨ρ1,ag,hb,L⟩:=rg_ok ρ n g hn hl hg
 have l1:ρ1.len 2=n:=by rw[←ag.len 2 (by decide)];exact hl
 have q:=askF_ok (c:=⟨cfgL [] lpRg,l_able,[]⟩) (f:=32) (args:=[kyR]) (Φ:=[]) (cfgL_ok (List.forall_mem_nil _) (lpRg_ok L)) l_able_ok (Facts.ok_nil ρ1) (by rw[rgR_run];exact rfl)
 rw[←X.belL_den ag [kyR] (by kernel_rfl)]at q
 rw[show X.denL ρ [kyR]=[roV n g]from by simp only[X.denL,ky_den,hl,hg]]at q
 refine⟨_,?_,q⟩
 show(BE.and (.not (.var 442)) (.and (.not (.lt (.len 2) (.lit 1))) (.not (.lt (.lit 6) (.len 2))))).den ρ1=true↔_
 rw[dand_t,dand_t,dnot_t,dnot_t,dnot_t,dlt_f,dlt_f]
 simp only[IE.den,l1]
 have hb':(BE.var 442).den ρ1=false↔∀j,j<n→fitK g j:=by
  show ρ1.b 442=false↔_
  constructor
  ·intro h
   exact Classical.byContradiction fun k=>by rw[hb.2 k]at h;cases h
  ·intro h
   exact Bool.eq_false_iff.2 fun k=>hb.1 k h
 rw[hb']
 constructor
 ·rintro⟨a,b,c⟩;exact⟨a,by omega,by omega⟩
 ·rintro⟨a,b,c⟩;exact⟨a,by omega,by omega⟩
end Go.Proofs.Ytdlifdoglhhnfaa
namespace Go.Proofs.Ytdlifdoglhhnfaa
open Go Go.Proofs.Aw Go.Proofs.Xw
def enC (l:Nat) (i:IE):List X:=(List.range 6).map (fun k => .sc (.i .i64 (.cl l (2+k) i)))++[.sc (.s (.cl l 8 i)),.sc (.s (.cl l 9 i)),.sc (.b (.cl l 10 i))]++(List.range 11).map (fun k => .sc (.i .i64 (.cl l (11+k) i)))
def ptR:T X:=(.ret (.agg [(.sc (.i .i64 (.ite zTM4_4 (.ite zTM4_5 (.var 532) (.ite zTM4_6 (.var 533) (.var 534))) (.lit 0)))),(.sc (.i .i64 (.ite zTM4_4 (.ite zTM4_5 (.var 535) (.ite zTM4_6 (.var 536) (.var 537))) (.lit 0)))),(.sc (.i .i64 (.ite zTM4_4 (.ite zTM4_5 (.var 538) (.ite zTM4_6 (.var 539) (.var 540))) (.lit 0))))]))
theorem ptR_run:askF ⟨cfgL [] (fun _=>[]),l_able,[]⟩ 19 ([.agg (vi 532 9),iV 552]) []=ptR:=by kernel_rfl
def psR:T X:=(.ret (.agg [(.sc (.i .i64 (.ite zTM4_9 (.ite zTM4_12 zTM4_27 zTM4_13) zTM4_13))),(.sc (.i .i64 (.ite zTM4_9 (.ite zTM4_12 zTM4_16 (.ite zTM4_15 zTM4_27 zTM4_16)) zTM4_16))),(.sc (.i .i64 (.ite zTM4_9 (.ite zTM4_12 zTM4_17 (.ite zTM4_15 zTM4_17 (.ite zTM4_10 zTM4_27 zTM4_17))) zTM4_17))),(.sc (.i .i64 (.ite zTM4_9 (.ite zTM4_12 zTM4_20 (.ite zTM4_15 zTM4_20 (.ite zTM4_10 zTM4_20 (.ite zTM4_19 zTM4_27 zTM4_20)))) zTM4_20))),(.sc (.i .i64 (.ite zTM4_9 (.ite zTM4_12 zTM4_22 (.ite zTM4_15 zTM4_22 (.ite zTM4_10 zTM4_22 (.ite zTM4_19 zTM4_22 (.ite zTM4_21 zTM4_27 zTM4_22))))) zTM4_22))),(.sc (.i .i64 (.ite zTM4_9 (.ite zTM4_12 zTM4_23 (.ite zTM4_15 zTM4_23 (.ite zTM4_10 zTM4_23 (.ite zTM4_19 zTM4_23 (.ite zTM4_21 zTM4_23 (.ite zTM4_18 zTM4_27 zTM4_23)))))) zTM4_23))),(.sc (.i .i64 (.ite zTM4_9 (.ite zTM4_12 zTM4_24 (.ite zTM4_15 zTM4_24 (.ite zTM4_10 zTM4_24 (.ite zTM4_19 zTM4_24 (.ite zTM4_21 zTM4_24 (.ite zTM4_18 zTM4_24 (.ite zTM4_11 zTM4_27 zTM4_24))))))) zTM4_24))),(.sc (.i .i64 (.ite zTM4_9 (.ite zTM4_12 zTM4_25 (.ite zTM4_15 zTM4_25 (.ite zTM4_10 zTM4_25 (.ite zTM4_19 zTM4_25 (.ite zTM4_21 zTM4_25 (.ite zTM4_18 zTM4_25 (.ite zTM4_11 zTM4_25 (.ite zTM4_14 zTM4_27 zTM4_25)))))))) zTM4_25))),(.sc (.i .i64 (.ite zTM4_9 (.ite zTM4_12 zTM4_26 (.ite zTM4_15 zTM4_26 (.ite zTM4_10 zTM4_26 (.ite zTM4_19 zTM4_26 (.ite zTM4_21 zTM4_26 (.ite zTM4_18 zTM4_26 (.ite zTM4_11 zTM4_26 (.ite zTM4_14 zTM4_26 zTM4_27)))))))) zTM4_26)))]))
theorem psR_run:askF ⟨cfgL [] (fun _=>[]),l_able,[]⟩ 16 ([.ro 20 [enC 3 (.var 500)] true]) []=psR:=by kernel_rfl
def cvR:T X:=(.ret (.sc (.b (.not (.or (.or (.lt (.var 510) (.var 580)) (.or (.lt (.var 511) (.var 581)) (.lt (.var 512) (.var 582)))) (.or (.or (.lt (.var 513) (.var 583)) (.or (.lt (.var 514) (.var 584)) (.lt (.var 515) (.var 585)))) (.or (.lt (.var 516) (.var 586)) (.or (.lt (.var 517) (.var 587)) (.lt (.var 518) (.var 588))))))))))
theorem cvR_run:askF ⟨cfgL [] (fun _=>[]),l_able,[]⟩ 15 ([.agg (vi 510 9),.agg (vi 580 9)]) []=cvR:=by kernel_rfl
def r31:T X:=(.ret (.sc (.b (.not (.or (.or (.or (.lt (.var 0) (.lit 0)) (.lt zTM4_28 (.var 0))) (.or (.or (.lt (.var 1) (.lit 0)) (.lt zTM4_28 (.var 1))) (.or (.lt (.var 2) (.lit 0)) (.lt zTM4_28 (.var 2))))) (.or (.or (.or (.lt (.var 3) (.lit 0)) (.lt zTM4_28 (.var 3))) (.or (.or (.lt (.var 4) (.lit 0)) (.lt zTM4_28 (.var 4))) (.or (.lt (.var 5) (.lit 0)) (.lt zTM4_28 (.var 5))))) (.or (.or (.lt (.var 6) (.lit 0)) (.lt zTM4_28 (.var 6))) (.or (.or (.lt (.var 7) (.lit 0)) (.lt zTM4_28 (.var 7))) (.or (.lt (.var 8) (.lit 0)) (.lt zTM4_28 (.var 8)))))))))))
theorem r31_run:askF ⟨cfgL [] (fun _=>[]),l_able,[]⟩ 31 ([.agg (vi 0 9)]) []=r31:=by kernel_rfl
end Go.Proofs.Ytdlifdoglhhnfaa
