/- Parts of the proof, one behind the other. -/
import Derived.Test.YtdlifdoglhhnfaaTM1
import Derived.Test.YtdlifdoglhhnfaaTM11
import Derived.Test.YtdlifdoglhhnfaaXwM3
import Derived.Test.YtdlifdoglhhnfaaTM10
import Derived.Test.YtdlifdoglhhnfaaTM3
namespace Go.Proofs.Ytdlifdoglhhnfaa
open Go Go.Proofs.Aw Go.Proofs.Xw
def kr:List Kd:=[.s,.b]++List.replicate 6 (.i .i64)++[.s,.s,.b]++List.replicate 11 (.i .i64)
def rsA:List X:=[.rl 22 (.len 0) (.var 0 kr) false,.rl 22 (.len 1) (.var 1 kr) false]
def rsF:Facts:=[(.eq (.len 0) (.len 1),true)]
noncomputable def rs_c:Code:=(loopsOf (Try.f24.body.getD .skip))[0]?.getD .skip
abbrev zTM12_0:X := .sc (.b (.not (.eq (.len 0) (.len 1))))
abbrev zTM12_1:List Kd:=[.s,.b,(.i .i64),(.i .i64),(.i .i64),(.i .i64),(.i .i64),(.i .i64),.s,.s,.b,(.i .i64),(.i .i64),(.i .i64),(.i .i64),(.i .i64),(.i .i64),(.i .i64),(.i .i64),(.i .i64),(.i .i64),(.i .i64)]
abbrev zTM12_2:X := .rl 22 (.len 1) (.var 1 zTM12_1) false
abbrev zTM12_3:X := .rl 22 (.len 0) (.var 0 zTM12_1) false
abbrev zTM12_4:XTp:=[(5,(.sc (.i .i64 (.var 430)))),(10,zTM12_0),(9,(.sc (.i .i64 (.len 1)))),(8,zTM12_2),(7,(.sc (.i .i64 (.len 0)))),(6,zTM12_3),(4,(.sc (.b (.lit false)))),(0,zTM12_3),(1,zTM12_2)]
abbrev zTM12_5:BE := .not (.and (.seq (.cl 0 0 (.var 430)) (.cl 1 0 (.var 430))) (.and (.ite (.cl 0 1 (.var 430)) (.cl 1 1 (.var 430)) (.not (.cl 1 1 (.var 430)))) (.and (.eq (.cl 0 2 (.var 430)) (.cl 1 2 (.var 430))) (.and (.eq (.cl 0 3 (.var 430)) (.cl 1 3 (.var 430))) (.and (.eq (.cl 0 4 (.var 430)) (.cl 1 4 (.var 430))) (.and (.eq (.cl 0 5 (.var 430)) (.cl 1 5 (.var 430))) (.and (.eq (.cl 0 6 (.var 430)) (.cl 1 6 (.var 430))) (.and (.eq (.cl 0 7 (.var 430)) (.cl 1 7 (.var 430))) (.and (.seq (.cl 0 8 (.var 430)) (.cl 1 8 (.var 430))) (.and (.seq (.cl 0 9 (.var 430)) (.cl 1 9 (.var 430))) (.and (.ite (.cl 0 10 (.var 430)) (.cl 1 10 (.var 430)) (.not (.cl 1 10 (.var 430)))) (.and (.eq (.cl 0 11 (.var 430)) (.cl 1 11 (.var 430))) (.and (.eq (.cl 0 12 (.var 430)) (.cl 1 12 (.var 430))) (.and (.eq (.cl 0 13 (.var 430)) (.cl 1 13 (.var 430))) (.and (.eq (.cl 0 14 (.var 430)) (.cl 1 14 (.var 430))) (.and (.eq (.cl 0 15 (.var 430)) (.cl 1 15 (.var 430))) (.and (.eq (.cl 0 16 (.var 430)) (.cl 1 16 (.var 430))) (.and (.eq (.cl 0 17 (.var 430)) (.cl 1 17 (.var 430))) (.and (.eq (.cl 0 18 (.var 430)) (.cl 1 18 (.var 430))) (.and (.eq (.cl 0 19 (.var 430)) (.cl 1 19 (.var 430))) (.and (.eq (.cl 0 20 (.var 430)) (.cl 1 20 (.var 430))) (.eq (.cl 0 21 (.var 430)) (.cl 1 21 (.var 430))))))))))))))))))))))))
abbrev zTM12_6:BE := .not (.lt (.var 430) (.len 0))
def rs_S:XS:=⟨zTM12_4,[],7⟩
def rs_Φ:Facts:=((.lt (.var 430) (.lit 0),false)::rsF)
def rs_b:Bind:=⟨[(430,(.op .add .i64 (.var 430) (.lit 1)))],[],[],[]⟩
def rs_i:Bind:=⟨[(430,(.lit 0))],[],[],[]⟩
def rs_t:T (XE×XS):=(.br (.lt (.var 430) (.len 0)) (.need (.lt (.var 430) (.len 1)) (.br zTM12_5 (.ret (.ret,⟨zTM12_4,[],21⟩)) (.ret (.normal,⟨[(5,(.sc (.i .i64 (.op .add .i64 (.var 430) (.lit 1))))),(10,zTM12_0),(9,(.sc (.i .i64 (.len 1)))),(8,zTM12_2),(7,(.sc (.i .i64 (.len 0)))),(6,zTM12_3),(4,(.sc (.b (.lit false)))),(0,zTM12_3),(1,zTM12_2)],[],23⟩)))) (.ret ((.exit 0),⟨zTM12_4,[],11⟩)))
noncomputable def rs:LoopX:=⟨((codeKey rs_c).getD 0),0,430,rs_S,rs_i,[],rs_t.outs⟩
theorem rs_run:(codeX (cfgL ([]) (fun _=>[])).ti (callS ⟨(cfgL ([]) (fun _=>[])),l_able,[]⟩ 12) (((cfgL ([]) (fun _=>[])).ft 24).elim [] (·.ms)) rs.k0 ((fun _=>[]) 24) 1000 rs_c rs_Φ rs.S).map (sqz (rs_S.t.map (·.1)))=rs_t:=by kernel_rfl
theorem rs_back:rs_t.nrm (okS rs.k0 rs.n rs_b [] rs.S)=true:=by kernel_rfl
theorem rs_bel:rs_t.outs.belX 431=true:=by kernel_rfl
theorem rs_ib:rs_i.bel 430=true:=by kernel_rfl
theorem rs_ig:rs_i.ge 430=true:=by kernel_rfl
theorem rs_bg:rs_b.ge 430=true:=by kernel_rfl
theorem rs_same:rs_i.same rs_b=true:=by kernel_rfl
theorem rs_fits:fitsC Try.f24.ntmps rs_c=true:=by kernel_rfl
end Go.Proofs.Ytdlifdoglhhnfaa
namespace Go.Proofs.Ytdlifdoglhhnfaa
open Go Go.Proofs.Aw Go.Proofs.Xw
noncomputable def lpRs (f:Nat):List LoopX:=if Nat.beq f 24=true then [rs]else []
theorem lpRs_24o:othersB [rs] [0] 0 (loopsOf (Try.f24.body.getD .skip))=true:=by kernel_rfl
theorem lpRs_24 {ρ:Rho} (h_rs:LoopOk Try.prog ρ Try.f24.ntmps rs_c rs):LpsOk Try.prog ρ Try.f24.ntmps [rs] (Try.f24.body.getD .skip) :=
 lps_idx [0] lpRs_24o (List.forall_mem_cons.2 ⟨look_list (c:=rs_c) (Ls:=[rs]) (by kernel_rfl) (List.forall_mem_cons.2 ⟨h_rs,List.forall_mem_nil _⟩),List.forall_mem_nil _⟩)
theorem lpRs_ok {ρ:Rho} (h_rs:LoopOk Try.prog ρ Try.f24.ntmps rs_c rs):∀f i,btLook f ftsT=some i→LpsOk Try.prog ρ i.ntmps (lpRs f) i.body:=by
 intro f i h
 have hi:=fts_ok (f,i) (bt_of_mem _ _ (btLook_mem h))
 unfold lpRs
 split
 ·rename_i hf
  have hf:=Nat.eq_of_beq_eq_true hf
  subst hf
  exact lps_row hi Try.func24 (lpRs_24 h_rs)
 ·exact LpsOk.nil _ _ _ _
def rsR:T X:=(.need (.or zTM12_6 (.and (.lt (.var 430) (.len 1)) zTM12_5)) (.ret (.sc (.b zTM12_6))))
theorem rsR_run:askF ⟨cfgL [] lpRs,l_able,[]⟩ 24 (rsA) rsF=rsR:=by kernel_rfl
end Go.Proofs.Ytdlifdoglhhnfaa
namespace Go.Proofs.Ytdlifdoglhhnfaa
open Go Go.Proofs.Aw Go.Proofs.Xw Go.Proofs.Sr
set_option maxRecDepth 100000
def fo (f:Nat→Nat→Int) (d:Nat):Nat→Int
 | 0=>0
 | j+1=>max (fo f d j) (pa (f j) d)
theorem fo_congr {f f':Nat→Nat→Int} {d:Nat}:∀{j:Nat},(∀y,y<j→pa (f y) d=pa (f' y) d)→fo f d j=fo f' d j
 | 0,_=>rfl
 | j+1,h=>by
  show max (fo f d j) _=max (fo f' d j) _
  rw[fo_congr fun y hy=>h y (by omega),h j (by omega)]
theorem fo_pos (f:Nat→Nat→Int) (d:Nat):∀j,0≤fo f d j
 | 0=>Int.le_refl _
 | j+1=>by show 0≤max (fo f d j) _;have:=fo_pos f d j;omega
theorem pf_m (ρ:Rho):∀d,d<9→0≤ρ.i (681+d)→(pf_b.ap ρ).i (681+d)=max (ρ.i (681+d)) (pa (enF ρ 641 (ρ.i 680).toNat) d) :=
 nine (pf_m0 ρ) (pf_m1 ρ) (pf_m2 ρ) (pf_m3 ρ) (pf_m4 ρ) (pf_m5 ρ) (pf_m6 ρ) (pf_m7 ρ) (pf_m8 ρ)
theorem pf_v (ρ:Rho):∀j:Nat,j<9223372036854775807→∀d,d<9→(pf_b.it (pf_i.ap ρ) j).i (681+d)=fo (enF ρ 641) d j
 | 0,_=>nine (P:=fun d=>(pf_i.ap ρ).i (681+d)=0) rfl rfl rfl rfl rfl rfl rfl rfl rfl
 | j+1,hj=>fun d hd=>by
  have h:=pf_v ρ j (by omega) d hd
  have hc:(pf_b.it (pf_i.ap ρ) j).i 680=j:=it_count (e := .lit 0) rfl (by rfl) _ (by omega)
  have ag:Agree 680 ρ (pf_b.it (pf_i.ap ρ) j):=(Bind.agree pf_ig ρ).trans (Bind.it_agree pf_bg (pf_i.ap ρ) j)
  show(pf_b.ap (pf_b.it (pf_i.ap ρ) j)).i (681+d)=_
  rw[pf_m _ d hd (by rw[h];exact fo_pos _ _ _),h,hc,Int.toNat_natCast]
  show _=max (fo (enF ρ 641) d j) (pa (enF ρ 641 j) d)
  rw[show enF (pf_b.it (pf_i.ap ρ) j) 641 j=enF ρ 641 j from by unfold enF;rw[←ag.ci 641 (by decide)]]
theorem nineV_eq {v w:Nat→Int} (h:∀d,d<9→v d=w d):nineV v=nineV w:=by
 unfold nineV
 congr 1
 exact List.map_congr_left fun d hd=>by rw[h d (List.mem_range.1 hd)]
theorem pf_cy (ρ:Rho) {c:Nat} (hc:ρ.len 641=c) (c1:1≤c) (c6:c≤6):hasBody Try.prog 43=true∧∀n h,CY Try.prog n 43 (X.denL ρ pfA) h (nineV fun d=>fo (enF ρ 641) d c) []:=by
 have ag:=(Bind.agree pf_ig ρ).trans (Bind.it_agree pf_bg (pf_i.ap ρ) c)
 have fp:Facts.ok ρ pfP:=Facts.ok_cons (by rw[dlt_f];simp only[IE.den];omega) (Facts.ok_nil _)
 have L:LoopOk Try.prog (pf_b.it (pf_i.ap ρ) c) Try.f43.ntmps pf_c pf:=loopOk_cntE mixed tis_ok pf_run pf_fits pf_back rfl 690 pf_bel pf_ib pf_bg pf_same (I:=680) (e := .len 641) rfl (by intro h;cases h) rfl rfl (by kernel_rfl) (Φ0:=pfP) rfl (by kernel_rfl) fp pf_ig (fun _=>callS_ok (c:=⟨cfgL [] (fun _=>[]),l_able,_⟩) (cfgL_ok (List.forall_mem_nil _) (fun _ _ _=>LpsOk.nil _ _ _ _)) l_able_ok 12) (fun _=>LpsOk.nil _ _ _ _) _ (by omega) (by simp only[IE.den,hc])
 generalize he:pf_b.it (pf_i.ap ρ) c=ρ1 at ag L
 have i680:ρ1.i 680=c:=by rw[←he];exact it_count (e := .lit 0) rfl (by rfl) _ (by omega)
 have l1:ρ1.len 641=c:=by rw[←ag.len 641 (by decide)];exact hc
 have q:=askF_ok (c:=⟨cfgL [] lpPf,l_able,[]⟩) (f:=43) (args:=pfA) (Φ:=(.lt (.lit 0) (.len 641),true)::pfP) (cfgL_ok (List.forall_mem_nil _) (lpPf_ok L)) l_able_ok (Facts.ok_cons (by rw[dlt_t];simp only[IE.den];omega) (Facts.ok_cons (by rw[dlt_f];simp only[IE.den];omega) (Facts.ok_nil _))) (r := .agg (vi 681 9)) (by
  rw[pfR_run]
  unfold pfR
  exact sel_need (by rw[dnot_t,dlt_f];show(ρ1.len 641:Int)≤ρ1.i 680;omega) rfl)
 rw[←X.belL_den ag pfA (by kernel_rfl)]at q
 rw[show X.den ρ1 (.agg (vi 681 9))=nineV (fun d=>ρ1.i (681+d))from rfl,nineV_eq (w:=fun d=>fo (enF ρ 641) d c) fun d hd=>by rw[←he];exact pf_v ρ c (by omega) d hd]at q
 exact q
theorem pfN_cy (ρ:Rho):hasBody Try.prog 43=true∧∀n h,CY Try.prog n 43 (X.denL ρ [.k (.slice none 0 0)]) h (nineV fun _=>0) [] :=
 askF_ok (c:=⟨cfgL [] (fun _=>[]),l_able,[]⟩) (f:=43) (args:=[.k (.slice none 0 0)]) (Φ:=[]) (cN_ok ρ) l_able_ok (Facts.ok_nil ρ) (r := .agg (List.replicate 9 (.sc (.i .i64 (.lit 0))))) (by rw[pfN_run];rfl)
theorem rs_ok (ρ:Rho) {c:Nat} (h0:ρ.len 0=c) (h1:ρ.len 1=c) (c6:c≤6) (hr:∀y,y<c→rw_ ρ 0 kr y=rw_ ρ 1 kr y):LoopOk Try.prog (rs_b.it (rs_i.ap ρ) c) Try.f24.ntmps rs_c rs:=by
 refine loopOk_cntG mixed tis_ok rs_run rs_fits rs_back rfl 431 rs_bel rs_ib rs_bg rs_same (I:=430) rfl rfl (Φ0:=rsF) rfl (by kernel_rfl) (Facts.ok_cons (by rw[deq_t];simp only[IE.den];omega) (Facts.ok_nil _)) rs_ig (fun _=>callS_ok (c:=⟨cfgL [] (fun _=>[]),l_able,_⟩) (cfgL_ok (List.forall_mem_nil _) (fun _ _ _=>LpsOk.nil _ _ _ _)) l_able_ok 12) (fun _=>LpsOk.nil _ _ _ _) c (by omega) (fun j hj hc ha => ?_) (fun hc ha => ?_)
 ·have hc:(rs_b.it (rs_i.ap ρ) j).i 430=j:=hc
  have ha:Agree 430 ρ (rs_b.it (rs_i.ap ρ) j):=ha
  show ∃s,rs_t.sel (rs_b.it (rs_i.ap ρ) j)=_
  generalize rs_b.it (rs_i.ap ρ) j=ρj at hc ha ⊢
  have l0:ρj.len 0=c:=by rw[←ha.len 0 (by decide)];exact h0
  have l1:ρj.len 1=c:=by rw[←ha.len 1 (by decide)];exact h1
  have h:rw_ ρj 0 kr j=rw_ ρj 1 kr j:=by
   rw[rw_agree ha (l:=0) (by decide),rw_agree ha (l:=1) (by decide)];exact hr j hj
  apply Exists.intro
  unfold rs_t
  rw[T.sel,if_pos (by rw[dlt_t];simp only[IE.den];omega)]
  refine sel_need (by rw[dlt_t];simp only[IE.den];omega) ?_
  rw[T.sel,if_neg]
  ·rfl
  ·simp[rw_,kr,cellsV,List.replicate]at h
   simp[BE.den,IE.den,TE.den,hc,Int.toNat_natCast,h]
 ·have hc:(rs_b.it (rs_i.ap ρ) c).i 430=c:=hc
  have ha:Agree 430 ρ (rs_b.it (rs_i.ap ρ) c):=ha
  show ∃e s,e≠XE.normal∧rs_t.sel (rs_b.it (rs_i.ap ρ) c)=_
  generalize rs_b.it (rs_i.ap ρ) c=ρj at hc ha ⊢
  have l0:ρj.len 0=c:=by rw[←ha.len 0 (by decide)];exact h0
  refine⟨_,_,?_,by unfold rs_t;rw[T.sel,if_neg (by rw[dlt_t];simp only[IE.den];omega)];rfl⟩
  intro h;cases h
end Go.Proofs.Ytdlifdoglhhnfaa
namespace Go.Proofs.Ytdlifdoglhhnfaa
open Go Go.Proofs.Aw Go.Proofs.Xw Go.Proofs.Sr
set_option maxRecDepth 100000
theorem rs_cy (ρ:Rho) {c:Nat} (h0:ρ.len 561=c) (h1:ρ.len 571=c) (c6:c≤6) (hr:∀y,y<c→rw_ ρ 561 kr y=rw_ ρ 571 kr y):hasBody Try.prog 24=true∧∀n h,CY Try.prog n 24 (X.denL ρ [.rl 22 (.len 561) (.var 561 kr) false,.rl 22 (.len 571) (.var 571 kr) false]) h (.sc (.bool true)) []:=by
 let ρ':Rho:=⟨ρ.i,ρ.b,ρ.s,fun k=>if k=0 then ρ.len 561 else ρ.len 571,fun l=>if l=0 then ρ.ci 561 else ρ.ci 571,fun l=>if l=0 then ρ.cb 561 else ρ.cb 571,fun l=>if l=0 then ρ.cs 561 else ρ.cs 571⟩
 have e:X.denL ρ [.rl 22 (.len 561) (.var 561 kr) false,.rl 22 (.len 571) (.var 571 kr) false]=X.denL ρ' rsA:=rfl
 have L:=rs_ok ρ' (c:=c) h0 h1 c6 hr
 have ag:=(Bind.agree rs_ig ρ').trans (Bind.it_agree rs_bg (rs_i.ap ρ') c)
 have i430:(rs_b.it (rs_i.ap ρ') c).i 430=c:=it_count (e := .lit 0) rfl (by rfl) _ (by omega)
 generalize rs_b.it (rs_i.ap ρ') c=ρ1 at L ag i430
 have l0:ρ1.len 0=c:=by rw[←ag.len 0 (by decide)];exact h0
 have l1:ρ1.len 1=c:=by rw[←ag.len 1 (by decide)];exact h1
 have hb:(BE.not (.lt (.var 430) (.len 0))).den ρ1=true:=by rw[dnot_t,dlt_f];simp only[IE.den];omega
 have q:=askF_ok (c:=⟨cfgL [] lpRs,l_able,[]⟩) (f:=24) (args:=rsA) (Φ:=rsF) (cfgL_ok (List.forall_mem_nil _) (lpRs_ok L)) l_able_ok (Facts.ok_cons (by rw[deq_t];simp only[IE.den];omega) (Facts.ok_nil _)) (r := .sc (.b (.not (.lt (.var 430) (.len 0))))) (by
  rw[rsR_run]
  unfold rsR
  exact sel_need (by rw[dor_t];exact .inl hb) rfl)
 rw[←X.belL_den ag rsA (by kernel_rfl),←e,show X.den ρ1 (.sc (.b (.not (.lt (.var 430) (.len 0))))) = .sc (.bool true)from by simp only[X.den,Sc.den,hb]]at q
 exact q
def rR (s:ByteArray) (cs:List AV):List AV := .sc (.string s)::(cs.drop 1).take 21
def rsS (k a:Nat) (i:IE):List Sc:=[.s (.cl k 0 i),.b (.cl a 1 i),.i .i64 (.cl a 2 i),.i .i64 (.cl a 3 i),.i .i64 (.cl a 4 i),.i .i64 (.cl a 5 i),.i .i64 (.cl a 6 i),.i .i64 (.cl a 7 i),.s (.cl a 8 i),.s (.cl a 9 i),.b (.cl a 10 i),.i .i64 (.cl a 11 i),.i .i64 (.cl a 12 i),.i .i64 (.cl a 13 i),.i .i64 (.cl a 14 i),.i .i64 (.cl a 15 i),.i .i64 (.cl a 16 i),.i .i64 (.cl a 17 i),.i .i64 (.cl a 18 i),.i .i64 (.cl a 19 i),.i .i64 (.cl a 20 i),.i .i64 (.cl a 21 i)]
theorem rsS_row (ρ:Rho) (k a:Nat) (i:IE) {y:Nat} (h:i.den ρ=y):kcells (scL ρ (rsS k a i)) 0 kr=rR (ρ.cs k 0 y) (rw_ ρ a ka y):=by
 have:(i.den ρ).toNat=y:=by rw[h,Int.toNat_natCast]
 rw[←this];rfl
theorem kc_kr (ρ:Rho) (l j:Nat):kcells (rw_ ρ l kr j) 0 kr=rw_ ρ l kr j:=rfl
def ReR (ρ:Rho) (l k a j:Nat):Prop:=ρ.len l=j∧∀x,x<j→rw_ ρ l kr x=rR (ρ.cs k 0 x) (rw_ ρ a ka x)
theorem ReR.agree {ρ ρ':Rho} {b l k a j:Nat} (h:ReR ρ l k a j) (ag:Agree b ρ ρ') (hl:l<b) (hk:k<b) (ha:a<b):ReR ρ' l k a j :=
 ⟨by rw[←ag.len l hl];exact h.1,fun x hx=>by rw[rw_agree ag hl,rw_agree ag ha,←ag.cs k hk];exact h.2 x hx⟩
theorem ReR.one {ρ:Rho} {β:Bind} {b l k a:Nat} (ag:Agree b ρ (β.ap ρ)) (hk:k<b) (ha:a<b) (hr:lassoc l β.r=some (.lit 1,.one (rsS k a (.lit 0)))):ReR (β.ap ρ) l k a 1:=by
 refine⟨ap_len hr,fun x hx => ?_⟩
 obtain rfl:x=0:=by omega
 rw[ap_row hr,one_row,rsS_row ρ k a (.lit 0) (y:=0) rfl,rw_agree ag ha,←ag.cs k hk]
theorem ReR.app {ρ:Rho} {β:Bind} {b l k a j:Nat} {i:IE} (h:ReR ρ l k a j) (ag:Agree b ρ (β.ap ρ)) (hk:k<b) (ha:a<b) (hi:i.den ρ=j) (hr:lassoc l β.r=some (.op .padd .i64 (.len l) (.lit 1),.app (.len l) (.var l kr) (.one (rsS k a i)))):ReR (β.ap ρ) l k a (j+1):=by
 refine⟨by rw[ap_len hr];show((ρ.len l:Int)+1).toNat=_;rw[h.1];omega,fun x hx => ?_⟩
 rw[ap_row hr,app_row ρ h.1]
 by_cases q:x<j
 ·rw[if_pos q,kc_kr,h.2 x q,rw_agree ag ha,←ag.cs k hk]
 ·obtain rfl:x=j:=by omega
  rw[if_neg q,rsS_row ρ k a i hi,rw_agree ag ha,←ag.cs k hk]
def r1S:Nat→XS
 | 0=>r1_S0
 | _=>r1_S1
def r1R (n:Nat) (s:Nat) (ρ:Rho):Prop:=(ρ.len 2=n)∧match s with
 | 0=>True
 | _=>∃j:Nat,1≤j∧j≤n∧ρ.i 560=j∧ReR ρ 561 2 504 j
theorem r1_ok (ρ:Rho) {n:Nat} (n1:1≤n) (n6:n≤6) (hn:ρ.len 2=n):∃ρf,Agree 560 ρ ρf∧ReR ρf 561 2 504 n∧LoopOk Try.prog ρf Try.f22.ntmps r1_c r1:=by
 suffices hh:∃(_:Nat) (ρf:Rho),Agree r1.n ρ ρf∧ReR ρf 561 2 504 n∧LoopOk Try.prog ρf Try.f22.ntmps r1_c r1 by
  obtain⟨_,ρf,h1,h2,h3⟩:=hh
  exact⟨ρf,h1,h2,h3⟩
 have a0:=Bind.agree r1_I0g ρ
 have keep:∀{x y:Rho},Agree 560 x y→(x.len 2=n)→y.len 2=n:=fun {x y} ag h=>by rw[←ag.len 2 (by decide)];exact h
 have f0:∀{x:Rho},(x.len 2=n)→Facts.ok x ([(.lt (.len 2) (.lit 1),false),(.lt (.lit 6) (.len 2),false)]):=fun {x} h=>Facts.ok_cons (by rw[dlt_f];simp only[IE.den];omega) (Facts.ok_cons (by rw[dlt_f];simp only[IE.den];omega) (Facts.ok_nil _))
 have f1:∀{x:Rho} {j:Nat},(x.len 2=n)→x.i 560=j→Facts.ok x r1F:=fun {x j} h hj=>Facts.ok_cons (by rw[dlt_f];simp only[IE.den];omega) (Facts.ok_cons (by rw[dlt_f];simp only[IE.den];omega) (Facts.ok_cons (by rw[dlt_f];simp only[IE.den];omega) (Facts.ok_nil _)))
 refine loopOk_famE (L:=r1) (N:=Try.f22.ntmps) (body:=r1_c) (P:=Try.prog) rfl r1_Eb r1S (r1R n) (fun _ ρ'=>ReR ρ' 561 2 504 n) (fun s ρ'=>match s with
  | 0=>n+1
  | _=>(n-ρ'.i 560).toNat) ?_
  ⟨0,r1_I0.ap ρ,a0,⟨keep a0 hn,trivial⟩,fun E _ hE=>okS_imp hE r1_I0ok ρ⟩
 rintro s ρ' ⟨hn',hs⟩
 match s,hs with
 | 0,_ =>
  have ag:Agree 560 ρ' (r1_A_b.ap ρ'):=Bind.agree r1_A_g _
  have up:(r1_A_b.ap ρ').i 560=1:=ap_i r1_A_560
  exact .inr ⟨1,r1_A_b.ap ρ',r1_A_step rfl (cN_ok _) (LpsOk.nil _ _ _ _) (f0 hn'),⟨keep ag hn',1,Nat.le_refl _,n1,up,ReR.one ag (by decide) (by decide) r1_A_r561⟩,by show(_:Int).toNat<n+1;rw[up];omega,ag⟩
 | s+1,⟨j,j1,j2,hj,hr⟩ =>
  by_cases c:j<n
  ·have ag:Agree 560 ρ' (r1_B_b.ap ρ'):=Bind.agree r1_B_g _
   have up:(r1_B_b.ap ρ').i 560=((j+1:Nat):Int):=(ap_i r1_B_560).trans (inc hj (by omega))
   have hl:=hr.1
   exact .inr ⟨1,r1_B_b.ap ρ',r1_B_step rfl (cN_ok _) (LpsOk.nil _ _ _ _) (Facts.ok_cons (by show(BE.lt (.var 560) (.len 2)).den ρ'=true;rw[dlt_t];simp only[IE.den];omega) (Facts.ok_cons (by rw[dlt_f];simp only[IE.den];omega) (f1 hn' hj))),⟨keep ag hn',j+1,by omega,c,up,hr.app ag (by decide) (by decide) (i := .var 560) hj r1_B_r561⟩,by show(_:Int).toNat<(_:Int).toNat;rw[up,hj];omega,ag⟩
  ·obtain rfl:j=n:=by omega
   exact .inl ⟨ρ',Agree.refl _ _,hr,rfl,r1_X_end (cN_ok _) (LpsOk.nil _ _ _ _) (Facts.ok_cons (by show(BE.lt (.var 560) (.len 2)).den ρ'=false;rw[dlt_f];simp only[IE.den];have:=hn';omega) (f1 hn' hj)) rfl⟩
def r2S:Nat→XS
 | 0=>r2_S0
 | _=>r2_S1
def r2R (n:Nat) (s:Nat) (ρ:Rho):Prop:=((ρ.len 2=n∧ρ.len 471=n∧ρ.len 473=n)∧ρ.b 530=true∧ρ.i 531=0)∧match s with
 | 0=>True
 | _=>∃j:Nat,1≤j∧j≤n∧ρ.i 570=j∧ReR ρ 571 471 506 j
theorem r2_ok (ρ:Rho) {n:Nat} (n1:1≤n) (n6:n≤6) (hn:(ρ.len 2=n∧ρ.len 471=n∧ρ.len 473=n)∧ρ.b 530=true∧ρ.i 531=0):∃ρf,Agree 570 ρ ρf∧ReR ρf 571 471 506 n∧LoopOk Try.prog ρf Try.f25.ntmps r2_c r2:=by
 suffices hh:∃(_:Nat) (ρf:Rho),Agree r2.n ρ ρf∧ReR ρf 571 471 506 n∧LoopOk Try.prog ρf Try.f25.ntmps r2_c r2 by
  obtain⟨_,ρf,h1,h2,h3⟩:=hh
  exact⟨ρf,h1,h2,h3⟩
 have a0:=Bind.agree r2_I0g ρ
 have keep:∀{x y:Rho},Agree 570 x y→((x.len 2=n∧x.len 471=n∧x.len 473=n)∧x.b 530=true∧x.i 531=0)→(y.len 2=n∧y.len 471=n∧y.len 473=n)∧y.b 530=true∧y.i 531=0:=fun {x y} ag h=>⟨⟨by rw[←ag.len 2 (by decide)];exact h.1.1,by rw[←ag.len 471 (by decide)];exact h.1.2.1,by rw[←ag.len 473 (by decide)];exact h.1.2.2⟩,by rw[←ag.b 530 (by decide)];exact h.2.1,by rw[←ag.i 531 (by decide)];exact h.2.2⟩
 have f0:∀{x:Rho},((x.len 2=n∧x.len 471=n∧x.len 473=n)∧x.b 530=true∧x.i 531=0)→Facts.ok x ([(.lt (.lit 0) (.len 471),true),(.lt (.lit 0) (.len 473),true),(.lt (.len 2) (.lit 1),false),(.lt (.lit 6) (.len 2),false),(.eq (.len 471) (.len 2),true),(.eq (.len 473) (.len 2),true),(.var 530,true),(.eq (.var 531) (.lit 0),true)]):=fun {x} h=>Facts.ok_cons (by obtain⟨⟨h1,h2,h3⟩,h4,h5⟩:=h;rw[dlt_t];simp only[IE.den];omega) (Facts.ok_cons (by obtain⟨⟨h1,h2,h3⟩,h4,h5⟩:=h;rw[dlt_t];simp only[IE.den];omega) (Facts.ok_cons (by obtain⟨⟨h1,h2,h3⟩,h4,h5⟩:=h;rw[dlt_f];simp only[IE.den];omega) (Facts.ok_cons (by obtain⟨⟨h1,h2,h3⟩,h4,h5⟩:=h;rw[dlt_f];simp only[IE.den];omega) (Facts.ok_cons (by obtain⟨⟨h1,h2,h3⟩,h4,h5⟩:=h;rw[deq_t];simp only[IE.den];omega) (Facts.ok_cons (by obtain⟨⟨h1,h2,h3⟩,h4,h5⟩:=h;rw[deq_t];simp only[IE.den];omega) (Facts.ok_cons h.2.1 (Facts.ok_cons (by obtain⟨⟨h1,h2,h3⟩,h4,h5⟩:=h;rw[deq_t];simp only[IE.den];omega) (Facts.ok_nil _))))))))
 have f1:∀{x:Rho} {j:Nat},((x.len 2=n∧x.len 471=n∧x.len 473=n)∧x.b 530=true∧x.i 531=0)→x.i 570=j→Facts.ok x r2F:=fun {x j} h hj=>Facts.ok_cons (by obtain⟨⟨h1,h2,h3⟩,h4,h5⟩:=h;rw[dlt_f];simp only[IE.den];omega) (Facts.ok_cons (by obtain⟨⟨h1,h2,h3⟩,h4,h5⟩:=h;rw[dlt_f];simp only[IE.den];omega) (Facts.ok_cons (by obtain⟨⟨h1,h2,h3⟩,h4,h5⟩:=h;rw[dlt_f];simp only[IE.den];omega) (Facts.ok_cons (by obtain⟨⟨h1,h2,h3⟩,h4,h5⟩:=h;rw[deq_t];simp only[IE.den];omega) (Facts.ok_cons (by obtain⟨⟨h1,h2,h3⟩,h4,h5⟩:=h;rw[deq_t];simp only[IE.den];omega) (Facts.ok_cons h.2.1 (Facts.ok_cons (by obtain⟨⟨h1,h2,h3⟩,h4,h5⟩:=h;rw[deq_t];simp only[IE.den];omega) (Facts.ok_nil _)))))))
 refine loopOk_famE (L:=r2) (N:=Try.f25.ntmps) (body:=r2_c) (P:=Try.prog) rfl r2_Eb r2S (r2R n) (fun _ ρ'=>ReR ρ' 571 471 506 n) (fun s ρ'=>match s with
  | 0=>n+1
  | _=>(n-ρ'.i 570).toNat) ?_
  ⟨0,r2_I0.ap ρ,a0,⟨keep a0 hn,trivial⟩,fun E _ hE=>okS_imp hE r2_I0ok ρ⟩
 rintro s ρ' ⟨hn',hs⟩
 match s,hs with
 | 0,_ =>
  have ag:Agree 570 ρ' (r2_A_b.ap ρ'):=Bind.agree r2_A_g _
  have up:(r2_A_b.ap ρ').i 570=1:=ap_i r2_A_570
  exact .inr ⟨1,r2_A_b.ap ρ',r2_A_step rfl (cN_ok _) (LpsOk.nil _ _ _ _) (f0 hn'),⟨keep ag hn',1,Nat.le_refl _,n1,up,ReR.one ag (by decide) (by decide) r2_A_r571⟩,by show(_:Int).toNat<n+1;rw[up];omega,ag⟩
 | s+1,⟨j,j1,j2,hj,hr⟩ =>
  by_cases c:j<n
  ·have ag:Agree 570 ρ' (r2_B_b.ap ρ'):=Bind.agree r2_B_g _
   have up:(r2_B_b.ap ρ').i 570=((j+1:Nat):Int):=(ap_i r2_B_570).trans (inc hj (by omega))
   have hl:=hr.1
   exact .inr ⟨1,r2_B_b.ap ρ',r2_B_step rfl (cN_ok _) (LpsOk.nil _ _ _ _) (Facts.ok_cons (by show(BE.lt (.var 570) (.len 471)).den ρ'=true;rw[dlt_t];simp only[IE.den];have:=hn';omega) (Facts.ok_cons (by rw[dlt_t];simp only[IE.den];have:=hn';omega) (Facts.ok_cons (by rw[dlt_t];simp only[IE.den];have:=hn';omega) (Facts.ok_cons (by rw[dlt_f];simp only[IE.den];omega) (f1 hn' hj))))),⟨keep ag hn',j+1,by omega,c,up,hr.app ag (by decide) (by decide) (i := .var 570) hj r2_B_r571⟩,by show(_:Int).toNat<(_:Int).toNat;rw[up,hj];omega,ag⟩
  ·obtain rfl:j=n:=by omega
   exact .inl ⟨ρ',Agree.refl _ _,hr,rfl,r2_X_end (cN_ok _) (LpsOk.nil _ _ _ _) (Facts.ok_cons (by show(BE.lt (.var 570) (.len 471)).den ρ'=false;rw[dlt_f];simp only[IE.den];have:=hn';omega) (f1 hn' hj)) rfl⟩
def r3S:Nat→XS
 | 0=>r3_S0
 | _=>r3_S1
def r3R (n:Nat) (s:Nat) (ρ:Rho):Prop:=((ρ.len 2=n∧ρ.len 471=n∧ρ.len 473=n)∧ρ.b 530=true∧ρ.i 531=0)∧match s with
 | 0=>True
 | _=>∃j:Nat,1≤j∧j≤n∧ρ.i 570=j∧ReR ρ 571 471 506 j
theorem r3_ok (ρ:Rho) {n:Nat} (n1:1≤n) (n6:n≤6) (hn:(ρ.len 2=n∧ρ.len 471=n∧ρ.len 473=n)∧ρ.b 530=true∧ρ.i 531=0):∃ρf,Agree 570 ρ ρf∧ReR ρf 571 471 506 n∧LoopOk Try.prog ρf Try.f25.ntmps r3_c r3:=by
 suffices hh:∃(_:Nat) (ρf:Rho),Agree r3.n ρ ρf∧ReR ρf 571 471 506 n∧LoopOk Try.prog ρf Try.f25.ntmps r3_c r3 by
  obtain⟨_,ρf,h1,h2,h3⟩:=hh
  exact⟨ρf,h1,h2,h3⟩
 have a0:=Bind.agree r3_I0g ρ
 have keep:∀{x y:Rho},Agree 570 x y→((x.len 2=n∧x.len 471=n∧x.len 473=n)∧x.b 530=true∧x.i 531=0)→(y.len 2=n∧y.len 471=n∧y.len 473=n)∧y.b 530=true∧y.i 531=0:=fun {x y} ag h=>⟨⟨by rw[←ag.len 2 (by decide)];exact h.1.1,by rw[←ag.len 471 (by decide)];exact h.1.2.1,by rw[←ag.len 473 (by decide)];exact h.1.2.2⟩,by rw[←ag.b 530 (by decide)];exact h.2.1,by rw[←ag.i 531 (by decide)];exact h.2.2⟩
 have f0:∀{x:Rho},((x.len 2=n∧x.len 471=n∧x.len 473=n)∧x.b 530=true∧x.i 531=0)→Facts.ok x ([(.lt (.lit 0) (.len 471),true),(.lt (.lit 0) (.len 473),true),(.lt (.len 2) (.lit 1),false),(.lt (.lit 6) (.len 2),false),(.eq (.len 471) (.len 2),true),(.eq (.len 473) (.len 2),true),(.var 530,true),(.eq (.var 531) (.lit 0),true)]):=fun {x} h=>Facts.ok_cons (by obtain⟨⟨h1,h2,h3⟩,h4,h5⟩:=h;rw[dlt_t];simp only[IE.den];omega) (Facts.ok_cons (by obtain⟨⟨h1,h2,h3⟩,h4,h5⟩:=h;rw[dlt_t];simp only[IE.den];omega) (Facts.ok_cons (by obtain⟨⟨h1,h2,h3⟩,h4,h5⟩:=h;rw[dlt_f];simp only[IE.den];omega) (Facts.ok_cons (by obtain⟨⟨h1,h2,h3⟩,h4,h5⟩:=h;rw[dlt_f];simp only[IE.den];omega) (Facts.ok_cons (by obtain⟨⟨h1,h2,h3⟩,h4,h5⟩:=h;rw[deq_t];simp only[IE.den];omega) (Facts.ok_cons (by obtain⟨⟨h1,h2,h3⟩,h4,h5⟩:=h;rw[deq_t];simp only[IE.den];omega) (Facts.ok_cons h.2.1 (Facts.ok_cons (by obtain⟨⟨h1,h2,h3⟩,h4,h5⟩:=h;rw[deq_t];simp only[IE.den];omega) (Facts.ok_nil _))))))))
 have f1:∀{x:Rho} {j:Nat},((x.len 2=n∧x.len 471=n∧x.len 473=n)∧x.b 530=true∧x.i 531=0)→x.i 570=j→Facts.ok x r2F:=fun {x j} h hj=>Facts.ok_cons (by obtain⟨⟨h1,h2,h3⟩,h4,h5⟩:=h;rw[dlt_f];simp only[IE.den];omega) (Facts.ok_cons (by obtain⟨⟨h1,h2,h3⟩,h4,h5⟩:=h;rw[dlt_f];simp only[IE.den];omega) (Facts.ok_cons (by obtain⟨⟨h1,h2,h3⟩,h4,h5⟩:=h;rw[dlt_f];simp only[IE.den];omega) (Facts.ok_cons (by obtain⟨⟨h1,h2,h3⟩,h4,h5⟩:=h;rw[deq_t];simp only[IE.den];omega) (Facts.ok_cons (by obtain⟨⟨h1,h2,h3⟩,h4,h5⟩:=h;rw[deq_t];simp only[IE.den];omega) (Facts.ok_cons h.2.1 (Facts.ok_cons (by obtain⟨⟨h1,h2,h3⟩,h4,h5⟩:=h;rw[deq_t];simp only[IE.den];omega) (Facts.ok_nil _)))))))
 refine loopOk_famE (L:=r3) (N:=Try.f25.ntmps) (body:=r3_c) (P:=Try.prog) rfl r3_Eb r3S (r3R n) (fun _ ρ'=>ReR ρ' 571 471 506 n) (fun s ρ'=>match s with
  | 0=>n+1
  | _=>(n-ρ'.i 570).toNat) ?_
  ⟨0,r3_I0.ap ρ,a0,⟨keep a0 hn,trivial⟩,fun E _ hE=>okS_imp hE r3_I0ok ρ⟩
 rintro s ρ' ⟨hn',hs⟩
 match s,hs with
 | 0,_ =>
  have ag:Agree 570 ρ' (r3_A_b.ap ρ'):=Bind.agree r3_A_g _
  have up:(r3_A_b.ap ρ').i 570=1:=ap_i r3_A_570
  exact .inr ⟨1,r3_A_b.ap ρ',r3_A_step rfl (cN_ok _) (LpsOk.nil _ _ _ _) (f0 hn'),⟨keep ag hn',1,Nat.le_refl _,n1,up,ReR.one ag (by decide) (by decide) r3_A_r571⟩,by show(_:Int).toNat<n+1;rw[up];omega,ag⟩
 | s+1,⟨j,j1,j2,hj,hr⟩ =>
  by_cases c:j<n
  ·have ag:Agree 570 ρ' (r3_B_b.ap ρ'):=Bind.agree r3_B_g _
   have up:(r3_B_b.ap ρ').i 570=((j+1:Nat):Int):=(ap_i r3_B_570).trans (inc hj (by omega))
   have hl:=hr.1
   exact .inr ⟨1,r3_B_b.ap ρ',r3_B_step rfl (cN_ok _) (LpsOk.nil _ _ _ _) (Facts.ok_cons (by show(BE.lt (.var 570) (.len 471)).den ρ'=true;rw[dlt_t];simp only[IE.den];have:=hn';omega) (Facts.ok_cons (by rw[dlt_t];simp only[IE.den];have:=hn';omega) (Facts.ok_cons (by rw[dlt_t];simp only[IE.den];have:=hn';omega) (Facts.ok_cons (by rw[dlt_f];simp only[IE.den];omega) (f1 hn' hj))))),⟨keep ag hn',j+1,by omega,c,up,hr.app ag (by decide) (by decide) (i := .var 570) hj r3_B_r571⟩,by show(_:Int).toNat<(_:Int).toNat;rw[up,hj];omega,ag⟩
  ·obtain rfl:j=n:=by omega
   exact .inl ⟨ρ',Agree.refl _ _,hr,rfl,r3_X_end (cN_ok _) (LpsOk.nil _ _ _ _) (Facts.ok_cons (by show(BE.lt (.var 570) (.len 471)).den ρ'=false;rw[dlt_f];simp only[IE.den];have:=hn';omega) (f1 hn' hj)) rfl⟩
end Go.Proofs.Ytdlifdoglhhnfaa
namespace Go.Proofs.Ytdlifdoglhhnfaa
open Go Go.Proofs.Aw Go.Proofs.Xw
def sgp (e:IE):Facts:=[(.eq e (.lit 0),false),(.lt (.lit 0) e,true),(.lt e (.lit 0),false)]
def sgn (e:IE):Facts:=[(.eq e (.lit 0),false),(.lt (.lit 0) e,false),(.lt e (.lit 0),true)]
def sgz (e:IE):Facts:=[(.eq e (.lit 0),true),(.lt (.lit 0) e,false),(.lt e (.lit 0),false)]
def gFa:Facts:=fF++(sgp (.var 301)++(sgp (sA (1) (0))++(sgn (sB (0) (1))++(sgn (sA (-1) (2))++(sgp (sB (2) (-1))++(sgn (sA (-1) (-2))++(sgp (sB (-2) (-1))++(sgn (sA (-1) (0))++(sgp (sB (0) (-1)))))))))))
def gFb:Facts:=fF++(sgp (.var 301)++(sgp (sA (1) (0))++(sgn (sB (0) (1))++(sgn (sA (-1) (2))++(sgp (sB (2) (-1))++(sgz (sA (-1) (-2))++(sgz (sB (-2) (-1))++(sgn (sA (-1) (0))++(sgp (sB (0) (-1)))))))))))
def gFc:Facts:=fF++(sgp (.var 301)++(sgp (sA (1) (0))++(sgn (sB (0) (1))++(sgn (sA (-1) (2))++(sgp (sB (2) (-1))++(sgp (sA (-1) (-2))++(sgn (sB (-2) (-1))++(sgn (sA (-1) (0))++(sgp (sB (0) (-1)))))))))))
def gFd:Facts:=fF++(sgp (.var 301)++(sgp (sA (1) (0))++(sgn (sB (0) (1))++(sgz (sA (-1) (2))++(sgz (sB (2) (-1))++(sgn (sA (-1) (-2))++(sgp (sB (-2) (-1))++(sgn (sA (-1) (0))++(sgp (sB (0) (-1)))))))))))
def gFe:Facts:=fF++(sgp (.var 301)++(sgp (sA (1) (0))++(sgn (sB (0) (1))++(sgp (sA (-1) (2))++(sgn (sB (2) (-1))++(sgn (sA (-1) (-2))++(sgp (sB (-2) (-1))++(sgn (sA (-1) (0))++(sgp (sB (0) (-1)))))))))))
def gFf:Facts:=fF++(sgn (.var 301)++(sgn (sA (1) (0))++(sgp (sB (0) (1))++(sgp (sA (-1) (2))++(sgn (sB (2) (-1))++(sgp (sA (-1) (-2))++(sgn (sB (-2) (-1))++(sgp (sA (-1) (0))++(sgn (sB (0) (-1)))))))))))
def gFg:Facts:=fF++(sgn (.var 301)++(sgn (sA (1) (0))++(sgp (sB (0) (1))++(sgp (sA (-1) (2))++(sgn (sB (2) (-1))++(sgz (sA (-1) (-2))++(sgz (sB (-2) (-1))++(sgp (sA (-1) (0))++(sgn (sB (0) (-1)))))))))))
def gFh:Facts:=fF++(sgn (.var 301)++(sgn (sA (1) (0))++(sgp (sB (0) (1))++(sgp (sA (-1) (2))++(sgn (sB (2) (-1))++(sgn (sA (-1) (-2))++(sgp (sB (-2) (-1))++(sgp (sA (-1) (0))++(sgn (sB (0) (-1)))))))))))
def gFi:Facts:=fF++(sgn (.var 301)++(sgn (sA (1) (0))++(sgp (sB (0) (1))++(sgz (sA (-1) (2))++(sgz (sB (2) (-1))++(sgp (sA (-1) (-2))++(sgn (sB (-2) (-1))++(sgp (sA (-1) (0))++(sgn (sB (0) (-1)))))))))))
def gFj:Facts:=fF++(sgn (.var 301)++(sgn (sA (1) (0))++(sgp (sB (0) (1))++(sgn (sA (-1) (2))++(sgp (sB (2) (-1))++(sgp (sA (-1) (-2))++(sgn (sB (-2) (-1))++(sgp (sA (-1) (0))++(sgn (sB (0) (-1)))))))))))
def gFk:Facts:=fF++(sgz (.var 301)++(sgp (.var 300)++(sgz (sA (1) (0))++(sgz (sB (0) (1))++(sgn (sA (-1) (2))++(sgp (sB (2) (-1))++(sgp (sA (-1) (-2))++(sgn (sB (-2) (-1))++(sgz (sA (-1) (0))++(sgz (sB (0) (-1))))))))))))
def gFl:Facts:=fF++(sgz (.var 301)++(sgn (.var 300)++(sgz (sA (1) (0))++(sgz (sB (0) (1))++(sgp (sA (-1) (2))++(sgn (sB (2) (-1))++(sgn (sA (-1) (-2))++(sgp (sB (-2) (-1))++(sgz (sA (-1) (0))++(sgz (sB (0) (-1))))))))))))
def og1:T X:=(.ret (.sc (.i .i64 (.lit 0))))
theorem og1_run:askF ⟨cfgL ksF (fun _=>[]),l_able,[37,58]⟩ 45 ([sX 0,lX 1]) fF=og1:=by kernel_rfl
def oga3:T X:=(.ret (.sc (.i .i64 (.lit 0))))
theorem oga3_run:askF ⟨cfgL ksF (fun _=>[]),l_able,[37,58]⟩ 45 ([sX 0,lX 3]) gFa=oga3:=by kernel_rfl
def ogb3:T X:=(.ret (.sc (.i .i64 (.lit 0))))
theorem ogb3_run:askF ⟨cfgL ksF (fun _=>[]),l_able,[37,58]⟩ 45 ([sX 0,lX 3]) gFb=ogb3:=by kernel_rfl
def ogc3:T X:=(.ret (.sc (.i .i64 (.lit 0))))
theorem ogc3_run:askF ⟨cfgL ksF (fun _=>[]),l_able,[37,58]⟩ 45 ([sX 0,lX 3]) gFc=ogc3:=by kernel_rfl
def ogd3:T X:=(.ret (.sc (.i .i64 (.lit 1))))
theorem ogd3_run:askF ⟨cfgL ksF (fun _=>[]),l_able,[37,58]⟩ 45 ([sX 0,lX 3]) gFd=ogd3:=by kernel_rfl
def oge3:T X:=(.ret (.sc (.i .i64 (.lit 1))))
theorem oge3_run:askF ⟨cfgL ksF (fun _=>[]),l_able,[37,58]⟩ 45 ([sX 0,lX 3]) gFe=oge3:=by kernel_rfl
def ogf3:T X:=(.ret (.sc (.i .i64 (.lit 2))))
theorem ogf3_run:askF ⟨cfgL ksF (fun _=>[]),l_able,[37,58]⟩ 45 ([sX 0,lX 3]) gFf=ogf3:=by kernel_rfl
def ogg3:T X:=(.ret (.sc (.i .i64 (.lit 2))))
theorem ogg3_run:askF ⟨cfgL ksF (fun _=>[]),l_able,[37,58]⟩ 45 ([sX 0,lX 3]) gFg=ogg3:=by kernel_rfl
def ogh3:T X:=(.ret (.sc (.i .i64 (.lit 1))))
theorem ogh3_run:askF ⟨cfgL ksF (fun _=>[]),l_able,[37,58]⟩ 45 ([sX 0,lX 3]) gFh=ogh3:=by kernel_rfl
def ogi3:T X:=(.ret (.sc (.i .i64 (.lit 2))))
theorem ogi3_run:askF ⟨cfgL ksF (fun _=>[]),l_able,[37,58]⟩ 45 ([sX 0,lX 3]) gFi=ogi3:=by kernel_rfl
def ogj3:T X:=(.ret (.sc (.i .i64 (.lit 2))))
theorem ogj3_run:askF ⟨cfgL ksF (fun _=>[]),l_able,[37,58]⟩ 45 ([sX 0,lX 3]) gFj=ogj3:=by kernel_rfl
def ogk3:T X:=(.ret (.sc (.i .i64 (.lit 0))))
theorem ogk3_run:askF ⟨cfgL ksF (fun _=>[]),l_able,[37,58]⟩ 45 ([sX 0,lX 3]) gFk=ogk3:=by kernel_rfl
def ogl3:T X:=(.ret (.sc (.i .i64 (.lit 1))))
theorem ogl3_run:askF ⟨cfgL ksF (fun _=>[]),l_able,[37,58]⟩ 45 ([sX 0,lX 3]) gFl=ogl3:=by kernel_rfl
def oga2:T X:=(.ret (.sc (.i .i64 (.lit 0))))
theorem oga2_run:askF ⟨cfgL ksF (fun _=>[]),l_able,[37,58]⟩ 45 ([sX 0,lX 2]) gFa=oga2:=by kernel_rfl
def ogb2:T X:=(.ret (.sc (.i .i64 (.lit 0))))
theorem ogb2_run:askF ⟨cfgL ksF (fun _=>[]),l_able,[37,58]⟩ 45 ([sX 0,lX 2]) gFb=ogb2:=by kernel_rfl
def ogc2:T X:=(.ret (.sc (.i .i64 (.lit 0))))
theorem ogc2_run:askF ⟨cfgL ksF (fun _=>[]),l_able,[37,58]⟩ 45 ([sX 0,lX 2]) gFc=ogc2:=by kernel_rfl
def ogd2:T X:=(.ret (.sc (.i .i64 (.lit 0))))
theorem ogd2_run:askF ⟨cfgL ksF (fun _=>[]),l_able,[37,58]⟩ 45 ([sX 0,lX 2]) gFd=ogd2:=by kernel_rfl
def oge2:T X:=(.ret (.sc (.i .i64 (.lit 0))))
theorem oge2_run:askF ⟨cfgL ksF (fun _=>[]),l_able,[37,58]⟩ 45 ([sX 0,lX 2]) gFe=oge2:=by kernel_rfl
def ogf2:T X:=(.ret (.sc (.i .i64 (.lit 1))))
theorem ogf2_run:askF ⟨cfgL ksF (fun _=>[]),l_able,[37,58]⟩ 45 ([sX 0,lX 2]) gFf=ogf2:=by kernel_rfl
def ogg2:T X:=(.ret (.sc (.i .i64 (.lit 1))))
theorem ogg2_run:askF ⟨cfgL ksF (fun _=>[]),l_able,[37,58]⟩ 45 ([sX 0,lX 2]) gFg=ogg2:=by kernel_rfl
def ogh2:T X:=(.ret (.sc (.i .i64 (.lit 1))))
theorem ogh2_run:askF ⟨cfgL ksF (fun _=>[]),l_able,[37,58]⟩ 45 ([sX 0,lX 2]) gFh=ogh2:=by kernel_rfl
def ogi2:T X:=(.ret (.sc (.i .i64 (.lit 1))))
theorem ogi2_run:askF ⟨cfgL ksF (fun _=>[]),l_able,[37,58]⟩ 45 ([sX 0,lX 2]) gFi=ogi2:=by kernel_rfl
def ogj2:T X:=(.ret (.sc (.i .i64 (.lit 1))))
theorem ogj2_run:askF ⟨cfgL ksF (fun _=>[]),l_able,[37,58]⟩ 45 ([sX 0,lX 2]) gFj=ogj2:=by kernel_rfl
def ogk2:T X:=(.ret (.sc (.i .i64 (.lit 0))))
theorem ogk2_run:askF ⟨cfgL ksF (fun _=>[]),l_able,[37,58]⟩ 45 ([sX 0,lX 2]) gFk=ogk2:=by kernel_rfl
def ogl2:T X:=(.ret (.sc (.i .i64 (.lit 1))))
theorem ogl2_run:askF ⟨cfgL ksF (fun _=>[]),l_able,[37,58]⟩ 45 ([sX 0,lX 2]) gFl=ogl2:=by kernel_rfl
end Go.Proofs.Ytdlifdoglhhnfaa
