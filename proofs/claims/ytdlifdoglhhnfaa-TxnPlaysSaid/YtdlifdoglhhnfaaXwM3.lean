/- Parts of the logic that the proof runs in, one behind the other. -/
import Derived.Test.YtdlifdoglhhnfaaXwM2
import Derived.Handed
namespace Go.Proofs.Xw
open Go Go.Proofs.Aw
def T.outs:T (XE×XS)→T (XE×XS)
 | .ret (.normal,_) => .fail []
 | .ret (.exit j,s) => .ret (.exit j,s)
 | .ret (.ret,s) => .ret (.ret,s)
 | .br c x y => .br c x.outs y.outs
 | .need c x => .need c x.outs
 | .fail w => .fail w
theorem T.outs_sel {ρ:Rho} {e:XE} {s:XS} (he:e ≠ .normal):∀{t:T (XE×XS)},t.sel ρ=some (e,s)→t.outs.sel ρ=some (e,s)
 | .ret (.normal,_),h=>by cases h;exact absurd rfl he
 | .ret (.exit j,s),h=>h
 | .ret (.ret,s),h=>h
 | .br c x y,h=>by
  simp only[T.sel]at h
  simp only[T.outs,T.sel]
  split
  ·rename_i hc;rw[if_pos hc]at h;exact T.outs_sel he h
  ·rename_i hc;rw[if_neg hc]at h;exact T.outs_sel he h
 | .need c x,h=>by
  simp only[T.sel]at h
  simp only[T.outs,T.sel]
  split
  ·rename_i hc;rw[if_pos hc]at h;exact T.outs_sel he h
  ·rename_i hc;rw[if_neg hc]at h;cases h
 | .fail _,h=>by cases h
def T.belX (n:Nat):T (XE×XS)→Bool
 | .ret (_,s)=>s.bel n
 | .br c x y=>c.bel n&&(x.belX n&&y.belX n)
 | .need c x=>c.bel n&&x.belX n
 | .fail _=>true
theorem T.belX_sel {n:Nat} {ρ ρ':Rho} (h:Agree n ρ ρ') {e:XE} {s:XS}:∀{t:T (XE×XS)},t.belX n=true→t.sel ρ=some (e,s)→t.sel ρ'=some (e,s)∧s.den ρ=s.den ρ'
 | .ret (_,s'),hb,hs=>by cases hs;exact⟨rfl,XS.bel_den h _ hb⟩
 | .br c x y,hb,hs=>by
  simp only[T.belX,Bool.and_eq_true]at hb
  simp only[T.sel]at hs ⊢
  rw[←BE.bel_den h c hb.1]
  split
  ·rename_i hc;rw[if_pos hc]at hs;exact T.belX_sel h hb.2.1 hs
  ·rename_i hc;rw[if_neg hc]at hs;exact T.belX_sel h hb.2.2 hs
 | .need c x,hb,hs=>by
  simp only[T.belX,Bool.and_eq_true]at hb
  simp only[T.sel]at hs ⊢
  rw[←BE.bel_den h c hb.1]
  split
  ·rename_i hc;rw[if_pos hc]at hs;exact T.belX_sel h hb.2 hs
  ·rename_i hc;rw[if_neg hc]at hs;cases hs
 | .fail _,_,hs=>by cases hs
def T.nrm (p:XS→Bool):T (XE×XS)→Bool
 | .ret (.normal,s)=>p s
 | .ret _=>true
 | .br _ x y=>x.nrm p&&y.nrm p
 | .need _ x=>x.nrm p
 | .fail _=>true
theorem T.nrm_sel {p:XS→Bool} {ρ:Rho} {s:XS}:∀{t:T (XE×XS)},t.nrm p=true→t.sel ρ=some (.normal,s)→p s=true
 | .ret (.normal,_),h,hs=>by cases hs;exact h
 | .ret (.exit j,_),_,hs=>by cases hs
 | .ret (.ret,_),_,hs=>by cases hs
 | .br c x y,h,hs=>by
  simp only[T.nrm,Bool.and_eq_true]at h
  simp only[T.sel]at hs
  split at hs
  ·exact T.nrm_sel h.1 hs
  ·exact T.nrm_sel h.2 hs
 | .need c x,h,hs=>by
  simp only[T.sel]at hs
  split at hs
  ·exact T.nrm_sel (t:=x) h hs
  ·cases hs
 | .fail _,_,hs=>by cases hs
def sqz (ks:List Nat) (p:XE×XS):XE×XS:=(p.1,⟨sqK p.2.t ks [] [],p.2.h,p.2.nx⟩)
theorem sqz_le (ks:List Nat) (ρ:Rho) (p:XE×XS):LeS ((sqz ks p).2.den ρ) (p.2.den ρ):=by
 refine⟨fun i => ?_,fun m cs hcs=>⟨cs,hcs,LeC.refl cs⟩,Nat.le_refl _⟩
 simp only[XS.den,sqz,tget_denT,tget_sqK]
 split
 ·exact LeA.refl _
 ·simp only[tgetX,X.den];exact LeA.top _
theorem loopOk_of {P:Program} {ρ:Rho} {N:Nat} {body:Code} {L:LoopX} {ti:Nat→Option TI} {call:CallF} {ms:List Nat} {lps:List LoopX} {fuel:Nat} (hm:P.follows .mixedOrders=true) (hti:TIs.ok P ti)
  {Φ:Facts} {tr:T (XE×XS)} (hrun:(codeX ti call ms L.k0 lps fuel body Φ L.S).map (sqz (L.S.t.map (·.1)))=tr) (hfit:fitsC N body=true) {β:Bind} {nm:List (Nm×Nm)} (hback:tr.nrm (okS L.k0 L.n β nm L.S)=true) (hout:L.out=tr.outs)
  (B:Nat) (hbel:tr.outs.belX B=true) (R:Nat→Rho→Prop) (h0:∃k,R k (L.init.ap ρ))
  (hR:∀k ρ',R k ρ'→CallOk P ρ' call∧LpsOk P ρ' N lps body∧Facts.ok ρ' Φ ∧
   ((∃e s,e≠XE.normal∧tr.sel ρ'=some (e,s)∧Agree B ρ' ρ)∨∃s,tr.sel ρ'=some (.normal,s)∧∃k',k'<k∧R k' (β.ap ρ'))):LoopOk P ρ N body L:=by
 intro E hE hb
 obtain⟨k,hk⟩:=h0
 refine AW_loop (fun k σ=>∃ρ',R k ρ'∧σ=L.S.den ρ') k ⟨_,impRefl _ _,_,hk,rfl⟩ (fun k σ hσ => ?_)
 obtain⟨ρ',hR',rfl⟩:=hσ
 obtain⟨hcall,hl,hΦ,ho⟩:=hR k ρ' hR'
 have run:∀(e:XE) (s:XS),tr.sel ρ'=some (e,s)→AW P E body (fun e' s'=>e'=e.to∧Imp E s' (s.den ρ')) (L.S.den ρ'):=fun e s hs=>by
  rw[←hrun]at hs
  obtain⟨q,hq,he⟩:=T.sel_map _ hs
  have g:=codeX_goes (E:=E) hm hti hcall hb body Φ L.S q.1 q.2 hΦ (by rw[hE];exact hfit) (by rw[hE];exact hl) hq
  have h1:=congrArg Prod.fst he
  have h2:=congrArg Prod.snd he
  simp only at h1 h2
  subst h1 h2
  exact AW_mono (fun e' s' hh=>⟨hh.1,impLe hh.2 (sqz_le _ ρ' q)⟩) g
 rcases ho with⟨e,s,he,hs,hag⟩ | ⟨s,hs,k',hlt,hk'⟩
 ·have g:=run e s hs
  refine AW_mono (fun e' s' hq => ?_) g
  obtain⟨rfl,hi⟩:=hq
  obtain⟨h1,h2⟩:=T.belX_sel hag hbel (T.outs_sel he hs)
  have fin:∃e' s'',L.out.sel ρ=some (e',s'')∧e.to=e'.to∧Imp E s' (s''.den ρ):=⟨e,s,by rw[hout];exact h1,rfl,by rw[←h2];exact hi⟩
  cases e with
  | normal=>exact absurd rfl he
  | exit j=>exact fin
  | ret=>exact fin
 ·have g:=run .normal s hs
  refine AW_mono (fun e' s' hq => ?_) g
  obtain⟨rfl,hi⟩:=hq
  exact⟨k',_,hlt,impTrans hi (okS_imp hb (T.nrm_sel hback hs) ρ'),β.ap ρ',hk',rfl⟩
def Bind.it (β:Bind) (ρ:Rho):Nat→Rho
 | 0=>ρ
 | j+1=>β.ap (β.it ρ j)
theorem Bind.it_agree {n:Nat} {β:Bind} (h:β.ge n=true) (ρ:Rho):∀j,Agree n ρ (β.it ρ j)
 | 0=>Agree.refl _ _
 | j+1=>(Bind.it_agree h ρ j).trans (Bind.agree h _)
def keysSame {α β:Type}:List (Nat×α)→List (Nat×β)→Bool
 | [],[]=>true
 | (a,_)::r,(b,_)::s=>Nat.beq a b&&keysSame r s
 | _,_=>false
theorem lassoc_same {α β:Type} {k:Nat}:∀{l:List (Nat×α)} {m:List (Nat×β)},keysSame l m=true→(lassoc k l=none↔lassoc k m=none)
 | [],[],_=>⟨fun _=>rfl,fun _=>rfl⟩
 | [],_::_,h=>by cases h
 | _::_,[],h=>by simp[keysSame]at h
 | (a,v)::r,(b,w)::s,h=>by
  simp only[keysSame,Bool.and_eq_true]at h
  have ha:=Nat.eq_of_beq_eq_true h.1
  subst ha
  simp only[lassoc]
  split
  ·simp
  ·exact lassoc_same h.2
def Bind.same (β γ:Bind):Bool:=keysSame β.i γ.i&&(keysSame β.b γ.b&&(keysSame β.s γ.s&&keysSame β.r γ.r))
def keysBel {α:Type} (f:α→Bool):List (Nat×α)→Bool
 | []=>true
 | (_,v)::r=>f v&&keysBel f r
theorem lassoc_bel {α:Type} {f:α→Bool} {k:Nat} {v:α}:∀{l:List (Nat×α)},keysBel f l=true→lassoc k l=some v→f v=true
 | [],_,h=>by cases h
 | (a,w)::r,hb,h=>by
  simp only[keysBel,Bool.and_eq_true]at hb
  simp only[lassoc]at h
  split at h
  ·cases h;exact hb.1
  ·exact lassoc_bel hb.2 h
def Bind.bel (n:Nat) (β:Bind):Bool:=keysBel (IE.bel n) β.i&&(keysBel (BE.bel n) β.b&&(keysBel (TE.bel n) β.s&&keysBel (fun p:IE×RL=>p.1.bel n&&p.2.bel n) β.r))
theorem Bind.ap_congr {n m:Nat} {β:Bind} (hb:β.bel n=true) {ρ ρ':Rho} (h:Agree n ρ ρ') (_hm:Agree m ρ ρ'∨m=n):Agree (Nat.min n m) (β.ap ρ) (β.ap ρ'):=by
 simp only[Bind.bel,Bool.and_eq_true]at hb
 obtain⟨h1,h2,h3,h4⟩:=hb
 have hn:=h.le (Nat.min_le_left n m)
 refine⟨fun k hk => ?_,fun k hk => ?_,fun k hk => ?_,fun k hk => ?_,fun k hk => ?_,fun k hk => ?_,fun k hk => ?_⟩
 ·simp only[Bind.ap]
  cases he:lassoc k β.i with
  | none=>exact hn.i k hk
  | some e=>exact IE.bel_den h e (lassoc_bel h1 he)
 ·simp only[Bind.ap]
  cases he:lassoc k β.b with
  | none=>exact hn.b k hk
  | some e=>exact BE.bel_den h e (lassoc_bel h2 he)
 ·simp only[Bind.ap]
  cases he:lassoc k β.s with
  | none=>exact hn.s k hk
  | some e=>exact TE.bel_den h e (lassoc_bel h3 he)
 ·simp only[Bind.ap]
  cases he:lassoc k β.r with
  | none=>exact hn.len k hk
  | some e =>
   have:=lassoc_bel h4 he
   simp only[Bool.and_eq_true]at this
   simp only[IE.bel_den h e.1 this.1]
 all_goals
  funext a b
  simp only[Bind.ap]
  cases he:lassoc k β.r with
  | none=>first | exact congrFun (congrFun (hn.ci k hk) a) b | exact congrFun (congrFun (hn.cb k hk) a) b | exact congrFun (congrFun (hn.cs k hk) a) b
  | some e =>
   have:=lassoc_bel h4 he
   simp only[Bool.and_eq_true]at this
   simp only[RL.bel_row h e.2 _ this.2]
theorem Bind.init_it {n:Nat} {ι β:Bind} (hi:ι.bel n=true) (hb:β.ge n=true) (hs:ι.same β=true) (ρ:Rho) (j:Nat):ι.ap (β.it (ι.ap ρ) j)=ι.ap ρ:=by
 simp only[Bind.same,Bool.and_eq_true]at hs
 obtain⟨s1,s2,s3,s4⟩:=hs
 simp only[Bind.bel,Bool.and_eq_true]at hi
 obtain⟨h1,h2,h3,h4⟩:=hi
 have stay:∀j,(∀k,lassoc k ι.i=none→(β.it (ι.ap ρ) j).i k=ρ.i k)∧(∀k,lassoc k ι.b=none→(β.it (ι.ap ρ) j).b k=ρ.b k)∧(∀k,lassoc k ι.s=none→(β.it (ι.ap ρ) j).s k=ρ.s k) ∧
   (∀k,lassoc k ι.r=none→(β.it (ι.ap ρ) j).len k=ρ.len k∧(β.it (ι.ap ρ) j).ci k=ρ.ci k∧(β.it (ι.ap ρ) j).cb k=ρ.cb k∧(β.it (ι.ap ρ) j).cs k=ρ.cs k):=by
  intro j
  induction j with
  | zero =>
   refine⟨fun k hk => ?_,fun k hk => ?_,fun k hk => ?_,fun k hk=>⟨?_,?_,?_,?_⟩⟩
   ·simp only[Bind.it,Bind.ap,hk]
   ·simp only[Bind.it,Bind.ap,hk]
   ·simp only[Bind.it,Bind.ap,hk]
   ·simp only[Bind.it,Bind.ap,hk]
   ·funext a b;simp only[Bind.it,Bind.ap,hk]
   ·funext a b;simp only[Bind.it,Bind.ap,hk]
   ·funext a b;simp only[Bind.it,Bind.ap,hk]
  | succ j ih =>
   obtain⟨i1,i2,i3,i4⟩:=ih
   refine⟨fun k hk => ?_,fun k hk => ?_,fun k hk => ?_,fun k hk=>⟨?_,?_,?_,?_⟩⟩
   ·have:=(lassoc_same s1).1 hk
    simp only[Bind.it];rw[show(β.ap (β.it (ι.ap ρ) j)).i k=(β.it (ι.ap ρ) j).i k from by simp only[Bind.ap,this]];exact i1 k hk
   ·have:=(lassoc_same s2).1 hk
    simp only[Bind.it];rw[show(β.ap (β.it (ι.ap ρ) j)).b k=(β.it (ι.ap ρ) j).b k from by simp only[Bind.ap,this]];exact i2 k hk
   ·have:=(lassoc_same s3).1 hk
    simp only[Bind.it];rw[show(β.ap (β.it (ι.ap ρ) j)).s k=(β.it (ι.ap ρ) j).s k from by simp only[Bind.ap,this]];exact i3 k hk
   ·have:=(lassoc_same s4).1 hk
    simp only[Bind.it];rw[show(β.ap (β.it (ι.ap ρ) j)).len k=(β.it (ι.ap ρ) j).len k from by simp only[Bind.ap,this]];exact(i4 k hk).1
   ·have:=(lassoc_same s4).1 hk
    simp only[Bind.it];rw[show(β.ap (β.it (ι.ap ρ) j)).ci k=(β.it (ι.ap ρ) j).ci k from by funext a b;simp only[Bind.ap,this]];exact(i4 k hk).2.1
   ·have:=(lassoc_same s4).1 hk
    simp only[Bind.it];rw[show(β.ap (β.it (ι.ap ρ) j)).cb k=(β.it (ι.ap ρ) j).cb k from by funext a b;simp only[Bind.ap,this]];exact(i4 k hk).2.2.1
   ·have:=(lassoc_same s4).1 hk
    simp only[Bind.it];rw[show(β.ap (β.it (ι.ap ρ) j)).cs k=(β.it (ι.ap ρ) j).cs k from by funext a b;simp only[Bind.ap,this]];exact(i4 k hk).2.2.2
 have hge:ι.ge n=true:=by
  simp only[Bind.ge,Bool.and_eq_true]at hb ⊢
  have ge:∀{α γ:Type} {l:List (Nat×α)} {m:List (Nat×γ)},keysSame l m=true→keysGe n m=true→keysGe n l=true:=by
   intro α γ l
   induction l with
   | nil=>intro m _ _;rfl
   | cons p l ih =>
    intro m h1 h2
    match m,h1,h2 with
    | q::m,h1,h2 =>
     simp only[keysSame,Bool.and_eq_true]at h1
     simp only[keysGe,Bool.and_eq_true]at h2 ⊢
     rw[Nat.eq_of_beq_eq_true h1.1]
     exact⟨h2.1,ih h1.2 h2.2⟩
  exact⟨ge s1 hb.1,ge s2 hb.2.1,ge s3 hb.2.2.1,ge s4 hb.2.2.2⟩
 have hag:Agree n (β.it (ι.ap ρ) j) ρ:=((Bind.agree hge ρ).trans (Bind.it_agree hb _ j)).symm
 obtain⟨i1,i2,i3,i4⟩:=stay j
 have ext:∀{a b:Rho},a.i=b.i→a.b=b.b→a.s=b.s→a.len=b.len→a.ci=b.ci→a.cb=b.cb→a.cs=b.cs→a=b:=fun {a b} q1 q2 q3 q4 q5 q6 q7=>by
  cases a;cases b;simp only at q1 q2 q3 q4 q5 q6 q7;subst q1 q2 q3 q4 q5 q6 q7;rfl
 refine ext ?_ ?_ ?_ ?_ ?_ ?_ ?_
 ·funext k;simp only[Bind.ap]
  cases he:lassoc k ι.i with
  | none=>exact i1 k he
  | some e=>exact IE.bel_den hag e (lassoc_bel h1 he)
 ·funext k;simp only[Bind.ap]
  cases he:lassoc k ι.b with
  | none=>exact i2 k he
  | some e=>exact BE.bel_den hag e (lassoc_bel h2 he)
 ·funext k;simp only[Bind.ap]
  cases he:lassoc k ι.s with
  | none=>exact i3 k he
  | some e=>exact TE.bel_den hag e (lassoc_bel h3 he)
 ·funext k;simp only[Bind.ap]
  cases he:lassoc k ι.r with
  | none=>exact(i4 k he).1
  | some e =>
   have:=lassoc_bel h4 he
   simp only[Bool.and_eq_true]at this
   exact congrArg Int.toNat (IE.bel_den hag e.1 this.1)
 ·funext k a b;simp only[Bind.ap]
  cases he:lassoc k ι.r with
  | none=>exact congrFun (congrFun (i4 k he).2.1 a) b
  | some e =>
   have:=lassoc_bel h4 he
   simp only[Bool.and_eq_true]at this
   exact congrArg (fun r:List AV=>cellI r[a]?) (RL.bel_row hag e.2 b this.2)
 ·funext k a b;simp only[Bind.ap]
  cases he:lassoc k ι.r with
  | none=>exact congrFun (congrFun (i4 k he).2.2.1 a) b
  | some e =>
   have:=lassoc_bel h4 he
   simp only[Bool.and_eq_true]at this
   exact congrArg (fun r:List AV=>cellB r[a]?) (RL.bel_row hag e.2 b this.2)
 ·funext k a b;simp only[Bind.ap]
  cases he:lassoc k ι.r with
  | none=>exact congrFun (congrFun (i4 k he).2.2.2 a) b
  | some e =>
   have:=lassoc_bel h4 he
   simp only[Bool.and_eq_true]at this
   exact congrArg (fun r:List AV=>cellS r[a]?) (RL.bel_row hag e.2 b this.2)
theorem loopOk_it {P:Program} {ρ:Rho} {N:Nat} {body:Code} {L:LoopX} {ti:Nat→Option TI} {call:CallF} {ms:List Nat} {lps:List LoopX} {fuel:Nat} (hm:P.follows .mixedOrders=true) (hti:TIs.ok P ti)
  {Φ:Facts} {tr:T (XE×XS)} (hrun:(codeX ti call ms L.k0 lps fuel body Φ L.S).map (sqz (L.S.t.map (·.1)))=tr) (hfit:fitsC N body=true) {β:Bind} {nm:List (Nm×Nm)} (hback:tr.nrm (okS L.k0 L.n β nm L.S)=true) (hout:L.out=tr.outs)
  (B:Nat) (hbel:tr.outs.belX B=true) (hi:L.init.bel L.n=true) (hb:β.ge L.n=true) (hs:L.init.same β=true) (n:Nat)
  (hR:∀j,j≤n→CallOk P (β.it (L.init.ap ρ) j) call∧LpsOk P (β.it (L.init.ap ρ) j) N lps body∧Facts.ok (β.it (L.init.ap ρ) j) Φ ∧
   (if j<n then ∃s,tr.sel (β.it (L.init.ap ρ) j)=some (.normal,s)else ∃e s,e≠XE.normal∧tr.sel (β.it (L.init.ap ρ) j)=some (e,s))):LoopOk P (β.it (L.init.ap ρ) n) N body L:=by
 refine loopOk_of hm hti hrun hfit hback hout B hbel (fun k ρ'=>∃j,j+k=n∧ρ'=β.it (L.init.ap ρ) j) ⟨n,0,by omega,Bind.init_it hi hb hs ρ n⟩ ?_
 rintro k ρ' ⟨j,hj,rfl⟩
 obtain⟨h1,h2,h3,h4⟩:=hR j (by omega)
 refine⟨h1,h2,h3,?_⟩
 by_cases hjn:j<n
 ·rw[if_pos hjn]at h4
  obtain⟨s,h4⟩:=h4
  exact .inr ⟨s,h4,k-1,by omega,j+1,by omega,rfl⟩
 ·rw[if_neg hjn]at h4
  obtain⟨e,s,he,h4⟩:=h4
  obtain rfl:j=n:=by omega
  exact .inl ⟨e,s,he,h4,Agree.refl _ _⟩
theorem LoopOk.agree {P:Program} {ρ ρ':Rho} {N:Nat} {body:Code} {L:LoopX} {B:Nat} (hS:L.S.bel B=true) (hi:L.init.bel B=true) (ho:L.out.belX B=true) (h:Agree B ρ ρ') (hL:LoopOk P ρ N body L):LoopOk P ρ' N body L:=by
 intro E hE hb
 have h1:=hL E hE hb
 have h2:Agree B (L.init.ap ρ) (L.init.ap ρ'):=by
  have:=Bind.ap_congr (m:=B) hi h (.inr rfl)
  rwa[show Nat.min B B=B from Nat.min_self B]at this
 rw[XS.bel_den h2 L.S hS]at h1
 refine AW_mono (fun e s hq => ?_) h1
 obtain⟨e',s',q1,q2,q3⟩:=hq
 obtain⟨g1,g2⟩:=T.belX_sel h ho q1
 exact⟨e',s',g1,q2,by rw[←g2];exact q3⟩
end Go.Proofs.Xw
namespace Go.Proofs.Xw
open Go Go.Proofs.Aw
theorem wrap_id (x:Int) (h0 : -9223372036854775808≤x) (h1:x<9223372036854775808):IntKind.i64.wrap x=x:=IntWalk.i64_in x ⟨by omega,by omega⟩
theorem it_count {β:Bind} {I:Nat} {e:IE} (hI:lassoc I β.i=some (.op .add .i64 (.var I) (.lit 1))) {ρ:Rho} (h0:ρ.i I=0):∀j:Nat,j<9223372036854775808→(β.it ρ j).i I=j
 | 0,_=>by simpa [Bind.it]using h0
 | j+1,hj=>by
  have ih:=it_count (e:=e) hI h0 j (by omega)
  simp only[Bind.it]
  rw[show(β.ap (β.it ρ j)).i I=IE.den (β.it ρ j) (.op .add .i64 (.var I) (.lit 1))from by simp only[Bind.ap,hI]]
  simp only[IE.den,IOp.den,ih]
  rw[wrap_id _ (by omega) (by omega)]
  omega
theorem Facts.bel_ok {n:Nat} {ρ ρ':Rho} (h:Agree n ρ ρ') {Φ:Facts} (hb:Φ.all (fun p=>p.1.bel n)=true) (hk:Facts.ok ρ Φ):Facts.ok ρ' Φ:=fun p hp=>by
 rw[←BE.bel_den h p.1 (List.all_eq_true.1 hb p hp)]
 exact hk p hp
theorem loopOk_cntG {P:Program} {ρ:Rho} {N:Nat} {body:Code} {L:LoopX} {ti:Nat→Option TI} {call:CallF} {ms:List Nat} {lps:List LoopX} {fuel:Nat} (hm:P.follows .mixedOrders=true) (hti:TIs.ok P ti)
  {Φ:Facts} {tr:T (XE×XS)} (hrun:(codeX ti call ms L.k0 lps fuel body Φ L.S).map (sqz (L.S.t.map (·.1)))=tr) (hfit:fitsC N body=true) {β:Bind} {nm:List (Nm×Nm)} (hback:tr.nrm (okS L.k0 L.n β nm L.S)=true) (hout:L.out=tr.outs)
  (B:Nat) (hbel:tr.outs.belX B=true) (hi:L.init.bel L.n=true) (hb:β.ge L.n=true) (hs:L.init.same β=true)
  {I:Nat} (hI:lassoc I β.i=some (.op .add .i64 (.var I) (.lit 1))) (hI0:lassoc I L.init.i=some (.lit 0)) {Φ0:Facts} (hΦ:Φ=(.lt (.var I) (.lit 0),false)::Φ0) (hΦb:Φ0.all (fun p=>p.1.bel L.n)=true) (hΦ0:Facts.ok ρ Φ0) (hge:L.init.ge L.n=true)
  (hcall:∀ρ',CallOk P ρ' call) (hlps:∀ρ',LpsOk P ρ' N lps body) (n:Nat) (hn:n<9223372036854775808)
  (hgo:∀j,j<n→(β.it (L.init.ap ρ) j).i I=j→Agree L.n ρ (β.it (L.init.ap ρ) j)→∃s,tr.sel (β.it (L.init.ap ρ) j)=some (.normal,s))
  (hend:(β.it (L.init.ap ρ) n).i I=n→Agree L.n ρ (β.it (L.init.ap ρ) n)→∃e s,e≠XE.normal∧tr.sel (β.it (L.init.ap ρ) n)=some (e,s)):LoopOk P (β.it (L.init.ap ρ) n) N body L:=by
 have cnt:=fun j=>it_count (e := .lit 0) hI (ρ:=L.init.ap ρ) (by simp only[Bind.ap,hI0];rfl) j
 have ag:=fun j=>(Bind.agree hge ρ).trans (Bind.it_agree hb (L.init.ap ρ) j)
 refine loopOk_it hm hti hrun hfit hback hout B hbel hi hb hs n fun j hj=>⟨hcall _,hlps _,?_,?_⟩
 ·rw[hΦ]
  refine Facts.ok_cons ?_ (Facts.bel_ok (ag j) hΦb hΦ0)
  simp only[BE.den,IE.den,cnt j (by omega)]
  exact decide_eq_false (by omega)
 ·by_cases hjn:j<n
  ·rw[if_pos hjn]
   exact hgo j hjn (cnt j (by omega)) (ag j)
  ·obtain rfl:j=n:=by omega
   rw[if_neg hjn]
   exact hend (cnt j (by omega)) (ag j)
theorem loopOk_cntE {P:Program} {ρ:Rho} {N:Nat} {body:Code} {L:LoopX} {ti:Nat→Option TI} {call:CallF} {ms:List Nat} {lps:List LoopX} {fuel:Nat} (hm:P.follows .mixedOrders=true) (hti:TIs.ok P ti)
  {Φ:Facts} {tr:T (XE×XS)} (hrun:(codeX ti call ms L.k0 lps fuel body Φ L.S).map (sqz (L.S.t.map (·.1)))=tr) (hfit:fitsC N body=true) {β:Bind} {nm:List (Nm×Nm)} (hback:tr.nrm (okS L.k0 L.n β nm L.S)=true) (hout:L.out=tr.outs)
  (B:Nat) (hbel:tr.outs.belX B=true) (hi:L.init.bel L.n=true) (hb:β.ge L.n=true) (hs:L.init.same β=true)
  {I:Nat} {e:IE} {s1 s2:XS} {e2:XE} (htr:tr = .br (.lt (.var I) e) (.ret (.normal,s1)) (.ret (e2,s2))) (he2:e2 ≠ .normal) (hI:lassoc I β.i=some (.op .add .i64 (.var I) (.lit 1))) (hI0:lassoc I L.init.i=some (.lit 0)) (he:e.bel L.n=true)
  {Φ0:Facts} (hΦ:Φ=(.lt (.var I) (.lit 0),false)::Φ0) (hΦb:Φ0.all (fun p=>p.1.bel L.n)=true) (hΦ0:Facts.ok ρ Φ0) (hge:L.init.ge L.n=true)
  (hcall:∀ρ',CallOk P ρ' call) (hlps:∀ρ',LpsOk P ρ' N lps body) (n:Nat) (hn:n<9223372036854775808) (hen:e.den ρ=n):LoopOk P (β.it (L.init.ap ρ) n) N body L:=by
 refine loopOk_cntG hm hti hrun hfit hback hout B hbel hi hb hs hI hI0 hΦ hΦb hΦ0 hge hcall hlps n hn (fun j hj hc ha=>⟨s1,?_⟩) (fun hc ha=>⟨e2,s2,he2,?_⟩)
 ·rw[htr]
  simp only[T.sel,BE.den,←IE.bel_den ha e he,hen,IE.den,hc]
  rw[if_pos (decide_eq_true (by omega))]
 ·rw[htr]
  simp only[T.sel,BE.den,←IE.bel_den ha e he,hen,IE.den,hc]
  rw[if_neg (by simp)]
def othersB (lps:List LoopX) (ks:List Nat):Nat→List Code→Bool
 | _,[]=>true
 | k,c::r=>(natIn k ks||(lookL (codeKey c) lps).isEmpty)&&othersB lps ks (k+1) r
theorem natIn_mem {k:Nat}:∀{l:List Nat},natIn k l=true→k∈l
 | [],h=>by cases h
 | a::r,h=>by
  simp only[natIn,Bool.or_eq_true]at h
  rcases h with h | h
  ·rw[Nat.eq_of_beq_eq_true h];exact List.mem_cons_self
  ·exact List.mem_cons_of_mem _ (natIn_mem h)
theorem lps_idx {P:Program} {ρ:Rho} {N:Nat} {lps:List LoopX} {c:Code} (ks:List Nat) (ho:othersB lps ks 0 (loopsOf c)=true)
  (h:∀k∈ks,∀L∈lookL (codeKey ((loopsOf c)[k]?.getD .skip)) lps,LoopOk P ρ N ((loopsOf c)[k]?.getD .skip) L):LpsOk P ρ N lps c:=by
 unfold LpsOk
 generalize hl:loopsOf c=l at h ho ⊢
 have key:∀(r:List Code) (k0:Nat),othersB lps ks k0 r=true→(∀j,r[j]? = l[k0+j]?)→∀c'∈r,∀L∈lookL (codeKey c') lps,LoopOk P ρ N c' L:=by
  intro r
  induction r with
  | nil=>intro k0 _ _ c' hc;cases hc
  | cons d r ih =>
   intro k0 ho hj c' hc L hL
   simp only[othersB,Bool.and_eq_true,Bool.or_eq_true]at ho
   rcases List.mem_cons.1 hc with rfl | hc
   ·have h0:=hj 0
    simp only[List.getElem?_cons_zero,Nat.add_zero]at h0
    rcases ho.1 with h1 | h1
    ·have:=h k0 (natIn_mem h1)
     rw[←h0]at this
     exact this L hL
    ·rw[List.isEmpty_iff.1 h1]at hL;cases hL
   ·exact ih (k0+1) ho.2 (fun j=>by have:=hj (j+1);rw[List.getElem?_cons_succ]at this;rw[this];congr 1;omega) c' hc L hL
 exact key l 0 ho (fun j=>by rw[Nat.zero_add])
theorem look_list {P:Program} {ρ:Rho} {N:Nat} {c:Code} {Ls lps:List LoopX} (h:lookL (codeKey c) lps=Ls) (hL:∀L∈Ls,LoopOk P ρ N c L):∀K∈lookL (codeKey c) lps,LoopOk P ρ N c K:=fun K hK=>by
 rw[h]at hK
 exact hL K hK
theorem lps_row {P:Program} {ρ:Rho} {f:FuncId} {i:FnI} {fn:Func} {lps:List LoopX} (hi:FnOk P f i) (hf:P.funcs[f]? = some fn) (h:LpsOk P ρ fn.ntmps lps (fn.body.getD .skip)):LpsOk P ρ i.ntmps lps i.body:=by
 obtain⟨fn',g1,g2,_,g4,_⟩:=hi
 rw[hf]at g1
 cases g1
 rw[←g4]
 rw[g2]at h
 exact h
end Go.Proofs.Xw
namespace Go.Proofs.Xw
open Go Go.Proofs.Aw
end Go.Proofs.Xw
namespace Go.Proofs.Xw
open Go Go.Proofs.Aw
def EndL (P:Program) (N:Nat) (body:Code) (k0:Nat) (S:XS) (out:T (XE×XS)) (ρ:Rho):Prop :=
 ∀E:Aw.Env,E.N=N→(∀m,E.c0.kn m→m.1<k0)→AW P E body (fun e σ=>∃e' s,e'≠XE.normal∧out.sel ρ=some (e',s)∧e=e'.to∧Imp E σ (s.den ρ)) (S.den ρ)
end Go.Proofs.Xw
namespace Go.Proofs.Xw
open Go Go.Proofs.Aw
end Go.Proofs.Xw
namespace Go.Proofs.Xw
open Go Go.Proofs.Aw
def noB:Bind:=⟨[],[],[],[]⟩
theorem noB_ap (ρ:Rho):noB.ap ρ=ρ:=rfl
def StepF (P:Program) (N:Nat) (body:Code) (k0:Nat) (S S':XS) (ρ ρ':Rho):Prop :=
 ∀E:Aw.Env,E.N=N→(∀m,E.c0.kn m→m.1<k0)→AW P E body (fun e σ=>e=XE.normal.to∧Imp E σ (S'.den ρ')) (S.den ρ)
theorem stepF_of {P:Program} {ρ:Rho} {N:Nat} {body:Code} {ti:Nat→Option TI} {call:CallF} {ms:List Nat} {lps:List LoopX} {fuel k0 n:Nat} {S S' U:XS} {s:XS} (hm:P.follows .mixedOrders=true) (hti:TIs.ok P ti)
  (hcall:CallOk P ρ call) (hlps:LpsOk P ρ N lps body) (hfit:fitsC N body=true) {Φ':Facts} (hk:Facts.ok ρ Φ') (hd:S.den ρ=S'.den ρ) {ks:List Nat}
  (hsel:((codeX ti call ms k0 lps fuel body Φ' S').map (sqz ks)).sel ρ=some (.normal,s)) {β:Bind} {nm:List (Nm×Nm)} (hok:okS k0 n β nm U s=true):StepF P N body k0 S U ρ (β.ap ρ):=by
 intro E hE hkn
 obtain⟨q,hq,he⟩:=T.sel_map _ hsel
 rw[hd]
 have g:=codeX_goes (E:=E) hm hti hcall hkn body Φ' _ q.1 q.2 hk (by rw[hE];exact hfit) (by rw[hE];exact hlps) hq
 have q1:=congrArg Prod.fst he
 have q2:=congrArg Prod.snd he
 simp only at q1 q2
 refine AW_mono (fun e' s' hh=>⟨?_,?_⟩) g
 ·rw[hh.1,show q.1=XE.normal from q1.symm]
 ·have i:=impLe hh.2 (sqz_le ks ρ q)
  rw[←q2]at i
  exact impTrans i (okS_imp hkn hok ρ)
theorem StepF.from {P:Program} {N:Nat} {body:Code} {k0:Nat} {S S':XS} {ρ ρ1 ρ':Rho} (h:S.den ρ=S.den ρ1) (k:StepF P N body k0 S S' ρ1 ρ'):StepF P N body k0 S S' ρ ρ':=fun E hE hb=>by
 rw[h];exact k E hE hb
theorem endF_of {P:Program} {ρ:Rho} {N:Nat} {body:Code} {ti:Nat→Option TI} {call:CallF} {ms:List Nat} {lps:List LoopX} {fuel k0:Nat} {S S' s:XS} {e:XE} {out:T (XE×XS)} (hm:P.follows .mixedOrders=true) (hti:TIs.ok P ti)
  (hcall:CallOk P ρ call) (hlps:LpsOk P ρ N lps body) (hfit:fitsC N body=true) {Φ':Facts} (hk:Facts.ok ρ Φ') (hd:S.den ρ=S'.den ρ) {ks:List Nat} (he:e ≠ .normal)
  (hsel:((codeX ti call ms k0 lps fuel body Φ' S').map (sqz ks)).sel ρ=some (e,s)) (ho:∃s',out.sel ρ=some (e,s')∧∀E:Aw.Env,(∀m,E.c0.kn m→m.1<k0)→Imp E (s.den ρ) (s'.den ρ)):EndL P N body k0 S out ρ:=by
 intro E hE hkn
 obtain⟨q,hq,h2⟩:=T.sel_map _ hsel
 obtain⟨s',h3,h4⟩:=ho
 rw[hd]
 have g:=codeX_goes (E:=E) hm hti hcall hkn body Φ' S' q.1 q.2 hk (by rw[hE];exact hfit) (by rw[hE];exact hlps) hq
 have q1:=congrArg Prod.fst h2
 have q2:=congrArg Prod.snd h2
 simp only at q1 q2
 refine AW_mono (fun e' s'' hh=>⟨e,s',he,h3,?_,?_⟩) g
 ·rw[hh.1,q1]
  rfl
 ·have i:=impLe hh.2 (sqz_le ks ρ q)
  rw[←q2]at i
  exact impTrans i (h4 E hkn)
end Go.Proofs.Xw
namespace Go.Proofs.Xw
open Go Go.Proofs.Aw
theorem loopOk_famE {P:Program} {N:Nat} {body:Code} {L:LoopX} (hi:L.init=noB) (hS:L.S.bel L.n=true) (Ss:Nat→XS) (R Q:Nat→Rho→Prop) (M:Nat→Rho→Nat)
  (hR:∀i ρ,R i ρ→(∃ρ',Agree L.n ρ ρ'∧Q i ρ'∧(Ss i).den ρ=(Ss i).den ρ'∧EndL P N body L.k0 (Ss i) L.out ρ')∨∃i' ρ',StepF P N body L.k0 (Ss i) (Ss i') ρ ρ'∧R i' ρ'∧M i' ρ'<M i ρ∧Agree L.n ρ ρ')
  {ρ:Rho} (h0:∃i ρ0,Agree L.n ρ ρ0∧R i ρ0∧∀E:Aw.Env,E.N=N→(∀m,E.c0.kn m→m.1<L.k0)→Imp E (L.S.den ρ) ((Ss i).den ρ0)):∃i ρf,Agree L.n ρ ρf∧Q i ρf∧LoopOk P ρf N body L:=by
 have key:∀(k:Nat) (i:Nat) (ρ:Rho),M i ρ≤k→R i ρ→∃i' ρf,Agree L.n ρ ρf∧Q i' ρf∧∀E:Aw.Env,E.N=N→(∀m,E.c0.kn m→m.1<L.k0)→∃m,AWR P E body (fun e σ=>∃e' s,L.out.sel ρf=some (e',s)∧e=e'.to∧Imp E σ (s.den ρf)) m ((Ss i).den ρ):=by
  have fin:∀i ρ ρ',(Ss i).den ρ=(Ss i).den ρ'→EndL P N body L.k0 (Ss i) L.out ρ'→∀E:Aw.Env,E.N=N→(∀m,E.c0.kn m→m.1<L.k0)→∃m,AWR P E body (fun e σ=>∃e' s,L.out.sel ρ'=some (e',s)∧e=e'.to∧Imp E σ (s.den ρ')) m ((Ss i).den ρ):=fun i ρ ρ' hd h E hE hb=>by
   rw[hd]
   refine⟨1,AW_mono (fun e σ hq => ?_) (h E hE hb)⟩
   obtain⟨e',s,h1,h2,rfl,h4⟩:=hq
   cases e' with
   | normal=>exact absurd rfl h1
   | exit j=>exact⟨_,s,h2,rfl,h4⟩
   | ret=>exact⟨_,s,h2,rfl,h4⟩
  intro k
  induction k with
  | zero =>
   intro i ρ hk hr
   rcases hR i ρ hr with⟨ρ',a1,a2,a3,a4⟩ | ⟨i',ρ',_,_,h,_⟩
   ·exact⟨i,ρ',a1,a2,fin i ρ ρ' a3 a4⟩
   ·omega
  | succ k ih =>
   intro i ρ hk hr
   rcases hR i ρ hr with⟨ρ',a1,a2,a3,a4⟩ | ⟨i',ρ',h1,h2,h3,h5⟩
   ·exact⟨i,ρ',a1,a2,fin i ρ ρ' a3 a4⟩
   ·obtain⟨i2,ρf,g2,g3,g4⟩:=ih i' ρ' (by omega) h2
    refine⟨i2,ρf,h5.trans g2,g3,fun E hE hb => ?_⟩
    obtain⟨m,g5⟩:=g4 E hE hb
    refine⟨m+1,AW_mono (fun e σ hq => ?_) (h1 E hE hb)⟩
    obtain⟨rfl,hi⟩:=hq
    cases m with
    | zero=>exact g5.elim
    | succ m=>exact AW_imp hi g5
 obtain⟨i,ρ0,a0,hr,himp⟩:=h0
 obtain⟨i',ρf,g2,g3,g4⟩:=key (M i ρ0) i ρ0 (Nat.le_refl _) hr
 refine⟨i',ρf,a0.trans g2,g3,fun E hE hb => ?_⟩
 rw[hi,noB_ap,←XS.bel_den (a0.trans g2) L.S hS]
 obtain⟨m,g5⟩:=g4 E hE hb
 exact AW_imp (himp E hE hb) (AW_rounds m g5)
end Go.Proofs.Xw
namespace Go.Proofs.Xw
open Go Go.Proofs.Aw Go.ChangeShapes Go.WideShapes
section
variable {H:Type} {enc:TypeId×Value→H} {P:Program}
theorem mapM_len {α β:Type} {f:α→Option β}:∀{l:List α} {r:List β},l.mapM f=some r→r.length=l.length
 | [],r,h=>by simp only[List.mapM_nil,pure,Option.some.injEq]at h;subst h;rfl
 | a::l,r,h=>by
  simp only[List.mapM_cons,bind,Option.bind_eq_some_iff,pure,Option.some.injEq]at h
  obtain⟨y,_,ys,hys,rfl⟩:=h
  simp[mapM_len hys]
theorem len_trod {t e:TypeId} (hu:P.underlying t=some (.slice e)) {W:World} {A:Option Addr} {len cap:Nat} {d:DataW H} {p:List MemPlace} (h:DataW.Trod enc P W 0 (fun _=>true) true t (.slice A len cap) d p):len=0∨∃elems spare,d = .slice elems spare∧elems.length=len:=by
 obtain⟨n,h⟩:=h
 cases n with
 | zero=>simp[DataW.trod]at h
 | succ n =>
  have hv:(Value.slice A len cap).cells.toList=[.slice A len cap]:=rfl
  rw[hv,DataW.trod_step]at h
  unfold DataW.trodStep at h
  rw[hu]at h
  cases A with
  | none =>
   left
   cases len<;>cases cap<;>simp_all
  | some a =>
   simp only at h
   split at h
   ·obtain⟨elems,he,h⟩:=Option.bind_eq_some_iff.1 h
    obtain⟨rest,_,h⟩:=Option.map_eq_some_iff.1 h
    right
    have h1:=congrArg Prod.fst h
    simp only at h1
    exact⟨_,_,h1.symm,by rw[List.length_map,mapM_len he,List.length_range]⟩
   ·cases h
theorem lens_all {W:World} {gs:List (DataW H)} {us:List TypeId}:∀{ts:List TypeId} {vs:List Value} {ds:List (DataW H)} {p:List MemPlace},DataW.TrodAll enc P W 0 (fun _=>true) true ts vs ds p→(DataW.weightsEach P (ts++us) (ds++gs)).all (· ≤ reachBytes)=true →
  ∀(j:Nat) (t e:TypeId) (A:Option Addr) (len cap:Nat),ts[j]? = some t→vs[j]? = some (.slice A len cap)→P.underlying t=some (.slice e)→len*P.bytesOf e≤reachBytes
 | [],_,_,_,_,_,j,t,e,A,len,cap,h1,_,_=>by simp at h1
 | t0::ts,vs,ds,p,h,hw,j,t,e,A,len,cap,h1,h2,hu=>by
  obtain⟨v,vs',d,ds',p1,p2,rfl,rfl,rfl,g1,g2⟩:=trodAll_cons h
  simp only[List.cons_append,DataW.weightsEach,List.all_append,Bool.and_eq_true]at hw
  cases j with
  | zero =>
   simp only[List.getElem?_cons_zero,Option.some.injEq]at h1 h2
   subst h1 h2
   rcases len_trod hu g1 with h0 | ⟨elems,spare,rfl,hl⟩
   ·subst h0;simp
   ·have:=hw.1
    simp only[DataW.weights,hu,List.all_cons,Bool.and_eq_true,decide_eq_true_eq]at this
    have h3:=this.1
    rw[hl]at h3
    exact Nat.le_trans (Nat.mul_le_mul_right _ (Nat.le_add_right _ _)) h3
  | succ j=>exact lens_all g2 hw.2 j t e A len cap (by simpa using h1) (by simpa using h2) hu
def Short (P:Program) (ts:List TypeId) (vs:List Value):Prop:=∀(j:Nat) (t e:TypeId) (A:Option Addr) (len cap:Nat),ts[j]? = some t→vs[j]? = some (.slice A len cap)→P.underlying t=some (.slice e)→len*P.bytesOf e≤reachBytes
theorem law_callsS {f:FuncId} {fn:Func} {s:ChangeSpec} {shs:List Sh} {r:TypeId} (hts:fn.params.toList.map (shT P)=shs.map some) (hrt:fn.resultTypes = #[r]) (hrb:P.underlying r=some .bool) (hvars:s.vars=[])
  (hcy:∀(W:World) (vs:List Value),shs.length=vs.length→(∀(i:Nat) (sh:Sh) (v:Value),shs[i]? = some sh→vs[i]? = some v→Fits W sh v)→Short P fn.params.toList vs→CY P 0 f (X.denL (mkR W (plain shs vs) vs (shs.map shZ)) (pats 0 0 shs)) [] (.sc (.bool true)) [])
  {W:World} {base:Nat} {args:Array Value} {ds gs:List (DataW H)} {before:List MemPlace} {apart:Bool} {us:List TypeId} (hval:∀(j:Nat) t v,fn.params[j]? = some t→args[j]? = some v→Value.okWide P W .any base t v)
  (hW:DataW.Whole enc P fn.params.toList s.vars apart W args.toList ds gs before) (hwt:(DataW.weightsEach P (fn.params.toList++us) (ds++gs)).all (· ≤ reachBytes)=true)
  (hspec:∀ds:List (DataW H),ds.length=fn.params.size→s.fn H (ds++[])={ results:=[.lit (.bool true)],args:=ds }) :
  Calls P f args W fun e W'=>∃v,e = .returned v∧s.post enc P fn apart true false false W args v W':=by
 obtain⟨p,q,hA,_⟩:=id hW
 exact law_calls1 hts hrt hrb hvars (fun h1 h2=>hcy W args.toList h1 h2 (lens_all hA hwt)) hval hW hspec
end
theorem handed_sized {H:Type} {enc:TypeId×Value→H} {a:Assume} {C:Checked} {os:Os} {f:FuncId} {fn:Func} {s:ChangeSpec} {conds:List PathCond} {apart fresh handsOn again:Bool}
  (own:ownKnob C.prog.godebug=none) (started:os.Started) (noInit:C.prog.inits.idxOf? f=none) (hfn:C.prog.funcs[f]? = some fn)
  (witness:∃(w:World) (tape:Tape) (i:Input),w.os=os∧(w.forCall tape i).Shaped C.prog∧i.vars=[]∧Input.okWide C.prog (w.forCall tape i) .any w.heap.size f i ∧
   s.pre6 enc C.prog fn conds apart (w.forCall tape i).memory i.args∧a.holds C.prog (lone (Frame.enter C.prog f i.args .normal) [] (w.forCall tape i)))
  (contract:∀(W:World) (base:Nat) (args:Array Value) (ds gs:List (DataW H)) (before:List MemPlace),
   (∀(j:Nat) t v,fn.params[j]? = some t→args[j]? = some v→Value.okWide C.prog W .any base t v) →
   DataW.Whole enc C.prog fn.params.toList s.vars apart W args.toList ds gs before →
   (DataW.weightsEach C.prog (fn.params.toList++s.plain.varTypes C.prog) (ds++gs)).all (· ≤ reachBytes)=true →
   Calls C.prog f args W fun e W'=>∃v,e = .returned v∧s.post enc C.prog fn apart fresh handsOn again W args v W') :
  ReturnsInHanded a C os f .any (s.pre6 enc C.prog fn conds apart) (s.post enc C.prog fn apart fresh handsOn again):=by
 have h:=returnsInHanded_of_change_and (enc:=enc) (a:=a) (C:=C) (os:=os) (f:=f) (fn:=fn) (s:=s) (conds:=conds) (apart:=apart) (fresh:=fresh) (handsOn:=handsOn) (again:=again) (X:=fun _ _=>True) (fun _ _ _ _ h=>h) own started noInit hfn
  (by
   obtain⟨w,t,i,a1,a2,a3,a4,⟨a5,a6⟩,a7⟩:=witness
   exact⟨w,t,i,a1,a2,a3,a4,⟨⟨a5,trivial⟩,a6⟩,a7⟩) (fun W base args ds gs before h1 h2 _ h4 _ _=>contract W base args ds gs before h1 h2 h4)
 have e:(fun w args=>(s.pre enc C.prog fn conds apart w args∧True)∧sizedMet enc C.prog fn (OpenSpec.ofChange s) apart w args)=s.pre6 enc C.prog fn conds apart:=by
  funext w args
  simp only[ChangeSpec.pre6,and_true]
 rw[←e]
 exact h
end Go.Proofs.Xw
