/- Parts of the proof, one behind the other. -/
import Derived.Test.YtpdfmnhgocpkcaaGreatXwM3
import Derived.Test.YtpdfmnhgocpkcaaGreatTM3
namespace Go.Proofs.Xw
open Go Go.Proofs.Aw
theorem kH {P:Program} {J:Rho} {N:Nat} {body:Code} {ti:Nat->Option TI} {call:bI} {ms:List Nat} {lps:List LoopX} {fuel k0 n I:Nat} {nz:List Nat} {kt:Nat×List Tk} {i:Nat} {cs:List Cls} {S So:XS} {Φ:Facts} (hm:P.follows .mixedOrders=true) (hti:TIs.ok P ti)
  (hcall:dJ P J call) (hlps:LpsOk P J N lps body) (hfit:fD N body=true) (hk:Facts.ok J Φ) {ks:List Nat}
  (hrun:jV k0 n I nz kt i cs So .normal Φ ((dG ti call ms k0 lps fuel body Φ S).map (yC ks))=true) :
  ∃(j:Nat) (C:Cls) (J':Rho),cs[j]? = some C/\StepF P N body k0 S C.S J J'/\Facts.ok J' C.Ψ/\J'.i I=IntKind.i64.wrap (J.i I+1)/\Agree n J J'/\(BD kt.1 kt.2 J->BD kt.1 kt.2 J')/\(C.al=[]\/∃a∈C.al,a.fr=i/\kW a J J'):=by
 obtain⟨e,s,Φ',h1,h2,h3⟩:=oU _ _ hrun hk
 obtain⟨p,hq,he⟩:=T.sel_map _ h1
 have q1:e=p.1:=congrArg Prod.fst he
 have q2:s=(yC ks p).2:=congrArg Prod.snd he
 rcases h3 with⟨hn,hf⟩ | ⟨hx,hn,hf⟩
 ·obtain⟨j,C,g1,g2⟩:=Bi hf
  simp only[aI5,Bool.and_eq_true]at g2
  obtain⟨g2,gt,g3,g4,g5⟩:=g2
  generalize hn0:ba5 C.S (s.nrm Φ' nz)=nm at g2 gt g3 g4 g5
  generalize hs1:(s.nrm Φ' nz).wk nm C.S.h=s1 at g2 gt g3 g4 g5
  generalize hτ:tkH nm s1.h C.S.h=τ at g2 gt g3 g4 g5
  generalize hβ:ao2 n nm τ C.S s1=β at g2 gt g3 g4 g5
  have hg:=g2
  simp only[Kq,Bool.and_eq_true]at hg
  refine⟨j,C,β.apT τ J,g1,fun E hE hkn => ?_,Na h2 g3,?_,Bind.agreeT hg.2.1 hg.1 J,fun ht => ?_,?_⟩
  ·have g:=dV (E:=E) hm hti hcall hkn body Φ _ p.1 p.2 hk (by rw[hE];exact hfit) (by rw[hE];exact hlps) hq
   refine bY (fun e' s' hh=>⟨?_,?_⟩) g
   ·rw[hh.1,<-q1,hn]
   ·have i:=jr hh.2 (Ai ks J p)
    rw[<-q2]at i
    have l:=(XS.wk_le J nm C.S.h (s.nrm Φ' nz)).trans (XS.nrm_le h2 nz s)
    rw[hs1]at l
    exact o6 (jr i l) (uC hkn g2 J)
  ·unfold ah4 at g4
   split at g4
   ·rename_i e' hI
    have:=IE.beq_eq _ _ g4
    subst this
    show(match aB I β.i with | some e=>e.den J | none=>J.i I)=_
    rw[hI]
    simp only[IE.den,IOp.den]
   ·cases g4
  ·rw[Bool.or_eq_true]at gt
   rcases gt with gt | gt
   ·have:=List.isEmpty_iff.1 gt
    intro j k t _ hk'
    rw[this]at hk'
    simp at hk'
   ·exact Y2 h2 gt ht
  ·rw[Bool.or_eq_true]at g5
   rcases g5 with g5 | g5
   ·left;exact List.isEmpty_iff.1 g5
   ·right
    obtain⟨a,ha,g6⟩:=List.any_eq_true.1 g5
    simp only[Bool.and_eq_true]at g6
    exact⟨a,ha,Nat.eq_of_beq_eq_true g6.1,Alt.fits_ok h2 g6.2.1 g6.2.2⟩
 ·exact absurd hx hn
theorem iR {P:Program} {N:Nat} {body:Code} {k0 n:Nat} {S0:XS} (hS:S0.bel n=true) (Ss:Nat->XS) (L:LoopX) (hL:L.k0=k0/\L.S=S0/\L.init=noB) (R:Nat->Rho->Prop) (Q:Rho->Prop) (M:Rho->Nat)
  (hR:∀i J,R i J->(Q J/\yA P N body k0 (Ss i) L.out J)\/∃i' J',StepF P N body k0 (Ss i) (Ss i') J J'/\R i' J'/\M J'<M J/\Agree n J J')
  {J:Rho} (h0:∃i J0,Agree n J J0/\R i J0/\∀E:Aw.Env,E.N=N->(∀m,E.c0.kn m->m.1<k0)->wZ E (S0.den J) ((Ss i).den J0)):∃Jf,Agree n J Jf/\Q Jf/\LoopOk P Jf N body L:=by
 have key:∀(k:Nat) (i:Nat) (J:Rho),M J<=k->R i J->∃Jf,Agree n J Jf/\Q Jf/\∀E:Aw.Env,E.N=N->(∀m,E.c0.kn m->m.1<k0)->∃m,SE P E body (fun e σ=>∃e' s,L.out.sel Jf=some (e',s)/\e=e'.to/\wZ E σ (s.den Jf)) m ((Ss i).den J):=by
  have fin:∀i J,yA P N body k0 (Ss i) L.out J->∀E:Aw.Env,E.N=N->(∀m,E.c0.kn m->m.1<k0)->∃m,SE P E body (fun e σ=>∃e' s,L.out.sel J=some (e',s)/\e=e'.to/\wZ E σ (s.den J)) m ((Ss i).den J):=fun i J h E hE hb=>by
   refine⟨1,bY (fun e σ hq => ?_) (h E hE hb)⟩
   obtain⟨e',s,h1,h2,rfl,h4⟩:=hq
   cases e' with
   | normal=>exact absurd rfl h1
   | exit j=>exact⟨_,s,h2,rfl,h4⟩
   | ret=>exact⟨_,s,h2,rfl,h4⟩
  intro k
  induction k with
  | zero =>
   intro i J hk hr
   rcases hR i J hr with⟨hq,h⟩ | ⟨i',J',_,_,h,_⟩
   ·exact⟨J,Agree.refl _ _,hq,fin i J h⟩
   ·omega
  | succ k ih =>
   intro i J hk hr
   rcases hR i J hr with⟨hq,h⟩ | ⟨i',J',h1,h2,h3,h5⟩
   ·exact⟨J,Agree.refl _ _,hq,fin i J h⟩
   ·obtain⟨Jf,g2,g3,g4⟩:=ih i' J' (by omega) h2
    refine⟨Jf,h5.trans g2,g3,fun E hE hb => ?_⟩
    obtain⟨m,g5⟩:=g4 E hE hb
    refine⟨m+1,bY (fun e σ hq => ?_) (h1 E hE hb)⟩
    obtain⟨rfl,hi⟩:=hq
    cases m with
    | zero=>exact g5.elim
    | succ m=>exact sW hi g5
 obtain⟨i,J0,a0,hr,himp⟩:=h0
 obtain⟨Jf,g2,g3,g4⟩:=key (M J0) i J0 (Nat.le_refl _) hr
 refine⟨Jf,a0.trans g2,g3,fun E hE hb => ?_⟩
 obtain⟨e1,e2,e3⟩:=hL
 rw[e2,e3,ac4,<-XS.bel_den (a0.trans g2) S0 hS]
 rw[e1]at hb
 obtain⟨m,g5⟩:=g4 E hE hb
 exact sW (himp E hE hb) (wU m g5)
end Go.Proofs.Xw
namespace Go.Proofs.Xw
open Go Go.Proofs.Aw
theorem Zk {P:Program} {J:Rho} {N:Nat} {body:Code} {ti:Nat->Option TI} {call:bI} {ms:List Nat} {lps:List LoopX} {fuel k0 n:Nat} {S S' U:XS} {s:XS} (hm:P.follows .mixedOrders=true) (hti:TIs.ok P ti)
  (hcall:dJ P J call) (hlps:LpsOk P J N lps body) (hfit:fD N body=true) {Φ':Facts} (hk:Facts.ok J Φ') (hd:S.den J=S'.den J) {ks:List Nat}
  (hsel:((dG ti call ms k0 lps fuel body Φ' S').map (yC ks)).sel J=some (.normal,s)) {β:Bind} {nm:List (Nm×Nm)} (hok:okS k0 n β nm U s=true):StepF P N body k0 S U J (β.ap J):=by
 intro E hE hkn
 obtain⟨p,hq,he⟩:=T.sel_map _ hsel
 rw[hd]
 have g:=dV (E:=E) hm hti hcall hkn body Φ' _ p.1 p.2 hk (by rw[hE];exact hfit) (by rw[hE];exact hlps) hq
 have q1:=congrArg Prod.fst he
 have q2:=congrArg Prod.snd he
 simp only at q1 q2
 refine bY (fun e' s' hh=>⟨?_,?_⟩) g
 ·rw[hh.1,show p.1=XE.normal from q1.symm]
 ·have i:=jr hh.2 (Ai ks J p)
  rw[<-q2]at i
  exact o6 i (jq hkn hok J)
end Go.Proofs.Xw
namespace Go.Proofs.YtpdfmnhgocpkcaaGreat
open Go Go.Proofs.Aw Go.Proofs.Xw
set_option maxRecDepth 100000
def evC:List X:=Yb 42 5 (.lit 0)++[.slv (0,1) 20 (.lit 0) (.len 0) true]
def bk0:bg:=[((0,0),evC),((0,1),[.tk 20 (.len 0) 0 []])]
def evK:List GK:=[⟨47,[.slv (0,0) 20 (.lit 0) (.len 0) true],[((0,0),[.tk 20 (.len 0) 0 []])],.slv (1,0) 20 (.lit 0) (.len 0) true,[((0,0),some [.tk 20 (.len 0) 0 []]),((1,0),some [.tk 20 (.len 0) 0 []])]⟩]
def evS:List (Nat×List X×X):=[(48,[.cel 0 3 (.var 10)],.cel 0 3 (.var 10)),(49,[.cel 0 10 (.var 10)],.cel 0 10 (.var 10))]
def evL:X := .slv (7,0) 20 (.lit 0) (.len 0) true
def evT (i:X):ig:=[(12,i),(11,.sc (.i .i64 (.len 0))),(10,.top),(3,evL),(9,.top),(8,.top),(7,.top),(6,.top),(5,.top),(2,.top),(0,.ptr (0,0) [] 0)]
def evH:bg:=bk0++[((7,0),[.tk 20 (.len 0) 0 []])]
def evA0:XS:=⟨evT (xn 0),evH,12⟩
def evA:XS:=⟨evT (xi 10),evH,12⟩
def b07:XS:=⟨evT (xi 10),evH,60⟩
noncomputable def evD:Code:=(dw (Tryz.f16.body.getD .skip))[0]?.getD .skip
def evF:Facts:=[(.lt (.var 10) (.lit 0),false),(.lt (.len 0) (.var 10),false),(.lt (.lit 1000000) (.len 0),false),(.lt (.len 0) (.lit 1),false)]
def ev1:IE := .op .add .i64 (.var 10) (.lit 1)
def evG:Facts:=(.lt (.var 10) (.len 0),true)::(.lt ev1 (.lit 0),false)::(.lt (.len 0) ev1,false)::evF
def evE:Facts:=(.lt (.var 10) (.len 0),false)::evF
noncomputable def Rn (ks:List (Nat×List X×X)):Cfg2:=⟨RH ks (fun _=>[]) evK [] [],[],[]⟩
noncomputable def ak1 (ks:List (Nat×List X×X)) (Φ:Facts):T (XE×XS):=(dG (Rn ks).c.ti (iK (Rn ks) 12) (((Rn ks).c.ft 16).elim [] (·.ms)) 2 [] 1000 evD Φ evA).map (yC ((evT (xi 10)).map (·.1)))
def evB:Bind:=⟨[(10,ev1)],[],[],[]⟩
def b06:T (XE×XS)->Bool
 | .ret (.normal,s)=>okS 2 10 evB [] evA s
 | _=>false
theorem b03:b06 (ak1 evS evG)=true:=by kernel_rfl
theorem bj5:jV 2 10 10 [] (0,[]) 0 [] b07 (.exit 0) evE (ak1 [] evE)=true:=by kernel_rfl
theorem U9:fD Tryz.f16.ntmps evD=true:=by kernel_rfl
noncomputable def ak3:LoopX:=⟨(bW evD).getD 0,2,10,evA0,noB,[],.ret (.exit 0,b07)⟩
theorem bj6:evA0.bel 10=true:=by kernel_rfl
def evN0:Bind:=⟨[(10,.lit 0)],[],[],[]⟩
theorem bZ9:okS 2 10 evN0 [] evA evA0=true:=by kernel_rfl
structure EvR (e:List AV):Prop where
 l:e.length=20
 t:∀(k:Nat) (t:Tk),ktE[k]? = some t->∃v,e[k]? = some v/\t.av v
theorem ag6:ktE.length=20:=rfl
theorem DX:∀{ks:List Kd} {e:List AV},ql ks e->nmsL (fun _=>false) e=true
 | [],e,h=>by
  have h:e=[]:=h
  subst h;rfl
 | .i _::ks,e,⟨v,r,h1,h2⟩=>by subst h1;simp only[nmsL,nms,DX h2,Bool.and_self]
 | .b::ks,e,⟨v,r,h1,h2⟩=>by subst h1;simp only[nmsL,nms,DX h2,Bool.and_self]
 | .s::ks,e,⟨v,r,h1,h2⟩=>by subst h1;simp only[nmsL,nms,DX h2,Bool.and_self]
theorem DY {ks:List Kd}:∀{es:List (List AV)},(∀e∈es,ql ks e)->nmsE (fun _=>false) es=true
 | [],_=>rfl
 | e::es,h=>by simp only[nmsE,DX (h e List.mem_cons_self),DY fun x hx=>h x (List.mem_cons_of_mem _ hx),Bool.and_self]
theorem bw4 {t:Tk} {v:AV} (h:t.av v):nms (fun _=>false) v=true/\v.one=true:=by
 cases t with
 | f k =>
  cases k with
  | i K=>obtain⟨x,r,h1,h2⟩:=h;cases h1;exact⟨rfl,rfl⟩
  | b=>obtain⟨x,r,h1,h2⟩:=h;cases h1;exact⟨rfl,rfl⟩
  | s=>obtain⟨x,r,h1,h2⟩:=h;cases h1;exact⟨rfl,rfl⟩
 | r z ks =>
  obtain⟨es,rfl,_,h2⟩:=h
  exact⟨DY h2,rfl⟩
theorem EvR.get {e:List AV} (h:EvR e) {k:Nat} (hk:k<20):∃v,e[k]? = some v/\nms (fun _=>false) v=true/\v.one=true:=by
 obtain⟨v,h1,h2⟩:=h.t k _ (List.getElem?_eq_getElem (by rw[ag6];exact hk))
 exact⟨v,h1,bw4 h2⟩
noncomputable def uT (cs:List AV) (es:List (List AV)):Rho:=⟨fun _=>0,fun _=>false,fun _=>⟨#[]⟩,fun _=>es.length,fun _ _ _=>0,fun _ _ _=>false,fun _ _ _=>⟨#[]⟩,fun l k j=>if l=0 then JG (((es[j]?).bind (·[k]?)).getD (.sc (.bool false)))else JG ((cs[k]?).getD (.sc (.bool false)))⟩
theorem OY {cs:List AV} {es:List (List AV)} (h:∀e∈es,EvR e) {j k:Nat} {e:List AV} {v:AV} (he:es[j]? = some e) (hv:e[k]? = some v):((uT cs es).ct 0 k j).1=v:=by
 have hr:=h e (List.mem_of_getElem? he)
 have hk:k<20:=by
  have:=(List.getElem?_eq_some_iff.1 hv).1
  rw[hr.l]at this;exact this
 obtain⟨v',h1,h2,h3⟩:=hr.get hk
 rw[hv]at h1;cases h1
 show(if(0:Nat)=0 then JG (((es[j]?).bind (·[k]?)).getD (.sc (.bool false)))else JG ((cs[k]?).getD (.sc (.bool false)))).1=v
 rw[if_pos rfl,he,Option.bind_some,hv,Option.getD_some,Dx h2 h3]
theorem Rh {cs:List AV} {es:List (List AV)} (h:∀e∈es,EvR e):bD (uT cs es) 20 (.len 0) 0=es:=by
 apply List.ext_getElem?
 intro j
 by_cases hj:j<es.length
 ·rw[Am (by show(j:Int)<(es.length:Int);omega),List.getElem?_eq_getElem hj]
  congr 1
  have hr:=h es[j] (List.getElem_mem hj)
  apply List.ext_getElem?
  intro k
  by_cases hk:k<20
  ·obtain⟨v,h1,_⟩:=hr.get hk
   rw[List.getElem?_map,List.getElem?_range hk,h1,Option.map_some,OY h (List.getElem?_eq_getElem hj) h1]
  ·rw[List.getElem?_eq_none (by rw[List.length_map,List.length_range];omega),List.getElem?_eq_none (by rw[hr.l];omega)]
 ·rw[List.getElem?_eq_none (by rw[kP];show((es.length:Int)).toNat<=j;omega),List.getElem?_eq_none (by omega)]
theorem b30 {ss:List (List AV)} (h:∀e∈ss,ql [.s] e) (hl:ss.length<=1000) (n:Nat) (hp:Hp):CY Tryz.prog n 48 [.ro 1 ss false] hp (.ro 1 ss false) []:=by
 cases hs:ss with
 | nil=>exact b34.2 false n hp
 | cons a b =>
  rw[<-hs]
  exact an7 (fn:=Tryz.f48) (ty:=25) (e:=9) Tryz.func48 rfl rfl rfl (by kernel_rfl) (by kernel_rfl) (by rw[hs];exact List.cons_ne_nil _ _) (DY h) (by rw[show dA Tryz.prog 9=16 by kernel_rfl];omega) (by omega) n hp
theorem b29 {ss:List (List AV)} (h:∀e∈ss,ql DK e) (hl:ss.length<=1000) (n:Nat) (hp:Hp):CY Tryz.prog n 49 [.ro 22 ss false] hp (.ro 22 ss false) []:=by
 cases hs:ss with
 | nil=>exact b33.2 false n hp
 | cons a b =>
  rw[<-hs]
  exact an7 (fn:=Tryz.f49) (ty:=67) (e:=74) Tryz.func49 rfl rfl rfl (by kernel_rfl) (by kernel_rfl) (by rw[hs];exact List.cons_ne_nil _ _) (DY h) (by rw[show dA Tryz.prog 74=200 by kernel_rfl];omega) (by omega) n hp
end Go.Proofs.YtpdfmnhgocpkcaaGreat
