/- Parts of the proof, one behind the other. -/
import Derived.Test.YtpdfmnhgocpkcaaGreatXwM3
import Derived.Test.YtpdfmnhgocpkcaaGreatTM3
namespace Go.Proofs.Xw
open Go Go.Proofs.Aw
theorem kL {P:Program} {ρ:aa} {N:Nat} {body:Code} {ti:Nat->Option TI} {call:bC} {ms:List Nat} {bN:List bj} {fuel k0 n aB:Nat} {nz:List Nat} {kt:Nat×List Tk} {i:Nat} {cs:List dm} {S So:XS} {B:J} (hm:P.follows .mixedOrders=true) (a_:eM.ok P ti)
  (aP:cX P ρ call) (lh:a1 P ρ N bN body) (d6:da N body=true) (u:J.ok ρ B) {ks:List Nat}
  (bD:dB k0 n aB nz kt i cs So .normal B ((ck ti call ms k0 bN fuel body B S).map (dV ks))=true) :
  ∃(j:Nat) (C:dm) (F:aa),cs[j]? = some C/\ep P N body k0 S C.S ρ F/\J.ok F C.b6/\F.i aB=IntKind.i64.wrap (ρ.i aB+1)/\az n ρ F/\(d' kt.1 kt.2 ρ->d' kt.1 kt.2 F)/\(C.di=[]\/∃a∈C.di,a.fr=i/\gH a ρ F):=by
 obtain⟨e,s,aS,A,E,h3⟩:=vX _ _ bD u
 obtain⟨p,hq,G⟩:=T.jd _ A
 have q1:e=p.1:=congrArg Prod.fst G
 have q2:s=(dV ks p).2:=congrArg Prod.snd G
 rcases h3 with⟨hn,hf⟩ | ⟨hx,hn,hf⟩
 ·obtain⟨j,C,g1,g2⟩:=Lq hf
  simp only[E7,Bool.and_eq_true]at g2
  obtain⟨g2,gt,g3,g4,g5⟩:=g2
  generalize FI:Ov C.S (s.gA aS nz)=nm at g2 gt g3 g4 g5
  generalize kj:(s.gA aS nz).zB nm C.S.h=s1 at g2 gt g3 g4 g5
  generalize agz:p3 nm s1.h C.S.h=DH at g2 gt g3 g4 g5
  generalize agw:JM n nm DH C.S s1=β at g2 gt g3 g4 g5
  have Z:=g2
  simp only[rf,Bool.and_eq_true]at Z
  refine⟨j,C,β.cD DH ρ,g1,fun ac hE bI => ?_,Y4 E g3,?_,Bind.um Z.2.1 Z.1 ρ,fun ht => ?_,?_⟩
  ·have g:=jZ (ac:=ac) hm a_ aP bI body B _ p.1 p.2 u (by rw[hE];exact d6) (by rw[hE];exact lh) hq
   refine dD (fun e' s' W=>⟨?_,?_⟩) g
   ·rw[W.1,<-q1,hn]
   ·have i:=fp W.2 (zl ks ρ p)
    rw[<-q2]at i
    have l:=(XS.QZ ρ nm C.S.h (s.gA aS nz)).trans (XS.WW E nz s)
    rw[kj]at l
    exact vp (fp i l) (Cp bI g2 ρ)
  ·unfold M1 at g4
   split at g4
   ·rename_i e' hI
    have:=U.beq_eq _ _ g4
    subst this
    show(match be aB β.i with | some e=>e.I ρ | none=>ρ.i aB)=_
    rw[hI]
    simp only[U.I,a7.I]
   ·cases g4
  ·rw[Bool.or_eq_true]at gt
   rcases gt with gt | gt
   ·have:=List.isEmpty_iff.1 gt
    intro j k t _ aO
    rw[this]at aO
    simp at aO
   ·exact ZR E gt ht
  ·rw[Bool.or_eq_true]at g5
   rcases g5 with g5 | g5
   ·left;exact List.isEmpty_iff.1 g5
   ·right
    obtain⟨a,ha,g6⟩:=List.any_eq_true.1 g5
    simp only[Bool.and_eq_true]at g6
    exact⟨a,ha,Nat.eq_of_beq_eq_true g6.1,Alt.T0 E g6.2.1 g6.2.2⟩
 ·exact absurd hx hn
theorem ot {P:Program} {N:Nat} {body:Code} {k0 n:Nat} {S0:XS} (hS:S0.ar n=true) (Ss:Nat->XS) (L:bj) (hL:L.k0=k0/\L.S=S0/\L.init=gz) (aI:Nat->aa->Prop) (Q:aa->Prop) (dJ:aa->Nat)
  (hR:∀i ρ,aI i ρ->(Q ρ/\jO P N body k0 (Ss i) L.out ρ)\/∃i' F,ep P N body k0 (Ss i) (Ss i') ρ F/\aI i' F/\dJ F<dJ ρ/\az n ρ F)
  {ρ:aa} (h0:∃i am,az n ρ am/\aI i am/\∀ac:Aw.Env,ac.N=N->(∀m,ac.c0.kn m->m.1<k0)->dI ac (S0.I ρ) ((Ss i).I am)):∃ao,az n ρ ao/\Q ao/\bY P ao N body L:=by
 have key:∀(k:Nat) (i:Nat) (ρ:aa),dJ ρ<=k->aI i ρ->∃ao,az n ρ ao/\Q ao/\∀ac:Aw.Env,ac.N=N->(∀m,ac.c0.kn m->m.1<k0)->∃m,jM P ac body (fun e V=>∃e' s,L.out.aq ao=some (e',s)/\e=e'.to/\dI ac V (s.I ao)) m ((Ss i).I ρ):=by
  have fin:∀i ρ,jO P N body k0 (Ss i) L.out ρ->∀ac:Aw.Env,ac.N=N->(∀m,ac.c0.kn m->m.1<k0)->∃m,jM P ac body (fun e V=>∃e' s,L.out.aq ρ=some (e',s)/\e=e'.to/\dI ac V (s.I ρ)) m ((Ss i).I ρ):=fun i ρ h ac hE hb=>by
   refine⟨1,dD (fun e V hq => ?_) (h ac hE hb)⟩
   obtain⟨e',s,A,E,rfl,h4⟩:=hq
   cases e' with
   | normal=>exact absurd rfl A
   | exit j=>exact⟨_,s,E,rfl,h4⟩
   | ret=>exact⟨_,s,E,rfl,h4⟩
  intro k
  induction k with
  | zero =>
   intro i ρ u hr
   rcases hR i ρ hr with⟨hq,h⟩ | ⟨i',F,_,_,h,_⟩
   ·exact⟨ρ,az.refl _ _,hq,fin i ρ h⟩
   ·omega
  | succ k ih =>
   intro i ρ u hr
   rcases hR i ρ hr with⟨hq,h⟩ | ⟨i',F,A,E,h3,h5⟩
   ·exact⟨ρ,az.refl _ _,hq,fin i ρ h⟩
   ·obtain⟨ao,g2,g3,g4⟩:=ih i' F (by omega) E
    refine⟨ao,h5.trans g2,g3,fun ac hE hb => ?_⟩
    obtain⟨m,g5⟩:=g4 ac hE hb
    refine⟨m+1,dD (fun e V hq => ?_) (A ac hE hb)⟩
    obtain⟨rfl,hi⟩:=hq
    cases m with
    | zero=>exact g5.elim
    | succ m=>exact p' hi g5
 obtain⟨i,am,nI,hr,himp⟩:=h0
 obtain⟨ao,g2,g3,g4⟩:=key (dJ am) i am (Nat.le_refl _) hr
 refine⟨ao,nI.trans g2,g3,fun ac hE hb => ?_⟩
 obtain⟨e1,e2,e3⟩:=hL
 rw[e2,e3,WN,<-XS.aT (nI.trans g2) S0 hS]
 rw[e1]at hb
 obtain⟨m,g5⟩:=g4 ac hE hb
 exact p' (himp ac hE hb) (DL m g5)
end Go.Proofs.Xw
namespace Go.Proofs.Xw
open Go Go.Proofs.Aw
theorem Qd {P:Program} {ρ:aa} {N:Nat} {body:Code} {ti:Nat->Option TI} {call:bC} {ms:List Nat} {bN:List bj} {fuel k0 n:Nat} {S S' lO:XS} {s:XS} (hm:P.follows .mixedOrders=true) (a_:eM.ok P ti)
  (aP:cX P ρ call) (lh:a1 P ρ N bN body) (d6:da N body=true) {aS:J} (u:J.ok ρ aS) (hd:S.I ρ=S'.I ρ) {ks:List Nat}
  (qJ:((ck ti call ms k0 bN fuel body aS S').map (dV ks)).aq ρ=some (.normal,s)) {β:Bind} {nm:List (Nm×Nm)} (a2:ff k0 n β nm lO s=true):ep P N body k0 S lO ρ (β.ap ρ):=by
 intro ac hE bI
 obtain⟨p,hq,G⟩:=T.jd _ qJ
 rw[hd]
 have g:=jZ (ac:=ac) hm a_ aP bI body aS _ p.1 p.2 u (by rw[hE];exact d6) (by rw[hE];exact lh) hq
 have q1:=congrArg Prod.fst G
 have q2:=congrArg Prod.snd G
 simp only at q1 q2
 refine dD (fun e' s' W=>⟨?_,?_⟩) g
 ·rw[W.1,show p.1=XE.normal from q1.symm]
 ·have i:=fp W.2 (zl ks ρ p)
  rw[<-q2]at i
  exact vp i (jE bI a2 ρ)
end Go.Proofs.Xw
namespace Go.Proofs.YtpdfmnhgocpkcaaGreat
open Go Go.Proofs.Aw Go.Proofs.Xw
set_option maxRecDepth 100000
def uS (o:Bool) (k:Nat):Bool:=o&&((Nat.ble 19 k&&Nat.blt k 27)||Nat.ble 40 k)
def La (o:Bool):List X:=(List.range 42).map fun k=>if uS o k=true then X.top else .cJ 5 k (.lit 0)
def uN (o:Bool):List X:=La o++[.slv (0,1) 20 (.lit 0) (.len 0) true]
def KY (o:Bool):au:=[((0,0),(uN o)),((0,1),[.tk 20 (.len 0) 0 []])]
def K0:List GK:=[⟨47,[.slv (0,0) 20 (.lit 0) (.len 0) true],[((0,0),[.tk 20 (.len 0) 0 []])],.slv (1,0) 20 (.lit 0) (.len 0) true,[((0,0),some [.tk 20 (.len 0) 0 []]),((1,0),some [.tk 20 (.len 0) 0 []])]⟩]
def AG:List (Nat×List X×X):=[(48,[.cJ 0 3 (.var 10)],.cJ 0 3 (.var 10)),(49,[.cJ 0 10 (.var 10)],.cJ 0 10 (.var 10))]
def n3:X := .slv (7,0) 20 (.lit 0) (.len 0) true
def E1 (i:X):ba:=[(12,i),(11,.sc (.i .i64 (.len 0))),(10,.top),(3,n3),(9,.top),(8,.top),(7,.top),(6,.top),(5,.top),(2,.top),(0,.ptr (0,0) [] 0)]
def KZ (o:Bool):au:=(KY o)++[((7,0),[.tk 20 (.len 0) 0 []])]
def EW (o:Bool):XS:=⟨E1 (xn 0),(KZ o),12⟩
def xu (o:Bool):XS:=⟨E1 (xi 10),(KZ o),12⟩
def TD (o:Bool):XS:=⟨E1 (xi 10),(KZ o),60⟩
noncomputable def sq:Code:=(dP (Tryz.f16.body.getD .skip))[0]?.getD .skip
def uP:J:=[(.lt (.var 10) (.lit 0),false),(.lt (.len 0) (.var 10),false),(.lt (.lit 1000000) (.len 0),false),(.lt (.len 0) (.lit 1),false)]
def uM:U := .op .add .i64 (.var 10) (.lit 1)
def xy:J:=(.lt (.var 10) (.len 0),true)::(.lt uM (.lit 0),false)::(.lt (.len 0) uM,false)::uP
def xw:J:=(.lt (.var 10) (.len 0),false)::uP
noncomputable def uO (ks:List (Nat×List X×X)):cr:=⟨r5 ks (fun _=>[]) K0 [] [],[],[]⟩
noncomputable def K_ (o:Bool) (ks:List (Nat×List X×X)) (B:J):T (XE×XS):=(ck (uO ks).c.ti (eD (uO ks) 12) (((uO ks).c.hv 16).elim [] (·.ms)) 2 [] 1000 sq B (xu o)).map (dV ((E1 (xi 10)).map (·.1)))
def xv:Bind:=⟨[(10,uM)],[],[],[]⟩
def TF (o:Bool):T (XE×XS)->Bool
 | .ret (.normal,s)=>ff 2 10 xv [] (xu o) s
 | _=>false
theorem aeB (o:Bool):(TF o) ((K_ o) AG xy)=true:=by cases o<;>kernel_rfl
theorem aeA (o:Bool):dB 2 10 10 [] (0,[]) 0 [] (TD o) (.exit 0) xw ((K_ o) [] xw)=true:=by cases o<;>kernel_rfl
theorem TK:da Tryz.f16.ntmps sq=true:=by kernel_rfl
noncomputable def AA (o:Bool):bj:=⟨(dt sq).getD 0,2,10,(EW o),gz,[],.ret (.exit 0,(TD o))⟩
theorem aey (o:Bool):(EW o).ar 10=true:=by cases o<;>kernel_rfl
def AD:Bind:=⟨[(10,.lit 0)],[],[],[]⟩
theorem aeC (o:Bool):ff 2 10 AD [] (xu o) (EW o)=true:=by cases o<;>kernel_rfl
structure mG (e:List AV):Prop where
 l:e.length=20
 t:∀(k:Nat) (t:Tk),fc[k]? = some t->∃v,e[k]? = some v/\t.uv v
theorem Ni:fc.length=20:=rfl
theorem Eb:∀{ks:List Kd} {e:List AV},jU ks e->a4 (fun _=>false) e=true
 | [],e,h=>by
  have h:e=[]:=h
  subst h;rfl
 | .i _::ks,e,⟨v,r,A,E⟩=>by subst A;simp only[a4,b8,Eb E,Bool.and_self]
 | .b::ks,e,⟨v,r,A,E⟩=>by subst A;simp only[a4,b8,Eb E,Bool.and_self]
 | .s::ks,e,⟨v,r,A,E⟩=>by subst A;simp only[a4,b8,Eb E,Bool.and_self]
theorem D' {ks:List Kd}:∀{D:List (List AV)},(∀e∈D,jU ks e)->cp (fun _=>false) D=true
 | [],_=>rfl
 | e::D,h=>by simp only[cp,Eb (h e List.mem_cons_self),D' fun x hx=>h x (List.mem_cons_of_mem _ hx),Bool.and_self]
theorem ase {t:Tk} {v:AV} (h:t.uv v):b8 (fun _=>false) v=true/\v.one=true:=by
 cases t with
 | f k =>
  cases k with
  | i K=>obtain⟨x,r,A,E⟩:=h;cases A;exact⟨rfl,rfl⟩
  | b=>obtain⟨x,r,A,E⟩:=h;cases A;exact⟨rfl,rfl⟩
  | s=>obtain⟨x,r,A,E⟩:=h;cases A;exact⟨rfl,rfl⟩
 | r z ks =>
  obtain⟨D,rfl,_,E⟩:=h
  exact⟨D' E,rfl⟩
theorem mG.get {e:List AV} (h:mG e) {k:Nat} (u:k<20):∃v,e[k]? = some v/\b8 (fun _=>false) v=true/\v.one=true:=by
 obtain⟨v,A,E⟩:=h.t k _ (List.getElem?_eq_getElem (by rw[Ni];exact u))
 exact⟨v,A,ase E⟩
noncomputable def iG (cs:List AV) (D:List (List AV)):aa:=⟨fun _=>0,fun _=>false,fun _=>⟨#[]⟩,fun _=>D.length,fun _ _ _=>0,fun _ _ _=>false,fun _ _ _=>⟨#[]⟩,fun l k j=>if l=0 then rM (((D[j]?).bind (·[k]?)).getD (.sc (.bool false)))else rM ((cs[k]?).getD (.sc (.bool false)))⟩
theorem K8 {cs:List AV} {D:List (List AV)} (h:∀e∈D,mG e) {j k:Nat} {e:List AV} {v:AV} (G:D[j]? = some e) (R:e[k]? = some v):((iG cs D).ct 0 k j).1=v:=by
 have hr:=h e (List.mem_of_getElem? G)
 have u:k<20:=by
  have:=(List.getElem?_eq_some_iff.1 R).1
  rw[hr.l]at this;exact this
 obtain⟨v',A,E,h3⟩:=hr.get u
 rw[R]at A;cases A
 show(if(0:Nat)=0 then rM (((D[j]?).bind (·[k]?)).getD (.sc (.bool false)))else rM ((cs[k]?).getD (.sc (.bool false)))).1=v
 rw[if_pos rfl,G,Option.bind_some,R,Option.getD_some,Iy E h3]
theorem aev {cs:List AV} {D:List (List AV)} (h:∀e∈D,mG e):bB (iG cs D) 20 (.len 0) 0=D:=by
 apply List.ext_getElem?
 intro j
 by_cases O:j<D.length
 ·rw[Pz (by show(j:Int)<(D.length:Int);omega),List.getElem?_eq_getElem O]
  congr 1
  have hr:=h D[j] (List.getElem_mem O)
  apply List.ext_getElem?
  intro k
  by_cases u:k<20
  ·obtain⟨v,A,_⟩:=hr.get u
   rw[List.getElem?_map,List.getElem?_range u,A,Option.map_some,K8 h (List.getElem?_eq_getElem O) A]
  ·rw[List.getElem?_eq_none (by rw[List.length_map,List.length_range];omega),List.getElem?_eq_none (by rw[hr.l];omega)]
 ·rw[List.getElem?_eq_none (by rw[we];show((D.length:Int)).toNat<=j;omega),List.getElem?_eq_none (by omega)]
theorem ady {ss:List (List AV)} (h:∀e∈ss,jU [.s] e) (M:ss.length<=1000) (n:Nat) (hp:Hp):CY Tryz.prog n 48 [.ro 1 ss false] hp (.ro 1 ss false) []:=by
 cases hs:ss with
 | nil=>exact Sp.2 false n hp
 | cons a b =>
  rw[<-hs]
  exact Sz (fn:=Tryz.f48) (ty:=25) (e:=9) Tryz.func48 rfl rfl rfl (by kernel_rfl) (by kernel_rfl) (by rw[hs];exact List.cons_ne_nil _ _) (D' h) (by rw[show de Tryz.prog 9=16 by kernel_rfl];omega) (by omega) n hp
theorem adz {ss:List (List AV)} (h:∀e∈ss,jU fb e) (M:ss.length<=1000) (n:Nat) (hp:Hp):CY Tryz.prog n 49 [.ro 22 ss false] hp (.ro 22 ss false) []:=by
 cases hs:ss with
 | nil=>exact Sq.2 false n hp
 | cons a b =>
  rw[<-hs]
  exact Sz (fn:=Tryz.f49) (ty:=67) (e:=74) Tryz.func49 rfl rfl rfl (by kernel_rfl) (by kernel_rfl) (by rw[hs];exact List.cons_ne_nil _ _) (D' h) (by rw[show de Tryz.prog 74=200 by kernel_rfl];omega) (by omega) n hp
end Go.Proofs.YtpdfmnhgocpkcaaGreat
