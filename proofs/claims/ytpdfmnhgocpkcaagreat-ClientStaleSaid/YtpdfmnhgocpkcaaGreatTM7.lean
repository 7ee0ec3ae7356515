/- Parts of the proof, one behind the other. -/
import Derived.Test.YtpdfmnhgocpkcaaGreatTM3
import Derived.Test.YtpdfmnhgocpkcaaGreatTM6
namespace Go.Proofs.YtpdfmnhgocpkcaaGreat
open Go Go.Proofs.Aw Go.Proofs.Xw
set_option maxRecDepth 100000
def ix (f:Bool):X := .rl 1 (.len 0) (.var 0 [.s]) f
def IN (i:X) (a b:Bool):ba:=[(5,i),(10,.top),(9,.top),(8,.top),(7,.top),(6,.top),(4,.top),(0,ix a),(1,ix b)]
def aao (a b:Bool):XS:=⟨IN (xn 0) a b,[],7⟩
def QW (a b:Bool):XS:=⟨IN (xi 10) a b,[],7⟩
noncomputable def wD:Code:=(dP (Tryz.f41.body.getD .skip))[0]?.getD .skip
def zy:J:=[(.lt (.var 10) (.lit 0),false),(.lt (.len 0) (.var 10),false),(.lt (.lit 4611686018427387904) (.len 0),false)]
def wdC (a b:Bool):List dm:=[⟨QW a b,zy,[]⟩]
noncomputable def atD (a b:Bool) (B:J):T (XE×XS):=(ck (bd [] (fun _=>[])).ti (eD ⟨bd [] (fun _=>[]),[],[]⟩ 12) [] 0 [] 1000 wD B (QW a b)).map (dV ((IN (xi 10) a b).map (·.1)))
def aan (a b:Bool):XS:=⟨IN (xi 10) a b,[],20⟩
def w1:U := .op .add .i64 (.var 10) (.lit 1)
def p_:J:=(.lt (.var 10) (.len 0),true)::(.lt w1 (.lit 0),false)::(.lt (.len 0) w1,false)::zy
def zx:J:=(.lt (.var 10) (.len 0),false)::zy
noncomputable def wdO (a b:Bool) (B:J):Bool:=dB 0 10 10 [] (0,[]) 0 (wdC a b) (aan a b) (.exit 0) B (atD a b B)
noncomputable def nD (p:Bool->Bool->Bool):Bool:=p false false&&(p false true&&(p true false&&p true true))
theorem p9 {p:Bool->Bool->Bool} (h:nD p=true):∀a b,p a b=true:=by
 simp only[nD,Bool.and_eq_true]at h
 intro a b
 cases a<;>cases b<;>simp_all
theorem atE:nD (fun a b=>wdO a b p_&&wdO a b zx)=true:=by kernel_rfl
noncomputable def Dp (a b:Bool):bj:=⟨(dt wD).getD 0,0,10,aao a b,gz,[],.ret (.exit 0,aan a b)⟩
noncomputable def QV (a b:Bool) (f:Nat):List bj:=if Nat.beq f 41=true then [Dp a b]else []
noncomputable def QU (a b:Bool):cr:=⟨bd [] (QV a b),[],[]⟩
theorem aap:da Tryz.f41.ntmps wD=true:=by kernel_rfl
structure nH (m:Nat) (ρ:aa):Prop where
 n:ρ.len 0=m
 b:m<=4611686018427387904
 i0:0<=ρ.i 10
 i1:ρ.i 10<=m
theorem zz {m:Nat} {ρ:aa} (h:nH m ρ):J.ok ρ zy:=by
 have q1:=h.n;have q2:=h.b;have q3:=h.i0;have q4:=h.i1
 refine J.av (decide_eq_false (by show ¬ρ.i 10<0;omega)) (J.av (decide_eq_false (by show ¬(ρ.len 0:Int)<ρ.i 10;omega)) (J.av (decide_eq_false (by show ¬(4611686018427387904:Int)<ρ.len 0;omega)) (J.bt ρ)))
theorem atF (a b:Bool) {m:Nat} {ρ:aa} (hn:ρ.len 0=m) (hb:m<=4611686018427387904):∃ao,az 10 ρ ao/\nH m ao/\bY Tryz.prog ao Tryz.f41.ntmps wD (Dp a b):=by
 have H:∀F,b4 Tryz.prog F (bd [] (fun _=>[])):=fun F=>kW (List.forall_mem_nil _)
 have bD:=p9 atE a b
 rw[Bool.and_eq_true]at bD
 have key:=NI (P:=Tryz.prog) (N:=Tryz.f41.ntmps) (body:=wD) (k0:=0) (n:=10) (S0:=aao a b) (ρ:=ρ) (by cases a<;>cases b<;>kernel_rfl) (fun _=>QW a b) (fun _=>Dp a b) (fun _=>⟨rfl,rfl,rfl⟩) (fun i F=>i=0/\nH m F) (fun F=>m-(F.i 10).toNat) (fun i F ⟨hi,hR⟩=>by
  subst hi
  have q1:=hR.n;have q2:=hR.b;have q3:=hR.i0;have q4:=hR.i1
  by_cases aQ:F.i 10<F.len 0
  ·have e1:w1.I F=F.i 10+1:=(show w1.I F=IntKind.i64.wrap (F.i 10+1)from rfl).trans (ca _ (by omega) (by omega))
   have u:J.ok F p_:=J.av (decide_eq_true aQ) (J.av (decide_eq_false (by rw[e1];show ¬_<(0:Int);omega)) (J.av (decide_eq_false (by rw[e1];show ¬(F.len 0:Int)<_;omega)) (zz hR)))
   rcases gC mixed cR (eU (c:=⟨bd [] (fun _=>[]),[],[]⟩) (H F) (List.forall_mem_nil _) 12) (a1.nil _ _ _ _) aap u bD.1 with h | ⟨j,C,aw,A,E,h3,h4,h5,_⟩
   ·exact .inl h
   ·right
    match j,A with
    | 0,A =>
     cases A
     have e4:aw.i 10=F.i 10+1:=by rw[h4];exact ca _ (by omega) (by omega)
     have iF:aw.len 0=F.len 0:=(h5.len 0 (by omega)).symm
     exact⟨0,aw,E,⟨rfl,⟨by omega,hb,by omega,by omega⟩⟩,by omega,h5⟩
  ·have u:J.ok F zx:=J.av (decide_eq_false aQ) (zz hR)
   rcases gC mixed cR (eU (c:=⟨bd [] (fun _=>[]),[],[]⟩) (H F) (List.forall_mem_nil _) 12) (a1.nil _ _ _ _) aap u bD.2 with h | ⟨j,C,aw,A,E,h3,h4,h5,_⟩
   ·exact .inl h
   ·exfalso
    match j,A with
    | 0,A =>
     cases A
     have e4:aw.i 10=F.i 10+1:=by rw[h4];exact ca _ (by omega) (by omega)
     have iF:aw.len 0=F.len 0:=(h5.len 0 (by omega)).symm
     have:=h3 _ (List.mem_cons_of_mem _ List.mem_cons_self)
     have:¬(aw.len 0:Int)<aw.i 10:=of_decide_eq_false this
     omega)
 let β:Bind:=⟨[(10,.lit 0)],[],[],[]⟩
 obtain⟨_,ao,A,⟨_,E⟩,h3⟩:=key ⟨0,β.ap ρ,Bind.bq (by kernel_rfl) ρ,⟨rfl,⟨hn,hb,Int.le_refl _,show(0:Int)<=m by omega⟩⟩,fun ac _ bI=>jE (k0:=0) (n:=10) (nm:=[]) bI (by cases a<;>cases b<;>kernel_rfl) ρ⟩
 exact⟨ao,A,E,h3⟩
def wE:J:=[(.lt (.lit 4611686018427387904) (.len 0),false),(.lt (.len 0) (.var 10),false),(.lt (.var 10) (.lit 0),false)]
theorem atH:nD (fun a b=>match aM (QU a b) 41 [ix a,ix b] wE with | .ret x=>X.beq x (.sc (.b (.lit true))) | _=>false)=true:=by kernel_rfl
theorem atG (a b:Bool) {ρ:aa} (h:bY Tryz.prog ρ Tryz.f41.ntmps wD (Dp a b)):∀f i,eC f gb=some i->a1 Tryz.prog ρ i.ntmps (QV a b f) i.body:=fun f i hi=>by
 unfold QV
 split
 ·rename_i hf
  have hf:=Nat.eq_of_beq_eq_true hf
  subst hf
  have e:eC 41 gb=some (fi Tryz.f41 []):=by kernel_rfl
  rw[e]at hi
  cases hi
  exact kv [0] (by cases a<;>cases b<;>kernel_rfl) (List.forall_mem_cons.2 ⟨ku (L:=Dp a b) (c:=wD) (by cases a<;>cases b<;>kernel_rfl) h,List.forall_mem_nil _⟩)
 ·exact a1.nil _ _ _ _
theorem Q1:oZ Tryz.prog 41:=⟨by kernel_rfl,fun ss f1 gr n h M=>by
 let ρ:aa:=⟨fun _=>0,fun _=>false,fun _=>⟨#[]⟩,fun _=>ss.length,fun _ _ _=>0,fun _ _ _=>false,fun _ _ j=>(ss[j]?).getD ⟨#[]⟩,kz⟩
 obtain⟨ao,A,E,h3⟩:=atF f1 gr (ρ:=ρ) (m:=ss.length) rfl M
 have hw:=p9 atH f1 gr
 have H:b4 Tryz.prog ao (QU f1 gr).c:=hj (List.forall_mem_nil _) (atG f1 gr h3)
 have u:J.ok ao wE:=by
  have q1:=E.n;have q2:=E.b;have q3:=E.i0;have q4:=E.i1
  exact J.av (decide_eq_false (by show ¬(4611686018427387904:Int)<ao.len 0;omega)) (J.av (decide_eq_false (by show ¬(ao.len 0:Int)<ao.i 10;omega)) (J.av (decide_eq_false (by show ¬ao.i 10<0;omega)) (J.bt ao)))
 split at hw
 ·rename_i x hx
  have:=X.beq_eq _ _ hw
  subst this
  have q:=(ec H (List.forall_mem_nil _) u (show(aM (QU f1 gr) 41 [ix f1,ix gr] wE).aq ao=some _ by rw[hx];rfl)).2 n h
  have e:X.af ao [ix f1,ix gr]=[.ro 1 (fw ss) f1,.ro 1 (fw ss) gr]:=by
   have r:aV ao (.len 0) (.var 0 [.s])=fw ss:=by
    unfold aV fw
    have l:((U.len 0).I ao).toNat=ss.length:=by
     have:=E.n
     show((ao.len 0:Nat):Int).toNat=_
     omega
    rw[l]
    apply List.ext_getElem?
    intro j
    rw[List.getElem?_map,List.getElem?_map]
    by_cases O:j<ss.length
    ·rw[List.getElem?_range O,List.getElem?_eq_getElem O,Option.map_some,Option.map_some]
     have:ao.cs 0 0 j=ss[j]:=by
      rw[<-A.cs 0 (by omega)]
      show(ss[j]?).getD ⟨#[]⟩=_
      rw[List.getElem?_eq_getElem O];rfl
     show some [AV.sc (.string (ao.cs 0 0 ((j:Int)).toNat))]=_
     rw[Int.toNat_natCast,this]
    ·rw[List.getElem?_eq_none (by rw[List.length_range];omega),List.getElem?_eq_none (by omega)];rfl
   show [AV.ro 1 (aV ao (.len 0) (.var 0 [.s])) f1,AV.ro 1 (aV ao (.len 0) (.var 0 [.s])) gr]=_
   rw[r]
  rw[e]at q
  exact q
 ·cases hw⟩
end Go.Proofs.YtpdfmnhgocpkcaaGreat
namespace Go.Proofs.Xw
open Go Go.Proofs.Aw
def Ea:Option AV->Int
 | some (.sc (.int _ v))=>v
 | _=>0
def D_:Option AV->Bool
 | some (.sc (.bool v))=>v
 | _=>false
def Ec:Option AV->ByteArray
 | some (.sc (.string v))=>v
 | _=>⟨#[]⟩
def nO:Option AV->List (List AV)
 | some (.ro _ D _)=>D
 | _=>[]
def eR (e:List AV):aa:=⟨fun k=>Ea e[k]?,fun k=>D_ e[k]?,fun k=>Ec e[k]?,fun k=>(nO e[k]?).length,fun l k j=>Ea (((nO e[l]?)[j]?).bind (·[k]?)),fun l k j=>D_ (((nO e[l]?)[j]?).bind (·[k]?)),fun l k j=>Ec (((nO e[l]?)[j]?).bind (·[k]?)),kz⟩
def wv (k:Nat):Tk->X
 | .f (.i K) => .sc (.i K (.var k))
 | .f .b => .sc (.b (.var k))
 | .f .s => .sc (.s (.var k))
 | .r z ks => .rl z (.len k) (.var k ks) false
def wx:Nat->List Tk->List X
 | _,[]=>[]
 | k,t::l=>wv k t::wx (k+1) l
theorem HM {e:List AV} {l j:Nat} {r:List AV} (hr:(nO e[l]?)[j]? = some r):∀(ks:List Kd) (k:Nat) (r':List AV),jU ks r'->(∀i,r'[i]? = r[k+i]?)->bH (eR e) l k ks j=r'
 | [],_,r',h,_=>by
  have h:r'=[]:=h
  subst h;rfl
 | .i K::ks,k,r',h,hq=>by
  obtain⟨v,q,rfl,E⟩:=h
  have h0:r[k]? = some (.sc (.int K v)):=(hq 0).symm
  have H:(eR e).ci l k j=v:=by show Ea (((nO e[l]?)[j]?).bind (·[k]?))=v;rw[hr,Option.bind_some,h0];rfl
  show AV.sc (.int K ((eR e).ci l k j))::bH (eR e) l (k+1) ks j=_
  rw[H,HM hr ks (k+1) q E fun i=>by rw[show k+1+i=k+(i+1)by omega,<-hq (i+1)];rfl]
 | .b::ks,k,r',h,hq=>by
  obtain⟨v,q,rfl,E⟩:=h
  have h0:r[k]? = some (.sc (.bool v)):=(hq 0).symm
  have H:(eR e).cb l k j=v:=by show D_ (((nO e[l]?)[j]?).bind (·[k]?))=v;rw[hr,Option.bind_some,h0];rfl
  show AV.sc (.bool ((eR e).cb l k j))::bH (eR e) l (k+1) ks j=_
  rw[H,HM hr ks (k+1) q E fun i=>by rw[show k+1+i=k+(i+1)by omega,<-hq (i+1)];rfl]
 | .s::ks,k,r',h,hq=>by
  obtain⟨v,q,rfl,E⟩:=h
  have h0:r[k]? = some (.sc (.string v)):=(hq 0).symm
  have H:(eR e).cs l k j=v:=by show Ec (((nO e[l]?)[j]?).bind (·[k]?))=v;rw[hr,Option.bind_some,h0];rfl
  show AV.sc (.string ((eR e).cs l k j))::bH (eR e) l (k+1) ks j=_
  rw[H,HM hr ks (k+1) q E fun i=>by rw[show k+1+i=k+(i+1)by omega,<-hq (i+1)];rfl]
theorem ar2 {e:List AV} {k:Nat} {t:Tk} {v:AV} (R:e[k]? = some v) (ht:t.uv v):(wv k t).I (eR e)=v:=by
 cases t with
 | f K =>
  cases K with
  | i K =>
   obtain⟨x,r,A,_⟩:=ht
   cases A
   show AV.sc (.int K (Ea e[k]?))=_
   rw[R];rfl
  | b =>
   obtain⟨x,r,A,_⟩:=ht
   cases A
   show AV.sc (.bool (D_ e[k]?))=_
   rw[R];rfl
  | s =>
   obtain⟨x,r,A,_⟩:=ht
   cases A
   show AV.sc (.string (Ec e[k]?))=_
   rw[R];rfl
 | r z ks =>
  obtain⟨D,rfl,M,E⟩:=ht
  have hR:nO e[k]? = D:=by rw[R];rfl
  show AV.ro z (aV (eR e) (.len k) (.var k ks)) false=_
  congr 1
  unfold aV
  have l:((U.len k).I (eR e)).toNat=D.length:=by
   show(((nO e[k]?).length:Nat):Int).toNat=_
   rw[hR];omega
  rw[l]
  apply List.ext_getElem?
  intro j
  rw[List.getElem?_map]
  by_cases O:j<D.length
  ·rw[List.getElem?_range O,List.getElem?_eq_getElem O,Option.map_some]
   congr 1
   show bH (eR e) k 0 ks ((j:Int)).toNat=_
   rw[Int.toNat_natCast]
   exact HM (by rw[hR,List.getElem?_eq_getElem O]) ks 0 _ (E _ (List.getElem_mem O)) fun i=>by rw[Nat.zero_add]
  ·rw[List.getElem?_eq_none (by rw[List.length_range];omega),List.getElem?_eq_none (by omega)];rfl
theorem ZC:∀(ts:List Tk) (k i:Nat),(wx k ts)[i]? = (ts[i]?).map (wv (k+i))
 | [],_,_=>by simp[wx]
 | t::l,k,0=>by simp[wx]
 | t::l,k,i+1=>by simp only[wx,List.getElem?_cons_succ,ZC l (k+1) i,show k+1+i=k+(i+1)by omega]
theorem ar3 {e:List AV} {ts:List Tk} (M:e.length=ts.length) (h:∀(k:Nat) (t:Tk),ts[k]? = some t->∃v,e[k]? = some v/\t.uv v):X.af (eR e) (wx 0 ts)=e:=by
 apply List.ext_getElem?
 intro k
 rw[X.r_,ZC]
 by_cases u:k<ts.length
 ·obtain⟨v,A,E⟩:=h k _ (List.getElem?_eq_getElem u)
  rw[List.getElem?_eq_getElem u,Option.map_some,Option.map_some,Nat.zero_add,ar2 A E,A]
 ·rw[List.getElem?_eq_none (by omega:ts.length<=k),List.getElem?_eq_none (by omega:e.length<=k)];rfl
end Go.Proofs.Xw
namespace Go.Proofs.YtpdfmnhgocpkcaaGreat
open Go Go.Proofs.Aw Go.Proofs.Xw
set_option maxRecDepth 100000
def l9:List X:=wx 0 fc
def EU (i:X):ba:=(5,i)::(((List.range 93).map fun k=>(98-k,X.top))++[(4,.top),(3,.ptr (1,0) [] 0),(2,.ptr (0,0) [] 0),(0,.top),(1,.top)])
def KN:au:=[((0,0),l9),((1,0),l9)]
def ET:XS:=⟨EU (xn 0),KN,97⟩
def nZ:XS:=⟨EU (xi 20),KN,97⟩
def Tv:XS:=⟨EU (xi 20),KN,160⟩
noncomputable def si:Code:=(dP (Tryz.f65.body.getD .skip))[0]?.getD .skip
def Aq:J:=[(.lt (.var 20) (.lit 0),false),(.lt (.len 10) (.var 20),false),(.lt (.lit 1000) (.len 10),false),(.lt (.lit 1000) (.len 3),false)]
def Ap:U := .op .add .i64 (.var 20) (.lit 1)
def KM:J:=(.lt (.var 20) (.len 10),true)::(.lt Ap (.lit 0),false)::(.lt (.len 10) Ap,false)::Aq
def KK:J:=(.lt (.var 20) (.len 10),false)::Aq
noncomputable def sj (lp:Nat->List bj):cr:=⟨r5 [] lp [] [] [41],[],[]⟩
noncomputable def KT (B:J):T (XE×XS):=(ck (sj fun _=>[]).c.ti (eD (sj fun _=>[]) 12) [] 0 [] 1000 si B nZ).map (dV ((EU (xi 20)).map (·.1)))
def ER:Bind:=⟨[(20,Ap)],[],[],[]⟩
def xr:T (XE×XS)->Bool
 | .ret (.normal,s)=>ff 0 20 ER [] nZ s
 | _=>false
theorem eq_go:xr (KT KM)=true:=by kernel_rfl
theorem aeh:dB 0 20 20 [] (0,[]) 0 [] Tv (.exit 0) KK (KT KK)=true:=by kernel_rfl
theorem Tw:da Tryz.f65.ntmps si=true:=by kernel_rfl
noncomputable def At:bj:=⟨(dt si).getD 0,0,20,ET,gz,[],.ret (.exit 0,Tv)⟩
theorem aeg:ET.ar 20=true:=by kernel_rfl
def KR:Bind:=⟨[(20,.lit 0)],[],[],[]⟩
theorem aei:ff 0 20 KR [] nZ ET=true:=by kernel_rfl
noncomputable def ES (f:Nat):List bj:=if Nat.beq f 65=true then [At]else []
def isTrue:T X->Bool
 | .ret x=>X.beq x (.sc (.b (.lit true)))
 | _=>false
theorem M3 {t:T X} (h:isTrue t=true):t = .ret (.sc (.b (.lit true))):=by
 unfold isTrue at h
 split at h
 ·rw[X.beq_eq _ _ h]
 ·cases h
theorem ael:isTrue (aM (sj ES) 65 [.agg l9,.agg l9] Aq)=true:=by kernel_rfl
structure DP (e:List AV) (ρ:aa):Prop where
 ah:az 20 (eR e) ρ
 i0:0<=ρ.i 20
 i1:ρ.i 20<=ρ.len 10
 Nj:ρ.len 10<=1000
 qU:ρ.len 3<=1000
theorem KL {e:List AV} {ρ:aa} (h:DP e ρ):J.ok ρ Aq:=by
 have q1:=h.i0;have q2:=h.i1;have q3:=h.Nj;have q4:=h.qU
 exact J.av (b_ (show ¬ρ.i 20<0 by omega)) (J.av (b_ (show ¬(ρ.len 10:Int)<ρ.i 20 by omega)) (J.av (b_ (show ¬(1000:Int)<ρ.len 10 by omega)) (J.av (b_ (show ¬(1000:Int)<ρ.len 3 by omega)) (J.bt ρ))))
theorem Tu {ρ:aa} {lp:Nat->List bj} (h:∀f i,eC f gb=some i->a1 Tryz.prog ρ i.ntmps (lp f) i.body):b4 Tryz.prog ρ (sj lp).c:=r6 (List.forall_mem_nil _) h (List.forall_mem_nil _) (List.forall_mem_nil _) (List.forall_mem_cons.2 ⟨Q1,List.forall_mem_nil _⟩)
theorem aej {e:List AV} (h3:(eR e).len 3<=1000) (A5:(eR e).len 10<=1000):∃ao,az 20 (eR e) ao/\DP e ao/\bY Tryz.prog ao Tryz.f65.ntmps si At:=by
 have he:az 20 (eR e) (KR.ap (eR e)):=Bind.bq (by kernel_rfl) _
 refine ot (P:=Tryz.prog) (N:=Tryz.f65.ntmps) (body:=si) (k0:=0) (n:=20) (S0:=ET) (ρ:=eR e) aeg (fun _=>nZ) At ⟨rfl,rfl,rfl⟩ (fun _ F=>DP e F) (DP e) (fun F=>F.len 10-(F.i 20).toNat) (fun i F hR => ?_)
  ⟨0,KR.ap (eR e),he,⟨he,Int.le_refl _,show(0:Int)<=((eR e).len 10:Nat)by omega,A5,h3⟩,fun ac _ bI=>jE bI aei _⟩
 have q2:=hR.i0;have q3:=hR.i1;have q4:=hR.Nj;have q5:=hR.qU
 have H:b4 Tryz.prog F (sj fun _=>[]).c:=Tu fun _ _ _=>a1.nil _ _ _ _
 by_cases aQ:F.i 20<F.len 10
 ·right
  have e1:Ap.I F=F.i 20+1:=(show Ap.I F=IntKind.i64.wrap (F.i 20+1)from rfl).trans (ca _ (by omega) (by omega))
  have u:J.ok F KM:=J.av (mr aQ) (J.av (b_ (by rw[e1];show ¬_<(0:Int);omega)) (J.av (b_ (by rw[e1];show ¬(F.len 10:Int)<_;omega)) (KL hR)))
  have Z:=eq_go
  unfold xr at Z
  split at Z
  ·rename_i s bD
   have eP:=Qd (P:=Tryz.prog) (ρ:=F) (N:=Tryz.f65.ntmps) (body:=si) (k0:=0) (S:=nZ) (lO:=nZ) mixed cR (eU (c:=sj fun _=>[]) H (List.forall_mem_nil _) 12) (a1.nil _ _ _ _) Tw u rfl (s:=s) (by
    show(KT KM).aq F=_
    rw[bD];rfl) Z
   have ah:az 20 F (ER.ap F):=Bind.bq (by kernel_rfl) _
   have ST:(ER.ap F).i 20=F.i 20+1:=e1
   have kw:∀k,k<20->(ER.ap F).len k=F.len k:=fun k u=>(ah.len k u).symm
   have Nj:=kw 10 (by decide);have qU:=kw 3 (by decide)
   exact⟨0,_,eP,⟨hR.ah.trans ah,by omega,by omega,by omega,by omega⟩,by omega,ah⟩
  ·cases Z
 ·left
  refine⟨hR,?_⟩
  have u:J.ok F KK:=J.av (b_ aQ) (KL hR)
  rcases gC mixed cR (eU (c:=sj fun _=>[]) H (List.forall_mem_nil _) 12) (a1.nil _ _ _ _) Tw u aeh with h | ⟨j,C,_,A,_⟩
  ·exact h
  ·simp at A
theorem aek {ρ:aa} (h:bY Tryz.prog ρ Tryz.f65.ntmps si At):∀g i,eC g gb=some i->a1 Tryz.prog ρ i.ntmps (ES g) i.body:=fun g i hi=>by
 unfold ES
 split
 ·rename_i hf
  have hf:=Nat.eq_of_beq_eq_true hf
  subst hf
  have gc:ji Tryz.prog 65 i:=mS (65,i) (jW _ _ (jV hi))
  refine ou gc Tryz.func65 ?_
  exact kv (c:=Tryz.f65.body.getD .skip) [0] (by kernel_rfl) (List.forall_mem_cons.2 ⟨ku (L:=At) (c:=si) (by kernel_rfl) h,List.forall_mem_nil _⟩)
 ·exact a1.nil _ _ _ _
theorem aeG {e:List AV} (h:mG e) (n:Nat) (hp:Hp):CY Tryz.prog n 65 [.agg e,.agg e] hp (.sc (.bool true)) []:=by
 have len:∀k z ks,fc[k]? = some (.r z ks)->(eR e).len k<=1000:=fun k z ks u=>by
  obtain⟨v,A,D,E,h3,_⟩:=h.t k _ u
  show(nO e[k]?).length<=1000
  rw[A,E];exact h3
 have ed:X.af (eR e) l9=e:=ar3 (by rw[h.l,Ni]) h.t
 obtain⟨ao,A,E,h3⟩:=aej (len 3 1 [.s] rfl) (len 10 22 fb rfl)
 have H:=Tu (aek h3)
 have hw:=M3 ael
 have q:=(ec H (List.forall_mem_nil _) (KL E) (show(aM (sj ES) 65 [.agg l9,.agg l9] Aq).aq ao=some _ by rw[hw];rfl)).2 n hp
 have ee:X.af ao l9=e:=(X.fZ (n:=20) A l9 (by kernel_rfl)).symm.trans ed
 rw[show X.af ao [.agg l9,.agg l9]=[.agg (X.af ao l9),.agg (X.af ao l9)]from rfl,ee]at q
 exact q
end Go.Proofs.YtpdfmnhgocpkcaaGreat
namespace Go.Proofs.YtpdfmnhgocpkcaaGreat
open Go Go.Proofs.Aw Go.Proofs.Xw
set_option maxRecDepth 100000
def so (f:Bool):X := .tq 20 (.len 0) 0 [] f
def EV (i:X) (a b:Bool):ba:=[(5,i),(10,.top),(9,.top),(8,.top),(7,.top),(6,.top),(4,.top),(0,so a),(1,so b)]
def TA (a b:Bool):XS:=⟨EV (xn 0) a b,[],7⟩
def Az (a b:Bool):XS:=⟨EV (xi 10) a b,[],7⟩
def Ty (a b:Bool):XS:=⟨EV (xi 10) a b,[],20⟩
noncomputable def sk:Code:=(dP (Tryz.f31.body.getD .skip))[0]?.getD .skip
def Av:List (Nat×List X×X):=[(65,[.agg (qh 20 0 (.var 10)),.agg (qh 20 0 (.var 10))],.sc (.b (.lit true)))]
noncomputable def mR (ks:List (Nat×List X×X)) (lp:Nat->List bj):cr:=⟨bd ks lp,[],[]⟩
noncomputable def KV (a b:Bool) (ks:List (Nat×List X×X)) (B:J):T (XE×XS):=(ck (mR ks fun _=>[]).c.ti (eD (mR ks fun _=>[]) 12) [] 0 [] 1000 sk B (Az a b)).map (dV ((EV (xi 10) a b).map (·.1)))
def Tz (a b:Bool):T (XE×XS)->Bool
 | .ret (.normal,s)=>ff 0 10 xv [] (Az a b) s
 | _=>false
theorem aen:nD (fun a b=>Tz a b (KV a b Av xy))=true:=by kernel_rfl
theorem aem:nD (fun a b=>dB 0 10 10 [] (0,[]) 0 [] (Ty a b) (.exit 0) xw (KV a b [] xw))=true:=by kernel_rfl
theorem TB:da Tryz.f31.ntmps sk=true:=by kernel_rfl
noncomputable def Ax (a b:Bool):bj:=⟨(dt sk).getD 0,0,10,TA a b,gz,[],.ret (.exit 0,Ty a b)⟩
noncomputable def Ay (a b:Bool) (f:Nat):List bj:=if Nat.beq f 31=true then [Ax a b]else []
theorem aes:nD (fun a b=>isTrue (aM (mR [] (Ay a b)) 31 [so a,so b] uP))=true:=by kernel_rfl
theorem aeo {D:List (List AV)} (hs:fW D) {ρ:aa} (h:kN [] D ρ) (aQ:ρ.i 10<D.length):∀p∈Av,cf Tryz.prog p.1=true/\∀n h,CY Tryz.prog n p.1 (X.af ρ p.2.1) h (p.2.2.I ρ) []:=by
 have h0:=h.i0
 have O:(ρ.i 10).toNat<D.length:=by omega
 have hr:=hs.r _ (List.getElem_mem O)
 have H:ρ.ct 0=(iG [] D).ct 0:=(h.ah.ct 0 (by decide)).symm
 refine List.forall_mem_cons.2 ⟨⟨by kernel_rfl,fun n hp => ?_⟩,List.forall_mem_nil _⟩
 have e:X.af ρ (qh 20 0 (.var 10))=D[(ρ.i 10).toNat]:=by
  rw[JT]
  apply List.ext_getElem?
  intro k
  by_cases u:k<20
  ·obtain⟨v,A,_⟩:=hr.get u
   rw[List.getElem?_map,List.getElem?_range u,Option.map_some,A]
   congr 1
   show(ρ.ct 0 k (ρ.i 10).toNat).1=v
   rw[H]
   exact K8 hs.r (List.getElem?_eq_getElem O) A
  ·rw[List.getElem?_eq_none (by rw[List.length_map,List.length_range];omega),List.getElem?_eq_none (by rw[hr.l];omega)]
 show CY Tryz.prog n 65 [.agg (X.af ρ (qh 20 0 (.var 10))),.agg (X.af ρ (qh 20 0 (.var 10)))] hp _ []
 rw[e]
 exact aeG hr n hp
theorem aep (a b:Bool) {D:List (List AV)} (hs:fW D):∃ao,az 10 (iG [] D) ao/\kN [] D ao/\bY Tryz.prog ao Tryz.f31.ntmps sk (Ax a b):=by
 have he:az 10 (iG [] D) (AD.ap (iG [] D)):=Bind.bq (by kernel_rfl) _
 refine ot (P:=Tryz.prog) (N:=Tryz.f31.ntmps) (body:=sk) (k0:=0) (n:=10) (S0:=TA a b) (ρ:=iG [] D) (by cases a<;>cases b<;>kernel_rfl) (fun _=>Az a b) (Ax a b) ⟨rfl,rfl,rfl⟩ (fun _ F=>kN [] D F) (kN [] D) (fun F=>D.length-(F.i 10).toNat) (fun i F hR => ?_)
  ⟨0,AD.ap (iG [] D),he,⟨he,Int.le_refl _,show(0:Int)<=D.length by omega⟩,fun ac _ bI=>jE (k0:=0) (n:=10) (nm:=[]) bI (by cases a<;>cases b<;>kernel_rfl) _⟩
 have q1:=hR.len;have q2:=hR.i0;have q3:=hR.i1;have q4:=hs.l
 by_cases aQ:F.i 10<D.length
 ·right
  have H:b4 Tryz.prog F (mR Av fun _=>[]).c:=hj (aeo hs hR aQ) (fun _ _ _=>a1.nil _ _ _ _)
  have e1:uM.I F=F.i 10+1:=(show uM.I F=IntKind.i64.wrap (F.i 10+1)from rfl).trans (ca _ (by omega) (by omega))
  have u:J.ok F xy:=J.av (mr (show F.i 10<(F.len 0:Int)by omega)) (J.av (b_ (by rw[e1];show ¬_<(0:Int);omega)) (J.av (b_ (by rw[e1];show ¬(F.len 0:Int)<_;omega)) (xx hs hR)))
  have Z:=p9 aen a b
  simp only[Tz]at Z
  split at Z
  ·rename_i s bD
   have eP:=Qd (P:=Tryz.prog) (ρ:=F) (N:=Tryz.f31.ntmps) (body:=sk) (k0:=0) (S:=Az a b) (lO:=Az a b) mixed cR (eU (c:=mR Av fun _=>[]) H (List.forall_mem_nil _) 12) (a1.nil _ _ _ _) TB u rfl (s:=s) (by
    show(KV a b Av xy).aq F=_
    rw[bD];rfl) Z
   have ah:az 10 F (xv.ap F):=Bind.bq (by kernel_rfl) _
   have ST:(xv.ap F).i 10=F.i 10+1:=e1
   exact⟨0,_,eP,⟨hR.ah.trans ah,by omega,by omega⟩,by omega,ah⟩
  ·cases Z
 ·left
  refine⟨hR,?_⟩
  have H:b4 Tryz.prog F (mR [] fun _=>[]).c:=hj (List.forall_mem_nil _) (fun _ _ _=>a1.nil _ _ _ _)
  have u:J.ok F xw:=J.av (b_ (show ¬F.i 10<(F.len 0:Int)by omega)) (xx hs hR)
  rcases gC mixed cR (eU (c:=mR [] fun _=>[]) H (List.forall_mem_nil _) 12) (a1.nil _ _ _ _) TB u (p9 aem a b)with h | ⟨j,C,_,A,_⟩
  ·exact h
  ·simp at A
theorem aeq (a b:Bool) {ρ:aa} (h:bY Tryz.prog ρ Tryz.f31.ntmps sk (Ax a b)):∀g i,eC g gb=some i->a1 Tryz.prog ρ i.ntmps (Ay a b g) i.body:=fun g i hi=>by
 unfold Ay
 split
 ·rename_i hf
  have hf:=Nat.eq_of_beq_eq_true hf
  subst hf
  have gc:ji Tryz.prog 31 i:=mS (31,i) (jW _ _ (jV hi))
  refine ou gc Tryz.func31 ?_
  exact kv (c:=Tryz.f31.body.getD .skip) [0] (by cases a<;>cases b<;>kernel_rfl) (List.forall_mem_cons.2 ⟨ku (L:=Ax a b) (c:=sk) (by cases a<;>cases b<;>kernel_rfl) h,List.forall_mem_nil _⟩)
 ·exact a1.nil _ _ _ _
theorem TL {D:List (List AV)} (hs:fW D) (a b:Bool) (n:Nat) (hp:Hp):CY Tryz.prog n 31 [.ro 20 D a,.ro 20 D b] hp (.sc (.bool true)) []:=by
 obtain⟨ao,A,E,h3⟩:=aep a b hs
 have H:b4 Tryz.prog ao (mR [] (Ay a b)).c:=hj (List.forall_mem_nil _) (aeq a b h3)
 have hw:=M3 (p9 aes a b)
 have q:=(ec H (List.forall_mem_nil _) (xx hs E) (show(aM (mR [] (Ay a b)) 31 [so a,so b] uP).aq ao=some _ by rw[hw];rfl)).2 n hp
 have r:bB ao 20 (.len 0) 0++X.aX ao []=D:=by rw[E.rows hs];exact List.append_nil _
 rw[show X.af ao [so a,so b]=[.ro 20 (bB ao 20 (.len 0) 0++X.aX ao []) a,.ro 20 (bB ao 20 (.len 0) 0++X.aX ao []) b]from rfl,r]at q
 exact q
theorem aer:nD (fun a b=>isTrue (aM (mR [] fun _=>[]) 31 [.ro 20 [] a,.ro 20 [] b] []))=true:=by kernel_rfl
theorem TM (a b:Bool) (n:Nat) (hp:Hp):CY Tryz.prog n 31 [.ro 20 [] a,.ro 20 [] b] hp (.sc (.bool true)) []:=by
 have hw:=M3 (p9 aer a b)
 let ρ:aa:=eR []
 have H:b4 Tryz.prog ρ (mR [] fun _=>[]).c:=hj (List.forall_mem_nil _) (fun _ _ _=>a1.nil _ _ _ _)
 exact(ec H (List.forall_mem_nil _) (J.bt ρ) (show(aM (mR [] fun _=>[]) 31 [.ro 20 [] a,.ro 20 [] b] []).aq ρ=some _ by rw[hw];rfl)).2 n hp
end Go.Proofs.YtpdfmnhgocpkcaaGreat
namespace Go.Proofs.YtpdfmnhgocpkcaaGreat
open Go Go.Proofs.Aw Go.Proofs.Xw
set_option maxRecDepth 100000
def KW (call:bC):bC:=fun n f args h B=>if Nat.beq f 16=true then(match K' B args h with
  | some p => .ret p
  | none=>call n f args h B)else call n f args h B
theorem aet {ρ:aa} (hT:d' 460 fc ρ) {call:bC} (H:cX Tryz.prog ρ call):cX Tryz.prog ρ (KW call):=fun n f args h B r d u hq=>by
 unfold KW at hq
 split at hq
 ·rename_i hf
  have hf:=Nat.eq_of_beq_eq_true hf
  subst hf
  split at hq
  ·rename_i p hp
   obtain⟨r',fD⟩:=p
   cases hq
   exact⟨by kernel_rfl,aew u hT hp n⟩
  ·exact H n 16 args h B r d u hq
 ·exact H n f args h B r d u hq
def zR:J->T X->Bool
 | B,.ret (.sc (.b e))=>ns B (e,true)
 | _,_=>false
end Go.Proofs.YtpdfmnhgocpkcaaGreat
namespace Go.Proofs.Xw
open Go Go.Proofs.Aw
theorem cS.le {C:Ctx} {a:Addr}:∀{x y:List AV} {i:Nat},bo x y->cS C a i y->cS C a i x
 | [],_,_,_,_=>by simp only[cS]
 | c::x,[],_,h,_=>by simp[bo]at h
 | c::x,d::y,i,h,hm=>by
  simp only[cS]at hm ⊢
  obtain⟨⟨Y,A,E⟩,h3⟩:=hm
  obtain⟨fD,hd,M⟩:=h.2 0 c rfl
  cases hd
  exact⟨⟨Y,A,M C Y E⟩,cS.le ⟨by simpa using h.1,fun j v R=>by simpa using h.2 (j+1) v (by simpa using R)⟩ h3⟩
def gI:List (List AV)->List (List AV)->Prop
 | [],[]=>True
 | x::a,y::b=>bo x y/\gI a b
 | _,_=>False
theorem gI.len:∀{a b:List (List AV)},gI a b->a.length=b.length
 | [],[],_=>rfl
 | _::_,_::_,h=>by simp[gI.len h.2]
 | [],_::_,h=>h.elim
 | _::_,[],h=>h.elim
theorem gI.refl:∀a:List (List AV),gI a a
 | []=>trivial
 | x::a=>⟨bo.refl x,gI.refl a⟩
theorem gI.app:∀{a b c d:List (List AV)},gI a b->gI c d->gI (a++c) (b++d)
 | [],[],_,_,_,k=>k
 | _::_,_::_,_,_,h,k=>⟨h.1,gI.app h.2 k⟩
 | [],_::_,_,_,h,_=>h.elim
 | _::_,[],_,_,h,_=>h.elim
theorem dc.le {C:Ctx} {p:Addr} {z:Nat}:∀{a b:List (List AV)} {i:Nat},gI a b->dc C p z i b->dc C p z i a
 | [],[],_,_,h=>h
 | x::a,y::b,i,h,hm=>by
  simp only[dc]at hm ⊢
  exact⟨h.1.1.trans hm.1,cS.le h.1 hm.2.1,dc.le h.2 hm.2.2⟩
 | [],_::_,_,h,_=>h.elim
 | _::_,[],_,h,_=>h.elim
theorem bR.ro {z:Nat} {a b:List (List AV)} (f:Bool) (h:gI a b):bR (.ro z a f) (.ro z b f):=fun C Y hu=>by
 obtain⟨ab,cap,A,E,h3,h4⟩:=hk.1 hu
 refine hk.2 ⟨ab,cap,by rw[h.len];exact A,by rw[h.len];exact E,fun k=>by rw[h.len];exact h3 k,fun ax => ?_⟩
 obtain⟨p,g1,g2,g3,g4⟩:=h4 (fun e=>by
  subst e
  exact ax (List.length_eq_zero_iff.1 h.len))
 exact⟨p,g1,g2,g3,dc.le h g4⟩
theorem aC.le {C:Ctx}:∀{a b:List AV} {us:List Value},bo a b->aC C b us->aC C a us
 | [],[],_,_,h=>h
 | [],_::_,_,h,_=>by simp[bo]at h
 | _::_,[],_,h,_=>by simp[bo]at h
 | c::a,d::b,us,h,hm=>by
  obtain⟨Y,vs,e,A,E⟩:=hm
  obtain⟨fD,hd,M⟩:=h.2 0 c rfl
  cases hd
  exact⟨Y,vs,e,M C Y A,aC.le ⟨by simpa using h.1,fun j v R=>by simpa using h.2 (j+1) v (by simpa using R)⟩ E⟩
theorem RB {P:Program} {n:Nat} {f:FuncId} {a b:List AV} {h:Hp} {r:AV} {d:Dl} (M:bo a b) (H:CY P n f a h r d):CY P n f b h r d:=fun C vs W hL hn=>H C vs W (aC.le M hL) hn
end Go.Proofs.Xw
namespace Go.Proofs.YtpdfmnhgocpkcaaGreat
open Go Go.Proofs.Aw Go.Proofs.Xw
set_option maxRecDepth 100000
def PV (B:J):List X->Bool
 | [.tq z n t D _,.tq z' n' t' bi _]=>Nat.beq z 20&&(Nat.beq z' 20&&(Nat.beq t 460&&(Nat.beq t' 460&&(n.beq (.len 460)&&(n'.beq (.len 460)&&(Nat.ble D.length 1000&&(ns B (.lt (.lit 1000) (.len 460),false)&&(X.nP (eE B D) (eE B bi)&&(eE B D).all fun e=>Nat.beq e.length 20&&oX B fc e))))))))
 | [.ro z D _,.ro z' bi _]=>Nat.beq z 20&&(Nat.beq z' 20&&(Nat.ble D.length 1000&&(X.nP (eE B D) (eE B bi)&&(eE B D).all fun e=>Nat.beq e.length 20&&oX B fc e)))
 | _=>false
theorem AF {ρ:aa} {B:J} (u:J.ok ρ B):∀D:List (List X),gI (X.aX ρ (eE B D)) (X.aX ρ D)
 | []=>trivial
 | e::D=>⟨yK u ja e,AF u D⟩
theorem aqT {ρ:aa} {B:J} (u:J.ok ρ B) (hT:d' 460 fc ρ) {ys:List X} (h:PV B ys=true) (n:Nat) (hp:Hp):CY Tryz.prog n 31 (X.af ρ ys) hp (.sc (.bool true)) []:=by
 unfold PV at h
 split at h
 ·rename_i z n1 t D f z' n2 t' bi f'
  simp only[Bool.and_eq_true]at h
  obtain⟨A,E,h3,h4,h5,h6,h7,un,ut,A5⟩:=h
  have A:=Nat.eq_of_beq_eq_true A;have E:=Nat.eq_of_beq_eq_true E
  have h3:=Nat.eq_of_beq_eq_true h3;have h4:=Nat.eq_of_beq_eq_true h4
  have h5:=U.beq_eq _ _ h5;have h6:=U.beq_eq _ _ h6
  have h7:=Nat.le_of_ble_eq_true h7
  have un:¬(1000:Int)<(ρ.len 460:Int):=of_decide_eq_false (rA u un)
  have ut:=X.uw _ _ ut
  subst A E h3 h4 h5 h6
  let aI:List (List AV):=bB ρ 20 (.len 460) 460++X.aX ρ (eE B D)
  have LO:(bB ρ 20 (.len 460) 460).length=ρ.len 460:=by rw[we];exact Int.toNat_natCast _
  have hE:(X.aX ρ (eE B D)).length=D.length:=by rw[X.ef,List.length_map,K7]
  have hr:=K9 u hT A5
  refine RB (a:=[.ro 20 aI f,.ro 20 aI f']) (bo.cons (bR.ro f (gI.app (gI.refl _) (AF u D))) (bo.cons (bR.ro f' (gI.app (gI.refl _) ?_)) (bo.refl []))) ?_
  ·show gI (X.aX ρ (eE B D)) (X.aX ρ bi)
   rw[ut];exact AF u bi
  ·by_cases h0:aI=[]
   ·rw[h0];exact TM f f' n hp
   ·exact TL ⟨h0,by show(bB ρ 20 (.len 460) 460++X.aX ρ (eE B D)).length<=_;rw[List.length_append,LO,hE];omega,hr⟩ f f' n hp
 ·rename_i z D f z' bi f'
  simp only[Bool.and_eq_true]at h
  obtain⟨A,E,h7,ut,A5⟩:=h
  have A:=Nat.eq_of_beq_eq_true A;have E:=Nat.eq_of_beq_eq_true E
  have h7:=Nat.le_of_ble_eq_true h7
  have ut:=X.uw _ _ ut
  subst A E
  have hE:(X.aX ρ (eE B D)).length=D.length:=by rw[X.ef,List.length_map,K7]
  have hr:∀e∈X.aX ρ (eE B D),mG e:=fun e G=>K9 u hT A5 e (List.mem_append_right _ G)
  refine RB (a:=[.ro 20 (X.aX ρ (eE B D)) f,.ro 20 (X.aX ρ (eE B D)) f']) (bo.cons (bR.ro f (AF u D)) (bo.cons (bR.ro f' ?_) (bo.refl []))) ?_
  ·rw[ut];exact AF u bi
  ·by_cases h0:X.aX ρ (eE B D)=[]
   ·rw[h0];exact TM f f' n hp
   ·exact TL ⟨h0,by omega,hr⟩ f f' n hp
 ·cases h
def Gg (call:bC):bC:=fun n f args h B=>if Nat.beq f 31=true then(su h B args).bind B fun B ys=>if PV B ys=true then .ret (.sc (.b (.lit true)),[])else call n f args h B else KW call n f args h B
theorem VV {ρ:aa} (hT:d' 460 fc ρ) {call:bC} (H:cX Tryz.prog ρ call):cX Tryz.prog ρ (Gg call):=fun n f args h B r d u hq=>by
 unfold Gg at hq
 split at hq
 ·rename_i hf
  have hf:=Nat.eq_of_beq_eq_true hf
  subst hf
  obtain⟨fd,ys,bp,A,E⟩:=T.cQ _ u hq
  split at E
  ·rename_i hs
   cases E
   exact⟨by kernel_rfl,Jd (xF u A) rfl (aqT bp hT hs n [])⟩
  ·exact H n 31 args h fd r d bp E
 ·exact aet hT H n f args h B r d u hq
def EE (c:h8) (call:bC):List Nat->bC
 | []=>fun n f args h B=>call n f (Cj B args) h B
 | g::gs=>fun n f args h B=>if Nat.beq f g=true then sB c (EE c call gs) n f args h B else call n f args h B
theorem SU {ρ:aa} {c:h8} (pf:b4 Tryz.prog ρ c) {call:bC} (H:cX Tryz.prog ρ call):∀gs,cX Tryz.prog ρ (EE c call gs)
 | []=>fun n f args h B r d u hq=>by
  have:=H n f _ h B r d u hq
  rw[OF u]at this
  exact this
 | g::gs=>fun n f args h B r d u hq=>by
  unfold EE at hq
  split at hq
  ·exact xT pf (SU pf H gs) u hq
  ·exact H n f args h B r d u hq
def NC (c:h8) (call:bC):bC:=fun n f args h B=>if Nat.beq f 30=true then sB c (Gg call) n f args h B else if Nat.beq f 14=true then EE c call [14,26,56] n f args h B else Gg call n f args h B
theorem ahR {ρ:aa} {c:h8} (pf:b4 Tryz.prog ρ c) (hT:d' 460 fc ρ) {call:bC} (H:cX Tryz.prog ρ call):cX Tryz.prog ρ (NC c call):=fun n f args h B r d u hq=>by
 unfold NC at hq
 split at hq
 ·exact xT pf (VV hT H) u hq
 ·split at hq
  ·exact SU pf H _ n f args h B r d u hq
  ·exact VV hT H n f args h B r d u hq
def wZ (c : cr) (f : Nat) (args : List X) (B : J) : T X := if X.ly args = true then (tj c.c (NC c.c (eD c 12)) f args B).map (·.1) else .fail ["args"]
theorem acM {ρ:aa} {c:cr} (H:b4 Tryz.prog ρ c.c) (hs:∀s∈c.sm,c4 Tryz.prog s) (hT:d' 460 fc ρ) {f:Nat} {args:List X} {B:J} {r:X} (u:J.ok ρ B) (h:(wZ c f args B).aq ρ=some r):cf Tryz.prog f=true/\∀n h,CY Tryz.prog n f (X.af ρ args) h (r.I ρ) []:=by
 unfold wZ at h
 split at h
 ·rename_i ha
  obtain⟨p,A,rfl⟩:=T.jd _ h
  obtain⟨r,d⟩:=p
  have aP:=ahR H hT (eU H hs 12)
  have hd:d=[]:=by
   unfold tj at A
   split at A
   ·obtain⟨_,z,_,_,h4⟩:=T.cQ _ u A
    split at h4
    ·cases h4;rfl
    ·cases h4
   ·cases A
  subst hd
  exact⟨(Cz (n:=0) (h:=[]) H aP ha u A).1,fun n hp=>(Cz H aP ha u A).2⟩
 ·cases h
end Go.Proofs.YtpdfmnhgocpkcaaGreat
namespace Go.Proofs.YtpdfmnhgocpkcaaGreat
open Go Go.Proofs.Aw Go.Proofs.Xw
set_option maxRecDepth 100000
def kQ:List X:=[.agg Gq,xi 4,fS,.agg Wl,xi 5,xi 6]
def ksT (b:Bool):List (Nat×List X×X):=[(10,[],xl true),(11,[fS],xl b)]
noncomputable def Gl (i:Nat):Nat->List bj:=fun f=>if Nat.beq f 7=true then [yp i]else []
noncomputable def uz (b:Bool) (lp:Nat->List bj):cr:=⟨r5 (ksT b) lp [] cls [41],h2,49::L7⟩
noncomputable def ny (i:Nat) (B:J):Bool:=zR B (wZ (uz false (Gl i)) 7 kQ B)
def Pd (i:Nat):J:=match hl[i]? with
 | some C=>C.b6
 | none=>[]
def lW (i:Nat):J:=(if Nat.beq i 0=true then []else [(.lt (.lit 300) (.len 460),false)])++(VP++Pd i)
def jK:DT := .br (.eq (.var 5) (.var 402)) (.br (.eq (.var 6) (.var 403)) .leaf .leaf) .leaf
def Xy:J:=[(Wq,false),(bT (.var 0) 1,false),(mb (.var 0) 3,false),(bT (.var 1) 1,false),(mb (.var 1) 3,false),(bT (.var 2) 1,false),(mb (.var 2) 4,false),(bT (.var 3) 1,false),(mb (.var 3) 4,false),(bT (.var 4) 0,false),(.lt (.var 4) (.var 3),true)]
noncomputable def Hn (b:Bool) (B:J):Bool:=zR B (wZ (uz b (fun _=>[])) 7 kQ B)
noncomputable def Ho:J->J->Bool
 | [],_=>true
 | (c,v)::r,B=>Hn false ((c,!v)::B)&&Ho r ((c,v)::B)
end Go.Proofs.YtpdfmnhgocpkcaaGreat
