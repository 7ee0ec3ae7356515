/- Parts of the proof, one behind the other. -/
import Derived.Test.YtpdfmnhgocpkcaaGreatTM3
import Derived.Test.YtpdfmnhgocpkcaaGreatTM5
namespace Go.Proofs.YtpdfmnhgocpkcaaGreat
open Go Go.Proofs.Aw Go.Proofs.Xw
set_option maxRecDepth 100000
def ix (f:Bool):X := .rl 1 (.len 0) (.var 0 [.s]) f
def IM (i:X) (a b:Bool):ba:=[(5,i),(10,.top),(9,.top),(8,.top),(7,.top),(6,.top),(4,.top),(0,ix a),(1,ix b)]
def aar (a b:Bool):XS:=⟨IM (xn 0) a b,[],7⟩
def QX (a b:Bool):XS:=⟨IM (xi 10) a b,[],7⟩
noncomputable def wD:Code:=(dP (Tryz.f41.body.getD .skip))[0]?.getD .skip
def zx:J:=[(.lt (.var 10) (.lit 0),false),(.lt (.len 0) (.var 10),false),(.lt (.lit 4611686018427387904) (.len 0),false)]
def wdC (a b:Bool):List dm:=[⟨QX a b,zx,[]⟩]
noncomputable def at6 (a b:Bool) (B:J):T (XE×XS):=(ck (bd [] (fun _=>[])).ti (eC ⟨bd [] (fun _=>[]),[],[]⟩ 12) [] 0 [] 1000 wD B (QX a b)).map (dV ((IM (xi 10) a b).map (·.1)))
def aaq (a b:Bool):XS:=⟨IM (xi 10) a b,[],20⟩
def w1:U := .op .add .i64 (.var 10) (.lit 1)
def p9:J:=(.lt (.var 10) (.len 0),true)::(.lt w1 (.lit 0),false)::(.lt (.len 0) w1,false)::zx
def zw:J:=(.lt (.var 10) (.len 0),false)::zx
noncomputable def wdO (a b:Bool) (B:J):Bool:=dC 0 10 10 [] (0,[]) 0 (wdC a b) (aaq a b) (.exit 0) B (at6 a b B)
noncomputable def nG (p:Bool->Bool->Bool):Bool:=p false false&&(p false true&&(p true false&&p true true))
theorem p8 {p:Bool->Bool->Bool} (h:nG p=true):∀a b,p a b=true:=by
 simp only[nG,Bool.and_eq_true]at h
 intro a b
 cases a<;>cases b<;>simp_all
theorem at7:nG (fun a b=>wdO a b p9&&wdO a b zw)=true:=by kernel_rfl
noncomputable def Dp (a b:Bool):bf:=⟨(du wD).getD 0,0,10,aar a b,gj,[],.ret (.exit 0,aaq a b)⟩
noncomputable def QW (a b:Bool) (f:Nat):List bf:=if Nat.beq f 41=true then [Dp a b]else []
noncomputable def QV (a b:Bool):cj:=⟨bd [] (QW a b),[],[]⟩
theorem aas:da Tryz.f41.ntmps wD=true:=by kernel_rfl
structure nK (m:Nat) (ρ:aa):Prop where
 n:ρ.len 0=m
 b:m<=4611686018427387904
 i0:0<=ρ.i 10
 i1:ρ.i 10<=m
theorem zy {m:Nat} {ρ:aa} (h:nK m ρ):J.ok ρ zx:=by
 have q1:=h.n;have q2:=h.b;have q3:=h.i0;have q4:=h.i1
 refine J.av (decide_eq_false (by show ¬ρ.i 10<0;omega)) (J.av (decide_eq_false (by show ¬(ρ.len 0:Int)<ρ.i 10;omega)) (J.av (decide_eq_false (by show ¬(4611686018427387904:Int)<ρ.len 0;omega)) (J.bq ρ)))
theorem at8 (a b:Bool) {m:Nat} {ρ:aa} (hn:ρ.len 0=m) (hb:m<=4611686018427387904):∃am,az 10 ρ am/\nK m am/\bW Tryz.prog am Tryz.f41.ntmps wD (Dp a b):=by
 have H:∀F,bZ Tryz.prog F (bd [] (fun _=>[])):=fun F=>kW (List.forall_mem_nil _)
 have bD:=p8 at7 a b
 rw[Bool.and_eq_true]at bD
 have key:=NI (P:=Tryz.prog) (N:=Tryz.f41.ntmps) (body:=wD) (k0:=0) (n:=10) (S0:=aar a b) (ρ:=ρ) (by cases a<;>cases b<;>kernel_rfl) (fun _=>QX a b) (fun _=>Dp a b) (fun _=>⟨rfl,rfl,rfl⟩) (fun i F=>i=0/\nK m F) (fun F=>m-(F.i 10).toNat) (fun i F ⟨hi,hR⟩=>by
  subst hi
  have q1:=hR.n;have q2:=hR.b;have q3:=hR.i0;have q4:=hR.i1
  by_cases aQ:F.i 10<F.len 0
  ·have e1:w1.I F=F.i 10+1:=(show w1.I F=IntKind.i64.wrap (F.i 10+1)from rfl).trans (cc _ (by omega) (by omega))
   have u:J.ok F p9:=J.av (decide_eq_true aQ) (J.av (decide_eq_false (by rw[e1];show ¬_<(0:Int);omega)) (J.av (decide_eq_false (by rw[e1];show ¬(F.len 0:Int)<_;omega)) (zy hR)))
   rcases gD mixed cR (eU (c:=⟨bd [] (fun _=>[]),[],[]⟩) (H F) (List.forall_mem_nil _) 12) (a1.nil _ _ _ _) aas u bD.1 with h | ⟨j,C,ax,A,E,h3,h4,h5,_⟩
   ·exact .inl h
   ·right
    match j,A with
    | 0,A =>
     cases A
     have e4:ax.i 10=F.i 10+1:=by rw[h4];exact cc _ (by omega) (by omega)
     have iG:ax.len 0=F.len 0:=(h5.len 0 (by omega)).symm
     exact⟨0,ax,E,⟨rfl,⟨by omega,hb,by omega,by omega⟩⟩,by omega,h5⟩
  ·have u:J.ok F zw:=J.av (decide_eq_false aQ) (zy hR)
   rcases gD mixed cR (eU (c:=⟨bd [] (fun _=>[]),[],[]⟩) (H F) (List.forall_mem_nil _) 12) (a1.nil _ _ _ _) aas u bD.2 with h | ⟨j,C,ax,A,E,h3,h4,h5,_⟩
   ·exact .inl h
   ·exfalso
    match j,A with
    | 0,A =>
     cases A
     have e4:ax.i 10=F.i 10+1:=by rw[h4];exact cc _ (by omega) (by omega)
     have iG:ax.len 0=F.len 0:=(h5.len 0 (by omega)).symm
     have:=h3 _ (List.mem_cons_of_mem _ List.mem_cons_self)
     have:¬(ax.len 0:Int)<ax.i 10:=of_decide_eq_false this
     omega)
 let β:Bind:=⟨[(10,.lit 0)],[],[],[]⟩
 obtain⟨_,am,A,⟨_,E⟩,h3⟩:=key ⟨0,β.ap ρ,Bind.bt (by kernel_rfl) ρ,⟨rfl,⟨hn,hb,Int.le_refl _,show(0:Int)<=m by omega⟩⟩,fun ac _ bI=>jF (k0:=0) (n:=10) (nm:=[]) bI (by cases a<;>cases b<;>kernel_rfl) ρ⟩
 exact⟨am,A,E,h3⟩
def wE:J:=[(.lt (.lit 4611686018427387904) (.len 0),false),(.lt (.len 0) (.var 10),false),(.lt (.var 10) (.lit 0),false)]
theorem aua:nG (fun a b=>match aN (QV a b) 41 [ix a,ix b] wE with | .ret x=>X.beq x (.sc (.b (.lit true))) | _=>false)=true:=by kernel_rfl
theorem at9 (a b:Bool) {ρ:aa} (h:bW Tryz.prog ρ Tryz.f41.ntmps wD (Dp a b)):∀f i,eB f gb=some i->a1 Tryz.prog ρ i.ntmps (QW a b f) i.body:=fun f i hi=>by
 unfold QW
 split
 ·rename_i hf
  have hf:=Nat.eq_of_beq_eq_true hf
  subst hf
  have e:eB 41 gb=some (fi Tryz.f41 []):=by kernel_rfl
  rw[e]at hi
  cases hi
  exact kv [0] (by cases a<;>cases b<;>kernel_rfl) (List.forall_mem_cons.2 ⟨ku (L:=Dp a b) (c:=wD) (by cases a<;>cases b<;>kernel_rfl) h,List.forall_mem_nil _⟩)
 ·exact a1.nil _ _ _ _
theorem Q2:o0 Tryz.prog 41:=⟨by kernel_rfl,fun ss f1 gu n h M=>by
 let ρ:aa:=⟨fun _=>0,fun _=>false,fun _=>⟨#[]⟩,fun _=>ss.length,fun _ _ _=>0,fun _ _ _=>false,fun _ _ j=>(ss[j]?).getD ⟨#[]⟩,kz⟩
 obtain⟨am,A,E,h3⟩:=at8 f1 gu (ρ:=ρ) (m:=ss.length) rfl M
 have hw:=p8 aua f1 gu
 have H:bZ Tryz.prog am (QV f1 gu).c:=hl (List.forall_mem_nil _) (at9 f1 gu h3)
 have u:J.ok am wE:=by
  have q1:=E.n;have q2:=E.b;have q3:=E.i0;have q4:=E.i1
  exact J.av (decide_eq_false (by show ¬(4611686018427387904:Int)<am.len 0;omega)) (J.av (decide_eq_false (by show ¬(am.len 0:Int)<am.i 10;omega)) (J.av (decide_eq_false (by show ¬am.i 10<0;omega)) (J.bq am)))
 split at hw
 ·rename_i x hx
  have:=X.beq_eq _ _ hw
  subst this
  have q:=(ef H (List.forall_mem_nil _) u (show(aN (QV f1 gu) 41 [ix f1,ix gu] wE).aq am=some _ by rw[hx];rfl)).2 n h
  have e:X.af am [ix f1,ix gu]=[.ro 1 (fx ss) f1,.ro 1 (fx ss) gu]:=by
   have r:aV am (.len 0) (.var 0 [.s])=fx ss:=by
    unfold aV fx
    have l:((U.len 0).I am).toNat=ss.length:=by
     have:=E.n
     show((am.len 0:Nat):Int).toNat=_
     omega
    rw[l]
    apply List.ext_getElem?
    intro j
    rw[List.getElem?_map,List.getElem?_map]
    by_cases O:j<ss.length
    ·rw[List.getElem?_range O,List.getElem?_eq_getElem O,Option.map_some,Option.map_some]
     have:am.cs 0 0 j=ss[j]:=by
      rw[<-A.cs 0 (by omega)]
      show(ss[j]?).getD ⟨#[]⟩=_
      rw[List.getElem?_eq_getElem O];rfl
     show some [AV.sc (.string (am.cs 0 0 ((j:Int)).toNat))]=_
     rw[Int.toNat_natCast,this]
    ·rw[List.getElem?_eq_none (by rw[List.length_range];omega),List.getElem?_eq_none (by omega)];rfl
   show [AV.ro 1 (aV am (.len 0) (.var 0 [.s])) f1,AV.ro 1 (aV am (.len 0) (.var 0 [.s])) gu]=_
   rw[r]
  rw[e]at q
  exact q
 ·cases hw⟩
end Go.Proofs.YtpdfmnhgocpkcaaGreat
namespace Go.Proofs.Xw
open Go Go.Proofs.Aw
def D':Option AV->Int
 | some (.sc (.int _ v))=>v
 | _=>0
def D9:Option AV->Bool
 | some (.sc (.bool v))=>v
 | _=>false
def Eb:Option AV->ByteArray
 | some (.sc (.string v))=>v
 | _=>⟨#[]⟩
def nR:Option AV->List (List AV)
 | some (.ro _ D _)=>D
 | _=>[]
def eR (e:List AV):aa:=⟨fun k=>D' e[k]?,fun k=>D9 e[k]?,fun k=>Eb e[k]?,fun k=>(nR e[k]?).length,fun l k j=>D' (((nR e[l]?)[j]?).bind (·[k]?)),fun l k j=>D9 (((nR e[l]?)[j]?).bind (·[k]?)),fun l k j=>Eb (((nR e[l]?)[j]?).bind (·[k]?)),kz⟩
def wv (k:Nat):Tk->X
 | .f (.i K) => .sc (.i K (.var k))
 | .f .b => .sc (.b (.var k))
 | .f .s => .sc (.s (.var k))
 | .r z ks => .rl z (.len k) (.var k ks) false
def wx:Nat->List Tk->List X
 | _,[]=>[]
 | k,t::l=>wv k t::wx (k+1) l
theorem HL {e:List AV} {l j:Nat} {r:List AV} (hr:(nR e[l]?)[j]? = some r):∀(ks:List Kd) (k:Nat) (r':List AV),jT ks r'->(∀i,r'[i]? = r[k+i]?)->bH (eR e) l k ks j=r'
 | [],_,r',h,_=>by
  have h:r'=[]:=h
  subst h;rfl
 | .i K::ks,k,r',h,hq=>by
  obtain⟨v,q,rfl,E⟩:=h
  have h0:r[k]? = some (.sc (.int K v)):=(hq 0).symm
  have H:(eR e).ci l k j=v:=by show D' (((nR e[l]?)[j]?).bind (·[k]?))=v;rw[hr,Option.bind_some,h0];rfl
  show AV.sc (.int K ((eR e).ci l k j))::bH (eR e) l (k+1) ks j=_
  rw[H,HL hr ks (k+1) q E fun i=>by rw[show k+1+i=k+(i+1)by omega,<-hq (i+1)];rfl]
 | .b::ks,k,r',h,hq=>by
  obtain⟨v,q,rfl,E⟩:=h
  have h0:r[k]? = some (.sc (.bool v)):=(hq 0).symm
  have H:(eR e).cb l k j=v:=by show D9 (((nR e[l]?)[j]?).bind (·[k]?))=v;rw[hr,Option.bind_some,h0];rfl
  show AV.sc (.bool ((eR e).cb l k j))::bH (eR e) l (k+1) ks j=_
  rw[H,HL hr ks (k+1) q E fun i=>by rw[show k+1+i=k+(i+1)by omega,<-hq (i+1)];rfl]
 | .s::ks,k,r',h,hq=>by
  obtain⟨v,q,rfl,E⟩:=h
  have h0:r[k]? = some (.sc (.string v)):=(hq 0).symm
  have H:(eR e).cs l k j=v:=by show Eb (((nR e[l]?)[j]?).bind (·[k]?))=v;rw[hr,Option.bind_some,h0];rfl
  show AV.sc (.string ((eR e).cs l k j))::bH (eR e) l (k+1) ks j=_
  rw[H,HL hr ks (k+1) q E fun i=>by rw[show k+1+i=k+(i+1)by omega,<-hq (i+1)];rfl]
theorem asx {e:List AV} {k:Nat} {t:Tk} {v:AV} (R:e[k]? = some v) (ht:t.uu v):(wv k t).I (eR e)=v:=by
 cases t with
 | f K =>
  cases K with
  | i K =>
   obtain⟨x,r,A,_⟩:=ht
   cases A
   show AV.sc (.int K (D' e[k]?))=_
   rw[R];rfl
  | b =>
   obtain⟨x,r,A,_⟩:=ht
   cases A
   show AV.sc (.bool (D9 e[k]?))=_
   rw[R];rfl
  | s =>
   obtain⟨x,r,A,_⟩:=ht
   cases A
   show AV.sc (.string (Eb e[k]?))=_
   rw[R];rfl
 | r z ks =>
  obtain⟨D,rfl,M,E⟩:=ht
  have hR:nR e[k]? = D:=by rw[R];rfl
  show AV.ro z (aV (eR e) (.len k) (.var k ks)) false=_
  congr 1
  unfold aV
  have l:((U.len k).I (eR e)).toNat=D.length:=by
   show(((nR e[k]?).length:Nat):Int).toNat=_
   rw[hR];omega
  rw[l]
  apply List.ext_getElem?
  intro j
  rw[List.getElem?_map]
  by_cases O:j<D.length
  ·rw[List.getElem?_range O,List.getElem?_eq_getElem O,Option.map_some]
   congr 1
   show bH (eR e) k 0 ks ((j:Int)).toNat=_
   rw[Int.toNat_natCast]
   exact HL (by rw[hR,List.getElem?_eq_getElem O]) ks 0 _ (E _ (List.getElem_mem O)) fun i=>by rw[Nat.zero_add]
  ·rw[List.getElem?_eq_none (by rw[List.length_range];omega),List.getElem?_eq_none (by omega)];rfl
theorem ZF:∀(ts:List Tk) (k i:Nat),(wx k ts)[i]? = (ts[i]?).map (wv (k+i))
 | [],_,_=>by simp[wx]
 | t::l,k,0=>by simp[wx]
 | t::l,k,i+1=>by simp only[wx,List.getElem?_cons_succ,ZF l (k+1) i,show k+1+i=k+(i+1)by omega]
theorem asy {e:List AV} {ts:List Tk} (M:e.length=ts.length) (h:∀(k:Nat) (t:Tk),ts[k]? = some t->∃v,e[k]? = some v/\t.uu v):X.af (eR e) (wx 0 ts)=e:=by
 apply List.ext_getElem?
 intro k
 rw[X.r9,ZF]
 by_cases u:k<ts.length
 ·obtain⟨v,A,E⟩:=h k _ (List.getElem?_eq_getElem u)
  rw[List.getElem?_eq_getElem u,Option.map_some,Option.map_some,Nat.zero_add,asx A E,A]
 ·rw[List.getElem?_eq_none (by omega:ts.length<=k),List.getElem?_eq_none (by omega:e.length<=k)];rfl
end Go.Proofs.Xw
namespace Go.Proofs.YtpdfmnhgocpkcaaGreat
open Go Go.Proofs.Aw Go.Proofs.Xw
set_option maxRecDepth 100000
def l9:List X:=wx 0 eY
def ER (i:X):ba:=(5,i)::(((List.range 93).map fun k=>(98-k,X.top))++[(4,.top),(3,.ptr (1,0) [] 0),(2,.ptr (0,0) [] 0),(0,.top),(1,.top)])
def KO:au:=[((0,0),l9),((1,0),l9)]
def EP:XS:=⟨ER (xn 0),KO,97⟩
def n5:XS:=⟨ER (xi 20),KO,97⟩
def Tx:XS:=⟨ER (xi 20),KO,160⟩
noncomputable def sg:Code:=(dP (Tryz.f65.body.getD .skip))[0]?.getD .skip
def At:J:=[(.lt (.var 20) (.lit 0),false),(.lt (.len 10) (.var 20),false),(.lt (.lit 1000) (.len 10),false),(.lt (.lit 1000) (.len 3),false)]
def As:U := .op .add .i64 (.var 20) (.lit 1)
def KN:J:=(.lt (.var 20) (.len 10),true)::(.lt As (.lit 0),false)::(.lt (.len 10) As,false)::At
def KL:J:=(.lt (.var 20) (.len 10),false)::At
noncomputable def si (lp:Nat->List bf):cj:=⟨r4 [] lp [] [] [41],[],[]⟩
noncomputable def KU (B:J):T (XE×XS):=(ck (si fun _=>[]).c.ti (eC (si fun _=>[]) 12) [] 0 [] 1000 sg B n5).map (dV ((ER (xi 20)).map (·.1)))
def EN:Bind:=⟨[(20,As)],[],[],[]⟩
def xq:T (XE×XS)->Bool
 | .ret (.normal,s)=>ff 0 20 EN [] n5 s
 | _=>false
theorem eq_go:xq (KU KN)=true:=by kernel_rfl
theorem aei:dC 0 20 20 [] (0,[]) 0 [] Tx (.exit 0) KL (KU KL)=true:=by kernel_rfl
theorem Ty:da Tryz.f65.ntmps sg=true:=by kernel_rfl
noncomputable def Ax:bf:=⟨(du sg).getD 0,0,20,EP,gj,[],.ret (.exit 0,Tx)⟩
theorem aeh:EP.ar 20=true:=by kernel_rfl
def KT:Bind:=⟨[(20,.lit 0)],[],[],[]⟩
theorem aej:ff 0 20 KT [] n5 EP=true:=by kernel_rfl
noncomputable def EO (f:Nat):List bf:=if Nat.beq f 65=true then [Ax]else []
def isTrue:T X->Bool
 | .ret x=>X.beq x (.sc (.b (.lit true)))
 | _=>false
theorem M4 {t:T X} (h:isTrue t=true):t = .ret (.sc (.b (.lit true))):=by
 unfold isTrue at h
 split at h
 ·rw[X.beq_eq _ _ h]
 ·cases h
theorem aem:isTrue (aN (si EO) 65 [.agg l9,.agg l9] At)=true:=by kernel_rfl
structure DP (e:List AV) (ρ:aa):Prop where
 ah:az 20 (eR e) ρ
 i0:0<=ρ.i 20
 i1:ρ.i 20<=ρ.len 10
 Nl:ρ.len 10<=1000
 qU:ρ.len 3<=1000
theorem KM {e:List AV} {ρ:aa} (h:DP e ρ):J.ok ρ At:=by
 have q1:=h.i0;have q2:=h.i1;have q3:=h.Nl;have q4:=h.qU
 exact J.av (b' (show ¬ρ.i 20<0 by omega)) (J.av (b' (show ¬(ρ.len 10:Int)<ρ.i 20 by omega)) (J.av (b' (show ¬(1000:Int)<ρ.len 10 by omega)) (J.av (b' (show ¬(1000:Int)<ρ.len 3 by omega)) (J.bq ρ))))
theorem Tw {ρ:aa} {lp:Nat->List bf} (h:∀f i,eB f gb=some i->a1 Tryz.prog ρ i.ntmps (lp f) i.body):bZ Tryz.prog ρ (si lp).c:=r5 (List.forall_mem_nil _) h (List.forall_mem_nil _) (List.forall_mem_nil _) (List.forall_mem_cons.2 ⟨Q2,List.forall_mem_nil _⟩)
theorem aek {e:List AV} (h3:(eR e).len 3<=1000) (A8:(eR e).len 10<=1000):∃am,az 20 (eR e) am/\DP e am/\bW Tryz.prog am Tryz.f65.ntmps sg Ax:=by
 have he:az 20 (eR e) (KT.ap (eR e)):=Bind.bt (by kernel_rfl) _
 refine ou (P:=Tryz.prog) (N:=Tryz.f65.ntmps) (body:=sg) (k0:=0) (n:=20) (S0:=EP) (ρ:=eR e) aeh (fun _=>n5) Ax ⟨rfl,rfl,rfl⟩ (fun _ F=>DP e F) (DP e) (fun F=>F.len 10-(F.i 20).toNat) (fun i F hR => ?_)
  ⟨0,KT.ap (eR e),he,⟨he,Int.le_refl _,show(0:Int)<=((eR e).len 10:Nat)by omega,A8,h3⟩,fun ac _ bI=>jF bI aej _⟩
 have q2:=hR.i0;have q3:=hR.i1;have q4:=hR.Nl;have q5:=hR.qU
 have H:bZ Tryz.prog F (si fun _=>[]).c:=Tw fun _ _ _=>a1.nil _ _ _ _
 by_cases aQ:F.i 20<F.len 10
 ·right
  have e1:As.I F=F.i 20+1:=(show As.I F=IntKind.i64.wrap (F.i 20+1)from rfl).trans (cc _ (by omega) (by omega))
  have u:J.ok F KN:=J.av (mr aQ) (J.av (b' (by rw[e1];show ¬_<(0:Int);omega)) (J.av (b' (by rw[e1];show ¬(F.len 10:Int)<_;omega)) (KM hR)))
  have Z:=eq_go
  unfold xq at Z
  split at Z
  ·rename_i s bD
   have eP:=Qe (P:=Tryz.prog) (ρ:=F) (N:=Tryz.f65.ntmps) (body:=sg) (k0:=0) (S:=n5) (lO:=n5) mixed cR (eU (c:=si fun _=>[]) H (List.forall_mem_nil _) 12) (a1.nil _ _ _ _) Ty u rfl (s:=s) (by
    show(KU KN).aq F=_
    rw[bD];rfl) Z
   have ah:az 20 F (EN.ap F):=Bind.bt (by kernel_rfl) _
   have Tb:(EN.ap F).i 20=F.i 20+1:=e1
   have kw:∀k,k<20->(EN.ap F).len k=F.len k:=fun k u=>(ah.len k u).symm
   have Nl:=kw 10 (by decide);have qU:=kw 3 (by decide)
   exact⟨0,_,eP,⟨hR.ah.trans ah,by omega,by omega,by omega,by omega⟩,by omega,ah⟩
  ·cases Z
 ·left
  refine⟨hR,?_⟩
  have u:J.ok F KL:=J.av (b' aQ) (KM hR)
  rcases gD mixed cR (eU (c:=si fun _=>[]) H (List.forall_mem_nil _) 12) (a1.nil _ _ _ _) Ty u aei with h | ⟨j,C,_,A,_⟩
  ·exact h
  ·simp at A
theorem ael {ρ:aa} (h:bW Tryz.prog ρ Tryz.f65.ntmps sg Ax):∀g i,eB g gb=some i->a1 Tryz.prog ρ i.ntmps (EO g) i.body:=fun g i hi=>by
 unfold EO
 split
 ·rename_i hf
  have hf:=Nat.eq_of_beq_eq_true hf
  subst hf
  have gc:jk Tryz.prog 65 i:=mT (65,i) (jV _ _ (jU hi))
  refine ov gc Tryz.func65 ?_
  exact kv (c:=Tryz.f65.body.getD .skip) [0] (by kernel_rfl) (List.forall_mem_cons.2 ⟨ku (L:=Ax) (c:=sg) (by kernel_rfl) h,List.forall_mem_nil _⟩)
 ·exact a1.nil _ _ _ _
theorem aeH {e:List AV} (h:mG e) (n:Nat) (hp:Hp):CY Tryz.prog n 65 [.agg e,.agg e] hp (.sc (.bool true)) []:=by
 have len:∀k z ks,eY[k]? = some (.r z ks)->(eR e).len k<=1000:=fun k z ks u=>by
  obtain⟨v,A,D,E,h3,_⟩:=h.t k _ u
  show(nR e[k]?).length<=1000
  rw[A,E];exact h3
 have ed:X.af (eR e) l9=e:=asy (by rw[h.l,Nj]) h.t
 obtain⟨am,A,E,h3⟩:=aek (len 3 1 [.s] rfl) (len 10 22 fc rfl)
 have H:=Tw (ael h3)
 have hw:=M4 aem
 have q:=(ef H (List.forall_mem_nil _) (KM E) (show(aN (si EO) 65 [.agg l9,.agg l9] At).aq am=some _ by rw[hw];rfl)).2 n hp
 have ee:X.af am l9=e:=(X.fZ (n:=20) A l9 (by kernel_rfl)).symm.trans ed
 rw[show X.af am [.agg l9,.agg l9]=[.agg (X.af am l9),.agg (X.af am l9)]from rfl,ee]at q
 exact q
end Go.Proofs.YtpdfmnhgocpkcaaGreat
namespace Go.Proofs.YtpdfmnhgocpkcaaGreat
open Go Go.Proofs.Aw Go.Proofs.Xw
set_option maxRecDepth 100000
def sk (f:Bool):X := .tq 20 (.len 0) 0 [] f
def ES (i:X) (a b:Bool):ba:=[(5,i),(10,.top),(9,.top),(8,.top),(7,.top),(6,.top),(4,.top),(0,sk a),(1,sk b)]
def TC (a b:Bool):XS:=⟨ES (xn 0) a b,[],7⟩
def AD (a b:Bool):XS:=⟨ES (xi 10) a b,[],7⟩
def TA (a b:Bool):XS:=⟨ES (xi 10) a b,[],20⟩
noncomputable def sj:Code:=(dP (Tryz.f31.body.getD .skip))[0]?.getD .skip
def Az:List (Nat×List X×X):=[(65,[.agg (qg 20 0 (.var 10)),.agg (qg 20 0 (.var 10))],.sc (.b (.lit true)))]
noncomputable def mR (ks:List (Nat×List X×X)) (lp:Nat->List bf):cj:=⟨bd ks lp,[],[]⟩
noncomputable def KW (a b:Bool) (ks:List (Nat×List X×X)) (B:J):T (XE×XS):=(ck (mR ks fun _=>[]).c.ti (eC (mR ks fun _=>[]) 12) [] 0 [] 1000 sj B (AD a b)).map (dV ((ES (xi 10) a b).map (·.1)))
def TB (a b:Bool):T (XE×XS)->Bool
 | .ret (.normal,s)=>ff 0 10 xu [] (AD a b) s
 | _=>false
theorem aeo:nG (fun a b=>TB a b (KW a b Az xx))=true:=by kernel_rfl
theorem aen:nG (fun a b=>dC 0 10 10 [] (0,[]) 0 [] (TA a b) (.exit 0) xv (KW a b [] xv))=true:=by kernel_rfl
theorem TD:da Tryz.f31.ntmps sj=true:=by kernel_rfl
noncomputable def AA (a b:Bool):bf:=⟨(du sj).getD 0,0,10,TC a b,gj,[],.ret (.exit 0,TA a b)⟩
noncomputable def AB (a b:Bool) (f:Nat):List bf:=if Nat.beq f 31=true then [AA a b]else []
theorem aet:nG (fun a b=>isTrue (aN (mR [] (AB a b)) 31 [sk a,sk b] uO))=true:=by kernel_rfl
theorem aep {D:List (List AV)} (hs:fW D) {ρ:aa} (h:kN [] D ρ) (aQ:ρ.i 10<D.length):∀p∈Az,b_ Tryz.prog p.1=true/\∀n h,CY Tryz.prog n p.1 (X.af ρ p.2.1) h (p.2.2.I ρ) []:=by
 have h0:=h.i0
 have O:(ρ.i 10).toNat<D.length:=by omega
 have hr:=hs.r _ (List.getElem_mem O)
 have H:ρ.ct 0=(iH [] D).ct 0:=(h.ah.ct 0 (by decide)).symm
 refine List.forall_mem_cons.2 ⟨⟨by kernel_rfl,fun n hp => ?_⟩,List.forall_mem_nil _⟩
 have e:X.af ρ (qg 20 0 (.var 10))=D[(ρ.i 10).toNat]:=by
  rw[JU]
  apply List.ext_getElem?
  intro k
  by_cases u:k<20
  ·obtain⟨v,A,_⟩:=hr.get u
   rw[List.getElem?_map,List.getElem?_range u,Option.map_some,A]
   congr 1
   show(ρ.ct 0 k (ρ.i 10).toNat).1=v
   rw[H]
   exact K9 hs.r (List.getElem?_eq_getElem O) A
  ·rw[List.getElem?_eq_none (by rw[List.length_map,List.length_range];omega),List.getElem?_eq_none (by rw[hr.l];omega)]
 show CY Tryz.prog n 65 [.agg (X.af ρ (qg 20 0 (.var 10))),.agg (X.af ρ (qg 20 0 (.var 10)))] hp _ []
 rw[e]
 exact aeH hr n hp
theorem aeq (a b:Bool) {D:List (List AV)} (hs:fW D):∃am,az 10 (iH [] D) am/\kN [] D am/\bW Tryz.prog am Tryz.f31.ntmps sj (AA a b):=by
 have he:az 10 (iH [] D) (AG.ap (iH [] D)):=Bind.bt (by kernel_rfl) _
 refine ou (P:=Tryz.prog) (N:=Tryz.f31.ntmps) (body:=sj) (k0:=0) (n:=10) (S0:=TC a b) (ρ:=iH [] D) (by cases a<;>cases b<;>kernel_rfl) (fun _=>AD a b) (AA a b) ⟨rfl,rfl,rfl⟩ (fun _ F=>kN [] D F) (kN [] D) (fun F=>D.length-(F.i 10).toNat) (fun i F hR => ?_)
  ⟨0,AG.ap (iH [] D),he,⟨he,Int.le_refl _,show(0:Int)<=D.length by omega⟩,fun ac _ bI=>jF (k0:=0) (n:=10) (nm:=[]) bI (by cases a<;>cases b<;>kernel_rfl) _⟩
 have q1:=hR.len;have q2:=hR.i0;have q3:=hR.i1;have q4:=hs.l
 by_cases aQ:F.i 10<D.length
 ·right
  have H:bZ Tryz.prog F (mR Az fun _=>[]).c:=hl (aep hs hR aQ) (fun _ _ _=>a1.nil _ _ _ _)
  have e1:uL.I F=F.i 10+1:=(show uL.I F=IntKind.i64.wrap (F.i 10+1)from rfl).trans (cc _ (by omega) (by omega))
  have u:J.ok F xx:=J.av (mr (show F.i 10<(F.len 0:Int)by omega)) (J.av (b' (by rw[e1];show ¬_<(0:Int);omega)) (J.av (b' (by rw[e1];show ¬(F.len 0:Int)<_;omega)) (xw hs hR)))
  have Z:=p8 aeo a b
  simp only[TB]at Z
  split at Z
  ·rename_i s bD
   have eP:=Qe (P:=Tryz.prog) (ρ:=F) (N:=Tryz.f31.ntmps) (body:=sj) (k0:=0) (S:=AD a b) (lO:=AD a b) mixed cR (eU (c:=mR Az fun _=>[]) H (List.forall_mem_nil _) 12) (a1.nil _ _ _ _) TD u rfl (s:=s) (by
    show(KW a b Az xx).aq F=_
    rw[bD];rfl) Z
   have ah:az 10 F (xu.ap F):=Bind.bt (by kernel_rfl) _
   have Tb:(xu.ap F).i 10=F.i 10+1:=e1
   exact⟨0,_,eP,⟨hR.ah.trans ah,by omega,by omega⟩,by omega,ah⟩
  ·cases Z
 ·left
  refine⟨hR,?_⟩
  have H:bZ Tryz.prog F (mR [] fun _=>[]).c:=hl (List.forall_mem_nil _) (fun _ _ _=>a1.nil _ _ _ _)
  have u:J.ok F xv:=J.av (b' (show ¬F.i 10<(F.len 0:Int)by omega)) (xw hs hR)
  rcases gD mixed cR (eU (c:=mR [] fun _=>[]) H (List.forall_mem_nil _) 12) (a1.nil _ _ _ _) TD u (p8 aen a b)with h | ⟨j,C,_,A,_⟩
  ·exact h
  ·simp at A
theorem aer (a b:Bool) {ρ:aa} (h:bW Tryz.prog ρ Tryz.f31.ntmps sj (AA a b)):∀g i,eB g gb=some i->a1 Tryz.prog ρ i.ntmps (AB a b g) i.body:=fun g i hi=>by
 unfold AB
 split
 ·rename_i hf
  have hf:=Nat.eq_of_beq_eq_true hf
  subst hf
  have gc:jk Tryz.prog 31 i:=mT (31,i) (jV _ _ (jU hi))
  refine ov gc Tryz.func31 ?_
  exact kv (c:=Tryz.f31.body.getD .skip) [0] (by cases a<;>cases b<;>kernel_rfl) (List.forall_mem_cons.2 ⟨ku (L:=AA a b) (c:=sj) (by cases a<;>cases b<;>kernel_rfl) h,List.forall_mem_nil _⟩)
 ·exact a1.nil _ _ _ _
theorem TN {D:List (List AV)} (hs:fW D) (a b:Bool) (n:Nat) (hp:Hp):CY Tryz.prog n 31 [.ro 20 D a,.ro 20 D b] hp (.sc (.bool true)) []:=by
 obtain⟨am,A,E,h3⟩:=aeq a b hs
 have H:bZ Tryz.prog am (mR [] (AB a b)).c:=hl (List.forall_mem_nil _) (aer a b h3)
 have hw:=M4 (p8 aet a b)
 have q:=(ef H (List.forall_mem_nil _) (xw hs E) (show(aN (mR [] (AB a b)) 31 [sk a,sk b] uO).aq am=some _ by rw[hw];rfl)).2 n hp
 have r:bC am 20 (.len 0) 0++X.aX am []=D:=by rw[E.rows hs];exact List.append_nil _
 rw[show X.af am [sk a,sk b]=[.ro 20 (bC am 20 (.len 0) 0++X.aX am []) a,.ro 20 (bC am 20 (.len 0) 0++X.aX am []) b]from rfl,r]at q
 exact q
theorem aes:nG (fun a b=>isTrue (aN (mR [] fun _=>[]) 31 [.ro 20 [] a,.ro 20 [] b] []))=true:=by kernel_rfl
theorem TO (a b:Bool) (n:Nat) (hp:Hp):CY Tryz.prog n 31 [.ro 20 [] a,.ro 20 [] b] hp (.sc (.bool true)) []:=by
 have hw:=M4 (p8 aes a b)
 let ρ:aa:=eR []
 have H:bZ Tryz.prog ρ (mR [] fun _=>[]).c:=hl (List.forall_mem_nil _) (fun _ _ _=>a1.nil _ _ _ _)
 exact(ef H (List.forall_mem_nil _) (J.bq ρ) (show(aN (mR [] fun _=>[]) 31 [.ro 20 [] a,.ro 20 [] b] []).aq ρ=some _ by rw[hw];rfl)).2 n hp
end Go.Proofs.YtpdfmnhgocpkcaaGreat
namespace Go.Proofs.YtpdfmnhgocpkcaaGreat
open Go Go.Proofs.Aw Go.Proofs.Xw
set_option maxRecDepth 100000
def KY (call:bB):bB:=fun n f args h B=>if Nat.beq f 16=true then(match La B args h with
  | some p => .ret p
  | none=>call n f args h B)else call n f args h B
theorem aeu {ρ:aa} (hT:dX 460 eY ρ) {call:bB} (H:cS Tryz.prog ρ call):cS Tryz.prog ρ (KY call):=fun n f args h B r d u hq=>by
 unfold KY at hq
 split at hq
 ·rename_i hf
  have hf:=Nat.eq_of_beq_eq_true hf
  subst hf
  split at hq
  ·rename_i p hp
   obtain⟨r',fE⟩:=p
   cases hq
   exact⟨by kernel_rfl,aex u hT hp n⟩
  ·exact H n 16 args h B r d u hq
 ·exact H n f args h B r d u hq
def Am (c:h8) (call:bB):List Nat->bB
 | []=>fun n f args h B=>if Nat.beq f 91=true then call n f (Cl B args) h B else call n f args h B
 | g::gs=>fun n f args h B=>if Nat.beq f g=true then sA c (Am c call gs) n f args h B else call n f args h B
theorem SV {ρ:aa} {c:h8} (pf:bZ Tryz.prog ρ c) {call:bB} (H:cS Tryz.prog ρ call):∀gs,cS Tryz.prog ρ (Am c call gs)
 | []=>fun n f args h B r d u hq=>by
  unfold Am at hq
  split at hq
  ·have:=H n f _ h B r d u hq
   rw[OF u]at this
   exact this
  ·exact H n f args h B r d u hq
 | g::gs=>fun n f args h B r d u hq=>by
  unfold Am at hq
  split at hq
  ·exact xT pf (SV pf H gs) u hq
  ·exact H n f args h B r d u hq
def JD (call : bB) (c : cj) (f : Nat) (args : List X) (B : J) : T X := if X.ly args = true then (tj c.c call f args B).map (·.1) else .fail ["args"]
theorem acR {ρ:aa} {call:bB} {c:cj} (H:bZ Tryz.prog ρ c.c) (aP:cS Tryz.prog ρ call) {f:Nat} {args:List X} {B:J} {r:X} (u:J.ok ρ B) (h:(JD call c f args B).aq ρ=some r):b_ Tryz.prog f=true/\∀n h,CY Tryz.prog n f (X.af ρ args) h (r.I ρ) []:=by
 unfold JD at h
 split at h
 ·rename_i ha
  obtain⟨p,A,rfl⟩:=T.je _ h
  obtain⟨r,d⟩:=p
  have hd:d=[]:=by
   unfold tj at A
   split at A
   ·obtain⟨_,z,_,_,h4⟩:=T.cQ _ u A
    split at h4
    ·cases h4;rfl
    ·cases h4
   ·cases A
  subst hd
  exact⟨(CB (n:=0) (h:=[]) H aP ha u A).1,fun n hp=>(CB H aP ha u A).2⟩
 ·cases h
def zR:J->T X->Bool
 | B,.ret (.sc (.b e))=>nu B (e,true)
 | _,_=>false
end Go.Proofs.YtpdfmnhgocpkcaaGreat
namespace Go.Proofs.Xw
open Go Go.Proofs.Aw
theorem cT.le {C:Ctx} {a:Addr}:∀{x y:List AV} {i:Nat},bo x y->cT C a i y->cT C a i x
 | [],_,_,_,_=>by simp only[cT]
 | c::x,[],_,h,_=>by simp[bo]at h
 | c::x,d::y,i,h,hm=>by
  simp only[cT]at hm ⊢
  obtain⟨⟨Y,A,E⟩,h3⟩:=hm
  obtain⟨fE,hd,M⟩:=h.2 0 c rfl
  cases hd
  exact⟨⟨Y,A,M C Y E⟩,cT.le ⟨by simpa using h.1,fun j v R=>by simpa using h.2 (j+1) v (by simpa using R)⟩ h3⟩
def gJ:List (List AV)->List (List AV)->Prop
 | [],[]=>True
 | x::a,y::b=>bo x y/\gJ a b
 | _,_=>False
theorem gJ.len:∀{a b:List (List AV)},gJ a b->a.length=b.length
 | [],[],_=>rfl
 | _::_,_::_,h=>by simp[gJ.len h.2]
 | [],_::_,h=>h.elim
 | _::_,[],h=>h.elim
theorem gJ.refl:∀a:List (List AV),gJ a a
 | []=>trivial
 | x::a=>⟨bo.refl x,gJ.refl a⟩
theorem gJ.app:∀{a b c d:List (List AV)},gJ a b->gJ c d->gJ (a++c) (b++d)
 | [],[],_,_,_,k=>k
 | _::_,_::_,_,_,h,k=>⟨h.1,gJ.app h.2 k⟩
 | [],_::_,_,_,h,_=>h.elim
 | _::_,[],_,_,h,_=>h.elim
theorem dc.le {C:Ctx} {p:Addr} {z:Nat}:∀{a b:List (List AV)} {i:Nat},gJ a b->dc C p z i b->dc C p z i a
 | [],[],_,_,h=>h
 | x::a,y::b,i,h,hm=>by
  simp only[dc]at hm ⊢
  exact⟨h.1.1.trans hm.1,cT.le h.1 hm.2.1,dc.le h.2 hm.2.2⟩
 | [],_::_,_,h,_=>h.elim
 | _::_,[],_,h,_=>h.elim
theorem bT.ro {z:Nat} {a b:List (List AV)} (f:Bool) (h:gJ a b):bT (.ro z a f) (.ro z b f):=fun C Y hu=>by
 obtain⟨ab,cap,A,E,h3,h4⟩:=hv.1 hu
 refine hv.2 ⟨ab,cap,by rw[h.len];exact A,by rw[h.len];exact E,fun k=>by rw[h.len];exact h3 k,fun ay => ?_⟩
 obtain⟨p,g1,g2,g3,g4⟩:=h4 (fun e=>by
  subst e
  exact ay (List.length_eq_zero_iff.1 h.len))
 exact⟨p,g1,g2,g3,dc.le h g4⟩
theorem aC.le {C:Ctx}:∀{a b:List AV} {us:List Value},bo a b->aC C b us->aC C a us
 | [],[],_,_,h=>h
 | [],_::_,_,h,_=>by simp[bo]at h
 | _::_,[],_,h,_=>by simp[bo]at h
 | c::a,d::b,us,h,hm=>by
  obtain⟨Y,vs,e,A,E⟩:=hm
  obtain⟨fE,hd,M⟩:=h.2 0 c rfl
  cases hd
  exact⟨Y,vs,e,M C Y A,aC.le ⟨by simpa using h.1,fun j v R=>by simpa using h.2 (j+1) v (by simpa using R)⟩ E⟩
theorem RC {P:Program} {n:Nat} {f:FuncId} {a b:List AV} {h:Hp} {r:AV} {d:Dl} (M:bo a b) (H:CY P n f a h r d):CY P n f b h r d:=fun C vs W hL hn=>H C vs W (aC.le M hL) hn
end Go.Proofs.Xw
namespace Go.Proofs.YtpdfmnhgocpkcaaGreat
open Go Go.Proofs.Aw Go.Proofs.Xw
set_option maxRecDepth 100000
def PV (B:J):List X->Bool
 | [.tq z n t D _,.tq z' n' t' bi _]=>Nat.beq z 20&&(Nat.beq z' 20&&(Nat.beq t 460&&(Nat.beq t' 460&&(n.beq (.len 460)&&(n'.beq (.len 460)&&(Nat.ble D.length 1000&&(nu B (.lt (.lit 1000) (.len 460),false)&&(X.nT (eD B D) (eD B bi)&&(eD B D).all fun e=>Nat.beq e.length 20&&oY B eY e))))))))
 | [.ro z D _,.ro z' bi _]=>Nat.beq z 20&&(Nat.beq z' 20&&(Nat.ble D.length 1000&&(X.nT (eD B D) (eD B bi)&&(eD B D).all fun e=>Nat.beq e.length 20&&oY B eY e)))
 | _=>false
theorem AI {ρ:aa} {B:J} (u:J.ok ρ B):∀D:List (List X),gJ (X.aX ρ (eD B D)) (X.aX ρ D)
 | []=>trivial
 | e::D=>⟨yJ u jb e,AI u D⟩
theorem arp {ρ:aa} {B:J} (u:J.ok ρ B) (hT:dX 460 eY ρ) {ys:List X} (h:PV B ys=true) (n:Nat) (hp:Hp):CY Tryz.prog n 31 (X.af ρ ys) hp (.sc (.bool true)) []:=by
 unfold PV at h
 split at h
 ·rename_i z n1 t D f z' n2 t' bi f'
  simp only[Bool.and_eq_true]at h
  obtain⟨A,E,h3,h4,h5,h6,h7,ul,un,A8⟩:=h
  have A:=Nat.eq_of_beq_eq_true A;have E:=Nat.eq_of_beq_eq_true E
  have h3:=Nat.eq_of_beq_eq_true h3;have h4:=Nat.eq_of_beq_eq_true h4
  have h5:=U.beq_eq _ _ h5;have h6:=U.beq_eq _ _ h6
  have h7:=Nat.le_of_ble_eq_true h7
  have ul:¬(1000:Int)<(ρ.len 460:Int):=of_decide_eq_false (rz u ul)
  have un:=X.uv _ _ un
  subst A E h3 h4 h5 h6
  let aF:List (List AV):=bC ρ 20 (.len 460) 460++X.aX ρ (eD B D)
  have LP:(bC ρ 20 (.len 460) 460).length=ρ.len 460:=by rw[we];exact Int.toNat_natCast _
  have hE:(X.aX ρ (eD B D)).length=D.length:=by rw[X.eg,List.length_map,K8]
  have hr:=K_ u hT A8
  refine RC (a:=[.ro 20 aF f,.ro 20 aF f']) (bo.cons (bT.ro f (gJ.app (gJ.refl _) (AI u D))) (bo.cons (bT.ro f' (gJ.app (gJ.refl _) ?_)) (bo.refl []))) ?_
  ·show gJ (X.aX ρ (eD B D)) (X.aX ρ bi)
   rw[un];exact AI u bi
  ·by_cases h0:aF=[]
   ·rw[h0];exact TO f f' n hp
   ·exact TN ⟨h0,by show(bC ρ 20 (.len 460) 460++X.aX ρ (eD B D)).length<=_;rw[List.length_append,LP,hE];omega,hr⟩ f f' n hp
 ·rename_i z D f z' bi f'
  simp only[Bool.and_eq_true]at h
  obtain⟨A,E,h7,un,A8⟩:=h
  have A:=Nat.eq_of_beq_eq_true A;have E:=Nat.eq_of_beq_eq_true E
  have h7:=Nat.le_of_ble_eq_true h7
  have un:=X.uv _ _ un
  subst A E
  have hE:(X.aX ρ (eD B D)).length=D.length:=by rw[X.eg,List.length_map,K8]
  have hr:∀e∈X.aX ρ (eD B D),mG e:=fun e G=>K_ u hT A8 e (List.mem_append_right _ G)
  refine RC (a:=[.ro 20 (X.aX ρ (eD B D)) f,.ro 20 (X.aX ρ (eD B D)) f']) (bo.cons (bT.ro f (AI u D)) (bo.cons (bT.ro f' ?_) (bo.refl []))) ?_
  ·rw[un];exact AI u bi
  ·by_cases h0:X.aX ρ (eD B D)=[]
   ·rw[h0];exact TO f f' n hp
   ·exact TN ⟨h0,by omega,hr⟩ f f' n hp
 ·cases h
def Ge (call:bB):bB:=fun n f args h B=>if Nat.beq f 31=true then(sr h B args).bind B fun B ys=>if PV B ys=true then .ret (.sc (.b (.lit true)),[])else call n f args h B else KY call n f args h B
theorem VY {ρ:aa} (hT:dX 460 eY ρ) {call:bB} (H:cS Tryz.prog ρ call):cS Tryz.prog ρ (Ge call):=fun n f args h B r d u hq=>by
 unfold Ge at hq
 split at hq
 ·rename_i hf
  have hf:=Nat.eq_of_beq_eq_true hf
  subst hf
  obtain⟨fd,ys,bp,A,E⟩:=T.cQ _ u hq
  split at E
  ·rename_i hs
   cases E
   exact⟨by kernel_rfl,Jc (xF u A) rfl (arp bp hT hs n [])⟩
  ·exact H n 31 args h fd r d bp E
 ·exact aeu hT H n f args h B r d u hq
def Gd (c:h8) (call:bB):bB:=fun n f args h B=>if Nat.beq f 30=true then sA c (Ge call) n f args h B else if Nat.beq f 14=true then Am c call [14,26,56] n f args h B else Ge call n f args h B
theorem VZ {ρ:aa} {c:h8} (pf:bZ Tryz.prog ρ c) (hT:dX 460 eY ρ) {call:bB} (H:cS Tryz.prog ρ call):cS Tryz.prog ρ (Gd c call):=fun n f args h B r d u hq=>by
 unfold Gd at hq
 split at hq
 ·exact xT pf (VY hT H) u hq
 ·split at hq
  ·exact SV pf H _ n f args h B r d u hq
  ·exact VY hT H n f args h B r d u hq
def z1 (c:cj):Nat->List X->J->T X:=JD (Gd c.c (eC c 12)) c
theorem acO {ρ:aa} {c:cj} (H:bZ Tryz.prog ρ c.c) (hs:∀s∈c.sm,c4 Tryz.prog s) (hT:dX 460 eY ρ) {f:Nat} {args:List X} {B:J} {r:X} (u:J.ok ρ B) (h:(z1 c f args B).aq ρ=some r):b_ Tryz.prog f=true/\∀n h,CY Tryz.prog n f (X.af ρ args) h (r.I ρ) []:=acR H (VZ H hT (eU H hs 12)) u h
end Go.Proofs.YtpdfmnhgocpkcaaGreat
namespace Go.Proofs.YtpdfmnhgocpkcaaGreat
open Go Go.Proofs.Aw Go.Proofs.Xw
set_option maxRecDepth 100000
inductive PT where
 | lf (d:DT)
 | br (c:BE) (a b:PT)
 | ho
 | hy (k:Nat) (a:PT)
 | ez (bS:J) (a:PT)
def vg (aR:Hyp) (k:Nat):BE×J:=(aR[k]?).getD (.lit false,[])
def PT.parts (aR:Hyp):PT->J->List (DT×J)
 | .lf d,B=>[(d,B)]
 | .br c a b,B=>a.parts aR ((c,true)::B)++b.parts aR ((c,false)::B)
 | .ho,_=>[]
 | .hy k a,B=>a.parts aR ((vg aR k).2++B)
 | .ez bS a,B=>a.parts aR (bS++B)
def PT.sN (aR:Hyp):PT->J->List J
 | .lf _,_=>[]
 | .br c a b,B=>a.sN aR ((c,true)::B)++b.sN aR ((c,false)::B)
 | .ho,B=>[B]
 | .hy k a,B=>a.sN aR ((vg aR k).2++B)
 | .ez bS a,B=>a.sN aR (bS++B)
def pH:BE := .eq (.var 443) (.lit 1)
def PT.wf (aR:Hyp):PT->J->Bool
 | .lf _,_=>true
 | .br c a b,B=>a.wf aR ((c,true)::B)&&b.wf aR ((c,false)::B)
 | .ho,_=>true
 | .hy k a,B=>nu B ((vg aR k).1,true)&&a.wf aR ((vg aR k).2++B)
 | .ez bS a,B=>nu B (pH,false)&&a.wf aR (bS++B)
def PT.qb:PT->List J
 | .lf _ | .ho=>[]
 | .br _ a b=>a.qb++b.qb
 | .hy _ a=>a.qb
 | .ez bS a=>bS::a.qb
theorem agt {aR:Hyp} (hH:uc aR) {k:Nat} {ρ:aa} (h:(vg aR k).1.I ρ=true):J.ok ρ (vg aR k).2:=by
 unfold vg at h ⊢
 cases G:aR[k]? with
 | none=>exact J.bq ρ
 | some p =>
  rw[G]at h
  exact hH p (List.mem_of_getElem? G) ρ h
theorem PT.aq {aR:Hyp} (hH:uc aR) {ρ:aa}:∀(t:PT) (B:J),(∀bS∈t.qb,pH.I ρ=false->J.ok ρ bS)->t.wf aR B=true->J.ok ρ B->(∃p∈t.parts aR B,J.ok ρ p.2)\/∃q∈t.sN aR B,J.ok ρ q
 | .lf d,B,_,_,u => .inl ⟨_,List.mem_cons_self,u⟩
 | .ho,B,_,_,u => .inr ⟨_,List.mem_cons_self,u⟩
 | .br c a b,B,hA,hw,u=>by
  simp only[PT.wf,Bool.and_eq_true]at hw
  simp only[PT.qb,List.mem_append]at hA
  rcases kV c ρ with h | h
  ·rcases PT.aq hH a _ (fun bS hp=>hA bS (.inl hp)) hw.1 (J.av h u)with⟨p,A,E⟩ | ⟨q,A,E⟩
   ·exact .inl ⟨p,List.mem_append_left _ A,E⟩
   ·exact .inr ⟨q,List.mem_append_left _ A,E⟩
  ·rcases PT.aq hH b _ (fun bS hp=>hA bS (.inr hp)) hw.2 (J.av h u)with⟨p,A,E⟩ | ⟨q,A,E⟩
   ·exact .inl ⟨p,List.mem_append_right _ A,E⟩
   ·exact .inr ⟨q,List.mem_append_right _ A,E⟩
 | .hy k a,B,hA,hw,u=>by
  simp only[PT.wf,Bool.and_eq_true]at hw
  exact PT.aq hH a _ hA hw.2 (dY (agt hH (rz u hw.1)) u)
 | .ez bS a,B,hA,hw,u=>by
  simp only[PT.wf,Bool.and_eq_true]at hw
  exact PT.aq hH a _ (fun auj hp=>hA auj (List.mem_cons_of_mem _ hp)) hw.2 (dY (hA bS List.mem_cons_self (rz u hw.1)) u)
def pL:PT := .lf .leaf
def VO (ask han afF tick:PT):PT := .br (ai (cA 0) 1) ask (.br (ai (cA 0) 2) han (.br (ai (cA 0) 3) tick (.br (ai (cA 0) 4) pL (.br (ai (cA 0) 5) afF pL))))
def aid (d:PT):PT := .br (.eq (cM 12) (.var 402)) (.br (.eq (cM 13) (.var 403)) d pL) pL
def Hu:DT := .br (bQ (.var 414) 2) .leaf .leaf
def ae9 (sp:Bool) (x:Nat) (puts:Bool) (goal:U):PT :=
 let g:=fun n =>
  let f:=fun d=>PT.lf (.kT (1+n) (.kT (x+n) d .leaf) .leaf)
  if sp=true then PT.br (bU 24) (f (GH goal n)) (f (GH goal n))else f (.br (bU 24) .leaf .leaf)
 let gt:=PT.br (bQ (gM 1) 2) (g 1) (.br (bQ (gM 1) 3) (g 2) (.br (bQ (gM 1) 4) (g 3) (g 4)))
 .br (.eq (.uf 1 0 mI) (.lit 1)) (.hy 1 (if puts=true then .br (bQ (.var 414) 3) (.lf Hu) gt else gt)) pL
def LJ (sp:Bool) (x:Nat) (puts:Bool) (goal:U):PT := .br (ai (cM 0) 2) (.br (.eq (cM 10) goal) (ae9 sp x puts goal) pL) pL
def WT:DT := .br (bQ (cA 1002) 1) .leaf .leaf
def acN:PT :=
 let one:=PT.lf (wm Cs (.kT 0 OU .leaf))
 .br (ai (cA 1) 4) .ho (.br (ai (cA 1) 1) (.lf (wm (Cs++[(ma (.cB wz) 32,false)]) OU)) (.br (ai (cA 1) 2) one (.br (ai (cA 1) 3) one (.br (ai (cA 1) 5) (.lf (.br (bQ (cA 1002) 1) (.kT 0 (wm [(bQ (cA 4) 0,false),(.lt (cA 4) (.var 0),true)] (.kT 16 OU .leaf)) .leaf) .leaf)) (.lf WT)))))
def acM:PT := .br (ai (cA 1) 4) .ho (.lf WT)
def QD (aqv:U) (ok:PT):PT := .br (ai (cM 73) 92) (.lf (ahD aqv)) (.br (ai (cM 73) 60) pL (.br (ai (cM 73) 0) ok pL))
def wrP:PT := .lf (.br (bU 47) (Q3 .leaf) .leaf)
def b1P:PT := .br (ai (cM 0) 4) (.lf ad3) (.br (ai (cM 0) 6) (.br (bQ (.var 414) 3) (.lf Hu) (QD y8 wrP)) pL)
def m1P:PT := .br (ai (cM 0) 4) pL (.br (ai (cM 0) 6) (QD (.var 431) (.lf (.br (bU 47) (Q3 Ol) Ol))) pL)
def Zp:PT := .br (ai (cM 0) 4) pL (.br (ai (cM 0) 6) (QD wj (.br pH .ho (.ez pn.2 (.ez (ko tQ) wrP)))) pL)
def Vs:PT:=VO acN pL pL pL
def uw (h:PT):PT:=VO acM (aid h) h (.lf asr)
def dR (sp:Bool):Nat->PT
 | 0=>Vs
 | 1=>Vs
 | 2=>uw (LJ sp 7 true y8)
 | 3=>uw b1P
 | 4=>uw (LJ sp 11 false (.var 431))
 | 5=>uw m1P
 | 7=>uw Zp
 | 9=>uw Zp
 | _=>uw (LJ sp 16 false wj)
end Go.Proofs.YtpdfmnhgocpkcaaGreat
namespace Go.Proofs.YtpdfmnhgocpkcaaGreat
open Go Go.Proofs.Aw Go.Proofs.Xw
set_option maxRecDepth 100000
def L8:List Nat:=[48,124,30050,30052,30061,30122,30116,20051,20074,12,13,18,47,98,130,16,17,40,26,43,21,44,95,115,88,76,10073,10089,10090,10057,10019,10032,10020,10022,10025,10106,10080,10119,10118,10121,10103]
def Wz:J:=[(.eq (.op .max .i64 (.var 404) (.lit 0)) (.var 404),true)]
def VS:J:=[(.lt (.var 5) (.lit 0),false),(.lt (.var 5) (.var 0),true)]++dh++[(.lt (.var 2) (.lit 1),false),(.lt (.lit 4) (.var 2),false),(.lt (.var 3) (.lit 1),false),(.lt (.lit 4) (.var 3),false),(.lt (.var 4) (.var 3),true)]
noncomputable def lS:Code:=(dP (Tryz.f6.body.getD .skip))[0]?.getD .skip
def qQ:Nat:=37
def Zx:ba:=asj 9 18 9 11 13 [(43,.top),(42,.top),(41,.top),(40,.top),(39,.top),(38,.top),(37,.top),(36,.top),(35,.top),(34,.top),(33,.top),(32,.top),(12,.top),(31,.top),(30,.top),(25,.top),(29,.top),(28,.top),(27,.top),(26,.top),(10,.top),(24,.top),(23,.top),(18,.top),(22,.top),(21,.top),(20,.top),(19,.top),(17,.top),(16,.top),(15,.top),(14,.top),(8,.top),(4,(.ptr (0,0) [] 0)),(0,(.agg [xi 0,xi 1,xi 2,xi 3])),(1,xi 4),(2,xi 5),(3,fw)]
def hL:au:=[((0,0),[xi 0,xi 1,xi 2,xi 3])]
def adH (C:dm):dm:=⟨⟨C.S.t,C.S.h++hL,C.S.nx⟩,C.bS,C.di⟩
def gQ:List dm:=(adE 9 18 37 Zx++adD 9 18 37 Zx).map adH
noncomputable def Ae (kh:List GK):h8:=r4 [] NL kh cls [41]
noncomputable def rnL (kh:List GK) (B:J) (S:XS):T (XE×XS):=(ck (Ae kh).ti (Gd (Ae kh) (eC ⟨Ae kh,h2,L8⟩ 12)) [] qQ [] 1000 lS B S).map (dV (S.t.map (·.1)))
def rj (S:XS):XS:=⟨S.t,S.h,90⟩
noncomputable def bV (kh:List GK) (i:Nat) (B:J):Bool:=match gQ[i]? with
 | some C=>dC qQ 400 400 jb (460,eY) i gQ (rj C.S) (.exit 0) B (rnL kh B C.S)
 | none=>false
def Fo (i:Nat):J:=(match gQ[i]? with | some C=>C.bS | none=>[])++(Yc++(if Nat.ble 6 i=true then Wz++(oU++ko g8)else []))
def a5 (i:Nat):J:=(.lt (.var 400) (.len 2),true)::((if Nat.beq i 0=true then hyE.2 else hyR.2)++Fo i)
def ga (i:Nat):J:=(.lt (.var 400) (.len 2),false)::Fo i
def cO (ρ:aa) (i:Nat):Prop:=dX 460 eY ρ->∃C,gQ[i]? = some C/\(jj Tryz.prog Tryz.f6.ntmps lS qQ C.S (.ret (.exit 0,rj C.S)) ρ\/∃(j:Nat) (bM:dm) (F:aa),gQ[j]? = some bM/\ea Tryz.prog Tryz.f6.ntmps lS qQ C.S bM.S ρ F/\J.ok F bM.bS/\F.i 400=IntKind.i64.wrap (ρ.i 400+1)/\az 400 ρ F/\(dX 460 eY ρ->dX 460 eY F)/\(bM.di=[]\/∃a∈bM.di,a.fr=i/\gI a ρ F))
def Ss (i:Nat):XS:=match gQ[i]? with
 | some C=>C.S
 | none=>⟨[],[],0⟩
theorem RM {i:Nat} {C:dm} (h:gQ[i]? = some C):Ss i=C.S:=by unfold Ss;rw[h]
structure dW:Prop where
 hyp:uc a'
 sm:∀s∈h2,c4 Tryz.prog s
 k7:o0 Tryz.prog 41
theorem ahZ (ρ:aa) (f:Nat) (N:Nat) (c:Code):a1 Tryz.prog ρ N (NL f) c:=fun dx _ L h=>by
 unfold NL at h
 split at h
 ·unfold jC at h
  split at h
  ·simp[BH,bf.R,jC]at h
  ·cases h
 ·simp[jC]at h
theorem adw (ad:dW) {ρ:aa} {kh:List GK} (j5:∀k∈kh,c' Tryz.prog ρ k):bZ Tryz.prog ρ (Ae kh):=r5 (List.forall_mem_nil _) (fun f _ _=>ahZ ρ f _ _) j5 J_ (List.forall_mem_cons.2 ⟨ad.k7,List.forall_mem_nil _⟩)
theorem part (ad:dW) {ρ:aa} {i:Nat} (kh:List GK) (j5:∀k∈kh,c' Tryz.prog ρ k) {d:DT} {B:J} (hn:lv d=true) (h:d.ok a' (bV kh i) B=true) (u:J.ok ρ B):cO ρ i:=by
 intro hT
 obtain⟨aS,A,E⟩:=Xg ad.hyp hn h u
 unfold bV at E
 split at E
 ·rename_i C hC
  have H:=adw ad j5
  exact⟨C,hC,gD H.mixed H.ti (VZ H hT (eU (c:=⟨Ae kh,h2,L8⟩) H ad.sm 12)) (a1.nil _ _ _ _) (by kernel_rfl) A E⟩
 ·cases E
noncomputable def aw (i k:Nat):Bool:=match((dR true i).parts a' (a5 i))[k]? with
 | some p=>lv p.1&&p.1.ok a' (bV [] i) p.2
 | none=>true
def kE (i:Nat):Nat->Prop
 | 0=>True
 | n+1=>kE i n/\aw i n=true
theorem Xn {i k:Nat}:∀{n:Nat},kE i n->k<n->aw i k=true
 | 0,_,h=>by omega
 | n+1,h,u=>by
  by_cases e:k=n
  ·rw[e];exact h.2
  ·exact Xn h.1 (by omega)
theorem XP (ad:dW) {ρ:aa} {i n:Nat} (hu:kE i n) (hn:((dR true i).parts a' (a5 i)).length=n) (hw:(dR true i).wf a' (a5 i)=true) (hA:∀bS∈(dR true i).qb,pH.I ρ=false->J.ok ρ bS) (u:J.ok ρ (a5 i)):cO ρ i\/∃q∈(dR true i).sN a' (a5 i),J.ok ρ q:=by
 rcases PT.aq ad.hyp _ _ hA hw u with⟨p,A,E⟩ | h
 ·left
  obtain⟨k,aM⟩:=List.getElem?_of_mem A
  have h3:=Xn hu (k:=k) (by rw[<-hn];exact(List.getElem?_eq_some_iff.1 aM).1)
  unfold aw at h3
  rw[aM]at h3
  simp only[Bool.and_eq_true]at h3
  exact part ad [] (List.forall_mem_nil _) h3.1 h3.2 E
 ·exact .inr h
end Go.Proofs.YtpdfmnhgocpkcaaGreat
namespace Go.Proofs.YtpdfmnhgocpkcaaGreat
open Go Go.Proofs.Aw Go.Proofs.Xw
abbrev b4:X := .sc (.i .i64 (.lit 0))
abbrev tX:X := .sc (.b (.lit false))
abbrev DG:X := .k (.slice none 0 0)
set_option maxRecDepth 100000
def zf:XS:=⟨([(13,b4)]++[(43,.top),(42,.top),(41,.top),(40,.top),(39,.top),(38,.top),(37,.top),(36,.top),(35,.top),(34,.top),(33,.top),(32,.top),(12,.top)]++[(11,(.ptr (18,0) [] 0))]++[(31,.top),(30,.top),(25,.top),(29,.top),(28,.top),(27,.top),(26,.top),(10,.top)]++[(9,(.ptr (9,0) [] 0))]++[(24,.top),(23,.top),(18,.top),(22,.top),(21,.top),(20,.top),(19,.top),(17,.top),(16,.top),(15,.top),(14,.top),(8,.top)]++[(4,(.ptr (0,0) [] 0)),(0,(.agg [(xi 0),(xi 1),(xi 2),(xi 3)])),(1,(xi 4)),(2,(xi 5)),(3,fw)]),[((0,0),[(xi 0),(xi 1),(xi 2),(xi 3)]),((9,0),[(xi 0),(xi 1),(xi 2),(xi 3),(xi 4),(xi 5),b4,b4,b4,b4,b4,b4,b4,b4,b4,b4,b4,b4,tX,b4,DG,(.sc (.s (.lit ⟨#[]⟩))),b4,b4,b4,tX,tX,b4,b4,b4,b4,b4,b4,b4,b4,b4,b4,tX,b4,b4,b4,(.k (.pointer none)),DG]),((18,0),[(xi 0),(xi 1),(xi 2),(xi 3),(xi 4),(xi 5),b4,b4,b4,b4,b4,b4,b4,b4,b4,b4,b4,tX,b4,DG,(.sc (.s (.lit ⟨#[]⟩))),b4,(.k (.pointer none)),b4,b4,b4,b4,tX,tX,b4,b4,b4,b4,b4,b4,b4,b4,b4,b4,tX,b4,b4,DG,DG])],37⟩
noncomputable def yp (i:Nat):bf:=⟨(du lS).getD 0,0,400,zf,gj,[],.ret (.exit 0,rj (Ss i))⟩
end Go.Proofs.YtpdfmnhgocpkcaaGreat
namespace Go.Proofs.YtpdfmnhgocpkcaaGreat
open Go Go.Proofs.Aw Go.Proofs.Xw
set_option maxRecDepth 100000
def kQ:List X:=[.agg Gn,xi 4,xi 5,fw]
def ksT (b:Bool):List (Nat×List X×X):=[(10,[],xl true),(11,[fw],xl b)]
noncomputable def Gj (i:Nat):Nat->List bf:=fun f=>if Nat.beq f 6=true then [yp i]else []
noncomputable def uy (b:Bool) (lp:Nat->List bf):cj:=⟨r4 (ksT b) lp [] cls [41],h2,49::L8⟩
noncomputable def nB (i:Nat) (B:J):Bool:=zR B (z1 (uy false (Gj i)) 6 kQ B)
def Pd (i:Nat):J:=match gQ[i]? with
 | some C=>C.bS
 | none=>[]
def lW (i:Nat):J:=(if Nat.beq i 0=true then []else [(.lt (.lit 300) (.len 460),false)])++(VS++Pd i)
def XB:J:=[(bQ (.var 0) 1,false),(ma (.var 0) 3,false),(bQ (.var 1) 1,false),(ma (.var 1) 3,false),(bQ (.var 2) 1,false),(ma (.var 2) 4,false),(bQ (.var 3) 1,false),(ma (.var 3) 4,false),(bQ (.var 4) 0,false),(.lt (.var 4) (.var 3),true),(bQ (.var 5) 0,false),(.lt (.var 5) (.var 0),true)]
noncomputable def Hm (b:Bool) (B:J):Bool:=zR B (z1 (uy b (fun _=>[])) 6 kQ B)
noncomputable def Hn:J->J->Bool
 | [],_=>true
 | (c,v)::r,B=>Hm false ((c,!v)::B)&&Hn r ((c,v)::B)
end Go.Proofs.YtpdfmnhgocpkcaaGreat
