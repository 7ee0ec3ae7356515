/- Parts of the proof, one behind the other. -/
import Derived.Test.YtpdfmnhgocpkcaaGreatTK19
import Derived.Test.YtpdfmnhgocpkcaaGreatTK24
import Derived.Test.YtpdfmnhgocpkcaaGreatTK3
import Derived.Test.YtpdfmnhgocpkcaaGreatTK12
import Derived.Test.YtpdfmnhgocpkcaaGreatTK17
import Derived.Test.YtpdfmnhgocpkcaaGreatTK18
import Derived.Test.YtpdfmnhgocpkcaaGreatTK20
import Derived.Test.YtpdfmnhgocpkcaaGreatTK6
namespace Go.Proofs.YtpdfmnhgocpkcaaGreat
open Go Go.Proofs.Aw Go.Proofs.Xw Go.Proofs.Sr
set_option maxRecDepth 100000
theorem aoA {ρ:aa} (h:Pl.I ρ=true):(ρ.s 0).size<9223372036854775808/\1<=ρ.i 1/\ρ.i 1<=3:=by
 obtain⟨A,E⟩:=kF h
 have A:¬(1000000:Int)<(ρ.s 0).size:=yC A
 have E:=kG E
 exact⟨by omega,E.1,E.2⟩
theorem atg {ρ:aa} (h:Pl.I ρ=true):∃g,j8 0 (R3.I ρ) g:=by
 obtain⟨A,E,h3⟩:=aoA h
 have b:=arf (ρ.i 1) (pt (ρ.s 0)) ⟨E,h3⟩
 refine⟨fun _=>sec (ρ.i 1) (pt (ρ.s 0)),⟨fun f hf n hp => ?_,fun j => ?_,trivial⟩⟩
 ·simp only[eM,List.mem_cons,List.not_mem_nil,or_false]at hf
  rcases hf with rfl | rfl
  ·exact(ake _ A _ ⟨E,h3⟩).2 n hp
  ·exact(akk _ A _ ⟨E,h3⟩).2 n hp
 ·simp only[jn];omega
theorem Zd (f:Nat) (hf:f∈eM 0):c9 Tryz.prog (P5 f):=⟨px f (by simp only[eM,List.mem_cons,List.not_mem_nil,or_false]at hf;rcases hf with rfl | rfl<;>decide),fun ρ n h hp=>by
 obtain⟨g,Z⟩:=atg hp
 exact(gT Z).qK f hf n h⟩
theorem Di:∀s∈hj,c9 Tryz.prog s:=by
 intro s hs
 simp only[hj,List.map_cons,List.map_nil,List.mem_append,List.mem_cons,List.not_mem_nil,or_false]at hs
 rcases hs with(rfl | rfl | rfl | rfl | rfl | rfl | rfl | rfl | rfl | rfl | rfl | rfl | rfl | rfl | rfl | rfl | rfl | rfl | rfl | rfl) | (rfl | rfl | rfl | rfl) | (rfl | rfl | rfl | rfl)
 ·exact Zd 33 (by decide)
 ·exact Zd 104 (by decide)
 ·exact Ip 97 (by decide)
 ·exact Ip 105 (by decide)
 ·exact Zf 28 (by decide)
 ·exact Zf 81 (by decide)
 ·exact Ze 24 (by decide)
 ·exact Ze 114 (by decide)
 ·exact GS _ List.mem_cons_self
 ·exact GS _ (List.mem_cons_of_mem _ List.mem_cons_self)
 ·exact Zc 36 (by decide)
 ·exact Zc 108 (by decide)
 ·exact Y' 34 (by decide)
 ·exact Y' 110 (by decide)
 ·exact Ik 35 (by decide)
 ·exact Ik 135 (by decide)
 ·exact Y_ 27 (by decide)
 ·exact Y_ 77 (by decide)
 ·exact Za 94 (by decide)
 ·exact Za 107 (by decide)
 ·exact tZ 92 1 (by decide) (by omega)
 ·exact tZ 92 2 (by decide) (by omega)
 ·exact tZ 92 3 (by decide) (by omega)
 ·exact tZ 92 4 (by decide) (by omega)
 ·exact tZ 109 1 (by decide) (by omega)
 ·exact tZ 109 2 (by decide) (by omega)
 ·exact tZ 109 3 (by decide) (by omega)
 ·exact tZ 109 4 (by decide) (by omega)
end Go.Proofs.YtpdfmnhgocpkcaaGreat
namespace Go.Proofs.YtpdfmnhgocpkcaaGreat
open Go Go.Proofs.Aw Go.Proofs.Xw
set_option maxRecDepth 100000
def hfA:List Nat:=[48,124,30050,30052,30061,30122,30116,20051,20074,12,13,18,47,98,130,16,17,40,26,43,21,44,95,115,88,76,10073,10089,10090,10057,10019,10032,10020,10022,10025,10106,10080,10119,10118,10121,10103]
noncomputable def JM:cr:=⟨bg [] (fun _=>[]),hj,hfA⟩
theorem acN:iK (aS JM 10 [] []) (.ret (xl true))=true:=by kernel_rfl
theorem acM:Cy 10 [] (.sc (.bool true)):=by
 have e:=qp acN
 let ρ:aa:=⟨fun _=>0,fun _=>false,fun _=>⟨#[]⟩,fun _=>0,fun _ _ _=>0,fun _ _ _=>false,fun _ _ _=>⟨#[]⟩,kN⟩
 exact eG (ρ:=ρ) (c:=JM) (lb (List.forall_mem_nil _)) Di (J.bq ρ) (show(aS JM 10 [] []).aq ρ=some (xl true)by rw[e];rfl)
end Go.Proofs.YtpdfmnhgocpkcaaGreat
namespace Go.Proofs.YtpdfmnhgocpkcaaGreat
open Go Go.Proofs.Aw Go.Proofs.Xw
set_option maxRecDepth 100000
def iL (f:Bool):X := .rl 1 (.len 0) (.var 0 [.s]) f
def I8 (i:X) (a b:Bool):bf:=[(5,i),(10,.top),(9,.top),(8,.top),(7,.top),(6,.top),(4,.top),(0,iL a),(1,iL b)]
def aaH (a b:Bool):XS:=⟨I8 (xn 0) a b,[],7⟩
def Q_ (a b:Bool):XS:=⟨I8 (xi 10) a b,[],7⟩
noncomputable def wW:Code:=(ef (Tryz.f41.body.getD .skip))[0]?.getD .skip
def zH:J:=[(.lt (.var 10) (.lit 0),false),(.lt (.len 0) (.var 10),false),(.lt (.lit 4611686018427387904) (.len 0),false)]
def wdC (a b:Bool):List dq:=[⟨Q_ a b,zH,[]⟩]
noncomputable def atP (a b:Bool) (B:J):T (XE×XS):=(cz (bg [] (fun _=>[])).ti (eT ⟨bg [] (fun _=>[]),[],[]⟩ 12) [] 0 [] 1000 wW B (Q_ a b)).map (eu ((I8 (xi 10) a b).map (·.1)))
def aaG (a b:Bool):XS:=⟨I8 (xi 10) a b,[],20⟩
def w1:U := .op .add .i64 (.var 10) (.lit 1)
def qq:J:=(.lt (.var 10) (.len 0),true)::(.lt w1 (.lit 0),false)::(.lt (.len 0) w1,false)::zH
def zG:J:=(.lt (.var 10) (.len 0),false)::zH
noncomputable def wdO (a b:Bool) (B:J):Bool:=dX 0 10 10 [] (0,[]) 0 (wdC a b) (aaG a b) (.exit 0) B (atP a b B)
noncomputable def um (p:Bool->Bool->Bool):Bool:=p false false&&(p false true&&(p true false&&p true true))
theorem zF {p:Bool->Bool->Bool} (h:um p=true):∀a b,p a b=true:=by
 simp only[um,Bool.and_eq_true]at h
 intro a b
 cases a<;>cases b<;>simp_all
theorem atQ:um (fun a b=>wdO a b qq&&wdO a b zG)=true:=by kernel_rfl
noncomputable def DN (a b:Bool):bo:=⟨(dF wW).getD 0,0,10,aaH a b,gJ,[],.ret (.exit 0,aaG a b)⟩
noncomputable def Q9 (a b:Bool) (f:Nat):List bo:=if Nat.beq f 41=true then [DN a b]else []
noncomputable def Q8 (a b:Bool):cr:=⟨bg [] (Q9 a b),[],[]⟩
theorem aaI:dp Tryz.f41.ntmps wW=true:=by kernel_rfl
structure nR (m:Nat) (ρ:aa):Prop where
 n:ρ.len 0=m
 b:m<=4611686018427387904
 i0:0<=ρ.i 10
 i1:ρ.i 10<=m
theorem zI {m:Nat} {ρ:aa} (h:nR m ρ):J.ok ρ zH:=by
 have q1:=h.n;have q2:=h.b;have q3:=h.i0;have q4:=h.i1
 refine J.aw (decide_eq_false (by show ¬ρ.i 10<0;omega)) (J.aw (decide_eq_false (by show ¬(ρ.len 0:Int)<ρ.i 10;omega)) (J.aw (decide_eq_false (by show ¬(4611686018427387904:Int)<ρ.len 0;omega)) (J.bq ρ)))
theorem atS (a b:Bool) {m:Nat} {ρ:aa} (hn:ρ.len 0=m) (hb:m<=4611686018427387904):∃ar,aA 10 ρ ar/\nR m ar/\b8 Tryz.prog ar Tryz.f41.ntmps wW (DN a b):=by
 have H:∀G,cf Tryz.prog G (bg [] (fun _=>[])):=fun G=>lb (List.forall_mem_nil _)
 have bJ:=zF atQ a b
 rw[Bool.and_eq_true]at bJ
 have key:=Wh (P:=Tryz.prog) (N:=Tryz.f41.ntmps) (body:=wW) (k0:=0) (n:=10) (S0:=aaH a b) (ρ:=ρ) (by cases a<;>cases b<;>kernel_rfl) (fun _=>Q_ a b) (fun _=>DN a b) (fun _=>⟨rfl,rfl,rfl⟩) (fun i G=>i=0/\nR m G) (fun G=>m-(G.i 10).toNat) (fun i G ⟨hi,hR⟩=>by
  subst hi
  have q1:=hR.n;have q2:=hR.b;have q3:=hR.i0;have q4:=hR.i1
  by_cases aT:G.i 10<G.len 0
  ·have e1:w1.I G=G.i 10+1:=(show w1.I G=IntKind.i64.wrap (G.i 10+1)from rfl).trans (cp _ (by omega) (by omega))
   have u:J.ok G qq:=J.aw (decide_eq_true aT) (J.aw (decide_eq_false (by rw[e1];show ¬_<(0:Int);omega)) (J.aw (decide_eq_false (by rw[e1];show ¬(G.len 0:Int)<_;omega)) (zI hR)))
   rcases ij mixed dj (ft (c:=⟨bg [] (fun _=>[]),[],[]⟩) (H G) (List.forall_mem_nil _) 12) (a5.nil _ _ _ _) aaI u bJ.1 with h | ⟨j,C,ax,A,E,h3,h4,h5,_⟩
   ·exact .inl h
   ·right
    match j,A with
    | 0,A =>
     cases A
     have e4:ax.i 10=G.i 10+1:=by rw[h4];exact cp _ (by omega) (by omega)
     have iV:ax.len 0=G.len 0:=(h5.len 0 (by omega)).symm
     exact⟨0,ax,E,⟨rfl,⟨by omega,hb,by omega,by omega⟩⟩,by omega,h5⟩
  ·have u:J.ok G zG:=J.aw (decide_eq_false aT) (zI hR)
   rcases ij mixed dj (ft (c:=⟨bg [] (fun _=>[]),[],[]⟩) (H G) (List.forall_mem_nil _) 12) (a5.nil _ _ _ _) aaI u bJ.2 with h | ⟨j,C,ax,A,E,h3,h4,h5,_⟩
   ·exact .inl h
   ·exfalso
    match j,A with
    | 0,A =>
     cases A
     have e4:ax.i 10=G.i 10+1:=by rw[h4];exact cp _ (by omega) (by omega)
     have iV:ax.len 0=G.len 0:=(h5.len 0 (by omega)).symm
     have:=h3 _ (List.mem_cons_of_mem _ List.mem_cons_self)
     have:¬(ax.len 0:Int)<ax.i 10:=of_decide_eq_false this
     omega)
 let β:Bind:=⟨[(10,.lit 0)],[],[],[]⟩
 obtain⟨_,ar,A,⟨_,E⟩,h3⟩:=key ⟨0,β.ap ρ,Bind.bC (by kernel_rfl) ρ,⟨rfl,⟨hn,hb,Int.le_refl _,show(0:Int)<=m by omega⟩⟩,fun ac _ bM=>lL (k0:=0) (n:=10) (nm:=[]) bM (by cases a<;>cases b<;>kernel_rfl) ρ⟩
 exact⟨ar,A,E,h3⟩
def wX:J:=[(.lt (.lit 4611686018427387904) (.len 0),false),(.lt (.len 0) (.var 10),false),(.lt (.var 10) (.lit 0),false)]
theorem atU:um (fun a b=>match aS (Q8 a b) 41 [iL a,iL b] wX with | .ret x=>X.beq x (.sc (.b (.lit true))) | _=>false)=true:=by kernel_rfl
theorem atT (a b:Bool) {ρ:aa} (h:b8 Tryz.prog ρ Tryz.f41.ntmps wW (DN a b)):∀f i,eS f gA=some i->a5 Tryz.prog ρ i.ntmps (Q9 a b f) i.body:=fun f i hi=>by
 unfold Q9
 split
 ·rename_i hf
  have hf:=Nat.eq_of_beq_eq_true hf
  subst hf
  have e:eS 41 gA=some (fi Tryz.f41 []):=by kernel_rfl
  rw[e]at hi
  cases hi
  exact lE [0] (by cases a<;>cases b<;>kernel_rfl) (List.forall_mem_cons.2 ⟨lD (L:=DN a b) (c:=wW) (by cases a<;>cases b<;>kernel_rfl) h,List.forall_mem_nil _⟩)
 ·exact a5.nil _ _ _ _
theorem aaO:pa Tryz.prog 41:=⟨by kernel_rfl,fun ss f1 f2 n h O=>by
 let ρ:aa:=⟨fun _=>0,fun _=>false,fun _=>⟨#[]⟩,fun _=>ss.length,fun _ _ _=>0,fun _ _ _=>false,fun _ _ j=>(ss[j]?).getD ⟨#[]⟩,kN⟩
 obtain⟨ar,A,E,h3⟩:=atS f1 f2 (ρ:=ρ) (m:=ss.length) rfl O
 have hw:=zF atU f1 f2
 have H:cf Tryz.prog ar (Q8 f1 f2).c:=jz (List.forall_mem_nil _) (atT f1 f2 h3)
 have u:J.ok ar wX:=by
  have q1:=E.n;have q2:=E.b;have q3:=E.i0;have q4:=E.i1
  exact J.aw (decide_eq_false (by show ¬(4611686018427387904:Int)<ar.len 0;omega)) (J.aw (decide_eq_false (by show ¬(ar.len 0:Int)<ar.i 10;omega)) (J.aw (decide_eq_false (by show ¬ar.i 10<0;omega)) (J.bq ar)))
 split at hw
 ·rename_i x hx
  have:=X.beq_eq _ _ hw
  subst this
  have q:=(eG H (List.forall_mem_nil _) u (show(aS (Q8 f1 f2) 41 [iL f1,iL f2] wX).aq ar=some _ by rw[hx];rfl)).2 n h
  have e:X.af ar [iL f1,iL f2]=[.ro 1 (fC ss) f1,.ro 1 (fC ss) f2]:=by
   have r:aX ar (.len 0) (.var 0 [.s])=fC ss:=by
    unfold aX fC
    have l:((U.len 0).I ar).toNat=ss.length:=by
     have:=E.n
     show((ar.len 0:Nat):Int).toNat=_
     omega
    rw[l]
    apply List.ext_getElem?
    intro j
    rw[List.getElem?_map,List.getElem?_map]
    by_cases M:j<ss.length
    ·rw[List.getElem?_range M,List.getElem?_eq_getElem M,Option.map_some,Option.map_some]
     have:ar.cs 0 0 j=ss[j]:=by
      rw[<-A.cs 0 (by omega)]
      show(ss[j]?).getD ⟨#[]⟩=_
      rw[List.getElem?_eq_getElem M];rfl
     show some [AV.sc (.string (ar.cs 0 0 ((j:Int)).toNat))]=_
     rw[Int.toNat_natCast,this]
    ·rw[List.getElem?_eq_none (by rw[List.length_range];omega),List.getElem?_eq_none (by omega)];rfl
   show [AV.ro 1 (aX ar (.len 0) (.var 0 [.s])) f1,AV.ro 1 (aX ar (.len 0) (.var 0 [.s])) f2]=_
   rw[r]
  rw[e]at q
  exact q
 ·cases hw⟩
end Go.Proofs.YtpdfmnhgocpkcaaGreat
namespace Go.Proofs.YtpdfmnhgocpkcaaGreat
open Go Go.Proofs.Aw Go.Proofs.Xw
set_option maxRecDepth 100000
theorem acT {ρ:aa} {B:J} (u:J.ok ρ B) {t:T X} (h:z3 B t=true):∃e:BE,t = .ret (.sc (.b e))/\e.I ρ=true:=by
 unfold z3 at h
 split at h
 ·rename_i e
  exact⟨e,rfl,rZ u h⟩
 ·cases h
theorem As {ρ:aa} {b b2:Bool} {lp:Nat->List bo} {kh:List GK} (hm:Cy 11 (X.af ρ [fX]) (.sc (.bool b))) (dW:Cy 11 (X.af ρ [uG]) (.sc (.bool b2))) (O:∀f i,eS f gA=some i->a5 Tryz.prog ρ i.ntmps (lp f) i.body) (hG:∀k∈kh,cy Tryz.prog ρ k):cf Tryz.prog ρ (uO b b2 lp kh).c :=
 uQ (List.forall_mem_cons.2 ⟨acM,List.forall_mem_cons.2 ⟨hm,List.forall_mem_cons.2 ⟨dW,List.forall_mem_nil _⟩⟩⟩) O hG Ks (List.forall_mem_cons.2 ⟨aaO,List.forall_mem_nil _⟩)
theorem B' {ρ:aa} {b b2:Bool} {lp:Nat->List bo} {kh:List GK} (H:cf Tryz.prog ρ (uO b b2 lp kh).c) (hT:eP 460 iE ρ) {B:J} (u:J.ok ρ B) (h:z3 B (Ad (uO b b2 lp kh) 9 ka B)=true):Cy 9 (X.af ρ ka) (.sc (.bool true)):=by
 obtain⟨e,A,E⟩:=acT u h
 have g:=adh (c:=uO b b2 lp kh) H Di hT u (show(Ad (uO b b2 lp kh) 9 ka B).aq ρ=some (.sc (.b e))by rw[A];rfl)
 have ee:X.I ρ (.sc (.b e)) = .sc (.bool true):=by show AV.sc (.bool (e.I ρ))=_;rw[E]
 rw[ee]at g
 exact g
theorem aih {ρ:aa} {i:Nat} (h:b8 Tryz.prog ρ Tryz.f9.ntmps kb (B_ i)):∀g k,eS g gA=some k->a5 Tryz.prog ρ k.ntmps (GI i g) k.body:=fun g k Z=>by
 unfold GI
 split
 ·rename_i hf
  have hf:=Nat.eq_of_beq_eq_true hf
  subst hf
  have g0:j6 Tryz.prog 9 k:=oc (9,k) (k8 _ _ (k7 Z))
  refine pN g0 Tryz.func9 ?_
  refine lE (c:=Tryz.f9.body.getD .skip) [0] ?_ (List.forall_mem_cons.2 ⟨lD (L:=B_ i) (c:=kb) ?_ h,List.forall_mem_nil _⟩)
  ·rfl
  ·rfl
 ·exact a5.nil _ _ _ _
structure At (ρ:aa) (i:Nat):Prop where
 m:Cy 11 (X.af ρ [fX]) (.sc (.bool false))
 m2:Cy 11 (X.af ρ [uG]) (.sc (.bool false))
 ty:eP 460 iE ρ
 lp:b8 Tryz.prog ρ Tryz.f9.ntmps kb (B_ i)
theorem qc {ρ:aa} {i:Nat} (a:At ρ i) {kh:List GK} (hG:∀k∈kh,cy Tryz.prog ρ k) {B:J} (h:mL kh i B=true) (u:J.ok ρ B):Cy 9 (X.af ρ ka) (.sc (.bool true)) :=
 B' (b:=false) (b2:=false) (lp:=GI i) (As a.m a.m2 (aih a.lp) hG) a.ty u h
theorem XG {kh:List GK} {t:PT} {B:J} {i k:Nat}:∀{n:Nat},rM kh t B i n->k<n->aV kh t B i k=true
 | 0,_,h=>by omega
 | n+1,h,u=>by
  by_cases e:k=n
  ·rw[e];exact h.2
  ·exact XG h.1 (by omega)
theorem YT {ρ:aa} {i n:Nat} (a:At ρ i) {kh:List GK} (hG:∀k∈kh,cy Tryz.prog ρ k) {t:PT} {B:J} (hu:rM kh t B i n) (hn:(t.parts gI B).length=n) (hw:t.wf gI B=true) (hz:t.pe=[]) (u:J.ok ρ B):Cy 9 (X.af ρ ka) (.sc (.bool true))\/∃q∈t.ra gI B,J.ok ρ q:=by
 rcases PT.aq M1 t B (fun b6 h=>by rw[hz]at h;cases h) hw u with⟨p,A,E⟩ | h
 ·left
  obtain⟨k,aJ⟩:=List.getElem?_of_mem A
  have h3:=XG hu (k:=k) (by rw[<-hn];exact(List.getElem?_eq_some_iff.1 aJ).1)
  unfold aV at h3
  rw[aJ]at h3
  simp only[Bool.and_eq_true]at h3
  obtain⟨aQ,q1,q2⟩:=OY M1 h3.1 h3.2 E
  exact qc a hG q2 q1
 ·exact .inr h
theorem VF {ρ:aa} {i:Nat} (a:At ρ i) (u:J.ok ρ (aY i)) (hz:rM [] a6 (aY i) i 46) (hn:(a6.parts gI (aY i)).length=46) (hw:a6.wf gI (aY i)=true) (hx:rM fh eh (wF++dK i) i 11) (xn:(eh.parts gI (wF++dK i)).length=11) (atR:eh.wf gI (wF++dK i)=true) (hy:DT.ok gI (mL (cW false++cW true) i) yO (dK i)=true)
  (H:(J.ok ρ wF/\qv ρ/\∀k∈dy false++dy true,cy Tryz.prog ρ k)\/(ρ.len 621=0/\∀k∈cW false++cW true,cy Tryz.prog ρ k)):Cy 9 (X.af ρ ka) (.sc (.bool true)):=by
 rcases YT a (List.forall_mem_nil _) hz hn hw rfl u with h | ⟨q,hq,hf⟩
 ·exact h
 ·have hq:q∈[dK i]:=hq
  rw[List.mem_singleton]at hq
  subst hq
  rcases H with⟨A,_,h3⟩ | ⟨_,h3⟩
  ·rcases YT a h3 hx xn atR rfl (dZ A hf)with h | ⟨q,hq,_⟩
   ·exact h
   ·have hq:q∈([]:List J):=hq
    cases hq
  ·obtain⟨aQ,q1,q2⟩:=OY M1 rfl hy hf
   exact qc a h3 q2 q1
theorem ar6 {ρ:aa} {i:Nat} (a:At ρ i) (hi:i<10) (u:J.ok ρ (aY i)) (H:(J.ok ρ wF/\qv ρ/\∀k∈dy false++dy true,cy Tryz.prog ρ k)\/(ρ.len 621=0/\∀k∈cW false++cW true,cy Tryz.prog ρ k)):Cy 9 (X.af ρ ka) (.sc (.bool true)):=by
 rcases(show i=0\/i=1\/i=2\/i=3\/i=4\/i=5\/i=6\/i=7\/i=8\/i=9 by omega)with h | h | h | h | h | h | h | h | h | h<;>subst h
 ·exact VF a u zz0 zn0 zw0 xx0 yn0 yw0 aul H
 ·exact VF a u zz1 zn1 zw1 xx1 yn1 yw1 y1 H
 ·exact qc a (List.forall_mem_nil _) zt2 u
 ·exact qc a (List.forall_mem_nil _) zt3 u
 ·exact qc a (List.forall_mem_nil _) zt4 u
 ·exact qc a (List.forall_mem_nil _) zt5 u
 ·exact qc a (List.forall_mem_nil _) zt6 u
 ·exact qc a (List.forall_mem_nil _) zt7 u
 ·exact qc a (List.forall_mem_nil _) zt8 u
 ·exact qc a (List.forall_mem_nil _) zt9 u
theorem aoB {ρ:aa} {bx:Prop} (run:∀B,yZ false false B=true->J.ok ρ B->bx) (l:J):∀(B:J),HK l B=true->J.ok ρ B->(J.ok ρ l->bx)->bx:=by
 induction l with
 | nil=>exact fun _ _ _ k=>k (J.bq ρ)
 | cons p r ih =>
  intro B h u k
  have h':(yZ false false ((p.1,!p.2)::B)&&HK r ((p.1,p.2)::B))=true:=h
  obtain⟨A,E⟩:=Bool.and_eq_true_iff.1 h'
  by_cases H:p.1.I ρ=p.2
  ·exact ih _ E (J.aw H u) fun hr=>k (J.aw H hr)
  ·refine run _ A (J.aw ?_ u)
   revert H
   generalize p.1.I ρ=Y
   generalize p.2=v
   cases Y<;>cases v<;>decide
end Go.Proofs.YtpdfmnhgocpkcaaGreat
namespace Go.Proofs.YtpdfmnhgocpkcaaGreat
open Go Go.Proofs.Aw Go.Proofs.Xw
set_option maxRecDepth 100000
structure nP (ρ:aa):Prop where
 l:ρ.len 2<=140737488355327
 k:∀j,0<=ρ.ci 2 1002 j/\ρ.ci 2 1002 j<=140737488355327
 s:∀k j,(ρ.cs 2 k j).size<=140737488355327
 n:∀j,(ρ.cs 194 0 j).size<=140737488355327
def nr:U := .cl 2 1002 (.var 700)
def v5 (k:Nat):U := .cm (.cl 2 k (.var 700))
def muS:U := .op .add .i64 (.op .add .i64 (.op .add .i64 (.op .add .i64 (v5 3) (v5 53)) (v5 54)) (v5 38)) (v5 39)
def vY (e:U):U := .op .add .i64 e (.op .quo .i64 muS (.lit 60))
def muI:X->X
 | .ro _ _ _=>xn 0
 | _=>xi 700
def On (s i n:X):bf:=[(6,i),(3,n)]++((List.range 29).map fun k=>(51-k,X.top))++[(5,.ptr (17,0) [] 0),(22,.top),(21,.top),(20,.top),(19,.top),(16,.top),(15,.top),(14,.top),(13,.top),(12,.top),(11,.top),(10,.top),(9,.top),(4,muI s),(8,.top),(7,.top),(2,.top),(0,s)]
def Ol:av:=[((17,0),iu 2 (.var 700) 0 hc)]
def GU (s:X) (e:U):XS:=⟨On s (xn 0) (.sc (.i .i64 (vY e))),Ol,50⟩
def yG (s:X):XS:=⟨On s (xi 704) (xi 703),Ol,50⟩
def N5 (s:X):XS:=⟨On s (xi 704) (xi 703),Ol,90⟩
noncomputable def tt:Code:=(ef (Tryz.f11.body.getD .skip))[1]?.getD .skip
noncomputable def oL:Code:=(ef (Tryz.f11.body.getD .skip))[0]?.getD .skip
def miE:U := .cm (.cl 194 0 (.op .cY .i64 (.var 704) (.cl 2 2 (.var 700))))
def Cn:U := .op .add .i64 (.var 703) (.op .add .i64 (.lit 1) (.op .quo .i64 miE (.lit 60)))
def mi1:U := .op .add .i64 (.var 704) (.lit 1)
def yF:J:=[(.lt (.var 704) (.lit 0),false),(.lt nr (.var 704),false),(.lt (.lit 140737488355327) nr,false),(.lt nr (.lit 0),false),(.lt (.var 703) (.lit 0),false),(.lt (.lit 100000000000000) (.var 703),false)]
def miG:J:=(.lt (.lit 250) (.var 703),false)::(.lt (.var 704) nr,true)::yF
def Wv:J:=(.lt (.lit 250) (.var 703),true)::yF
def Ww:J:=(.lt (.lit 250) (.var 703),false)::(.lt (.var 704) nr,false)::yF
noncomputable def mD:cr:=⟨bg [] (fun _=>[]),[],[]⟩
noncomputable def N6 (s:X) (B:J):T (XE×XS):=(cz mD.c.ti (eT mD 12) ((mD.c.hV 11).elim [] (·.ms)) 0 [] 1000 tt B (yG s)).map (eu ((yG s).t.map (·.1)))
def Hr (n:Nat) (β:Bind) (S:XS):T (XE×XS)->Bool
 | .ret (.normal,s)=>rL 0 n β [] [] S s
 | _=>false
def yE:Bind:=⟨[(703,Cn),(704,mi1)],[],[],[]⟩
def N4 (e:U):Bind:=⟨[(703,vY e),(704,.lit 0)],[],[],[]⟩
structure JF (s:X) (e:U):Prop where
 go:Hr 703 yE (yG s) (N6 s miG)=true
 iw:dX 0 703 704 [] (0,[]) 0 [] (N5 s) (.exit 2) Wv (N6 s Wv)=true
 qO:dX 0 703 704 [] (0,[]) 0 [] (N5 s) (.exit 2) Ww (N6 s Ww)=true
 cv:rL 0 703 (N4 e) [] [] (yG s) (GU s e)=true
 au:(GU s e).au 703=true
theorem N7:dp Tryz.f11.ntmps tt=true:=by kernel_rfl
noncomputable def tu (s:X) (e:U):bo:=⟨(dF tt).getD 0,0,703,GU s e,gJ,[],.ret (.exit 2,N5 s)⟩
theorem air:JF fX (.var 702):=⟨by kernel_rfl,by kernel_rfl,by kernel_rfl,by kernel_rfl,by kernel_rfl⟩
def oM:X := .ro 79 [iu 2 (.var 700) 0 hc] true
theorem aix:JF oM (.lit 1):=⟨by kernel_rfl,by kernel_rfl,by kernel_rfl,by kernel_rfl,by kernel_rfl⟩
def Om (i n:X):bf:=[(4,i),(3,n),(8,.top),(7,.top),(2,.top),(0,fX)]
def G2:XS:=⟨Om (xn 0) (.sc (.i .i64 (.len 2))),[],5⟩
def oK:XS:=⟨Om (xi 700) (xi 702),[],5⟩
def Oo:XS:=⟨Om (xi 700) (xi 702),[],20⟩
def mu1:U := .op .add .i64 (.var 700) (.lit 1)
def G1:J:=[(.lt (.var 700) (.lit 0),false),(.lt (.len 2) (.var 700),false),(.lt (.lit 140737488355327) (.len 2),false),(.lt (.var 702) (.lit 0),false),(.lt (.lit 200000000000000) (.var 702),false),(.lt nr (.lit 0),false),(.lt (.lit 140737488355327) nr,false)]++[3,38,39,53,54].map fun k=>(.lt (.lit 140737488355327) (v5 k),false)
def muG:J:=(.lt (.var 700) (.len 2),true)::(.lt (.lit 250) (.var 702),false)::G1
def WL:J:=(.lt (.lit 250) (.var 702),true)::G1
def WM:J:=(.lt (.lit 250) (.var 702),false)::(.lt (.var 700) (.len 2),false)::G1
noncomputable def aiF (B:J):T (XE×XS):=(cz mD.c.ti (eT mD 12) ((mD.c.hV 11).elim [] (·.ms)) 0 [tu fX (.var 702)] 1000 oL B oK).map (eu (oK.t.map (·.1)))
noncomputable def WQ (B:J):T (XE×XS):=(cz mD.c.ti (eT mD 12) ((mD.c.hV 11).elim [] (·.ms)) 0 [] 1000 oL B oK).map (eu (oK.t.map (·.1)))
def vZ:Bind:=⟨[(700,mu1),(702,.var 703)],[],[],[]⟩
theorem aiK:Hr 700 vZ oK (aiF muG)=true:=by kernel_rfl
theorem aiI:dX 0 700 700 [] (0,[]) 0 [] Oo (.exit 0) WL (WQ WL)=true:=by kernel_rfl
theorem aiJ:dX 0 700 700 [] (0,[]) 0 [] Oo (.exit 0) WM (WQ WM)=true:=by kernel_rfl
theorem Oq:dp Tryz.f11.ntmps oL=true:=by kernel_rfl
noncomputable def Ct:bo:=⟨(dF oL).getD 0,0,700,G2,gJ,[],.ret (.exit 0,Oo)⟩
def Ok:Bind:=⟨[(700,.lit 0),(702,.len 2)],[],[],[]⟩
theorem aiL:rL 0 700 Ok [] [] oK G2=true:=by kernel_rfl
theorem aiG:G2.au 700=true:=by kernel_rfl
theorem aiE:oK.au 703=true:=by kernel_rfl
noncomputable def Oj (g:Nat):List bo:=if Nat.beq g 11=true then [Ct]else []
noncomputable def Oh:cr:=⟨bg [] Oj,[],[]⟩
def WO:J:=[(.lt (.lit 140737488355327) (.len 2),false)]
def VN:T X->Bool
 | .ret x=>X.beq x (.sc (.b (.lt (.lit 250) (.var 702))))
 | _=>false
noncomputable def Ov (g:Nat):List bo:=if Nat.beq g 11=true then [tu oM (.lit 1)]else []
noncomputable def Ou:cr:=⟨bg [] Ov,[],[]⟩
def VO:T X->Bool
 | .ret x=>X.beq x (.sc (.b (.lt (.lit 250) (.var 703))))
 | _=>false
theorem aiR:VO (aS Ou 11 [oM] yF)=true:=by kernel_rfl
theorem aiO:VN (aS Oh 11 [fX] WO)=true:=by kernel_rfl
end Go.Proofs.YtpdfmnhgocpkcaaGreat
namespace Go.Proofs.YtpdfmnhgocpkcaaGreat
open Go Go.Proofs.Aw Go.Proofs.Xw
set_option maxRecDepth 100000
theorem ZT {a:Int} (h:0<=a):a.tdiv 60=a / 60:=Int.tdiv_eq_ediv_of_nonneg h
theorem WK {ρ:aa} {e:U} (hs:∀k,(ρ.cs 2 k (ρ.i 700).toNat).size<=140737488355327) (h0:0<=e.I ρ) (A:e.I ρ<=250):e.I ρ<=(vY e).I ρ/\(vY e).I ρ<=20000000000000:=by
 have s3:=hs 3;have s4:=hs 53;have awb:=hs 54;have Y7:=hs 38;have Y8:=hs 39
 have q:(vY e).I ρ=IntKind.i64.wrap (e.I ρ+IntKind.i64.wrap ((IntKind.i64.wrap (IntKind.i64.wrap (IntKind.i64.wrap (IntKind.i64.wrap (((ρ.cs 2 3 (ρ.i 700).toNat).size:Int)+((ρ.cs 2 53 (ρ.i 700).toNat).size:Int))+((ρ.cs 2 54 (ρ.i 700).toNat).size:Int))+((ρ.cs 2 38 (ρ.i 700).toNat).size:Int))+((ρ.cs 2 39 (ρ.i 700).toNat).size:Int))).tdiv 60)):=rfl
 rw[q]
 generalize e.I ρ=e at *
 generalize (ρ.cs 2 3 (ρ.i 700).toNat).size=a at *
 generalize (ρ.cs 2 53 (ρ.i 700).toNat).size=b at *
 generalize (ρ.cs 2 54 (ρ.i 700).toNat).size=c at *
 generalize (ρ.cs 2 38 (ρ.i 700).toNat).size=d at *
 generalize (ρ.cs 2 39 (ρ.i 700).toNat).size=f at *
 rw[cp ((a:Int)+b) (by omega) (by omega),cp ((a:Int)+b+c) (by omega) (by omega),cp ((a:Int)+b+c+d) (by omega) (by omega),cp ((a:Int)+b+c+d+f) (by omega) (by omega),ZT (by omega)]
 rw[cp (((a:Int)+b+c+d+f) / 60) (by omega) (by omega),cp _ (by omega) (by omega)]
 omega
theorem aiq {ρ:aa} (hs:∀j,(ρ.cs 194 0 j).size<=140737488355327) (h0:0<=ρ.i 703) (A:ρ.i 703<=250):ρ.i 703+1<=Cn.I ρ/\Cn.I ρ<=20000000000000:=by
 have s3:=hs (ρ.i 704+ρ.ci 2 2 (ρ.i 700).toNat).toNat
 have e:Cn.I ρ=IntKind.i64.wrap (ρ.i 703+IntKind.i64.wrap (1+IntKind.i64.wrap (((ρ.cs 194 0 (ρ.i 704+ρ.ci 2 2 (ρ.i 700).toNat).toNat).size:Int).tdiv 60))):=rfl
 rw[e]
 generalize (ρ.cs 194 0 (ρ.i 704+ρ.ci 2 2 (ρ.i 700).toNat).toNat).size=a at *
 rw[ZT (by omega),cp ((a:Int) / 60) (by omega) (by omega),cp (1+(a:Int) / 60) (by omega) (by omega),cp _ (by omega) (by omega)]
 omega
theorem nP.bC {ρ G:aa} {n:Nat} (ah:aA n ρ G) (hn:195<=n) (h:nP ρ):nP G :=
 ⟨by rw[<-ah.len 2 (by omega)];exact h.l,fun j=>by rw[<-ah.ci 2 (by omega)];exact h.k j,fun k j=>by rw[<-ah.cs 2 (by omega)];exact h.s k j,fun j=>by rw[<-ah.cs 194 (by omega)];exact h.n j⟩
def jQ (ρ:aa):Int:=ρ.ci 2 1002 (ρ.i 700).toNat
structure zY (n:Int) (al ρ:aa):Prop where
 ah:aA 703 al ρ
 k0:0<=ρ.i 704
 k1:ρ.i 704<=jQ al
 n0:n+ρ.i 704<=ρ.i 703
 n1:ρ.i 703<=100000000000000
theorem WN {al ρ:aa} (h:aA 703 al ρ):nr.I ρ=jQ al:=by
 show ρ.ci 2 1002 (ρ.i 700).toNat=_
 rw[<-h.ci 2 (by decide),<-h.i 700 (by decide)];rfl
theorem Wx {n:Int} {al ρ:aa} (hS:nP al) (h0:0<=n) (h:zY n al ρ):J.ok ρ yF:=by
 have q1:=h.k0;have q2:=h.k1;have q3:=h.n0;have q4:=h.n1
 obtain⟨q5,q6⟩:=hS.k (al.i 700).toNat
 have e:=WN h.ah
 have q5:0<=jQ al:=q5
 have q6:jQ al<=140737488355327:=q6
 exact J.aw (cN (show ¬ρ.i 704<0 by omega)) (J.aw (cN (by rw[e];show ¬jQ al<ρ.i 704;omega)) (J.aw (cN (by rw[e];show ¬(140737488355327:Int)<jQ al;omega)) (J.aw (cN (by rw[e];show ¬jQ al<0;omega)) (J.aw (cN (show ¬ρ.i 703<0 by omega)) (J.aw (cN (show ¬(100000000000000:Int)<ρ.i 703 by omega)) (J.bq ρ))))))
theorem Xz {P:Program} {ρ:aa} {N:Nat} {body:Code} {ti:Nat->Option Go.Proofs.Xw.TI} {call:bI} {ms:List Nat} {bP:List bo} {fuel n:Nat} {S nQ:XS} {B:J} {ks:List Nat} {β:Bind} (hm:P.follows .mixedOrders=true) (bb:eO.ok P ti) (aO:dk P ρ call) (lw:a5 P ρ N bP body) (d8:dp N body=true) (u:J.ok ρ B)
  (h:Hr n β nQ ((cz ti call ms 0 bP fuel body B S).map (eu ks))=true):ei P N body 0 S nQ ρ (β.cI [] ρ):=by
 generalize hr:(cz ti call ms 0 bP fuel body B S).map (eu ks)=t at h
 unfold Hr at h
 split at h
 ·rename_i s
  exact arA hm bb aO lw d8 u rfl (s:=s) (by rw[hr];rfl) h
 ·cases h
theorem Wy {s:X} {e:U} (ao:JF s e) {al:aa} (hS:nP al) (h0:0<=e.I al) (E:e.I al<=250):∃ar,aA 703 al ar/\(zY (e.I al) al ar/\(250<ar.i 703\/jQ al<=ar.i 704))/\b8 Tryz.prog ar Tryz.f11.ntmps tt (tu s e):=by
 have l5:aA 703 al ((N4 e).cI [] al):=Bind.uI (by kernel_rfl) (by kernel_rfl) _
 have aO:∀G,dk Tryz.prog G (eT mD 12):=fun G=>ft (c:=mD) (lb (List.forall_mem_nil _)) (List.forall_mem_nil _) 12
 obtain⟨q5,q6⟩:=hS.k (al.i 700).toNat
 have q5:0<=jQ al:=q5
 have q6:jQ al<=140737488355327:=q6
 refine rz (P:=Tryz.prog) (N:=Tryz.f11.ntmps) (body:=tt) (k0:=0) (n:=703) (S0:=GU s e) (ρ:=al) ao.au (fun _=>yG s) (tu s e) ⟨rfl,rfl,rfl⟩ (fun _ G=>zY (e.I al) al G) (fun G=>zY (e.I al) al G/\(250<G.i 703\/jQ al<=G.i 704)) (fun G=>(jQ al-G.i 704).toNat) (fun i G hR => ?_)
  ⟨0,(N4 e).cI [] al,l5,⟨l5,Int.le_refl _,q5,?_,?_⟩,fun ac _ bM=>CK bM ao.cv _⟩
 ·have q1:=hR.k0;have q2:=hR.k1;have q3:=hR.n0;have q4:=hR.n1
  have km:=Wx hS h0 hR
  have ek:=WN hR.ah
  by_cases hn:250<G.i 703
  ·left
   refine⟨⟨hR,.inl hn⟩,?_⟩
   rcases ij mixed dj (aO G) (a5.nil _ _ _ _) N7 (J.aw (oE (a := .lit 250) (b := .var 703) hn) km) ao.iw with h | ⟨j,C,_,A,_⟩
   ·exact h
   ·simp at A
  ·by_cases u:G.i 704<jQ al
   ·right
    have hs:=hS.bC hR.ah (by decide)
    obtain⟨b1,b2⟩:=aiq hs.n (by omega) (by omega)
    have fK:=Xz (β:=yE) (n:=703) (nQ:=yG s) mixed dj (aO G) (a5.nil _ _ _ _) N7 (J.aw (cN (a := .lit 250) (b := .var 703) hn) (J.aw (oE (by rw[ek];exact u)) km)) ao.go
    have ah:aA 703 G (yE.cI [] G):=Bind.uI (by kernel_rfl) (by kernel_rfl) _
    have e3:(yE.cI [] G).i 703=Cn.I G:=rfl
    have e4:(yE.cI [] G).i 704=G.i 704+1:=(show(yE.cI [] G).i 704=IntKind.i64.wrap (G.i 704+1)from rfl).trans (cp _ (by omega) (by omega))
    exact⟨0,_,fK,⟨hR.ah.trans ah,by omega,by omega,by omega,by omega⟩,by omega,ah⟩
   ·left
    refine⟨⟨hR,.inr (by omega)⟩,?_⟩
    rcases ij mixed dj (aO G) (a5.nil _ _ _ _) N7 (J.aw (cN (a := .lit 250) (b := .var 703) hn) (J.aw (cN (by rw[ek];exact u)) km)) ao.qO with h | ⟨j,C,_,A,_⟩
    ·exact h
    ·simp at A
 ·have:=(WK (ρ:=al) (fun k=>hS.s k _) h0 E).1
  show e.I al+0<=(vY e).I al
  omega
 ·have:=(WK (ρ:=al) (fun k=>hS.s k _) h0 E).2
  show(vY e).I al<=_
  omega
structure zZ (al ρ:aa):Prop where
 ah:aA 700 al ρ
 i0:0<=ρ.i 700
 i1:ρ.i 700<=al.len 2
 n0:(al.len 2:Int)<=ρ.i 702
 n1:ρ.i 702<=200000000000000
 kk:ρ.i 702<=250->∀j:Nat,(j:Int)<ρ.i 700->al.ci 2 1002 j<=250
theorem Oi {al ρ:aa} (hS:nP al) (h:zZ al ρ):J.ok ρ G1:=by
 have q1:=h.i0;have q2:=h.i1;have q3:=h.n0;have q4:=h.n1
 have hs:=hS.bC h.ah (by decide)
 have q5:=hs.l
 have l2:ρ.len 2=al.len 2:=(h.ah.len 2 (by decide)).symm
 obtain⟨q6,q7⟩:=hs.k (ρ.i 700).toNat
 have q6:0<=nr.I ρ:=q6
 have q7:nr.I ρ<=140737488355327:=q7
 have fs:∀k,¬(U.lit 140737488355327).I ρ<(v5 k).I ρ:=fun k=>by
  have:=hs.s k (ρ.i 700).toNat
  show ¬(140737488355327:Int)<((ρ.cs 2 k (ρ.i 700).toNat).size:Int)
  omega
 exact J.aw (cN (show ¬ρ.i 700<0 by omega)) (J.aw (cN (show ¬(ρ.len 2:Int)<ρ.i 700 by omega)) (J.aw (cN (show ¬(140737488355327:Int)<ρ.len 2 by omega)) (J.aw (cN (show ¬ρ.i 702<0 by omega)) (J.aw (cN (show ¬(200000000000000:Int)<ρ.i 702 by omega)) (J.aw (cN (show ¬nr.I ρ<0 by omega)) (J.aw (cN (show ¬(140737488355327:Int)<nr.I ρ by omega))
  (J.aw (cN (fs 3)) (J.aw (cN (fs 38)) (J.aw (cN (fs 39)) (J.aw (cN (fs 53)) (J.aw (cN (fs 54)) (J.bq ρ))))))))))))
theorem aiM {al:aa} (hS:nP al):∃ar,aA 700 al ar/\(zZ al ar/\(250<ar.i 702\/(al.len 2:Int)<=ar.i 700))/\b8 Tryz.prog ar Tryz.f11.ntmps oL Ct:=by
 have l5:aA 700 al (Ok.cI [] al):=Bind.uI (by kernel_rfl) (by kernel_rfl) _
 have aO:∀G,dk Tryz.prog G (eT mD 12):=fun G=>ft (c:=mD) (lb (List.forall_mem_nil _)) (List.forall_mem_nil _) 12
 have O:=hS.l
 refine rz (P:=Tryz.prog) (N:=Tryz.f11.ntmps) (body:=oL) (k0:=0) (n:=700) (S0:=G2) (ρ:=al) aiG (fun _=>oK) Ct ⟨rfl,rfl,rfl⟩ (fun _ G=>zZ al G) (fun G=>zZ al G/\(250<G.i 702\/(al.len 2:Int)<=G.i 700)) (fun G=>((al.len 2:Int)-G.i 700).toNat) (fun i G hR => ?_)
  ⟨0,Ok.cI [] al,l5,⟨l5,Int.le_refl _,show(0:Int)<=al.len 2 by omega,Int.le_refl _,show(al.len 2:Int)<=_ by omega,fun _ j M => ?_⟩,fun ac _ bM=>CK bM aiL _⟩
 ·have q1:=hR.i0;have q2:=hR.i1;have q3:=hR.n0;have q4:=hR.n1
  have l2:G.len 2=al.len 2:=(hR.ah.len 2 (by decide)).symm
  have hs:=hS.bC hR.ah (by decide)
  by_cases hn:250<G.i 702
  ·left
   refine⟨⟨hR,.inl hn⟩,?_⟩
   rcases ij mixed dj (aO G) (a5.nil _ _ _ _) Oq (J.aw (oE (a := .lit 250) (b := .var 702) hn) (Oi hS hR)) aiI with h | ⟨j,C,_,A,_⟩
   ·exact h
   ·simp at A
  ·by_cases u:G.i 700<al.len 2
   ·right
    obtain⟨bT,bp,⟨hI,F⟩,hL⟩:=Wy air hs (show 0<=G.i 702 by omega) (show G.i 702<=250 by omega)
    have hI:zY (G.i 702) G bT:=hI
    have kD:=hs.bC bp (by decide)
    have xT:zZ al bT:=⟨hR.ah.trans (bp.le (by decide)),by rw[<-bp.i 700 (by decide)];exact q1,by rw[<-bp.i 700 (by decide)];exact q2,by rw[<-bp.i 702 (by decide)];exact q3,by rw[<-bp.i 702 (by decide)];exact q4,by rw[<-bp.i 702 (by decide),<-bp.i 700 (by decide)];exact hR.kk⟩
    have l1:bT.len 2=al.len 2:=(xT.ah.len 2 (by decide)).symm
    have sH:bT.i 700=G.i 700:=(bp.i 700 (by decide)).symm
    have e72:bT.i 702=G.i 702:=(bp.i 702 (by decide)).symm
    have vo:a5 Tryz.prog bT Tryz.f11.ntmps [tu fX (.var 702)] oL:=lE (c:=oL) [0] (by kernel_rfl) (List.forall_mem_cons.2 ⟨lD (L:=tu fX (.var 702)) (c:=tt) (by kernel_rfl) hL,List.forall_mem_nil _⟩)
    have fK:=Xz (β:=vZ) (n:=700) (nQ:=oK) mixed dj (aO bT) vo Oq (J.aw (oE (a := .var 700) (b := .len 2) (show bT.i 700<(bT.len 2:Int)by omega)) (J.aw (cN (a := .lit 250) (b := .var 702) (show ¬(250:Int)<bT.i 702 by omega)) (Oi hS xT))) aiK
    have ah:aA 700 bT (vZ.cI [] bT):=Bind.uI (by kernel_rfl) (by kernel_rfl) _
    have e3:(vZ.cI [] bT).i 702=bT.i 703:=rfl
    have e4:(vZ.cI [] bT).i 700=bT.i 700+1:=(show(vZ.cI [] bT).i 700=IntKind.i64.wrap (bT.i 700+1)from rfl).trans (cp _ (by omega) (by omega))
    have p1:=hI.k0;have p2:=hI.k1;have GE:=hI.n0;have awa:=hI.n1
    have agG:ei Tryz.prog Tryz.f11.ntmps oL 0 oK oK G (vZ.cI [] bT):=fun ac hE bM=>by
     rw[XS.aP bp _ aiE]
     exact fK ac hE bM
    refine⟨0,_,agG,⟨xT.ah.trans ah,by omega,by omega,by omega,by omega,fun h j M => ?_⟩,by omega,(bp.le (by decide)).trans ah⟩
    by_cases gE:(j:Int)<G.i 700
    ·exact hR.kk (by omega) j gE
    ·have iV:jQ G=al.ci 2 1002 j:=by
      show G.ci 2 1002 (G.i 700).toNat=_
      rw[<-hR.ah.ci 2 (by decide),show(G.i 700).toNat=j by omega]
     rcases F with F | F<;>omega
   ·left
    refine⟨⟨hR,.inr (by omega)⟩,?_⟩
    rcases ij mixed dj (aO G) (a5.nil _ _ _ _) Oq (J.aw (cN (a := .lit 250) (b := .var 702) hn) (J.aw (cN (a := .var 700) (b := .len 2) (show ¬G.i 700<(G.len 2:Int)by omega)) (Oi hS hR))) aiJ with h | ⟨j,C,_,A,_⟩
    ·exact h
    ·simp at A
 ·have M:(j:Int)<0:=M
  omega
theorem aiN {ρ:aa} (h:b8 Tryz.prog ρ Tryz.f11.ntmps oL Ct):∀g i,eS g gA=some i->a5 Tryz.prog ρ i.ntmps (Oj g) i.body:=fun g i hi=>by
 unfold Oj
 split
 ·rename_i hf
  have hf:=Nat.eq_of_beq_eq_true hf
  subst hf
  have g0:j6 Tryz.prog 11 i:=oc (11,i) (k8 _ _ (k7 hi))
  refine pN g0 Tryz.func11 ?_
  exact lE (c:=Tryz.f11.body.getD .skip) [0] (by kernel_rfl) (List.forall_mem_cons.2 ⟨lD (L:=Ct) (c:=oL) (by kernel_rfl) h,List.forall_mem_nil _⟩)
 ·exact a5.nil _ _ _ _
theorem aiQ {ρ:aa} (h:b8 Tryz.prog ρ Tryz.f11.ntmps tt (tu oM (.lit 1))):∀g i,eS g gA=some i->a5 Tryz.prog ρ i.ntmps (Ov g) i.body:=fun g i hi=>by
 unfold Ov
 split
 ·rename_i hf
  have hf:=Nat.eq_of_beq_eq_true hf
  subst hf
  have g0:j6 Tryz.prog 11 i:=oc (11,i) (k8 _ _ (k7 hi))
  refine pN g0 Tryz.func11 ?_
  exact lE (c:=Tryz.f11.body.getD .skip) [1] (by kernel_rfl) (List.forall_mem_cons.2 ⟨lD (L:=tu oM (.lit 1)) (c:=tt) (by kernel_rfl) h,List.forall_mem_nil _⟩)
 ·exact a5.nil _ _ _ _
theorem aiP {ρ:aa} (hS:nP ρ):∃b:Bool,Cy 11 (X.af ρ [oM]) (.sc (.bool b))/\(b=false->jQ ρ<=250):=by
 obtain⟨ar,ah,⟨hI,F⟩,hL⟩:=Wy aix hS (show(0:Int)<=1 by decide) (show(1:Int)<=250 by decide)
 have hr:=aiR
 unfold VO at hr
 split at hr
 ·rename_i x bJ
  have:=X.beq_eq _ _ hr
  subst this
  have g:=eG (c:=Ou) (jz (List.forall_mem_nil _) (aiQ hL)) (List.forall_mem_nil _) (Wx hS (show(0:Int)<=1 by decide) hI) (show(aS Ou 11 [oM] yF).aq ar=some _ by rw[bJ];rfl)
  have e1:X.af ar [oM]=X.af ρ [oM]:=(X.fI ah [oM] (by kernel_rfl)).symm
  rw[e1]at g
  refine⟨decide (250<ar.i 703),g,fun h => ?_⟩
  have h:=of_decide_eq_false h
  have rx:1+ar.i 704<=ar.i 703:=hI.n0
  rcases F with F | F<;>omega
 ·cases hr
theorem aiH {ρ:aa} (hS:nP ρ):∃b:Bool,Cy 11 (X.af ρ [fX]) (.sc (.bool b))/\(b=false->ρ.len 2<=250/\∀j,j<ρ.len 2->ρ.ci 2 1002 j<=250):=by
 obtain⟨ar,ah,⟨hI,F⟩,hL⟩:=aiM hS
 have hr:=aiO
 unfold VN at hr
 split at hr
 ·rename_i x bJ
  have:=X.beq_eq _ _ hr
  subst this
  have hs:=hS.bC ah (by decide)
  have O:=hs.l
  have g:=eG (c:=Oh) (jz (List.forall_mem_nil _) (aiN hL)) (List.forall_mem_nil _) (J.aw (cN (a := .lit 140737488355327) (b := .len 2) (show ¬(140737488355327:Int)<ar.len 2 by omega)) (J.bq ar)) (show(aS Oh 11 [fX] WO).aq ar=some _ by rw[bJ];rfl)
  have e1:X.af ar [fX]=X.af ρ [fX]:=(X.fI ah [fX] (by kernel_rfl)).symm
  rw[e1]at g
  refine⟨decide (250<ar.i 702),g,fun h => ?_⟩
  have h:=of_decide_eq_false h
  have rx:=hI.n0
  refine⟨by omega,fun j M=>hI.kk (by omega) j ?_⟩
  rcases F with F | F<;>omega
 ·cases hr
end Go.Proofs.YtpdfmnhgocpkcaaGreat
