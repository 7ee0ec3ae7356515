/- Parts of the proof, one behind the other. -/
import Derived.Test.YtpdfmnhgocpkcaaGreatTM9
import Derived.Test.YtpdfmnhgocpkcaaGreatTM14
import Derived.Test.YtpdfmnhgocpkcaaGreatTM3
import Derived.Test.YtpdfmnhgocpkcaaGreatTM7
import Derived.Test.YtpdfmnhgocpkcaaGreatTM8
import Derived.Test.YtpdfmnhgocpkcaaGreatTM4
import Derived.Test.YtpdfmnhgocpkcaaGreatTM6
namespace Go.Proofs.YtpdfmnhgocpkcaaGreat
open Go Go.Proofs.Aw Go.Proofs.Xw Go.Proofs.Sr
set_option maxRecDepth 100000
theorem Z4 {J:Rho} (h:preOf.den J=true):(J.s 0).size<9223372036854775808/\1<=J.i 1/\J.i 1<=3:=by
 obtain⟨h1,h2⟩:=ib2 h
 have h1:¬(1000000:Int)<(J.s 0).size:=ltN h1
 have h2:=QZ h2
 exact⟨by omega,h2.1,h2.2⟩
theorem cf4 {J:Rho} (h:preOf.den J=true):∃g,Ufs 0 (aOf.den J) g:=by
 obtain⟨h1,h2,h3⟩:=Z4 h
 have b:=by7 (J.i 1) (pt (J.s 0)) ⟨h2,h3⟩
 refine⟨fun _=>MC (J.i 1) (pt (J.s 0)),⟨fun f hf n hp => ?_,fun j => ?_,trivial⟩⟩
 ·simp only[zW,List.mem_cons,List.not_mem_nil,or_false]at hf
  rcases hf with rfl | rfl
  ·exact(bP7 _ h1 _ ⟨h2,h3⟩).2 n hp
  ·exact(bO4 _ h1 _ ⟨h2,h3⟩).2 n hp
 ·simp only[MK];omega
theorem Zz (f:Nat) (hf:f∈zW 0):iF Tryz.prog (sOf f):=⟨qy f (by simp only[zW,List.mem_cons,List.not_mem_nil,or_false]at hf;rcases hf with rfl | rfl<;>decide),fun J n h hp=>by
 obtain⟨g,hg⟩:=cf4 hp
 exact(lQ hg).cy f hf n h⟩
theorem JL:∀s∈JM,iF Tryz.prog s:=by
 intro s hs
 simp only[JM,List.map_cons,List.map_nil,List.mem_append,List.mem_cons,List.not_mem_nil,or_false]at hs
 rcases hs with(rfl | rfl | rfl | rfl | rfl | rfl | rfl | rfl | rfl | rfl | rfl | rfl | rfl | rfl | rfl | rfl | rfl | rfl | rfl | rfl) | (rfl | rfl | rfl | rfl) | (rfl | rfl | rfl | rfl)
 ·exact Zz 33 (by decide)
 ·exact Zz 104 (by decide)
 ·exact JW 97 (by decide)
 ·exact JW 105 (by decide)
 ·exact Zx 28 (by decide)
 ·exact Zx 81 (by decide)
 ·exact Zy 24 (by decide)
 ·exact Zy 114 (by decide)
 ·exact UH _ List.mem_cons_self
 ·exact UH _ (List.mem_cons_of_mem _ List.mem_cons_self)
 ·exact ZA 36 (by decide)
 ·exact ZA 108 (by decide)
 ·exact ZC 34 (by decide)
 ·exact ZC 110 (by decide)
 ·exact JX 35 (by decide)
 ·exact JX 135 (by decide)
 ·exact ZE 27 (by decide)
 ·exact ZE 77 (by decide)
 ·exact ZB 94 (by decide)
 ·exact ZB 107 (by decide)
 ·exact uq 92 1 (by decide) (by omega)
 ·exact uq 92 2 (by decide) (by omega)
 ·exact uq 92 3 (by decide) (by omega)
 ·exact uq 92 4 (by decide) (by omega)
 ·exact uq 109 1 (by decide) (by omega)
 ·exact uq 109 2 (by decide) (by omega)
 ·exact uq 109 3 (by decide) (by omega)
 ·exact uq 109 4 (by decide) (by omega)
end Go.Proofs.YtpdfmnhgocpkcaaGreat
namespace Go.Proofs.YtpdfmnhgocpkcaaGreat
open Go Go.Proofs.Aw Go.Proofs.Xw
set_option maxRecDepth 100000
def hfA:List Nat:=[48,124,30050,30052,30061,30122,30116,20051,20074,12,13,18,47,98,130,16,17,40,26,43,21,44,95,115,88,76,10073,10089,10090,10057,10019,10032,10020,10022,10025,10106,10080,10119,10118,10121,10103]
noncomputable def abC:Cfg2:=⟨bU [] (fun _=>[]),JM,hfA⟩
theorem ap7:tY (aU abC 10 [] []) (.ret (xl true))=true:=by kernel_rfl
theorem aM2:Cy 10 [] (.sc (.bool true)):=by
 have e:=mG ap7
 let J:Rho:=⟨fun _=>0,fun _=>false,fun _=>⟨#[]⟩,fun _=>0,fun _ _ _=>0,fun _ _ _=>false,fun _ _ _=>⟨#[]⟩,UB⟩
 exact dM (J:=J) (c:=abC) (lG (List.forall_mem_nil _)) JL (Facts.ok_nil J) (show(aU abC 10 [] []).sel J=some (xl true)by rw[e];rfl)
end Go.Proofs.YtpdfmnhgocpkcaaGreat
namespace Go.Proofs.YtpdfmnhgocpkcaaGreat
open Go Go.Proofs.Aw Go.Proofs.Xw
set_option maxRecDepth 100000
theorem lY (J:Rho):Facts.ok J []:=Facts.ok_nil J
theorem aF8 {J:Rho} {a b:IE} (h:(BE.not (.lt a b)).den J=true):b.den J<=a.den J:=by have:=ltN h;omega
theorem ltD {J:Rho} {a b:IE} (h:(BE.lt a b).den J=true):a.den J<b.den J:=of_decide_eq_true h
theorem gF {J:Rho} {a b:IE} (h:b.den J<=a.den J) {Φ:Facts} (hk:Facts.ok J Φ):Facts.ok J ((.lt a b,false)::Φ):=Facts.ok_cons (nH (by omega)) hk
theorem gT' {J:Rho} {a b:IE} (h:a.den J<b.den J) {Φ:Facts} (hk:Facts.ok J Φ):Facts.ok J ((.lt a b,true)::Φ):=Facts.ok_cons (UI h) hk
noncomputable def rM (J:Rho):Rho:={ J with i:=fun k=>(gM k).den J,b:=fun _=>(bM 24).den J }
theorem a00 (J:Rho):(Jq 0).den (rM J)=alM.den J:=rfl
theorem cha {J:Rho} (h:(BE.eq (.uf 1 0 alM) (.lit 1)).den J=true):1<=(gM 1).den J/\(gM 1).den J<=4/\∀k:Nat,(k:Int)<(gM 1).den J->0<=(gM (2+2*k)).den J/\(gM (2+2*k)).den J<=3:=by
 have h:=Ve h
 rw[<-a00]at h
 obtain⟨g,hg⟩:=Y0 (rM J)
 obtain⟨b1,b2,b3⟩:=(lQ hg).pr h
 refine⟨b1,b2,fun k hk => ?_⟩
 have h2:(gM 1).den J<=4:=b2
 have:=b3 k hk
 have q:vI ((Jq 0).den (rM J)) (2+2*k)=(gM (2+2*k)).den J:=by
  rcases(show k=0\/k=1\/k=2\/k=3 by omega)with rfl | rfl | rfl | rfl<;>rfl
 rw[q]at this
 exact this
theorem bY1 (J:Rho) (h:(hyC alM gM).1.den J=true):Facts.ok J (hyC alM gM).2:=by
 obtain⟨h1,h2,h3⟩:=cha h
 have h4:=h3 0 (by show(0:Int)<_;omega)
 exact gF (show(IE.lit 1).den J<=_ from h1) (gF (show _<=(IE.lit 4).den J from h2) (gF (show(IE.lit 0).den J<=_ from h4.1) (gF (show _<=(IE.lit 3).den J from h4.2) (lY J))))
theorem eqD {J:Rho} {a:IE} {n:Int} (h:(BE.eq a (.lit n)).den J=true):a.den J=n:=by
 have h:(a.den J==n)=true:=h
 exact eq_of_beq h
theorem U1 (J:Rho) (n:Nat) (h:(hyN alM gM n).1.den J=true):Facts.ok J (hyN alM gM n).2:=by
 obtain⟨ha,hb⟩:=ib2 h
 obtain⟨_,_,h3⟩:=cha ha
 have hn:=eqD hb
 intro p hp
 obtain⟨k,hk,hp⟩:=List.mem_flatMap.1 hp
 have hk:=List.mem_range.1 hk
 have h4:=h3 k (by omega)
 rcases List.mem_cons.1 hp with rfl | hp
 ·exact nH (by have:=h4.1;show ¬(gM (2+2*k)).den J<0;omega)
 ·rcases List.mem_cons.1 hp with rfl | hp
  ·exact nH (by have:=h4.2;show ¬3<(gM (2+2*k)).den J;omega)
  ·cases hp
theorem Uz {n:Nat} (hn:n=1\/n=2\/n=3\/n=4) (vs:List Value) (w:Nat->Int) (hv:vs=(CG 0 (2*n+2) .nil).den { (⟨fun _=>0,fun _=>false,fun _=>⟨#[]⟩,fun _=>0,fun _ _ _=>0,fun _ _ _=>false,fun _ _ _=>⟨#[]⟩,UB⟩:Rho)with i:=w }) (hb:∀k,k<2*n+2 -> -16384<=w k/\w k<=16384):UF 8 vs 0<=(n:Int)-1:=by
 obtain⟨g,hg⟩:=bs1 (J:={ (⟨fun _=>0,fun _=>false,fun _=>⟨#[]⟩,fun _=>0,fun _ _ _=>0,fun _ _ _=>false,fun _ _ _=>⟨#[]⟩,UB⟩:Rho)with i:=w }) hn hb
 have h:=(lQ hg).pr
 rw[<-hv]at h
 obtain⟨h,_⟩:=h
 have hl:vs.length=2*n+2:=by rw[hv];exact LV _ hn
 rw[hl]at h
 omega
theorem tV (rng:IE) {n:Nat} (hn:n=1\/n=2\/n=3\/n=4) (J:Rho):Facts.ok J (XO rng n).2:=by
 refine gF ?_ (lY J)
 show(BU rng n).den J<=(n:Int)-1
 have b4:∀vs j,-16384<=UF 4 vs j/\UF 4 vs j<=16384:=fun vs j=>Jr 4 vs j
 have b5:∀vs j,-16384<=UF 5 vs j/\UF 5 vs j<=16384:=fun vs j=>Jr 5 vs j
 let hA:AL := .i (.var 401) (.i (.var 4) .nil)
 let pA:Nat->AL:=fun k => .i (.var 401) (.i rng (.i (gM (2+2*k)) .nil))
 let w:Nat->Int:=fun k=>if k=0 then UF 5 (hA.den J) 0 else if k=1 then UF 5 (hA.den J) 1 else UF 4 ((pA (k / 2-1)).den J) (k % 2)
 refine Uz hn _ w ?_ fun k _ => ?_
 ·rcases hn with rfl | rfl | rfl | rfl<;>rfl
 ·show -16384<=(if k=0 then UF 5 (hA.den J) 0 else if k=1 then UF 5 (hA.den J) 1 else UF 4 ((pA (k / 2-1)).den J) (k % 2))/\(if k=0 then UF 5 (hA.den J) 0 else if k=1 then UF 5 (hA.den J) 1 else UF 4 ((pA (k / 2-1)).den J) (k % 2))<=16384
  split
  ·exact b5 _ _
  ·split
   ·exact b5 _ _
   ·exact b4 _ _
theorem bX7 (J:Rho) (h:hyV.1.den J=true):Facts.ok J hyV.2:=by
 refine gF ?_ (lY J)
 have h:((vaE.den J).toList==(⟨#[]⟩:ByteArray).toList)=true:=h
 have h:=eq_of_beq h
 show((vaE.den J).size:Int)<=32
 generalize vaE.den J=s at h
 have h2:s.data.toList=[]:=by rw[ByteArray.toList_eq,ByteArray.toList_eq]at h;exact h
 have h3:s.size=0:=by
  show s.data.size=0
  rw[<-Array.length_toList,h2];rfl
 omega
theorem upD (J:Rho) (k:Nat):(up k).den J=IntKind.i64.wrap (J.i k+1):=rfl
theorem bX8 (J:Rho) (h:hyM.1.den J=true):Facts.ok J hyM.2:=by
 obtain⟨h1,h2⟩:=ib2 h
 obtain⟨h2,h3⟩:=ib2 h2
 obtain⟨h2,h4⟩:=ib2 h2
 have a2:J.i 431<J.i 1:=ltD h2
 have a4:0<=J.i 431:=aF8 h4
 have a3:J.i 1<=3:=aF8 h3
 have e:(up 431).den J=J.i 431+1:=by rw[upD];exact aP _ (by omega) (by omega)
 have a1:¬(up 431).den J=J.i 1:=fun hh=>by
  have h1:(!((up 431).den J==J.i 1))=true:=h1
  rw[hh]at h1;simp at h1
 have em:(fC (.var 431) (.lit 1)).den J=J.i 431+1:=by rw[bK];rfl
 exact gT' (by rw[e];show _<J.i 1;omega) (gF (by rw[e];show _<=(2:Int);omega) (gT' (by rw[em];show _<J.i 1;omega) (gF (by rw[em];show _<=(2:Int);omega) (gF (by rw[em];show(0:Int)<=_;omega) (lY J)))))
theorem bX9 (J:Rho) (h:hyL.1.den J=true):Facts.ok J hyL.2:=by
 have h:((up 431).den J==J.i 1)=true:=h
 exact gF (by rw[eq_of_beq h];exact Int.le_refl _) (lY J)
theorem bY0 (J:Rho) (h:hyD.1.den J=true):Facts.ok J hyD.2:=by
 obtain⟨h1,h2⟩:=ib2 h
 have a1:(cA 4).den J<J.i 0:=ltD h1
 have a2:J.i 0<=3:=aF8 h2
 exact gF (by show(cA 4).den J<=2;omega) (lY J)
theorem bh6 (J:Rho) (h:G6.1.den J=true):Facts.ok J G6.2:=by
 obtain⟨h1,h2⟩:=ib2 h
 have a2:1<=J.i 443:=aF8 h2
 have a1:¬J.i 443=1:=fun hh=>by
  have h1:(!(J.i 443==1))=true:=h1
  rw[hh]at h1;simp at h1
 exact gF (by show(2:Int)<=J.i 443;omega) (lY J)
theorem bg5:GG bH:=by
 intro p hp J h
 simp only[bH,hyps,List.cons_append,List.nil_append,List.mem_cons,List.not_mem_nil,or_false]at hp
 rcases hp with rfl | rfl | rfl | rfl | rfl | rfl | rfl | rfl | rfl | rfl | rfl | rfl | rfl | rfl | rfl | rfl | rfl | rfl | rfl | rfl | rfl | rfl
 ·exact bX7 J h
 ·exact bY1 J h
 ·exact U1 J 1 h
 ·exact U1 J 2 h
 ·exact U1 J 3 h
 ·exact U1 J 4 h
 ·exact bX8 J h
 ·exact bX9 J h
 ·exact tV _ (by omega) J
 ·exact tV _ (by omega) J
 ·exact tV _ (by omega) J
 ·exact tV _ (by omega) J
 ·exact tV _ (by omega) J
 ·exact tV _ (by omega) J
 ·exact tV _ (by omega) J
 ·exact tV _ (by omega) J
 ·exact bY0 J h
 ·exact tV _ (by omega) J
 ·exact tV _ (by omega) J
 ·exact tV _ (by omega) J
 ·exact tV _ (by omega) J
 ·exact bh6 J h
end Go.Proofs.YtpdfmnhgocpkcaaGreat
namespace Go.Proofs.YtpdfmnhgocpkcaaGreat
open Go Go.Proofs.Aw Go.Proofs.Xw
set_option maxRecDepth 100000
def MB (f:Bool):X := .rl 1 (.len 0) (.var 0 [.s]) f
def wdT (i:X) (a b:Bool):ig:=[(5,i),(10,.top),(9,.top),(8,.top),(7,.top),(6,.top),(4,.top),(0,MB a),(1,MB b)]
def br1 (a b:Bool):XS:=⟨wdT (xn 0) a b,[],7⟩
def wdS (a b:Bool):XS:=⟨wdT (xi 10) a b,[],7⟩
noncomputable def wdB:Code:=(dw (Tryz.f41.body.getD .skip))[0]?.getD .skip
def wdF:Facts:=[(.lt (.var 10) (.lit 0),false),(.lt (.len 0) (.var 10),false),(.lt (.lit 4611686018427387904) (.len 0),false)]
def wdC (a b:Bool):List Cls:=[⟨wdS a b,wdF,[]⟩]
noncomputable def br2 (a b:Bool) (Φ:Facts):T (XE×XS):=(dG (bU [] (fun _=>[])).ti (iK ⟨bU [] (fun _=>[]),[],[]⟩ 12) [] 0 [] 1000 wdB Φ (wdS a b)).map (yC ((wdT (xi 10) a b).map (·.1)))
def aN9 (a b:Bool):XS:=⟨wdT (xi 10) a b,[],20⟩
def w1q:IE := .op .add .i64 (.var 10) (.lit 1)
def wdG:Facts:=(.lt (.var 10) (.len 0),true)::(.lt w1q (.lit 0),false)::(.lt (.len 0) w1q,false)::wdF
def wdE:Facts:=(.lt (.var 10) (.len 0),false)::wdF
noncomputable def wdO (a b:Bool) (Φ:Facts):Bool:=jV 0 10 10 [] (0,[]) 0 (wdC a b) (aN9 a b) (.exit 0) Φ (br2 a b Φ)
noncomputable def BH (p:Bool->Bool->Bool):Bool:=p false false&&(p false true&&(p true false&&p true true))
theorem qH {p:Bool->Bool->Bool} (h:BH p=true):∀a b,p a b=true:=by
 simp only[BH,Bool.and_eq_true]at h
 intro a b
 cases a<;>cases b<;>simp_all
theorem br0:BH (fun a b=>wdO a b wdG&&wdO a b wdE)=true:=by kernel_rfl
noncomputable def wdL (a b:Bool):LoopX:=⟨(bW wdB).getD 0,0,10,br1 a b,noB,[],.ret (.exit 0,aN9 a b)⟩
noncomputable def aU1 (a b:Bool) (f:Nat):List LoopX:=if Nat.beq f 41=true then [wdL a b]else []
noncomputable def YQ (a b:Bool):Cfg2:=⟨bU [] (aU1 a b),[],[]⟩
theorem TB:fD Tryz.f41.ntmps wdB=true:=by kernel_rfl
structure WdI (m:Nat) (J:Rho):Prop where
 n:J.len 0=m
 b:m<=4611686018427387904
 i0:0<=J.i 10
 i1:J.i 10<=m
theorem Ac {m:Nat} {J:Rho} (h:WdI m J):Facts.ok J wdF:=by
 have q1:=h.n;have q2:=h.b;have q3:=h.i0;have q4:=h.i1
 refine Facts.ok_cons (decide_eq_false (by show ¬J.i 10<0;omega)) (Facts.ok_cons (decide_eq_false (by show ¬(J.len 0:Int)<J.i 10;omega)) (Facts.ok_cons (decide_eq_false (by show ¬(4611686018427387904:Int)<J.len 0;omega)) (Facts.ok_nil J)))
theorem au0 (a b:Bool) {m:Nat} {J:Rho} (hn:J.len 0=m) (hb:m<=4611686018427387904):∃Jf,Agree 10 J Jf/\WdI m Jf/\LoopOk Tryz.prog Jf Tryz.f41.ntmps wdB (wdL a b):=by
 have hc:∀J',CfgOk Tryz.prog J' (bU [] (fun _=>[])):=fun J'=>lG (List.forall_mem_nil _)
 have hrun:=qH br0 a b
 rw[Bool.and_eq_true]at hrun
 have key:=xI (P:=Tryz.prog) (N:=Tryz.f41.ntmps) (body:=wdB) (k0:=0) (n:=10) (S0:=br1 a b) (J:=J) (by cases a<;>cases b<;>kernel_rfl) (fun _=>wdS a b) (fun _=>wdL a b) (fun _=>⟨rfl,rfl,rfl⟩) (fun i J'=>i=0/\WdI m J') (fun J'=>m-(J'.i 10).toNat) (fun i J' ⟨hi,hR⟩=>by
  subst hi
  have q1:=hR.n;have q2:=hR.b;have q3:=hR.i0;have q4:=hR.i1
  by_cases hlt:J'.i 10<J'.len 0
  ·have e1:w1q.den J'=J'.i 10+1:=(show w1q.den J'=IntKind.i64.wrap (J'.i 10+1)from rfl).trans (aP _ (by omega) (by omega))
   have hk:Facts.ok J' wdG:=Facts.ok_cons (decide_eq_true hlt) (Facts.ok_cons (decide_eq_false (by rw[e1];show ¬_<(0:Int);omega)) (Facts.ok_cons (decide_eq_false (by rw[e1];show ¬(J'.len 0:Int)<_;omega)) (Ac hR)))
   rcases iL mixed dm (dP (c:=⟨bU [] (fun _=>[]),[],[]⟩) (hc J') (List.forall_mem_nil _) 12) (LpsOk.nil _ _ _ _) TB hk hrun.1 with h | ⟨j,C,J2,h1,h2,h3,h4,h5,_⟩
   ·exact .inl h
   ·right
    match j,h1 with
    | 0,h1 =>
     cases h1
     have e4:J2.i 10=J'.i 10+1:=by rw[h4];exact aP _ (by omega) (by omega)
     have e5:J2.len 0=J'.len 0:=(h5.len 0 (by omega)).symm
     exact⟨0,J2,h2,⟨rfl,⟨by omega,hb,by omega,by omega⟩⟩,by omega,h5⟩
  ·have hk:Facts.ok J' wdE:=Facts.ok_cons (decide_eq_false hlt) (Ac hR)
   rcases iL mixed dm (dP (c:=⟨bU [] (fun _=>[]),[],[]⟩) (hc J') (List.forall_mem_nil _) 12) (LpsOk.nil _ _ _ _) TB hk hrun.2 with h | ⟨j,C,J2,h1,h2,h3,h4,h5,_⟩
   ·exact .inl h
   ·exfalso
    match j,h1 with
    | 0,h1 =>
     cases h1
     have e4:J2.i 10=J'.i 10+1:=by rw[h4];exact aP _ (by omega) (by omega)
     have e5:J2.len 0=J'.len 0:=(h5.len 0 (by omega)).symm
     have:=h3 _ (List.mem_cons_of_mem _ List.mem_cons_self)
     have:¬(J2.len 0:Int)<J2.i 10:=of_decide_eq_false this
     omega)
 let β:Bind:=⟨[(10,.lit 0)],[],[],[]⟩
 obtain⟨_,Jf,h1,⟨_,h2⟩,h3⟩:=key ⟨0,β.ap J,Bind.agree (by kernel_rfl) J,⟨rfl,⟨hn,hb,Int.le_refl _,show(0:Int)<=m by omega⟩⟩,fun E _ hkn=>jq (k0:=0) (n:=10) (nm:=[]) hkn (by cases a<;>cases b<;>kernel_rfl) J⟩
 exact⟨Jf,h1,h2,h3⟩
def wdX:Facts:=[(.lt (.lit 4611686018427387904) (.len 0),false),(.lt (.len 0) (.var 10),false),(.lt (.var 10) (.lit 0),false)]
theorem aT8:BH (fun a b=>match aU (YQ a b) 41 [MB a,MB b] wdX with | .ret x=>X.beq x (.sc (.b (.lit true))) | _=>false)=true:=by kernel_rfl
theorem aT9 (a b:Bool) {J:Rho} (h:LoopOk Tryz.prog J Tryz.f41.ntmps wdB (wdL a b)):∀f i,fO f su=some i->LpsOk Tryz.prog J i.ntmps (aU1 a b f) i.body:=fun f i hi=>by
 unfold aU1
 split
 ·rename_i hf
  have hf:=Nat.eq_of_beq_eq_true hf
  subst hf
  have e:fO 41 su=some (fi Tryz.f41 []):=by kernel_rfl
  rw[e]at hi
  cases hi
  exact jP [0] (by cases a<;>cases b<;>kernel_rfl) (List.forall_mem_cons.2 ⟨iD (L:=wdL a b) (c:=wdB) (by cases a<;>cases b<;>kernel_rfl) h,List.forall_mem_nil _⟩)
 ·exact LpsOk.nil _ _ _ _
theorem MI:Hl Tryz.prog 41:=⟨by kernel_rfl,fun ss f1 f2 n h hl=>by
 let J:Rho:=⟨fun _=>0,fun _=>false,fun _=>⟨#[]⟩,fun _=>ss.length,fun _ _ _=>0,fun _ _ _=>false,fun _ _ j=>(ss[j]?).getD ⟨#[]⟩,UB⟩
 obtain⟨Jf,h1,h2,h3⟩:=au0 f1 f2 (J:=J) (m:=ss.length) rfl hl
 have hw:=qH aT8 f1 f2
 have hc:CfgOk Tryz.prog Jf (YQ f1 f2).c:=iW (List.forall_mem_nil _) (aT9 f1 f2 h3)
 have hk:Facts.ok Jf wdX:=by
  have q1:=h2.n;have q2:=h2.b;have q3:=h2.i0;have q4:=h2.i1
  exact Facts.ok_cons (decide_eq_false (by show ¬(4611686018427387904:Int)<Jf.len 0;omega)) (Facts.ok_cons (decide_eq_false (by show ¬(Jf.len 0:Int)<Jf.i 10;omega)) (Facts.ok_cons (decide_eq_false (by show ¬Jf.i 10<0;omega)) (Facts.ok_nil Jf)))
 split at hw
 ·rename_i x hx
  have:=X.beq_eq _ _ hw
  subst this
  have q:=(dM hc (List.forall_mem_nil _) hk (show(aU (YQ f1 f2) 41 [MB f1,MB f2] wdX).sel Jf=some _ by rw[hx];rfl)).2 n h
  have e:X.denL Jf [MB f1,MB f2]=[.ro 1 (nP ss) f1,.ro 1 (nP ss) f2]:=by
   have r:aC Jf (.len 0) (.var 0 [.s])=nP ss:=by
    unfold aC nP
    have l:((IE.len 0).den Jf).toNat=ss.length:=by
     have:=h2.n
     show((Jf.len 0:Nat):Int).toNat=_
     omega
    rw[l]
    apply List.ext_getElem?
    intro j
    rw[List.getElem?_map,List.getElem?_map]
    by_cases hj:j<ss.length
    ·rw[List.getElem?_range hj,List.getElem?_eq_getElem hj,Option.map_some,Option.map_some]
     have:Jf.cs 0 0 j=ss[j]:=by
      rw[<-h1.cs 0 (by omega)]
      show(ss[j]?).getD ⟨#[]⟩=_
      rw[List.getElem?_eq_getElem hj];rfl
     show some [AV.sc (.string (Jf.cs 0 0 ((j:Int)).toNat))]=_
     rw[Int.toNat_natCast,this]
    ·rw[List.getElem?_eq_none (by rw[List.length_range];omega),List.getElem?_eq_none (by omega)];rfl
   show [AV.ro 1 (aC Jf (.len 0) (.var 0 [.s])) f1,AV.ro 1 (aC Jf (.len 0) (.var 0 [.s])) f2]=_
   rw[r]
  rw[e]at q
  exact q
 ·cases hw⟩
end Go.Proofs.YtpdfmnhgocpkcaaGreat
namespace Go.Proofs.YtpdfmnhgocpkcaaGreat
open Go Go.Proofs.Aw Go.Proofs.Xw
set_option maxRecDepth 100000
def anA (j:Nat):AL:=(List.range 6).foldr (fun k r => .i (.cl 472 (2+k) (.lit j)) r) (.s (.cl 472 8 (.lit j)) (.s (.cl 472 9 (.lit j)) (.b (.cl 472 10 (.lit j)) ((List.range 11).foldr (fun k r => .i (.cl 472 (11+k) (.lit j)) r) .nil))))
theorem nY (k:Nat) (h:k<9):405+k∈PW:=by
 rcases(show k=0\/k=1\/k=2\/k=3\/k=4\/k=5\/k=6\/k=7\/k=8 by omega)with rfl | rfl | rfl | rfl | rfl | rfl | rfl | rfl | rfl<;>decide
theorem wC (k:Nat) (h:k<9):405+k∈XF:=List.mem_append_left _ (nY k h)
structure TI (J:Rho):Prop where
 n1:1<=J.len 470
 n6:J.len 470<=6
 ky:∀j:Nat,j<J.len 470->1<=(J.cs 470 0 j).size/\(J.cs 470 0 j).size<=16
 o0:0<=J.i 440
 r1:1<=J.i 443
 rn:J.i 440+J.i 443=J.len 474
 cu:∀k:Nat,k<9->0<=J.i (405+k)
 l6:J.len 474<=6
 td:∀j:Nat,j<J.len 474->0<=J.ci 474 0 j/\J.ci 474 0 j<J.len 470
 an:∀j:Nat,j<J.len 470->J.cb 472 1 j=true->UF 2 ((anA j).den J) 0=1
theorem fT {J:Rho} {a b:IE} (h:a.den J<b.den J) {Φ:Facts} (hk:Facts.ok J Φ):Facts.ok J ((.lt a b,true)::Φ):=Facts.ok_cons (decide_eq_true h) hk
theorem fF {J:Rho} {a b:IE} (h:b.den J<=a.den J) {Φ:Facts} (hk:Facts.ok J Φ):Facts.ok J ((.lt a b,false)::Φ):=Facts.ok_cons (decide_eq_false (by omega)) hk
theorem TI.tr {J:Rho} (h:TI J):Facts.ok J Y7:=by
 have q1:=h.n1;have q2:=h.n6;have q3:=h.o0;have q4:=h.r1;have q5:=h.rn;have q6:=h.l6
 unfold Y7
 exact fF (by show(1:Int)<=J.len 470;omega) (fF (by show(J.len 470:Int)<=6;omega) (fF (by show J.i 440+J.i 443<=(J.len 474:Int);omega) (fF (by show(0:Int)<=J.i 440;omega) (fF (by show J.i 440<=5;omega) (fT (by show J.i 440<(J.len 474:Int);omega) (fF (by show(1:Int)<=J.i 443;omega) (fF (by show J.i 443<=6;omega) (Facts.ok_nil J))))))))
theorem TI.key {J:Rho} (h:TI J) {e:IE} {j:Nat} (he:e.den J=J.ci 474 0 j) (hj:j<J.len 474):Facts.ok J (xN e):=by
 obtain⟨h1,h2⟩:=h.td j hj
 have h3:=(h.ky (J.ci 474 0 j).toNat (by omega)).2
 unfold xN
 refine fF (by rw[he];exact h1) (fT (by rw[he];exact h2) (fF ?_ (Facts.ok_nil J)))
 show((J.cs 470 0 (e.den J).toNat).size:Int)<=16
 rw[he];omega
theorem TI.key0 {J:Rho} (h:TI J):Facts.ok J (xN todo0):=by
 have q3:=h.o0;have q4:=h.r1;have q5:=h.rn
 exact h.key (j:=(J.i 440).toNat) rfl (by omega)
theorem TI.key1 {J:Rho} (h:TI J) (h2:2<=J.i 443):Facts.ok J (xN BJ):=by
 have q3:=h.o0;have q5:=h.rn
 refine h.key (j:=(J.i 440).toNat+1) ?_ (by omega)
 show J.ci 474 0 ((fC (.var 440) (.lit 1)).den J).toNat=_
 rw[bK]
 have:((IE.var 440).den J+(IE.lit 1).den J).toNat=(J.i 440).toNat+1:=by show(J.i 440+1).toNat=_;omega
 rw[this]
theorem Vz {J':Rho} {j:Nat} {l:List AV} (hi:∀k,J'.ci 472 k j=ai l[k]?) (hb:∀k,J'.cb 472 k j=fU l[k]?) (hs:∀k,J'.cs 472 k j=cellS l[k]?) :
  (anA j).den J'=[.int .i64 (ai l[2]?),.int .i64 (ai l[3]?),.int .i64 (ai l[4]?),.int .i64 (ai l[5]?),.int .i64 (ai l[6]?),.int .i64 (ai l[7]?),.string (cellS l[8]?),.string (cellS l[9]?),.bool (fU l[10]?),.int .i64 (ai l[11]?),.int .i64 (ai l[12]?),.int .i64 (ai l[13]?),.int .i64 (ai l[14]?),.int .i64 (ai l[15]?),.int .i64 (ai l[16]?),.int .i64 (ai l[17]?),.int .i64 (ai l[18]?),.int .i64 (ai l[19]?),.int .i64 (ai l[20]?),.int .i64 (ai l[21]?)]:=by
 simp only[<-hi,<-hb,<-hs]
 rfl
theorem Vx {J J':Rho} {j:Nat} (hi:∀k,J'.ci 472 k j=ai ((RL.var 472 GI).row J j)[k]?) (hb:∀k,J'.cb 472 k j=fU ((RL.var 472 GI).row J j)[k]?) (hs:∀k,J'.cs 472 k j=cellS ((RL.var 472 GI).row J j)[k]?):J'.cb 472 1 j=J.cb 472 1 j/\(anA j).den J'=(anA j).den J:=by
 refine⟨hb 1,?_⟩
 rw[Vz hi hb hs]
 rfl
theorem TI.keep {J J':Rho} {fr:Nat} {ki:List Nat} (hki:∀k,k<9->405+k∈ki) (h:TI J) (a:kW (Pq fr ki) J J'):TI J':=by
 obtain⟨_,⟨k1,k2⟩,_,k4⟩:=a
 have e0:=k1 440 List.mem_cons_self
 have e1:=k1 443 (List.mem_cons_of_mem _ List.mem_cons_self)
 obtain⟨l0,c0,_,s0⟩:=k2 470 List.mem_cons_self
 obtain⟨l4,c4,_,_⟩:=k2 474 (List.mem_cons_of_mem _ List.mem_cons_self)
 obtain⟨_,ci,cb,cs⟩:=k4 _ List.mem_cons_self
 refine⟨by rw[l0];exact h.n1,by rw[l0];exact h.n6,fun j hj => ?_,by rw[e0];exact h.o0,by rw[e1];exact h.r1,by rw[e0,e1,l4];exact h.rn,fun k hk=>by rw[k1 _ (List.mem_cons_of_mem _ (List.mem_cons_of_mem _ (hki k hk)))];exact h.cu k hk,by rw[l4];exact h.l6,fun j hj => ?_,fun j hj hb => ?_⟩
 ·rw[s0];exact h.ky j (by omega)
 ·rw[c4,l0];exact h.td j (by omega)
 ·obtain⟨g1,g2⟩:=Vx (fun k=>ci k j) (fun k=>cb k j) (fun k=>cs k j)
  rw[g2]
  exact h.an j (by omega) (by rw[<-g1];exact hb)
theorem Vw {J J':Rho} {has:Bool} (hf:Facts.ok J (KY has)) (j0:Nat) (_h0:todo0.den J=j0) {j:Nat} (h:J.cb 472 1 j=true->UF 2 ((anA j).den J) 0=1) (hi:∀k,J'.ci 472 k j=ai ((mM has).row J j)[k]?) (hb:∀k,J'.cb 472 k j=fU ((mM has).row J j)[k]?) (hs:∀k,J'.cs 472 k j=cellS ((mM has).row J j)[k]?)
  (hq:J'.cb 472 1 j=true):UF 2 ((anA j).den J') 0=1:=by
 by_cases hj:(j:Int)=todo0.den J
 ·have e:(mM has).row J j=mQ J (YC has):=by
   show(if(j:Int)=todo0.den J then mQ J (YC has)else(RL.var 472 GI).row J j)=_
   rw[if_pos hj]
  rw[e]at hi hb hs
  cases has with
  | false =>
   have h1:(bM 47).den J=false:=hf _ List.mem_cons_self
   have h2:J'.cb 472 1 j=(bM 47).den J:=hb 1
   rw[h2,h1]at hq;cases hq
  | true =>
   have h1:(BE.eq (.uf 2 0 alN) (.lit 1)).den J=true:=hf _ List.mem_cons_self
   have h1:UF 2 (alN.den J) 0=1:=by simpa [BE.den,IE.den]using h1
   rw[Vz hi hb hs]
   exact h1
 ·have e:(mM has).row J j=(RL.var 472 GI).row J j:=by
   show(if(j:Int)=todo0.den J then mQ J (YC has)else(RL.var 472 GI).row J j)=_
   rw[if_neg hj]
  rw[e]at hi hb hs
  obtain⟨g1,g2⟩:=Vx hi hb hs
  rw[g2]
  exact h (by rw[<-g1];exact hq)
theorem TI.more {J J':Rho} {fr:Nat} {ki:List Nat} {has:Bool} (hki:∀k,k<9->405+k∈ki) (h:TI J) (a:kW (alA fr ki has) J J'):TI J':=by
 obtain⟨k0,⟨k1,k2⟩,k3,k4⟩:=a
 have h2:¬J.i 443<2:=of_decide_eq_false (k0 _ List.mem_cons_self)
 have hf:Facts.ok J (KY has):=fun p hp=>k0 p (List.mem_cons_of_mem _ hp)
 have e0:J'.i 440=J.i 440+1:=k3 _ List.mem_cons_self
 have e1:J'.i 443=J.i 443-1:=k3 _ (List.mem_cons_of_mem _ List.mem_cons_self)
 obtain⟨l0,c0,_,s0⟩:=k2 470 List.mem_cons_self
 obtain⟨l4,c4,_,_⟩:=k2 474 (List.mem_cons_of_mem _ List.mem_cons_self)
 obtain⟨_,ci,cb,cs⟩:=k4 _ List.mem_cons_self
 have q3:=h.o0;have q4:=h.r1;have q5:=h.rn
 obtain⟨t1,t2⟩:=h.td (J.i 440).toNat (by omega)
 refine⟨by rw[l0];exact h.n1,by rw[l0];exact h.n6,fun j hj => ?_,by omega,by omega,by omega,fun k hk=>by rw[k1 _ (hki k hk)];exact h.cu k hk,by rw[l4];exact h.l6,fun j hj => ?_,fun j hj hb => ?_⟩
 ·rw[s0];exact h.ky j (by omega)
 ·rw[c4,l0];exact h.td j (by omega)
 ·refine Vw hf (todo0.den J).toNat ?_ (h.an j (by omega)) (fun k=>ci k j) (fun k=>cb k j) (fun k=>cs k j) hb
  have:todo0.den J=J.ci 474 0 (J.i 440).toNat:=rfl
  omega
theorem TI.turn {J J':Rho} {has:Bool} (h:TI J) (h6:J.len 610<=6) (hd:∀j:Nat,j<J.len 610->0<=J.ci 610 0 j/\J.ci 610 0 j<J.len 470) (a:kW (alT has) J J'):TI J':=by
 obtain⟨k0,⟨k1,k2⟩,k3,k4⟩:=a
 have h1:¬(J.len 610:Int)<1:=of_decide_eq_false (k0 _ List.mem_cons_self)
 have hf:Facts.ok J (KY has):=fun p hp=>k0 p (List.mem_cons_of_mem _ hp)
 have e0:J'.i 440=0:=k3 _ List.mem_cons_self
 have e1:J'.i 443=J.len 610:=k3 _ (List.mem_cons_of_mem _ List.mem_cons_self)
 obtain⟨l0,c0,_,s0⟩:=k2 470 List.mem_cons_self
 obtain⟨l4,c4,_,_⟩:=k4 _ List.mem_cons_self
 obtain⟨_,ci,cb,cs⟩:=k4 _ (List.mem_cons_of_mem _ List.mem_cons_self)
 have l4:J'.len 474=J.len 610:=by rw[l4];exact Int.toNat_natCast _
 have c4:∀j,J'.ci 474 0 j=J.ci 610 0 j:=fun j=>c4 0 j
 have q3:=h.o0;have q4:=h.r1;have q5:=h.rn
 obtain⟨t1,t2⟩:=h.td (J.i 440).toNat (by omega)
 refine⟨by rw[l0];exact h.n1,by rw[l0];exact h.n6,fun j hj => ?_,by omega,by omega,by omega,fun k hk=>by rw[k1 _ (nY k hk)];exact h.cu k hk,by omega,fun j hj => ?_,fun j hj hb => ?_⟩
 ·rw[s0];exact h.ky j (by omega)
 ·rw[c4,l0];exact hd j (by omega)
 ·refine Vw hf (todo0.den J).toNat ?_ (h.an j (by omega)) (fun k=>ci k j) (fun k=>cb k j) (fun k=>cs k j) hb
  have:todo0.den J=J.ci 474 0 (J.i 440).toNat:=rfl
  omega
theorem TI.first {J J':Rho} {fr:Nat} (h6:J.len 621<=6) (hk:∀j:Nat,j<J.len 621->1<=(J.cs 194 0 ((j:Int)+(IE.cl 2 2 (.var 400)).den J).toNat).size/\(J.cs 194 0 ((j:Int)+(IE.cl 2 2 (.var 400)).den J).toNat).size<=16) (hd:∀j:Nat,j<J.len 621->J.ci 620 0 j=j) (hcu:∀k:Nat,k<9->0<=J.i (405+k)) (a:kW (alB fr) J J'):TI J':=by
 obtain⟨k0,⟨k1,_⟩,k3,k4⟩:=a
 have h1:¬(J.len 621:Int)<1:=of_decide_eq_false (k0 _ List.mem_cons_self)
 have e0:J'.i 440=0:=k3 _ List.mem_cons_self
 have e1:J'.i 443=J.len 621:=k3 _ (List.mem_cons_of_mem _ List.mem_cons_self)
 obtain⟨l0,_,_,s0⟩:=k4 _ List.mem_cons_self
 obtain⟨_,_,cb,_⟩:=k4 _ (List.mem_cons_of_mem _ List.mem_cons_self)
 obtain⟨l4,c4,_,_⟩:=k4 _ (List.mem_cons_of_mem _ (List.mem_cons_of_mem _ List.mem_cons_self))
 have l0:J'.len 470=J.len 621:=by rw[l0];exact Int.toNat_natCast _
 have l4:J'.len 474=J.len 621:=by rw[l4];exact Int.toNat_natCast _
 have s0:∀j:Nat,J'.cs 470 0 j=J.cs 194 0 ((j:Int)+(IE.cl 2 2 (.var 400)).den J).toNat:=fun j=>s0 0 j
 refine⟨by omega,by omega,fun j hj => ?_,by omega,by omega,by omega,fun k hk=>by rw[k1 _ (nY k hk)];exact hcu k hk,by omega,fun j hj => ?_,fun j hj hb => ?_⟩
 ·rw[s0];exact hk j (by omega)
 ·have c4:=c4 0 j
  by_cases h0:(j:Int)=(IE.lit 0).den J
  ·have e:tdN.row J j=mQ J [aI (.lit 0)]:=by
    show(if(j:Int)=(IE.lit 0).den J then mQ J [aI (.lit 0)]else(RL.var 620 [.i .i64]).row J j)=_
    rw[if_pos h0]
   rw[e]at c4
   have c4:J'.ci 474 0 j=0:=c4
   omega
  ·have e:tdN.row J j=(RL.var 620 [.i .i64]).row J j:=by
    show(if(j:Int)=(IE.lit 0).den J then mQ J [aI (.lit 0)]else(RL.var 620 [.i .i64]).row J j)=_
    rw[if_neg h0]
   rw[e]at c4
   have c4:J'.ci 474 0 j=J.ci 620 0 j:=c4
   have:=hd j (by omega)
   omega
 ·have cb:J'.cb 472 1 j=false:=cb 1 j
  rw[cb]at hb;cases hb
end Go.Proofs.YtpdfmnhgocpkcaaGreat
namespace Go.Proofs.YtpdfmnhgocpkcaaGreat
open Go Go.Proofs.Aw Go.Proofs.Xw
set_option maxRecDepth 100000
def wF:Facts:=[(.lt (.lit 6) kyN,false),(.lt kyN (.lit 1),false),(.lt (.lit 16) (.slen (.cl 194 0 (.cl 2 2 (.var 400)))),false),(.eq kyN (.len 621),true),(.lt (.len 621) (.lit 1),false),(.lt (.lit 6) (.len 621),false)]
def dN:DT := .br (.seq vaE (.lit ⟨#[]⟩)) (.br (iH (.var 402) 1099511627776) .leaf .leaf) .leaf
def agF:Facts:=(.lt (.len 610) (.lit 1),false)::xN (.cl 610 0 (.lit 0))
theorem bG {n:Nat} {J J':Rho} (h:Agree n J J') {Φ:Facts} (hb:(Φ.all fun p=>p.1.bel n)=true) (hk:Facts.ok J Φ):Facts.ok J' Φ:=fun p hp=>by
 rw[<-BE.bel_den h p.1 (List.all_eq_true.1 hb p hp)]
 exact hk p hp
structure NewI (J:Rho):Prop where
 l6:J.len 621<=6
 ky:∀j:Nat,j<J.len 621->1<=(J.cs 194 0 ((j:Int)+(IE.cl 2 2 (.var 400)).den J).toNat).size/\(J.cs 194 0 ((j:Int)+(IE.cl 2 2 (.var 400)).den J).toNat).size<=16
 td:∀j:Nat,j<J.len 621->J.ci 620 0 j=j
 cu:∀k:Nat,k<9->0<=J.i (405+k)
structure TurnI (J:Rho):Prop where
 l6:J.len 610<=6
 td:∀j:Nat,j<J.len 610->0<=J.ci 610 0 j/\J.ci 610 0 j<J.len 470
structure Con:Prop where
 nw:∀J:Rho,Facts.ok J rQ->0<=kyN.den J->kyN.den J<=250->∃J',Agree 600 J J'/\J'.len 610=0/\((Facts.ok J' wF/\NewI J'/\∀k∈yD false++yD true,iG Tryz.prog J' k)\/(J'.len 621=0/\∀k∈xm false++xm true,iG Tryz.prog J' k))
 l2:∀(J:Rho) (has:Bool),Facts.ok J rQ->TI J->J.i 443=1->(bM 47).den J=has->(has=true->(BE.eq (.uf 2 0 alN) (.lit 1)).den J=true)->∃J',Agree 600 J J'/\∀k∈gR2 has,iG Tryz.prog J' k
 l1:∀(J:Rho) (has:Bool),Facts.ok J rQ->TI J->J.i 443=1->(bM 47).den J=has->(has=true->(BE.eq (.uf 2 0 alN) (.lit 1)).den J=true)->∃J',Agree 600 J J'/\((J'.len 610=0/\∀k∈gR1 has++[OI has false,MG has false],iG Tryz.prog J' k)\/(1<=J'.len 610/\TurnI J'/\∀k∈[OI has true,MG has true],iG Tryz.prog J' k))
def Key (J0:Rho):Prop:=∀j:Nat,0<=J0.ci 2 1002 j/\J0.ci 2 1002 j<=250
theorem zK {J:Rho} {Φ:Facts} (h:Facts.ok J Φ) (k:Nat) {c:BE} {v:Bool} (hg:Φ[k]? = some (c,v)):c.den J=v:=h _ (List.mem_of_getElem? hg)
theorem G7 {J:Rho} {Φ:Facts} (h:Facts.ok J Φ) (k:Nat) {a b:IE} (hg:Φ[k]? = some (.lt a b,false)):b.den J<=a.den J:=by
 have:¬a.den J<b.den J:=of_decide_eq_false (zK h k hg)
 omega
structure Hd (J:Rho):Prop where
 a0:0<=J.i 400
 a1:J.i 400<=J.len 2
 a2:(J.len 2:Int)<=250
theorem bh3 {J:Rho} (h:Facts.ok J hdE):Hd J:=⟨G7 h 7 rfl,G7 h 8 rfl,G7 h 6 rfl⟩
theorem bh2 {J:Rho} (h:Facts.ok J hdF):Hd J/\(J.len 460:Int)<=J.i 400:=⟨⟨G7 h 7 rfl,G7 h 8 rfl,G7 h 6 rfl⟩,G7 h 15 rfl⟩
theorem aS9 {J:Rho} {a b:Facts} (h:Facts.ok J (a++b)):Facts.ok J a:=fun p hp=>h p (List.mem_append_left _ hp)
theorem bg4 {J:Rho} (h:Hd J):i1.den J=J.i 400+1:=by
 have q1:=h.a0;have q2:=h.a1;have q3:=h.a2
 exact(show i1.den J=IntKind.i64.wrap (J.i 400+1)from rfl).trans (aP _ (by omega) (by omega))
theorem TI.agree {J J':Rho} (ag:Agree 600 J J') (h:TI J):TI J':=by
 have l0:=ag.len 470 (by decide);have l4:=ag.len 474 (by decide);have c4:=ag.ci 474 (by decide);have s0:=ag.cs 470 (by decide)
 have e0:=ag.i 440 (by decide);have e1:=ag.i 443 (by decide);have b2:=ag.cb 472 (by decide)
 have ea:∀j,(anA j).den J'=(anA j).den J:=fun j=>by
  show [_,_,_,_,_,_,_,_,_,_,_,_,_,_,_,_,_,_,_,_]=_
  simp only[IE.den,TE.den,BE.den,<-ag.ci 472 (by decide),<-ag.cs 472 (by decide),<-ag.cb 472 (by decide)]
  rfl
 exact⟨by rw[<-l0];exact h.n1,by rw[<-l0];exact h.n6,fun j hj=>by rw[<-s0];exact h.ky j (by omega),by rw[<-e0];exact h.o0,by rw[<-e1];exact h.r1,by rw[<-e0,<-e1,<-l4];exact h.rn,fun k hk=>by rw[<-ag.i (405+k) (by omega)];exact h.cu k hk,by rw[<-l4];exact h.l6,
  fun j hj=>by rw[<-c4,<-l0];exact h.td j (by omega),fun j hj hb=>by rw[ea];exact h.an j (by omega) (by rw[b2];exact hb)⟩
theorem ai4 {J:Rho} (h:TI J) (hc:(BE.eq (.var 443) (.lit 1)).den J=false):Facts.ok J G6.2:=by
 have h1:=h.r1
 have h2:¬J.i 443=1:=fun hh=>by
  have hc:(J.i 443==1)=false:=hc
  rw[hh]at hc;cases hc
 exact fF (by show(2:Int)<=J.i 443;omega) (Facts.ok_nil J)
theorem ai3 {J:Rho} (h:TI J) (hc:(BE.eq (.var 443) (.lit 1)).den J=false):Facts.ok J (xN BJ):=by
 have h1:=h.r1
 have h2:¬J.i 443=1:=fun hh=>by
  have hc:(J.i 443==1)=false:=hc
  rw[hh]at hc;cases hc
 exact h.key1 (by omega)
theorem Ui {J:Rho} (hc:(BE.eq (.var 443) (.lit 1)).den J=true):J.i 443=1:=by
 have hc:(J.i 443==1)=true:=hc
 exact eq_of_beq hc
theorem Fp {P:BE×Bool->Bool} {a b:Facts} (h:((a++b).all P)=true):a.all P=true/\b.all P=true:=by rwa[List.all_append,Bool.and_eq_true]at h
theorem ai6 {J:Rho} {has:Bool} (h1:(bM 47).den J=has) (h2:has=true->(BE.eq (.uf 2 0 alN) (.lit 1)).den J=true) {Φ:Facts} (hk:Facts.ok J Φ) :
  Facts.ok J (if has=true then(.eq (.uf 2 0 alN) (.lit 1),true)::(bM 47,true)::Φ else(bM 47,false)::Φ):=by
 cases has with
 | true=>exact Facts.ok_cons (h2 rfl) (Facts.ok_cons h1 hk)
 | false=>exact Facts.ok_cons h1 hk
theorem ao0 {J:Rho} {G:Prop} {F:Facts} (hk:Facts.ok J F) (bad:Facts.ok J ((.eq (.uf 2 0 alN) (.lit 1),false)::(bM 47,true)::F)->G) (go:∀has,(bM 47).den J=has->(has=true->(BE.eq (.uf 2 0 alN) (.lit 1)).den J=true)->G):G:=by
 rcases RJ (bM 47) J with h | h
 ·rcases RJ (.eq (.uf 2 0 alN) (.lit 1)) J with h2 | h2
  ·exact go true h fun _=>h2
  ·exact bad (Facts.ok_cons h2 (Facts.ok_cons h hk))
 ·exact go false h fun h2=>by cases h2
theorem b51 {J:Rho} (h1:1<=J.len 610) (hT:TI J) (h:TurnI J):Facts.ok J agF:=by
 obtain⟨t1,t2⟩:=h.td 0 (by omega)
 have h3:=(hT.ky (J.ci 610 0 0).toNat (by omega)).2
 exact fF (by show(1:Int)<=J.len 610;omega) (fF (show(IE.lit 0).den J<=(IE.cl 610 0 (.lit 0)).den J from t1) (fT (show(IE.cl 610 0 (.lit 0)).den J<(IE.len 470).den J from t2) (fF (by show((J.cs 470 0 (J.ci 610 0 0).toNat).size:Int)<=16;omega) (Facts.ok_nil J))))
end Go.Proofs.YtpdfmnhgocpkcaaGreat
namespace Go.Proofs.YtpdfmnhgocpkcaaGreat
open Go Go.Proofs.Aw Go.Proofs.Xw
set_option maxRecDepth 100000
theorem aL8 {J:Rho} {Φ:Facts} (hk:Facts.ok J Φ) {t:T X} (h:allT Φ t=true):∃e:BE,t = .ret (.sc (.b e))/\e.den J=true:=by
 unfold allT at h
 split at h
 ·rename_i e
  exact⟨e,rfl,rF hk h⟩
 ·cases h
theorem RI {J:Rho} {b:Bool} {lp:Nat->List LoopX} (hm:Cy 11 (X.denL J [scX]) (.sc (.bool b))) (hl:∀f i,fO f su=some i->LpsOk Tryz.prog J i.ntmps (lp f) i.body):CfgOk Tryz.prog J (cfT b lp).c :=
 sJ (List.forall_mem_cons.2 ⟨aM2,List.forall_mem_cons.2 ⟨hm,List.forall_mem_nil _⟩⟩) hl (List.forall_mem_nil _) RG (List.forall_mem_cons.2 ⟨MI,List.forall_mem_nil _⟩)
theorem af9 {J:Rho} {b:Bool} {lp:Nat->List LoopX} (hc:CfgOk Tryz.prog J (cfT b lp).c) (hT:BD 460 ktE J) {Φ:Facts} (hk:Facts.ok J Φ) (h:allT Φ (Yg (cfT b lp) 5 Vt Φ)=true):Cy 5 (X.denL J Vt) (.sc (.bool true)):=by
 obtain⟨e,h1,h2⟩:=aL8 hk h
 have g:=aL2 (c:=cfT b lp) hc JL hT hk (show(Yg (cfT b lp) 5 Vt Φ).sel J=some (.sc (.b e))by rw[h1];rfl)
 have ee:X.den J (.sc (.b e)) = .sc (.bool true):=by show AV.sc (.bool (e.den J))=_;rw[h2]
 rw[ee]at g
 exact g
theorem bd2 {J:Rho} {i:Nat} (h:LoopOk Tryz.prog J Tryz.f5.ntmps Yc (lZ i)):∀g k,fO g su=some k->LpsOk Tryz.prog J k.ntmps (lpT i g) k.body:=fun g k hg=>by
 unfold lpT
 split
 ·rename_i hf
  have hf:=Nat.eq_of_beq_eq_true hf
  subst hf
  have hfo:zV Tryz.prog 5 k:=qA (5,k) (gK _ _ (fG hg))
  refine nV hfo Tryz.func5 ?_
  refine jP (c:=Tryz.f5.body.getD .skip) [0] ?_ (List.forall_mem_cons.2 ⟨iD (L:=lZ i) (c:=Yc) ?_ h,List.forall_mem_nil _⟩)
  ·rfl
  ·rfl
 ·exact LpsOk.nil _ _ _ _
noncomputable def rZ (J:Rho):Rho:={ J with i:=fun k=>if k<10 then J.i (5+k)else J.i (4+k),b:=fun _=>J.b 0 }
theorem aZ9 (J:Rho):(Jq 0).den (rZ J)=alZ.den J:=rfl
theorem bm3 {J:Rho} (h:(BE.eq (.uf 1 0 alZ) (.lit 1)).den J=true):1<=(gZ 1).den J/\(gZ 1).den J<=4/\∀k:Nat,(k:Int)<(gZ 1).den J->0<=(gZ (2+2*k)).den J/\(gZ (2+2*k)).den J<=3:=by
 have h:=Ve h
 rw[<-aZ9]at h
 obtain⟨g,hg⟩:=Y0 (rZ J)
 obtain⟨b1,b2,b3⟩:=(lQ hg).pr h
 refine⟨b1,b2,fun k hk => ?_⟩
 have h2:(gZ 1).den J<=4:=b2
 have:=b3 k hk
 have q:vI ((Jq 0).den (rZ J)) (2+2*k)=(gZ (2+2*k)).den J:=by
  rcases(show k=0\/k=1\/k=2\/k=3 by omega)with rfl | rfl | rfl | rfl<;>rfl
 rw[q]at this
 exact this
theorem bh8 {J:Rho} (h:(BE.eq (.uf 1 0 alZ) (.lit 1)).den J=true):Facts.ok J (hyC alZ gZ).2:=by
 obtain⟨h1,h2,h3⟩:=bm3 h
 have h4:=h3 0 (by show(0:Int)<_;omega)
 exact gF (show(IE.lit 1).den J<=_ from h1) (gF (show _<=(IE.lit 4).den J from h2) (gF (show(IE.lit 0).den J<=_ from h4.1) (gF (show _<=(IE.lit 3).den J from h4.2) (lY J))))
theorem bh7 {J:Rho} (n:Nat) (ha:(BE.eq (.uf 1 0 alZ) (.lit 1)).den J=true) (hn:(gZ 1).den J=n):Facts.ok J (hyN alZ gZ n).2:=by
 obtain⟨_,_,h3⟩:=bm3 ha
 intro p hp
 obtain⟨k,hk,hp⟩:=List.mem_flatMap.1 hp
 have hk:=List.mem_range.1 hk
 have h4:=h3 k (by omega)
 rcases List.mem_cons.1 hp with rfl | hp
 ·exact nH (by have:=h4.1;show ¬(gZ (2+2*k)).den J<0;omega)
 ·rcases List.mem_cons.1 hp with rfl | hp
  ·exact nH (by have:=h4.2;show ¬3<(gZ (2+2*k)).den J;omega)
  ·cases hp
theorem bh5 {n:Nat} (hn:n=1\/n=2\/n=3\/n=4) (J:Rho):Facts.ok J (bX1 n).2:=by
 refine gF ?_ (lY J)
 show(aQ7 n).den J<=(n:Int)-1
 have b4:∀vs j,-16384<=UF 4 vs j/\UF 4 vs j<=16384:=fun vs j=>Jr 4 vs j
 have b5:∀vs j,-16384<=UF 5 vs j/\UF 5 vs j<=16384:=fun vs j=>Jr 5 vs j
 let hA:AL := .i (.var 401) (.i (.var 4) .nil)
 let pA:Nat->AL:=fun k => .i (.var 401) (.i rgZ (.i (gZ (2+2*k)) .nil))
 let w:Nat->Int:=fun k=>if k=0 then UF 5 (hA.den J) 0 else if k=1 then UF 5 (hA.den J) 1 else UF 4 ((pA (k / 2-1)).den J) (k % 2)
 refine Uz hn _ w ?_ fun k _ => ?_
 ·rcases hn with rfl | rfl | rfl | rfl<;>rfl
 ·show -16384<=(if k=0 then UF 5 (hA.den J) 0 else if k=1 then UF 5 (hA.den J) 1 else UF 4 ((pA (k / 2-1)).den J) (k % 2))/\(if k=0 then UF 5 (hA.den J) 0 else if k=1 then UF 5 (hA.den J) 1 else UF 4 ((pA (k / 2-1)).den J) (k % 2))<=16384
  split
  ·exact b5 _ _
  ·split
   ·exact b5 _ _
   ·exact b4 _ _
theorem cs2 (c:BE) (J:Rho) {G:Prop} (h1:c.den J=true->G) (h2:c.den J=false->G):G:=(RJ c J).elim h1 h2
theorem aH3:GG []:=fun p hp=>by cases hp
theorem ai1 {i:Nat} {J:Rho} {G:Prop} (run:∀Φ,vM i Φ=true->Facts.ok J Φ->G) (hk:Facts.ok J (wY i))
  (za:vM i ((iH (.slen (.var 0)) 1,true)::wY i)=true) (zb:vM i ((Fz (.slen (.var 0)) 16,true)::(iH (.slen (.var 0)) 1,false)::wY i)=true)
  (zc:vM i ((.lt (.var 402) (.lit 1099511627776),false)::(Fz (.slen (.var 0)) 16,false)::(iH (.slen (.var 0)) 1,false)::wY i)=true)
  (zd:vM i ((.eq (.uf 1 0 alZ) (.lit 1),false)::(kOk++wY i))=true) (zn:∀n,n=1\/n=2\/n=3\/n=4->DT.ok [] (vM i) (.br (.var 0) pM pM) (Yx i n)=true):G:=by
 refine cs2 (iH (.slen (.var 0)) 1) J (fun h=>run _ za (Facts.ok_cons h hk)) fun k1 => ?_
 have hk1:=Facts.ok_cons k1 hk
 refine cs2 (Fz (.slen (.var 0)) 16) J (fun h=>run _ zb (Facts.ok_cons h hk1)) fun k2 => ?_
 have hk2:=Facts.ok_cons k2 hk1
 refine cs2 (.lt (.var 402) (.lit 1099511627776)) J (fun k3 => ?_) fun h=>run _ zc (Facts.ok_cons h hk2)
 have hk3:Facts.ok J (kOk++wY i):=Facts.ok_cons k1 (Facts.ok_cons k2 (Facts.ok_cons k3 hk))
 refine cs2 (.eq (.uf 1 0 alZ) (.lit 1)) J (fun k4 => ?_) fun h=>run _ zd (Facts.ok_cons h hk3)
 have hk4:Facts.ok J (rzF i):=Facts.ok_cons k4 (aY (bh8 k4) hk3)
 obtain⟨b1,b2,_⟩:=bm3 k4
 have go:∀n:Nat,(n=1\/n=2\/n=3\/n=4)->(gZ 1).den J=n->Facts.ok J (nfZ n)->G:=fun n hn he hf=>by
  obtain⟨Φ',q1,q2⟩:=Uo aH3 rfl (zn n hn) (show Facts.ok J (Yx i n)from aY hf (aY (bh7 n k4 he) (aY (bh5 hn J) hk4)))
  exact run Φ' q2 q1
 rcases(show(gZ 1).den J=1\/(gZ 1).den J=2\/(gZ 1).den J=3\/(gZ 1).den J=4 by omega)with h | h | h | h
 ·exact go 1 (.inl rfl) h (Facts.ok_cons (UI (a:=gZ 1) (b := .lit 2) (by rw[h];first | (show(1:Int)<2;decide) | (show(2:Int)<2;decide) | (show(3:Int)<2;decide) | (show ¬(2:Int)<2;decide) | (show ¬(3:Int)<2;decide) | (show ¬(4:Int)<2;decide))) (lY J))
 ·exact go 2 (.inr (.inl rfl)) h (Facts.ok_cons (nH (a:=gZ 1) (b := .lit 2) (by rw[h];first | (show(1:Int)<2;decide) | (show(2:Int)<2;decide) | (show(3:Int)<2;decide) | (show ¬(2:Int)<2;decide) | (show ¬(3:Int)<2;decide) | (show ¬(4:Int)<2;decide))) (Facts.ok_cons (UI (a:=gZ 1) (b := .lit 3) (by rw[h];first | (show(1:Int)<3;decide) | (show(2:Int)<3;decide) | (show(3:Int)<3;decide) | (show ¬(2:Int)<3;decide) | (show ¬(3:Int)<3;decide) | (show ¬(4:Int)<3;decide))) (lY J)))
 ·exact go 3 (.inr (.inr (.inl rfl))) h (Facts.ok_cons (nH (a:=gZ 1) (b := .lit 2) (by rw[h];first | (show(1:Int)<2;decide) | (show(2:Int)<2;decide) | (show(3:Int)<2;decide) | (show ¬(2:Int)<2;decide) | (show ¬(3:Int)<2;decide) | (show ¬(4:Int)<2;decide))) (Facts.ok_cons (nH (a:=gZ 1) (b := .lit 3) (by rw[h];first | (show(1:Int)<3;decide) | (show(2:Int)<3;decide) | (show(3:Int)<3;decide) | (show ¬(2:Int)<3;decide) | (show ¬(3:Int)<3;decide) | (show ¬(4:Int)<3;decide))) (Facts.ok_cons (UI (a:=gZ 1) (b := .lit 4) (by rw[h];first | (show(1:Int)<4;decide) | (show(2:Int)<4;decide) | (show(3:Int)<4;decide) | (show ¬(2:Int)<4;decide) | (show ¬(3:Int)<4;decide) | (show ¬(4:Int)<4;decide))) (lY J))))
 ·exact go 4 (.inr (.inr (.inr rfl))) h (Facts.ok_cons (nH (a:=gZ 1) (b := .lit 2) (by rw[h];first | (show(1:Int)<2;decide) | (show(2:Int)<2;decide) | (show(3:Int)<2;decide) | (show ¬(2:Int)<2;decide) | (show ¬(3:Int)<2;decide) | (show ¬(4:Int)<2;decide))) (Facts.ok_cons (nH (a:=gZ 1) (b := .lit 3) (by rw[h];first | (show(1:Int)<3;decide) | (show(2:Int)<3;decide) | (show(3:Int)<3;decide) | (show ¬(2:Int)<3;decide) | (show ¬(3:Int)<3;decide) | (show ¬(4:Int)<3;decide))) (Facts.ok_cons (nH (a:=gZ 1) (b := .lit 4) (by rw[h];first | (show(1:Int)<4;decide) | (show(2:Int)<4;decide) | (show(3:Int)<4;decide) | (show ¬(2:Int)<4;decide) | (show ¬(3:Int)<4;decide) | (show ¬(4:Int)<4;decide))) (lY J))))
theorem b49 {p:Nat->Prop} (h1:p 1) (h2:p 2) (h3:p 3) (h4:p 4):∀n,n=1\/n=2\/n=3\/n=4->p n:=by
 rintro n (rfl | rfl | rfl | rfl)
 ·exact h1
 ·exact h2
 ·exact h3
 ·exact h4
theorem bz3 {J:Rho} (hm:Cy 11 (X.denL J [scX]) (.sc (.bool false))) (hT:BD 460 ktE J) {i:Nat} (hL:LoopOk Tryz.prog J Tryz.f5.ntmps Yc (lZ i)) {Φ:Facts} (h:vM i Φ=true) (hk:Facts.ok J Φ):Cy 5 (X.denL J Vt) (.sc (.bool true)) :=
 af9 (b:=false) (lp:=lpT i) (RI hm (bd2 hL)) hT hk h
theorem aW3 {J:Rho} (hm:Cy 11 (X.denL J [scX]) (.sc (.bool false))) (hT:BD 460 ktE J) {i:Nat} (hi:i<10) (hL:LoopOk Tryz.prog J Tryz.f5.ntmps Yc (lZ i)) (hk:Facts.ok J (wY i)):Cy 5 (X.denL J Vt) (.sc (.bool true)):=by
 have hr:∀Φ,vM i Φ=true->Facts.ok J Φ->Cy 5 (X.denL J Vt) (.sc (.bool true)):=fun Φ h hk=>bz3 hm hT hL h hk
 clear hL
 rcases(show i=0\/i=1\/i=2\/i=3\/i=4\/i=5\/i=6\/i=7\/i=8\/i=9 by omega)with h | h | h | h | h | h | h | h | h | h<;>subst h
 ·exact ai1 hr hk z0a z0b z0c z0d (b49 (p:=fun n=>DT.ok [] (vM 0) (.br (.var 0) pM pM) (Yx 0 n)=true) cd4 cd3 cd2 cd1)
 ·exact ai1 hr hk z1a z1b z1c z1d (b49 (p:=fun n=>DT.ok [] (vM 1) (.br (.var 0) pM pM) (Yx 1 n)=true) cd0 cc9 cc8 cc7)
 ·exact hr (wY 2) zt2 hk
 ·exact hr (wY 3) zt3 hk
 ·exact hr (wY 4) zt4 hk
 ·exact hr (wY 5) zt5 hk
 ·exact hr (wY 6) zt6 hk
 ·exact hr (wY 7) zt7 hk
 ·exact hr (wY 8) zt8 hk
 ·exact hr (wY 9) zt9 hk
theorem bD0 {J:Rho} {G:Prop} (run:∀Φ,aB6 false Φ=true->Facts.ok J Φ->G) (l:Facts):∀(Φ:Facts),Uh l Φ=true->Facts.ok J Φ->(Facts.ok J l->G)->G:=by
 induction l with
 | nil=>exact fun _ _ _ k=>k (Facts.ok_nil J)
 | cons p r ih =>
  intro Φ h hk k
  have h':(aB6 false ((p.1,!p.2)::Φ)&&Uh r ((p.1,p.2)::Φ))=true:=h
  obtain⟨h1,h2⟩:=Bool.and_eq_true_iff.1 h'
  by_cases hc:p.1.den J=p.2
  ·exact ih _ h2 (Facts.ok_cons hc hk) fun hr=>k (Facts.ok_cons hc hr)
  ·refine run _ h1 (Facts.ok_cons ?_ hk)
   revert hc
   generalize p.1.den J=u
   generalize p.2=v
   cases u<;>cases v<;>decide
end Go.Proofs.YtpdfmnhgocpkcaaGreat
namespace Go.Proofs.YtpdfmnhgocpkcaaGreat
open Go Go.Proofs.Aw Go.Proofs.Xw
set_option maxRecDepth 100000
structure Str (J:Rho):Prop where
 l:J.len 2<=140737488355327
 k:∀j,0<=J.ci 2 1002 j/\J.ci 2 1002 j<=140737488355327
 s:∀k j,(J.cs 2 k j).size<=140737488355327
 n:∀j,(J.cs 194 0 j).size<=140737488355327
def muK:IE := .cl 2 1002 (.var 700)
def muL (k:Nat):IE := .slen (.cl 2 k (.var 700))
def muS:IE := .op .add .i64 (.op .add .i64 (.op .add .i64 (.op .add .i64 (muL 3) (muL 53)) (muL 54)) (muL 38)) (muL 39)
def mu0:IE := .op .add .i64 (.var 702) (.op .quo .i64 muS (.lit 60))
def muX (i n:X):ig:=[(6,i),(3,n)]++((List.range 29).map fun k=>(51-k,X.top))++[(5,.ptr (17,0) [] 0),(22,.top),(21,.top),(20,.top),(19,.top),(16,.top),(15,.top),(14,.top),(13,.top),(12,.top),(11,.top),(10,.top),(9,.top),(4,xi 700),(8,.top),(7,.top),(2,.top),(0,scX)]
def muO:bg:=[((17,0),sQ 2 (.var 700) 0 kaA)]
def miS0:XS:=⟨muX (xn 0) (.sc (.i .i64 mu0)),muO,50⟩
def miS:XS:=⟨muX (xi 704) (xi 703),muO,50⟩
def miO:XS:=⟨muX (xi 704) (xi 703),muO,90⟩
noncomputable def miD:Code:=(dw (Tryz.f11.body.getD .skip))[1]?.getD .skip
noncomputable def muD:Code:=(dw (Tryz.f11.body.getD .skip))[0]?.getD .skip
def miE:IE := .slen (.cl 194 0 (.op .padd .i64 (.var 704) (.cl 2 2 (.var 700))))
def miP:IE := .op .add .i64 (.var 703) (.op .add .i64 (.lit 1) (.op .quo .i64 miE (.lit 60)))
def mi1:IE := .op .add .i64 (.var 704) (.lit 1)
def miF:Facts:=[(.lt (.var 704) (.lit 0),false),(.lt muK (.var 704),false),(.lt (.lit 140737488355327) muK,false),(.lt muK (.lit 0),false),(.lt (.var 703) (.lit 0),false),(.lt (.lit 100000000000000) (.var 703),false)]
def miG:Facts:=(.lt (.lit 250) (.var 703),false)::(.lt (.var 704) muK,true)::miF
def miA:Facts:=(.lt (.lit 250) (.var 703),true)::miF
def miC:Facts:=(.lt (.lit 250) (.var 703),false)::(.lt (.var 704) muK,false)::miF
noncomputable def muCf:Cfg2:=⟨bU [] (fun _=>[]),[],[]⟩
noncomputable def ad9 (Φ:Facts):T (XE×XS):=(dG muCf.c.ti (iK muCf 12) ((muCf.c.ft 11).elim [] (·.ms)) 0 [] 1000 miD Φ miS).map (yC (miS.t.map (·.1)))
def aC8 (n:Nat) (β:Bind) (S:XS):T (XE×XS)->Bool
 | .ret (.normal,s)=>Kq 0 n β [] [] S s
 | _=>false
def miB:Bind:=⟨[(703,miP),(704,mi1)],[],[],[]⟩
theorem bU3:aC8 703 miB miS (ad9 miG)=true:=by kernel_rfl
theorem bU5:jV 0 703 704 [] (0,[]) 0 [] miO (.exit 2) miA (ad9 miA)=true:=by kernel_rfl
theorem bU4:jV 0 703 704 [] (0,[]) 0 [] miO (.exit 2) miC (ad9 miC)=true:=by kernel_rfl
theorem KF:fD Tryz.f11.ntmps miD=true:=by kernel_rfl
noncomputable def miL:LoopX:=⟨(bW miD).getD 0,0,703,miS0,noB,[],.ret (.exit 2,miO)⟩
def miN0:Bind:=⟨[(703,mu0),(704,.lit 0)],[],[],[]⟩
theorem bU2:Kq 0 703 miN0 [] [] miS miS0=true:=by kernel_rfl
theorem bc8:miS0.bel 703=true:=by kernel_rfl
def muT (i n:X):ig:=[(4,i),(3,n),(8,.top),(7,.top),(2,.top),(0,scX)]
def muS0:XS:=⟨muT (xn 0) (.sc (.i .i64 (.len 2))),[],5⟩
def muA:XS:=⟨muT (xi 700) (xi 702),[],5⟩
def muZ:XS:=⟨muT (xi 700) (xi 702),[],20⟩
def mu1:IE := .op .add .i64 (.var 700) (.lit 1)
def muF:Facts:=[(.lt (.var 700) (.lit 0),false),(.lt (.len 2) (.var 700),false),(.lt (.lit 140737488355327) (.len 2),false),(.lt (.var 702) (.lit 0),false),(.lt (.lit 200000000000000) (.var 702),false),(.lt muK (.lit 0),false),(.lt (.lit 140737488355327) muK,false)]++[3,38,39,53,54].map fun k=>(.lt (.lit 140737488355327) (muL k),false)
def muG:Facts:=(.lt (.var 700) (.len 2),true)::(.lt (.lit 250) (.var 702),false)::muF
def bT8:Facts:=(.lt (.lit 250) (.var 702),true)::muF
def bT7:Facts:=(.lt (.lit 250) (.var 702),false)::(.lt (.var 700) (.len 2),false)::muF
noncomputable def bT5 (Φ:Facts):T (XE×XS):=(dG muCf.c.ti (iK muCf 12) ((muCf.c.ft 11).elim [] (·.ms)) 0 [miL] 1000 muD Φ muA).map (yC (muA.t.map (·.1)))
noncomputable def ad2 (Φ:Facts):T (XE×XS):=(dG muCf.c.ti (iK muCf 12) ((muCf.c.ft 11).elim [] (·.ms)) 0 [] 1000 muD Φ muA).map (yC (muA.t.map (·.1)))
def muB:Bind:=⟨[(700,mu1),(702,.var 703)],[],[],[]⟩
theorem bT1:aC8 700 muB muA (bT5 muG)=true:=by kernel_rfl
theorem bT3:jV 0 700 700 [] (0,[]) 0 [] muZ (.exit 0) bT8 (ad2 bT8)=true:=by kernel_rfl
theorem bT2:jV 0 700 700 [] (0,[]) 0 [] muZ (.exit 0) bT7 (ad2 bT7)=true:=by kernel_rfl
theorem KD:fD Tryz.f11.ntmps muD=true:=by kernel_rfl
noncomputable def ad3:LoopX:=⟨(bW muD).getD 0,0,700,muS0,noB,[],.ret (.exit 0,muZ)⟩
def muN0:Bind:=⟨[(700,.lit 0),(702,.len 2)],[],[],[]⟩
theorem bT0:Kq 0 700 muN0 [] [] muA muS0=true:=by kernel_rfl
theorem bb7:muS0.bel 700=true:=by kernel_rfl
theorem aF0:muA.bel 703=true:=by kernel_rfl
noncomputable def bb8 (g:Nat):List LoopX:=if Nat.beq g 11=true then [ad3]else []
noncomputable def bc4:Cfg2:=⟨bU [] bb8,[],[]⟩
def bT6:Facts:=[(.lt (.lit 140737488355327) (.len 2),false)]
def bW7:T X->Bool
 | .ret x=>X.beq x (.sc (.b (.lt (.lit 250) (.var 702))))
 | _=>false
theorem bb5:bW7 (aU bc4 11 [scX] bT6)=true:=by kernel_rfl
end Go.Proofs.YtpdfmnhgocpkcaaGreat
