/- Parts of the proof, one behind the other. -/
import Derived.Test.YtpdfmnhgocpkcaaGreatTM12
namespace Go.Proofs.YtpdfmnhgocpkcaaGreat
open Go Go.Proofs.Aw Go.Proofs.Xw Go.Proofs.Sr
set_option maxRecDepth 100000
theorem bc {ρ:aa} {e:U} {z:Int} (h:e.I ρ=z) (k:0<z):J.ok ρ (cz e) :=
 J.av (by rw[sa,h];show ¬z=0;omega) (J.av (by rw[Ku,h];exact k) (J.av (by rw[mO,h];show 0<=z;omega) (J.bq _)))
theorem bb {ρ:aa} {e:U} {z:Int} (h:e.I ρ=z) (k:z<0):J.ok ρ (a6 e) :=
 J.av (by rw[sa,h];show ¬z=0;omega) (J.av (by rw[mO,h];show z<=0;omega) (J.av (by rw[Ku,h];exact k) (J.bq _)))
theorem dw {ρ:aa} {e:U} {z:Int} (h:e.I ρ=z) (k:z=0):J.ok ρ (h1 e) :=
 J.av (by rw[S5,h];exact k) (J.av (by rw[mO,h];show z<=0;omega) (J.av (by rw[mO,h];show 0<=z;omega) (J.bq _)))
def wL (x:ByteArray) (m:Int):Prop:=b_ Tryz.prog 104=true/\∀n h,CY Tryz.prog n 104 [.sc (.string x),.sc (.int .i64 m)] h (.sc (.int .i64 (sec m (pt x)))) []
theorem OL (x:ByteArray) (hx:x.size<9223372036854775808):∃ρ:aa,ρ.i 300=(pt x).1/\ρ.i 301=(pt x).2/\Bd (ρ.i 300)/\Bd (ρ.i 301)/\pt x≠(0,0)/\J.ok ρ dU /\
  ∀{m k:Int} {B:J} {t:T X},aN ⟨bd cH (fun _=>[]),[],[66,127]⟩ 104 [cv 0,cV m] B=t->t = .ret (.sc (.i .i64 (.lit k)))->J.ok ρ B->sec m (pt x)=k->wL x m:=by
 obtain⟨Q6,Q7,Do,Q8,Q9⟩:=XJ hx
 let ρ:aa:=⟨fun k=>if k=300 then(pt x).1 else if k=301 then(pt x).2 else 0,fun _=>false,fun _=>x,fun _=>0,fun _ _ _=>0,fun _ _ _=>false,fun _ _ _=>⟨#[]⟩,kz⟩
 have ex:Bd (ρ.i 300):=⟨Q6.1,by show(pt x).1<=_;omega⟩
 have b1:Bd (ρ.i 301):=⟨Q7.1,by show(pt x).2<=_;omega⟩
 have z7:∀k,Bd (ρ.i k)->J.ok ρ (G2 k):=fun k h=>J.av (by rw[mO];exact h.1) (J.av (by rw[mO];exact h.2) (J.bq _))
 have nz:¬(ρ.i 300=0/\ρ.i 301=0):=fun h=>Do (Prod.ext h.1 h.2)
 have fk:J.ok ρ dU:=an (an (z7 300 ex) (z7 301 b1)) (J.av (by rw[SU,sa,sa];simp only[U.I];omega) (J.bq _))
 have k1:b_ Tryz.prog 68=true/\∀n h,CY Tryz.prog n 68 (X.af ρ [cv 0]) h (X.I ρ (OI 300 301)) []:=Q8
 have k2:b_ Tryz.prog 145=true/\∀n h,CY Tryz.prog n 145 (X.af ρ [cv 0]) h (X.I ρ (OV 300 301)) []:=Q9
 have Kc:bZ Tryz.prog ρ (bd cH (fun _=>[])):=hl (List.forall_mem_cons.2 ⟨k1,List.forall_mem_cons.2 ⟨k2,List.forall_mem_nil _⟩⟩) (fun _ _ _=>a1.nil _ _ _ _)
 refine⟨ρ,rfl,rfl,ex,b1,Do,fk,?_⟩
 intro m k B t A E h3 h4
 unfold wL
 rw[h4]
 exact ef (c:=⟨bd cH (fun _=>[]),[],[66,127]⟩) Kc (List.forall_mem_nil _) h3 (r := .sc (.i .i64 (.lit k))) (by rw[A,E];rfl)
theorem aj0 (x:ByteArray) (hx:x.size<9223372036854775808):wL x 1:=by
 obtain⟨ρ,_,_,_,_,_,fk,run⟩:=OL x hx
 exact run ajZ rfl fk rfl
theorem aj1 (x:ByteArray) (hx:x.size<9223372036854775808):wL x 2:=by
 obtain⟨ρ,e0,e1,ex,b1,nz,fk,run⟩:=OL x hx
 obtain⟨d1,d0,d2,n1,n2⟩:=Ec
 have ab:=fun a b (ha:Bd a) (hb:Bd b)=>GZ (ρ:=ρ) ha hb ex b1
 have ad:=fun a b (ha:Bd a) (hb:Bd b)=>G0 (ρ:=ρ) ha hb ex b1
 generalize hp:pt x=p at e0 e1 nz run
 obtain⟨Y,v⟩:=p
 simp only at e0 e1
 have nz:¬(Y=0/\v=0):=fun h=>nz (Prod.ext h.1 h.2)
 rw[e0,e1]at ab ad
 clear ex b1
 have nZ:(U.var 300).I ρ=Y:=e0
 have e8:(U.var 301).I ρ=v:=e1
 clear e0 e1
 rcases Int.lt_trichotomy 0 v with c | c | c
 ·rcases Int.lt_trichotomy 0 (2*Y+v)with d | d | d
  ·rcases Int.lt_trichotomy 0 (v-2*Y)with e | e | e
   ·exact run aj5 rfl (an fk (an (bc e8 (by omega)) (an (bc (ab (1) (0) d1 d0) (by omega)) (an (bb (ad (0) (1) d0 d1) (by omega)) (an (bb (ab (-1) (2) n1 d2) (by omega)) (an (bc (ad (2) (-1) d2 n1) (by omega)) (an (bb (ab (-1) (-2) n1 n2) (by omega)) (an (bc (ad (-2) (-1) n2 n1) (by omega)) (an (bb (ab (-1) (0) n1 d0) (by omega)) (bc (ad (0) (-1) d0 n1) (by omega))))))))))) (tD (by simp only;omega))
   ·exact run aj9 rfl (an fk (an (bc e8 (by omega)) (an (bc (ab (1) (0) d1 d0) (by omega)) (an (bb (ad (0) (1) d0 d1) (by omega)) (an (bb (ab (-1) (2) n1 d2) (by omega)) (an (bc (ad (2) (-1) d2 n1) (by omega)) (an (dw (ab (-1) (-2) n1 n2) (by omega)) (an (dw (ad (-2) (-1) n2 n1) (by omega)) (an (bb (ab (-1) (0) n1 d0) (by omega)) (bc (ad (0) (-1) d0 n1) (by omega))))))))))) (tD (by simp only;omega))
   ·exact run akd rfl (an fk (an (bc e8 (by omega)) (an (bc (ab (1) (0) d1 d0) (by omega)) (an (bb (ad (0) (1) d0 d1) (by omega)) (an (bb (ab (-1) (2) n1 d2) (by omega)) (an (bc (ad (2) (-1) d2 n1) (by omega)) (an (bc (ab (-1) (-2) n1 n2) (by omega)) (an (bb (ad (-2) (-1) n2 n1) (by omega)) (an (bb (ab (-1) (0) n1 d0) (by omega)) (bc (ad (0) (-1) d0 n1) (by omega))))))))))) (tD (by simp only;omega))
  ·exact run akh rfl (an fk (an (bc e8 (by omega)) (an (bc (ab (1) (0) d1 d0) (by omega)) (an (bb (ad (0) (1) d0 d1) (by omega)) (an (dw (ab (-1) (2) n1 d2) (by omega)) (an (dw (ad (2) (-1) d2 n1) (by omega)) (an (bb (ab (-1) (-2) n1 n2) (by omega)) (an (bc (ad (-2) (-1) n2 n1) (by omega)) (an (bb (ab (-1) (0) n1 d0) (by omega)) (bc (ad (0) (-1) d0 n1) (by omega))))))))))) (tD (by simp only;omega))
  ·exact run akl rfl (an fk (an (bc e8 (by omega)) (an (bc (ab (1) (0) d1 d0) (by omega)) (an (bb (ad (0) (1) d0 d1) (by omega)) (an (bc (ab (-1) (2) n1 d2) (by omega)) (an (bb (ad (2) (-1) d2 n1) (by omega)) (an (bb (ab (-1) (-2) n1 n2) (by omega)) (an (bc (ad (-2) (-1) n2 n1) (by omega)) (an (bb (ab (-1) (0) n1 d0) (by omega)) (bc (ad (0) (-1) d0 n1) (by omega))))))))))) (tD (by simp only;omega))
 ·by_cases d:0<Y
  ·exact run akJ rfl (an fk (an (dw e8 (by omega)) (an (bc nZ (by omega)) (an (dw (ab (1) (0) d1 d0) (by omega)) (an (dw (ad (0) (1) d0 d1) (by omega)) (an (bb (ab (-1) (2) n1 d2) (by omega)) (an (bc (ad (2) (-1) d2 n1) (by omega)) (an (bc (ab (-1) (-2) n1 n2) (by omega)) (an (bb (ad (-2) (-1) n2 n1) (by omega)) (an (dw (ab (-1) (0) n1 d0) (by omega)) (dw (ad (0) (-1) d0 n1) (by omega)))))))))))) (tD (by simp only;omega))
  ·exact run akN rfl (an fk (an (dw e8 (by omega)) (an (bb nZ (by omega)) (an (dw (ab (1) (0) d1 d0) (by omega)) (an (dw (ad (0) (1) d0 d1) (by omega)) (an (bc (ab (-1) (2) n1 d2) (by omega)) (an (bb (ad (2) (-1) d2 n1) (by omega)) (an (bb (ab (-1) (-2) n1 n2) (by omega)) (an (bc (ad (-2) (-1) n2 n1) (by omega)) (an (dw (ab (-1) (0) n1 d0) (by omega)) (dw (ad (0) (-1) d0 n1) (by omega)))))))))))) (tE (by simp only;omega))
 ·rcases Int.lt_trichotomy 0 (v-2*Y)with d | d | d
  ·exact run akx rfl (an fk (an (bb e8 (by omega)) (an (bb (ab (1) (0) d1 d0) (by omega)) (an (bc (ad (0) (1) d0 d1) (by omega)) (an (bc (ab (-1) (2) n1 d2) (by omega)) (an (bb (ad (2) (-1) d2 n1) (by omega)) (an (bb (ab (-1) (-2) n1 n2) (by omega)) (an (bc (ad (-2) (-1) n2 n1) (by omega)) (an (bc (ab (-1) (0) n1 d0) (by omega)) (bb (ad (0) (-1) d0 n1) (by omega))))))))))) (tE (by simp only;omega))
  ·exact run akt rfl (an fk (an (bb e8 (by omega)) (an (bb (ab (1) (0) d1 d0) (by omega)) (an (bc (ad (0) (1) d0 d1) (by omega)) (an (bc (ab (-1) (2) n1 d2) (by omega)) (an (bb (ad (2) (-1) d2 n1) (by omega)) (an (dw (ab (-1) (-2) n1 n2) (by omega)) (an (dw (ad (-2) (-1) n2 n1) (by omega)) (an (bc (ab (-1) (0) n1 d0) (by omega)) (bb (ad (0) (-1) d0 n1) (by omega))))))))))) (tE (by simp only;omega))
  ·rcases Int.lt_trichotomy 0 (2*Y+v)with e | e | e
   ·exact run akF rfl (an fk (an (bb e8 (by omega)) (an (bb (ab (1) (0) d1 d0) (by omega)) (an (bc (ad (0) (1) d0 d1) (by omega)) (an (bb (ab (-1) (2) n1 d2) (by omega)) (an (bc (ad (2) (-1) d2 n1) (by omega)) (an (bc (ab (-1) (-2) n1 n2) (by omega)) (an (bb (ad (-2) (-1) n2 n1) (by omega)) (an (bc (ab (-1) (0) n1 d0) (by omega)) (bb (ad (0) (-1) d0 n1) (by omega))))))))))) (tE (by simp only;omega))
   ·exact run akB rfl (an fk (an (bb e8 (by omega)) (an (bb (ab (1) (0) d1 d0) (by omega)) (an (bc (ad (0) (1) d0 d1) (by omega)) (an (dw (ab (-1) (2) n1 d2) (by omega)) (an (dw (ad (2) (-1) d2 n1) (by omega)) (an (bc (ab (-1) (-2) n1 n2) (by omega)) (an (bb (ad (-2) (-1) n2 n1) (by omega)) (an (bc (ab (-1) (0) n1 d0) (by omega)) (bb (ad (0) (-1) d0 n1) (by omega))))))))))) (tE (by simp only;omega))
   ·exact run akp rfl (an fk (an (bb e8 (by omega)) (an (bb (ab (1) (0) d1 d0) (by omega)) (an (bc (ad (0) (1) d0 d1) (by omega)) (an (bc (ab (-1) (2) n1 d2) (by omega)) (an (bb (ad (2) (-1) d2 n1) (by omega)) (an (bc (ab (-1) (-2) n1 n2) (by omega)) (an (bb (ad (-2) (-1) n2 n1) (by omega)) (an (bc (ab (-1) (0) n1 d0) (by omega)) (bb (ad (0) (-1) d0 n1) (by omega))))))))))) (tE (by simp only;omega))
theorem aj2 (x:ByteArray) (hx:x.size<9223372036854775808):wL x 3:=by
 obtain⟨ρ,e0,e1,ex,b1,nz,fk,run⟩:=OL x hx
 obtain⟨d1,d0,d2,n1,n2⟩:=Ec
 have ab:=fun a b (ha:Bd a) (hb:Bd b)=>GZ (ρ:=ρ) ha hb ex b1
 have ad:=fun a b (ha:Bd a) (hb:Bd b)=>G0 (ρ:=ρ) ha hb ex b1
 generalize hp:pt x=p at e0 e1 nz run
 obtain⟨Y,v⟩:=p
 simp only at e0 e1
 have nz:¬(Y=0/\v=0):=fun h=>nz (Prod.ext h.1 h.2)
 rw[e0,e1]at ab ad
 clear ex b1
 have nZ:(U.var 300).I ρ=Y:=e0
 have e8:(U.var 301).I ρ=v:=e1
 clear e0 e1
 rcases Int.lt_trichotomy 0 v with c | c | c
 ·rcases Int.lt_trichotomy 0 (2*Y+v)with d | d | d
  ·rcases Int.lt_trichotomy 0 (v-2*Y)with e | e | e
   ·exact run aj7 rfl (an fk (an (bc e8 (by omega)) (an (bc (ab (1) (0) d1 d0) (by omega)) (an (bb (ad (0) (1) d0 d1) (by omega)) (an (bb (ab (-1) (2) n1 d2) (by omega)) (an (bc (ad (2) (-1) d2 n1) (by omega)) (an (bb (ab (-1) (-2) n1 n2) (by omega)) (an (bc (ad (-2) (-1) n2 n1) (by omega)) (an (bb (ab (-1) (0) n1 d0) (by omega)) (bc (ad (0) (-1) d0 n1) (by omega))))))))))) (ze (by simp only;omega))
   ·exact run akb rfl (an fk (an (bc e8 (by omega)) (an (bc (ab (1) (0) d1 d0) (by omega)) (an (bb (ad (0) (1) d0 d1) (by omega)) (an (bb (ab (-1) (2) n1 d2) (by omega)) (an (bc (ad (2) (-1) d2 n1) (by omega)) (an (dw (ab (-1) (-2) n1 n2) (by omega)) (an (dw (ad (-2) (-1) n2 n1) (by omega)) (an (bb (ab (-1) (0) n1 d0) (by omega)) (bc (ad (0) (-1) d0 n1) (by omega))))))))))) (ze (by simp only;omega))
   ·exact run akf rfl (an fk (an (bc e8 (by omega)) (an (bc (ab (1) (0) d1 d0) (by omega)) (an (bb (ad (0) (1) d0 d1) (by omega)) (an (bb (ab (-1) (2) n1 d2) (by omega)) (an (bc (ad (2) (-1) d2 n1) (by omega)) (an (bc (ab (-1) (-2) n1 n2) (by omega)) (an (bb (ad (-2) (-1) n2 n1) (by omega)) (an (bb (ab (-1) (0) n1 d0) (by omega)) (bc (ad (0) (-1) d0 n1) (by omega))))))))))) (ze (by simp only;omega))
  ·exact run akj rfl (an fk (an (bc e8 (by omega)) (an (bc (ab (1) (0) d1 d0) (by omega)) (an (bb (ad (0) (1) d0 d1) (by omega)) (an (dw (ab (-1) (2) n1 d2) (by omega)) (an (dw (ad (2) (-1) d2 n1) (by omega)) (an (bb (ab (-1) (-2) n1 n2) (by omega)) (an (bc (ad (-2) (-1) n2 n1) (by omega)) (an (bb (ab (-1) (0) n1 d0) (by omega)) (bc (ad (0) (-1) d0 n1) (by omega))))))))))) (tF (by simp only;omega) (by simp only;omega))
  ·exact run akn rfl (an fk (an (bc e8 (by omega)) (an (bc (ab (1) (0) d1 d0) (by omega)) (an (bb (ad (0) (1) d0 d1) (by omega)) (an (bc (ab (-1) (2) n1 d2) (by omega)) (an (bb (ad (2) (-1) d2 n1) (by omega)) (an (bb (ab (-1) (-2) n1 n2) (by omega)) (an (bc (ad (-2) (-1) n2 n1) (by omega)) (an (bb (ab (-1) (0) n1 d0) (by omega)) (bc (ad (0) (-1) d0 n1) (by omega))))))))))) (tF (by simp only;omega) (by simp only;omega))
 ·by_cases d:0<Y
  ·exact run akL rfl (an fk (an (dw e8 (by omega)) (an (bc nZ (by omega)) (an (dw (ab (1) (0) d1 d0) (by omega)) (an (dw (ad (0) (1) d0 d1) (by omega)) (an (bb (ab (-1) (2) n1 d2) (by omega)) (an (bc (ad (2) (-1) d2 n1) (by omega)) (an (bc (ab (-1) (-2) n1 n2) (by omega)) (an (bb (ad (-2) (-1) n2 n1) (by omega)) (an (dw (ab (-1) (0) n1 d0) (by omega)) (dw (ad (0) (-1) d0 n1) (by omega)))))))))))) (ze (by simp only;omega))
  ·exact run akP rfl (an fk (an (dw e8 (by omega)) (an (bb nZ (by omega)) (an (dw (ab (1) (0) d1 d0) (by omega)) (an (dw (ad (0) (1) d0 d1) (by omega)) (an (bc (ab (-1) (2) n1 d2) (by omega)) (an (bb (ad (2) (-1) d2 n1) (by omega)) (an (bb (ab (-1) (-2) n1 n2) (by omega)) (an (bc (ad (-2) (-1) n2 n1) (by omega)) (an (dw (ab (-1) (0) n1 d0) (by omega)) (dw (ad (0) (-1) d0 n1) (by omega)))))))))))) (tF (by simp only;omega) (by simp only;omega))
 ·rcases Int.lt_trichotomy 0 (v-2*Y)with d | d | d
  ·exact run akz rfl (an fk (an (bb e8 (by omega)) (an (bb (ab (1) (0) d1 d0) (by omega)) (an (bc (ad (0) (1) d0 d1) (by omega)) (an (bc (ab (-1) (2) n1 d2) (by omega)) (an (bb (ad (2) (-1) d2 n1) (by omega)) (an (bb (ab (-1) (-2) n1 n2) (by omega)) (an (bc (ad (-2) (-1) n2 n1) (by omega)) (an (bc (ab (-1) (0) n1 d0) (by omega)) (bb (ad (0) (-1) d0 n1) (by omega))))))))))) (tF (by simp only;omega) (by simp only;omega))
  ·exact run akv rfl (an fk (an (bb e8 (by omega)) (an (bb (ab (1) (0) d1 d0) (by omega)) (an (bc (ad (0) (1) d0 d1) (by omega)) (an (bc (ab (-1) (2) n1 d2) (by omega)) (an (bb (ad (2) (-1) d2 n1) (by omega)) (an (dw (ab (-1) (-2) n1 n2) (by omega)) (an (dw (ad (-2) (-1) n2 n1) (by omega)) (an (bc (ab (-1) (0) n1 d0) (by omega)) (bb (ad (0) (-1) d0 n1) (by omega))))))))))) (tG (by simp only;omega) (by simp only;omega))
  ·rcases Int.lt_trichotomy 0 (2*Y+v)with e | e | e
   ·exact run akH rfl (an fk (an (bb e8 (by omega)) (an (bb (ab (1) (0) d1 d0) (by omega)) (an (bc (ad (0) (1) d0 d1) (by omega)) (an (bb (ab (-1) (2) n1 d2) (by omega)) (an (bc (ad (2) (-1) d2 n1) (by omega)) (an (bc (ab (-1) (-2) n1 n2) (by omega)) (an (bb (ad (-2) (-1) n2 n1) (by omega)) (an (bc (ab (-1) (0) n1 d0) (by omega)) (bb (ad (0) (-1) d0 n1) (by omega))))))))))) (tG (by simp only;omega) (by simp only;omega))
   ·exact run akD rfl (an fk (an (bb e8 (by omega)) (an (bb (ab (1) (0) d1 d0) (by omega)) (an (bc (ad (0) (1) d0 d1) (by omega)) (an (dw (ab (-1) (2) n1 d2) (by omega)) (an (dw (ad (2) (-1) d2 n1) (by omega)) (an (bc (ab (-1) (-2) n1 n2) (by omega)) (an (bb (ad (-2) (-1) n2 n1) (by omega)) (an (bc (ab (-1) (0) n1 d0) (by omega)) (bb (ad (0) (-1) d0 n1) (by omega))))))))))) (tG (by simp only;omega) (by simp only;omega))
   ·exact run akr rfl (an fk (an (bb e8 (by omega)) (an (bb (ab (1) (0) d1 d0) (by omega)) (an (bc (ad (0) (1) d0 d1) (by omega)) (an (bc (ab (-1) (2) n1 d2) (by omega)) (an (bb (ad (2) (-1) d2 n1) (by omega)) (an (bc (ab (-1) (-2) n1 n2) (by omega)) (an (bb (ad (-2) (-1) n2 n1) (by omega)) (an (bc (ab (-1) (0) n1 d0) (by omega)) (bb (ad (0) (-1) d0 n1) (by omega))))))))))) (tG (by simp only;omega) (by simp only;omega))
theorem aj3 (x:ByteArray) (hx:x.size<9223372036854775808) (m:Int) (hm:1<=m/\m<=3):wL x m:=by
 have Mk:m=1\/m=2\/m=3:=by omega
 rcases Mk with rfl | rfl | rfl
 ·exact aj0 x hx
 ·exact aj1 x hx
 ·exact aj2 x hx
end Go.Proofs.YtpdfmnhgocpkcaaGreat
