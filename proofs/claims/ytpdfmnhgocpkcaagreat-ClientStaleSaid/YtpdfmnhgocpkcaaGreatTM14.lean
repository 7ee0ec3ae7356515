/- Parts of the proof, one behind the other. -/
import Derived.Test.YtpdfmnhgocpkcaaGreatTM13
namespace Go.Proofs.YtpdfmnhgocpkcaaGreat
open Go Go.Proofs.Aw Go.Proofs.Xw Go.Proofs.Sr
set_option maxRecDepth 100000
theorem bc {ρ:aa} {e:U} {z:Int} (h:e.I ρ=z) (k:0<z):J.ok ρ (cB e) :=
 J.av (by rw[sb,h];show ¬z=0;omega) (J.av (by rw[Kt,h];exact k) (J.av (by rw[mO,h];show 0<=z;omega) (J.bt _)))
theorem bb {ρ:aa} {e:U} {z:Int} (h:e.I ρ=z) (k:z<0):J.ok ρ (a6 e) :=
 J.av (by rw[sb,h];show ¬z=0;omega) (J.av (by rw[mO,h];show z<=0;omega) (J.av (by rw[Kt,h];exact k) (J.bt _)))
theorem dv {ρ:aa} {e:U} {z:Int} (h:e.I ρ=z) (k:z=0):J.ok ρ (h1 e) :=
 J.av (by rw[S4,h];exact k) (J.av (by rw[mO,h];show z<=0;omega) (J.av (by rw[mO,h];show 0<=z;omega) (J.bt _)))
def wL (x:ByteArray) (m:Int):Prop:=cf Tryz.prog 104=true/\∀n h,CY Tryz.prog n 104 [.sc (.string x),.sc (.int .i64 m)] h (.sc (.int .i64 (sec m (pt x)))) []
theorem OL (x:ByteArray) (hx:x.size<9223372036854775808):∃ρ:aa,ρ.i 300=(pt x).1/\ρ.i 301=(pt x).2/\Bd (ρ.i 300)/\Bd (ρ.i 301)/\pt x≠(0,0)/\J.ok ρ dU /\
  ∀{m k:Int} {B:J} {t:T X},aM ⟨bd cH (fun _=>[]),[],[66,127]⟩ 104 [cv 0,cT m] B=t->t = .ret (.sc (.i .i64 (.lit k)))->J.ok ρ B->sec m (pt x)=k->wL x m:=by
 obtain⟨Q5,Q6,Do,Q7,Q8⟩:=XG hx
 let ρ:aa:=⟨fun k=>if k=300 then(pt x).1 else if k=301 then(pt x).2 else 0,fun _=>false,fun _=>x,fun _=>0,fun _ _ _=>0,fun _ _ _=>false,fun _ _ _=>⟨#[]⟩,kz⟩
 have es:Bd (ρ.i 300):=⟨Q5.1,by show(pt x).1<=_;omega⟩
 have b1:Bd (ρ.i 301):=⟨Q6.1,by show(pt x).2<=_;omega⟩
 have z6:∀k,Bd (ρ.i k)->J.ok ρ (G3 k):=fun k h=>J.av (by rw[mO];exact h.1) (J.av (by rw[mO];exact h.2) (J.bt _))
 have nz:¬(ρ.i 300=0/\ρ.i 301=0):=fun h=>Do (Prod.ext h.1 h.2)
 have fk:J.ok ρ dU:=al (al (z6 300 es) (z6 301 b1)) (J.av (by rw[SR,sb,sb];simp only[U.I];omega) (J.bt _))
 have k1:cf Tryz.prog 68=true/\∀n h,CY Tryz.prog n 68 (X.af ρ [cv 0]) h (X.I ρ (OI 300 301)) []:=Q7
 have k2:cf Tryz.prog 145=true/\∀n h,CY Tryz.prog n 145 (X.af ρ [cv 0]) h (X.I ρ (OV 300 301)) []:=Q8
 have Kb:b4 Tryz.prog ρ (bd cH (fun _=>[])):=hj (List.forall_mem_cons.2 ⟨k1,List.forall_mem_cons.2 ⟨k2,List.forall_mem_nil _⟩⟩) (fun _ _ _=>a1.nil _ _ _ _)
 refine⟨ρ,rfl,rfl,es,b1,Do,fk,?_⟩
 intro m k B t A E h3 h4
 unfold wL
 rw[h4]
 exact ec (c:=⟨bd cH (fun _=>[]),[],[66,127]⟩) Kb (List.forall_mem_nil _) h3 (r := .sc (.i .i64 (.lit k))) (by rw[A,E];rfl)
theorem aj3 (x:ByteArray) (hx:x.size<9223372036854775808):wL x 1:=by
 obtain⟨ρ,_,_,_,_,_,fk,run⟩:=OL x hx
 exact run aj2 rfl fk rfl
theorem aj4 (x:ByteArray) (hx:x.size<9223372036854775808):wL x 2:=by
 obtain⟨ρ,e0,e1,es,b1,nz,fk,run⟩:=OL x hx
 obtain⟨d1,d0,d2,n1,n2⟩:=Ed
 have ab:=fun a b (ha:Bd a) (hb:Bd b)=>G0 (ρ:=ρ) ha hb es b1
 have ad:=fun a b (ha:Bd a) (hb:Bd b)=>G1 (ρ:=ρ) ha hb es b1
 generalize hp:pt x=p at e0 e1 nz run
 obtain⟨Y,v⟩:=p
 simp only at e0 e1
 have nz:¬(Y=0/\v=0):=fun h=>nz (Prod.ext h.1 h.2)
 rw[e0,e1]at ab ad
 clear es b1
 have nW:(U.var 300).I ρ=Y:=e0
 have e7:(U.var 301).I ρ=v:=e1
 clear e0 e1
 rcases Int.lt_trichotomy 0 v with c | c | c
 ·rcases Int.lt_trichotomy 0 (2*Y+v)with d | d | d
  ·rcases Int.lt_trichotomy 0 (v-2*Y)with e | e | e
   ·exact run aj8 rfl (al fk (al (bc e7 (by omega)) (al (bc (ab (1) (0) d1 d0) (by omega)) (al (bb (ad (0) (1) d0 d1) (by omega)) (al (bb (ab (-1) (2) n1 d2) (by omega)) (al (bc (ad (2) (-1) d2 n1) (by omega)) (al (bb (ab (-1) (-2) n1 n2) (by omega)) (al (bc (ad (-2) (-1) n2 n1) (by omega)) (al (bb (ab (-1) (0) n1 d0) (by omega)) (bc (ad (0) (-1) d0 n1) (by omega))))))))))) (tD (by simp only;omega))
   ·exact run akc rfl (al fk (al (bc e7 (by omega)) (al (bc (ab (1) (0) d1 d0) (by omega)) (al (bb (ad (0) (1) d0 d1) (by omega)) (al (bb (ab (-1) (2) n1 d2) (by omega)) (al (bc (ad (2) (-1) d2 n1) (by omega)) (al (dv (ab (-1) (-2) n1 n2) (by omega)) (al (dv (ad (-2) (-1) n2 n1) (by omega)) (al (bb (ab (-1) (0) n1 d0) (by omega)) (bc (ad (0) (-1) d0 n1) (by omega))))))))))) (tD (by simp only;omega))
   ·exact run akg rfl (al fk (al (bc e7 (by omega)) (al (bc (ab (1) (0) d1 d0) (by omega)) (al (bb (ad (0) (1) d0 d1) (by omega)) (al (bb (ab (-1) (2) n1 d2) (by omega)) (al (bc (ad (2) (-1) d2 n1) (by omega)) (al (bc (ab (-1) (-2) n1 n2) (by omega)) (al (bb (ad (-2) (-1) n2 n1) (by omega)) (al (bb (ab (-1) (0) n1 d0) (by omega)) (bc (ad (0) (-1) d0 n1) (by omega))))))))))) (tD (by simp only;omega))
  ·exact run akk rfl (al fk (al (bc e7 (by omega)) (al (bc (ab (1) (0) d1 d0) (by omega)) (al (bb (ad (0) (1) d0 d1) (by omega)) (al (dv (ab (-1) (2) n1 d2) (by omega)) (al (dv (ad (2) (-1) d2 n1) (by omega)) (al (bb (ab (-1) (-2) n1 n2) (by omega)) (al (bc (ad (-2) (-1) n2 n1) (by omega)) (al (bb (ab (-1) (0) n1 d0) (by omega)) (bc (ad (0) (-1) d0 n1) (by omega))))))))))) (tD (by simp only;omega))
  ·exact run ako rfl (al fk (al (bc e7 (by omega)) (al (bc (ab (1) (0) d1 d0) (by omega)) (al (bb (ad (0) (1) d0 d1) (by omega)) (al (bc (ab (-1) (2) n1 d2) (by omega)) (al (bb (ad (2) (-1) d2 n1) (by omega)) (al (bb (ab (-1) (-2) n1 n2) (by omega)) (al (bc (ad (-2) (-1) n2 n1) (by omega)) (al (bb (ab (-1) (0) n1 d0) (by omega)) (bc (ad (0) (-1) d0 n1) (by omega))))))))))) (tD (by simp only;omega))
 ·by_cases d:0<Y
  ·exact run akM rfl (al fk (al (dv e7 (by omega)) (al (bc nW (by omega)) (al (dv (ab (1) (0) d1 d0) (by omega)) (al (dv (ad (0) (1) d0 d1) (by omega)) (al (bb (ab (-1) (2) n1 d2) (by omega)) (al (bc (ad (2) (-1) d2 n1) (by omega)) (al (bc (ab (-1) (-2) n1 n2) (by omega)) (al (bb (ad (-2) (-1) n2 n1) (by omega)) (al (dv (ab (-1) (0) n1 d0) (by omega)) (dv (ad (0) (-1) d0 n1) (by omega)))))))))))) (tD (by simp only;omega))
  ·exact run akQ rfl (al fk (al (dv e7 (by omega)) (al (bb nW (by omega)) (al (dv (ab (1) (0) d1 d0) (by omega)) (al (dv (ad (0) (1) d0 d1) (by omega)) (al (bc (ab (-1) (2) n1 d2) (by omega)) (al (bb (ad (2) (-1) d2 n1) (by omega)) (al (bb (ab (-1) (-2) n1 n2) (by omega)) (al (bc (ad (-2) (-1) n2 n1) (by omega)) (al (dv (ab (-1) (0) n1 d0) (by omega)) (dv (ad (0) (-1) d0 n1) (by omega)))))))))))) (tE (by simp only;omega))
 ·rcases Int.lt_trichotomy 0 (v-2*Y)with d | d | d
  ·exact run akA rfl (al fk (al (bb e7 (by omega)) (al (bb (ab (1) (0) d1 d0) (by omega)) (al (bc (ad (0) (1) d0 d1) (by omega)) (al (bc (ab (-1) (2) n1 d2) (by omega)) (al (bb (ad (2) (-1) d2 n1) (by omega)) (al (bb (ab (-1) (-2) n1 n2) (by omega)) (al (bc (ad (-2) (-1) n2 n1) (by omega)) (al (bc (ab (-1) (0) n1 d0) (by omega)) (bb (ad (0) (-1) d0 n1) (by omega))))))))))) (tE (by simp only;omega))
  ·exact run akw rfl (al fk (al (bb e7 (by omega)) (al (bb (ab (1) (0) d1 d0) (by omega)) (al (bc (ad (0) (1) d0 d1) (by omega)) (al (bc (ab (-1) (2) n1 d2) (by omega)) (al (bb (ad (2) (-1) d2 n1) (by omega)) (al (dv (ab (-1) (-2) n1 n2) (by omega)) (al (dv (ad (-2) (-1) n2 n1) (by omega)) (al (bc (ab (-1) (0) n1 d0) (by omega)) (bb (ad (0) (-1) d0 n1) (by omega))))))))))) (tE (by simp only;omega))
  ·rcases Int.lt_trichotomy 0 (2*Y+v)with e | e | e
   ·exact run akI rfl (al fk (al (bb e7 (by omega)) (al (bb (ab (1) (0) d1 d0) (by omega)) (al (bc (ad (0) (1) d0 d1) (by omega)) (al (bb (ab (-1) (2) n1 d2) (by omega)) (al (bc (ad (2) (-1) d2 n1) (by omega)) (al (bc (ab (-1) (-2) n1 n2) (by omega)) (al (bb (ad (-2) (-1) n2 n1) (by omega)) (al (bc (ab (-1) (0) n1 d0) (by omega)) (bb (ad (0) (-1) d0 n1) (by omega))))))))))) (tE (by simp only;omega))
   ·exact run akE rfl (al fk (al (bb e7 (by omega)) (al (bb (ab (1) (0) d1 d0) (by omega)) (al (bc (ad (0) (1) d0 d1) (by omega)) (al (dv (ab (-1) (2) n1 d2) (by omega)) (al (dv (ad (2) (-1) d2 n1) (by omega)) (al (bc (ab (-1) (-2) n1 n2) (by omega)) (al (bb (ad (-2) (-1) n2 n1) (by omega)) (al (bc (ab (-1) (0) n1 d0) (by omega)) (bb (ad (0) (-1) d0 n1) (by omega))))))))))) (tE (by simp only;omega))
   ·exact run aks rfl (al fk (al (bb e7 (by omega)) (al (bb (ab (1) (0) d1 d0) (by omega)) (al (bc (ad (0) (1) d0 d1) (by omega)) (al (bc (ab (-1) (2) n1 d2) (by omega)) (al (bb (ad (2) (-1) d2 n1) (by omega)) (al (bc (ab (-1) (-2) n1 n2) (by omega)) (al (bb (ad (-2) (-1) n2 n1) (by omega)) (al (bc (ab (-1) (0) n1 d0) (by omega)) (bb (ad (0) (-1) d0 n1) (by omega))))))))))) (tE (by simp only;omega))
theorem aj5 (x:ByteArray) (hx:x.size<9223372036854775808):wL x 3:=by
 obtain⟨ρ,e0,e1,es,b1,nz,fk,run⟩:=OL x hx
 obtain⟨d1,d0,d2,n1,n2⟩:=Ed
 have ab:=fun a b (ha:Bd a) (hb:Bd b)=>G0 (ρ:=ρ) ha hb es b1
 have ad:=fun a b (ha:Bd a) (hb:Bd b)=>G1 (ρ:=ρ) ha hb es b1
 generalize hp:pt x=p at e0 e1 nz run
 obtain⟨Y,v⟩:=p
 simp only at e0 e1
 have nz:¬(Y=0/\v=0):=fun h=>nz (Prod.ext h.1 h.2)
 rw[e0,e1]at ab ad
 clear es b1
 have nW:(U.var 300).I ρ=Y:=e0
 have e7:(U.var 301).I ρ=v:=e1
 clear e0 e1
 rcases Int.lt_trichotomy 0 v with c | c | c
 ·rcases Int.lt_trichotomy 0 (2*Y+v)with d | d | d
  ·rcases Int.lt_trichotomy 0 (v-2*Y)with e | e | e
   ·exact run aka rfl (al fk (al (bc e7 (by omega)) (al (bc (ab (1) (0) d1 d0) (by omega)) (al (bb (ad (0) (1) d0 d1) (by omega)) (al (bb (ab (-1) (2) n1 d2) (by omega)) (al (bc (ad (2) (-1) d2 n1) (by omega)) (al (bb (ab (-1) (-2) n1 n2) (by omega)) (al (bc (ad (-2) (-1) n2 n1) (by omega)) (al (bb (ab (-1) (0) n1 d0) (by omega)) (bc (ad (0) (-1) d0 n1) (by omega))))))))))) (zf (by simp only;omega))
   ·exact run ake rfl (al fk (al (bc e7 (by omega)) (al (bc (ab (1) (0) d1 d0) (by omega)) (al (bb (ad (0) (1) d0 d1) (by omega)) (al (bb (ab (-1) (2) n1 d2) (by omega)) (al (bc (ad (2) (-1) d2 n1) (by omega)) (al (dv (ab (-1) (-2) n1 n2) (by omega)) (al (dv (ad (-2) (-1) n2 n1) (by omega)) (al (bb (ab (-1) (0) n1 d0) (by omega)) (bc (ad (0) (-1) d0 n1) (by omega))))))))))) (zf (by simp only;omega))
   ·exact run aki rfl (al fk (al (bc e7 (by omega)) (al (bc (ab (1) (0) d1 d0) (by omega)) (al (bb (ad (0) (1) d0 d1) (by omega)) (al (bb (ab (-1) (2) n1 d2) (by omega)) (al (bc (ad (2) (-1) d2 n1) (by omega)) (al (bc (ab (-1) (-2) n1 n2) (by omega)) (al (bb (ad (-2) (-1) n2 n1) (by omega)) (al (bb (ab (-1) (0) n1 d0) (by omega)) (bc (ad (0) (-1) d0 n1) (by omega))))))))))) (zf (by simp only;omega))
  ·exact run akm rfl (al fk (al (bc e7 (by omega)) (al (bc (ab (1) (0) d1 d0) (by omega)) (al (bb (ad (0) (1) d0 d1) (by omega)) (al (dv (ab (-1) (2) n1 d2) (by omega)) (al (dv (ad (2) (-1) d2 n1) (by omega)) (al (bb (ab (-1) (-2) n1 n2) (by omega)) (al (bc (ad (-2) (-1) n2 n1) (by omega)) (al (bb (ab (-1) (0) n1 d0) (by omega)) (bc (ad (0) (-1) d0 n1) (by omega))))))))))) (tF (by simp only;omega) (by simp only;omega))
  ·exact run akq rfl (al fk (al (bc e7 (by omega)) (al (bc (ab (1) (0) d1 d0) (by omega)) (al (bb (ad (0) (1) d0 d1) (by omega)) (al (bc (ab (-1) (2) n1 d2) (by omega)) (al (bb (ad (2) (-1) d2 n1) (by omega)) (al (bb (ab (-1) (-2) n1 n2) (by omega)) (al (bc (ad (-2) (-1) n2 n1) (by omega)) (al (bb (ab (-1) (0) n1 d0) (by omega)) (bc (ad (0) (-1) d0 n1) (by omega))))))))))) (tF (by simp only;omega) (by simp only;omega))
 ·by_cases d:0<Y
  ·exact run akO rfl (al fk (al (dv e7 (by omega)) (al (bc nW (by omega)) (al (dv (ab (1) (0) d1 d0) (by omega)) (al (dv (ad (0) (1) d0 d1) (by omega)) (al (bb (ab (-1) (2) n1 d2) (by omega)) (al (bc (ad (2) (-1) d2 n1) (by omega)) (al (bc (ab (-1) (-2) n1 n2) (by omega)) (al (bb (ad (-2) (-1) n2 n1) (by omega)) (al (dv (ab (-1) (0) n1 d0) (by omega)) (dv (ad (0) (-1) d0 n1) (by omega)))))))))))) (zf (by simp only;omega))
  ·exact run akS rfl (al fk (al (dv e7 (by omega)) (al (bb nW (by omega)) (al (dv (ab (1) (0) d1 d0) (by omega)) (al (dv (ad (0) (1) d0 d1) (by omega)) (al (bc (ab (-1) (2) n1 d2) (by omega)) (al (bb (ad (2) (-1) d2 n1) (by omega)) (al (bb (ab (-1) (-2) n1 n2) (by omega)) (al (bc (ad (-2) (-1) n2 n1) (by omega)) (al (dv (ab (-1) (0) n1 d0) (by omega)) (dv (ad (0) (-1) d0 n1) (by omega)))))))))))) (tF (by simp only;omega) (by simp only;omega))
 ·rcases Int.lt_trichotomy 0 (v-2*Y)with d | d | d
  ·exact run akC rfl (al fk (al (bb e7 (by omega)) (al (bb (ab (1) (0) d1 d0) (by omega)) (al (bc (ad (0) (1) d0 d1) (by omega)) (al (bc (ab (-1) (2) n1 d2) (by omega)) (al (bb (ad (2) (-1) d2 n1) (by omega)) (al (bb (ab (-1) (-2) n1 n2) (by omega)) (al (bc (ad (-2) (-1) n2 n1) (by omega)) (al (bc (ab (-1) (0) n1 d0) (by omega)) (bb (ad (0) (-1) d0 n1) (by omega))))))))))) (tF (by simp only;omega) (by simp only;omega))
  ·exact run aky rfl (al fk (al (bb e7 (by omega)) (al (bb (ab (1) (0) d1 d0) (by omega)) (al (bc (ad (0) (1) d0 d1) (by omega)) (al (bc (ab (-1) (2) n1 d2) (by omega)) (al (bb (ad (2) (-1) d2 n1) (by omega)) (al (dv (ab (-1) (-2) n1 n2) (by omega)) (al (dv (ad (-2) (-1) n2 n1) (by omega)) (al (bc (ab (-1) (0) n1 d0) (by omega)) (bb (ad (0) (-1) d0 n1) (by omega))))))))))) (tG (by simp only;omega) (by simp only;omega))
  ·rcases Int.lt_trichotomy 0 (2*Y+v)with e | e | e
   ·exact run akK rfl (al fk (al (bb e7 (by omega)) (al (bb (ab (1) (0) d1 d0) (by omega)) (al (bc (ad (0) (1) d0 d1) (by omega)) (al (bb (ab (-1) (2) n1 d2) (by omega)) (al (bc (ad (2) (-1) d2 n1) (by omega)) (al (bc (ab (-1) (-2) n1 n2) (by omega)) (al (bb (ad (-2) (-1) n2 n1) (by omega)) (al (bc (ab (-1) (0) n1 d0) (by omega)) (bb (ad (0) (-1) d0 n1) (by omega))))))))))) (tG (by simp only;omega) (by simp only;omega))
   ·exact run akG rfl (al fk (al (bb e7 (by omega)) (al (bb (ab (1) (0) d1 d0) (by omega)) (al (bc (ad (0) (1) d0 d1) (by omega)) (al (dv (ab (-1) (2) n1 d2) (by omega)) (al (dv (ad (2) (-1) d2 n1) (by omega)) (al (bc (ab (-1) (-2) n1 n2) (by omega)) (al (bb (ad (-2) (-1) n2 n1) (by omega)) (al (bc (ab (-1) (0) n1 d0) (by omega)) (bb (ad (0) (-1) d0 n1) (by omega))))))))))) (tG (by simp only;omega) (by simp only;omega))
   ·exact run aku rfl (al fk (al (bb e7 (by omega)) (al (bb (ab (1) (0) d1 d0) (by omega)) (al (bc (ad (0) (1) d0 d1) (by omega)) (al (bc (ab (-1) (2) n1 d2) (by omega)) (al (bb (ad (2) (-1) d2 n1) (by omega)) (al (bc (ab (-1) (-2) n1 n2) (by omega)) (al (bb (ad (-2) (-1) n2 n1) (by omega)) (al (bc (ab (-1) (0) n1 d0) (by omega)) (bb (ad (0) (-1) d0 n1) (by omega))))))))))) (tG (by simp only;omega) (by simp only;omega))
theorem aj6 (x:ByteArray) (hx:x.size<9223372036854775808) (m:Int) (hm:1<=m/\m<=3):wL x m:=by
 have Mj:m=1\/m=2\/m=3:=by omega
 rcases Mj with rfl | rfl | rfl
 ·exact aj3 x hx
 ·exact aj4 x hx
 ·exact aj5 x hx
end Go.Proofs.YtpdfmnhgocpkcaaGreat
