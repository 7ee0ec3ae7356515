/- Parts of the proof, one behind the other. -/
import Derived.Test.YtpdfmnhgocpkcaaGreatTK23
namespace Go.Proofs.YtpdfmnhgocpkcaaGreat
open Go Go.Proofs.Aw Go.Proofs.Xw Go.Proofs.Sr
set_option maxRecDepth 100000
theorem be {ρ:aa} {e:U} {z:Int} (h:e.I ρ=z) (k:0<z):J.ok ρ (cG e) :=
 J.aw (by rw[sF,h];show ¬z=0;omega) (J.aw (by rw[KL,h];exact k) (J.aw (by rw[mZ,h];show 0<=z;omega) (J.bq _)))
theorem bd {ρ:aa} {e:U} {z:Int} (h:e.I ρ=z) (k:z<0):J.ok ρ (a9 e) :=
 J.aw (by rw[sF,h];show ¬z=0;omega) (J.aw (by rw[mZ,h];show z<=0;omega) (J.aw (by rw[KL,h];exact k) (J.bq _)))
theorem dA {ρ:aa} {e:U} {z:Int} (h:e.I ρ=z) (k:z=0):J.ok ρ (im e) :=
 J.aw (by rw[Tm,h];exact k) (J.aw (by rw[mZ,h];show z<=0;omega) (J.aw (by rw[mZ,h];show 0<=z;omega) (J.bq _)))
def w6 (x:ByteArray) (m:Int):Prop:=cj Tryz.prog 104=true/\∀n h,CY Tryz.prog n 104 [.sc (.string x),.sc (.int .i64 m)] h (.sc (.int .i64 (sec m (pt x)))) []
theorem OW (x:ByteArray) (hx:x.size<9223372036854775808):∃ρ:aa,ρ.i 300=(pt x).1/\ρ.i 301=(pt x).2/\Bd (ρ.i 300)/\Bd (ρ.i 301)/\pt x≠(0,0)/\J.ok ρ d_ /\
  ∀{m k:Int} {B:J} {t:T X},aS ⟨bg cO (fun _=>[]),[],[66,127]⟩ 104 [cD 0,cX m] B=t->t = .ret (.sc (.i .i64 (.lit k)))->J.ok ρ B->sec m (pt x)=k->w6 x m:=by
 obtain⟨Rh,Ri,DP,Rj,Rk⟩:=X3 hx
 let ρ:aa:=⟨fun k=>if k=300 then(pt x).1 else if k=301 then(pt x).2 else 0,fun _=>false,fun _=>x,fun _=>0,fun _ _ _=>0,fun _ _ _=>false,fun _ _ _=>⟨#[]⟩,kN⟩
 have eR:Bd (ρ.i 300):=⟨Rh.1,by show(pt x).1<=_;omega⟩
 have b1:Bd (ρ.i 301):=⟨Ri.1,by show(pt x).2<=_;omega⟩
 have Ak:∀k,Bd (ρ.i k)->J.ok ρ (Hn k):=fun k h=>J.aw (by rw[mZ];exact h.1) (J.aw (by rw[mZ];exact h.2) (J.bq _))
 have nz:¬(ρ.i 300=0/\ρ.i 301=0):=fun h=>DP (Prod.ext h.1 h.2)
 have fk:J.ok ρ d_:=an (an (Ak 300 eR) (Ak 301 b1)) (J.aw (by rw[Tb,sF,sF];simp only[U.I];omega) (J.bq _))
 have k1:cj Tryz.prog 68=true/\∀n h,CY Tryz.prog n 68 (X.af ρ [cD 0]) h (X.I ρ (OT 300 301)) []:=Rj
 have k2:cj Tryz.prog 145=true/\∀n h,CY Tryz.prog n 145 (X.af ρ [cD 0]) h (X.I ρ (O8 300 301)) []:=Rk
 have Kw:cf Tryz.prog ρ (bg cO (fun _=>[])):=jz (List.forall_mem_cons.2 ⟨k1,List.forall_mem_cons.2 ⟨k2,List.forall_mem_nil _⟩⟩) (fun _ _ _=>a5.nil _ _ _ _)
 refine⟨ρ,rfl,rfl,eR,b1,DP,fk,?_⟩
 intro m k B t A E h3 h4
 unfold w6
 rw[h4]
 exact eG (c:=⟨bg cO (fun _=>[]),[],[66,127]⟩) Kw (List.forall_mem_nil _) h3 (r := .sc (.i .i64 (.lit k))) (by rw[A,E];rfl)
theorem akh (x:ByteArray) (hx:x.size<9223372036854775808):w6 x 1:=by
 obtain⟨ρ,_,_,_,_,_,fk,run⟩:=OW x hx
 exact run akg rfl fk rfl
theorem aki (x:ByteArray) (hx:x.size<9223372036854775808):w6 x 2:=by
 obtain⟨ρ,e0,e1,eR,b1,nz,fk,run⟩:=OW x hx
 obtain⟨d1,d0,d2,n1,n2⟩:=Ez
 have ab:=fun a b (ha:Bd a) (hb:Bd b)=>Hk (ρ:=ρ) ha hb eR b1
 have ad:=fun a b (ha:Bd a) (hb:Bd b)=>Hl (ρ:=ρ) ha hb eR b1
 generalize hp:pt x=p at e0 e1 nz run
 obtain⟨Y,v⟩:=p
 simp only at e0 e1
 have nz:¬(Y=0/\v=0):=fun h=>nz (Prod.ext h.1 h.2)
 rw[e0,e1]at ab ad
 clear eR b1
 have n7:(U.var 300).I ρ=Y:=e0
 have fd:(U.var 301).I ρ=v:=e1
 clear e0 e1
 rcases Int.lt_trichotomy 0 v with c | c | c
 ·rcases Int.lt_trichotomy 0 (2*Y+v)with d | d | d
  ·rcases Int.lt_trichotomy 0 (v-2*Y)with e | e | e
   ·exact run akm rfl (an fk (an (be fd (by omega)) (an (be (ab (1) (0) d1 d0) (by omega)) (an (bd (ad (0) (1) d0 d1) (by omega)) (an (bd (ab (-1) (2) n1 d2) (by omega)) (an (be (ad (2) (-1) d2 n1) (by omega)) (an (bd (ab (-1) (-2) n1 n2) (by omega)) (an (be (ad (-2) (-1) n2 n1) (by omega)) (an (bd (ab (-1) (0) n1 d0) (by omega)) (be (ad (0) (-1) d0 n1) (by omega))))))))))) (tV (by simp only;omega))
   ·exact run akq rfl (an fk (an (be fd (by omega)) (an (be (ab (1) (0) d1 d0) (by omega)) (an (bd (ad (0) (1) d0 d1) (by omega)) (an (bd (ab (-1) (2) n1 d2) (by omega)) (an (be (ad (2) (-1) d2 n1) (by omega)) (an (dA (ab (-1) (-2) n1 n2) (by omega)) (an (dA (ad (-2) (-1) n2 n1) (by omega)) (an (bd (ab (-1) (0) n1 d0) (by omega)) (be (ad (0) (-1) d0 n1) (by omega))))))))))) (tV (by simp only;omega))
   ·exact run aku rfl (an fk (an (be fd (by omega)) (an (be (ab (1) (0) d1 d0) (by omega)) (an (bd (ad (0) (1) d0 d1) (by omega)) (an (bd (ab (-1) (2) n1 d2) (by omega)) (an (be (ad (2) (-1) d2 n1) (by omega)) (an (be (ab (-1) (-2) n1 n2) (by omega)) (an (bd (ad (-2) (-1) n2 n1) (by omega)) (an (bd (ab (-1) (0) n1 d0) (by omega)) (be (ad (0) (-1) d0 n1) (by omega))))))))))) (tV (by simp only;omega))
  ·exact run aky rfl (an fk (an (be fd (by omega)) (an (be (ab (1) (0) d1 d0) (by omega)) (an (bd (ad (0) (1) d0 d1) (by omega)) (an (dA (ab (-1) (2) n1 d2) (by omega)) (an (dA (ad (2) (-1) d2 n1) (by omega)) (an (bd (ab (-1) (-2) n1 n2) (by omega)) (an (be (ad (-2) (-1) n2 n1) (by omega)) (an (bd (ab (-1) (0) n1 d0) (by omega)) (be (ad (0) (-1) d0 n1) (by omega))))))))))) (tV (by simp only;omega))
  ·exact run akC rfl (an fk (an (be fd (by omega)) (an (be (ab (1) (0) d1 d0) (by omega)) (an (bd (ad (0) (1) d0 d1) (by omega)) (an (be (ab (-1) (2) n1 d2) (by omega)) (an (bd (ad (2) (-1) d2 n1) (by omega)) (an (bd (ab (-1) (-2) n1 n2) (by omega)) (an (be (ad (-2) (-1) n2 n1) (by omega)) (an (bd (ab (-1) (0) n1 d0) (by omega)) (be (ad (0) (-1) d0 n1) (by omega))))))))))) (tV (by simp only;omega))
 ·by_cases d:0<Y
  ·exact run ak0 rfl (an fk (an (dA fd (by omega)) (an (be n7 (by omega)) (an (dA (ab (1) (0) d1 d0) (by omega)) (an (dA (ad (0) (1) d0 d1) (by omega)) (an (bd (ab (-1) (2) n1 d2) (by omega)) (an (be (ad (2) (-1) d2 n1) (by omega)) (an (be (ab (-1) (-2) n1 n2) (by omega)) (an (bd (ad (-2) (-1) n2 n1) (by omega)) (an (dA (ab (-1) (0) n1 d0) (by omega)) (dA (ad (0) (-1) d0 n1) (by omega)))))))))))) (tV (by simp only;omega))
  ·exact run ak4 rfl (an fk (an (dA fd (by omega)) (an (bd n7 (by omega)) (an (dA (ab (1) (0) d1 d0) (by omega)) (an (dA (ad (0) (1) d0 d1) (by omega)) (an (be (ab (-1) (2) n1 d2) (by omega)) (an (bd (ad (2) (-1) d2 n1) (by omega)) (an (bd (ab (-1) (-2) n1 n2) (by omega)) (an (be (ad (-2) (-1) n2 n1) (by omega)) (an (dA (ab (-1) (0) n1 d0) (by omega)) (dA (ad (0) (-1) d0 n1) (by omega)))))))))))) (tW (by simp only;omega))
 ·rcases Int.lt_trichotomy 0 (v-2*Y)with d | d | d
  ·exact run akO rfl (an fk (an (bd fd (by omega)) (an (bd (ab (1) (0) d1 d0) (by omega)) (an (be (ad (0) (1) d0 d1) (by omega)) (an (be (ab (-1) (2) n1 d2) (by omega)) (an (bd (ad (2) (-1) d2 n1) (by omega)) (an (bd (ab (-1) (-2) n1 n2) (by omega)) (an (be (ad (-2) (-1) n2 n1) (by omega)) (an (be (ab (-1) (0) n1 d0) (by omega)) (bd (ad (0) (-1) d0 n1) (by omega))))))))))) (tW (by simp only;omega))
  ·exact run akK rfl (an fk (an (bd fd (by omega)) (an (bd (ab (1) (0) d1 d0) (by omega)) (an (be (ad (0) (1) d0 d1) (by omega)) (an (be (ab (-1) (2) n1 d2) (by omega)) (an (bd (ad (2) (-1) d2 n1) (by omega)) (an (dA (ab (-1) (-2) n1 n2) (by omega)) (an (dA (ad (-2) (-1) n2 n1) (by omega)) (an (be (ab (-1) (0) n1 d0) (by omega)) (bd (ad (0) (-1) d0 n1) (by omega))))))))))) (tW (by simp only;omega))
  ·rcases Int.lt_trichotomy 0 (2*Y+v)with e | e | e
   ·exact run akW rfl (an fk (an (bd fd (by omega)) (an (bd (ab (1) (0) d1 d0) (by omega)) (an (be (ad (0) (1) d0 d1) (by omega)) (an (bd (ab (-1) (2) n1 d2) (by omega)) (an (be (ad (2) (-1) d2 n1) (by omega)) (an (be (ab (-1) (-2) n1 n2) (by omega)) (an (bd (ad (-2) (-1) n2 n1) (by omega)) (an (be (ab (-1) (0) n1 d0) (by omega)) (bd (ad (0) (-1) d0 n1) (by omega))))))))))) (tW (by simp only;omega))
   ·exact run akS rfl (an fk (an (bd fd (by omega)) (an (bd (ab (1) (0) d1 d0) (by omega)) (an (be (ad (0) (1) d0 d1) (by omega)) (an (dA (ab (-1) (2) n1 d2) (by omega)) (an (dA (ad (2) (-1) d2 n1) (by omega)) (an (be (ab (-1) (-2) n1 n2) (by omega)) (an (bd (ad (-2) (-1) n2 n1) (by omega)) (an (be (ab (-1) (0) n1 d0) (by omega)) (bd (ad (0) (-1) d0 n1) (by omega))))))))))) (tW (by simp only;omega))
   ·exact run akG rfl (an fk (an (bd fd (by omega)) (an (bd (ab (1) (0) d1 d0) (by omega)) (an (be (ad (0) (1) d0 d1) (by omega)) (an (be (ab (-1) (2) n1 d2) (by omega)) (an (bd (ad (2) (-1) d2 n1) (by omega)) (an (be (ab (-1) (-2) n1 n2) (by omega)) (an (bd (ad (-2) (-1) n2 n1) (by omega)) (an (be (ab (-1) (0) n1 d0) (by omega)) (bd (ad (0) (-1) d0 n1) (by omega))))))))))) (tW (by simp only;omega))
theorem akj (x:ByteArray) (hx:x.size<9223372036854775808):w6 x 3:=by
 obtain⟨ρ,e0,e1,eR,b1,nz,fk,run⟩:=OW x hx
 obtain⟨d1,d0,d2,n1,n2⟩:=Ez
 have ab:=fun a b (ha:Bd a) (hb:Bd b)=>Hk (ρ:=ρ) ha hb eR b1
 have ad:=fun a b (ha:Bd a) (hb:Bd b)=>Hl (ρ:=ρ) ha hb eR b1
 generalize hp:pt x=p at e0 e1 nz run
 obtain⟨Y,v⟩:=p
 simp only at e0 e1
 have nz:¬(Y=0/\v=0):=fun h=>nz (Prod.ext h.1 h.2)
 rw[e0,e1]at ab ad
 clear eR b1
 have n7:(U.var 300).I ρ=Y:=e0
 have fd:(U.var 301).I ρ=v:=e1
 clear e0 e1
 rcases Int.lt_trichotomy 0 v with c | c | c
 ·rcases Int.lt_trichotomy 0 (2*Y+v)with d | d | d
  ·rcases Int.lt_trichotomy 0 (v-2*Y)with e | e | e
   ·exact run ako rfl (an fk (an (be fd (by omega)) (an (be (ab (1) (0) d1 d0) (by omega)) (an (bd (ad (0) (1) d0 d1) (by omega)) (an (bd (ab (-1) (2) n1 d2) (by omega)) (an (be (ad (2) (-1) d2 n1) (by omega)) (an (bd (ab (-1) (-2) n1 n2) (by omega)) (an (be (ad (-2) (-1) n2 n1) (by omega)) (an (bd (ab (-1) (0) n1 d0) (by omega)) (be (ad (0) (-1) d0 n1) (by omega))))))))))) (zn (by simp only;omega))
   ·exact run aks rfl (an fk (an (be fd (by omega)) (an (be (ab (1) (0) d1 d0) (by omega)) (an (bd (ad (0) (1) d0 d1) (by omega)) (an (bd (ab (-1) (2) n1 d2) (by omega)) (an (be (ad (2) (-1) d2 n1) (by omega)) (an (dA (ab (-1) (-2) n1 n2) (by omega)) (an (dA (ad (-2) (-1) n2 n1) (by omega)) (an (bd (ab (-1) (0) n1 d0) (by omega)) (be (ad (0) (-1) d0 n1) (by omega))))))))))) (zn (by simp only;omega))
   ·exact run akw rfl (an fk (an (be fd (by omega)) (an (be (ab (1) (0) d1 d0) (by omega)) (an (bd (ad (0) (1) d0 d1) (by omega)) (an (bd (ab (-1) (2) n1 d2) (by omega)) (an (be (ad (2) (-1) d2 n1) (by omega)) (an (be (ab (-1) (-2) n1 n2) (by omega)) (an (bd (ad (-2) (-1) n2 n1) (by omega)) (an (bd (ab (-1) (0) n1 d0) (by omega)) (be (ad (0) (-1) d0 n1) (by omega))))))))))) (zn (by simp only;omega))
  ·exact run akA rfl (an fk (an (be fd (by omega)) (an (be (ab (1) (0) d1 d0) (by omega)) (an (bd (ad (0) (1) d0 d1) (by omega)) (an (dA (ab (-1) (2) n1 d2) (by omega)) (an (dA (ad (2) (-1) d2 n1) (by omega)) (an (bd (ab (-1) (-2) n1 n2) (by omega)) (an (be (ad (-2) (-1) n2 n1) (by omega)) (an (bd (ab (-1) (0) n1 d0) (by omega)) (be (ad (0) (-1) d0 n1) (by omega))))))))))) (tX (by simp only;omega) (by simp only;omega))
  ·exact run akE rfl (an fk (an (be fd (by omega)) (an (be (ab (1) (0) d1 d0) (by omega)) (an (bd (ad (0) (1) d0 d1) (by omega)) (an (be (ab (-1) (2) n1 d2) (by omega)) (an (bd (ad (2) (-1) d2 n1) (by omega)) (an (bd (ab (-1) (-2) n1 n2) (by omega)) (an (be (ad (-2) (-1) n2 n1) (by omega)) (an (bd (ab (-1) (0) n1 d0) (by omega)) (be (ad (0) (-1) d0 n1) (by omega))))))))))) (tX (by simp only;omega) (by simp only;omega))
 ·by_cases d:0<Y
  ·exact run ak2 rfl (an fk (an (dA fd (by omega)) (an (be n7 (by omega)) (an (dA (ab (1) (0) d1 d0) (by omega)) (an (dA (ad (0) (1) d0 d1) (by omega)) (an (bd (ab (-1) (2) n1 d2) (by omega)) (an (be (ad (2) (-1) d2 n1) (by omega)) (an (be (ab (-1) (-2) n1 n2) (by omega)) (an (bd (ad (-2) (-1) n2 n1) (by omega)) (an (dA (ab (-1) (0) n1 d0) (by omega)) (dA (ad (0) (-1) d0 n1) (by omega)))))))))))) (zn (by simp only;omega))
  ·exact run ak6 rfl (an fk (an (dA fd (by omega)) (an (bd n7 (by omega)) (an (dA (ab (1) (0) d1 d0) (by omega)) (an (dA (ad (0) (1) d0 d1) (by omega)) (an (be (ab (-1) (2) n1 d2) (by omega)) (an (bd (ad (2) (-1) d2 n1) (by omega)) (an (bd (ab (-1) (-2) n1 n2) (by omega)) (an (be (ad (-2) (-1) n2 n1) (by omega)) (an (dA (ab (-1) (0) n1 d0) (by omega)) (dA (ad (0) (-1) d0 n1) (by omega)))))))))))) (tX (by simp only;omega) (by simp only;omega))
 ·rcases Int.lt_trichotomy 0 (v-2*Y)with d | d | d
  ·exact run akQ rfl (an fk (an (bd fd (by omega)) (an (bd (ab (1) (0) d1 d0) (by omega)) (an (be (ad (0) (1) d0 d1) (by omega)) (an (be (ab (-1) (2) n1 d2) (by omega)) (an (bd (ad (2) (-1) d2 n1) (by omega)) (an (bd (ab (-1) (-2) n1 n2) (by omega)) (an (be (ad (-2) (-1) n2 n1) (by omega)) (an (be (ab (-1) (0) n1 d0) (by omega)) (bd (ad (0) (-1) d0 n1) (by omega))))))))))) (tX (by simp only;omega) (by simp only;omega))
  ·exact run akM rfl (an fk (an (bd fd (by omega)) (an (bd (ab (1) (0) d1 d0) (by omega)) (an (be (ad (0) (1) d0 d1) (by omega)) (an (be (ab (-1) (2) n1 d2) (by omega)) (an (bd (ad (2) (-1) d2 n1) (by omega)) (an (dA (ab (-1) (-2) n1 n2) (by omega)) (an (dA (ad (-2) (-1) n2 n1) (by omega)) (an (be (ab (-1) (0) n1 d0) (by omega)) (bd (ad (0) (-1) d0 n1) (by omega))))))))))) (tY (by simp only;omega) (by simp only;omega))
  ·rcases Int.lt_trichotomy 0 (2*Y+v)with e | e | e
   ·exact run akY rfl (an fk (an (bd fd (by omega)) (an (bd (ab (1) (0) d1 d0) (by omega)) (an (be (ad (0) (1) d0 d1) (by omega)) (an (bd (ab (-1) (2) n1 d2) (by omega)) (an (be (ad (2) (-1) d2 n1) (by omega)) (an (be (ab (-1) (-2) n1 n2) (by omega)) (an (bd (ad (-2) (-1) n2 n1) (by omega)) (an (be (ab (-1) (0) n1 d0) (by omega)) (bd (ad (0) (-1) d0 n1) (by omega))))))))))) (tY (by simp only;omega) (by simp only;omega))
   ·exact run akU rfl (an fk (an (bd fd (by omega)) (an (bd (ab (1) (0) d1 d0) (by omega)) (an (be (ad (0) (1) d0 d1) (by omega)) (an (dA (ab (-1) (2) n1 d2) (by omega)) (an (dA (ad (2) (-1) d2 n1) (by omega)) (an (be (ab (-1) (-2) n1 n2) (by omega)) (an (bd (ad (-2) (-1) n2 n1) (by omega)) (an (be (ab (-1) (0) n1 d0) (by omega)) (bd (ad (0) (-1) d0 n1) (by omega))))))))))) (tY (by simp only;omega) (by simp only;omega))
   ·exact run akI rfl (an fk (an (bd fd (by omega)) (an (bd (ab (1) (0) d1 d0) (by omega)) (an (be (ad (0) (1) d0 d1) (by omega)) (an (be (ab (-1) (2) n1 d2) (by omega)) (an (bd (ad (2) (-1) d2 n1) (by omega)) (an (be (ab (-1) (-2) n1 n2) (by omega)) (an (bd (ad (-2) (-1) n2 n1) (by omega)) (an (be (ab (-1) (0) n1 d0) (by omega)) (bd (ad (0) (-1) d0 n1) (by omega))))))))))) (tY (by simp only;omega) (by simp only;omega))
theorem akk (x:ByteArray) (hx:x.size<9223372036854775808) (m:Int) (hm:1<=m/\m<=3):w6 x m:=by
 have Mz:m=1\/m=2\/m=3:=by omega
 rcases Mz with rfl | rfl | rfl
 ·exact akh x hx
 ·exact aki x hx
 ·exact akj x hx
end Go.Proofs.YtpdfmnhgocpkcaaGreat
