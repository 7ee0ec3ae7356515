/- Parts of the proof, one behind the other. -/
import Derived.Test.YtpdfmnhgocpkcaaGreatTM13
namespace Go.Proofs.YtpdfmnhgocpkcaaGreat
open Go Go.Proofs.Aw Go.Proofs.Xw Go.Proofs.Sr
set_option maxRecDepth 100000
theorem au {J:Rho} {e:IE} {z:Int} (h:e.den J=z) (k:0<z):Facts.ok J (oP e) :=
 Facts.ok_cons (by rw[Cm,h];show ¬z=0;omega) (Facts.ok_cons (by rw[am1,h];exact k) (Facts.ok_cons (by rw[tX,h];show 0<=z;omega) (Facts.ok_nil _)))
theorem aA {J:Rho} {e:IE} {z:Int} (h:e.den J=z) (k:z<0):Facts.ok J (gu e) :=
 Facts.ok_cons (by rw[Cm,h];show ¬z=0;omega) (Facts.ok_cons (by rw[tX,h];show z<=0;omega) (Facts.ok_cons (by rw[am1,h];exact k) (Facts.ok_nil _)))
theorem dD {J:Rho} {e:IE} {z:Int} (h:e.den J=z) (k:z=0):Facts.ok J (JQ e) :=
 Facts.ok_cons (by rw[aS6,h];exact k) (Facts.ok_cons (by rw[tX,h];show z<=0;omega) (Facts.ok_cons (by rw[tX,h];show 0<=z;omega) (Facts.ok_nil _)))
def OgG (x:ByteArray) (m:Int):Prop:=aQ Tryz.prog 104=true/\∀n h,CY Tryz.prog n 104 [.sc (.string x),.sc (.int .i64 m)] h (.sc (.int .i64 (MC m (pt x)))) []
theorem Kr (x:ByteArray) (hx:x.size<9223372036854775808):∃J:Rho,J.i 300=(pt x).1/\J.i 301=(pt x).2/\Bd (J.i 300)/\Bd (J.i 301)/\pt x≠(0,0)/\Facts.ok J xg /\
  ∀{m k:Int} {Φ:Facts} {t:T X},aU ⟨bU gW (fun _=>[]),[],[66,127]⟩ 104 [oD 0,qG m] Φ=t->t = .ret (.sc (.i .i64 (.lit k)))->Facts.ok J Φ->MC m (pt x)=k->OgG x m:=by
 obtain⟨x1,x2,x3,x4,x5⟩:=aQ1 hx
 let J:Rho:=⟨fun k=>if k=300 then(pt x).1 else if k=301 then(pt x).2 else 0,fun _=>false,fun _=>x,fun _=>0,fun _ _ _=>0,fun _ _ _=>false,fun _ _ _=>⟨#[]⟩,UB⟩
 have b0:Bd (J.i 300):=⟨x1.1,by show(pt x).1<=_;omega⟩
 have b1:Bd (J.i 301):=⟨x2.1,by show(pt x).2<=_;omega⟩
 have bk:∀k,Bd (J.i k)->Facts.ok J (aD1 k):=fun k h=>Facts.ok_cons (by rw[tX];exact h.1) (Facts.ok_cons (by rw[tX];exact h.2) (Facts.ok_nil _))
 have nz:¬(J.i 300=0/\J.i 301=0):=fun h=>x3 (Prod.ext h.1 h.2)
 have fk:Facts.ok J xg:=ae (ae (bk 300 b0) (bk 301 b1)) (Facts.ok_cons (by rw[am3,Cm,Cm];simp only[IE.den];omega) (Facts.ok_nil _))
 have k1:aQ Tryz.prog 68=true/\∀n h,CY Tryz.prog n 68 (X.denL J [oD 0]) h (X.den J (ba3 300 301)) []:=x4
 have k2:aQ Tryz.prog 145=true/\∀n h,CY Tryz.prog n 145 (X.denL J [oD 0]) h (X.den J (ba0 300 301)) []:=x5
 have cok:CfgOk Tryz.prog J (bU gW (fun _=>[])):=iW (List.forall_mem_cons.2 ⟨k1,List.forall_mem_cons.2 ⟨k2,List.forall_mem_nil _⟩⟩) (fun _ _ _=>LpsOk.nil _ _ _ _)
 refine⟨J,rfl,rfl,b0,b1,x3,fk,?_⟩
 intro m k Φ t h1 h2 h3 h4
 unfold OgG
 rw[h4]
 exact dM (c:=⟨bU gW (fun _=>[]),[],[66,127]⟩) cok (List.forall_mem_nil _) h3 (r := .sc (.i .i64 (.lit k))) (by rw[h1,h2];rfl)
theorem cx1 (x:ByteArray) (hx:x.size<9223372036854775808):OgG x 1:=by
 obtain⟨J,_,_,_,_,_,fk,run⟩:=Kr x hx
 exact run ab3 rfl fk rfl
theorem cx0 (x:ByteArray) (hx:x.size<9223372036854775808):OgG x 2:=by
 obtain⟨J,e0,e1,b0,b1,nz,fk,run⟩:=Kr x hx
 obtain⟨d1,d0,d2,n1,n2⟩:=bd1
 have A:=fun a b (ha:Bd a) (hb:Bd b)=>Kv (J:=J) ha hb b0 b1
 have B:=fun a b (ha:Bd a) (hb:Bd b)=>Ku (J:=J) ha hb b0 b1
 generalize hp:pt x=p at e0 e1 nz run
 obtain⟨u,v⟩:=p
 simp only at e0 e1
 have nz:¬(u=0/\v=0):=fun h=>nz (Prod.ext h.1 h.2)
 rw[e0,e1]at A B
 clear b0 b1
 have dx:(IE.var 300).den J=u:=e0
 have dy:(IE.var 301).den J=v:=e1
 clear e0 e1
 rcases Int.lt_trichotomy 0 v with c | c | c
 ·rcases Int.lt_trichotomy 0 (2*u+v)with d | d | d
  ·rcases Int.lt_trichotomy 0 (v-2*u)with e | e | e
   ·exact run WS rfl (ae fk (ae (au dy (by omega)) (ae (au (A (1) (0) d1 d0) (by omega)) (ae (aA (B (0) (1) d0 d1) (by omega)) (ae (aA (A (-1) (2) n1 d2) (by omega)) (ae (au (B (2) (-1) d2 n1) (by omega)) (ae (aA (A (-1) (-2) n1 n2) (by omega)) (ae (au (B (-2) (-1) n2 n1) (by omega)) (ae (aA (A (-1) (0) n1 d0) (by omega)) (au (B (0) (-1) d0 n1) (by omega))))))))))) (Nq (by simp only;omega))
   ·exact run WQ rfl (ae fk (ae (au dy (by omega)) (ae (au (A (1) (0) d1 d0) (by omega)) (ae (aA (B (0) (1) d0 d1) (by omega)) (ae (aA (A (-1) (2) n1 d2) (by omega)) (ae (au (B (2) (-1) d2 n1) (by omega)) (ae (dD (A (-1) (-2) n1 n2) (by omega)) (ae (dD (B (-2) (-1) n2 n1) (by omega)) (ae (aA (A (-1) (0) n1 d0) (by omega)) (au (B (0) (-1) d0 n1) (by omega))))))))))) (Nq (by simp only;omega))
   ·exact run WO rfl (ae fk (ae (au dy (by omega)) (ae (au (A (1) (0) d1 d0) (by omega)) (ae (aA (B (0) (1) d0 d1) (by omega)) (ae (aA (A (-1) (2) n1 d2) (by omega)) (ae (au (B (2) (-1) d2 n1) (by omega)) (ae (au (A (-1) (-2) n1 n2) (by omega)) (ae (aA (B (-2) (-1) n2 n1) (by omega)) (ae (aA (A (-1) (0) n1 d0) (by omega)) (au (B (0) (-1) d0 n1) (by omega))))))))))) (Nq (by simp only;omega))
  ·exact run WM rfl (ae fk (ae (au dy (by omega)) (ae (au (A (1) (0) d1 d0) (by omega)) (ae (aA (B (0) (1) d0 d1) (by omega)) (ae (dD (A (-1) (2) n1 d2) (by omega)) (ae (dD (B (2) (-1) d2 n1) (by omega)) (ae (aA (A (-1) (-2) n1 n2) (by omega)) (ae (au (B (-2) (-1) n2 n1) (by omega)) (ae (aA (A (-1) (0) n1 d0) (by omega)) (au (B (0) (-1) d0 n1) (by omega))))))))))) (Nq (by simp only;omega))
  ·exact run WJ rfl (ae fk (ae (au dy (by omega)) (ae (au (A (1) (0) d1 d0) (by omega)) (ae (aA (B (0) (1) d0 d1) (by omega)) (ae (au (A (-1) (2) n1 d2) (by omega)) (ae (aA (B (2) (-1) d2 n1) (by omega)) (ae (aA (A (-1) (-2) n1 n2) (by omega)) (ae (au (B (-2) (-1) n2 n1) (by omega)) (ae (aA (A (-1) (0) n1 d0) (by omega)) (au (B (0) (-1) d0 n1) (by omega))))))))))) (Nq (by simp only;omega))
 ·by_cases d:0<u
  ·exact run Wu rfl (ae fk (ae (dD dy (by omega)) (ae (au dx (by omega)) (ae (dD (A (1) (0) d1 d0) (by omega)) (ae (dD (B (0) (1) d0 d1) (by omega)) (ae (aA (A (-1) (2) n1 d2) (by omega)) (ae (au (B (2) (-1) d2 n1) (by omega)) (ae (au (A (-1) (-2) n1 n2) (by omega)) (ae (aA (B (-2) (-1) n2 n1) (by omega)) (ae (dD (A (-1) (0) n1 d0) (by omega)) (dD (B (0) (-1) d0 n1) (by omega)))))))))))) (Nq (by simp only;omega))
  ·exact run Wq rfl (ae fk (ae (dD dy (by omega)) (ae (aA dx (by omega)) (ae (dD (A (1) (0) d1 d0) (by omega)) (ae (dD (B (0) (1) d0 d1) (by omega)) (ae (au (A (-1) (2) n1 d2) (by omega)) (ae (aA (B (2) (-1) d2 n1) (by omega)) (ae (aA (A (-1) (-2) n1 n2) (by omega)) (ae (au (B (-2) (-1) n2 n1) (by omega)) (ae (dD (A (-1) (0) n1 d0) (by omega)) (dD (B (0) (-1) d0 n1) (by omega)))))))))))) (Np (by simp only;omega))
 ·rcases Int.lt_trichotomy 0 (v-2*u)with d | d | d
  ·exact run WC rfl (ae fk (ae (aA dy (by omega)) (ae (aA (A (1) (0) d1 d0) (by omega)) (ae (au (B (0) (1) d0 d1) (by omega)) (ae (au (A (-1) (2) n1 d2) (by omega)) (ae (aA (B (2) (-1) d2 n1) (by omega)) (ae (aA (A (-1) (-2) n1 n2) (by omega)) (ae (au (B (-2) (-1) n2 n1) (by omega)) (ae (au (A (-1) (0) n1 d0) (by omega)) (aA (B (0) (-1) d0 n1) (by omega))))))))))) (Np (by simp only;omega))
  ·exact run WF rfl (ae fk (ae (aA dy (by omega)) (ae (aA (A (1) (0) d1 d0) (by omega)) (ae (au (B (0) (1) d0 d1) (by omega)) (ae (au (A (-1) (2) n1 d2) (by omega)) (ae (aA (B (2) (-1) d2 n1) (by omega)) (ae (dD (A (-1) (-2) n1 n2) (by omega)) (ae (dD (B (-2) (-1) n2 n1) (by omega)) (ae (au (A (-1) (0) n1 d0) (by omega)) (aA (B (0) (-1) d0 n1) (by omega))))))))))) (Np (by simp only;omega))
  ·rcases Int.lt_trichotomy 0 (2*u+v)with e | e | e
   ·exact run Wx rfl (ae fk (ae (aA dy (by omega)) (ae (aA (A (1) (0) d1 d0) (by omega)) (ae (au (B (0) (1) d0 d1) (by omega)) (ae (aA (A (-1) (2) n1 d2) (by omega)) (ae (au (B (2) (-1) d2 n1) (by omega)) (ae (au (A (-1) (-2) n1 n2) (by omega)) (ae (aA (B (-2) (-1) n2 n1) (by omega)) (ae (au (A (-1) (0) n1 d0) (by omega)) (aA (B (0) (-1) d0 n1) (by omega))))))))))) (Np (by simp only;omega))
   ·exact run WA rfl (ae fk (ae (aA dy (by omega)) (ae (aA (A (1) (0) d1 d0) (by omega)) (ae (au (B (0) (1) d0 d1) (by omega)) (ae (dD (A (-1) (2) n1 d2) (by omega)) (ae (dD (B (2) (-1) d2 n1) (by omega)) (ae (au (A (-1) (-2) n1 n2) (by omega)) (ae (aA (B (-2) (-1) n2 n1) (by omega)) (ae (au (A (-1) (0) n1 d0) (by omega)) (aA (B (0) (-1) d0 n1) (by omega))))))))))) (Np (by simp only;omega))
   ·exact run WH rfl (ae fk (ae (aA dy (by omega)) (ae (aA (A (1) (0) d1 d0) (by omega)) (ae (au (B (0) (1) d0 d1) (by omega)) (ae (au (A (-1) (2) n1 d2) (by omega)) (ae (aA (B (2) (-1) d2 n1) (by omega)) (ae (au (A (-1) (-2) n1 n2) (by omega)) (ae (aA (B (-2) (-1) n2 n1) (by omega)) (ae (au (A (-1) (0) n1 d0) (by omega)) (aA (B (0) (-1) d0 n1) (by omega))))))))))) (Np (by simp only;omega))
theorem cw9 (x:ByteArray) (hx:x.size<9223372036854775808):OgG x 3:=by
 obtain⟨J,e0,e1,b0,b1,nz,fk,run⟩:=Kr x hx
 obtain⟨d1,d0,d2,n1,n2⟩:=bd1
 have A:=fun a b (ha:Bd a) (hb:Bd b)=>Kv (J:=J) ha hb b0 b1
 have B:=fun a b (ha:Bd a) (hb:Bd b)=>Ku (J:=J) ha hb b0 b1
 generalize hp:pt x=p at e0 e1 nz run
 obtain⟨u,v⟩:=p
 simp only at e0 e1
 have nz:¬(u=0/\v=0):=fun h=>nz (Prod.ext h.1 h.2)
 rw[e0,e1]at A B
 clear b0 b1
 have dx:(IE.var 300).den J=u:=e0
 have dy:(IE.var 301).den J=v:=e1
 clear e0 e1
 rcases Int.lt_trichotomy 0 v with c | c | c
 ·rcases Int.lt_trichotomy 0 (2*u+v)with d | d | d
  ·rcases Int.lt_trichotomy 0 (v-2*u)with e | e | e
   ·exact run WR rfl (ae fk (ae (au dy (by omega)) (ae (au (A (1) (0) d1 d0) (by omega)) (ae (aA (B (0) (1) d0 d1) (by omega)) (ae (aA (A (-1) (2) n1 d2) (by omega)) (ae (au (B (2) (-1) d2 n1) (by omega)) (ae (aA (A (-1) (-2) n1 n2) (by omega)) (ae (au (B (-2) (-1) n2 n1) (by omega)) (ae (aA (A (-1) (0) n1 d0) (by omega)) (au (B (0) (-1) d0 n1) (by omega))))))))))) (VN (by simp only;omega))
   ·exact run WP rfl (ae fk (ae (au dy (by omega)) (ae (au (A (1) (0) d1 d0) (by omega)) (ae (aA (B (0) (1) d0 d1) (by omega)) (ae (aA (A (-1) (2) n1 d2) (by omega)) (ae (au (B (2) (-1) d2 n1) (by omega)) (ae (dD (A (-1) (-2) n1 n2) (by omega)) (ae (dD (B (-2) (-1) n2 n1) (by omega)) (ae (aA (A (-1) (0) n1 d0) (by omega)) (au (B (0) (-1) d0 n1) (by omega))))))))))) (VN (by simp only;omega))
   ·exact run WN rfl (ae fk (ae (au dy (by omega)) (ae (au (A (1) (0) d1 d0) (by omega)) (ae (aA (B (0) (1) d0 d1) (by omega)) (ae (aA (A (-1) (2) n1 d2) (by omega)) (ae (au (B (2) (-1) d2 n1) (by omega)) (ae (au (A (-1) (-2) n1 n2) (by omega)) (ae (aA (B (-2) (-1) n2 n1) (by omega)) (ae (aA (A (-1) (0) n1 d0) (by omega)) (au (B (0) (-1) d0 n1) (by omega))))))))))) (VN (by simp only;omega))
  ·exact run WL rfl (ae fk (ae (au dy (by omega)) (ae (au (A (1) (0) d1 d0) (by omega)) (ae (aA (B (0) (1) d0 d1) (by omega)) (ae (dD (A (-1) (2) n1 d2) (by omega)) (ae (dD (B (2) (-1) d2 n1) (by omega)) (ae (aA (A (-1) (-2) n1 n2) (by omega)) (ae (au (B (-2) (-1) n2 n1) (by omega)) (ae (aA (A (-1) (0) n1 d0) (by omega)) (au (B (0) (-1) d0 n1) (by omega))))))))))) (Nl (by simp only;omega) (by simp only;omega))
  ·exact run WI rfl (ae fk (ae (au dy (by omega)) (ae (au (A (1) (0) d1 d0) (by omega)) (ae (aA (B (0) (1) d0 d1) (by omega)) (ae (au (A (-1) (2) n1 d2) (by omega)) (ae (aA (B (2) (-1) d2 n1) (by omega)) (ae (aA (A (-1) (-2) n1 n2) (by omega)) (ae (au (B (-2) (-1) n2 n1) (by omega)) (ae (aA (A (-1) (0) n1 d0) (by omega)) (au (B (0) (-1) d0 n1) (by omega))))))))))) (Nl (by simp only;omega) (by simp only;omega))
 ·by_cases d:0<u
  ·exact run Ws rfl (ae fk (ae (dD dy (by omega)) (ae (au dx (by omega)) (ae (dD (A (1) (0) d1 d0) (by omega)) (ae (dD (B (0) (1) d0 d1) (by omega)) (ae (aA (A (-1) (2) n1 d2) (by omega)) (ae (au (B (2) (-1) d2 n1) (by omega)) (ae (au (A (-1) (-2) n1 n2) (by omega)) (ae (aA (B (-2) (-1) n2 n1) (by omega)) (ae (dD (A (-1) (0) n1 d0) (by omega)) (dD (B (0) (-1) d0 n1) (by omega)))))))))))) (VN (by simp only;omega))
  ·exact run Wp rfl (ae fk (ae (dD dy (by omega)) (ae (aA dx (by omega)) (ae (dD (A (1) (0) d1 d0) (by omega)) (ae (dD (B (0) (1) d0 d1) (by omega)) (ae (au (A (-1) (2) n1 d2) (by omega)) (ae (aA (B (2) (-1) d2 n1) (by omega)) (ae (aA (A (-1) (-2) n1 n2) (by omega)) (ae (au (B (-2) (-1) n2 n1) (by omega)) (ae (dD (A (-1) (0) n1 d0) (by omega)) (dD (B (0) (-1) d0 n1) (by omega)))))))))))) (Nl (by simp only;omega) (by simp only;omega))
 ·rcases Int.lt_trichotomy 0 (v-2*u)with d | d | d
  ·exact run WB rfl (ae fk (ae (aA dy (by omega)) (ae (aA (A (1) (0) d1 d0) (by omega)) (ae (au (B (0) (1) d0 d1) (by omega)) (ae (au (A (-1) (2) n1 d2) (by omega)) (ae (aA (B (2) (-1) d2 n1) (by omega)) (ae (aA (A (-1) (-2) n1 n2) (by omega)) (ae (au (B (-2) (-1) n2 n1) (by omega)) (ae (au (A (-1) (0) n1 d0) (by omega)) (aA (B (0) (-1) d0 n1) (by omega))))))))))) (Nl (by simp only;omega) (by simp only;omega))
  ·exact run WE rfl (ae fk (ae (aA dy (by omega)) (ae (aA (A (1) (0) d1 d0) (by omega)) (ae (au (B (0) (1) d0 d1) (by omega)) (ae (au (A (-1) (2) n1 d2) (by omega)) (ae (aA (B (2) (-1) d2 n1) (by omega)) (ae (dD (A (-1) (-2) n1 n2) (by omega)) (ae (dD (B (-2) (-1) n2 n1) (by omega)) (ae (au (A (-1) (0) n1 d0) (by omega)) (aA (B (0) (-1) d0 n1) (by omega))))))))))) (Nj (by simp only;omega) (by simp only;omega))
  ·rcases Int.lt_trichotomy 0 (2*u+v)with e | e | e
   ·exact run Wv rfl (ae fk (ae (aA dy (by omega)) (ae (aA (A (1) (0) d1 d0) (by omega)) (ae (au (B (0) (1) d0 d1) (by omega)) (ae (aA (A (-1) (2) n1 d2) (by omega)) (ae (au (B (2) (-1) d2 n1) (by omega)) (ae (au (A (-1) (-2) n1 n2) (by omega)) (ae (aA (B (-2) (-1) n2 n1) (by omega)) (ae (au (A (-1) (0) n1 d0) (by omega)) (aA (B (0) (-1) d0 n1) (by omega))))))))))) (Nj (by simp only;omega) (by simp only;omega))
   ·exact run Wy rfl (ae fk (ae (aA dy (by omega)) (ae (aA (A (1) (0) d1 d0) (by omega)) (ae (au (B (0) (1) d0 d1) (by omega)) (ae (dD (A (-1) (2) n1 d2) (by omega)) (ae (dD (B (2) (-1) d2 n1) (by omega)) (ae (au (A (-1) (-2) n1 n2) (by omega)) (ae (aA (B (-2) (-1) n2 n1) (by omega)) (ae (au (A (-1) (0) n1 d0) (by omega)) (aA (B (0) (-1) d0 n1) (by omega))))))))))) (Nj (by simp only;omega) (by simp only;omega))
   ·exact run WG rfl (ae fk (ae (aA dy (by omega)) (ae (aA (A (1) (0) d1 d0) (by omega)) (ae (au (B (0) (1) d0 d1) (by omega)) (ae (au (A (-1) (2) n1 d2) (by omega)) (ae (aA (B (2) (-1) d2 n1) (by omega)) (ae (au (A (-1) (-2) n1 n2) (by omega)) (ae (aA (B (-2) (-1) n2 n1) (by omega)) (ae (au (A (-1) (0) n1 d0) (by omega)) (aA (B (0) (-1) d0 n1) (by omega))))))))))) (Nj (by simp only;omega) (by simp only;omega))
theorem bO4 (x:ByteArray) (hx:x.size<9223372036854775808) (m:Int) (hm:1<=m/\m<=3):OgG x m:=by
 have hm3:m=1\/m=2\/m=3:=by omega
 rcases hm3 with rfl | rfl | rfl
 ·exact cx1 x hx
 ·exact cx0 x hx
 ·exact cw9 x hx
end Go.Proofs.YtpdfmnhgocpkcaaGreat
