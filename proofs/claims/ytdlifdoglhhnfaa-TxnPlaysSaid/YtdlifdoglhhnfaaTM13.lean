/- Parts of the proof, one behind the other. -/
import Derived.Test.YtdlifdoglhhnfaaTM12
namespace Go.Proofs.Ytdlifdoglhhnfaa
open Go Go.Proofs.Aw Go.Proofs.Xw Go.Proofs.Sr
set_option maxRecDepth 100000
theorem sgp_ok {ρ:Rho} {e:IE} {z:Int} (h:e.den ρ=z) (k:0<z):Facts.ok ρ (sgp e) :=
 Facts.ok_cons (by rw[deq_f,h];show ¬z=0;omega) (Facts.ok_cons (by rw[dlt_t,h];exact k) (Facts.ok_cons (by rw[dlt_f,h];show 0≤z;omega) (Facts.ok_nil _)))
theorem sgn_ok {ρ:Rho} {e:IE} {z:Int} (h:e.den ρ=z) (k:z<0):Facts.ok ρ (sgn e) :=
 Facts.ok_cons (by rw[deq_f,h];show ¬z=0;omega) (Facts.ok_cons (by rw[dlt_f,h];show z≤0;omega) (Facts.ok_cons (by rw[dlt_t,h];exact k) (Facts.ok_nil _)))
theorem sgz_ok {ρ:Rho} {e:IE} {z:Int} (h:e.den ρ=z) (k:z=0):Facts.ok ρ (sgz e) :=
 Facts.ok_cons (by rw[deq_t,h];exact k) (Facts.ok_cons (by rw[dlt_f,h];show z≤0;omega) (Facts.ok_cons (by rw[dlt_f,h];show 0≤z;omega) (Facts.ok_nil _)))
def OgG (x:ByteArray) (m:Int):Prop:=hasBody Try.prog 45=true∧∀n h,CY Try.prog n 45 [.sc (.string x),.sc (.int .i64 m)] h (.sc (.int .i64 (sec m (pt x)))) []
theorem og_base (x:ByteArray) (hx:x.size<9223372036854775808):∃ρ:Rho,ρ.i 300=(pt x).1∧ρ.i 301=(pt x).2∧Bd (ρ.i 300)∧Bd (ρ.i 301)∧pt x≠(0,0)∧Facts.ok ρ fF ∧
  ∀{m k:Int} {Φ:Facts} {t:T X},askF ⟨cfgL ksF (fun _=>[]),l_able,[37,58]⟩ 45 [sX 0,lX m] Φ=t→t = .ret (.sc (.i .i64 (.lit k)))→Facts.ok ρ Φ→sec m (pt x)=k→OgG x m:=by
 obtain⟨x1,x2,x3,x4,x5⟩:=pt_ok hx
 let ρ:Rho:=⟨fun k=>if k=300 then(pt x).1 else if k=301 then(pt x).2 else 0,fun _=>false,fun _=>x,fun _=>0,fun _ _ _=>0,fun _ _ _=>false,fun _ _ _=>⟨#[]⟩⟩
 have b0:Bd (ρ.i 300):=⟨x1.1,by show(pt x).1≤_;omega⟩
 have b1:Bd (ρ.i 301):=⟨x2.1,by show(pt x).2≤_;omega⟩
 have bk:∀k,Bd (ρ.i k)→Facts.ok ρ (bnd k):=fun k h=>Facts.ok_cons (by rw[dlt_f];exact h.1) (Facts.ok_cons (by rw[dlt_f];exact h.2) (Facts.ok_nil _))
 have nz:¬(ρ.i 300=0∧ρ.i 301=0):=fun h=>x3 (Prod.ext h.1 h.2)
 have fk:Facts.ok ρ fF:=all_ok (all_ok (bk 300 b0) (bk 301 b1)) (Facts.ok_cons (by rw[dand_f,deq_f,deq_f];simp only[IE.den];omega) (Facts.ok_nil _))
 have k1:hasBody Try.prog 39=true∧∀n h,CY Try.prog n 39 (X.denL ρ [sX 0]) h (X.den ρ (cpX 300 301)) []:=x4
 have k2:hasBody Try.prog 69=true∧∀n h,CY Try.prog n 69 (X.denL ρ [sX 0]) h (X.den ρ (ptX 300 301)) []:=x5
 have cok:CfgOk Try.prog ρ (cfgL ksF (fun _=>[])):=cfgL_ok (List.forall_mem_cons.2 ⟨k1,List.forall_mem_cons.2 ⟨k2,List.forall_mem_nil _⟩⟩) (fun _ _ _=>LpsOk.nil _ _ _ _)
 refine⟨ρ,rfl,rfl,b0,b1,x3,fk,?_⟩
 intro m k Φ t h1 h2 h3 h4
 unfold OgG
 rw[h4]
 exact askF_ok (c:=⟨cfgL ksF (fun _=>[]),l_able,[37,58]⟩) cok l_able_ok h3 (r := .sc (.i .i64 (.lit k))) (by rw[h1,h2];rfl)
theorem og_1 (x:ByteArray) (hx:x.size<9223372036854775808):OgG x 1:=by
 obtain⟨ρ,_,_,_,_,_,fk,run⟩:=og_base x hx
 exact run og1_run rfl fk rfl
theorem og_2 (x:ByteArray) (hx:x.size<9223372036854775808):OgG x 2:=by
 obtain⟨ρ,e0,e1,b0,b1,nz,fk,run⟩:=og_base x hx
 obtain⟨d1,d0,d2,n1,n2⟩:=bd1
 have A:=fun a b (ha:Bd a) (hb:Bd b)=>sA_den (ρ:=ρ) ha hb b0 b1
 have B:=fun a b (ha:Bd a) (hb:Bd b)=>sB_den (ρ:=ρ) ha hb b0 b1
 generalize hp:pt x=p at e0 e1 nz run
 obtain⟨u,v⟩:=p
 simp only at e0 e1
 have nz:¬(u=0∧v=0):=fun h=>nz (Prod.ext h.1 h.2)
 rw[e0,e1]at A B
 clear b0 b1
 have dx:(IE.var 300).den ρ=u:=e0
 have dy:(IE.var 301).den ρ=v:=e1
 clear e0 e1
 rcases Int.lt_trichotomy 0 v with c | c | c
 ·rcases Int.lt_trichotomy 0 (2*u+v)with d | d | d
  ·rcases Int.lt_trichotomy 0 (v-2*u)with e | e | e
   ·exact run oga2_run rfl (all_ok fk (all_ok (sgp_ok dy (by omega)) (all_ok (sgp_ok (A (1) (0) d1 d0) (by omega)) (all_ok (sgn_ok (B (0) (1) d0 d1) (by omega)) (all_ok (sgn_ok (A (-1) (2) n1 d2) (by omega)) (all_ok (sgp_ok (B (2) (-1) d2 n1) (by omega)) (all_ok (sgn_ok (A (-1) (-2) n1 n2) (by omega)) (all_ok (sgp_ok (B (-2) (-1) n2 n1) (by omega)) (all_ok (sgn_ok (A (-1) (0) n1 d0) (by omega)) (sgp_ok (B (0) (-1) d0 n1) (by omega))))))))))) (s2_0 (by simp only;omega))
   ·exact run ogb2_run rfl (all_ok fk (all_ok (sgp_ok dy (by omega)) (all_ok (sgp_ok (A (1) (0) d1 d0) (by omega)) (all_ok (sgn_ok (B (0) (1) d0 d1) (by omega)) (all_ok (sgn_ok (A (-1) (2) n1 d2) (by omega)) (all_ok (sgp_ok (B (2) (-1) d2 n1) (by omega)) (all_ok (sgz_ok (A (-1) (-2) n1 n2) (by omega)) (all_ok (sgz_ok (B (-2) (-1) n2 n1) (by omega)) (all_ok (sgn_ok (A (-1) (0) n1 d0) (by omega)) (sgp_ok (B (0) (-1) d0 n1) (by omega))))))))))) (s2_0 (by simp only;omega))
   ·exact run ogc2_run rfl (all_ok fk (all_ok (sgp_ok dy (by omega)) (all_ok (sgp_ok (A (1) (0) d1 d0) (by omega)) (all_ok (sgn_ok (B (0) (1) d0 d1) (by omega)) (all_ok (sgn_ok (A (-1) (2) n1 d2) (by omega)) (all_ok (sgp_ok (B (2) (-1) d2 n1) (by omega)) (all_ok (sgp_ok (A (-1) (-2) n1 n2) (by omega)) (all_ok (sgn_ok (B (-2) (-1) n2 n1) (by omega)) (all_ok (sgn_ok (A (-1) (0) n1 d0) (by omega)) (sgp_ok (B (0) (-1) d0 n1) (by omega))))))))))) (s2_0 (by simp only;omega))
  ·exact run ogd2_run rfl (all_ok fk (all_ok (sgp_ok dy (by omega)) (all_ok (sgp_ok (A (1) (0) d1 d0) (by omega)) (all_ok (sgn_ok (B (0) (1) d0 d1) (by omega)) (all_ok (sgz_ok (A (-1) (2) n1 d2) (by omega)) (all_ok (sgz_ok (B (2) (-1) d2 n1) (by omega)) (all_ok (sgn_ok (A (-1) (-2) n1 n2) (by omega)) (all_ok (sgp_ok (B (-2) (-1) n2 n1) (by omega)) (all_ok (sgn_ok (A (-1) (0) n1 d0) (by omega)) (sgp_ok (B (0) (-1) d0 n1) (by omega))))))))))) (s2_0 (by simp only;omega))
  ·exact run oge2_run rfl (all_ok fk (all_ok (sgp_ok dy (by omega)) (all_ok (sgp_ok (A (1) (0) d1 d0) (by omega)) (all_ok (sgn_ok (B (0) (1) d0 d1) (by omega)) (all_ok (sgp_ok (A (-1) (2) n1 d2) (by omega)) (all_ok (sgn_ok (B (2) (-1) d2 n1) (by omega)) (all_ok (sgn_ok (A (-1) (-2) n1 n2) (by omega)) (all_ok (sgp_ok (B (-2) (-1) n2 n1) (by omega)) (all_ok (sgn_ok (A (-1) (0) n1 d0) (by omega)) (sgp_ok (B (0) (-1) d0 n1) (by omega))))))))))) (s2_0 (by simp only;omega))
 ·by_cases d:0<u
  ·exact run ogk2_run rfl (all_ok fk (all_ok (sgz_ok dy (by omega)) (all_ok (sgp_ok dx (by omega)) (all_ok (sgz_ok (A (1) (0) d1 d0) (by omega)) (all_ok (sgz_ok (B (0) (1) d0 d1) (by omega)) (all_ok (sgn_ok (A (-1) (2) n1 d2) (by omega)) (all_ok (sgp_ok (B (2) (-1) d2 n1) (by omega)) (all_ok (sgp_ok (A (-1) (-2) n1 n2) (by omega)) (all_ok (sgn_ok (B (-2) (-1) n2 n1) (by omega)) (all_ok (sgz_ok (A (-1) (0) n1 d0) (by omega)) (sgz_ok (B (0) (-1) d0 n1) (by omega)))))))))))) (s2_0 (by simp only;omega))
  ·exact run ogl2_run rfl (all_ok fk (all_ok (sgz_ok dy (by omega)) (all_ok (sgn_ok dx (by omega)) (all_ok (sgz_ok (A (1) (0) d1 d0) (by omega)) (all_ok (sgz_ok (B (0) (1) d0 d1) (by omega)) (all_ok (sgp_ok (A (-1) (2) n1 d2) (by omega)) (all_ok (sgn_ok (B (2) (-1) d2 n1) (by omega)) (all_ok (sgn_ok (A (-1) (-2) n1 n2) (by omega)) (all_ok (sgp_ok (B (-2) (-1) n2 n1) (by omega)) (all_ok (sgz_ok (A (-1) (0) n1 d0) (by omega)) (sgz_ok (B (0) (-1) d0 n1) (by omega)))))))))))) (s2_1 (by simp only;omega))
 ·rcases Int.lt_trichotomy 0 (v-2*u)with d | d | d
  ·exact run ogh2_run rfl (all_ok fk (all_ok (sgn_ok dy (by omega)) (all_ok (sgn_ok (A (1) (0) d1 d0) (by omega)) (all_ok (sgp_ok (B (0) (1) d0 d1) (by omega)) (all_ok (sgp_ok (A (-1) (2) n1 d2) (by omega)) (all_ok (sgn_ok (B (2) (-1) d2 n1) (by omega)) (all_ok (sgn_ok (A (-1) (-2) n1 n2) (by omega)) (all_ok (sgp_ok (B (-2) (-1) n2 n1) (by omega)) (all_ok (sgp_ok (A (-1) (0) n1 d0) (by omega)) (sgn_ok (B (0) (-1) d0 n1) (by omega))))))))))) (s2_1 (by simp only;omega))
  ·exact run ogg2_run rfl (all_ok fk (all_ok (sgn_ok dy (by omega)) (all_ok (sgn_ok (A (1) (0) d1 d0) (by omega)) (all_ok (sgp_ok (B (0) (1) d0 d1) (by omega)) (all_ok (sgp_ok (A (-1) (2) n1 d2) (by omega)) (all_ok (sgn_ok (B (2) (-1) d2 n1) (by omega)) (all_ok (sgz_ok (A (-1) (-2) n1 n2) (by omega)) (all_ok (sgz_ok (B (-2) (-1) n2 n1) (by omega)) (all_ok (sgp_ok (A (-1) (0) n1 d0) (by omega)) (sgn_ok (B (0) (-1) d0 n1) (by omega))))))))))) (s2_1 (by simp only;omega))
  ·rcases Int.lt_trichotomy 0 (2*u+v)with e | e | e
   ·exact run ogj2_run rfl (all_ok fk (all_ok (sgn_ok dy (by omega)) (all_ok (sgn_ok (A (1) (0) d1 d0) (by omega)) (all_ok (sgp_ok (B (0) (1) d0 d1) (by omega)) (all_ok (sgn_ok (A (-1) (2) n1 d2) (by omega)) (all_ok (sgp_ok (B (2) (-1) d2 n1) (by omega)) (all_ok (sgp_ok (A (-1) (-2) n1 n2) (by omega)) (all_ok (sgn_ok (B (-2) (-1) n2 n1) (by omega)) (all_ok (sgp_ok (A (-1) (0) n1 d0) (by omega)) (sgn_ok (B (0) (-1) d0 n1) (by omega))))))))))) (s2_1 (by simp only;omega))
   ·exact run ogi2_run rfl (all_ok fk (all_ok (sgn_ok dy (by omega)) (all_ok (sgn_ok (A (1) (0) d1 d0) (by omega)) (all_ok (sgp_ok (B (0) (1) d0 d1) (by omega)) (all_ok (sgz_ok (A (-1) (2) n1 d2) (by omega)) (all_ok (sgz_ok (B (2) (-1) d2 n1) (by omega)) (all_ok (sgp_ok (A (-1) (-2) n1 n2) (by omega)) (all_ok (sgn_ok (B (-2) (-1) n2 n1) (by omega)) (all_ok (sgp_ok (A (-1) (0) n1 d0) (by omega)) (sgn_ok (B (0) (-1) d0 n1) (by omega))))))))))) (s2_1 (by simp only;omega))
   ·exact run ogf2_run rfl (all_ok fk (all_ok (sgn_ok dy (by omega)) (all_ok (sgn_ok (A (1) (0) d1 d0) (by omega)) (all_ok (sgp_ok (B (0) (1) d0 d1) (by omega)) (all_ok (sgp_ok (A (-1) (2) n1 d2) (by omega)) (all_ok (sgn_ok (B (2) (-1) d2 n1) (by omega)) (all_ok (sgp_ok (A (-1) (-2) n1 n2) (by omega)) (all_ok (sgn_ok (B (-2) (-1) n2 n1) (by omega)) (all_ok (sgp_ok (A (-1) (0) n1 d0) (by omega)) (sgn_ok (B (0) (-1) d0 n1) (by omega))))))))))) (s2_1 (by simp only;omega))
theorem og_3 (x:ByteArray) (hx:x.size<9223372036854775808):OgG x 3:=by
 obtain⟨ρ,e0,e1,b0,b1,nz,fk,run⟩:=og_base x hx
 obtain⟨d1,d0,d2,n1,n2⟩:=bd1
 have A:=fun a b (ha:Bd a) (hb:Bd b)=>sA_den (ρ:=ρ) ha hb b0 b1
 have B:=fun a b (ha:Bd a) (hb:Bd b)=>sB_den (ρ:=ρ) ha hb b0 b1
 generalize hp:pt x=p at e0 e1 nz run
 obtain⟨u,v⟩:=p
 simp only at e0 e1
 have nz:¬(u=0∧v=0):=fun h=>nz (Prod.ext h.1 h.2)
 rw[e0,e1]at A B
 clear b0 b1
 have dx:(IE.var 300).den ρ=u:=e0
 have dy:(IE.var 301).den ρ=v:=e1
 clear e0 e1
 rcases Int.lt_trichotomy 0 v with c | c | c
 ·rcases Int.lt_trichotomy 0 (2*u+v)with d | d | d
  ·rcases Int.lt_trichotomy 0 (v-2*u)with e | e | e
   ·exact run oga3_run rfl (all_ok fk (all_ok (sgp_ok dy (by omega)) (all_ok (sgp_ok (A (1) (0) d1 d0) (by omega)) (all_ok (sgn_ok (B (0) (1) d0 d1) (by omega)) (all_ok (sgn_ok (A (-1) (2) n1 d2) (by omega)) (all_ok (sgp_ok (B (2) (-1) d2 n1) (by omega)) (all_ok (sgn_ok (A (-1) (-2) n1 n2) (by omega)) (all_ok (sgp_ok (B (-2) (-1) n2 n1) (by omega)) (all_ok (sgn_ok (A (-1) (0) n1 d0) (by omega)) (sgp_ok (B (0) (-1) d0 n1) (by omega))))))))))) (s3_0 (by simp only;omega))
   ·exact run ogb3_run rfl (all_ok fk (all_ok (sgp_ok dy (by omega)) (all_ok (sgp_ok (A (1) (0) d1 d0) (by omega)) (all_ok (sgn_ok (B (0) (1) d0 d1) (by omega)) (all_ok (sgn_ok (A (-1) (2) n1 d2) (by omega)) (all_ok (sgp_ok (B (2) (-1) d2 n1) (by omega)) (all_ok (sgz_ok (A (-1) (-2) n1 n2) (by omega)) (all_ok (sgz_ok (B (-2) (-1) n2 n1) (by omega)) (all_ok (sgn_ok (A (-1) (0) n1 d0) (by omega)) (sgp_ok (B (0) (-1) d0 n1) (by omega))))))))))) (s3_0 (by simp only;omega))
   ·exact run ogc3_run rfl (all_ok fk (all_ok (sgp_ok dy (by omega)) (all_ok (sgp_ok (A (1) (0) d1 d0) (by omega)) (all_ok (sgn_ok (B (0) (1) d0 d1) (by omega)) (all_ok (sgn_ok (A (-1) (2) n1 d2) (by omega)) (all_ok (sgp_ok (B (2) (-1) d2 n1) (by omega)) (all_ok (sgp_ok (A (-1) (-2) n1 n2) (by omega)) (all_ok (sgn_ok (B (-2) (-1) n2 n1) (by omega)) (all_ok (sgn_ok (A (-1) (0) n1 d0) (by omega)) (sgp_ok (B (0) (-1) d0 n1) (by omega))))))))))) (s3_0 (by simp only;omega))
  ·exact run ogd3_run rfl (all_ok fk (all_ok (sgp_ok dy (by omega)) (all_ok (sgp_ok (A (1) (0) d1 d0) (by omega)) (all_ok (sgn_ok (B (0) (1) d0 d1) (by omega)) (all_ok (sgz_ok (A (-1) (2) n1 d2) (by omega)) (all_ok (sgz_ok (B (2) (-1) d2 n1) (by omega)) (all_ok (sgn_ok (A (-1) (-2) n1 n2) (by omega)) (all_ok (sgp_ok (B (-2) (-1) n2 n1) (by omega)) (all_ok (sgn_ok (A (-1) (0) n1 d0) (by omega)) (sgp_ok (B (0) (-1) d0 n1) (by omega))))))))))) (s3_1 (by simp only;omega) (by simp only;omega))
  ·exact run oge3_run rfl (all_ok fk (all_ok (sgp_ok dy (by omega)) (all_ok (sgp_ok (A (1) (0) d1 d0) (by omega)) (all_ok (sgn_ok (B (0) (1) d0 d1) (by omega)) (all_ok (sgp_ok (A (-1) (2) n1 d2) (by omega)) (all_ok (sgn_ok (B (2) (-1) d2 n1) (by omega)) (all_ok (sgn_ok (A (-1) (-2) n1 n2) (by omega)) (all_ok (sgp_ok (B (-2) (-1) n2 n1) (by omega)) (all_ok (sgn_ok (A (-1) (0) n1 d0) (by omega)) (sgp_ok (B (0) (-1) d0 n1) (by omega))))))))))) (s3_1 (by simp only;omega) (by simp only;omega))
 ·by_cases d:0<u
  ·exact run ogk3_run rfl (all_ok fk (all_ok (sgz_ok dy (by omega)) (all_ok (sgp_ok dx (by omega)) (all_ok (sgz_ok (A (1) (0) d1 d0) (by omega)) (all_ok (sgz_ok (B (0) (1) d0 d1) (by omega)) (all_ok (sgn_ok (A (-1) (2) n1 d2) (by omega)) (all_ok (sgp_ok (B (2) (-1) d2 n1) (by omega)) (all_ok (sgp_ok (A (-1) (-2) n1 n2) (by omega)) (all_ok (sgn_ok (B (-2) (-1) n2 n1) (by omega)) (all_ok (sgz_ok (A (-1) (0) n1 d0) (by omega)) (sgz_ok (B (0) (-1) d0 n1) (by omega)))))))))))) (s3_0 (by simp only;omega))
  ·exact run ogl3_run rfl (all_ok fk (all_ok (sgz_ok dy (by omega)) (all_ok (sgn_ok dx (by omega)) (all_ok (sgz_ok (A (1) (0) d1 d0) (by omega)) (all_ok (sgz_ok (B (0) (1) d0 d1) (by omega)) (all_ok (sgp_ok (A (-1) (2) n1 d2) (by omega)) (all_ok (sgn_ok (B (2) (-1) d2 n1) (by omega)) (all_ok (sgn_ok (A (-1) (-2) n1 n2) (by omega)) (all_ok (sgp_ok (B (-2) (-1) n2 n1) (by omega)) (all_ok (sgz_ok (A (-1) (0) n1 d0) (by omega)) (sgz_ok (B (0) (-1) d0 n1) (by omega)))))))))))) (s3_1 (by simp only;omega) (by simp only;omega))
 ·rcases Int.lt_trichotomy 0 (v-2*u)with d | d | d
  ·exact run ogh3_run rfl (all_ok fk (all_ok (sgn_ok dy (by omega)) (all_ok (sgn_ok (A (1) (0) d1 d0) (by omega)) (all_ok (sgp_ok (B (0) (1) d0 d1) (by omega)) (all_ok (sgp_ok (A (-1) (2) n1 d2) (by omega)) (all_ok (sgn_ok (B (2) (-1) d2 n1) (by omega)) (all_ok (sgn_ok (A (-1) (-2) n1 n2) (by omega)) (all_ok (sgp_ok (B (-2) (-1) n2 n1) (by omega)) (all_ok (sgp_ok (A (-1) (0) n1 d0) (by omega)) (sgn_ok (B (0) (-1) d0 n1) (by omega))))))))))) (s3_1 (by simp only;omega) (by simp only;omega))
  ·exact run ogg3_run rfl (all_ok fk (all_ok (sgn_ok dy (by omega)) (all_ok (sgn_ok (A (1) (0) d1 d0) (by omega)) (all_ok (sgp_ok (B (0) (1) d0 d1) (by omega)) (all_ok (sgp_ok (A (-1) (2) n1 d2) (by omega)) (all_ok (sgn_ok (B (2) (-1) d2 n1) (by omega)) (all_ok (sgz_ok (A (-1) (-2) n1 n2) (by omega)) (all_ok (sgz_ok (B (-2) (-1) n2 n1) (by omega)) (all_ok (sgp_ok (A (-1) (0) n1 d0) (by omega)) (sgn_ok (B (0) (-1) d0 n1) (by omega))))))))))) (s3_2 (by simp only;omega) (by simp only;omega))
  ·rcases Int.lt_trichotomy 0 (2*u+v)with e | e | e
   ·exact run ogj3_run rfl (all_ok fk (all_ok (sgn_ok dy (by omega)) (all_ok (sgn_ok (A (1) (0) d1 d0) (by omega)) (all_ok (sgp_ok (B (0) (1) d0 d1) (by omega)) (all_ok (sgn_ok (A (-1) (2) n1 d2) (by omega)) (all_ok (sgp_ok (B (2) (-1) d2 n1) (by omega)) (all_ok (sgp_ok (A (-1) (-2) n1 n2) (by omega)) (all_ok (sgn_ok (B (-2) (-1) n2 n1) (by omega)) (all_ok (sgp_ok (A (-1) (0) n1 d0) (by omega)) (sgn_ok (B (0) (-1) d0 n1) (by omega))))))))))) (s3_2 (by simp only;omega) (by simp only;omega))
   ·exact run ogi3_run rfl (all_ok fk (all_ok (sgn_ok dy (by omega)) (all_ok (sgn_ok (A (1) (0) d1 d0) (by omega)) (all_ok (sgp_ok (B (0) (1) d0 d1) (by omega)) (all_ok (sgz_ok (A (-1) (2) n1 d2) (by omega)) (all_ok (sgz_ok (B (2) (-1) d2 n1) (by omega)) (all_ok (sgp_ok (A (-1) (-2) n1 n2) (by omega)) (all_ok (sgn_ok (B (-2) (-1) n2 n1) (by omega)) (all_ok (sgp_ok (A (-1) (0) n1 d0) (by omega)) (sgn_ok (B (0) (-1) d0 n1) (by omega))))))))))) (s3_2 (by simp only;omega) (by simp only;omega))
   ·exact run ogf3_run rfl (all_ok fk (all_ok (sgn_ok dy (by omega)) (all_ok (sgn_ok (A (1) (0) d1 d0) (by omega)) (all_ok (sgp_ok (B (0) (1) d0 d1) (by omega)) (all_ok (sgp_ok (A (-1) (2) n1 d2) (by omega)) (all_ok (sgn_ok (B (2) (-1) d2 n1) (by omega)) (all_ok (sgp_ok (A (-1) (-2) n1 n2) (by omega)) (all_ok (sgn_ok (B (-2) (-1) n2 n1) (by omega)) (all_ok (sgp_ok (A (-1) (0) n1 d0) (by omega)) (sgn_ok (B (0) (-1) d0 n1) (by omega))))))))))) (s3_2 (by simp only;omega) (by simp only;omega))
theorem og_cy (x:ByteArray) (hx:x.size<9223372036854775808) (m:Int) (hm:1≤m∧m≤3):OgG x m:=by
 have hm3:m=1∨m=2∨m=3:=by omega
 rcases hm3 with rfl | rfl | rfl
 ·exact og_1 x hx
 ·exact og_2 x hx
 ·exact og_3 x hx
end Go.Proofs.Ytdlifdoglhhnfaa
