/- Parts of the proof, one behind the other. -/
import Init
import Derived.Test.YtpdfmnhgocpkcaaGreatTM10
namespace Go.Proofs.Sr
def rH {ao:Type} (f:Nat->ao) (i j:Nat):Nat->ao:=fun k=>if k=i then f j else if k=j then f i else f k
inductive Sw {ao:Type} (a b:Nat):(Nat->ao)->(Nat->ao)->Prop
 | refl (f:Nat->ao):Sw a b f f
 | step {f g:Nat->ao} (i j:Nat) (hi:a<=i/\i<b) (O:a<=j/\j<b) (h:Sw a b f g):Sw a b f (rH g i j)
theorem Sw.trans {ao:Type} {a b:Nat} {f g h:Nat->ao} (A:Sw a b f g) (E:Sw a b g h):Sw a b f h:=by
 induction E with
 | refl=>exact A
 | step i j hi O _ ih=>exact .step i j hi O ih
theorem Sw.out {ao:Type} {a b:Nat} {f g:Nat->ao} (h:Sw a b f g) {k:Nat} (u:k<a\/b<=k):g k=f k:=by
 induction h with
 | refl=>rfl
 | step i j hi O _ ih =>
  unfold rH
  rw[if_neg (by omega),if_neg (by omega)];exact ih
theorem Sw.all {ao:Type} {a b:Nat} {f g:Nat->ao} (h:Sw a b f g) {Q:ao->Prop} (hq:∀k,a<=k->k<b->Q (f k)):∀k,a<=k->k<b->Q (g k):=by
 induction h with
 | refl=>exact hq
 | step i j hi O _ ih =>
  intro k A E
  unfold rH
  split
  ·exact ih j O.1 O.2
  ·split
   ·exact ih i hi.1 hi.2
   ·exact ih k A E
def js {ao:Type} (p:ao->Bool) (f:Nat->ao):Nat->Nat
 | 0=>0
 | n+1=>js p f n+(if p (f n)then 1 else 0)
theorem Ka {ao:Type} {p:ao->Bool} {f g:Nat->ao}:∀{n:Nat},(∀k,k<n->p (f k)=p (g k))->js p f n=js p g n
 | 0,_=>rfl
 | n+1,h=>by simp only[js];rw[Ka fun k u=>h k (by omega),h n (by omega)]
theorem Kb {ao:Type} {p:ao->Bool} {f g:Nat->ao} {i:Nat}:∀{n:Nat},i<n->(∀k,k<n->k≠i->g k=f k)->js p g n+(if p (f i)then 1 else 0)=js p f n+(if p (g i)then 1 else 0)
 | 0,h,_=>absurd h (Nat.not_lt_zero _)
 | n+1,h,G=>by
  simp only[js]
  by_cases hn:i=n
  ·subst hn
   rw[Ka (f:=g) (g:=f) fun k u=>by rw[G k (by omega) (by omega)]]
   omega
  ·have:=Kb (p:=p) (f:=f) (g:=g) (i:=i) (n:=n) (by omega) fun k u=>G k (by omega)
   rw[G n (by omega) (by omega)]
   omega
theorem adF {ao:Type} {p:ao->Bool} {f:Nat->ao} {i j n:Nat} (hi:i<n) (O:j<n):js p (rH f i j) n=js p f n:=by
 by_cases hG:i=j
 ·subst hG
  refine Ka fun k _ => ?_
  unfold rH
  split
  ·rename_i h;rw[h]
  ·rfl
 ·let g:Nat->ao:=fun k=>if k=i then f j else f k
  have e1:=Kb (p:=p) (f:=f) (g:=g) hi fun k _ u=>by simp only[g];rw[if_neg u]
  have e2:=Kb (p:=p) (f:=g) (g:=rH f i j) O fun k _ u=>by simp only[g,rH];rw[if_neg u]
  have A:g i=f j:=by simp[g]
  have E:g j=f j:=by simp only[g];split<;>rfl
  have h3:rH f i j j=f i:=by unfold rH;rw[if_neg fun h=>hG h.symm,if_pos rfl]
  rw[A]at e1
  rw[E,h3]at e2
  omega
theorem Sw.js {ao:Type} {a b:Nat} {f g:Nat->ao} (h:Sw a b f g) {n:Nat} (hb:b<=n) (p:ao->Bool):Sr.js p g n=Sr.js p f n:=by
 induction h with
 | refl=>rfl
 | step i j hi O _ ih=>rw[adF (by omega) (by omega)];exact ih
structure Ord {ao:Type} (lt:ao->ao->Prop):Prop where
 irr:∀a,¬lt a a
 tr:∀a b c,lt a b->lt b c->lt a c
 wy:∀a b,lt a b\/a=b\/lt b a
def wO {ao:Type} (lt:ao->ao->Prop) (f:Nat->ao) (a b:Nat):Prop:=∀i j,a<=i->i<=j->j<b->¬lt (f j) (f i)
theorem Ord.le_trans {ao:Type} {lt:ao->ao->Prop} (o:Ord lt) {a b c:ao} (A:¬lt b a) (E:¬lt c b):¬lt c a:=fun h=>by
 rcases o.wy a b with h3 | h3 | h3
 ·exact E (o.tr _ _ _ h h3)
 ·subst h3;exact E h
 ·exact A h3
theorem Ord.le_of_lt {ao:Type} {lt:ao->ao->Prop} (o:Ord lt) {a b:ao} (h:lt a b):¬lt b a:=fun k=>o.irr _ (o.tr _ _ _ h k)
theorem wO.sub {ao:Type} {lt:ao->ao->Prop} {f:Nat->ao} {a b bz dn:Nat} (h:wO lt f a b) (ha:a<=bz) (hb:dn<=b):wO lt f bz dn:=fun i j A E h3=>h i j (by omega) E (by omega)
theorem wO.congr {ao:Type} {lt:ao->ao->Prop} {f g:Nat->ao} {a b:Nat} (h:wO lt f a b) (G:∀k,a<=k->k<b->g k=f k):wO lt g a b:=fun i j A E h3=>by
 rw[G i A (by omega),G j (by omega) h3];exact h i j A E h3
end Go.Proofs.Sr
namespace Go.Proofs.Sr
abbrev Pt:=Int×Int
def half (p:Pt):Bool:=decide (0<p.2)||(decide (p.2=0)&&decide (0<p.1))
def qm (p q:Pt):Int:=p.1*q.2-p.2*q.1
def neg (p:Pt):Pt:=(-p.1,-p.2)
theorem adQ (p q:Pt):qm q p = - qm p q:=by
 simp only[qm];rw[Int.mul_comm q.1,Int.mul_comm q.2];omega
def Up (p:Pt):Prop:=0<p.2\/(p.2=0/\0<p.1)
theorem afE {p:Pt}:half p=true↔Up p:=by simp[half,Up]
def lX (p q:Pt):Int:=if half p=half q then-qm p q else if half p=true then -1 else 1
theorem uB {p q:Pt}:lX p q<0↔(half p=true/\half q=false)\/(half p=half q/\0<qm p q):=by
 unfold lX
 split
 ·rename_i h;rw[h];cases half q<;>simp
 ·rename_i h
  cases hp:half p<;>cases hq:half q<;>simp_all
theorem uA {p q:Pt}:lX p q=0↔half p=half q/\qm p q=0:=by
 unfold lX
 split
 ·rename_i h;simp[h]
 ·rename_i h
  cases hp:half p<;>simp_all
theorem J' {p q:Pt}:0<lX p q↔lX q p<0:=by
 rw[uB]
 unfold lX
 split
 ·rename_i h;rw[h,adQ p q];cases half q<;>simp
 ·rename_i h
  cases hp:half p<;>cases hq:half q<;>simp_all
end Go.Proofs.Sr
namespace Go.Proofs.YtpdfmnhgocpkcaaGreat
open Go Go.Proofs.Aw Go.Proofs.Xw Go.Proofs.Sr
set_option maxRecDepth 100000
theorem Pe (b:ByteArray) (h:b.size<9223372036854775808):∃p:Pt,(-524288<=p.1/\p.1<=524287)/\(-524288<=p.2/\p.2<=524287)/\p≠(0,0) /\
  (b_ Tryz.prog 68=true/\∀n h,CY Tryz.prog n 68 [.sc (.string b)] h (.sc (.complex .f64 (fv p.1 false) (fv p.2 false))) []) /\
  (b_ Tryz.prog 145=true/\∀n h,CY Tryz.prog n 145 [.sc (.string b)] h (.tup [.sc (.int .i64 p.1),.sc (.int .i64 p.2)]) []):=by
 obtain⟨x,y,hx,hy,hz,k1,k2⟩:=aoM ⟨fun _=>0,fun _=>false,fun _=>b,fun _=>0,fun _ _ _=>0,fun _ _ _=>false,fun _ _ _=>⟨#[]⟩,kz⟩ h
 exact⟨(x,y),hx,hy,fun e=>hz ⟨congrArg Prod.fst e,congrArg Prod.snd e⟩,k1,k2⟩
noncomputable def pt (b:ByteArray):Pt:=if h:b.size<9223372036854775808 then Classical.choose (Pe b h)else(1,0)
theorem XJ {b:ByteArray} (h:b.size<9223372036854775808):(-524288<=(pt b).1/\(pt b).1<=524287)/\(-524288<=(pt b).2/\(pt b).2<=524287)/\pt b≠(0,0) /\
  (b_ Tryz.prog 68=true/\∀n h,CY Tryz.prog n 68 [.sc (.string b)] h (.sc (.complex .f64 (fv (pt b).1 false) (fv (pt b).2 false))) []) /\
  (b_ Tryz.prog 145=true/\∀n h,CY Tryz.prog n 145 [.sc (.string b)] h (.tup [.sc (.int .i64 (pt b).1),.sc (.int .i64 (pt b).2)]) []):=by
 have e:pt b=Classical.choose (Pe b h):=by unfold pt;rw[dif_pos h]
 rw[e];exact Classical.choose_spec (Pe b h)
def Bd (z:Int):Prop := -524288<=z/\z<=524288
theorem GF {a b:Int} (ha:Bd a) (hb:Bd b) : -274877906944<=a*b/\a*b<=274877906944:=by
 have A:(a*b).natAbs=a.natAbs*b.natAbs:=Int.natAbs_mul a b
 have E:a.natAbs*b.natAbs<=524288*524288:=Nat.mul_le_mul (by have:=ha.1;have:=ha.2;omega) (by have:=hb.1;have:=hb.2;omega)
 omega
theorem an {ρ:aa} {B bS:J} (h:J.ok ρ B) (k:J.ok ρ bS):J.ok ρ (B++bS):=fun p hp=>(List.mem_append.1 hp).elim (h p) (k p)
def sec (m:Int) (p:Pt):Int:=if m=1 then 0 else if m=2 then(if lX p (-1,0)<0 then 0 else 1)else if lX p (-1,2)<0 then 0 else if lX p (-1,-2)<0 then 1 else 2
theorem arw (m:Int) (p:Pt) (h:1<=m/\m<=3):0<=sec m p/\sec m p<m:=by
 unfold sec
 split
 ·omega
 ·split
  ·split<;>omega
  ·split
   ·omega
   ·split<;>omega
theorem Fu {p:Pt}:half p=true↔0<p.2\/(p.2=0/\0<p.1):=afE
theorem UW {p:Pt}:half p=false↔¬(0<p.2\/(p.2=0/\0<p.1)):=by rw[<-Fu];cases half p<;>simp
theorem SN {p:Pt}:lX p (-1,0)<0↔0<p.2\/(p.2=0/\0<p.1):=by
 rw[Sr.uB,Fu,show half (-1,0)=false from rfl,UW]
 simp only[qm,and_true]
 omega
theorem Kp {p:Pt}:lX p (-1,2)<0↔(0<p.2\/(p.2=0/\0<p.1))/\0<2*p.1+p.2:=by
 rw[Sr.uB,show half (-1,2)=true from rfl,Fu]
 simp only[qm]
 constructor
 ·rintro(h | h)
  ·cases h.2
  ·exact⟨h.1,by omega⟩
 ·exact fun h => .inr ⟨h.1,by omega⟩
theorem SP {p:Pt}:lX p (-1,-2)<0↔(0<p.2\/(p.2=0/\0<p.1))\/0<p.2-2*p.1:=by
 rw[Sr.uB,show half (-1,-2)=false from rfl,Fu,UW]
 simp only[qm,and_true]
 omega
theorem ze {p:Pt} (h:(0<p.2\/(p.2=0/\0<p.1))/\0<2*p.1+p.2):sec 3 p=0:=by
 unfold sec
 rw[if_neg (by decide),if_neg (by decide),if_pos (Kp.2 h)]
theorem tF {p:Pt} (h:¬((0<p.2\/(p.2=0/\0<p.1))/\0<2*p.1+p.2)) (k:(0<p.2\/(p.2=0/\0<p.1))\/0<p.2-2*p.1):sec 3 p=1:=by
 unfold sec
 rw[if_neg (by decide),if_neg (by decide),if_neg (mt Kp.1 h),if_pos (SP.2 k)]
theorem tG {p:Pt} (h:¬((0<p.2\/(p.2=0/\0<p.1))/\0<2*p.1+p.2)) (k:¬((0<p.2\/(p.2=0/\0<p.1))\/0<p.2-2*p.1)):sec 3 p=2:=by
 unfold sec
 rw[if_neg (by decide),if_neg (by decide),if_neg (mt Kp.1 h),if_neg (mt SP.1 k)]
theorem tD {p:Pt} (h:0<p.2\/(p.2=0/\0<p.1)):sec 2 p=0:=by
 unfold sec
 rw[if_neg (by decide),if_pos rfl,if_pos (SN.2 h)]
theorem tE {p:Pt} (h:¬(0<p.2\/(p.2=0/\0<p.1))):sec 2 p=1:=by
 unfold sec
 rw[if_neg (by decide),if_pos rfl,if_neg (mt SN.1 h)]
theorem GZ {ρ:aa} {a b:Int} (ha:Bd a) (hb:Bd b) (h0:Bd (ρ.i 300)) (A:Bd (ρ.i 301)):(oA a b).I ρ=a*ρ.i 301-b*ρ.i 300:=by
 have p:=GF ha A
 have q:=GF hb h0
 show a7.I .sub .i64 (a7.I .mul .i64 a (ρ.i 301)) (a7.I .mul .i64 b (ρ.i 300))=_
 simp only[a7.I]
 rw[cc (a*ρ.i 301) (by omega) (by omega),cc (b*ρ.i 300) (by omega) (by omega),cc _ (by omega) (by omega)]
theorem G0 {ρ:aa} {a b:Int} (ha:Bd a) (hb:Bd b) (h0:Bd (ρ.i 300)) (A:Bd (ρ.i 301)):(oB a b).I ρ=ρ.i 300*a-ρ.i 301*b:=by
 have p:=GF h0 ha
 have q:=GF A hb
 show a7.I .sub .i64 (a7.I .mul .i64 (ρ.i 300) a) (a7.I .mul .i64 (ρ.i 301) b)=_
 simp only[a7.I]
 rw[cc (ρ.i 300*a) (by omega) (by omega),cc (ρ.i 301*b) (by omega) (by omega),cc _ (by omega) (by omega)]
theorem ak0 {ρ:aa} {a b:Int}:(He a b).I ρ=a*ρ.i 300-b*ρ.i 301:=rfl
theorem nl {ρ:aa} {e:U} {z:Int} (h:e.I ρ=z) (k:z=0):J.ok ρ (mA e) :=
 J.av (by rw[S5,h];exact k) (J.av (by rw[mO,h];show z<=0;omega) (J.bq _))
theorem ew {ρ:aa} {e:U} {z:Int} (h:e.I ρ=z) (k:0<z):J.ok ρ (ops e) :=
 J.av (by rw[sa,h];show ¬z=0;omega) (J.av (by rw[Ku,h];exact k) (J.bq _))
theorem kF {ρ:aa} {e:U} {z:Int} (h:e.I ρ=z) (k:z<0):J.ok ρ (jG e) :=
 J.av (by rw[sa,h];show ¬z=0;omega) (J.av (by rw[mO,h];show z<=0;omega) (J.bq _))
def wK (x:ByteArray) (m:Int):Prop:=b_ Tryz.prog 33=true/\∀n h,CY Tryz.prog n 33 [.sc (.string x),.sc (.int .i64 m)] h (.sc (.int .i64 (sec m (pt x)))) []
theorem OK (x:ByteArray) (hx:x.size<9223372036854775808):∃ρ:aa,ρ.i 300=(pt x).1/\ρ.i 301=(pt x).2/\Bd (ρ.i 300)/\Bd (ρ.i 301)/\pt x≠(0,0)/\J.ok ρ dU /\
  ∀{m k:Int} {B:J} {t:T X},aN ⟨bd cH (fun _=>[]),[],[66,127]⟩ 33 [cv 0,cV m] B=t->t = .ret (.sc (.i .i64 (.lit k)))->J.ok ρ B->sec m (pt x)=k->wK x m:=by
 obtain⟨Q6,Q7,Do,Q8,Q9⟩:=XJ hx
 let ρ:aa:=⟨fun k=>if k=300 then(pt x).1 else if k=301 then(pt x).2 else 0,fun _=>false,fun _=>x,fun _=>0,fun _ _ _=>0,fun _ _ _=>false,fun _ _ _=>⟨#[]⟩,kz⟩
 have ex:Bd (ρ.i 300):=⟨Q6.1,by show(pt x).1<=_;omega⟩
 have b1:Bd (ρ.i 301):=⟨Q7.1,by show(pt x).2<=_;omega⟩
 have z7:∀k,Bd (ρ.i k)->J.ok ρ (G2 k):=fun k h=>J.av (by rw[mO];exact h.1) (J.av (by rw[mO];exact h.2) (J.bq _))
 have nz:¬(ρ.i 300=0/\ρ.i 301=0):=fun h=>Do (Prod.ext h.1 h.2)
 have fk:J.ok ρ dU:=an (an (z7 300 ex) (z7 301 b1)) (J.av (by rw[SU,sa,sa];simp only[U.I];omega) (J.bq _))
 have k1:b_ Tryz.prog 68=true/\∀n h,CY Tryz.prog n 68 (X.af ρ [cv 0]) h (X.I ρ (OI 300 301)) []:=Q8
 have k2:b_ Tryz.prog 145=true/\∀n h,CY Tryz.prog n 145 (X.af ρ [cv 0]) h (X.I ρ (OV 300 301)) []:=Q9
 have Kc:bZ Tryz.prog ρ (bd cH (fun _=>[])):=hl (List.forall_mem_cons.2 ⟨k1,List.forall_mem_cons.2 ⟨k2,List.forall_mem_nil _⟩⟩) (fun _ _ _=>a1.nil _ _ _ _)
 refine⟨ρ,rfl,rfl,ex,b1,Do,fk,?_⟩
 intro m k B t A E h3 h4
 unfold wK
 rw[h4]
 exact ef (c:=⟨bd cH (fun _=>[]),[],[66,127]⟩) Kc (List.forall_mem_nil _) h3 (r := .sc (.i .i64 (.lit k))) (by rw[A,E];rfl)
theorem Ec:Bd 1/\Bd 0/\Bd 2/\Bd (-1)/\Bd (-2):=by unfold Bd;decide
theorem ajU (x:ByteArray) (hx:x.size<9223372036854775808):wK x 1:=by
 obtain⟨ρ,_,_,_,_,_,fk,run⟩:=OK x hx
 exact run ajd rfl fk rfl
theorem ajV (x:ByteArray) (hx:x.size<9223372036854775808):wK x 2:=by
 obtain⟨ρ,e0,e1,ex,b1,nz,fk,run⟩:=OK x hx
 obtain⟨d1,d0,_,n1,_⟩:=Ec
 have ab:=fun a b (ha:Bd a) (hb:Bd b)=>GZ (ρ:=ρ) ha hb ex b1
 have ad:=fun a b (ha:Bd a) (hb:Bd b)=>G0 (ρ:=ρ) ha hb ex b1
 generalize hp:pt x=p at e0 e1 nz run
 obtain⟨Y,v⟩:=p
 simp only at e0 e1
 have nz:¬(Y=0/\v=0):=fun h=>nz (Prod.ext h.1 h.2)
 rw[e0,e1]at ab ad
 clear ex b1
 have nZ:∀_:Unit,(U.var 300).I ρ=Y:=fun _=>e0
 have atR:∀_:Unit,(U.op .np .i64 (.lit (-1)) (.var 300)).I ρ = -1*Y:=fun _=>by rw[<-e0];rfl
 clear e0 e1
 rcases Int.lt_trichotomy 0 v with c | c | c
 ·exact run ajg rfl (an fk (ew (ab 1 0 d1 d0) (by omega))) (tD (.inl c))
 ·by_cases d:0<Y
  ·exact run ajm rfl (an fk (an (nl (ab 1 0 d1 d0) (by omega)) (ew (nZ ()) d))) (tD (.inr ⟨c.symm,d⟩))
  ·exact run ajs rfl (an fk (an (nl (ab 1 0 d1 d0) (by omega)) (an (kF (nZ ()) (by omega)) (an (nl (ad 0 (-1) d0 n1) (by omega)) (an (nl (ab (-1) 0 n1 d0) (by omega)) (an (ew (atR ()) (by omega)) (nl (ad 0 1 d0 d1) (by omega)))))))) (tE (by simp only;omega))
 ·exact run ajy rfl (an fk (an (kF (ab 1 0 d1 d0) (by omega)) (an (kF (ad 0 (-1) d0 n1) (by omega)) (an (ew (ab (-1) 0 n1 d0) (by omega)) (ew (ad 0 1 d0 d1) (by omega)))))) (tE (by simp only;omega))
theorem ajW (x:ByteArray) (hx:x.size<9223372036854775808):wK x 3:=by
 obtain⟨ρ,e0,e1,ex,b1,nz,fk,run⟩:=OK x hx
 obtain⟨d1,d0,d2,n1,n2⟩:=Ec
 have ab:=fun a b (ha:Bd a) (hb:Bd b)=>GZ (ρ:=ρ) ha hb ex b1
 have ad:=fun a b (ha:Bd a) (hb:Bd b)=>G0 (ρ:=ρ) ha hb ex b1
 have ak:=fun a b=>ak0 (ρ:=ρ) (a:=a) (b:=b)
 generalize hp:pt x=p at e0 e1 nz run
 obtain⟨Y,v⟩:=p
 simp only at e0 e1
 have nz:¬(Y=0/\v=0):=fun h=>nz (Prod.ext h.1 h.2)
 rw[e0,e1]at ab ad ak
 clear ex b1
 have nZ:∀_:Unit,(U.var 300).I ρ=Y:=fun _=>e0
 clear e0 e1
 rcases Int.lt_trichotomy 0 v with c | c | c
 ·rcases Int.lt_trichotomy 0 (2*Y+v)with d | d | d
  ·exact run ajj rfl (an fk (an (ew (ab 1 0 d1 d0) (by omega)) (ew (ad 2 (-1) d2 n1) (by omega)))) (ze (by simp only;omega))
  ·exact run ajv rfl (an fk (an (ew (ab 1 0 d1 d0) (by omega)) (an (nl (ad 2 (-1) d2 n1) (by omega)) (an (nl (ab (-1) 2 n1 d2) (by omega)) (an (ew (ak (-1) (-2)) (by omega)) (ew (ad (-2) (-1) n2 n1) (by omega))))))) (tF (by simp only;omega) (by simp only;omega))
  ·exact run ajB rfl (an fk (an (ew (ab 1 0 d1 d0) (by omega)) (an (kF (ad 2 (-1) d2 n1) (by omega)) (an (ew (ab (-1) 2 n1 d2) (by omega)) (ew (ad (-2) (-1) n2 n1) (by omega)))))) (tF (by simp only;omega) (by simp only;omega))
 ·by_cases d:0<Y
  ·exact run ajp rfl (an fk (an (nl (ab 1 0 d1 d0) (by omega)) (an (ew (nZ ()) d) (ew (ad 2 (-1) d2 n1) (by omega))))) (ze (by simp only;omega))
  ·exact run ajE rfl (an fk (an (nl (ab 1 0 d1 d0) (by omega)) (an (kF (nZ ()) (by omega)) (an (ew (ab (-1) 2 n1 d2) (by omega)) (ew (ad (-2) (-1) n2 n1) (by omega)))))) (tF (by simp only;omega) (by simp only;omega))
 ·rcases Int.lt_trichotomy 0 (v-2*Y)with d | d | d
  ·exact run ajH rfl (an fk (an (kF (ab 1 0 d1 d0) (by omega)) (an (ew (ab (-1) 2 n1 d2) (by omega)) (ew (ad (-2) (-1) n2 n1) (by omega))))) (tF (by simp only;omega) (by simp only;omega))
  ·exact run ajK rfl (an fk (an (kF (ab 1 0 d1 d0) (by omega)) (an (ew (ab (-1) 2 n1 d2) (by omega)) (an (nl (ad (-2) (-1) n2 n1) (by omega)) (an (nl (ab (-1) (-2) n1 n2) (by omega)) (an (ew (ak (-1) 2) (by omega)) (ew (ad 0 1 d0 d1) (by omega)))))))) (tG (by simp only;omega) (by simp only;omega))
  ·rcases Int.lt_trichotomy 0 (2*Y+v)with e | e | e
   ·exact run ajT rfl (an fk (an (kF (ab 1 0 d1 d0) (by omega)) (an (kF (ab (-1) 2 n1 d2) (by omega)) (an (kF (ad (-2) (-1) n2 n1) (by omega)) (an (ew (ab (-1) (-2) n1 n2) (by omega)) (ew (ad 0 1 d0 d1) (by omega))))))) (tG (by simp only;omega) (by simp only;omega))
   ·exact run ajQ rfl (an fk (an (kF (ab 1 0 d1 d0) (by omega)) (an (nl (ab (-1) 2 n1 d2) (by omega)) (an (kF (ak (-1) (-2)) (by omega)) (an (kF (ad (-2) (-1) n2 n1) (by omega)) (an (ew (ab (-1) (-2) n1 n2) (by omega)) (ew (ad 0 1 d0 d1) (by omega)))))))) (tG (by simp only;omega) (by simp only;omega))
   ·exact run ajN rfl (an fk (an (kF (ab 1 0 d1 d0) (by omega)) (an (ew (ab (-1) 2 n1 d2) (by omega)) (an (kF (ad (-2) (-1) n2 n1) (by omega)) (an (ew (ab (-1) (-2) n1 n2) (by omega)) (ew (ad 0 1 d0 d1) (by omega))))))) (tG (by simp only;omega) (by simp only;omega))
theorem ajX (x:ByteArray) (hx:x.size<9223372036854775808) (m:Int) (hm:1<=m/\m<=3):wK x m:=by
 have Mk:m=1\/m=2\/m=3:=by omega
 rcases Mk with rfl | rfl | rfl
 ·exact ajU x hx
 ·exact ajV x hx
 ·exact ajW x hx
end Go.Proofs.YtpdfmnhgocpkcaaGreat
