/- Parts of the proof, one behind the other. -/
import Init
import Derived.Test.YtpdfmnhgocpkcaaGreatTK21
namespace Go.Proofs.Sr
def r_ {am:Type} (f:Nat->am) (i j:Nat):Nat->am:=fun k=>if k=i then f j else if k=j then f i else f k
inductive Sw {am:Type} (a b:Nat):(Nat->am)->(Nat->am)->Prop
 | refl (f:Nat->am):Sw a b f f
 | step {f g:Nat->am} (i j:Nat) (hi:a<=i/\i<b) (M:a<=j/\j<b) (h:Sw a b f g):Sw a b f (r_ g i j)
theorem Sw.trans {am:Type} {a b:Nat} {f g h:Nat->am} (A:Sw a b f g) (E:Sw a b g h):Sw a b f h:=by
 induction E with
 | refl=>exact A
 | step i j hi M _ ih=>exact .step i j hi M ih
theorem Sw.out {am:Type} {a b:Nat} {f g:Nat->am} (h:Sw a b f g) {k:Nat} (u:k<a\/b<=k):g k=f k:=by
 induction h with
 | refl=>rfl
 | step i j hi M _ ih =>
  unfold r_
  rw[if_neg (by omega),if_neg (by omega)];exact ih
theorem Sw.all {am:Type} {a b:Nat} {f g:Nat->am} (h:Sw a b f g) {Q:am->Prop} (hq:∀k,a<=k->k<b->Q (f k)):∀k,a<=k->k<b->Q (g k):=by
 induction h with
 | refl=>exact hq
 | step i j hi M _ ih =>
  intro k A E
  unfold r_
  split
  ·exact ih j M.1 M.2
  ·split
   ·exact ih i hi.1 hi.2
   ·exact ih k A E
def jA {am:Type} (p:am->Bool) (f:Nat->am):Nat->Nat
 | 0=>0
 | n+1=>jA p f n+(if p (f n)then 1 else 0)
theorem Ku {am:Type} {p:am->Bool} {f g:Nat->am}:∀{n:Nat},(∀k,k<n->p (f k)=p (g k))->jA p f n=jA p g n
 | 0,_=>rfl
 | n+1,h=>by simp only[jA];rw[Ku fun k u=>h k (by omega),h n (by omega)]
theorem Kv {am:Type} {p:am->Bool} {f g:Nat->am} {i:Nat}:∀{n:Nat},i<n->(∀k,k<n->k≠i->g k=f k)->jA p g n+(if p (f i)then 1 else 0)=jA p f n+(if p (g i)then 1 else 0)
 | 0,h,_=>absurd h (Nat.not_lt_zero _)
 | n+1,h,F=>by
  simp only[jA]
  by_cases hn:i=n
  ·subst hn
   rw[Ku (f:=g) (g:=f) fun k u=>by rw[F k (by omega) (by omega)]]
   omega
  ·have:=Kv (p:=p) (f:=f) (g:=g) (i:=i) (n:=n) (by omega) fun k u=>F k (by omega)
   rw[F n (by omega) (by omega)]
   omega
theorem ad8 {am:Type} {p:am->Bool} {f:Nat->am} {i j n:Nat} (hi:i<n) (M:j<n):jA p (r_ f i j) n=jA p f n:=by
 by_cases h1:i=j
 ·subst h1
  refine Ku fun k _ => ?_
  unfold r_
  split
  ·rename_i h;rw[h]
  ·rfl
 ·let g:Nat->am:=fun k=>if k=i then f j else f k
  have e1:=Kv (p:=p) (f:=f) (g:=g) hi fun k _ u=>by simp only[g];rw[if_neg u]
  have e2:=Kv (p:=p) (f:=g) (g:=r_ f i j) M fun k _ u=>by simp only[g,r_];rw[if_neg u]
  have A:g i=f j:=by simp[g]
  have E:g j=f j:=by simp only[g];split<;>rfl
  have h3:r_ f i j j=f i:=by unfold r_;rw[if_neg fun h=>h1 h.symm,if_pos rfl]
  rw[A]at e1
  rw[E,h3]at e2
  omega
theorem Sw.jA {am:Type} {a b:Nat} {f g:Nat->am} (h:Sw a b f g) {n:Nat} (hb:b<=n) (p:am->Bool):Sr.jA p g n=Sr.jA p f n:=by
 induction h with
 | refl=>rfl
 | step i j hi M _ ih=>rw[ad8 (by omega) (by omega)];exact ih
structure Ord {am:Type} (lt:am->am->Prop):Prop where
 irr:∀a,¬lt a a
 tr:∀a b c,lt a b->lt b c->lt a c
 wS:∀a b,lt a b\/a=b\/lt b a
def w8 {am:Type} (lt:am->am->Prop) (f:Nat->am) (a b:Nat):Prop:=∀i j,a<=i->i<=j->j<b->¬lt (f j) (f i)
theorem Ord.le_trans {am:Type} {lt:am->am->Prop} (o:Ord lt) {a b c:am} (A:¬lt b a) (E:¬lt c b):¬lt c a:=fun h=>by
 rcases o.wS a b with h3 | h3 | h3
 ·exact E (o.tr _ _ _ h h3)
 ·subst h3;exact E h
 ·exact A h3
theorem Ord.le_of_lt {am:Type} {lt:am->am->Prop} (o:Ord lt) {a b:am} (h:lt a b):¬lt b a:=fun k=>o.irr _ (o.tr _ _ _ h k)
theorem w8.sub {am:Type} {lt:am->am->Prop} {f:Nat->am} {a b bz dt:Nat} (h:w8 lt f a b) (ha:a<=bz) (hb:dt<=b):w8 lt f bz dt:=fun i j A E h3=>h i j (by omega) E (by omega)
theorem w8.congr {am:Type} {lt:am->am->Prop} {f g:Nat->am} {a b:Nat} (h:w8 lt f a b) (F:∀k,a<=k->k<b->g k=f k):w8 lt g a b:=fun i j A E h3=>by
 rw[F i A (by omega),F j (by omega) h3];exact h i j A E h3
end Go.Proofs.Sr
namespace Go.Proofs.Sr
abbrev Pt:=Int×Int
def half (p:Pt):Bool:=decide (0<p.2)||(decide (p.2=0)&&decide (0<p.1))
def qI (p q:Pt):Int:=p.1*q.2-p.2*q.1
def neg (p:Pt):Pt:=(-p.1,-p.2)
theorem aeh (p q:Pt):qI q p = - qI p q:=by
 simp only[qI];rw[Int.mul_comm q.1,Int.mul_comm q.2];omega
def Up (p:Pt):Prop:=0<p.2\/(p.2=0/\0<p.1)
theorem afW {p:Pt}:half p=true↔Up p:=by simp[half,Up]
def mc (p q:Pt):Int:=if half p=half q then-qI p q else if half p=true then -1 else 1
theorem uT {p q:Pt}:mc p q<0↔(half p=true/\half q=false)\/(half p=half q/\0<qI p q):=by
 unfold mc
 split
 ·rename_i h;rw[h];cases half q<;>simp
 ·rename_i h
  cases hp:half p<;>cases hq:half q<;>simp_all
theorem uS {p q:Pt}:mc p q=0↔half p=half q/\qI p q=0:=by
 unfold mc
 split
 ·rename_i h;simp[h]
 ·rename_i h
  cases hp:half p<;>simp_all
theorem Kt {p q:Pt}:0<mc p q↔mc q p<0:=by
 rw[uT]
 unfold mc
 split
 ·rename_i h;rw[h,aeh p q];cases half q<;>simp
 ·rename_i h
  cases hp:half p<;>cases hq:half q<;>simp_all
end Go.Proofs.Sr
namespace Go.Proofs.YtpdfmnhgocpkcaaGreat
open Go Go.Proofs.Aw Go.Proofs.Xw Go.Proofs.Sr
set_option maxRecDepth 100000
theorem Pr (b:ByteArray) (h:b.size<9223372036854775808):∃p:Pt,(-524288<=p.1/\p.1<=524287)/\(-524288<=p.2/\p.2<=524287)/\p≠(0,0) /\
  (cj Tryz.prog 68=true/\∀n h,CY Tryz.prog n 68 [.sc (.string b)] h (.sc (.complex .f64 (fv p.1 false) (fv p.2 false))) []) /\
  (cj Tryz.prog 145=true/\∀n h,CY Tryz.prog n 145 [.sc (.string b)] h (.tup [.sc (.int .i64 p.1),.sc (.int .i64 p.2)]) []):=by
 obtain⟨x,y,hx,hy,hz,k1,k2⟩:=aox ⟨fun _=>0,fun _=>false,fun _=>b,fun _=>0,fun _ _ _=>0,fun _ _ _=>false,fun _ _ _=>⟨#[]⟩,kN⟩ h
 exact⟨(x,y),hx,hy,fun e=>hz ⟨congrArg Prod.fst e,congrArg Prod.snd e⟩,k1,k2⟩
noncomputable def pt (b:ByteArray):Pt:=if h:b.size<9223372036854775808 then Classical.choose (Pr b h)else(1,0)
theorem X3 {b:ByteArray} (h:b.size<9223372036854775808):(-524288<=(pt b).1/\(pt b).1<=524287)/\(-524288<=(pt b).2/\(pt b).2<=524287)/\pt b≠(0,0) /\
  (cj Tryz.prog 68=true/\∀n h,CY Tryz.prog n 68 [.sc (.string b)] h (.sc (.complex .f64 (fv (pt b).1 false) (fv (pt b).2 false))) []) /\
  (cj Tryz.prog 145=true/\∀n h,CY Tryz.prog n 145 [.sc (.string b)] h (.tup [.sc (.int .i64 (pt b).1),.sc (.int .i64 (pt b).2)]) []):=by
 have e:pt b=Classical.choose (Pr b h):=by unfold pt;rw[dif_pos h]
 rw[e];exact Classical.choose_spec (Pr b h)
def Bd (z:Int):Prop := -524288<=z/\z<=524288
theorem G3 {a b:Int} (ha:Bd a) (hb:Bd b) : -274877906944<=a*b/\a*b<=274877906944:=by
 have A:(a*b).natAbs=a.natAbs*b.natAbs:=Int.natAbs_mul a b
 have E:a.natAbs*b.natAbs<=524288*524288:=Nat.mul_le_mul (by have:=ha.1;have:=ha.2;omega) (by have:=hb.1;have:=hb.2;omega)
 omega
theorem an {ρ:aa} {B b6:J} (h:J.ok ρ B) (k:J.ok ρ b6):J.ok ρ (B++b6):=fun p hp=>(List.mem_append.1 hp).elim (h p) (k p)
def sec (m:Int) (p:Pt):Int:=if m=1 then 0 else if m=2 then(if mc p (-1,0)<0 then 0 else 1)else if mc p (-1,2)<0 then 0 else if mc p (-1,-2)<0 then 1 else 2
theorem arf (m:Int) (p:Pt) (h:1<=m/\m<=3):0<=sec m p/\sec m p<m:=by
 unfold sec
 split
 ·omega
 ·split
  ·split<;>omega
  ·split
   ·omega
   ·split<;>omega
theorem FP {p:Pt}:half p=true↔0<p.2\/(p.2=0/\0<p.1):=afW
theorem U7 {p:Pt}:half p=false↔¬(0<p.2\/(p.2=0/\0<p.1)):=by rw[<-FP];cases half p<;>simp
theorem S7 {p:Pt}:mc p (-1,0)<0↔0<p.2\/(p.2=0/\0<p.1):=by
 rw[Sr.uT,FP,show half (-1,0)=false from rfl,U7]
 simp only[qI,and_true]
 omega
theorem KH {p:Pt}:mc p (-1,2)<0↔(0<p.2\/(p.2=0/\0<p.1))/\0<2*p.1+p.2:=by
 rw[Sr.uT,show half (-1,2)=true from rfl,FP]
 simp only[qI]
 constructor
 ·rintro(h | h)
  ·cases h.2
  ·exact⟨h.1,by omega⟩
 ·exact fun h => .inr ⟨h.1,by omega⟩
theorem S9 {p:Pt}:mc p (-1,-2)<0↔(0<p.2\/(p.2=0/\0<p.1))\/0<p.2-2*p.1:=by
 rw[Sr.uT,show half (-1,-2)=false from rfl,FP,U7]
 simp only[qI,and_true]
 omega
theorem zn {p:Pt} (h:(0<p.2\/(p.2=0/\0<p.1))/\0<2*p.1+p.2):sec 3 p=0:=by
 unfold sec
 rw[if_neg (by decide),if_neg (by decide),if_pos (KH.2 h)]
theorem tX {p:Pt} (h:¬((0<p.2\/(p.2=0/\0<p.1))/\0<2*p.1+p.2)) (k:(0<p.2\/(p.2=0/\0<p.1))\/0<p.2-2*p.1):sec 3 p=1:=by
 unfold sec
 rw[if_neg (by decide),if_neg (by decide),if_neg (mt KH.1 h),if_pos (S9.2 k)]
theorem tY {p:Pt} (h:¬((0<p.2\/(p.2=0/\0<p.1))/\0<2*p.1+p.2)) (k:¬((0<p.2\/(p.2=0/\0<p.1))\/0<p.2-2*p.1)):sec 3 p=2:=by
 unfold sec
 rw[if_neg (by decide),if_neg (by decide),if_neg (mt KH.1 h),if_neg (mt S9.1 k)]
theorem tV {p:Pt} (h:0<p.2\/(p.2=0/\0<p.1)):sec 2 p=0:=by
 unfold sec
 rw[if_neg (by decide),if_pos rfl,if_pos (S7.2 h)]
theorem tW {p:Pt} (h:¬(0<p.2\/(p.2=0/\0<p.1))):sec 2 p=1:=by
 unfold sec
 rw[if_neg (by decide),if_pos rfl,if_neg (mt S7.1 h)]
theorem Hk {ρ:aa} {a b:Int} (ha:Bd a) (hb:Bd b) (h0:Bd (ρ.i 300)) (A:Bd (ρ.i 301)):(oA a b).I ρ=a*ρ.i 301-b*ρ.i 300:=by
 have p:=G3 ha A
 have q:=G3 hb h0
 show a_.I .sub .i64 (a_.I .mul .i64 a (ρ.i 301)) (a_.I .mul .i64 b (ρ.i 300))=_
 simp only[a_.I]
 rw[cp (a*ρ.i 301) (by omega) (by omega),cp (b*ρ.i 300) (by omega) (by omega),cp _ (by omega) (by omega)]
theorem Hl {ρ:aa} {a b:Int} (ha:Bd a) (hb:Bd b) (h0:Bd (ρ.i 300)) (A:Bd (ρ.i 301)):(oB a b).I ρ=ρ.i 300*a-ρ.i 301*b:=by
 have p:=G3 h0 ha
 have q:=G3 A hb
 show a_.I .sub .i64 (a_.I .mul .i64 (ρ.i 300) a) (a_.I .mul .i64 (ρ.i 301) b)=_
 simp only[a_.I]
 rw[cp (ρ.i 300*a) (by omega) (by omega),cp (ρ.i 301*b) (by omega) (by omega),cp _ (by omega) (by omega)]
theorem ali {ρ:aa} {a b:Int}:(HC a b).I ρ=a*ρ.i 300-b*ρ.i 301:=rfl
theorem nv {ρ:aa} {e:U} {z:Int} (h:e.I ρ=z) (k:z=0):J.ok ρ (mH e) :=
 J.aw (by rw[Tm,h];exact k) (J.aw (by rw[mZ,h];show z<=0;omega) (J.bq _))
theorem eC {ρ:aa} {e:U} {z:Int} (h:e.I ρ=z) (k:0<z):J.ok ρ (ops e) :=
 J.aw (by rw[sF,h];show ¬z=0;omega) (J.aw (by rw[KL,h];exact k) (J.bq _))
theorem kU {ρ:aa} {e:U} {z:Int} (h:e.I ρ=z) (k:z<0):J.ok ρ (jT e) :=
 J.aw (by rw[sF,h];show ¬z=0;omega) (J.aw (by rw[mZ,h];show z<=0;omega) (J.bq _))
def w5 (x:ByteArray) (m:Int):Prop:=cj Tryz.prog 33=true/\∀n h,CY Tryz.prog n 33 [.sc (.string x),.sc (.int .i64 m)] h (.sc (.int .i64 (sec m (pt x)))) []
theorem OV (x:ByteArray) (hx:x.size<9223372036854775808):∃ρ:aa,ρ.i 300=(pt x).1/\ρ.i 301=(pt x).2/\Bd (ρ.i 300)/\Bd (ρ.i 301)/\pt x≠(0,0)/\J.ok ρ d_ /\
  ∀{m k:Int} {B:J} {t:T X},aS ⟨bg cO (fun _=>[]),[],[66,127]⟩ 33 [cD 0,cX m] B=t->t = .ret (.sc (.i .i64 (.lit k)))->J.ok ρ B->sec m (pt x)=k->w5 x m:=by
 obtain⟨Rh,Ri,DP,Rj,Rk⟩:=X3 hx
 let ρ:aa:=⟨fun k=>if k=300 then(pt x).1 else if k=301 then(pt x).2 else 0,fun _=>false,fun _=>x,fun _=>0,fun _ _ _=>0,fun _ _ _=>false,fun _ _ _=>⟨#[]⟩,kN⟩
 have eR:Bd (ρ.i 300):=⟨Rh.1,by show(pt x).1<=_;omega⟩
 have b1:Bd (ρ.i 301):=⟨Ri.1,by show(pt x).2<=_;omega⟩
 have Ak:∀k,Bd (ρ.i k)->J.ok ρ (Hn k):=fun k h=>J.aw (by rw[mZ];exact h.1) (J.aw (by rw[mZ];exact h.2) (J.bq _))
 have nz:¬(ρ.i 300=0/\ρ.i 301=0):=fun h=>DP (Prod.ext h.1 h.2)
 have fk:J.ok ρ d_:=an (an (Ak 300 eR) (Ak 301 b1)) (J.aw (by rw[Tb,sF,sF];simp only[U.I];omega) (J.bq _))
 have k1:cj Tryz.prog 68=true/\∀n h,CY Tryz.prog n 68 (X.af ρ [cD 0]) h (X.I ρ (OT 300 301)) []:=Rj
 have k2:cj Tryz.prog 145=true/\∀n h,CY Tryz.prog n 145 (X.af ρ [cD 0]) h (X.I ρ (O8 300 301)) []:=Rk
 have Kw:cf Tryz.prog ρ (bg cO (fun _=>[])):=jz (List.forall_mem_cons.2 ⟨k1,List.forall_mem_cons.2 ⟨k2,List.forall_mem_nil _⟩⟩) (fun _ _ _=>a5.nil _ _ _ _)
 refine⟨ρ,rfl,rfl,eR,b1,DP,fk,?_⟩
 intro m k B t A E h3 h4
 unfold w5
 rw[h4]
 exact eG (c:=⟨bg cO (fun _=>[]),[],[66,127]⟩) Kw (List.forall_mem_nil _) h3 (r := .sc (.i .i64 (.lit k))) (by rw[A,E];rfl)
theorem Ez:Bd 1/\Bd 0/\Bd 2/\Bd (-1)/\Bd (-2):=by unfold Bd;decide
theorem akb (x:ByteArray) (hx:x.size<9223372036854775808):w5 x 1:=by
 obtain⟨ρ,_,_,_,_,_,fk,run⟩:=OV x hx
 exact run aju rfl fk rfl
theorem akc (x:ByteArray) (hx:x.size<9223372036854775808):w5 x 2:=by
 obtain⟨ρ,e0,e1,eR,b1,nz,fk,run⟩:=OV x hx
 obtain⟨d1,d0,_,n1,_⟩:=Ez
 have ab:=fun a b (ha:Bd a) (hb:Bd b)=>Hk (ρ:=ρ) ha hb eR b1
 have ad:=fun a b (ha:Bd a) (hb:Bd b)=>Hl (ρ:=ρ) ha hb eR b1
 generalize hp:pt x=p at e0 e1 nz run
 obtain⟨Y,v⟩:=p
 simp only at e0 e1
 have nz:¬(Y=0/\v=0):=fun h=>nz (Prod.ext h.1 h.2)
 rw[e0,e1]at ab ad
 clear eR b1
 have n7:∀_:Unit,(U.var 300).I ρ=Y:=fun _=>e0
 have atO:∀_:Unit,(U.op .nw .i64 (.lit (-1)) (.var 300)).I ρ = -1*Y:=fun _=>by rw[<-e0];rfl
 clear e0 e1
 rcases Int.lt_trichotomy 0 v with c | c | c
 ·exact run ajx rfl (an fk (eC (ab 1 0 d1 d0) (by omega))) (tV (.inl c))
 ·by_cases d:0<Y
  ·exact run ajD rfl (an fk (an (nv (ab 1 0 d1 d0) (by omega)) (eC (n7 ()) d))) (tV (.inr ⟨c.symm,d⟩))
  ·exact run ajJ rfl (an fk (an (nv (ab 1 0 d1 d0) (by omega)) (an (kU (n7 ()) (by omega)) (an (nv (ad 0 (-1) d0 n1) (by omega)) (an (nv (ab (-1) 0 n1 d0) (by omega)) (an (eC (atO ()) (by omega)) (nv (ad 0 1 d0 d1) (by omega)))))))) (tW (by simp only;omega))
 ·exact run ajP rfl (an fk (an (kU (ab 1 0 d1 d0) (by omega)) (an (kU (ad 0 (-1) d0 n1) (by omega)) (an (eC (ab (-1) 0 n1 d0) (by omega)) (eC (ad 0 1 d0 d1) (by omega)))))) (tW (by simp only;omega))
theorem akd (x:ByteArray) (hx:x.size<9223372036854775808):w5 x 3:=by
 obtain⟨ρ,e0,e1,eR,b1,nz,fk,run⟩:=OV x hx
 obtain⟨d1,d0,d2,n1,n2⟩:=Ez
 have ab:=fun a b (ha:Bd a) (hb:Bd b)=>Hk (ρ:=ρ) ha hb eR b1
 have ad:=fun a b (ha:Bd a) (hb:Bd b)=>Hl (ρ:=ρ) ha hb eR b1
 have aj:=fun a b=>ali (ρ:=ρ) (a:=a) (b:=b)
 generalize hp:pt x=p at e0 e1 nz run
 obtain⟨Y,v⟩:=p
 simp only at e0 e1
 have nz:¬(Y=0/\v=0):=fun h=>nz (Prod.ext h.1 h.2)
 rw[e0,e1]at ab ad aj
 clear eR b1
 have n7:∀_:Unit,(U.var 300).I ρ=Y:=fun _=>e0
 clear e0 e1
 rcases Int.lt_trichotomy 0 v with c | c | c
 ·rcases Int.lt_trichotomy 0 (2*Y+v)with d | d | d
  ·exact run ajA rfl (an fk (an (eC (ab 1 0 d1 d0) (by omega)) (eC (ad 2 (-1) d2 n1) (by omega)))) (zn (by simp only;omega))
  ·exact run ajM rfl (an fk (an (eC (ab 1 0 d1 d0) (by omega)) (an (nv (ad 2 (-1) d2 n1) (by omega)) (an (nv (ab (-1) 2 n1 d2) (by omega)) (an (eC (aj (-1) (-2)) (by omega)) (eC (ad (-2) (-1) n2 n1) (by omega))))))) (tX (by simp only;omega) (by simp only;omega))
  ·exact run ajS rfl (an fk (an (eC (ab 1 0 d1 d0) (by omega)) (an (kU (ad 2 (-1) d2 n1) (by omega)) (an (eC (ab (-1) 2 n1 d2) (by omega)) (eC (ad (-2) (-1) n2 n1) (by omega)))))) (tX (by simp only;omega) (by simp only;omega))
 ·by_cases d:0<Y
  ·exact run ajG rfl (an fk (an (nv (ab 1 0 d1 d0) (by omega)) (an (eC (n7 ()) d) (eC (ad 2 (-1) d2 n1) (by omega))))) (zn (by simp only;omega))
  ·exact run ajV rfl (an fk (an (nv (ab 1 0 d1 d0) (by omega)) (an (kU (n7 ()) (by omega)) (an (eC (ab (-1) 2 n1 d2) (by omega)) (eC (ad (-2) (-1) n2 n1) (by omega)))))) (tX (by simp only;omega) (by simp only;omega))
 ·rcases Int.lt_trichotomy 0 (v-2*Y)with d | d | d
  ·exact run ajY rfl (an fk (an (kU (ab 1 0 d1 d0) (by omega)) (an (eC (ab (-1) 2 n1 d2) (by omega)) (eC (ad (-2) (-1) n2 n1) (by omega))))) (tX (by simp only;omega) (by simp only;omega))
  ·exact run aj1 rfl (an fk (an (kU (ab 1 0 d1 d0) (by omega)) (an (eC (ab (-1) 2 n1 d2) (by omega)) (an (nv (ad (-2) (-1) n2 n1) (by omega)) (an (nv (ab (-1) (-2) n1 n2) (by omega)) (an (eC (aj (-1) 2) (by omega)) (eC (ad 0 1 d0 d1) (by omega)))))))) (tY (by simp only;omega) (by simp only;omega))
  ·rcases Int.lt_trichotomy 0 (2*Y+v)with e | e | e
   ·exact run aka rfl (an fk (an (kU (ab 1 0 d1 d0) (by omega)) (an (kU (ab (-1) 2 n1 d2) (by omega)) (an (kU (ad (-2) (-1) n2 n1) (by omega)) (an (eC (ab (-1) (-2) n1 n2) (by omega)) (eC (ad 0 1 d0 d1) (by omega))))))) (tY (by simp only;omega) (by simp only;omega))
   ·exact run aj7 rfl (an fk (an (kU (ab 1 0 d1 d0) (by omega)) (an (nv (ab (-1) 2 n1 d2) (by omega)) (an (kU (aj (-1) (-2)) (by omega)) (an (kU (ad (-2) (-1) n2 n1) (by omega)) (an (eC (ab (-1) (-2) n1 n2) (by omega)) (eC (ad 0 1 d0 d1) (by omega)))))))) (tY (by simp only;omega) (by simp only;omega))
   ·exact run aj4 rfl (an fk (an (kU (ab 1 0 d1 d0) (by omega)) (an (eC (ab (-1) 2 n1 d2) (by omega)) (an (kU (ad (-2) (-1) n2 n1) (by omega)) (an (eC (ab (-1) (-2) n1 n2) (by omega)) (eC (ad 0 1 d0 d1) (by omega))))))) (tY (by simp only;omega) (by simp only;omega))
theorem ake (x:ByteArray) (hx:x.size<9223372036854775808) (m:Int) (hm:1<=m/\m<=3):w5 x m:=by
 have Mz:m=1\/m=2\/m=3:=by omega
 rcases Mz with rfl | rfl | rfl
 ·exact akb x hx
 ·exact akc x hx
 ·exact akd x hx
end Go.Proofs.YtpdfmnhgocpkcaaGreat
