/- Parts of the proof, one behind the other. -/
import Init
import Derived.Test.YtpdfmnhgocpkcaaGreatTM11
namespace Go.Proofs.Sr
def swp {α:Type} (f:Nat->α) (i j:Nat):Nat->α:=fun k=>if k=i then f j else if k=j then f i else f k
inductive Sw {α:Type} (a b:Nat):(Nat->α)->(Nat->α)->Prop
 | refl (f:Nat->α):Sw a b f f
 | step {f g:Nat->α} (i j:Nat) (hi:a<=i/\i<b) (hj:a<=j/\j<b) (h:Sw a b f g):Sw a b f (swp g i j)
theorem Sw.trans {α:Type} {a b:Nat} {f g h:Nat->α} (h1:Sw a b f g) (h2:Sw a b g h):Sw a b f h:=by
 induction h2 with
 | refl=>exact h1
 | step i j hi hj _ ih=>exact .step i j hi hj ih
theorem Sw.out {α:Type} {a b:Nat} {f g:Nat->α} (h:Sw a b f g) {k:Nat} (hk:k<a\/b<=k):g k=f k:=by
 induction h with
 | refl=>rfl
 | step i j hi hj _ ih =>
  unfold swp
  rw[if_neg (by omega),if_neg (by omega)];exact ih
theorem Sw.all {α:Type} {a b:Nat} {f g:Nat->α} (h:Sw a b f g) {Q:α->Prop} (hq:∀k,a<=k->k<b->Q (f k)):∀k,a<=k->k<b->Q (g k):=by
 induction h with
 | refl=>exact hq
 | step i j hi hj _ ih =>
  intro k h1 h2
  unfold swp
  split
  ·exact ih j hj.1 hj.2
  ·split
   ·exact ih i hi.1 hi.2
   ·exact ih k h1 h2
def cnt {α:Type} (p:α->Bool) (f:Nat->α):Nat->Nat
 | 0=>0
 | n+1=>cnt p f n+(if p (f n)then 1 else 0)
theorem BA {α:Type} {p:α->Bool} {f g:Nat->α}:∀{n:Nat},(∀k,k<n->p (f k)=p (g k))->cnt p f n=cnt p g n
 | 0,_=>rfl
 | n+1,h=>by simp only[cnt];rw[BA fun k hk=>h k (by omega),h n (by omega)]
theorem LK {α:Type} {p:α->Bool} {f g:Nat->α} {i:Nat}:∀{n:Nat},i<n->(∀k,k<n->k≠i->g k=f k)->cnt p g n+(if p (f i)then 1 else 0)=cnt p f n+(if p (g i)then 1 else 0)
 | 0,h,_=>absurd h (Nat.not_lt_zero _)
 | n+1,h,he=>by
  simp only[cnt]
  by_cases hn:i=n
  ·subst hn
   rw[BA (f:=g) (g:=f) fun k hk=>by rw[he k (by omega) (by omega)]]
   omega
  ·have:=LK (p:=p) (f:=f) (g:=g) (i:=i) (n:=n) (by omega) fun k hk=>he k (by omega)
   rw[he n (by omega) (by omega)]
   omega
theorem aK3 {α:Type} {p:α->Bool} {f:Nat->α} {i j n:Nat} (hi:i<n) (hj:j<n):cnt p (swp f i j) n=cnt p f n:=by
 by_cases hij:i=j
 ·subst hij
  refine BA fun k _ => ?_
  unfold swp
  split
  ·rename_i h;rw[h]
  ·rfl
 ·let g:Nat->α:=fun k=>if k=i then f j else f k
  have e1:=LK (p:=p) (f:=f) (g:=g) hi fun k _ hk=>by simp only[g];rw[if_neg hk]
  have e2:=LK (p:=p) (f:=g) (g:=swp f i j) hj fun k _ hk=>by simp only[g,swp];rw[if_neg hk]
  have h1:g i=f j:=by simp[g]
  have h2:g j=f j:=by simp only[g];split<;>rfl
  have h3:swp f i j j=f i:=by unfold swp;rw[if_neg fun h=>hij h.symm,if_pos rfl]
  rw[h1]at e1
  rw[h2,h3]at e2
  omega
theorem Sw.cnt {α:Type} {a b:Nat} {f g:Nat->α} (h:Sw a b f g) {n:Nat} (hb:b<=n) (p:α->Bool):Sr.cnt p g n=Sr.cnt p f n:=by
 induction h with
 | refl=>rfl
 | step i j hi hj _ ih=>rw[aK3 (by omega) (by omega)];exact ih
structure Ord {α:Type} (lt:α->α->Prop):Prop where
 irr:∀a,¬lt a a
 tr:∀a b c,lt a b->lt b c->lt a c
 tot:∀a b,lt a b\/a=b\/lt b a
def Srt {α:Type} (lt:α->α->Prop) (f:Nat->α) (a b:Nat):Prop:=∀i j,a<=i->i<=j->j<b->¬lt (f j) (f i)
theorem Ord.le_trans {α:Type} {lt:α->α->Prop} (o:Ord lt) {a b c:α} (h1:¬lt b a) (h2:¬lt c b):¬lt c a:=fun h=>by
 rcases o.tot a b with h3 | h3 | h3
 ·exact h2 (o.tr _ _ _ h h3)
 ·subst h3;exact h2 h
 ·exact h1 h3
theorem Ord.le_of_lt {α:Type} {lt:α->α->Prop} (o:Ord lt) {a b:α} (h:lt a b):¬lt b a:=fun k=>o.irr _ (o.tr _ _ _ h k)
theorem Srt.sub {α:Type} {lt:α->α->Prop} {f:Nat->α} {a b a' b':Nat} (h:Srt lt f a b) (ha:a<=a') (hb:b'<=b):Srt lt f a' b':=fun i j h1 h2 h3=>h i j (by omega) h2 (by omega)
theorem Srt.congr {α:Type} {lt:α->α->Prop} {f g:Nat->α} {a b:Nat} (h:Srt lt f a b) (he:∀k,a<=k->k<b->g k=f k):Srt lt g a b:=fun i j h1 h2 h3=>by
 rw[he i h1 (by omega),he j (by omega) h3];exact h i j h1 h2 h3
end Go.Proofs.Sr
namespace Go.Proofs.Sr
abbrev Pt:=Int×Int
def half (p:Pt):Bool:=decide (0<p.2)||(decide (p.2=0)&&decide (0<p.1))
def cross (p q:Pt):Int:=p.1*q.2-p.2*q.1
def neg (p:Pt):Pt:=(-p.1,-p.2)
theorem Rx (p q:Pt):cross q p = - cross p q:=by
 simp only[cross];rw[Int.mul_comm q.1,Int.mul_comm q.2];omega
def Up (p:Pt):Prop:=0<p.2\/(p.2=0/\0<p.1)
theorem bh4 {p:Pt}:half p=true<->Up p:=by simp[half,Up]
def BB (p q:Pt):Int:=if half p=half q then-cross p q else if half p=true then -1 else 1
theorem cmp_lt {p q:Pt}:BB p q<0<->(half p=true/\half q=false)\/(half p=half q/\0<cross p q):=by
 unfold BB
 split
 ·rename_i h;rw[h];cases half q<;>simp
 ·rename_i h
  cases hp:half p<;>cases hq:half q<;>simp_all
theorem cmp_eq {p q:Pt}:BB p q=0<->half p=half q/\cross p q=0:=by
 unfold BB
 split
 ·rename_i h;simp[h]
 ·rename_i h
  cases hp:half p<;>simp_all
theorem RF {p q:Pt}:0<BB p q<->BB q p<0:=by
 rw[cmp_lt]
 unfold BB
 split
 ·rename_i h;rw[h,Rx p q];cases half q<;>simp
 ·rename_i h
  cases hp:half p<;>cases hq:half q<;>simp_all
end Go.Proofs.Sr
namespace Go.Proofs.YtpdfmnhgocpkcaaGreat
open Go Go.Proofs.Aw Go.Proofs.Xw Go.Proofs.Sr
set_option maxRecDepth 100000
theorem ZY (b:ByteArray) (h:b.size<9223372036854775808):∃p:Pt,(-524288<=p.1/\p.1<=524287)/\(-524288<=p.2/\p.2<=524287)/\p≠(0,0) /\
  (aQ Tryz.prog 68=true/\∀n h,CY Tryz.prog n 68 [.sc (.string b)] h (.sc (.complex .f64 (fv p.1 false) (fv p.2 false))) []) /\
  (aQ Tryz.prog 145=true/\∀n h,CY Tryz.prog n 145 [.sc (.string b)] h (.tup [.sc (.int .i64 p.1),.sc (.int .i64 p.2)]) []):=by
 obtain⟨x,y,hx,hy,hz,k1,k2⟩:=a96 ⟨fun _=>0,fun _=>false,fun _=>b,fun _=>0,fun _ _ _=>0,fun _ _ _=>false,fun _ _ _=>⟨#[]⟩,UB⟩ h
 exact⟨(x,y),hx,hy,fun e=>hz ⟨congrArg Prod.fst e,congrArg Prod.snd e⟩,k1,k2⟩
noncomputable def pt (b:ByteArray):Pt:=if h:b.size<9223372036854775808 then Classical.choose (ZY b h)else(1,0)
theorem aQ1 {b:ByteArray} (h:b.size<9223372036854775808):(-524288<=(pt b).1/\(pt b).1<=524287)/\(-524288<=(pt b).2/\(pt b).2<=524287)/\pt b≠(0,0) /\
  (aQ Tryz.prog 68=true/\∀n h,CY Tryz.prog n 68 [.sc (.string b)] h (.sc (.complex .f64 (fv (pt b).1 false) (fv (pt b).2 false))) []) /\
  (aQ Tryz.prog 145=true/\∀n h,CY Tryz.prog n 145 [.sc (.string b)] h (.tup [.sc (.int .i64 (pt b).1),.sc (.int .i64 (pt b).2)]) []):=by
 have e:pt b=Classical.choose (ZY b h):=by unfold pt;rw[dif_pos h]
 rw[e];exact Classical.choose_spec (ZY b h)
def Bd (z:Int):Prop := -524288<=z/\z<=524288
theorem KC {a b:Int} (ha:Bd a) (hb:Bd b) : -274877906944<=a*b/\a*b<=274877906944:=by
 have h1:(a*b).natAbs=a.natAbs*b.natAbs:=Int.natAbs_mul a b
 have h2:a.natAbs*b.natAbs<=524288*524288:=Nat.mul_le_mul (by have:=ha.1;have:=ha.2;omega) (by have:=hb.1;have:=hb.2;omega)
 omega
theorem ae {J:Rho} {Φ Ψ:Facts} (h:Facts.ok J Φ) (k:Facts.ok J Ψ):Facts.ok J (Φ++Ψ):=fun p hp=>(List.mem_append.1 hp).elim (h p) (k p)
def MC (m:Int) (p:Pt):Int:=if m=1 then 0 else if m=2 then(if BB p (-1,0)<0 then 0 else 1)else if BB p (-1,2)<0 then 0 else if BB p (-1,-2)<0 then 1 else 2
theorem by7 (m:Int) (p:Pt) (h:1<=m/\m<=3):0<=MC m p/\MC m p<m:=by
 unfold MC
 split
 ·omega
 ·split
  ·split<;>omega
  ·split
   ·omega
   ·split<;>omega
theorem aH8 {p:Pt}:half p=true<->0<p.2\/(p.2=0/\0<p.1):=bh4
theorem bX6 {p:Pt}:half p=false<->¬(0<p.2\/(p.2=0/\0<p.1)):=by rw[<-aH8];cases half p<;>simp
theorem am8 {p:Pt}:BB p (-1,0)<0<->0<p.2\/(p.2=0/\0<p.1):=by
 rw[Sr.cmp_lt,aH8,show half (-1,0)=false from rfl,bX6]
 simp only[cross,and_true]
 omega
theorem Rw {p:Pt}:BB p (-1,2)<0<->(0<p.2\/(p.2=0/\0<p.1))/\0<2*p.1+p.2:=by
 rw[Sr.cmp_lt,show half (-1,2)=true from rfl,aH8]
 simp only[cross]
 constructor
 ·rintro(h | h)
  ·cases h.2
  ·exact⟨h.1,by omega⟩
 ·exact fun h => .inr ⟨h.1,by omega⟩
theorem am7 {p:Pt}:BB p (-1,-2)<0<->(0<p.2\/(p.2=0/\0<p.1))\/0<p.2-2*p.1:=by
 rw[Sr.cmp_lt,show half (-1,-2)=false from rfl,aH8,bX6]
 simp only[cross,and_true]
 omega
theorem VN {p:Pt} (h:(0<p.2\/(p.2=0/\0<p.1))/\0<2*p.1+p.2):MC 3 p=0:=by
 unfold MC
 rw[if_neg (by decide),if_neg (by decide),if_pos (Rw.2 h)]
theorem Nl {p:Pt} (h:¬((0<p.2\/(p.2=0/\0<p.1))/\0<2*p.1+p.2)) (k:(0<p.2\/(p.2=0/\0<p.1))\/0<p.2-2*p.1):MC 3 p=1:=by
 unfold MC
 rw[if_neg (by decide),if_neg (by decide),if_neg (mt Rw.1 h),if_pos (am7.2 k)]
theorem Nj {p:Pt} (h:¬((0<p.2\/(p.2=0/\0<p.1))/\0<2*p.1+p.2)) (k:¬((0<p.2\/(p.2=0/\0<p.1))\/0<p.2-2*p.1)):MC 3 p=2:=by
 unfold MC
 rw[if_neg (by decide),if_neg (by decide),if_neg (mt Rw.1 h),if_neg (mt am7.1 k)]
theorem Nq {p:Pt} (h:0<p.2\/(p.2=0/\0<p.1)):MC 2 p=0:=by
 unfold MC
 rw[if_neg (by decide),if_pos rfl,if_pos (am8.2 h)]
theorem Np {p:Pt} (h:¬(0<p.2\/(p.2=0/\0<p.1))):MC 2 p=1:=by
 unfold MC
 rw[if_neg (by decide),if_pos rfl,if_neg (mt am8.1 h)]
theorem Kv {J:Rho} {a b:Int} (ha:Bd a) (hb:Bd b) (h0:Bd (J.i 300)) (h1:Bd (J.i 301)):(oA a b).den J=a*J.i 301-b*J.i 300:=by
 have p:=KC ha h1
 have q:=KC hb h0
 show IOp.den .sub .i64 (IOp.den .mul .i64 a (J.i 301)) (IOp.den .mul .i64 b (J.i 300))=_
 simp only[IOp.den]
 rw[aP (a*J.i 301) (by omega) (by omega),aP (b*J.i 300) (by omega) (by omega),aP _ (by omega) (by omega)]
theorem Ku {J:Rho} {a b:Int} (ha:Bd a) (hb:Bd b) (h0:Bd (J.i 300)) (h1:Bd (J.i 301)):(oB a b).den J=J.i 300*a-J.i 301*b:=by
 have p:=KC h0 ha
 have q:=KC h1 hb
 show IOp.den .sub .i64 (IOp.den .mul .i64 (J.i 300) a) (IOp.den .mul .i64 (J.i 301) b)=_
 simp only[IOp.den]
 rw[aP (J.i 300*a) (by omega) (by omega),aP (J.i 301*b) (by omega) (by omega),aP _ (by omega) (by omega)]
theorem aC2 {J:Rho} {a b:Int}:(owA a b).den J=a*J.i 300-b*J.i 301:=rfl
theorem nG {J:Rho} {e:IE} {z:Int} (h:e.den J=z) (k:z=0):Facts.ok J (We e) :=
 Facts.ok_cons (by rw[aS6,h];exact k) (Facts.ok_cons (by rw[tX,h];show z<=0;omega) (Facts.ok_nil _))
theorem eQ {J:Rho} {e:IE} {z:Int} (h:e.den J=z) (k:0<z):Facts.ok J (ops e) :=
 Facts.ok_cons (by rw[Cm,h];show ¬z=0;omega) (Facts.ok_cons (by rw[am1,h];exact k) (Facts.ok_nil _))
theorem kJ {J:Rho} {e:IE} {z:Int} (h:e.den J=z) (k:z<0):Facts.ok J (PV e) :=
 Facts.ok_cons (by rw[Cm,h];show ¬z=0;omega) (Facts.ok_cons (by rw[tX,h];show z<=0;omega) (Facts.ok_nil _))
def OfG (x:ByteArray) (m:Int):Prop:=aQ Tryz.prog 33=true/\∀n h,CY Tryz.prog n 33 [.sc (.string x),.sc (.int .i64 m)] h (.sc (.int .i64 (MC m (pt x)))) []
theorem Kt (x:ByteArray) (hx:x.size<9223372036854775808):∃J:Rho,J.i 300=(pt x).1/\J.i 301=(pt x).2/\Bd (J.i 300)/\Bd (J.i 301)/\pt x≠(0,0)/\Facts.ok J xg /\
  ∀{m k:Int} {Φ:Facts} {t:T X},aU ⟨bU gW (fun _=>[]),[],[66,127]⟩ 33 [oD 0,qG m] Φ=t->t = .ret (.sc (.i .i64 (.lit k)))->Facts.ok J Φ->MC m (pt x)=k->OfG x m:=by
 obtain⟨x1,x2,x3,x4,x5⟩:=aQ1 hx
 let J:Rho:=⟨fun k=>if k=300 then(pt x).1 else if k=301 then(pt x).2 else 0,fun _=>false,fun _=>x,fun _=>0,fun _ _ _=>0,fun _ _ _=>false,fun _ _ _=>⟨#[]⟩,UB⟩
 have b0:Bd (J.i 300):=⟨x1.1,by show(pt x).1<=_;omega⟩
 have b1:Bd (J.i 301):=⟨x2.1,by show(pt x).2<=_;omega⟩
 have bk:∀k,Bd (J.i k)->Facts.ok J (aD1 k):=fun k h=>Facts.ok_cons (by rw[tX];exact h.1) (Facts.ok_cons (by rw[tX];exact h.2) (Facts.ok_nil _))
 have nz:¬(J.i 300=0/\J.i 301=0):=fun h=>x3 (Prod.ext h.1 h.2)
 have fk:Facts.ok J xg:=ae (ae (bk 300 b0) (bk 301 b1)) (Facts.ok_cons (by rw[am3,Cm,Cm];simp only[IE.den];omega) (Facts.ok_nil _))
 have k1:aQ Tryz.prog 68=true/\∀n h,CY Tryz.prog n 68 (X.denL J [oD 0]) h (X.den J (ba3 300 301)) []:=x4
 have k2:aQ Tryz.prog 145=true/\∀n h,CY Tryz.prog n 145 (X.denL J [oD 0]) h (X.den J (ba0 300 301)) []:=x5
 have cok:CfgOk Tryz.prog J (bU gW (fun _=>[])):=iW (List.forall_mem_cons.2 ⟨k1,List.forall_mem_cons.2 ⟨k2,List.forall_mem_nil _⟩⟩) (fun _ _ _=>LpsOk.nil _ _ _ _)
 refine⟨J,rfl,rfl,b0,b1,x3,fk,?_⟩
 intro m k Φ t h1 h2 h3 h4
 unfold OfG
 rw[h4]
 exact dM (c:=⟨bU gW (fun _=>[]),[],[66,127]⟩) cok (List.forall_mem_nil _) h3 (r := .sc (.i .i64 (.lit k))) (by rw[h1,h2];rfl)
theorem bd1:Bd 1/\Bd 0/\Bd 2/\Bd (-1)/\Bd (-2):=by unfold Bd;decide
theorem cx5 (x:ByteArray) (hx:x.size<9223372036854775808):OfG x 1:=by
 obtain⟨J,_,_,_,_,_,fk,run⟩:=Kt x hx
 exact run ab6 rfl fk rfl
theorem cx4 (x:ByteArray) (hx:x.size<9223372036854775808):OfG x 2:=by
 obtain⟨J,e0,e1,b0,b1,nz,fk,run⟩:=Kt x hx
 obtain⟨d1,d0,_,n1,_⟩:=bd1
 have A:=fun a b (ha:Bd a) (hb:Bd b)=>Kv (J:=J) ha hb b0 b1
 have B:=fun a b (ha:Bd a) (hb:Bd b)=>Ku (J:=J) ha hb b0 b1
 generalize hp:pt x=p at e0 e1 nz run
 obtain⟨u,v⟩:=p
 simp only at e0 e1
 have nz:¬(u=0/\v=0):=fun h=>nz (Prod.ext h.1 h.2)
 rw[e0,e1]at A B
 clear b0 b1
 have dx:∀_:Unit,(IE.var 300).den J=u:=fun _=>e0
 have wc:∀_:Unit,(IE.op .pmul .i64 (.lit (-1)) (.var 300)).den J = -1*u:=fun _=>by rw[<-e0];rfl
 clear e0 e1
 rcases Int.lt_trichotomy 0 v with c | c | c
 ·exact run Xg rfl (ae fk (eQ (A 1 0 d1 d0) (by omega))) (Nq (.inl c))
 ·by_cases d:0<u
  ·exact run Xe rfl (ae fk (ae (nG (A 1 0 d1 d0) (by omega)) (eQ (dx ()) d))) (Nq (.inr ⟨c.symm,d⟩))
  ·exact run Xc rfl (ae fk (ae (nG (A 1 0 d1 d0) (by omega)) (ae (kJ (dx ()) (by omega)) (ae (nG (B 0 (-1) d0 n1) (by omega)) (ae (nG (A (-1) 0 n1 d0) (by omega)) (ae (eQ (wc ()) (by omega)) (nG (B 0 1 d0 d1) (by omega)))))))) (Np (by simp only;omega))
 ·exact run Xa rfl (ae fk (ae (kJ (A 1 0 d1 d0) (by omega)) (ae (kJ (B 0 (-1) d0 n1) (by omega)) (ae (eQ (A (-1) 0 n1 d0) (by omega)) (eQ (B 0 1 d0 d1) (by omega)))))) (Np (by simp only;omega))
theorem cx3 (x:ByteArray) (hx:x.size<9223372036854775808):OfG x 3:=by
 obtain⟨J,e0,e1,b0,b1,nz,fk,run⟩:=Kt x hx
 obtain⟨d1,d0,d2,n1,n2⟩:=bd1
 have A:=fun a b (ha:Bd a) (hb:Bd b)=>Kv (J:=J) ha hb b0 b1
 have B:=fun a b (ha:Bd a) (hb:Bd b)=>Ku (J:=J) ha hb b0 b1
 have W:=fun a b=>aC2 (J:=J) (a:=a) (b:=b)
 generalize hp:pt x=p at e0 e1 nz run
 obtain⟨u,v⟩:=p
 simp only at e0 e1
 have nz:¬(u=0/\v=0):=fun h=>nz (Prod.ext h.1 h.2)
 rw[e0,e1]at A B W
 clear b0 b1
 have dx:∀_:Unit,(IE.var 300).den J=u:=fun _=>e0
 clear e0 e1
 rcases Int.lt_trichotomy 0 v with c | c | c
 ·rcases Int.lt_trichotomy 0 (2*u+v)with d | d | d
  ·exact run Xf rfl (ae fk (ae (eQ (A 1 0 d1 d0) (by omega)) (eQ (B 2 (-1) d2 n1) (by omega)))) (VN (by simp only;omega))
  ·exact run Xb rfl (ae fk (ae (eQ (A 1 0 d1 d0) (by omega)) (ae (nG (B 2 (-1) d2 n1) (by omega)) (ae (nG (A (-1) 2 n1 d2) (by omega)) (ae (eQ (W (-1) (-2)) (by omega)) (eQ (B (-2) (-1) n2 n1) (by omega))))))) (Nl (by simp only;omega) (by simp only;omega))
  ·exact run W9 rfl (ae fk (ae (eQ (A 1 0 d1 d0) (by omega)) (ae (kJ (B 2 (-1) d2 n1) (by omega)) (ae (eQ (A (-1) 2 n1 d2) (by omega)) (eQ (B (-2) (-1) n2 n1) (by omega)))))) (Nl (by simp only;omega) (by simp only;omega))
 ·by_cases d:0<u
  ·exact run Xd rfl (ae fk (ae (nG (A 1 0 d1 d0) (by omega)) (ae (eQ (dx ()) d) (eQ (B 2 (-1) d2 n1) (by omega))))) (VN (by simp only;omega))
  ·exact run WZ rfl (ae fk (ae (nG (A 1 0 d1 d0) (by omega)) (ae (kJ (dx ()) (by omega)) (ae (eQ (A (-1) 2 n1 d2) (by omega)) (eQ (B (-2) (-1) n2 n1) (by omega)))))) (Nl (by simp only;omega) (by simp only;omega))
 ·rcases Int.lt_trichotomy 0 (v-2*u)with d | d | d
  ·exact run WY rfl (ae fk (ae (kJ (A 1 0 d1 d0) (by omega)) (ae (eQ (A (-1) 2 n1 d2) (by omega)) (eQ (B (-2) (-1) n2 n1) (by omega))))) (Nl (by simp only;omega) (by simp only;omega))
  ·exact run WX rfl (ae fk (ae (kJ (A 1 0 d1 d0) (by omega)) (ae (eQ (A (-1) 2 n1 d2) (by omega)) (ae (nG (B (-2) (-1) n2 n1) (by omega)) (ae (nG (A (-1) (-2) n1 n2) (by omega)) (ae (eQ (W (-1) 2) (by omega)) (eQ (B 0 1 d0 d1) (by omega)))))))) (Nj (by simp only;omega) (by simp only;omega))
  ·rcases Int.lt_trichotomy 0 (2*u+v)with e | e | e
   ·exact run WU rfl (ae fk (ae (kJ (A 1 0 d1 d0) (by omega)) (ae (kJ (A (-1) 2 n1 d2) (by omega)) (ae (kJ (B (-2) (-1) n2 n1) (by omega)) (ae (eQ (A (-1) (-2) n1 n2) (by omega)) (eQ (B 0 1 d0 d1) (by omega))))))) (Nj (by simp only;omega) (by simp only;omega))
   ·exact run WV rfl (ae fk (ae (kJ (A 1 0 d1 d0) (by omega)) (ae (nG (A (-1) 2 n1 d2) (by omega)) (ae (kJ (W (-1) (-2)) (by omega)) (ae (kJ (B (-2) (-1) n2 n1) (by omega)) (ae (eQ (A (-1) (-2) n1 n2) (by omega)) (eQ (B 0 1 d0 d1) (by omega)))))))) (Nj (by simp only;omega) (by simp only;omega))
   ·exact run WW rfl (ae fk (ae (kJ (A 1 0 d1 d0) (by omega)) (ae (eQ (A (-1) 2 n1 d2) (by omega)) (ae (kJ (B (-2) (-1) n2 n1) (by omega)) (ae (eQ (A (-1) (-2) n1 n2) (by omega)) (eQ (B 0 1 d0 d1) (by omega))))))) (Nj (by simp only;omega) (by simp only;omega))
theorem bP7 (x:ByteArray) (hx:x.size<9223372036854775808) (m:Int) (hm:1<=m/\m<=3):OfG x m:=by
 have hm3:m=1\/m=2\/m=3:=by omega
 rcases hm3 with rfl | rfl | rfl
 ·exact cx5 x hx
 ·exact cx4 x hx
 ·exact cx3 x hx
end Go.Proofs.YtpdfmnhgocpkcaaGreat
