/- Parts of the logic that the proof runs in, one behind the other. -/
import Derived.Test.YtpdfmnhgocpkcaaGreatXwM1
import Derived.Test.YtpdfmnhgocpkcaaGreatAwM2
namespace Go.Proofs.Xw
open Go Go.Proofs.Aw
abbrev bB:=Nat->FuncId->List X->au->J->T (X×aL)
def cS (P:Program) (ρ:aa) (call:bB):Prop:=∀n f args h B r d,J.ok ρ B->(call n f args h B).aq ρ=some (r,d)->b_ P f=true/\CY P n f (X.af ρ args) (aO ρ h) (r.I ρ) (bk ρ d)
def o8 (ti:Nat->Option TI) (call:bB) (n:Nat) (mu:Bool) (g:Nat->X) (h:au) (B:J) (op:Op):T (X×aL) :=
 (Qf ti n mu (fun i=>strip B (g i)) h B op).bind B fun B a=>match a with
  | .ok r d => .ret (r,d)
  | .call f args=>call n f args h B
theorem xg {P:Program} {ρ:aa} {ti:Nat->Option TI} (a_:eL.ok P ti) {call:bB} (aP:cS P ρ call) {n:Nat} {mu:Bool} {g:Nat->X} {t:Tp} (Z:∀i,(g i).I ρ=bR t i) {h:au} {B:J} (u:J.ok ρ B) {op:Op} {r:X} {d:aL}
  (hs:(o8 ti call n mu g h B op).aq ρ=some (r,d)):Aw.Yields P n op t (aO ρ h) (r.I ρ) (bk ρ d):=by
 obtain⟨aS,a,aM,A,E⟩:=T.cQ _ u hs
 have Ve:=arR a_ (g:=fun i=>strip B (g i)) (fun i=>(Ql u (g i)).trans (Z i)) u A
 cases a with
 | ok r' fE=>cases E;exact Ve
 | call f args =>
  obtain⟨hb,qz⟩:=aP _ _ _ _ _ _ _ aM E
  obtain⟨r',fE,hy,h3,h4⟩:=Qd (Zh (K:=fun a b=>a=r.I ρ/\b=bk ρ d) Ve ⟨_,_,hb,qz,rfl,rfl⟩)
  subst h3 h4;exact hy
structure XS where
 t:ba
 h:au
 nx:Nat
noncomputable def XS.I (ρ:aa) (V:XS):St:=⟨fm ρ V.t,aO ρ V.h,V.nx⟩
def tT (ops:List Oper) (g:Nat->X) (j:Nat):X :=
 match(ops[j]?).bind (·.dst)with
 | some d=>g d
 | none => .top
theorem Rf {ρ:aa} {ops:List Oper} {g:Nat->X} {t:Tp} (Z:∀i,(g i).I ρ=bR t i) (j:Nat):(tT ops g j).I ρ=yv ops t j:=by
 unfold tT yv
 split
 ·rename_i d h;rw[h];exact Z d
 ·rename_i h;rw[h];rfl
def quiet:T (X×aL)->Option (BE×X)
 | .ret (r,[])=>some (.lit true,r)
 | .cL p (.ret (r,[]))=>some (p,r)
 | _=>none
theorem Hw {ρ:aa} {t:T (X×aL)} {p:BE} {r:X} (h:quiet t=some (p,r)) (hp:p.I ρ=true):t.aq ρ=some (r,[]):=by
 unfold quiet at h
 split at h
 ·cases h;rfl
 ·cases h;simp only[T.aq,hp,if_true]
 ·cases h
def QY (want':Bool):X->Option BE
 | .sc (.b c)=>some (if want'=true then c else mkNot c)
 | .gd d (.sc (.b c))=>some (mkAnd d (if want'=true then c else mkNot c))
 | .k (.tuple _)=>some (.lit false)
 | _=>none
theorem aub {ρ:aa} {want':Bool} {v:X} {e:BE} (h:QY want' v=some e):(e.I ρ=true->v.I ρ = .sc (.bool want'))/\(e.I ρ=false->(∃b,v.I ρ = .sc (.bool b)/\b≠want')\/∃x,v.I ρ = .sc (.tuple x)):=by
 have k7:∀c:BE,(if want'=true then c else mkNot c).I ρ=(c.I ρ==want'):=fun c=>by
  cases want' with
  | true=>rw[if_pos rfl];cases BE.I ρ c<;>rfl
  | false=>rw[if_neg (by simp),et];cases BE.I ρ c<;>rfl
 unfold QY at h
 split at h
 ·rename_i c
  cases h
  rw[k7]
  refine⟨fun W => ?_,fun W => .inl ⟨c.I ρ,rfl,by simpa using W⟩⟩
  simp only[beq_iff_eq]at W
  simp only[X.I,Sc.I,W]
 ·rename_i d c
  cases h
  rw[fM,k7]
  simp only[X.I,Sc.I]
  cases hd:d.I ρ with
  | true =>
   refine⟨fun W => ?_,fun W => .inl ⟨c.I ρ,rfl,by simpa using W⟩⟩
   simp only[Bool.true_and,beq_iff_eq]at W
   simp only[if_true,W]
  | false=>exact⟨fun W=>by simp at W,fun _ => .inr ⟨#[],rfl⟩⟩
 ·rename_i x
  cases h
  exact⟨fun W=>by simp[BE.I]at W,fun _ => .inr ⟨x,rfl⟩⟩
 ·cases h
def xH {ao:Type} (B:J) (v:X) (want':Bool) (run:J->T (X×aL)) (go:J->X->aL->T ao) (skip:J->T ao) (both:J->X->T ao):T ao :=
 match QY want' v with
 | some e=>match red B e with
  | .lit true=>(run B).bind B fun B p=>go B p.1 p.2
  | .lit false=>skip B
  | d=>match quiet (run (assume d true B))with
   | some (p,r)=>want B (mkOr (mkNot d) p) fun B=>both B (.gd d r)
   | none => .br d ((run (assume d true B)).bind (assume d true B) fun B p=>go B p.1 p.2) (skip (assume d false B))
 | none => .fail ["guard"]
theorem Y9 {ao:Type} {ρ:aa} {B:J} {v:X} {want':Bool} {run:J->T (X×aL)} {go:J->X->aL->T ao} {skip:J->T ao} {both:J->X->T ao} {a:ao} (u:J.ok ρ B) (h:(xH B v want' run go skip both).aq ρ=some a) :
  (v.I ρ = .sc (.bool want')/\∃dk aS r d,J.ok ρ dk/\J.ok ρ aS/\(run dk).aq ρ=some (r,d)/\(go aS r d).aq ρ=some a) \/
  (((∃b,v.I ρ = .sc (.bool b)/\b≠want')\/∃x,v.I ρ = .sc (.tuple x))/\∃aS,J.ok ρ aS/\(skip aS).aq ρ=some a) \/
  (∃aS y,J.ok ρ aS/\(both aS y).aq ρ=some a/\((v.I ρ = .sc (.bool want')/\∃dk r,J.ok ρ dk/\(run dk).aq ρ=some (r,[])/\y.I ρ=r.I ρ)\/(((∃b,v.I ρ = .sc (.bool b)/\b≠want')\/∃x,v.I ρ = .sc (.tuple x))/\y.I ρ = .sc undef))):=by
 unfold xH at h
 split at h
 ·rename_i e hw
  obtain⟨Ds,no⟩:=aub (ρ:=ρ) hw
  have hr:=c9 u e
  rw[<-hr]at Ds no
  split at h
  ·rename_i hd
   rw[hd]at Ds
   obtain⟨aS,p,aM,A,E⟩:=T.cQ _ u h
   exact .inl ⟨Ds rfl,B,aS,p.1,p.2,u,aM,A,E⟩
  ·rename_i hd
   rw[hd]at no
   exact .inr (.inl ⟨no rfl,B,u,h⟩)
  ·rename_i d xP xQ
   split at h
   ·rename_i p r hq
    obtain⟨aS,aM,A,E⟩:=cX u h
    rw[ox,et]at A
    refine .inr (.inr ⟨aS,_,aM,E,?_⟩)
    by_cases n_:(red B e).I ρ=true
    ·rw[n_]at A
     refine .inl ⟨Ds n_,_,r,gn _ true B n_ u,Hw hq (by simpa using A),?_⟩
     simp only[X.I,n_,if_true]
    ·have Bh:(red B e).I ρ=false:=Bool.eq_false_iff.2 n_
     refine .inr ⟨no Bh,?_⟩
     simp only[X.I,Bh];rfl
   ·simp only[T.aq]at h
    by_cases n_:(red B e).I ρ=true
    ·rw[if_pos n_]at h
     have bp:=gn _ true B n_ u
     obtain⟨aS,p,aM,A,E⟩:=T.cQ _ bp h
     exact .inl ⟨Ds n_,_,aS,p.1,p.2,bp,aM,A,E⟩
    ·rw[if_neg n_]at h
     have Bh:(red B e).I ρ=false:=Bool.eq_false_iff.2 n_
     exact .inr (.inl ⟨no Bh,_,gn _ false B Bh u,h⟩)
 ·cases h
def mW (ti:Nat->Option TI) (call:bB) (ms:List Nat) (ops:List Oper):List Oper->J->XS->T XS
 | [],_,V => .ret V
 | o::l,B,V =>
  let run:J->T (X×aL):=fun B=>sW o.pos (o8 ti call V.nx (o.dst.any ms.contains) (bY V.t) V.h B o.op)
  let go:J->X->aL->T XS:=fun B r d=>mW ti call ms ops l B ⟨nD o.dst r V.t,ij d V.h,V.nx+1⟩
  match o.guard with
  | none=>(run B).bind B fun B p=>go B p.1 p.2
  | some (j,want)=>xH B (tT ops (bY V.t) j) want run go (fun B=>mW ti call ms ops l B ⟨nD o.dst (.k undef) V.t,V.h,V.nx⟩) (fun B y=>mW ti call ms ops l B ⟨nD o.dst y V.t,V.h,V.nx+1⟩)
theorem Rel.nx {ac:Aw.Env} {t:Tp} {h:Hp} {n n':Nat} {a:Act} {w:World} (hn:n<=n') (hr:Rel ac ⟨t,h,n⟩ a w):Rel ac ⟨t,h,n'⟩ a w:=by
 obtain⟨C,rfl,hC⟩:=hr
 exact⟨C,rfl,hC.heap,hC.t,hC.size,hC.defers,fun m hm=>Nat.lt_of_lt_of_le (hC.kn m hm) hn,hC.frame⟩
theorem LI {P:Program} {ρ:aa} {ac:Env} {ti:Nat->Option TI} (a_:eL.ok P ti) {call:bB} (aP:cS P ρ call) {ms:List Nat} {ops:List Oper} {Q:Exit->Act->World->Prop} {aK:XS} (ig:∀a w,Rel ac (aK.I ρ) a w->Q .normal a w) :
  ∀(l:List Oper) (B:J) (V:XS) (a:Act) (w:World),J.ok ρ B->fits ac.N l=true->(mW ti call ms ops l B V).aq ρ=some aK->Rel ac (V.I ρ) a w->wpList P ops.toArray Q l a w
 | [],B,V,a,w,_,_,h,hr=>by
  cases h;exact ig a w hr
 | o::l,B,V,a,w,u,d7,h,hr=>by
  obtain⟨hd,Bn⟩:=T0 d7
  obtain⟨C,rfl,hC⟩:=hr
  have Z:∀i,(bY V.t i).I ρ=bR (fm ρ V.t) i:=fun i=>(jf ρ i V.t).symm
  have stepped:∀dk B r d,J.ok ρ dk->J.ok ρ B->(sW o.pos (o8 ti call V.nx (o.dst.any ms.contains) (bY V.t) V.h dk o.op)).aq ρ=some (r,d)->∀y:X,y.I ρ=r.I ρ ->
    (mW ti call ms ops l B ⟨nD o.dst y V.t,ij d V.h,V.nx+1⟩).aq ρ=some aK->Region.wanted o (yielded ops.toArray a.tmps)=true->wpList P ops.toArray Q (o::l) a C.w:=by
   intro dk B r d eN u A y vh E hw
   rw[P5]at A
   have hy:=xg a_ aP Z eN A
   unfold wpList
   rw[if_pos hw]
   refine .inl (hy C a o _ _ rfl hC.heap hC.t (fun k bI=>absurd (hC.kn _ bI) (by simp[XS.I])) fun Y C' hp => ?_)
   refine LI a_ aP ig l B _ _ _ u Bn E ⟨C',rfl,?_⟩
   have:=hC.step hp hd
   simp only[XS.I,ED,o7,vh]at this ⊢
   exact this
  have skipped:∀B (y:X) n,V.nx<=n->J.ok ρ B->y.I ρ = .sc undef->(mW ti call ms ops l B ⟨nD o.dst y V.t,V.h,n⟩).aq ρ=some aK->Region.wanted o (yielded ops.toArray a.tmps)=false->wpList P ops.toArray Q (o::l) a C.w:=by
   intro B y n hn u hy hs hw
   unfold wpList
   rw[if_neg (by rw[hw];simp)]
   refine LI a_ aP ig l B _ _ _ u Bn hs ?_
   have:=hC.skip (dst:=o.dst) hd
   simp only[XS.I,ED,hy]at this ⊢
   exact Rel.nx hn ⟨C,rfl,this⟩
  unfold mW at h
  cases ka:o.guard with
  | none =>
   rw[ka]at h
   obtain⟨aS,p,aM,A,E⟩:=T.cQ _ u h
   exact stepped B aS p.1 p.2 u aM A p.1 rfl E (by simp[Region.wanted,ka])
  | some pm =>
   obtain⟨j,want⟩:=pm
   rw[ka]at h
   obtain⟨y1,y2⟩:=Rc hC.t ops j
   have vj:=Rf (ρ:=ρ) (ops:=ops) Z j
   have wyes:(tT ops (bY V.t) j).I ρ = .sc (.bool want)->Region.wanted o (yielded ops.toArray a.tmps)=true:=fun W=>by
    rw[vj]at W;simp[Region.wanted,ka,y1 _ W]
   have wno:((∃b,(tT ops (bY V.t) j).I ρ = .sc (.bool b)/\b≠want)\/∃x,(tT ops (bY V.t) j).I ρ = .sc (.tuple x))->Region.wanted o (yielded ops.toArray a.tmps)=false:=fun W=>by
    rw[vj]at W
    rcases W with⟨b,A,hb⟩ | ⟨x,A⟩
    ·simp[Region.wanted,ka,y1 _ A,hb]
    ·simp[Region.wanted,ka,y2 _ A]
   rcases Y9 u h with⟨R,dk,aS,r,d,eN,aM,A,E⟩ | ⟨R,aS,aM,E⟩ | ⟨aS,y,aM,E,hq⟩
   ·exact stepped dk aS r d eN aM A r rfl E (wyes R)
   ·exact skipped aS (.k undef) V.nx (Nat.le_refl _) aM rfl E (wno R)
   ·rcases hq with⟨R,dk,r,eN,A,vh⟩ | ⟨R,MN⟩
    ·exact stepped dk aS r [] eN aM A y vh E (wyes R)
    ·exact skipped aS y (V.nx+1) (Nat.le_succ _) aM MN E (wno R)
structure cd where
 dst:Option Tmp
 r:X
 d:aL
 ms:Nat
noncomputable def cd.I (ρ:aa) (e:cd):En:=⟨e.dst,e.r.I ρ,bk ρ e.d,e.ms⟩
noncomputable def bA (ρ:aa) (D:List cd):List En:=D.map (cd.I ρ)
def xk (d:Option Tmp) (x:Nat):Bool:=match d with | some d=>Nat.beq d x | none=>false
theorem Kx {d:Option Tmp} {x:Nat}:xk d x=true↔d=some x:=by
 cases d with
 | none=>simp[xk]
 | some d=>simp[xk]
def nF (ab:Nat->Bool) (base:Nat->X):List cd->Nat->X
 | [],x=>base x
 | e::D,x=>if xk e.dst x=true then(if ab D.length=true then e.r else .top)else nF ab base D x
def JF (ops:List Oper) (t0:ba) (x:Nat):X:=if ops.any (fun o=>xk o.dst x)=true then .top else bY t0 x
theorem ac4 (ρ:aa) (ops:List Oper) (t0:ba) (x:Nat):(JF ops t0 x).I ρ=bR (e7 ops (fm ρ t0)) x:=by
 rw[wq]
 unfold JF
 have e:(ops.any fun o=>xk o.dst x)=(ops.any fun o=>o.dst==some x):=by
  congr 1;funext o;rw[Bool.eq_iff_iff,Kx];simp
 rw[e]
 split
 ·rfl
 ·exact(jf ρ x t0).symm
theorem wA {ρ:aa} {ab:Nat->Bool} {base:Nat->X} {t:Tp} (hb:∀x,(base x).I ρ=bR t x):∀(D:List cd) (x:Nat),(nF ab base D x).I ρ=bR (b3 ab (bA ρ D) t) x
 | [],x=>hb x
 | e::D,x=>by
  have ih:=wA (ab:=ab) hb D x
  have M:(bA ρ D).length=D.length:=by simp[bA]
  simp only[bA,List.map_cons,b3,Dd,nF]at ih M ⊢
  by_cases hd:e.dst=some x
  ·rw[if_pos (Kx.2 hd),if_pos (show(cd.I ρ e).dst=some x from hd),M]
   split<;>rfl
  ·rw[if_neg (fun h=>hd (Kx.1 h)),if_neg (show ¬(cd.I ρ e).dst=some x from hd)]
   exact ih
def na (ab:Nat->Bool):List cd->au->au
 | [],h=>h
 | e::D,h=>match e.d with
  | []=>na ab D h
  | d=>if ab D.length=true then ij d (na ab D h)else na ab D h
theorem x6 {ρ:aa} {ab:Nat->Bool} {h:au}:∀D:List cd,aO ρ (na ab D h)=aJ ab (bA ρ D) (aO ρ h)
 | []=>rfl
 | e::D=>by
  have ih:=x6 (ρ:=ρ) (ab:=ab) (h:=h) D
  have M:(bA ρ D).length=D.length:=by simp[bA]
  simp only[bA,List.map_cons,aJ,na]at ih M ⊢
  rw[M]
  split
  ·rename_i hd
   have:(cd.I ρ e).d=[]:=by simp only[cd.I,hd,bk,List.map_nil]
   rw[this]
   simp only[aD,ite_self]
   exact ih
  ·split
   ·rw[o7,ih];rfl
   ·exact ih
def EL:List cd->Nat->Nat
 | [],_=>0
 | e::D,j=>if Nat.beq j D.length=true then e.ms else EL D j
def c8 (D:List cd):List Edge->Nat
 | []=>0
 | e::l=>if Region.binds .any e=true then(2 ^ e.on ||| EL D e.on) ||| c8 D l else c8 D l
theorem Tv (ρ:aa) (j:Nat):∀D:List cd,uJ (bA ρ D) j=EL D j
 | []=>rfl
 | e::D=>by
  have ih:=Tv ρ j D
  have M:(bA ρ D).length=D.length:=by simp[bA]
  unfold uJ at ih ⊢
  simp only[bA,List.map_cons,bg,EL]at ih M ⊢
  rw[M]
  by_cases O:j=D.length
  ·rw[if_pos O,if_pos (by simpa using O)];rfl
  ·rw[if_neg O,if_neg (by simpa using O)];exact ih
theorem Gq (ρ:aa) (D:List cd):∀l:List Edge,qX (bA ρ D) l=c8 D l
 | []=>rfl
 | e::l=>by simp only[qX,c8,Tv,Gq ρ D l]
def uT (n:Nat):aL->Bool
 | []=>true
 | (m,some _)::d=>Nat.beq m.1 n&&uT n d
 | (_,none)::_=>false
theorem LA (ρ:aa) (n:Nat):∀d:aL,eh n (bk ρ d)=uT n d
 | []=>rfl
 | (m,some _)::d=>by
  have ih:=LA ρ n d
  simp only[bk,List.map_cons,Option.map_some,eh,uT,WB]at ih ⊢
  rw[ih]
 | (_,none)::_=>rfl
def F8 (ti:Nat->Option TI) (call:bB) (ms:List Nat) (ops:List Oper) (nx:Nat) (base:Nat->X) (h0:au) (B:J) (all:List cd) (mk:Nat):List cd->Bool
 | []=>true
 | ek::D=>(Nat.testBit mk D.length||(match ops[D.length]?,ek.d with
   | some o,[]=>(match o.guard with | none=>true | some _=>false)&&(match quiet (o8 ti call (nx+D.length) (o.dst.any ms.contains) (nF ((ek.ms ||| mk) ||| 2 ^ (all.length-1)).testBit base all) (na ((ek.ms ||| mk) ||| 2 ^ (all.length-1)).testBit all h0) B o.op)with
    | some (.lit true,r)=>X.beq r ek.r
    | _=>false)
   | _,_=>false))&&F8 ti call ms ops nx base h0 B all mk D
def Cs (n:Nat):aL->Bool
 | [(m,none),(q,some _)] => !Nat.beq m.1 n&&Nat.beq q.1 n
 | d=>d.all fun q=>q.2.isSome && !Nat.beq q.1.1 n
def F7 (ti:Nat->Option TI) (call:bB) (ms:List Nat) (ops:List Oper) (nx:Nat) (base:Nat->X) (h0:au) (B:J) (e:cd) (D:List cd):Bool :=
 Cs (nx+D.length) e.d&&F8 ti call ms ops nx base h0 B (e::D) e.ms D
theorem VV {P:Program} {ρ:aa} {ti:Nat->Option TI} (a_:eL.ok P ti) {call:bB} (aP:cS P ρ call) {ms:List Nat} {ops:List Oper} {nx:Nat} {base:Nat->X} {t0:Tp} (hb:∀x,(base x).I ρ=bR t0 x) {h0:au} {B:J} (u:J.ok ρ B) {all:List cd} {mk:Nat} :
  ∀(D:List cd),F8 ti call ms ops nx base h0 B all mk D=true->∀k ek o,k<D.length->mk.testBit k=false->bg (bA ρ D) k=some ek->ops[k]? = some o ->
   ek.d=[]/\wS P ops (nx+k) o (b3 ((ek.ms ||| mk) ||| 2 ^ (all.length-1)).testBit (bA ρ all) t0) (aJ ((ek.ms ||| mk) ||| 2 ^ (all.length-1)).testBit (bA ρ all) (aO ρ h0)) ek.r []
 | [],_,k,_,_,aQ,_,_,_=>by simp at aQ
 | e::D,h,k,ek,o,aQ,hm,G,ho=>by
  unfold F8 at h
  rw[Bool.and_eq_true]at h
  obtain⟨A,E⟩:=h
  have hlen:(bA ρ D).length=D.length:=by simp[bA]
  by_cases O:k=D.length
  ·subst O
   simp only[bA,List.map_cons,bg]at G
   rw[if_pos (by simp)]at G
   cases G
   rw[hm,Bool.false_or]at A
   split at A
   case h_2=>cases A
   rename_i o' dT hd
   rw[ho]at dT;cases dT
   rw[Bool.and_eq_true]at A
   obtain⟨h3,h4⟩:=A
   split at h3
   case h_2=>cases h3
   rename_i Z
   split at h4
   case h_2=>cases h4
   rename_i r hq
   refine⟨by simp only[cd.I,hd,bk,List.map_nil],.inl ⟨Z,?_⟩⟩
   have hy:=xg a_ aP (fun x=>wA hb all x) u (Hw (ρ:=ρ) hq rfl)
   rw[x6,X.beq_eq _ _ h4]at hy
   exact hy
  ·have FB:k<D.length:=by simp at aQ;omega
   simp only[bA,List.map_cons,bg]at G
   rw[if_neg (by simpa using O)]at G
   exact VV a_ aP hb u D E k ek o FB hm G ho
theorem ahE {P:Program} {ρ:aa} {ti:Nat->Option TI} (a_:eL.ok P ti) {call:bB} (aP:cS P ρ call) {ms:List Nat} {ops:List Oper} {nx:Nat} {base:Nat->X} {t0:Tp} (hb:∀x,(base x).I ρ=bR t0 x) {h0:au} {B:J} (u:J.ok ρ B) {e:cd} {D:List cd}
  (h:F7 ti call ms ops nx base h0 B e D=true):DU P ops nx t0 (aO ρ h0) (bA ρ D) (cd.I ρ e):=by
 unfold F7 at h
 rw[Bool.and_eq_true]at h
 refine⟨?_,fun k ek o aQ hm G ho => ?_⟩
 ·have A:=h.1
  have M:(bA ρ D).length=D.length:=by simp[bA]
  unfold Cs at A
  split at A
  ·rename_i m q cs hd
   simp only[Bool.and_eq_true,Bool.not_eq_true']at A
   refine .inr ⟨m,q,_,by simp only[cd.I,hd,bk,List.map_cons,List.map_nil];rfl,fun h => ?_,by rw[M];exact Nat.eq_of_beq_eq_true A.2⟩
   rw[M]at h
   rw[h]at A
   simp at A
  ·refine .inl fun p hp => ?_
   simp only[cd.I,bk]at hp
   obtain⟨q,hq,rfl⟩:=List.mem_map.1 hp
   have:=List.all_eq_true.1 A q hq
   simp only[Bool.and_eq_true,Bool.not_eq_true']at this
   refine⟨by rw[Option.isSome_map];exact this.1,fun h => ?_⟩
   rw[M]at h
   have E:=this.2
   simp only at h
   rw[h]at E
   simp at E
 ·have:=VV a_ aP hb u D h.2 k ek o (by simpa [bA]using aQ) hm G ho
  simpa [bA,show(cd.I ρ e).ms=e.ms from rfl]using this
def gd (B:J) (x:X) (want:Bool):Bool:=match x with
 | .sc (.b e)=>(match red B e with
  | .lit b=>b==want
  | _=>false)
 | _=>false
theorem afi {ρ:aa} {B:J} (u:J.ok ρ B) {x:X} {want:Bool} (h:gd B x want=true):x.I ρ = .sc (.bool want):=by
 unfold gd at h
 split at h
 ·rename_i e
  have hr:=c9 u e
  split at h
  ·rename_i b G
   rw[G]at hr
   simp only[X.I,Sc.I,<-hr,BE.I,beq_iff_eq]at h ⊢
   rw[h]
  ·cases h
 ·cases h
def Fb (B:J) (ops:List Oper) (o:Oper) (g:Nat->X):Bool:=match o.guard with
 | none=>true
 | some (j,want)=>gd B (tT ops g j) want
def Jk (ops:List Oper) (o:Oper) (t:Tp):Prop:=o.guard=none\/∃j want,o.guard=some (j,want)/\yv ops t j = .sc (.bool want)
theorem Ui {ρ:aa} {B:J} (u:J.ok ρ B) {ops:List Oper} {o:Oper} {g:Nat->X} {t:Tp} (Z:∀i,(g i).I ρ=bR t i) (h:Fb B ops o g=true):Jk ops o t:=by
 unfold Fb at h
 split at h
 ·rename_i hn;exact .inl hn
 ·rename_i j want hn
  refine .inr ⟨j,want,hn,?_⟩
  rw[<-Rf Z j]
  exact afi u h
theorem Jk.Re {P:Program} {ops:List Oper} {n:Nat} {o:Oper} {t:Tp} {h:Hp} {r:AV} {d:Dl} (M:Jk ops o t) (hy:Aw.Yields P n o.op t h r d):wS P ops n o t h r d:=by
 rcases M with M | ⟨j,want,A,E⟩
 ·exact .inl ⟨M,hy⟩
 ·exact .inr (.inl ⟨j,want,want,A,E,rfl,hy⟩)
def EH (ti:Nat->Option TI) (call:bB) (ms:List Nat) (ops:List Oper) (o:Oper) (n:Nat) (base:Nat->X) (h0:au) (B:J) (all:List cd) (cE mk:Nat) (r:X):List cd->Bool
 | []=>true
 | ek::D=>(!(Nat.testBit cE D.length)||(Nat.testBit mk D.length||(Fb B ops o (nF ((mk ||| ek.ms) ||| 2 ^ D.length).testBit base all)&&(match quiet (o8 ti call n (o.dst.any ms.contains) (nF ((mk ||| ek.ms) ||| 2 ^ D.length).testBit base all) (na ((mk ||| ek.ms) ||| 2 ^ D.length).testBit all h0) B o.op)with
   | some (.lit true,r')=>X.beq r' r
   | _=>false))))&&EH ti call ms ops o n base h0 B all cE mk r D
theorem Tm {P:Program} {ρ:aa} {ti:Nat->Option TI} (a_:eL.ok P ti) {call:bB} (aP:cS P ρ call) {ms:List Nat} {ops:List Oper} {o:Oper} {n:Nat} {base:Nat->X} {t0:Tp} (hb:∀x,(base x).I ρ=bR t0 x) {h0:au} {B:J} (u:J.ok ρ B) {all:List cd} {cE mk:Nat} {r:X} :
  ∀(D:List cd),EH ti call ms ops o n base h0 B all cE mk r D=true->∀j ej,bg (bA ρ D) j=some ej->cE.testBit j=true->mk.testBit j=false ->
   wS P ops n o (b3 ((mk ||| ej.ms) ||| 2 ^ j).testBit (bA ρ all) t0) (aJ ((mk ||| ej.ms) ||| 2 ^ j).testBit (bA ρ all) (aO ρ h0)) (r.I ρ) []
 | [],_,_,_,G,_,_=>by simp[bA,bg]at G
 | e::D,h,j,ej,G,A,E=>by
  unfold EH at h
  rw[Bool.and_eq_true]at h
  obtain⟨g1,g2⟩:=h
  simp only[bA,List.map_cons,bg]at G
  split at G
  ·rename_i O
   rw[show(List.map (cd.I ρ) D).length=D.length from by simp]at O
   subst O
   cases G
   rw[A,E,Bool.not_true,Bool.false_or,Bool.false_or,Bool.and_eq_true]at g1
   obtain⟨g5,g4⟩:=g1
   refine(Ui u (fun x=>wA hb all x) g5).Re ?_
   split at g4
   case h_2=>cases g4
   rename_i r' hq
   have hy:=xg a_ aP (fun x=>wA hb all x) u (Hw (ρ:=ρ) hq rfl)
   rw[x6,X.beq_eq _ _ g4]at hy
   exact hy
  ·exact Tm a_ aP hb u D g2 j ej G A E
def kZ (ti:Nat->Option TI) (call:bB) (ms:List Nat) (ops:List Oper) (nx:Nat) (base:Nat->X) (h0:au):List Oper->J->List cd->Nat->T (List cd)
 | [],_,D,_ => .ret D
 | o::l,B,D,cE =>
  let mk:=c8 D o.after.toList
  if(Nat.blt mk (2 ^ D.length)&&Nat.beq (cE &&& mk) cE)=true then
   let g:=nF mk.testBit base D
   let run:J->T (X×aL):=fun B=>sW o.pos (o8 ti call (nx+D.length) (o.dst.any ms.contains) g (na mk.testBit D h0) B o.op)
   let go:J->X->aL->T (List cd):=fun B r d =>
    if uT (nx+D.length) d=true then kZ ti call ms ops nx base h0 l B (⟨o.dst,r,d,mk⟩::D) cE
    else if Nat.beq (mk+1) (2 ^ D.length)=true then kZ ti call ms ops nx base h0 l B (⟨o.dst,r,d,mk⟩::D) (cE ||| 2 ^ D.length)
    else if F7 ti call ms ops nx base h0 B ⟨o.dst, r, d, mk⟩ D = true then kZ ti call ms ops nx base h0 l B (⟨o.dst, r, d, mk⟩ :: D) (cE ||| 2 ^ D.length) else .fail ["write", o.pos]
   match o.guard with
   | none=>(run B).bind B fun B p=>go B p.1 p.2
   | some (j,want)=>xH B (tT ops g j) want run go (fun B=>kZ ti call ms ops nx base h0 l B (⟨o.dst,.k undef,[],mk⟩::D) cE) (fun B y=>kZ ti call ms ops nx base h0 l B (⟨o.dst,y,[],mk⟩::D) cE)
  else if Nat.blt mk (2 ^ D.length)=true then
   if Fb B ops o (nF mk.testBit base D)=true then
    match quiet (o8 ti call (nx+D.length) (o.dst.any ms.contains) (nF mk.testBit base D) (na mk.testBit D h0) B o.op)with
    | some (.lit true, r) => if EH ti call ms ops o (nx + D.length) base h0 B D cE mk r D = true then kZ ti call ms ops nx base h0 l B (⟨o.dst, r, [], mk⟩ :: D) cE else .fail ["order", o.pos]
    | _ => .fail ["order", o.pos]
   else .fail ["order", o.pos]
  else .fail ["order", o.pos]
theorem Kv {P:Program} {ρ:aa} {ti:Nat->Option TI} (a_:eL.ok P ti) {call:bB} (aP:cS P ρ call) {ms:List Nat} {ops:List Oper} {nx:Nat} {base:Nat->X} {t0:Tp} (hb:∀x,(base x).I ρ=bR t0 x) {h0:au} :
  ∀(l:List Oper) (B:J) (D:List cd) (cE:Nat) (bi:List cd),J.ok ρ B->(∀j,l[j]? = ops[D.length+j]?)->jl P ops nx t0 (aO ρ h0) (bA ρ D) ->
  (∀j e,bg (bA ρ D) j=some e->eh (nx+j) e.d=false->cE.testBit j=true)->(kZ ti call ms ops nx base h0 l B D cE).aq ρ=some bi->jl P ops nx t0 (aO ρ h0) (bA ρ bi)/\bi.length=D.length+l.length
 | [],B,D,cE,bi,_,_,hw,_,h=>by cases h;exact⟨hw,by simp⟩
 | o::l,B,D,cE,bi,u,M,hw,pe,h=>by
  have hlen:(bA ρ D).length=D.length:=by simp[bA]
  have ho:ops[D.length]? = some o:=by have:=M 0;simpa using this.symm
  have bX:∀j,l[j]? = ops[D.length+1+j]? := fun j=>by
   have:=M (j+1)
   rw[List.getElem?_cons_succ]at this
   rw[this];congr 1;omega
  unfold kZ at h
  simp only at h
  split at h
  case isFalse =>
   split at h
   case isFalse=>cases h
   rename_i H
   have aQ:c8 D o.after.toList<2 ^ D.length:=by simpa [Nat.blt_eq]using H
   split at h
   case isFalse=>cases h
   rename_i Z
   split at h
   case h_2=>cases h
   rename_i r hq
   split at h
   case isFalse=>cases h
   rename_i afW
   have agd:=Ui (ρ:=ρ) u (fun x=>wA hb D x) Z
   have hy:=xg a_ aP (fun x=>wA hb D x) u (Hw (ρ:=ρ) hq rfl)
   rw[x6]at hy
   have hs:Shown P ops nx t0 (aO ρ h0) (bA ρ D) (cd.I ρ ⟨o.dst,r,[],c8 D o.after.toList⟩) o:=by
    refine⟨rfl,(Gq ρ D _).symm,by rw[hlen];exact aQ,?_,.inl rfl,fun j e' G hf => ?_⟩
    ·rcases agd with Z | ⟨j,want,Z,R⟩
     ·exact .inl ⟨Z,by rw[hlen];exact hy⟩
     ·exact .inr (.inl ⟨j,want,want,Z,R,rfl,by rw[hlen];exact hy⟩)
    ·cases O:(c8 D o.after.toList).testBit j with
     | true=>exact .inl O
     | false =>
      exact .inr ⟨rfl,by rw[hlen];exact Tm a_ aP hb u D afW j e' G (pe j e' G hf) O⟩
   have MG:jl P ops nx t0 (aO ρ h0) (bA ρ (⟨o.dst,r,[],c8 D o.after.toList⟩::D)):=⟨hw,o,by rw[show(List.map (cd.I ρ) D).length=D.length from by simp];exact ho,hs⟩
   obtain⟨A,E⟩:=Kv a_ aP hb l B _ cE bi u bX MG (fun j e G fG=>by
    simp only[bA,List.map_cons,bg]at G
    split at G
    ·cases G;cases fG
    ·exact pe j e G fG) h
   exact⟨A,by rw[E];simp;omega⟩
  rename_i H
  simp only[Bool.and_eq_true]at H
  have aQ:c8 D o.after.toList<2 ^ D.length:=by simpa [Nat.blt_eq]using H.1
  have hbq:=Nat.eq_of_beq_eq_true H.2
  have wait:∀j e',bg (bA ρ D) j=some e'->eh (nx+j) e'.d=false->(c8 D o.after.toList).testBit j=true:=fun j e' G hf=>by
   have A:=pe j e' G hf
   rw[<-hbq,Nat.testBit_and,Bool.and_eq_true]at A
   exact A.2
  have U1:∀x,(nF (c8 D o.after.toList).testBit base D x).I ρ=bR (b3 (c8 D o.after.toList).testBit (bA ρ D) t0) x:=fun x=>wA hb D x
  have goOn:∀(r:X) (d:aL) (Ef:Nat) (B:J),J.ok ρ B->Shown P ops nx t0 (aO ρ h0) (bA ρ D) (cd.I ρ ⟨o.dst,r,d,c8 D o.after.toList⟩) o ->
    (∀j e,bg (bA ρ (⟨o.dst,r,d,c8 D o.after.toList⟩::D)) j=some e->eh (nx+j) e.d=false->Ef.testBit j=true) ->
    (kZ ti call ms ops nx base h0 l B (⟨o.dst,r,d,c8 D o.after.toList⟩::D) Ef).aq ρ=some bi->jl P ops nx t0 (aO ρ h0) (bA ρ bi)/\bi.length=D.length+(o::l).length:=by
   intro r d Ef B u hs afK hd
   have MG:jl P ops nx t0 (aO ρ h0) (bA ρ (⟨o.dst,r,d,c8 D o.after.toList⟩::D)):=⟨hw,o,by rw[show(List.map (cd.I ρ) D).length=D.length from by simp];exact ho,hs⟩
   obtain⟨A,E⟩:=Kv a_ aP hb l B _ Ef bi u bX MG afK hd
   exact⟨A,by rw[E];simp;omega⟩
  have fresh':∀(r:X) (d:aL),uT (nx+D.length) d=true->∀j e,bg (bA ρ (⟨o.dst,r,d,c8 D o.after.toList⟩::D)) j=some e->eh (nx+j) e.d=false->cE.testBit j=true:=by
   intro r d hf j e G fG
   simp only[bA,List.map_cons,bg]at G
   split at G
   ·rename_i O
    cases G
    rw[show(List.map (cd.I ρ) D).length=D.length from by simp]at O
    subst O
    simp only[cd.I]at fG
    rw[LA,hf]at fG;cases fG
   ·exact pe j e G fG
  have skipped:∀B (y:X),J.ok ρ B->y.I ρ = .sc undef->∀(j:Nat) (want:Bool),o.guard=some (j,want)->((∃b,yv ops (b3 (c8 D o.after.toList).testBit (bA ρ D) t0) j = .sc (.bool b)/\b≠want)\/∃x,yv ops (b3 (c8 D o.after.toList).testBit (bA ρ D) t0) j = .sc (.tuple x)) ->
    (kZ ti call ms ops nx base h0 l B (⟨o.dst,y,[],c8 D o.after.toList⟩::D) cE).aq ρ=some bi->jl P ops nx t0 (aO ρ h0) (bA ρ bi)/\bi.length=D.length+(o::l).length:=by
   intro B y u hy j want Z iT hd
   refine goOn y [] cE B u ⟨rfl,(Gq ρ D _).symm,by rw[hlen];exact aQ,.inr (.inr ⟨j,want,Z,iT,hy,rfl⟩),.inl rfl,fun j e' A E => .inl (wait j e' A E)⟩ (fresh' _ _ rfl) hd
  have shown:∀dk (r y:X) (d:aL),J.ok ρ dk->(o.guard=none\/∃j want,o.guard=some (j,want)/\yv ops (b3 (c8 D o.after.toList).testBit (bA ρ D) t0) j = .sc (.bool want)) ->
    (sW o.pos (o8 ti call (nx+D.length) (o.dst.any ms.contains) (nF (c8 D o.after.toList).testBit base D) (na (c8 D o.after.toList).testBit D h0) dk o.op)).aq ρ=some (r,d)->y.I ρ=r.I ρ ->
    (uT (nx+D.length) d=true\/c8 D o.after.toList+1=2 ^ D.length\/DU P ops nx t0 (aO ρ h0) (bA ρ D) (cd.I ρ ⟨o.dst,y,d,c8 D o.after.toList⟩))->Shown P ops nx t0 (aO ρ h0) (bA ρ D) (cd.I ρ ⟨o.dst,y,d,c8 D o.after.toList⟩) o:=by
   intro dk r y d eN ka A vh hf
   rw[P5]at A
   have hy:=xg a_ aP U1 eN A
   rw[x6,<-vh]at hy
   have vf:(o.guard=none/\Aw.Yields P (nx+(bA ρ D).length) o.op (b3 (c8 D o.after.toList).testBit (bA ρ D) t0) (aJ (c8 D o.after.toList).testBit (bA ρ D) (aO ρ h0)) (y.I ρ) (bk ρ d)) \/
     (∃j want b,o.guard=some (j,want)/\yv ops (b3 (c8 D o.after.toList).testBit (bA ρ D) t0) j = .sc (.bool b)/\b=want/\Aw.Yields P (nx+(bA ρ D).length) o.op (b3 (c8 D o.after.toList).testBit (bA ρ D) t0) (aJ (c8 D o.after.toList).testBit (bA ρ D) (aO ρ h0)) (y.I ρ) (bk ρ d)):=by
    rw[hlen]
    rcases ka with Z | ⟨j,want,Z,R⟩
    ·exact .inl ⟨Z,hy⟩
    ·exact .inr ⟨j,want,want,Z,R,rfl,hy⟩
   exact⟨rfl,(Gq ρ D _).symm,by rw[hlen];exact aQ,by
     rcases vf with h3 | h3
     ·exact .inl h3
     ·exact .inr (.inl h3),by rw[hlen];simpa only[cd.I,LA]using hf,fun j e' A E => .inl (wait j e' A E)⟩
  have WP:∀dk B (r:X) (d:aL),J.ok ρ dk->J.ok ρ B->(o.guard=none\/∃j want,o.guard=some (j,want)/\yv ops (b3 (c8 D o.after.toList).testBit (bA ρ D) t0) j = .sc (.bool want)) ->
    (sW o.pos (o8 ti call (nx+D.length) (o.dst.any ms.contains) (nF (c8 D o.after.toList).testBit base D) (na (c8 D o.after.toList).testBit D h0) dk o.op)).aq ρ=some (r,d) ->
    (if uT (nx+D.length) d=true then kZ ti call ms ops nx base h0 l B (⟨o.dst,r,d,c8 D o.after.toList⟩::D) cE
     else if Nat.beq (c8 D o.after.toList+1) (2 ^ D.length)=true then kZ ti call ms ops nx base h0 l B (⟨o.dst,r,d,c8 D o.after.toList⟩::D) (cE ||| 2 ^ D.length)
     else if F7 ti call ms ops nx base h0 B ⟨o.dst, r, d, c8 D o.after.toList⟩ D = true then kZ ti call ms ops nx base h0 l B (⟨o.dst, r, d, c8 D o.after.toList⟩ :: D) (cE ||| 2 ^ D.length) else .fail ["write", o.pos]).aq ρ = some bi ->
    jl P ops nx t0 (aO ρ h0) (bA ρ bi)/\bi.length=D.length+(o::l).length:=by
   intro dk B r d eN u ka A E
   split at E
   ·rename_i hf
    exact goOn r d cE B u (shown dk r r d eN ka A rfl (.inl hf)) (fresh' r d hf) E
   ·have more:∀j e,bg (bA ρ (⟨o.dst,r,d,c8 D o.after.toList⟩::D)) j=some e->eh (nx+j) e.d=false->(cE ||| 2 ^ D.length).testBit j=true:=fun j e G fG=>by
     rw[Nat.testBit_or]
     simp only[bA,List.map_cons,bg]at G
     split at G
     ·rename_i O
      rw[show(List.map (cd.I ρ) D).length=D.length from by simp]at O
      subst O;rw[Nat.testBit_two_pow_self,Bool.or_true]
     ·rw[pe j e G fG];rfl
    split at E
    ·rename_i hf hm
     have hm:=Nat.eq_of_beq_eq_true hm
     exact goOn r d (cE ||| 2 ^ D.length) B u (shown dk r r d eN ka A rfl (.inr (.inl hm))) more E
    ·split at E
     ·rename_i hf _ hm
      exact goOn r d (cE ||| 2 ^ D.length) B u (shown dk r r d eN ka A rfl (.inr (.inr (ahE a_ aP hb u hm)))) more E
     ·cases E
  cases Z:o.guard with
  | none =>
   rw[Z]at h
   obtain⟨aS,p,aM,A,E⟩:=T.cQ _ u h
   exact WP B aS p.1 p.2 u aM (.inl Z) A E
  | some pm =>
   obtain⟨j,want⟩:=pm
   rw[Z]at h
   have vj:=Rf (ρ:=ρ) (ops:=ops) U1 j
   rcases Y9 u h with⟨R,dk,aS,r,d,eN,aM,A,E⟩ | ⟨R,aS,aM,E⟩ | ⟨aS,y,aM,E,hq⟩
   ·rw[vj]at R
    exact WP dk aS r d eN aM (.inr ⟨j,want,Z,R⟩) A E
   ·rw[vj]at R
    exact skipped aS (.k undef) aM rfl j want Z R E
   ·rcases hq with⟨R,dk,r,eN,A,vh⟩ | ⟨R,MN⟩
    ·rw[vj]at R
     exact goOn y [] cE aS aM (shown dk r y [] eN (.inr ⟨j,want,Z,R⟩) A vh (.inl rfl)) (fresh' y [] rfl) E
    ·rw[vj]at R
     exact skipped aS y aM MN j want Z R E
def xD:List cd->ba->ba
 | [],t=>t
 | e::D,t=>nD e.dst e.r (xD D t)
def xj (ti:Nat->Option TI) (call:bB) (ms:List Nat) (ops:List Oper) (B:J) (V:XS):T XS :=
 (kZ ti call ms ops V.nx (JF ops V.t) V.h ops B [] 0).map fun D=>⟨xD D V.t,na (fun _=>true) D V.h,V.nx+ops.length⟩
def Ij:List Oper->Option (List Oper×Oper)
 | []=>none
 | [o]=>some ([],o)
 | p::q::l=>match Ij (q::l)with
  | some (i,o)=>some (p::i,o)
  | none=>none
theorem Zd:∀{l i:List Oper} {o:Oper},Ij l=some (i,o)->l=i++[o]
 | [],_,_,h=>by cases h
 | [p],_,_,h=>by cases h;rfl
 | p::q::l,i,o,h=>by
  simp only[Ij]at h
  split at h
  ·rename_i i' o' A
   cases h
   rw[Zd A];rfl
  ·cases h
def EI:Nat->List Oper->Bool
 | _,[]=>true
 | n,p::l=>p.after.toList.all (fun ed => !Region.binds .any ed||Nat.blt ed.on n)&&EI (n+1) l
theorem Tn:∀{l:List Oper} {n:Nat},EI n l=true->∀i p,l[i]? = some p->∀ed∈p.after,Region.binds .any ed=true->ed.on<n+i
 | [],_,_,i,p,hp=>by simp at hp
 | q::l,n,h,i,p,hp=>by
  simp only[EI,Bool.and_eq_true]at h
  intro ed d5 hb
  cases i with
  | zero =>
   simp at hp;subst hp
   have:=List.all_eq_true.1 h.1 ed (by simpa using d5)
   simpa [hb,Nat.blt_eq]using this
  | succ i =>
   have:=Tn h.2 i p (by simpa using hp) ed d5 hb
   omega
def afp (n:Nat) (l:List Oper):Bool:=l.all fun p=>match p.guard with
 | some (j,_)=>Nat.blt j n
 | none=>true
def Ez:Nat->List Edge->Bool
 | 0,_=>true
 | n+1,l=>l.any (fun ed=>Region.binds .any ed&&Nat.beq ed.on n)&&Ez n l
theorem SL {l:List Edge}:∀{n:Nat},Ez n l=true->∀j,j<n->∃ed∈l,Region.binds .any ed=true/\ed.on=j
 | 0,_,j,O=>by omega
 | n+1,h,j,O=>by
  simp only[Ez,Bool.and_eq_true]at h
  by_cases oa:j=n
  ·subst oa
   obtain⟨ed,A,E⟩:=List.any_eq_true.1 h.1
   simp only[Bool.and_eq_true]at E
   exact⟨ed,A,E.1,Nat.eq_of_beq_eq_true E.2⟩
  ·exact SL h.2 j (by omega)
def waits (l:List Oper) (o:Oper):Bool :=
 (match o.guard with | none=>true | some _=>false)&&(o.after.toList.all (fun ed => !Region.binds .any ed||Nat.blt ed.on l.length)&&(Ez l.length o.after.toList&&(afp l.length l&&(EI 0 l&&once l))))
theorem at5 {l:List Oper} {o:Oper} (h:waits l o=true):Jj l o/\once l=true:=by
 simp only[waits,Bool.and_eq_true]at h
 obtain⟨A,E,h3,h4,h5,h6⟩:=h
 refine⟨⟨fun j O => ?_,fun ed d5 hb => ?_,?_,fun p hp j want Z => ?_,fun i p hp ed d5 hb => ?_⟩,h6⟩
 ·obtain⟨ed,g1,g2⟩:=SL h3 j O
  exact⟨ed,by simpa using g1,g2⟩
 ·have:=List.all_eq_true.1 E ed (by simpa using d5)
  simpa [hb,Nat.blt_eq]using this
 ·cases Z:o.guard with
  | none=>rfl
  | some _=>rw[Z]at A;cases A
 ·have:=List.all_eq_true.1 h4 p hp
  rw[Z]at this
  simpa [Nat.blt_eq]using this
 ·have:=Tn h5 i p hp ed d5 hb
  omega
def Nn (ti:Nat->Option TI) (call:bB) (ms:List Nat) (o:Oper) (B:J) (V:XS):T XS :=
 (sW o.pos (o8 ti call V.nx (o.dst.any ms.contains) (bY V.t) V.h B o.op)).bind B fun _ p => .ret ⟨nD o.dst p.1 V.t,ij p.2 V.h,V.nx+1⟩
def xh (ti:Nat->Option TI) (call:bB) (ms:List Nat) (ops:List Oper) (B:J) (V:XS):T XS :=
 match Ij ops with
 | some (i,o)=>if waits i o=true then(xj ti call ms i B V).bind B fun B s=>Nn ti call ms o B s else xj ti call ms ops B V
 | none=>xj ti call ms ops B V
end Go.Proofs.Xw
namespace Go.Proofs.Xw
open Go Go.Proofs.Aw
def bo (a b:List AV):Prop:=a.length=b.length/\∀(j:Nat) (x:AV),a[j]? = some x->∃y,b[j]? = some y/\bT x y
theorem bT.trans {a b c:AV} (h:bT a b) (k:bT b c):bT a c:=fun C Y hu=>h C Y (k C Y hu)
theorem bo.refl (a:List AV):bo a a:=⟨rfl,fun _ x hx=>⟨x,hx,bT.refl x⟩⟩
theorem bo.trans {a b c:List AV} (h:bo a b) (k:bo b c):bo a c:=⟨h.1.trans k.1,fun j x hx=>by
 obtain⟨y,hy,A⟩:=h.2 j x hx
 obtain⟨z,hz,E⟩:=k.2 j y hy
 exact⟨z,hz,A.trans E⟩⟩
structure fX (aK V:St):Prop where
 t:∀i,bT (bR aK.t i) (bR V.t i)
 h:∀m bn,ae aK.h m=some bn->∃cs,ae V.h m=some cs/\bo bn cs
 nx:V.nx<=aK.nx
theorem fX.refl (V:St):fX V V:=⟨fun _=>bT.refl _,fun _ cs h=>⟨cs,h,bo.refl cs⟩,Nat.le_refl _⟩
theorem fX.trans {a b c:St} (h:fX a b) (k:fX b c):fX a c:=⟨fun i=>(h.t i).trans (k.t i),fun m cs aI=>by
 obtain⟨ds,hd,A⟩:=h.h m cs aI
 obtain⟨D,G,E⟩:=k.h m ds hd
 exact⟨D,G,A.trans E⟩,Nat.le_trans k.nx h.nx⟩
theorem wJ {ac:Env} {V aK:St} (M:fX aK V):dF ac V aK:=by
 rintro a w ⟨C,rfl,hC⟩
 have gz:∀m,(ae aK.h m).isSome=true->C.live m:=fun m hm=>by
  obtain⟨cs,aI⟩:=Option.isSome_iff_exists.1 hm
  obtain⟨ds,hd,_⟩:=M.h m cs aI
  exact hC.heap.get hd
 let C':Ctx:={ C with live:=fun m=>(ae aK.h m).isSome=true }
 have le:C.le C':=⟨Nat.le_refl _,fun _ _ _=>rfl,fun _ _ h=>h,fun _ h=>h,fun m _ hm=>⟨gz m hm,rfl,rfl⟩,fun _ _ _ cs ty h=>⟨cs,ty,h,rfl⟩⟩
 refine⟨C',rfl,⟨⟨fun _=>Iff.rfl,fun m cs Z => ?_,fun m m' hm a0 G=>hC.heap.inj m m' (gz m hm) (gz m' a0) G,fun m hm=>hC.heap.mt _ (gz m hm),fun m hm=>hC.heap.kn m (gz m hm)⟩,fun i => ?_,hC.size,hC.defers,fun m hm=>Nat.lt_of_lt_of_le (hC.kn m hm) M.nx,⟨hC.frame.os,hC.frame.tape,hC.frame.output,hC.frame.size,hC.frame.same,hC.frame.mt,fun m hm hb=>hC.frame.wr _ (gz m hm) hb,hC.frame.le.trans le⟩⟩⟩
 ·obtain⟨ds,hd,_,aZ⟩:=M.h m cs Z
  obtain⟨arr,ty,ha,H⟩:=hC.heap.obj m ds hd
  refine⟨arr,ty,ha,fun j c O => ?_⟩
  obtain⟨y,hy,hyl⟩:=aZ j c O
  obtain⟨Y,hu,a9⟩:=H j y hy
  exact⟨Y,hu,aj.mono le _ _ (hyl C Y a9)⟩
 ·exact aj.mono le _ _ (M.t i C _ (hC.t i))
def B' (c:BE) (x y:X):X:=match X.en c x y with
 | some z=>z
 | none => .top
theorem Wl (ρ:aa) (c:BE) (x y:X):bT ((B' c x y).I ρ) (if c.I ρ=true then x.I ρ else y.I ρ):=by
 unfold B'
 split
 ·rename_i z hz;exact bT.of_eq (X.Ca _ _ _ hz)
 ·exact bT.top _
def s5 (c:BE) (t1 t2:ba):List Nat->List Nat->ba->ba
 | [],_,b=>b
 | k::ks,seen,b=>if seen.any (Nat.beq k)=true then s5 c t1 t2 ks seen b else(k,B' c (bY t1 k) (bY t2 k))::s5 c t1 t2 ks (k::seen) b
theorem any_beq {k:Nat} {l:List Nat}:l.any (Nat.beq k)=true↔k∈l:=by
 rw[List.any_eq_true]
 constructor
 ·rintro⟨x,hx,h⟩;rw[Nat.eq_of_beq_eq_true h];exact hx
 ·intro h;exact⟨k,h,Nat.beq_refl k⟩
theorem Qt (c:BE) (t1 t2 b:ba) (i:Nat):∀(ks seen:List Nat),bY (s5 c t1 t2 ks seen b) i=if i∈ks/\i∉seen then B' c (bY t1 i) (bY t2 i)else bY b i
 | [],seen=>by simp[s5]
 | k::ks,seen=>by
  simp only[s5,any_beq]
  by_cases u:k∈seen
  ·rw[if_pos u,Qt c t1 t2 b i ks seen]
   by_cases hi:i=k
   ·subst hi;simp[u]
   ·simp[hi]
  ·rw[if_neg u]
   simp only[bY]
   by_cases hi:k=i
   ·subst hi;simp[u]
   ·rw[if_neg (by simpa using hi),Qt c t1 t2 b i ks (k::seen)]
    simp[Ne.symm hi]
def yn (n:Nat) (t:ba):List Nat:=(t.take n).map (·.1)
def N0 (c:BE) (b t1 t2:ba):ba:=s5 c t1 t2 (yn (t1.length-b.length) t1++yn (t2.length-b.length) t2) [] b
def Ext (b t:ba):Prop:=∃Y,t=Y++b
theorem Ext.refl (b:ba):Ext b b:=⟨[],rfl⟩
theorem Ext.trans {a b c:ba} (h:Ext a b) (k:Ext b c):Ext a c:=by
 obtain⟨Y,rfl⟩:=h
 obtain⟨v,rfl⟩:=k
 exact⟨v++Y,by simp⟩
theorem Qs {b Y:ba} {i:Nat} (h:i∉yn ((Y++b).length-b.length) (Y++b)):bY (Y++b) i=bY b i:=by
 have e:yn ((Y++b).length-b.length) (Y++b)=Y.map (·.1):=by
  unfold yn
  rw[List.length_append,Nat.add_sub_cancel,List.take_left]
 rw[e]at h
 clear e
 induction Y with
 | nil=>rfl
 | cons p Y ih =>
  obtain⟨j,v⟩:=p
  simp only[List.map_cons,List.mem_cons,not_or]at h
  simp only[List.cons_append,bY]
  rw[if_neg (by simpa using Ne.symm h.1),ih h.2]
theorem aii {ρ:aa} {c:BE} {b t1 t2:ba} (A:Ext b t1) (E:Ext b t2) (i:Nat):bT ((bY (N0 c b t1 t2) i).I ρ) (if c.I ρ=true then(bY t1 i).I ρ else(bY t2 i).I ρ):=by
 unfold N0
 rw[Qt]
 split
 ·exact Wl ρ c _ _
 ·rename_i hn
  simp only[List.mem_append,List.not_mem_nil,not_false_eq_true,and_true,not_or]at hn
  obtain⟨auB,rfl⟩:=A
  obtain⟨auC,rfl⟩:=E
  rw[Qs hn.1,Qs hn.2]
  split<;>exact bT.refl _
theorem NY (c:BE) (t1 t2 b:ba):∀ks seen,Ext b (s5 c t1 t2 ks seen b)
 | [],_=>Ext.refl b
 | k::ks,seen=>by
  simp only[s5]
  split
  ·exact NY c t1 t2 b ks seen
  ·obtain⟨Y,hu⟩:=NY c t1 t2 b ks (k::seen)
   exact⟨_::Y,by rw[hu];rfl⟩
def yB (c:BE):List X->List X->List X
 | a::aG,b::bs=>B' c a b::yB c aG bs
 | _,_=>[]
theorem Wj {ρ:aa} {c:BE}:∀{a b:List X},a.length=b.length->bo (X.af ρ (yB c a b)) (if c.I ρ=true then X.af ρ a else X.af ρ b)
 | [],[],_=>by simp only[yB,X.af,ite_self];exact bo.refl _
 | a::aG,b::bs,h=>by
  obtain⟨A,E⟩:=Wj (ρ:=ρ) (c:=c) (a:=aG) (b:=bs) (by simpa using h)
  have hm:=Wl ρ c a b
  simp only[yB,X.af]
  by_cases H:c.I ρ=true
  ·rw[if_pos H]at A E hm ⊢
   refine⟨by simp[A],fun j x hx => ?_⟩
   cases j with
   | zero=>simp at hx ⊢;subst hx;exact hm
   | succ j=>simpa using E j x (by simpa using hx)
  ·rw[if_neg H]at A E hm ⊢
   refine⟨by simp[A],fun j x hx => ?_⟩
   cases j with
   | zero=>simp at hx ⊢;subst hx;exact hm
   | succ j=>simpa using E j x (by simpa using hx)
 | [],_::_,h=>by simp at h
 | _::_,[],h=>by simp at h
def NZ (c:BE) (a b:List X):Option (List X):=if(!b6 a&&(!b6 b&&(Nat.beq a.length b.length && !b6 (yB c a b))))=true then some (yB c a b)else none
def Gx (c:BE) (a b:List X):Option (List X) :=
 match a,b with
 | [.rows z n l],[.rows z' n' l']=>if Nat.beq z z'=true then some [.rows z (lr c n n') (yE c l l')]else none
 | [.tk z n t D],b=>if X.fh [.tk z n t D] b=true then some b else none
 | a,b=>NZ c a b
theorem aif {ρ:aa} {c:BE} {a b r:List X} (h:NZ c a b=some r):bo (aA ρ r) (if c.I ρ=true then aA ρ a else aA ρ b):=by
 unfold NZ at h
 split at h
 ·rename_i H
  simp only[Bool.and_eq_true,Bool.not_eq_true']at H
  obtain⟨A,E,h3,h4⟩:=H
  cases h
  rw[cP A,cP E,cP h4]
  exact Wj (Nat.eq_of_beq_eq_true h3)
 ·cases h
theorem aie {ρ:aa} {c:BE} {a b r:List X} (h:Gx c a b=some r):bo (aA ρ r) (if c.I ρ=true then aA ρ a else aA ρ b):=by
 unfold Gx at h
 split at h
 ·split at h
  ·rename_i z n l z' n' l' hz
   have hz:=Nat.eq_of_beq_eq_true hz
   subst hz
   cases h
   simp only[aA]
   have:aV ρ (lr c n n') (yE c l l')=if c.I ρ=true then aV ρ n l else aV ρ n' l':=by
    unfold aV
    rw[s6]
    simp only[Wo]
    split<;>rfl
   rw[this]
   split<;>exact bo.refl _
  ·cases h
 ·split at h
  ·rename_i hb
   cases h
   rw[X.gO _ _ hb]
   split<;>exact bo.refl _
  ·cases h
 ·exact aif h
def yC (c:BE) (A E:au):List Nm->au
 | []=>[]
 | m::ms=>match bh A m,bh E m with
  | some a,some b=>match Gx c a b with
   | some r=>(m,r)::yC c A E ms
   | none=>yC c A E ms
  | _,_=>yC c A E ms
theorem Gw {c:BE} {A E:au} {m:Nm} {cs:List X}:∀{ms:List Nm},bh (yC c A E ms) m=some cs->∃a b,bh A m=some a/\bh E m=some b/\Gx c a b=some cs
 | [],h=>by cases h
 | k::ms,h=>by
  simp only[yC]at h
  split at h
  ·rename_i a b ha hb
   split at h
   ·rename_i r M
    simp only[bh]at h
    split at h
    ·rename_i u
     cases h
     have:=eu u
     subst this
     exact⟨a,b,ha,hb,M⟩
    ·exact Gw h
   ·exact Gw h
  ·exact Gw h
def vB (c:BE) (b:ba) (s1 s2:XS):XS:=⟨N0 c b s1.t s2.t,yC c s1.h s2.h (s1.h.map (·.1)),Nat.max s1.nx s2.nx⟩
theorem aih {ρ:aa} {c:BE} {b:ba} {s1 s2:XS} (A:Ext b s1.t) (E:Ext b s2.t):fX ((vB c b s1 s2).I ρ) (if c.I ρ=true then s1.I ρ else s2.I ρ):=by
 refine⟨fun i => ?_,fun m cs aI => ?_,?_⟩
 ·have:=aii (ρ:=ρ) (c:=c) A E i
  by_cases H:c.I ρ=true
  ·rw[if_pos H]at this ⊢;simp only[XS.I,vB,jf];exact this
  ·rw[if_neg H]at this ⊢;simp only[XS.I,vB,jf];exact this
 ·simp only[XS.I,vB,cG]at aI
  obtain⟨ds,hd,rfl⟩:=Option.map_eq_some_iff.1 aI
  obtain⟨a,dn,ha,hb,M⟩:=Gw hd
  have:=aie (ρ:=ρ) (c:=c) M
  by_cases H:c.I ρ=true
  ·rw[if_pos H]at this ⊢
   exact⟨_,by simp only[XS.I,cG,ha,Option.map_some],this⟩
  ·rw[if_neg H]at this ⊢
   exact⟨_,by simp only[XS.I,cG,hb,Option.map_some],this⟩
 ·simp only[vB,XS.I]
  split
  ·exact Nat.le_max_left _ _
  ·exact Nat.le_max_right _ _
def pT (t:ba):List Nat->List Nat->ba->ba
 | [],_,b=>b
 | k::ks,seen,b=>if seen.any (Nat.beq k)=true then pT t ks seen b else(k,bY t k)::pT t ks (k::seen) b
theorem Dc (t b:ba) (i:Nat):∀(ks seen:List Nat),bY (pT t ks seen b) i=if i∈ks/\i∉seen then bY t i else bY b i
 | [],seen=>by simp[pT]
 | k::ks,seen=>by
  simp only[pT,any_beq]
  by_cases u:k∈seen
  ·rw[if_pos u,Dc t b i ks seen]
   by_cases hi:i=k
   ·subst hi;simp[u]
   ·simp[hi]
  ·rw[if_neg u]
   simp only[bY]
   by_cases hi:k=i
   ·subst hi;simp[u]
   ·rw[if_neg (by simpa using hi),Dc t b i ks (k::seen)]
    simp[Ne.symm hi]
theorem tJ (t b:ba):∀ks seen,Ext b (pT t ks seen b)
 | [],_=>Ext.refl b
 | k::ks,seen=>by
  simp only[pT]
  split
  ·exact tJ t b ks seen
  ·obtain⟨Y,hu⟩:=tJ t b ks (k::seen)
   exact⟨_::Y,by rw[hu];rfl⟩
def zj (b:ba) (s:XS):XS:=⟨pT s.t (yn (s.t.length-b.length) s.t) [] b,s.h,s.nx⟩
theorem arK {ρ:aa} {b:ba} {s:XS} (h:Ext b s.t):fX ((zj b s).I ρ) (s.I ρ):=by
 refine⟨fun i => ?_,fun m cs aI=>⟨cs,aI,bo.refl cs⟩,Nat.le_refl _⟩
 simp only[XS.I,zj,jf,Dc]
 split
 ·exact bT.refl _
 ·rename_i hn
  simp only[List.not_mem_nil,not_false_eq_true,and_true]at hn
  obtain⟨Y,hu⟩:=h
  rw[hu]at hn ⊢
  rw[Qs hn]
  exact bT.refl _
inductive XE where
 | normal
 | exit (id:Nat)
 | ret
def XE.to:XE->Exit
 | .normal => .normal
 | .exit id => .exit id
 | .ret => .ret
def XE.beq:XE->XE->Bool
 | .normal,.normal=>true
 | .exit a,.exit b=>Nat.beq a b
 | .ret,.ret=>true
 | _,_=>false
theorem XE.beq_eq {a b:XE} (h:a.beq b=true):a=b:=by
 cases a<;>cases b<;>simp[XE.beq]at h ⊢;exact h
def T.c_ {ao:Type} (p:ao->Prop):T ao->Prop
 | .ret a=>p a
 | .br _ x y=>x.c_ p/\y.c_ p
 | .cL _ x=>x.c_ p
 | .fail _=>True
theorem T.rO {ao:Type}:∀t:T ao,t.c_ fun _=>True
 | .ret _=>trivial
 | .br _ x y=>⟨T.rO x,T.rO y⟩
 | .cL _ x=>T.rO x
 | .fail _=>trivial
theorem T.zK {ao:Type} {p q:ao->Prop} (h:∀a,p a->q a):∀{t:T ao},t.c_ p->t.c_ q
 | .ret a,ht=>h a ht
 | .br _ _ _,ht=>⟨T.zK h ht.1,T.zK h ht.2⟩
 | .cL _ x,ht=>T.zK (t:=x) h ht
 | .fail _,_=>trivial
theorem T.nJ {ao β:Type} {p:ao->Prop} {q:β->Prop} {f:J->ao->T β} (hf:∀B a,p a->(f B a).c_ q):∀{t:T ao} {B:J},t.c_ p->(t.bind B f).c_ q
 | .ret a,B,h=>hf B a h
 | .br _ _ _,_,h=>⟨T.nJ hf h.1,T.nJ hf h.2⟩
 | .cL _ x,_,h=>T.nJ (t:=x) hf h
 | .fail _,_,_=>trivial
theorem T.t_ {ao β:Type} {p:ao->Prop} {q:β->Prop} {f:ao->β} (hf:∀a,p a->q (f a)):∀{t:T ao},t.c_ p->(t.map f).c_ q
 | .ret a,h=>hf a h
 | .br _ _ _,h=>⟨T.t_ hf h.1,T.t_ hf h.2⟩
 | .cL _ x,h=>T.t_ (t:=x) hf h
 | .fail _,_=>trivial
theorem Rx {ao:Type} {p:ao->Prop} {B:J} {c:BE} {x y:J->T ao} (hx:∀B,(x B).c_ p) (hy:∀B,(y B).c_ p):(part B c x y).c_ p:=by
 unfold part
 split
 ·exact hx _
 ·exact hy _
 ·exact⟨hx _,hy _⟩
theorem abe {ao:Type} {p:ao->Prop} {B:J} {c:BE} {x:J->T ao} (hx:∀B,(x B).c_ p):(want B c x).c_ p:=by
 unfold want
 split
 ·exact hx _
 ·trivial
 ·exact hx _
theorem abd {ao:Type} {p:ao->Prop} {B:J} {v:X} {want':Bool} {run:J->T (X×aL)} {go:J->X->aL->T ao} {skip:J->T ao} {both:J->X->T ao} (Z:∀B r d,(go B r d).c_ p) (hs:∀B,(skip B).c_ p) (hb:∀B y,(both B y).c_ p) :
  (xH B v want' run go skip both).c_ p:=by
 have bD:∀(B aS:J),((run B).bind aS fun B p=>go B p.1 p.2).c_ p:=fun B aS=>T.nJ (p:=fun _=>True) (fun B q _=>Z B q.1 q.2) (T.rO _)
 unfold xH
 split
 ·split
  ·exact bD _ _
  ·exact hs _
  ·split
   ·exact abe fun B=>hb B _
   ·exact⟨bD _ _,hs _⟩
 ·trivial
structure dd where
 c:BE
 e:XE
 s:XS
def VD:X->Bool
 | .sl _ _ _ _ _=>true
 | .slv _ _ _ _ _=>true
 | _=>false
def Sz:List X->List X->Bool
 | x::xs,y::ys=>((VD x||VD y) && !X.beq x y)||Sz xs ys
 | _,_=>false
def apart (a b:XS):Bool:=a.h.any fun p=>match bh b.h p.1 with
 | some ds=>Sz p.2 ds
 | none=>false
def oi (b:ba) (c:BE) (e:XE) (s:XS):List dd->List dd
 | []=>[⟨c,e,s⟩]
 | x::r=>if(x.e.beq e && !apart x.s s)=true then⟨mkOr x.c c,e,vB x.c b x.s s⟩::r else x::oi b c e s r
def A7 (b:ba):List dd->List dd->List dd
 | [],cK=>cK
 | x::l,cK=>A7 b l (oi b x.c x.e x.s cK)
def dd.and (c:BE) (x:dd):dd:=⟨mkAnd c x.c,x.e,x.s⟩
def j2:BE->List dd->List dd
 | _,[]=>[]
 | cK,[x]=>[⟨mkNot cK,x.e,x.s⟩]
 | cK,x::r=>x::j2 (mkOr cK x.c) r
def flat (b:ba):T (XE×XS)->BE×List dd
 | .ret (e,s)=>(.lit true,[⟨.lit true,e,s⟩])
 | .br c x y=>match flat b x,flat b y with
  | (p,l),(q,m)=>(iq c p q,j2 (.lit false) (A7 b (m.map (dd.and (mkNot c))) (l.map (dd.and c))))
 | .cL c x=>match flat b x with
  | (p,l)=>(mkAnd c p,l)
 | .fail _=>(.lit false,[])
def dd.right (ρ:aa) (t:Option (XE×XS)) (x:dd):Prop:=x.c.I ρ=true->∃s,t=some (x.e,s)/\fX (x.s.I ρ) (s.I ρ)
structure jO (ρ:aa) (b:ba) (t:Option (XE×XS)) (l:List dd):Prop where
 right:∀x∈l,x.right ρ t
 ext:∀x∈l,Ext b x.s.t
theorem Wk (c:BE) (b:ba) (s1 s2:XS):Ext b (vB c b s1 s2).t:=NY _ _ _ _ _ _
theorem Vw {ρ:aa} {b:ba} {t:Option (XE×XS)} {n:dd} (hn:n.right ρ t) (G:Ext b n.s.t):∀{l:List dd},jO ρ b t l ->
  jO ρ b t (oi b n.c n.e n.s l)/\((n.c.I ρ=true\/∃x∈l,x.c.I ρ=true)->∃x∈oi b n.c n.e n.s l,x.c.I ρ=true)
 | [],_=>by
  refine⟨⟨fun x hx => ?_,fun x hx => ?_⟩,fun h => ?_⟩
  ·simp only[oi,List.mem_singleton]at hx;subst hx;exact hn
  ·simp only[oi,List.mem_singleton]at hx;subst hx;exact G
  ·rcases h with h | ⟨x,hx,_⟩
   ·exact⟨_,by simp only[oi,List.mem_singleton],h⟩
   ·cases hx
 | y::r,ho=>by
  have hy:=ho.right y List.mem_cons_self
  have Vn:=ho.ext y List.mem_cons_self
  have dT:jO ρ b t r:=⟨fun x hx=>ho.right x (List.mem_cons_of_mem _ hx),fun x hx=>ho.ext x (List.mem_cons_of_mem _ hx)⟩
  simp only[oi]
  split
  ·rename_i hb
   rw[Bool.and_eq_true]at hb
   have hb:=XE.beq_eq hb.1
   have aZ:=aih (ρ:=ρ) (c:=y.c) Vn G
   refine⟨⟨fun x hx => ?_,fun x hx => ?_⟩,fun h => ?_⟩
   ·rcases List.mem_cons.1 hx with rfl | hx
    ·intro H
     simp only[ox,Bool.or_eq_true]at H
     by_cases FL:y.c.I ρ=true
     ·obtain⟨s,A,E⟩:=hy FL
      rw[if_pos FL]at aZ
      exact⟨s,by rw[A,hb],aZ.trans E⟩
     ·obtain⟨s,A,E⟩:=hn (H.resolve_left FL)
      rw[if_neg FL]at aZ
      exact⟨s,A,aZ.trans E⟩
    ·exact dT.right x hx
   ·rcases List.mem_cons.1 hx with rfl | hx
    ·exact Wk _ _ _ _
    ·exact dT.ext x hx
   ·rcases h with h | ⟨x,hx,h⟩
    ·exact⟨_,List.mem_cons_self,by simp only[ox,h,Bool.or_true]⟩
    ·rcases List.mem_cons.1 hx with rfl | hx
     ·exact⟨_,List.mem_cons_self,by simp only[ox,h,Bool.true_or]⟩
     ·exact⟨x,List.mem_cons_of_mem _ hx,h⟩
  ·obtain⟨el,es⟩:=Vw hn G dT
   refine⟨⟨fun x hx => ?_,fun x hx => ?_⟩,fun h => ?_⟩
   ·rcases List.mem_cons.1 hx with rfl | hx
    ·exact hy
    ·exact el.right x hx
   ·rcases List.mem_cons.1 hx with rfl | hx
    ·exact Vn
    ·exact el.ext x hx
   ·rcases h with h | ⟨x,hx,h⟩
    ·obtain⟨z,hz,jw⟩:=es (.inl h)
     exact⟨z,List.mem_cons_of_mem _ hz,jw⟩
    ·rcases List.mem_cons.1 hx with rfl | hx
     ·exact⟨_,List.mem_cons_self,h⟩
     ·obtain⟨z,hz,jw⟩:=es (.inr ⟨x,hx,h⟩)
      exact⟨z,List.mem_cons_of_mem _ hz,jw⟩
theorem Uw {ρ:aa} {b:ba} {t:Option (XE×XS)}:∀{m l:List dd},jO ρ b t m->jO ρ b t l->jO ρ b t (A7 b m l)/\(((∃x∈m,x.c.I ρ=true)\/∃x∈l,x.c.I ρ=true)->∃x∈A7 b m l,x.c.I ρ=true)
 | [],l,_,M=>⟨M,fun h=>by
   rcases h with⟨x,hx,_⟩ | h
   ·cases hx
   ·exact h⟩
 | y::m,l,hm,M=>by
  have a0:jO ρ b t m:=⟨fun x hx=>hm.right x (List.mem_cons_of_mem _ hx),fun x hx=>hm.ext x (List.mem_cons_of_mem _ hx)⟩
  obtain⟨A,E⟩:=Vw (hm.right y List.mem_cons_self) (hm.ext y List.mem_cons_self) M
  obtain⟨h3,h4⟩:=Uw a0 A
  refine⟨h3,fun h=>h4 ?_⟩
  rcases h with⟨x,hx,H⟩ | h
  ·rcases List.mem_cons.1 hx with rfl | hx
   ·exact .inr (E (.inl H))
   ·exact .inl ⟨x,hx,H⟩
  ·exact .inr (E (.inr h))
theorem T3 {ρ:aa} {b:ba} {t:Option (XE×XS)}:∀{l:List dd} {cK:BE},jO ρ b t l->(cK.I ρ=true\/∃x∈l,x.c.I ρ=true)->jO ρ b t (j2 cK l)/\(cK.I ρ=true\/∃x∈j2 cK l,x.c.I ρ=true)
 | [],cK,ho,hx=>⟨ho,hx⟩
 | [x],cK,ho,hx=>by
  have hr:=ho.right x List.mem_cons_self
  refine⟨⟨fun y hy => ?_,fun y hy => ?_⟩,?_⟩
  ·simp only[j2,List.mem_singleton]at hy
   subst hy
   intro H
   simp only[et,Bool.not_eq_true']at H
   refine hr ?_
   rcases hx with h | ⟨z,hz,h⟩
   ·rw[H]at h;cases h
   ·simp only[List.mem_singleton]at hz;subst hz;exact h
  ·simp only[j2,List.mem_singleton]at hy
   subst hy
   exact ho.ext x List.mem_cons_self
  ·by_cases ha:cK.I ρ=true
   ·exact .inl ha
   ·exact .inr ⟨⟨mkNot cK,x.e,x.s⟩,by simp only[j2,List.mem_singleton],by simp only[et];simpa using ha⟩
 | x::y::r,cK,ho,hx=>by
  have dT:jO ρ b t (y::r):=⟨fun z hz=>ho.right z (List.mem_cons_of_mem _ hz),fun z hz=>ho.ext z (List.mem_cons_of_mem _ hz)⟩
  obtain⟨A,E⟩:=T3 (cK:=mkOr cK x.c) dT (by
   rw[ox]
   rcases hx with h | ⟨z,hz,h⟩
   ·exact .inl (by rw[h];rfl)
   ·rcases List.mem_cons.1 hz with rfl | hz
    ·exact .inl (by rw[h];simp)
    ·exact .inr ⟨z,hz,h⟩)
  refine⟨⟨fun z hz => ?_,fun z hz => ?_⟩,?_⟩
  ·simp only[j2]at hz
   rcases List.mem_cons.1 hz with rfl | hz
   ·exact ho.right _ List.mem_cons_self
   ·exact A.right z hz
  ·simp only[j2]at hz
   rcases List.mem_cons.1 hz with rfl | hz
   ·exact ho.ext _ List.mem_cons_self
   ·exact A.ext z hz
  ·rw[ox,Bool.or_eq_true]at E
   rcases E with(E | E) | ⟨z,hz,E⟩
   ·exact .inl E
   ·exact .inr ⟨x,by simp only[j2];exact List.mem_cons_self,E⟩
   ·exact .inr ⟨z,by simp only[j2];exact List.mem_cons_of_mem _ hz,E⟩
theorem AX {ρ:aa} {b:ba}:∀{t:T (XE×XS)},t.c_ (fun p=>Ext b p.2.t)->(flat b t).1.I ρ=true->jO ρ b (t.aq ρ) (flat b t).2/\∃x∈(flat b t).2,x.c.I ρ=true
 | .ret (e,s),ha,_=>by
  refine⟨⟨fun x hx => ?_,fun x hx => ?_⟩,?_⟩
  ·simp only[flat,List.mem_singleton]at hx;subst hx;exact fun _=>⟨s,rfl,fX.refl _⟩
  ·simp only[flat,List.mem_singleton]at hx;subst hx;exact ha
  ·exact⟨⟨.lit true,e,s⟩,by simp only[flat,List.mem_singleton],by simp only[BE.I]⟩
 | .br c x y,ha,a2=>by
  simp only[flat]at a2 ⊢
  rw[kx]at a2
  have hx:=fun h=>AX (ρ:=ρ) (b:=b) (t:=x) ha.1 h
  have hy:=fun h=>AX (ρ:=ρ) (b:=b) (t:=y) ha.2 h
  have key:jO ρ b ((T.br c x y).aq ρ) ((flat b x).2.map (dd.and c))/\jO ρ b ((T.br c x y).aq ρ) ((flat b y).2.map (dd.and (mkNot c)))/\((∃z∈(flat b y).2.map (dd.and (mkNot c)),z.c.I ρ=true)\/∃z∈(flat b x).2.map (dd.and c),z.c.I ρ=true):=by
   have extOf:∀{t:T (XE×XS)},t.c_ (fun p=>Ext b p.2.t)->∀z∈(flat b t).2,Ext b z.s.t:=fun {t} ht z hz=>T5 ht z hz
   by_cases H:c.I ρ=true
   ·rw[if_pos H]at a2
    obtain⟨A,z,hz,jw⟩:=hx a2
    have qJ:(T.br c x y).aq ρ=x.aq ρ:=by simp only[T.aq,H,if_true]
    rw[qJ]
    refine⟨⟨fun v R => ?_,fun v R => ?_⟩,⟨fun v R => ?_,fun v R => ?_⟩,.inr ⟨dd.and c z,List.mem_map.2 ⟨z,hz,rfl⟩,by simp only[dd.and,fM,H,jw,Bool.and_self]⟩⟩
    ·obtain⟨w,hw,rfl⟩:=List.mem_map.1 R
     intro W
     simp only[dd.and,fM,Bool.and_eq_true]at W
     exact A.right w hw W.2
    ·obtain⟨w,hw,rfl⟩:=List.mem_map.1 R
     exact A.ext w hw
    ·obtain⟨w,hw,rfl⟩:=List.mem_map.1 R
     intro W
     simp only[dd.and,fM,et,H,Bool.not_true,Bool.false_and]at W
     cases W
    ·obtain⟨w,hw,rfl⟩:=List.mem_map.1 R
     exact extOf ha.2 w hw
   ·rw[if_neg H]at a2
    obtain⟨A,z,hz,jw⟩:=hy a2
    have qJ:(T.br c x y).aq ρ=y.aq ρ:=by simp only[T.aq,H];rfl
    have pf:c.I ρ=false:=by simpa using H
    rw[qJ]
    refine⟨⟨fun v R => ?_,fun v R => ?_⟩,⟨fun v R => ?_,fun v R => ?_⟩,.inl ⟨dd.and (mkNot c) z,List.mem_map.2 ⟨z,hz,rfl⟩,by simp only[dd.and,fM,et,pf,jw,Bool.not_false,Bool.and_self]⟩⟩
    ·obtain⟨w,hw,rfl⟩:=List.mem_map.1 R
     intro W
     simp only[dd.and,fM,pf,Bool.false_and]at W
     cases W
    ·obtain⟨w,hw,rfl⟩:=List.mem_map.1 R
     exact extOf ha.1 w hw
    ·obtain⟨w,hw,rfl⟩:=List.mem_map.1 R
     intro W
     simp only[dd.and,fM,Bool.and_eq_true]at W
     exact A.right w hw W.2
    ·obtain⟨w,hw,rfl⟩:=List.mem_map.1 R
     exact A.ext w hw
  obtain⟨k1,k2,k3⟩:=key
  obtain⟨g1,g2⟩:=Uw k2 k1
  obtain⟨f1,gu⟩:=T3 (cK := .lit false) g1 (.inr (g2 k3))
  refine⟨f1,?_⟩
  rcases gu with gu | gu
  ·simp[BE.I]at gu
  ·exact gu
 | .cL c x,ha,a2=>by
  simp only[flat,fM,Bool.and_eq_true]at a2 ⊢
  obtain⟨A,E⟩:=AX (ρ:=ρ) (b:=b) (t:=x) ha a2.2
  have qJ:(T.cL c x).aq ρ=x.aq ρ:=by simp only[T.aq,a2.1,if_true]
  rw[qJ]
  exact⟨A,E⟩
 | .fail _,_,a2=>by simp[flat,BE.I]at a2
where
 T5:∀{t:T (XE×XS)},t.c_ (fun p=>Ext b p.2.t)->∀z∈(flat b t).2,Ext b z.s.t:=by
  intro t
  induction t with
  | ret a=>intro ha z hz;obtain⟨e,s⟩:=a;simp only[flat,List.mem_singleton]at hz;subst hz;exact ha
  | fail _=>intro _ z hz;simp[flat]at hz
  | cL c x ih=>intro ha z hz;simp only[flat]at hz;exact ih ha z hz
  | br c x y el es =>
   intro ha z hz
   simp only[flat]at hz
   have i1:=el ha.1
   have oh:=es ha.2
   have aff:∀(l:List dd) (cK:BE),(∀z∈l,Ext b z.s.t)->∀z∈j2 cK l,Ext b z.s.t:=by
    intro l
    induction l with
    | nil=>intro cK h z hz;simp[j2]at hz
    | cons x r ih =>
     intro cK h z hz
     cases r with
     | nil=>simp only[j2,List.mem_singleton]at hz;subst hz;exact h x List.mem_cons_self
     | cons y r =>
      simp only[j2]at hz
      rcases List.mem_cons.1 hz with rfl | hz
      ·exact h _ List.mem_cons_self
      ·exact ih _ (fun z hz=>h z (List.mem_cons_of_mem _ hz)) z hz
   have ins:∀(l:List dd) (n:dd),(∀z∈l,Ext b z.s.t)->Ext b n.s.t->∀z∈oi b n.c n.e n.s l,Ext b z.s.t:=by
    intro l n
    induction l with
    | nil=>intro _ hn z hz;simp only[oi,List.mem_singleton]at hz;subst hz;exact hn
    | cons x r ih =>
     intro h hn z hz
     simp only[oi]at hz
     split at hz
     ·rcases List.mem_cons.1 hz with rfl | hz
      ·exact Wk _ _ _ _
      ·exact h z (List.mem_cons_of_mem _ hz)
     ·rcases List.mem_cons.1 hz with rfl | hz
      ·exact h _ List.mem_cons_self
      ·exact ih (fun z hz=>h z (List.mem_cons_of_mem _ hz)) hn z hz
   have A6:∀(m l:List dd),(∀z∈m,Ext b z.s.t)->(∀z∈l,Ext b z.s.t)->∀z∈A7 b m l,Ext b z.s.t:=by
    intro m
    induction m with
    | nil=>intro l _ M;exact M
    | cons x m ih=>intro l hm M;exact ih _ (fun z hz=>hm z (List.mem_cons_of_mem _ hz)) (ins l x M (hm x List.mem_cons_self))
   refine aff _ _ (A6 _ _ (fun z hz => ?_) (fun z hz => ?_)) z hz
   ·obtain⟨w,hw,rfl⟩:=List.mem_map.1 hz;exact oh w hw
   ·obtain⟨w,hw,rfl⟩:=List.mem_map.1 hz;exact i1 w hw
def rY:List dd->T (XE×XS)
 | []=>(.fail [])
 | [x] => .ret (x.e,x.s)
 | x::r=>match x.c with
  | .lit true => .ret (x.e,x.s)
  | .lit false=>rY r
  | c => .br c (.ret (x.e,x.s)) (rY r)
theorem Eh {ρ:aa} {b:ba} {t:Option (XE×XS)} {e:XE} {s':XS}:∀{l:List dd},jO ρ b t l->(∃x∈l,x.c.I ρ=true)->(rY l).aq ρ=some (e,s')->∃s,t=some (e,s)/\fX (s'.I ρ) (s.I ρ)
 | [],_,hx,_=>by obtain⟨x,hx,_⟩:=hx;cases hx
 | [x],ho,hx,h=>by
  obtain⟨y,hy,H⟩:=hx
  simp only[List.mem_singleton]at hy
  subst hy
  cases h
  exact ho.right _ List.mem_cons_self H
 | x::y::r,ho,hx,h=>by
  have dT:jO ρ b t (y::r):=⟨fun z hz=>ho.right z (List.mem_cons_of_mem _ hz),fun z hz=>ho.ext z (List.mem_cons_of_mem _ hz)⟩
  have hr:=ho.right x List.mem_cons_self
  have next:¬x.c.I ρ=true->∃z∈y::r,z.c.I ρ=true:=fun hn=>by
   obtain⟨z,hz,H⟩:=hx
   rcases List.mem_cons.1 hz with rfl | hz
   ·exact absurd H hn
   ·exact⟨z,hz,H⟩
  simp only[rY]at h
  split at h
  ·rename_i H
   cases h
   exact hr (by rw[H];rfl)
  ·rename_i H
   exact Eh dT (next (by rw[H];simp[BE.I])) h
  ·simp only[T.aq]at h
   split at h
   ·rename_i H;cases h;exact hr H
   ·rename_i H;exact Eh dT (next H) h
theorem JP {b:ba}:∀{l:List dd},(∀z∈l,Ext b z.s.t)->(rY l).c_ fun p=>Ext b p.2.t
 | [],_=>trivial
 | [x],h=>h x List.mem_cons_self
 | x::y::r,h=>by
  have ih:=JP (l:=y::r) fun z hz=>h z (List.mem_cons_of_mem _ hz)
  simp only[rY]
  split
  ·exact h x List.mem_cons_self
  ·exact ih
  ·exact⟨h x List.mem_cons_self,ih⟩
def oj (b:ba) (t:T (XE×XS)):T (XE×XS) :=
 match t with
 | .ret p => .ret p
 | .fail w => .fail w
 | t=>match flat b t with
  | (.lit true,l)=>rY l
  | (.lit false,_) => .fail t.zz
  | (c,l) => .cL c (rY l)
theorem vu {ρ:aa} {b:ba} {t:T (XE×XS)} (ha:t.c_ fun p=>Ext b p.2.t) {e:XE} {s':XS} (h:(oj b t).aq ρ=some (e,s')):∃s,t.aq ρ=some (e,s)/\fX (s'.I ρ) (s.I ρ):=by
 unfold oj at h
 split at h
 ·cases h;exact⟨s',rfl,fX.refl _⟩
 ·cases h
 ·have hf:=AX (ρ:=ρ) (b:=b) ha
  split at h
  ·rename_i l M
   rw[M]at hf
   obtain⟨A,E⟩:=hf rfl
   exact Eh A E h
  ·cases h
  ·rename_i c l _ _ M
   rw[M]at hf
   simp only[T.aq]at h
   split at h
   ·rename_i H
    obtain⟨A,E⟩:=hf H
    exact Eh A E h
   ·cases h
theorem yi {b:ba} {t:T (XE×XS)} (ha:t.c_ fun p=>Ext b p.2.t):(oj b t).c_ fun p=>Ext b p.2.t:=by
 unfold oj
 split
 ·exact ha
 ·trivial
 ·have hx:=AX.T5 ha
  split
  ·rename_i l M;rw[M]at hx;exact JP hx
  ·trivial
  ·rename_i c l _ _ M;rw[M]at hx;exact JP hx
end Go.Proofs.Xw
namespace Go.Proofs.Xw
open Go Go.Proofs.Aw
theorem ra {p:Nm->Bool} {ρ:aa} {n:U} {l:RL}:cq p (aV ρ n l)=true:=by
 have sc:∀r:List Sc,a4 p (ca ρ r)=true:=fun r=>by
  induction r with
  | nil=>rfl
  | cons s r ih=>simp only[ca,List.map_cons,a4,b8,Bool.true_and]at ih ⊢;exact ih
 have Kr:∀(l:Nat) (ks:List Kd) (k j:Nat),a4 p (bH ρ l k ks j)=true:=fun l ks=>by
  induction ks with
  | nil=>intro k j;rfl
  | cons kd ks ih=>intro k j;cases kd<;>simp only[bH,a4,b8,Bool.true_and]<;>exact ih _ _
 have row:∀(l:RL) (j:Int),a4 p (l.row ρ j)=true:=fun l=>by
  induction l with
  | var l ks=>intro j;exact Kr _ _ _ _
  | one r=>intro j;exact sc r
  | app n a b el es=>intro j;simp only[RL.row];split<;>first | exact el _ | exact es _
  | drop n a ih=>intro j;exact ih _
  | eK i r a ih=>intro j;simp only[RL.row];split<;>first | exact sc _ | exact ih _
  | ite c a b el es=>intro j;simp only[RL.row];split<;>first | exact el _ | exact es _
 unfold aV
 generalize List.range (n.I ρ).toNat=L
 induction L with
 | nil=>rfl
 | cons j L ih=>simp only[List.map_cons,cq,row,Bool.true_and];exact ih
theorem GO {p:Nm->Bool} {ρ:aa} {n:U} {l:Nat} {ks:List Nk}:cq p (fS ρ n l ks)=true:=by
 have Kr:∀(l:Nat) (ks:List Kd) (k j:Nat),a4 p (bH ρ l k ks j)=true:=fun l ks=>by
  induction ks with
  | nil=>intro k j;rfl
  | cons kd ks ih=>intro k j;cases kd<;>simp only[bH,a4,b8,Bool.true_and]<;>exact ih _ _
 have all:∀(f:Nat->List AV),(∀j,a4 p (f j)=true)->∀L:List Nat,cq p (L.map f)=true:=fun f hf L=>by
  induction L with
  | nil=>rfl
  | cons j L ih=>simp only[List.map_cons,cq,hf,Bool.true_and];exact ih
 have Ak:∀(ks:List Nk) (k j:Nat),a4 p (dL ρ l k ks j)=true:=fun ks=>by
  induction ks with
  | nil=>intro k j;rfl
  | cons kd ks ih =>
   intro k j
   cases kd with
   | f kd=>cases kd<;>simp only[dL,rZ,a4,b8,Bool.true_and]<;>exact ih _ _
   | r z S kk =>
    simp only[dL,a4,b8,Bool.and_eq_true]
    exact⟨all _ (fun e=>Kr S kk 0 _) _,ih _ _⟩
 exact all _ (fun j=>Ak ks 0 j) _
theorem Oz {p:Nm->Bool} {v:AV} (h:Aw.b8 (fun _=>false) v=true):Aw.b8 p v=true:=OA (p:=fun _=>false) (fun _ h=>by cases h) v h
theorem Ch {p:Nm->Bool}:∀{a b:List (List AV)},cq p a=true->cq p b=true->cq p (a++b)=true
 | [],_,_,hb=>hb
 | x::a,b,ha,hb=>by
  simp only[cq,Bool.and_eq_true]at ha
  simp only[List.cons_append,cq,ha.1,Bool.true_and]
  exact Ch ha.2 hb
theorem rb {p:Nm->Bool} {ρ:aa} {z:Nat} {m:U} {t:Nat}:cq p (bC ρ z m t)=true:=by
 have row:∀(j:Nat) (L:List Nat),Aw.a4 p (L.map fun k=>(ρ.ct t k j).1)=true:=fun j L=>by
  induction L with
  | nil=>rfl
  | cons k L ih=>simp only[List.map_cons,Aw.a4,Oz (ρ.ct t k j).2.1,Bool.true_and];exact ih
 have all:∀L:List Nat,cq p (L.map fun(j:Nat)=>(List.range z).map fun k=>(ρ.ct t k j).1)=true:=fun L=>by
  induction L with
  | nil=>rfl
  | cons j L ih=>simp only[List.map_cons,cq,row,Bool.true_and];exact ih
 exact all _
theorem HF (f:Nm->Nm):∀a b:List AV,Aw.bu f (a++b)=Aw.bu f a++Aw.bu f b
 | [],_=>rfl
 | x::a,b=>by simp only[List.cons_append,Aw.bu,HF f a b]
theorem HD (f:Nm->Nm):∀a b:List (List AV),Aw.dD f (a++b)=Aw.dD f a++Aw.dD f b
 | [],_=>rfl
 | x::a,b=>by simp only[List.cons_append,Aw.dD,HD f a b]
mutual
def X.b8 (p:Nm->Bool):X->Bool
 | .top | .k _ | .sc _ | .rl _ _ _ _ | .rows _ _ _ | .rn _ _ _ _ _ | .cJ _ _ _=>true
 | .tk _ _ _ D | .tq _ _ _ D _=>X.cq p D
 | .slv n _ _ _ _=>p n
 | .dv n _ _ _=>p n
 | .agg cs | .tup cs | .ip cs _ _=>X.a4 p cs
 | .ptr n _ _=>p n
 | .sl n _ _ _ _=>p n
 | .ro _ D _=>X.cq p D
 | .fn _ xs ys=>X.a4 p xs&&X.a4 p ys
 | .gd _ x=>x.b8 p
def X.a4 (p:Nm->Bool):List X->Bool
 | []=>true
 | x::xs=>x.b8 p&&X.a4 p xs
def X.cq (p:Nm->Bool):List (List X)->Bool
 | []=>true
 | e::D=>X.a4 p e&&X.cq p D
end
mutual
theorem X.vN {p:Nm->Bool} (ρ:aa):∀x:X,x.b8 p=true->Aw.b8 p (x.I ρ)=true
 | .top,_=>rfl
 | .k _,_=>rfl
 | .sc _,_=>rfl
 | .rl _ _ _ _,_=>ra
 | .rn _ _ _ _ _,_=>GO
 | .tk _ _ _ _,_=>rfl
 | .tq _ _ _ D _,h=>Ch rb (X.GN ρ D h)
 | .cJ t o j,_=>Oz (ρ.ct t o _).2.1
 | .rows _ _ _,_=>rfl
 | .slv _ _ _ _ _,h=>h
 | .dv _ _ _ _,h=>h
 | .agg cs,h=>X.pB ρ cs h
 | .tup cs,h=>X.pB ρ cs h
 | .ip cs _ _,h=>X.pB ρ cs h
 | .ro _ D _,h=>X.GN ρ D h
 | .fn _ xs ys,h=>by
  simp only[X.b8,Bool.and_eq_true]at h
  simp only[X.I,Aw.b8,X.pB ρ xs h.1,X.pB ρ ys h.2,Bool.and_self]
 | .ptr _ _ _,h=>h
 | .sl _ _ _ _ _,h=>h
 | .gd c x,h=>by
  simp only[X.I]
  split
  ·exact X.vN ρ x h
  ·rfl
theorem X.pB {p:Nm->Bool} (ρ:aa):∀l:List X,X.a4 p l=true->Aw.a4 p (X.af ρ l)=true
 | [],_=>rfl
 | x::xs,h=>by
  simp only[X.a4,Bool.and_eq_true]at h
  simp only[X.af,Aw.a4,X.vN ρ x h.1,X.pB ρ xs h.2,Bool.and_self]
theorem X.GN {p:Nm->Bool} (ρ:aa):∀l:List (List X),X.cq p l=true->Aw.cq p (X.aX ρ l)=true
 | [],_=>rfl
 | x::xs,h=>by
  simp only[X.cq,Bool.and_eq_true]at h
  simp only[X.aX,Aw.cq,X.pB ρ x h.1,X.GN ρ xs h.2,Bool.and_self]
end
mutual
def X.aW (f:Nm->Nm):X->X
 | .agg cs => .agg (X.bu f cs)
 | .tup cs => .tup (X.bu f cs)
 | .ip cs aG d => .ip (X.bu f cs) aG d
 | .ptr n aG d => .ptr (f n) aG d
 | .sl n z off len own => .sl (f n) z off len own
 | .ro z D full => .ro z (X.dD f D) full
 | .fn g xs ys => .fn g (X.bu f xs) (X.bu f ys)
 | .gd c x => .gd c (x.aW f)
 | .top => .top
 | .k v => .k v
 | .sc s => .sc s
 | .rl z n l full => .rl z n l full
 | .rn z n l ks full => .rn z n l ks full
 | .tk z m t D => .tk z m t (X.dD f D)
 | .tq z m t D full => .tq z m t (X.dD f D) full
 | .cJ t o j => .cJ t o j
 | .rows z n l => .rows z n l
 | .slv n z o l w => .slv (f n) z o l w
 | .dv n z j o => .dv (f n) z j o
def X.bu (f:Nm->Nm):List X->List X
 | []=>[]
 | x::xs=>x.aW f::X.bu f xs
def X.dD (f:Nm->Nm):List (List X)->List (List X)
 | []=>[]
 | e::D=>X.bu f e::X.dD f D
end
mutual
theorem X.HG {f:Nm->Nm} (ρ:aa):∀x:X,(x.aW f).I ρ=Aw.aW f (x.I ρ)
 | .top=>rfl
 | .k _=>rfl
 | .sc _=>rfl
 | .rl _ _ _ _=>by simp only[X.aW,X.I,Aw.aW];rw[pN f _ ra]
 | .rn _ _ _ _ _=>by simp only[X.aW,X.I,Aw.aW];rw[pN f _ GO]
 | .tk _ _ _ _=>rfl
 | .tq _ _ _ D _=>by simp only[X.aW,X.I,Aw.aW,HD,X.HE ρ D];rw[pN f _ rb]
 | .cJ t o j=>(y6 f _ (ρ.ct t o _).2.1).symm
 | .rows _ _ _=>rfl
 | .slv _ _ _ _ _=>rfl
 | .dv _ _ _ _=>rfl
 | .agg cs=>by simp only[X.aW,X.I,Aw.aW,X.rr ρ cs]
 | .tup cs=>by simp only[X.aW,X.I,Aw.aW,X.rr ρ cs]
 | .ip cs _ _=>by simp only[X.aW,X.I,Aw.aW,X.rr ρ cs]
 | .ro _ D _=>by simp only[X.aW,X.I,Aw.aW,X.HE ρ D]
 | .fn _ xs ys=>by simp only[X.aW,X.I,Aw.aW,X.rr ρ xs,X.rr ρ ys]
 | .ptr _ _ _=>rfl
 | .sl _ _ _ _ _=>rfl
 | .gd c x=>by
  simp only[X.aW,X.I]
  split
  ·exact X.HG ρ x
  ·rfl
theorem X.rr {f:Nm->Nm} (ρ:aa):∀l:List X,X.af ρ (X.bu f l)=Aw.bu f (X.af ρ l)
 | []=>rfl
 | x::xs=>by simp only[X.bu,X.af,Aw.bu,X.HG ρ x,X.rr ρ xs]
theorem X.HE {f:Nm->Nm} (ρ:aa):∀l:List (List X),X.aX ρ (X.dD f l)=Aw.dD f (X.aX ρ l)
 | []=>rfl
 | x::xs=>by simp only[X.dD,X.aX,Aw.dD,X.rr ρ x,X.HE ρ xs]
end
mutual
def X.names:X->List Nm
 | .top | .k _ | .sc _ | .rl _ _ _ _ | .rows _ _ _ | .rn _ _ _ _ _ | .cJ _ _ _=>[]
 | .tk _ _ _ D | .tq _ _ _ D _=>X.Oi D
 | .slv n _ _ _ _=>[n]
 | .dv n _ _ _=>[n]
 | .agg cs | .tup cs | .ip cs _ _=>X.ls cs
 | .ptr n _ _=>[n]
 | .sl n _ _ _ _=>[n]
 | .ro _ D _=>X.Oi D
 | .fn _ xs ys=>X.ls xs++X.ls ys
 | .gd _ x=>x.names
def X.ls:List X->List Nm
 | []=>[]
 | x::xs=>x.names++X.ls xs
def X.Oi:List (List X)->List Nm
 | []=>[]
 | e::D=>X.ls e++X.Oi D
end
theorem q' {p:Nm->Bool}:∀{D:List (List AV)},cq p D=true->Aw.a4 p D.flatten=true
 | [],_=>rfl
 | e::D,h=>by
  simp only[cq,Bool.and_eq_true]at h
  have app:∀(a b:List AV),Aw.a4 p a=true->Aw.a4 p b=true->Aw.a4 p (a++b)=true:=fun a b ha hb=>by
   induction a with
   | nil=>exact hb
   | cons x a ih =>
    simp only[Aw.a4,Bool.and_eq_true]at ha
    simp only[List.cons_append,Aw.a4,Bool.and_eq_true]
    exact⟨ha.1,ih ha.2⟩
  rw[List.flatten_cons]
  exact app _ _ h.1 (q' h.2)
theorem X.vM {p:Nm->Bool} (ρ:aa) (cs:List X) (h:X.a4 p cs=true):Aw.a4 p (aA ρ cs)=true:=by
 unfold aA
 split
 ·exact q' ra
 ·simp only[X.a4,X.b8,Bool.and_true]at h
  exact q' (Ch rb (X.GN ρ _ h))
 ·exact X.pB ρ cs h
theorem X.Pp {f:Nm->Nm} (ρ:aa) (cs:List X):aA ρ (X.bu f cs)=Aw.bu f (aA ρ cs):=by
 by_cases h:b6 cs=true
 ·unfold b6 at h
  split at h
  ·rename_i z n l
   have e:X.bu f [.rows z n l]=[.rows z n l]:=rfl
   rw[e,lB f _ (by simp only[aA];exact q' ra)]
  ·rename_i z m t D
   have e:X.bu f [.tk z m t D]=[.tk z m t (X.dD f D)]:=rfl
   have fl:∀l:List (List AV),Aw.bu f l.flatten=(Aw.dD f l).flatten:=fun l=>by
    induction l with
    | nil=>rfl
    | cons a l ih=>simp only[List.flatten_cons,HF,Aw.dD,ih]
   rw[e]
   simp only[aA]
   rw[fl,HD,X.HE,pN f _ rb]
  ·cases h
 ·have A:b6 cs=false:=by simpa using h
  have E:b6 (X.bu f cs)=false:=by
   match cs,A with
   | [],_=>rfl
   | [x],A=>cases x<;>first | rfl | (simp[b6]at A)
   | x::y::r,_ =>
    simp only[X.bu]
    unfold b6
    split
    ·rename_i dH;simp at dH
    ·rename_i dH;simp at dH
    ·rfl
  rw[cP A,cP E,X.rr]
end Go.Proofs.Xw
namespace Go.Proofs.Xw
open Go Go.Proofs.Aw
structure az (n:Nat) (ρ F:aa):Prop where
 i:∀k,k<n->ρ.i k=F.i k
 b:∀k,k<n->ρ.b k=F.b k
 s:∀k,k<n->ρ.s k=F.s k
 len:∀k,k<n->ρ.len k=F.len k
 ci:∀k,k<n->ρ.ci k=F.ci k
 cb:∀k,k<n->ρ.cb k=F.cb k
 cs:∀k,k<n->ρ.cs k=F.cs k
 ct:∀k,k<n->ρ.ct k=F.ct k
theorem az.refl (n:Nat) (ρ:aa):az n ρ ρ:=⟨fun _ _=>rfl,fun _ _=>rfl,fun _ _=>rfl,fun _ _=>rfl,fun _ _=>rfl,fun _ _=>rfl,fun _ _=>rfl,fun _ _=>rfl⟩
theorem az.symm {n:Nat} {ρ F:aa} (h:az n ρ F):az n F ρ :=
 ⟨fun k u=>(h.i k u).symm,fun k u=>(h.b k u).symm,fun k u=>(h.s k u).symm,fun k u=>(h.len k u).symm,fun k u=>(h.ci k u).symm,fun k u=>(h.cb k u).symm,fun k u=>(h.cs k u).symm,fun k u=>(h.ct k u).symm⟩
theorem az.trans {n:Nat} {a b c:aa} (h:az n a b) (k:az n b c):az n a c :=
 ⟨fun j O=>(h.i j O).trans (k.i j O),fun j O=>(h.b j O).trans (k.b j O),fun j O=>(h.s j O).trans (k.s j O),fun j O=>(h.len j O).trans (k.len j O),fun j O=>(h.ci j O).trans (k.ci j O),fun j O=>(h.cb j O).trans (k.cb j O),fun j O=>(h.cs j O).trans (k.cs j O),fun j O=>(h.ct j O).trans (k.ct j O)⟩
theorem az.le {m n:Nat} {ρ F:aa} (h:az n ρ F) (hm:m<=n):az m ρ F :=
 ⟨fun k u=>h.i k (by omega),fun k u=>h.b k (by omega),fun k u=>h.s k (by omega),fun k u=>h.len k (by omega),fun k u=>h.ci k (by omega),fun k u=>h.cb k (by omega),fun k u=>h.cs k (by omega),fun k u=>h.ct k (by omega)⟩
mutual
def U.ar (n:Nat):U->Bool
 | .lit _=>true
 | .var i=>Nat.blt i n
 | .cl l _ j=>Nat.blt l n&&j.ar n
 | .len l=>Nat.blt l n
 | .cB t=>t.ar n
 | .fD t j=>t.ar n&&j.ar n
 | .op _ _ a b=>a.ar n&&b.ar n
 | .ite c a b=>c.ar n&&(a.ar n&&b.ar n)
 | .uf _ _ a=>a.ar n
def AL.ar (n:Nat):AL->Bool
 | .nil=>true
 | .i e r=>e.ar n&&r.ar n
 | .b e r=>e.ar n&&r.ar n
 | .s e r=>e.ar n&&r.ar n
def BE.ar (n:Nat):BE->Bool
 | .lit _=>true
 | .var i=>Nat.blt i n
 | .cl l _ j=>Nat.blt l n&&j.ar n
 | .lt a b=>a.ar n&&b.ar n
 | .eq a b=>a.ar n&&b.ar n
 | .seq a b=>a.ar n&&b.ar n
 | .slt a b=>a.ar n&&b.ar n
 | .not a=>a.ar n
 | .and a b=>a.ar n&&b.ar n
 | .or a b=>a.ar n&&b.ar n
 | .ite c a b=>c.ar n&&(a.ar n&&b.ar n)
def TE.ar (n:Nat):TE->Bool
 | .lit _=>true
 | .var i=>Nat.blt i n
 | .cl l _ j=>Nat.blt l n&&j.ar n
 | .sub t a b=>t.ar n&&(a.ar n&&b.ar n)
 | .ite c a b=>c.ar n&&(a.ar n&&b.ar n)
end
mutual
theorem U.aT {n:Nat} {ρ F:aa} (h:az n ρ F):∀e:U,e.ar n=true->e.I ρ=e.I F
 | .lit _,_=>rfl
 | .var i,hb=>h.i i (by simpa [U.ar]using hb)
 | .cl l k j,hb=>by
  simp only[U.ar,Bool.and_eq_true]at hb
  simp only[U.I,U.aT h j hb.2,h.ci l (by simpa using hb.1)]
 | .len l,hb=>by simp only[U.I,h.len l (by simpa [U.ar]using hb)]
 | .cB t,hb=>by simp only[U.I,TE.aT h t hb]
 | .fD t j,hb=>by
  simp only[U.ar,Bool.and_eq_true]at hb
  simp only[U.I,TE.aT h t hb.1,U.aT h j hb.2]
 | .op o k a b,hb=>by
  simp only[U.ar,Bool.and_eq_true]at hb
  simp only[U.I,U.aT h a hb.1,U.aT h b hb.2]
 | .ite c a b,hb=>by
  simp only[U.ar,Bool.and_eq_true]at hb
  simp only[U.I,BE.aT h c hb.1,U.aT h a hb.2.1,U.aT h b hb.2.2]
 | .uf _ _ a,hb=>by simp only[U.I,AL.aT h a hb]
theorem AL.aT {n:Nat} {ρ F:aa} (h:az n ρ F):∀e:AL,e.ar n=true->e.I ρ=e.I F
 | .nil,_=>rfl
 | .i e r,hb=>by
  simp only[AL.ar,Bool.and_eq_true]at hb
  simp only[AL.I,U.aT h e hb.1,AL.aT h r hb.2]
 | .b e r,hb=>by
  simp only[AL.ar,Bool.and_eq_true]at hb
  simp only[AL.I,BE.aT h e hb.1,AL.aT h r hb.2]
 | .s e r,hb=>by
  simp only[AL.ar,Bool.and_eq_true]at hb
  simp only[AL.I,TE.aT h e hb.1,AL.aT h r hb.2]
theorem BE.aT {n:Nat} {ρ F:aa} (h:az n ρ F):∀e:BE,e.ar n=true->e.I ρ=e.I F
 | .lit _,_=>rfl
 | .var i,hb=>h.b i (by simpa [BE.ar]using hb)
 | .cl l k j,hb=>by
  simp only[BE.ar,Bool.and_eq_true]at hb
  simp only[BE.I,U.aT h j hb.2,h.cb l (by simpa using hb.1)]
 | .lt a b,hb=>by
  simp only[BE.ar,Bool.and_eq_true]at hb
  simp only[BE.I,U.aT h a hb.1,U.aT h b hb.2]
 | .eq a b,hb=>by
  simp only[BE.ar,Bool.and_eq_true]at hb
  simp only[BE.I,U.aT h a hb.1,U.aT h b hb.2]
 | .seq a b,hb=>by
  simp only[BE.ar,Bool.and_eq_true]at hb
  simp only[BE.I,TE.aT h a hb.1,TE.aT h b hb.2]
 | .slt a b,hb=>by
  simp only[BE.ar,Bool.and_eq_true]at hb
  simp only[BE.I,TE.aT h a hb.1,TE.aT h b hb.2]
 | .not a,hb=>by simp only[BE.I,BE.aT h a hb]
 | .and a b,hb=>by
  simp only[BE.ar,Bool.and_eq_true]at hb
  simp only[BE.I,BE.aT h a hb.1,BE.aT h b hb.2]
 | .or a b,hb=>by
  simp only[BE.ar,Bool.and_eq_true]at hb
  simp only[BE.I,BE.aT h a hb.1,BE.aT h b hb.2]
 | .ite c a b,hb=>by
  simp only[BE.ar,Bool.and_eq_true]at hb
  simp only[BE.I,BE.aT h c hb.1,BE.aT h a hb.2.1,BE.aT h b hb.2.2]
theorem TE.aT {n:Nat} {ρ F:aa} (h:az n ρ F):∀e:TE,e.ar n=true->e.I ρ=e.I F
 | .lit _,_=>rfl
 | .var i,hb=>h.s i (by simpa [TE.ar]using hb)
 | .cl l k j,hb=>by
  simp only[TE.ar,Bool.and_eq_true]at hb
  simp only[TE.I,U.aT h j hb.2,h.cs l (by simpa using hb.1)]
 | .sub t a b,hb=>by
  simp only[TE.ar,Bool.and_eq_true]at hb
  simp only[TE.I,TE.aT h t hb.1,U.aT h a hb.2.1,U.aT h b hb.2.2]
 | .ite c a b,hb=>by
  simp only[TE.ar,Bool.and_eq_true]at hb
  simp only[TE.I,BE.aT h c hb.1,TE.aT h a hb.2.1,TE.aT h b hb.2.2]
end
def Sc.ar (n:Nat):Sc->Bool
 | .i _ e=>e.ar n
 | .b e=>e.ar n
 | .s e=>e.ar n
 | .f a z=>a.ar n&&z.ar n
 | .c a z m y=>a.ar n&&(z.ar n&&(m.ar n&&y.ar n))
theorem Sc.aT {n:Nat} {ρ F:aa} (h:az n ρ F) (s:Sc) (hb:s.ar n=true):s.I ρ=s.I F:=by
 cases s with
 | i k e=>simp only[Sc.I,U.aT h e hb]
 | b e=>simp only[Sc.I,BE.aT h e hb]
 | s e=>simp only[Sc.I,TE.aT h e hb]
 | f a z =>
  simp only[Sc.ar,Bool.and_eq_true]at hb
  simp only[Sc.I,U.aT h a hb.1,BE.aT h z hb.2]
 | c a z m y =>
  simp only[Sc.ar,Bool.and_eq_true]at hb
  simp only[Sc.I,U.aT h a hb.1,BE.aT h z hb.2.1,U.aT h m hb.2.2.1,BE.aT h y hb.2.2.2]
theorem PZ {n:Nat} {ρ F:aa} (h:az n ρ F):∀(r:List Sc),r.all (Sc.ar n)=true->ca ρ r=ca F r
 | [],_=>rfl
 | s::r,hb=>by
  simp only[List.all_cons,Bool.and_eq_true]at hb
  have ih:=PZ h r hb.2
  simp only[ca]at ih
  simp only[ca,List.map_cons,Sc.aT h s hb.1,ih]
theorem Ab {n:Nat} {ρ F:aa} (h:az n ρ F) {l:Nat} (M:l<n) (j:Nat):∀(ks:List Kd) (k:Nat),bH ρ l k ks j=bH F l k ks j
 | [],_=>rfl
 | .i K::ks,k=>by simp only[bH,h.ci l M,Ab h M j ks (k+1)]
 | .b::ks,k=>by simp only[bH,h.cb l M,Ab h M j ks (k+1)]
 | .s::ks,k=>by simp only[bH,h.cs l M,Ab h M j ks (k+1)]
def RL.ar (n:Nat):RL->Bool
 | .var l _=>Nat.blt l n
 | .one r=>r.all (Sc.ar n)
 | .app m a b=>m.ar n&&(a.ar n&&b.ar n)
 | .drop m a=>m.ar n&&a.ar n
 | .eK i r a=>i.ar n&&(r.all (Sc.ar n)&&a.ar n)
 | .ite c a b=>c.ar n&&(a.ar n&&b.ar n)
theorem RL.iD {n:Nat} {ρ F:aa} (h:az n ρ F):∀(l:RL) (j:Int),l.ar n=true->l.row ρ j=l.row F j
 | .var l ks,j,hb=>Ab h (by simpa [RL.ar]using hb) _ ks 0
 | .one r,j,hb=>PZ h r hb
 | .app m a b,j,hb=>by
  simp only[RL.ar,Bool.and_eq_true]at hb
  simp only[RL.row,U.aT h m hb.1,RL.iD h a _ hb.2.1,RL.iD h b _ hb.2.2]
 | .drop m a,j,hb=>by
  simp only[RL.ar,Bool.and_eq_true]at hb
  simp only[RL.row,U.aT h m hb.1,RL.iD h a _ hb.2]
 | .eK i r a,j,hb=>by
  simp only[RL.ar,Bool.and_eq_true]at hb
  simp only[RL.row,U.aT h i hb.1,PZ h r hb.2.1,RL.iD h a _ hb.2.2]
 | .ite c a b,j,hb=>by
  simp only[RL.ar,Bool.and_eq_true]at hb
  simp only[RL.row,BE.aT h c hb.1,RL.iD h a _ hb.2.1,RL.iD h b _ hb.2.2]
theorem Yh {n:Nat} {ρ F:aa} (h:az n ρ F) {m:U} {l:RL} (hm:m.ar n=true) (M:l.ar n=true):aV ρ m l=aV F m l:=by
 unfold aV
 rw[U.aT h m hm]
 congr 1
 funext j
 exact RL.iD h l j M
def vK (n:Nat):List Nk->Bool
 | []=>true
 | .f _::ks=>vK n ks
 | .r _ S _::ks=>Nat.blt S n&&vK n ks
theorem Eo {n:Nat} {ρ F:aa} (h:az n ρ F) {l:Nat} (M:l<n) (j:Nat):∀(ks:List Nk) (k:Nat),vK n ks=true->dL ρ l k ks j=dL F l k ks j
 | [],_,_=>rfl
 | .f kd::ks,k,hb=>by
  simp only[dL,Eo h M j ks (k+1) hb]
  congr 1
  cases kd
  ·simp only[rZ,h.ci l M]
  ·simp only[rZ,h.cb l M]
  ·simp only[rZ,h.cs l M]
 | .r z S kk::ks,k,hb=>by
  simp only[vK,Bool.and_eq_true]at hb
  simp only[dL,Eo h M j ks (k+1) hb.2,oJ,h.ci l M]
  congr 2
  congr 1
  funext e
  exact Ab h (by simpa using hb.1) _ kk 0
theorem aqN {n:Nat} {ρ F:aa} (h:az n ρ F) {m:U} {l:Nat} {ks:List Nk} (hm:m.ar n=true) (M:Nat.blt l n=true) (u:vK n ks=true):fS ρ m l ks=fS F m l ks:=by
 unfold fS
 rw[U.aT h m hm]
 congr 1
 funext j
 exact Eo h (by simpa using M) j ks 0 u
theorem Ym {n:Nat} {ρ F:aa} (h:az n ρ F) {z:Nat} {m:U} {t:Nat} (hm:m.ar n=true) (ht:Nat.blt t n=true):bC ρ z m t=bC F z m t:=by
 unfold bC
 rw[U.aT h m hm,h.ct t (by simpa using ht)]
def uo (n:Nat):List (BE×Nat)->Bool
 | []=>true
 | (c,_)::r=>c.ar n&&uo n r
theorem Af {n:Nat} {ρ F:aa} (h:az n ρ F) (d:Nat):∀aG,uo n aG=true->choose ρ aG d=choose F aG d
 | [],_=>rfl
 | (c,o)::r,hb=>by
  simp only[uo,Bool.and_eq_true]at hb
  simp only[choose,BE.aT h c hb.1,Af h d r hb.2]
mutual
def X.ar (n:Nat):X->Bool
 | .top | .k _=>true
 | .sc s=>s.ar n
 | .agg cs | .tup cs=>X.jo n cs
 | .ptr _ aG _=>uo n aG
 | .sl _ _ _ _ _=>true
 | .ip cs aG _=>X.jo n cs&&uo n aG
 | .ro _ D _=>X.z4 n D
 | .rl _ m l _=>m.ar n&&l.ar n
 | .rn _ m l ks _=>m.ar n&&(Nat.blt l n&&vK n ks)
 | .tk _ m t D | .tq _ m t D _=>m.ar n&&(Nat.blt t n&&X.z4 n D)
 | .cJ t _ j=>Nat.blt t n&&j.ar n
 | .fn _ xs ys=>X.jo n xs&&X.jo n ys
 | .gd c x=>c.ar n&&x.ar n
 | .rows _ m l=>m.ar n&&l.ar n
 | .slv _ _ o l _=>o.ar n&&l.ar n
 | .dv _ _ j _=>j.ar n
def X.jo (n:Nat):List X->Bool
 | []=>true
 | x::xs=>x.ar n&&X.jo n xs
def X.z4 (n:Nat):List (List X)->Bool
 | []=>true
 | e::D=>X.jo n e&&X.z4 n D
end
mutual
theorem X.aT {n:Nat} {ρ F:aa} (h:az n ρ F):∀x:X,x.ar n=true->x.I ρ=x.I F
 | .top,_=>rfl
 | .k _,_=>rfl
 | .sc s,hb=>by simp only[X.I,Sc.aT h s hb]
 | .agg cs,hb=>by simp only[X.I,X.fZ h cs hb]
 | .tup cs,hb=>by simp only[X.I,X.fZ h cs hb]
 | .ptr _ aG d,hb=>by simp only[X.I,Af h d aG hb]
 | .sl _ _ _ _ _,_=>rfl
 | .ip cs aG d,hb=>by
  simp only[X.ar,Bool.and_eq_true]at hb
  simp only[X.I,X.fZ h cs hb.1,Af h d aG hb.2]
 | .ro _ D _,hb=>by simp only[X.I,X.Ed h D hb]
 | .rl _ m l _,hb=>by
  simp only[X.ar,Bool.and_eq_true]at hb
  simp only[X.I,Yh h hb.1 hb.2]
 | .rn _ m l ks _,hb=>by
  simp only[X.ar,Bool.and_eq_true]at hb
  simp only[X.I,aqN h hb.1 hb.2.1 hb.2.2]
 | .tk _ _ _ _,_=>rfl
 | .tq _ m t D _,hb=>by
  simp only[X.ar,Bool.and_eq_true]at hb
  simp only[X.I,Ym h hb.1 hb.2.1,X.Ed h D hb.2.2]
 | .cJ t o j,hb=>by
  simp only[X.ar,Bool.and_eq_true]at hb
  simp only[X.I,U.aT h j hb.2,h.ct t (by simpa using hb.1)]
 | .fn _ xs ys,hb=>by
  simp only[X.ar,Bool.and_eq_true]at hb
  simp only[X.I,X.fZ h xs hb.1,X.fZ h ys hb.2]
 | .gd c x,hb=>by
  simp only[X.ar,Bool.and_eq_true]at hb
  simp only[X.I,BE.aT h c hb.1,X.aT h x hb.2]
 | .rows _ _ _,_=>rfl
 | .slv _ _ o l _,hb=>by
  simp only[X.ar,Bool.and_eq_true]at hb
  simp only[X.I,U.aT h o hb.1,U.aT h l hb.2]
 | .dv _ _ j _,hb=>by
  simp only[X.I,U.aT h j hb]
theorem X.fZ {n:Nat} {ρ F:aa} (h:az n ρ F):∀l:List X,X.jo n l=true->X.af ρ l=X.af F l
 | [],_=>rfl
 | x::xs,hb=>by
  simp only[X.jo,Bool.and_eq_true]at hb
  simp only[X.af,X.aT h x hb.1,X.fZ h xs hb.2]
theorem X.Ed {n:Nat} {ρ F:aa} (h:az n ρ F):∀l:List (List X),X.z4 n l=true->X.aX ρ l=X.aX F l
 | [],_=>rfl
 | x::xs,hb=>by
  simp only[X.z4,Bool.and_eq_true]at hb
  simp only[X.aX,X.fZ h x hb.1,X.Ed h xs hb.2]
end
theorem S3 {n:Nat} {ρ F:aa} (h:az n ρ F) (cs:List X) (hb:X.jo n cs=true):aA ρ cs=aA F cs:=by
 unfold aA
 split
 ·simp only[X.jo,X.ar,Bool.and_eq_true]at hb
  simp only[Yh h hb.1.1 hb.1.2]
 ·simp only[X.jo,X.ar,Bool.and_eq_true]at hb
  simp only[Ym h hb.1.1 hb.1.2.1,X.Ed h _ hb.1.2.2]
 ·exact X.fZ h cs hb
def XS.ar (n:Nat) (s:XS):Bool:=s.t.all (fun p=>p.2.ar n)&&s.h.all fun p=>X.jo n p.2
theorem XS.aT {n:Nat} {ρ F:aa} (h:az n ρ F) (s:XS) (hb:s.ar n=true):s.I ρ=s.I F:=by
 simp only[XS.ar,Bool.and_eq_true,List.all_eq_true]at hb
 simp only[XS.I,fm,aO]
 congr 1
 ·exact List.map_congr_left fun p hp=>by rw[X.aT h p.2 (hb.1 p hp)]
 ·exact List.map_congr_left fun p hp=>by rw[S3 h p.2 (hb.2 p hp)]
structure Bind where
 i:List (Nat×U)
 b:List (Nat×BE)
 s:List (Nat×TE)
 r:List (Nat×U×RL)
def be {ao:Type} (k:Nat):List (Nat×ao)->Option ao
 | []=>none
 | (j,v)::r=>if Nat.beq j k=true then some v else be k r
def aH:Option AV->Int
 | some (.sc (.int _ v))=>v
 | _=>0
def dK:Option AV->Bool
 | some (.sc (.bool v))=>v
 | _=>false
def cellS:Option AV->ByteArray
 | some (.sc (.string v))=>v
 | _=>⟨#[]⟩
noncomputable def Bind.ap (β:Bind) (ρ:aa):aa where
 i k:=match be k β.i with | some e=>e.I ρ | none=>ρ.i k
 b k:=match be k β.b with | some e=>e.I ρ | none=>ρ.b k
 s k:=match be k β.s with | some e=>e.I ρ | none=>ρ.s k
 len k:=match be k β.r with | some (n,_)=>(n.I ρ).toNat | none=>ρ.len k
 ci l k j:=match be l β.r with | some (_,r)=>aH (r.row ρ j)[k]? | none=>ρ.ci l k j
 cb l k j:=match be l β.r with | some (_,r)=>dK (r.row ρ j)[k]? | none=>ρ.cb l k j
 cs l k j:=match be l β.r with | some (_,r)=>cellS (r.row ρ j)[k]? | none=>ρ.cs l k j
 ct:=ρ.ct
def kp {ao:Type} (n:Nat):List (Nat×ao)->Bool
 | []=>true
 | (j,_)::r=>Nat.ble n j&&kp n r
theorem qV {ao:Type} {n k:Nat}:∀{l:List (Nat×ao)},kp n l=true->k<n->be k l=none
 | [],_,_=>rfl
 | (j,v)::r,h,u=>by
  simp only[kp,Bool.and_eq_true,Nat.ble_eq]at h
  simp only[be]
  rw[if_neg (by simp;omega)]
  exact qV h.2 u
def Bind.ge (n:Nat) (β:Bind):Bool:=kp n β.i&&(kp n β.b&&(kp n β.s&&kp n β.r))
theorem Bind.bt {n:Nat} {β:Bind} (h:β.ge n=true) (ρ:aa):az n ρ (β.ap ρ):=by
 simp only[Bind.ge,Bool.and_eq_true]at h
 obtain⟨A,E,h3,h4⟩:=h
 refine⟨fun k u => ?_,fun k u => ?_,fun k u => ?_,fun k u => ?_,fun k u => ?_,fun k u => ?_,fun k u => ?_,fun _ _=>rfl⟩
 ·simp only[Bind.ap,qV A u]
 ·simp only[Bind.ap,qV E u]
 ·simp only[Bind.ap,qV h3 u]
 ·simp only[Bind.ap,qV h4 u]
 ·funext a b;simp only[Bind.ap,qV h4 u]
 ·funext a b;simp only[Bind.ap,qV h4 u]
 ·funext a b;simp only[Bind.ap,qV h4 u]
def U.nn:U->Bool
 | .lit n=>decide (0<=n)
 | .len _ | .cB _ | .fD _ _=>true
 | .op .cW _ a b=>a.nn&&b.nn
 | .ite _ a b=>a.nn&&b.nn
 | _=>false
theorem U.kB (ρ:aa):∀e:U,e.nn=true->0<=e.I ρ
 | .lit n,h=>by simpa [U.nn,U.I]using h
 | .len l,_=>by simp only[U.I];omega
 | .cB t,_=>by simp only[U.I];omega
 | .fD t j,_=>by simp only[U.I];omega
 | .op .cW k a b,h=>by
  simp only[U.nn,Bool.and_eq_true]at h
  have A:=U.kB ρ a h.1
  have E:=U.kB ρ b h.2
  simp only[U.I,a7.I];omega
 | .ite c a b,h=>by
  simp only[U.nn,Bool.and_eq_true]at h
  simp only[U.I]
  split
  ·exact U.kB ρ a h.1
  ·exact U.kB ρ b h.2
def PY:Kd->Sc->Bool
 | .i k,.i k' _=>ml k k'
 | .b,.b _=>true
 | .s,.s _=>true
 | _,_=>false
def ry:List Kd->List Sc->Bool
 | [],[]=>true
 | k::ks,s::ss=>PY k s&&ry ks ss
 | _,_=>false
def RL.kd (ks:List Kd):RL->Bool
 | .var _ li=>jB yl ks li
 | .one r=>ry ks r
 | .app _ a b=>a.kd ks&&b.kd ks
 | .drop _ a=>a.kd ks
 | .eK _ r a=>ry ks r&&a.kd ks
 | .ite _ a b=>a.kd ks&&b.kd ks
def jT:List Kd->List AV->Prop
 | [],l=>l=[]
 | .i k::ks,l=>∃v r,l = .sc (.int k v)::r/\jT ks r
 | .b::ks,l=>∃v r,l = .sc (.bool v)::r/\jT ks r
 | .s::ks,l=>∃v r,l = .sc (.string v)::r/\jT ks r
theorem CS {ρ:aa}:∀{ks:List Kd} {r:List Sc},ry ks r=true->jT ks (ca ρ r)
 | [],[],_=>rfl
 | [],_::_,h=>by cases h
 | _::_,[],h=>by simp[ry]at h
 | k::ks,s::r,h=>by
  simp only[ry,Bool.and_eq_true]at h
  have ih:=CS (ρ:=ρ) h.2
  have A:=h.1
  cases k<;>cases s<;>simp only[PY,Bool.false_eq_true]at A
  ·rw[om A];exact⟨_,_,rfl,ih⟩
  ·exact⟨_,_,rfl,ih⟩
  ·exact⟨_,_,rfl,ih⟩
theorem Ep (ρ:aa) (l j:Nat):∀(ks:List Kd) (k:Nat),jT ks (bH ρ l k ks j)
 | [],_=>rfl
 | .i _::ks,k=>⟨_,_,rfl,Ep ρ l j ks (k+1)⟩
 | .b::ks,k=>⟨_,_,rfl,Ep ρ l j ks (k+1)⟩
 | .s::ks,k=>⟨_,_,rfl,Ep ρ l j ks (k+1)⟩
theorem RL.qR {ρ:aa} {ks:List Kd}:∀{l:RL} {j:Int},l.kd ks=true->jT ks (l.row ρ j)
 | .var l li,j,h=>by
  have:=mn (fun _ _=>F3) h
  subst this
  exact Ep ρ l _ _ 0
 | .one r,j,h=>CS h
 | .app n a b,j,h=>by
  simp only[RL.kd,Bool.and_eq_true]at h
  simp only[RL.row]
  split
  ·exact RL.qR h.1
  ·exact RL.qR h.2
 | .drop n a,j,h=>by simp only[RL.row];exact RL.qR (l:=a) h
 | .eK i r a,j,h=>by
  simp only[RL.kd,Bool.and_eq_true]at h
  simp only[RL.row]
  split
  ·exact CS h.1
  ·exact RL.qR h.2
 | .ite c a b,j,h=>by
  simp only[RL.kd,Bool.and_eq_true]at h
  simp only[RL.row]
  split
  ·exact RL.qR h.1
  ·exact RL.qR h.2
theorem Et {ρ F:aa} {l j:Nat} {row:List AV} (hi:∀k,F.ci l k j=aH row[k]?) (hb:∀k,F.cb l k j=dK row[k]?) (hs:∀k,F.cs l k j=cellS row[k]?) :
  ∀(ks:List Kd) (k:Nat) (tl:List AV),(∀i,tl[i]? = row[k+i]?)->jT ks tl->bH F l k ks j=tl
 | [],k,tl,_,h=>by simp only[jT]at h;subst h;rfl
 | .i K::ks,k,tl,ht,h=>by
  obtain⟨v,r,rfl,h⟩:=h
  have h0:=ht 0
  simp only[List.getElem?_cons_zero,Nat.add_zero]at h0
  simp only[bH,hi,<-h0,aH,Et (ρ:=ρ) hi hb hs ks (k+1) r (fun i=>by have:=ht (i+1);rw[List.getElem?_cons_succ]at this;rw[this];congr 1;omega) h]
 | .b::ks,k,tl,ht,h=>by
  obtain⟨v,r,rfl,h⟩:=h
  have h0:=ht 0
  simp only[List.getElem?_cons_zero,Nat.add_zero]at h0
  simp only[bH,hb,<-h0,dK,Et (ρ:=ρ) hi hb hs ks (k+1) r (fun i=>by have:=ht (i+1);rw[List.getElem?_cons_succ]at this;rw[this];congr 1;omega) h]
 | .s::ks,k,tl,ht,h=>by
  obtain⟨v,r,rfl,h⟩:=h
  have h0:=ht 0
  simp only[List.getElem?_cons_zero,Nat.add_zero]at h0
  simp only[bH,hs,<-h0,cellS,Et (ρ:=ρ) hi hb hs ks (k+1) r (fun i=>by have:=ht (i+1);rw[List.getElem?_cons_succ]at this;rw[this];congr 1;omega) h]
theorem Bind.rows {β:Bind} {ρ:aa} {l:Nat} {n:U} {r:RL} {ks:List Kd} (h:be l β.r=some (n,r)) (u:r.kd ks=true) (j:Nat):bH (β.ap ρ) l 0 ks j=r.row ρ j :=
 Et (ρ:=ρ) (row:=r.row ρ j) (fun k=>by simp only[Bind.ap,h]) (fun k=>by simp only[Bind.ap,h]) (fun k=>by simp only[Bind.ap,h]) ks 0 _ (fun i=>by rw[Nat.zero_add]) (RL.qR u)
end Go.Proofs.Xw
namespace Go.Proofs.Xw
open Go Go.Proofs.Aw
def A5 (r:RL) (j:U) (k:Nat):Option Sc:=if j.nn=true then(match r.get j with
 | some row=>row[k]?
 | none=>none)else none
theorem LH {ρ:aa} {r:RL} {j:U} {k:Nat} {s:Sc} (h:A5 r j k=some s):(r.row ρ ((j.I ρ).toNat:Nat))[k]? = some (.sc (s.I ρ)):=by
 unfold A5 at h
 split at h
 ·rename_i hn
  have hn:=U.kB ρ j hn
  split at h
  ·rename_i row hr
   rw[Int.toNat_of_nonneg hn,<-RL.o_ hr]
   unfold ca
   rw[List.getElem?_map,h];rfl
  ·cases h
 ·cases h
theorem Sj {β:Bind} {ρ:aa} {l:Nat} (G:be l β.r=none) (j:Nat):∀(ks:List Kd) (k:Nat),bH (β.ap ρ) l k ks j=bH ρ l k ks j
 | [],_=>rfl
 | kd::ks,k=>by
  have e1:∀k,(β.ap ρ).ci l k j=ρ.ci l k j/\(β.ap ρ).cb l k j=ρ.cb l k j/\(β.ap ρ).cs l k j=ρ.cs l k j:=fun k=>by simp only[Bind.ap,G,and_self]
  cases kd<;>simp only[bH,Sj G j ks (k+1),(e1 k).1,(e1 k).2.1,(e1 k).2.2]
def o2 {ao β mp:Type} (f:ao->β->mp):Option ao->Option β->Option mp
 | some a,some b=>some (f a b)
 | _,_=>none
theorem kC {ao β mp:Type} {f:ao->β->mp} {x:Option ao} {y:Option β} {c:mp} (h:o2 f x y=some c):∃a b,x=some a/\y=some b/\c=f a b:=by
 unfold o2 at h
 split at h
 ·cases h;exact⟨_,_,rfl,rfl,rfl⟩
 ·cases h
mutual
def e5 (β:Bind):U->Option U
 | .lit n=>some (.lit n)
 | .var k=>match be k β.i with
  | some e=>some e
  | none=>some (.var k)
 | .len l=>match be l β.r with
  | some (m,_)=>if m.nn=true then some m else none
  | none=>some (.len l)
 | .cl l k j=>match e5 β j with
  | some j=>(match be l β.r with
   | some (_,r)=>(match A5 r j k with
    | some (.i _ e)=>some e
    | _=>none)
   | none=>some (.cl l k j))
  | none=>none
 | .cB t=>match jJ β t with
  | some t=>some (.cB t)
  | none=>none
 | .fD t j=>o2 U.fD (jJ β t) (e5 β j)
 | .op o k a b=>o2 (U.op o k) (e5 β a) (e5 β b)
 | .ite c a b=>match ft β c with
  | some c=>o2 (U.ite c) (e5 β a) (e5 β b)
  | none=>none
 | .uf k j a=>match rm β a with
  | some a=>some (.uf k j a)
  | none=>none
def rm (β:Bind):AL->Option AL
 | .nil=>some .nil
 | .i e r=>o2 AL.i (e5 β e) (rm β r)
 | .b e r=>o2 AL.b (ft β e) (rm β r)
 | .s e r=>o2 AL.s (jJ β e) (rm β r)
def ft (β:Bind):BE->Option BE
 | .lit b=>some (.lit b)
 | .var k=>match be k β.b with
  | some e=>some e
  | none=>some (.var k)
 | .cl l k j=>match e5 β j with
  | some j=>(match be l β.r with
   | some (_,r)=>(match A5 r j k with
    | some (.b e)=>some e
    | _=>none)
   | none=>some (.cl l k j))
  | none=>none
 | .lt a b=>o2 BE.lt (e5 β a) (e5 β b)
 | .eq a b=>o2 BE.eq (e5 β a) (e5 β b)
 | .seq a b=>o2 BE.seq (jJ β a) (jJ β b)
 | .slt a b=>o2 BE.slt (jJ β a) (jJ β b)
 | .not a=>match ft β a with
  | some a=>some (.not a)
  | none=>none
 | .and a b=>o2 BE.and (ft β a) (ft β b)
 | .or a b=>o2 BE.or (ft β a) (ft β b)
 | .ite c a b=>match ft β c with
  | some c=>o2 (BE.ite c) (ft β a) (ft β b)
  | none=>none
def jJ (β:Bind):TE->Option TE
 | .lit s=>some (.lit s)
 | .var k=>match be k β.s with
  | some e=>some e
  | none=>some (.var k)
 | .cl l k j=>match e5 β j with
  | some j=>(match be l β.r with
   | some (_,r)=>(match A5 r j k with
    | some (.s e)=>some e
    | _=>none)
   | none=>some (.cl l k j))
  | none=>none
 | .sub t a b=>match jJ β t with
  | some t=>o2 (TE.sub t) (e5 β a) (e5 β b)
  | none=>none
 | .ite c a b=>match ft β c with
  | some c=>o2 (TE.ite c) (jJ β a) (jJ β b)
  | none=>none
end
mutual
theorem hX {β:Bind} {ρ:aa}:∀{e e':U},e5 β e=some e'->e'.I ρ=e.I (β.ap ρ)
 | .lit n,e',h=>by simp only[e5,Option.some.injEq]at h;subst h;rfl
 | .var k,e',h=>by
  simp only[e5]at h
  split at h
  ·rename_i G
   cases h;simp only[U.I,Bind.ap,G]
  ·rename_i G
   cases h;simp only[U.I,Bind.ap,G]
 | .len l,e',h=>by
  simp only[e5]at h
  split at h
  ·rename_i G
   split at h
   ·rename_i hn
    cases h
    have:=U.kB ρ _ hn
    simp only[U.I,Bind.ap,G]
    omega
   ·cases h
  ·rename_i G
   cases h;simp only[U.I,Bind.ap,G]
 | .cl l k j,e',h=>by
  simp only[e5]at h
  split at h
  ·rename_i O
   split at h
   ·rename_i G
    split at h
    ·rename_i Z
     cases h
     have:=LH (ρ:=ρ) Z
     rw[hX O]at this
     simp only[U.I,Bind.ap,G]
     simp only[Bind.ap]at this
     rw[this];rfl
    ·cases h
   ·rename_i G
    cases h
    simp only[U.I,hX O]
    simp only[Bind.ap,G]
  ·cases h
 | .cB t,e',h=>by
  simp only[e5]at h
  split at h
  ·rename_i ht
   cases h;simp only[U.I,pM ht]
  ·cases h
 | .fD t j,e',h=>by
  simp only[e5]at h
  obtain⟨a,b,A,E,rfl⟩:=kC h
  simp only[U.I,pM A,hX E]
 | .op o k x y,e',h=>by
  simp only[e5]at h
  obtain⟨a,b,A,E,rfl⟩:=kC h
  simp only[U.I,hX A,hX E]
 | .ite c x y,e',h=>by
  simp only[e5]at h
  split at h
  ·rename_i H
   obtain⟨a,b,A,E,rfl⟩:=kC h
   simp only[U.I,nr H,hX A,hX E]
  ·cases h
 | .uf k j a,e',h=>by
  simp only[e5]at h
  split at h
  ·rename_i ha
   cases h;simp only[U.I,Ht ha]
  ·cases h
theorem Ht {β:Bind} {ρ:aa}:∀{e e':AL},rm β e=some e'->e'.I ρ=e.I (β.ap ρ)
 | .nil,e',h=>by simp only[rm,Option.some.injEq]at h;subst h;rfl
 | .i x r,e',h=>by
  simp only[rm]at h
  obtain⟨a,b,A,E,rfl⟩:=kC h
  simp only[AL.I,hX A,Ht E]
 | .b x r,e',h=>by
  simp only[rm]at h
  obtain⟨a,b,A,E,rfl⟩:=kC h
  simp only[AL.I,nr A,Ht E]
 | .s x r,e',h=>by
  simp only[rm]at h
  obtain⟨a,b,A,E,rfl⟩:=kC h
  simp only[AL.I,pM A,Ht E]
theorem nr {β:Bind} {ρ:aa}:∀{e e':BE},ft β e=some e'->e'.I ρ=e.I (β.ap ρ)
 | .lit b,e',h=>by simp only[ft,Option.some.injEq]at h;subst h;rfl
 | .var k,e',h=>by
  simp only[ft]at h
  split at h
  ·rename_i G
   cases h;simp only[BE.I,Bind.ap,G]
  ·rename_i G
   cases h;simp only[BE.I,Bind.ap,G]
 | .cl l k j,e',h=>by
  simp only[ft]at h
  split at h
  ·rename_i O
   split at h
   ·rename_i G
    split at h
    ·rename_i Z
     cases h
     have:=LH (ρ:=ρ) Z
     rw[hX O]at this
     simp only[BE.I,Bind.ap,G]
     simp only[Bind.ap]at this
     rw[this];rfl
    ·cases h
   ·rename_i G
    cases h
    simp only[BE.I,hX O]
    simp only[Bind.ap,G]
  ·cases h
 | .lt x y,e',h=>by
  simp only[ft]at h
  obtain⟨a,b,A,E,rfl⟩:=kC h
  simp only[BE.I,hX A,hX E]
 | .eq x y,e',h=>by
  simp only[ft]at h
  obtain⟨a,b,A,E,rfl⟩:=kC h
  simp only[BE.I,hX A,hX E]
 | .seq x y,e',h=>by
  simp only[ft]at h
  obtain⟨a,b,A,E,rfl⟩:=kC h
  simp only[BE.I,pM A,pM E]
 | .slt x y,e',h=>by
  simp only[ft]at h
  obtain⟨a,b,A,E,rfl⟩:=kC h
  simp only[BE.I,pM A,pM E]
 | .not x,e',h=>by
  simp only[ft]at h
  split at h
  ·rename_i hx
   cases h;simp only[BE.I,nr hx]
  ·cases h
 | .and x y,e',h=>by
  simp only[ft]at h
  obtain⟨a,b,A,E,rfl⟩:=kC h
  simp only[BE.I,nr A,nr E]
 | .or x y,e',h=>by
  simp only[ft]at h
  obtain⟨a,b,A,E,rfl⟩:=kC h
  simp only[BE.I,nr A,nr E]
 | .ite c x y,e',h=>by
  simp only[ft]at h
  split at h
  ·rename_i H
   obtain⟨a,b,A,E,rfl⟩:=kC h
   simp only[BE.I,nr H,nr A,nr E]
  ·cases h
theorem pM {β:Bind} {ρ:aa}:∀{e e':TE},jJ β e=some e'->e'.I ρ=e.I (β.ap ρ)
 | .lit s,e',h=>by simp only[jJ,Option.some.injEq]at h;subst h;rfl
 | .var k,e',h=>by
  simp only[jJ]at h
  split at h
  ·rename_i G
   cases h;simp only[TE.I,Bind.ap,G]
  ·rename_i G
   cases h;simp only[TE.I,Bind.ap,G]
 | .cl l k j,e',h=>by
  simp only[jJ]at h
  split at h
  ·rename_i O
   split at h
   ·rename_i G
    split at h
    ·rename_i Z
     cases h
     have:=LH (ρ:=ρ) Z
     rw[hX O]at this
     simp only[TE.I,Bind.ap,G]
     simp only[Bind.ap]at this
     rw[this];rfl
    ·cases h
   ·rename_i G
    cases h
    simp only[TE.I,hX O]
    simp only[Bind.ap,G]
  ·cases h
 | .sub t x y,e',h=>by
  simp only[jJ]at h
  split at h
  ·rename_i ht
   obtain⟨a,b,A,E,rfl⟩:=kC h
   simp only[TE.I,pM ht,hX A,hX E]
  ·cases h
 | .ite c x y,e',h=>by
  simp only[jJ]at h
  split at h
  ·rename_i H
   obtain⟨a,b,A,E,rfl⟩:=kC h
   simp only[TE.I,nr H,pM A,pM E]
  ·cases h
end
def gk (n:Nat) (β:Bind) (p e:U):Bool :=
 match p with
 | .uf k j a=>match e5 β (.uf k j a)with
  | some e'=>e'.beq e
  | none=>false
 | .var v=>if Nat.ble n v=true then(match be v β.i with | some e'=>e'.beq e | none=>e.beq (.var v))else e.beq (.var v)
 | .len l=>if Nat.ble n l=true then(match be l β.r with | some (m,_)=>m.beq e&&m.nn | none=>e.beq (.len l))else e.beq (.len l)
 | p=>p.ar n&&p.beq e
def okB (n:Nat) (β:Bind) (p e:BE):Bool :=
 match p with
 | .var v=>if Nat.ble n v=true then(match be v β.b with | some e'=>e'.beq e | none=>e.beq (.var v))else e.beq (.var v)
 | p=>p.ar n&&p.beq e
def OP (n:Nat) (β:Bind) (p e:TE):Bool :=
 match p with
 | .var v=>if Nat.ble n v=true then(match be v β.s with | some e'=>e'.beq e | none=>e.beq (.var v))else e.beq (.var v)
 | p=>p.ar n&&p.beq e
section
variable {n:Nat} {β:Bind} (Z:β.ge n=true) {ρ:aa}
include Z
theorem kD {p e:U} (h:gk n β p e=true):p.I (β.ap ρ)=e.I ρ:=by
 unfold gk at h
 split at h
 ·split at h
  ·rename_i e' G
   rw[<-U.beq_eq _ _ h,hX G]
  ·cases h
 ·rename_i v
  split at h
  ·split at h
   ·rename_i e' G
    rw[<-U.beq_eq _ _ h]
    simp only[U.I,Bind.ap,G]
   ·rename_i G
    rw[U.beq_eq _ _ h]
    simp only[U.I,Bind.ap,G]
  ·rename_i R
   rw[U.beq_eq _ _ h]
   exact((Bind.bt Z ρ).i v (by simpa using R)).symm
 ·rename_i l
  split at h
  ·split at h
   ·rename_i m r G
    simp only[Bool.and_eq_true]at h
    rw[<-U.beq_eq _ _ h.1]
    have:=U.kB ρ m h.2
    simp only[U.I,Bind.ap,G]
    omega
   ·rename_i G
    rw[U.beq_eq _ _ h]
    simp only[U.I,Bind.ap,G]
  ·rename_i R
   rw[U.beq_eq _ _ h]
   simp only[U.I,(Bind.bt Z ρ).len l (by simpa using R)]
 ·simp only[Bool.and_eq_true]at h
  rw[<-U.beq_eq _ _ h.2]
  exact(U.aT (Bind.bt Z ρ) _ h.1).symm
theorem Cp {p e:BE} (h:okB n β p e=true):p.I (β.ap ρ)=e.I ρ:=by
 unfold okB at h
 split at h
 ·rename_i v
  split at h
  ·split at h
   ·rename_i e' G
    rw[<-BE.beq_eq _ _ h]
    simp only[BE.I,Bind.ap,G]
   ·rename_i G
    rw[BE.beq_eq _ _ h]
    simp only[BE.I,Bind.ap,G]
  ·rename_i R
   rw[BE.beq_eq _ _ h]
   exact((Bind.bt Z ρ).b v (by simpa using R)).symm
 ·simp only[Bool.and_eq_true]at h
  rw[<-BE.beq_eq _ _ h.2]
  exact(BE.aT (Bind.bt Z ρ) _ h.1).symm
theorem akU {p e:TE} (h:OP n β p e=true):p.I (β.ap ρ)=e.I ρ:=by
 unfold OP at h
 split at h
 ·rename_i v
  split at h
  ·split at h
   ·rename_i e' G
    rw[<-TE.beq_eq _ _ h]
    simp only[TE.I,Bind.ap,G]
   ·rename_i G
    rw[TE.beq_eq _ _ h]
    simp only[TE.I,Bind.ap,G]
  ·rename_i R
   rw[TE.beq_eq _ _ h]
   exact((Bind.bt Z ρ).s v (by simpa using R)).symm
 ·simp only[Bool.and_eq_true]at h
  rw[<-TE.beq_eq _ _ h.2]
  exact(TE.aT (Bind.bt Z ρ) _ h.1).symm
end
def OM (n:Nat) (β:Bind):Sc->Sc->Bool
 | .i k p,.i k' e=>ml k k'&&gk n β p e
 | .b p,.b e=>okB n β p e
 | .s p,.s e=>OP n β p e
 | .f p z,.f e y=>gk n β p e&&okB n β z y
 | .c p z q w,.c e y d v=>gk n β p e&&(okB n β z y&&(gk n β q d&&okB n β w v))
 | _,_=>false
theorem akQ {n:Nat} {β:Bind} (Z:β.ge n=true) {ρ:aa} {p e:Sc} (h:OM n β p e=true):p.I (β.ap ρ)=e.I ρ:=by
 unfold OM at h
 split at h
 ·simp only[Bool.and_eq_true]at h
  simp only[Sc.I,om h.1,kD Z h.2]
 ·simp only[Sc.I,Cp Z h]
 ·simp only[Sc.I,akU Z h]
 ·simp only[Bool.and_eq_true]at h
  simp only[Sc.I,kD Z h.1,Cp Z h.2]
 ·simp only[Bool.and_eq_true]at h
  simp only[Sc.I,kD Z h.1,Cp Z h.2.1,kD Z h.2.2.1,Cp Z h.2.2.2]
 ·cases h
def yM (n:Nat) (β:Bind) (p e:RL):Bool :=
 match p with
 | .var l ks=>if Nat.ble n l=true then(match be l β.r with | some (_,r)=>r.beq e&&r.kd ks | none=>e.beq (.var l ks))else e.beq (.var l ks)
 | p=>p.ar n&&p.beq e
theorem akT {n:Nat} {β:Bind} (Z:β.ge n=true) {ρ:aa} {p e:RL} (h:yM n β p e=true) (j:Nat):p.row (β.ap ρ) j=e.row ρ j:=by
 unfold yM at h
 split at h
 ·rename_i l ks
  split at h
  ·split at h
   ·rename_i m r G
    simp only[Bool.and_eq_true]at h
    rw[<-RL.beq_eq h.1]
    simp only[RL.row,Int.toNat_natCast]
    exact Bind.rows G h.2 j
   ·rename_i G
    rw[RL.beq_eq h]
    simp only[RL.row]
    exact Sj G _ ks 0
  ·rename_i R
   rw[RL.beq_eq h]
   exact(RL.iD (Bind.bt Z ρ) (.var l ks) j (by simp only[RL.ar];simpa using R)).symm
 ·simp only[Bool.and_eq_true]at h
  rw[<-RL.beq_eq h.2]
  exact(RL.iD (Bind.bt Z ρ) _ j h.1).symm
theorem OO {n:Nat} {β:Bind} (Z:β.ge n=true) {ρ:aa} {m m':U} {p e:RL} (hm:gk n β m m'=true) (h:yM n β p e=true):aV (β.ap ρ) m p=aV ρ m' e:=by
 unfold aV
 rw[kD Z hm]
 congr 1
 funext j
 exact akT Z h j
def G8 (n:Nat) (β:Bind) (m:U) (p:RL) (D:List (List X)):Bool :=
 gk n β m (.lit D.length)&&match D with
  | []=>true
  | D=>match oQ D with
   | some e=>yM n β p e
   | none=>false
theorem Xk {n:Nat} {β:Bind} (Z:β.ge n=true) {ρ:aa} {m:U} {p:RL} {D:List (List X)} (h:G8 n β m p D=true):aV (β.ap ρ) m p=X.aX ρ D:=by
 unfold G8 at h
 simp only[Bool.and_eq_true]at h
 obtain⟨A,E⟩:=h
 split at E
 ·have:=kD Z (ρ:=ρ) A
  simp only[U.I,List.length_nil]at this
  simp[aV,this,X.aX]
 ·split at E
  ·rename_i e G
   rw[OO Z A E,Iy G]
  ·cases E
mutual
def fN (n:Nat) (β:Bind) (aE:Nm->Nm):X->X->Bool
 | .sc p,.sc e=>OM n β p e
 | .agg cs,.agg ds=>nj n β aE cs ds
 | .tup cs,.tup ds=>nj n β aE cs ds
 | .sl a z o l w,.sl bz z' o' l' w'=>cN (aE a) bz&&(Nat.beq z z'&&(Nat.beq o o'&&(Nat.beq l l'&&w==w')))
 | .slv a z o l w,.slv bz z' o' l' w'=>cN (aE a) bz&&(Nat.beq z z'&&(gk n β o o'&&(gk n β l l'&&w==w')))
 | .slv a z o l w,.sl bz z' o' l' w'=>cN (aE a) bz&&(Nat.beq z z'&&(gk n β o (.lit 0)&&(Nat.beq o' 0&&(gk n β l (.lit l')&&w==w'))))
 | .ptr a aG d,.ptr bz t6 fE=>cN (aE a) bz&&(Nat.beq d fE&&(uo n aG&&jB wY aG t6))
 | .dv a z j o,.dv bz z' j' o'=>cN (aE a) bz&&(Nat.beq z z'&&(gk n β j j'&&Nat.beq o o'))
 | .rl z m l f,.rl z' m' l' f'=>Nat.beq z z'&&(f==f'&&(gk n β m m'&&yM n β l l'))
 | .rl z m l f,.ro z' D f'=>Nat.beq z z'&&(f==f'&&G8 n β m l D)
 | .rn z m l ks f,.rn z' m' l' li f'=>Nat.beq z z'&&(f==f'&&(gk n β m m'&&(Nat.beq l l'&&(jB GJ ks li&&(Nat.blt l n&&vK n ks)))))
 | .ro z D f,.ro z' bi f'=>Nat.beq z z'&&(f==f'&&vR n β aE D bi)
 | .ip cs aG d,.ip bn t6 fE=>nj n β aE cs bn&&(Nat.beq d fE&&(uo n aG&&jB wY aG t6))
 | .fn f xs ys,.fn f' v6 wl=>E7 f f'&&(nj n β aE xs v6&&nj n β aE ys wl)
 | .gd c x,.gd dx Q5=>okB n β c dx&&fN n β aE x Q5
 | .k v,.k v'=>zu v v'
 | .tq z m t D f,.tq z' m' t' bi f'=>Nat.beq z z'&&(f==f'&&(gk n β m m'&&(Nat.beq t t'&&vR n β aE D bi)))
 | .cJ t k j,.cJ t' k' j'=>Nat.beq t t'&&(Nat.beq k k'&&gk n β j j')
 | .top,.top=>true
 | _,_=>false
def nj (n:Nat) (β:Bind) (aE:Nm->Nm):List X->List X->Bool
 | [],[]=>true
 | a::aG,b::bs=>fN n β aE a b&&nj n β aE aG bs
 | _,_=>false
def vR (n:Nat) (β:Bind) (aE:Nm->Nm):List (List X)->List (List X)->Bool
 | [],[]=>true
 | a::aG,b::bs=>nj n β aE a b&&vR n β aE aG bs
 | _,_=>false
end
theorem Yl {n:Nat} {β:Bind} (Z:β.ge n=true) {ρ:aa} {z t:Nat} {m m':U} (h:gk n β m m'=true):bC (β.ap ρ) z m t=bC ρ z m' t:=by
 unfold bC
 rw[kD Z h]
 rfl
theorem X0 (aE:Nm->Nm) (ρ:aa) (n:U) (l:RL):Aw.dD aE (aV ρ n l)=aV ρ n l:=pN aE _ ra
mutual
theorem G' {n:Nat} {β:Bind} (Z:β.ge n=true) {aE:Nm->Nm} {ρ:aa}:∀(p e:X),fN n β aE p e=true->e.I ρ=Aw.aW aE (p.I (β.ap ρ))
 | .sc p,e,h=>by
  cases e<;>simp only[fN,Bool.false_eq_true]at h
  simp only[X.I,Aw.aW,akQ Z h]
 | .agg cs,e,h=>by
  cases e<;>simp only[fN,Bool.false_eq_true]at h
  simp only[X.I,Aw.aW,tc Z _ _ h]
 | .tup cs,e,h=>by
  cases e<;>simp only[fN,Bool.false_eq_true]at h
  simp only[X.I,Aw.aW,tc Z _ _ h]
 | .sl a z o l w,e,h=>by
  cases e<;>simp only[fN,Bool.false_eq_true]at h
  simp only[Bool.and_eq_true,beq_iff_eq]at h
  obtain⟨A,E,h3,h4,h5⟩:=h
  simp only[X.I,Aw.aW,eu A,Nat.eq_of_beq_eq_true E,Nat.eq_of_beq_eq_true h3,Nat.eq_of_beq_eq_true h4,h5]
 | .slv a z o l w,e,h=>by
  cases e<;>simp only[fN,Bool.false_eq_true]at h
  ·simp only[Bool.and_eq_true,beq_iff_eq]at h
   obtain⟨A,E,h3,h4,h5,h6⟩:=h
   have h3:=kD Z (ρ:=ρ) h3
   have h5:=kD Z (ρ:=ρ) h5
   simp only[U.I]at h5 h3
   simp only[X.I,Aw.aW,eu A,Nat.eq_of_beq_eq_true E,Nat.eq_of_beq_eq_true h4,h5,h6,h3,Int.toNat_zero,Nat.zero_mul,Int.toNat_natCast]
  ·simp only[Bool.and_eq_true,beq_iff_eq]at h
   obtain⟨A,E,h3,h4,h5⟩:=h
   simp only[X.I,Aw.aW,eu A,Nat.eq_of_beq_eq_true E,kD Z h3,kD Z h4,h5]
 | .ptr a aG d,e,h=>by
  cases e<;>simp only[fN,Bool.false_eq_true]at h
  simp only[Bool.and_eq_true]at h
  obtain⟨A,E,h3,h4⟩:=h
  simp only[X.I,Aw.aW,eu A,Nat.eq_of_beq_eq_true E,mn z0 h4]
  rw[<-mn z0 h4,Af (Bind.bt Z ρ) _ aG h3]
 | .dv a z j o,e,h=>by
  cases e<;>simp only[fN,Bool.false_eq_true]at h
  simp only[Bool.and_eq_true]at h
  obtain⟨A,E,h3,h4⟩:=h
  simp only[X.I,Aw.aW,eu A,Nat.eq_of_beq_eq_true E,kD Z h3,Nat.eq_of_beq_eq_true h4]
 | .rl z m l f,e,h=>by
  cases e<;>simp only[fN,Bool.false_eq_true]at h
  ·simp only[Bool.and_eq_true,beq_iff_eq]at h
   obtain⟨A,E,h3⟩:=h
   simp only[X.I,Aw.aW,X0,Nat.eq_of_beq_eq_true A,E]
   rw[Xk Z h3]
  ·simp only[Bool.and_eq_true,beq_iff_eq]at h
   obtain⟨A,E,h3,h4⟩:=h
   simp only[X.I,Aw.aW,X0,OO Z h3 h4,Nat.eq_of_beq_eq_true A,E]
 | .ro z D f,e,h=>by
  cases e<;>simp only[fN,Bool.false_eq_true]at h
  simp only[Bool.and_eq_true,beq_iff_eq]at h
  obtain⟨A,E,h3⟩:=h
  simp only[X.I,Aw.aW,Nat.eq_of_beq_eq_true A,E,OQ Z _ _ h3]
 | .ip cs aG d,e,h=>by
  cases e<;>simp only[fN,Bool.false_eq_true]at h
  simp only[Bool.and_eq_true]at h
  obtain⟨A,E,h3,h4⟩:=h
  simp only[X.I,Aw.aW,tc Z _ _ A,Nat.eq_of_beq_eq_true E]
  rw[<-mn z0 h4,Af (Bind.bt Z ρ) _ aG h3]
 | .fn f xs ys,e,h=>by
  cases e<;>simp only[fN,Bool.false_eq_true]at h
  simp only[Bool.and_eq_true]at h
  obtain⟨A,E,h3⟩:=h
  simp only[X.I,Aw.aW,T9 A,tc Z _ _ E,tc Z _ _ h3]
 | .gd c x,e,h=>by
  cases e<;>simp only[fN,Bool.false_eq_true]at h
  simp only[Bool.and_eq_true]at h
  obtain⟨A,E⟩:=h
  simp only[X.I,Cp Z A,G' Z _ _ E]
  split<;>rfl
 | .k v,e,h=>by
  cases e<;>simp only[fN,Bool.false_eq_true]at h
  simp only[X.I,Aw.aW,QQ h]
 | .top,e,h=>by
  cases e<;>simp only[fN,Bool.false_eq_true]at h
  rfl
 | .rows _ _ _,e,h=>by cases e<;>simp only[fN,Bool.false_eq_true]at h
 | .rn z m l ks f,e,h=>by
  cases e<;>simp only[fN,Bool.false_eq_true]at h
  simp only[Bool.and_eq_true,beq_iff_eq]at h
  obtain⟨A,E,h3,h4,h5,h6,h7⟩:=h
  have e1:=Nat.eq_of_beq_eq_true A
  have e4:=Nat.eq_of_beq_eq_true h4
  have iG:=mn (fun _ _=>WI) h5
  subst e1 E e4 iG
  have hr:∀m',gk n β m m'=true->fS (β.ap ρ) m l ks=fS ρ m' l ks:=fun m' hm=>by
   unfold fS
   rw[kD Z hm]
   congr 1
   funext j
   exact(Eo (Bind.bt Z ρ) (by simpa using h6) j ks 0 h7).symm
  simp only[X.I,Aw.aW,hr _ h3]
  rw[pN aE _ GO]
 | .tk _ _ _ _,e,h=>by cases e<;>simp only[fN,Bool.false_eq_true]at h
 | .tq z m t D f,e,h=>by
  cases e<;>simp only[fN,Bool.false_eq_true]at h
  simp only[Bool.and_eq_true,beq_iff_eq]at h
  obtain⟨A,E,h3,h4,h5⟩:=h
  have e1:=Nat.eq_of_beq_eq_true A
  have e4:=Nat.eq_of_beq_eq_true h4
  subst e1 E e4
  simp only[X.I,Aw.aW,HD,OQ Z _ _ h5]
  rw[pN aE _ rb,Yl Z h3]
 | .cJ t k j,e,h=>by
  cases e<;>simp only[fN,Bool.false_eq_true]at h
  simp only[Bool.and_eq_true]at h
  obtain⟨A,E,h3⟩:=h
  have e1:=Nat.eq_of_beq_eq_true A
  have e2:=Nat.eq_of_beq_eq_true E
  subst e1 e2
  simp only[X.I,kD Z h3]
  exact(y6 aE _ (ρ.ct _ _ _).2.1).symm
theorem tc {n:Nat} {β:Bind} (Z:β.ge n=true) {aE:Nm->Nm} {ρ:aa}:∀(p e:List X),nj n β aE p e=true->X.af ρ e=Aw.bu aE (X.af (β.ap ρ) p)
 | [],[],_=>rfl
 | [],_::_,h=>by simp[nj]at h
 | _::_,[],h=>by simp[nj]at h
 | a::aG,b::bs,h=>by
  simp only[nj,Bool.and_eq_true]at h
  simp only[X.af,Aw.bu,G' Z a b h.1,tc Z aG bs h.2]
theorem OQ {n:Nat} {β:Bind} (Z:β.ge n=true) {aE:Nm->Nm} {ρ:aa}:∀(p e:List (List X)),vR n β aE p e=true->X.aX ρ e=Aw.dD aE (X.aX (β.ap ρ) p)
 | [],[],_=>rfl
 | [],_::_,h=>by simp[vR]at h
 | _::_,[],h=>by simp[vR]at h
 | a::aG,b::bs,h=>by
  simp only[vR,Bool.and_eq_true]at h
  simp only[X.aX,Aw.dD,tc Z a b h.1,OQ Z aG bs h.2]
end
def Cq (n:Nat) (β:Bind) (aE:Nm->Nm) (p e:List X):Bool :=
 match p with
 | [.rows z m l]=>l.wd z&&match e with
  | [.rows z' m' l']=>Nat.beq z z'&&(gk n β m m'&&yM n β l l')
  | e => !b6 e&&(Nat.blt 0 z&&(Nat.beq e.length (e.length / z*z)&&G8 n β m l (nW z (e.length / z) e)))
 | [.tk z m t []]=>(match e with
  | [.tk z' m' t' []]=>Nat.beq z z'&&(Nat.beq t t'&&gk n β m m')
  | _=>false)
 | p => !b6 e&&(!b6 p&&nj n β aE p e)
theorem aiY {p:Nm->Bool} {ρ:aa} {n:U} {l:RL}:Aw.a4 p (aV ρ n l).flatten=true:=q' ra
theorem Xj {n:Nat} {β:Bind} (Z:β.ge n=true) {aE:Nm->Nm} {ρ:aa} {p e:List X} (h:Cq n β aE p e=true):aA ρ e=Aw.bu aE (aA (β.ap ρ) p):=by
 unfold Cq at h
 split at h
 ·rename_i z m l
  simp only[Bool.and_eq_true]at h
  obtain⟨hw,h⟩:=h
  have e1:Aw.bu aE (aA (β.ap ρ) [.rows z m l])=(aV (β.ap ρ) m l).flatten:=lB aE _ aiY
  rw[e1]
  split at h
  ·simp only[Bool.and_eq_true]at h
   simp only[aA,OO Z h.2.1 h.2.2]
  ·simp only[Bool.and_eq_true,Bool.not_eq_true']at h
   obtain⟨A,E,h3,h4⟩:=h
   rw[cP A,Xk Z h4,w7,Ai _ _ _ (by rw[X.f_];exact Nat.eq_of_beq_eq_true h3)]
 ·rename_i z m t
  split at h
  ·simp only[Bool.and_eq_true]at h
   obtain⟨A,E,h3⟩:=h
   have e1:=Nat.eq_of_beq_eq_true A
   have e2:=Nat.eq_of_beq_eq_true E
   subst e1 e2
   simp only[aA,X.aX,List.append_nil]
   rw[lB aE _ (q' rb),Yl Z h3]
  ·cases h
 ·simp only[Bool.and_eq_true,Bool.not_eq_true']at h
  rw[cP h.1,cP h.2.1]
  exact tc Z _ _ h.2.2
def eZ:List (Nm×Nm)->Nm->Nm
 | [],m=>m
 | (a,b)::r,m=>if cN a m=true then b else eZ r m
def G_ (n:Nat) (β:Bind) (aE:Nm->Nm) (nx:Nat) (p e:X):Bool:=match p with
 | .top=>true
 | p=>X.b8 (fun m=>Nat.blt m.1 nx) p&&fN n β aE p e
def vq (aE:Nm->Nm):List Nm->Bool
 | []=>true
 | m::r=>r.all (fun k=>cN m k || !cN (aE m) (aE k))&&vq aE r
def B3 (k0:Nat):List (Nm×Nm)->Bool
 | []=>true
 | (a,b)::r=>(Nat.ble k0 a.1||cN a b)&&B3 k0 r
structure Pat where
 n:Nat
 S:XS
def ff (k0 n:Nat) (β:Bind) (nm:List (Nm×Nm)) (S V:XS):Bool :=
  β.ge n&&(Nat.ble k0 S.nx&&(B3 k0 nm&&(vq (eZ nm) (S.h.map (·.1)) &&
  (S.t.all (fun p=>G_ n β (eZ nm) S.nx (bY S.t p.1) (bY V.t p.1)) &&
   S.h.all (fun p=>match bh S.h p.1 with
    | some cs=>X.a4 (fun m=>Nat.blt m.1 S.nx) cs&&(Nat.blt p.1.1 S.nx&&(match bh V.h (eZ nm p.1)with
      | some D=>Cq n β (eZ nm) cs D
      | none=>false))
    | none=>true)))))
theorem Ou {k0:Nat}:∀{nm:List (Nm×Nm)} {m:Nm},B3 k0 nm=true->m.1<k0->eZ nm m=m
 | [],_,_,_=>rfl
 | (a,b)::r,m,h,hm=>by
  simp only[B3,Bool.and_eq_true,Bool.or_eq_true,Nat.ble_eq]at h
  simp only[eZ]
  split
  ·rename_i ha
   have:=eu ha
   subst this
   rcases h.1 with A | A
   ·omega
   ·exact(eu A).symm
  ·exact Ou h.2 hm
theorem FP {aE:Nm->Nm}:∀{l:List Nm},vq aE l=true->∀m∈l,∀m'∈l,aE m=aE m'->m=m'
 | [],_,m,hm,_,_,_=>by cases hm
 | a::r,h,m,hm,m',a0,G=>by
  simp only[vq,Bool.and_eq_true,List.all_eq_true,Bool.or_eq_true,Bool.not_eq_true']at h
  rcases List.mem_cons.1 hm with rfl | dB
  ·rcases List.mem_cons.1 a0 with rfl | fo
   ·rfl
   ·rcases h.1 m' fo with A | A
    ·exact eu A
    ·rw[G]at A;simp[cN]at A
  ·rcases List.mem_cons.1 a0 with rfl | fo
   ·rcases h.1 m dB with A | A
    ·exact(eu A).symm
    ·rw[G]at A;simp[cN]at A
   ·exact FP h.2 m dB m' fo G
theorem Da:∀(t:ba) (i:Nat),bY t i = .top\/∃v,(i,v)∈t
 | [],i => .inl rfl
 | (j,v)::l,i=>by
  simp only[bY]
  split
  ·rename_i h;have h:=Nat.eq_of_beq_eq_true h;subst h;exact .inr ⟨v,List.mem_cons_self⟩
  ·rcases Da l i with h | ⟨w,h⟩
   ·exact .inl h
   ·exact .inr ⟨w,List.mem_cons_of_mem _ h⟩
theorem sC:∀(h:au) (m:Nm) (cs:List X),bh h m=some cs->(m,cs)∈h
 | [],_,_,h=>by cases h
 | (k,v)::l,m,cs,h=>by
  simp only[bh]at h
  split at h
  ·rename_i e;have:=eu e;subst this;cases h;exact List.mem_cons_self
  ·exact List.mem_cons_of_mem _ (sC l m cs h)
theorem jF {ac:Aw.Env} {k0 n:Nat} (hb:∀m,ac.c0.kn m->m.1<k0) {β:Bind} {nm:List (Nm×Nm)} {S V:XS} (h:ff k0 n β nm S V=true) (ρ:aa):dF ac (V.I ρ) (S.I (β.ap ρ)):=by
 simp only[ff,Bool.and_eq_true,Nat.ble_eq]at h
 obtain⟨Z,u,Mi,qB,ht,W⟩:=h
 have key:∀m cs,ae (aO (β.ap ρ) S.h) m=some cs->∃ds D,bh S.h m=some ds/\cs=aA (β.ap ρ) ds/\X.a4 (fun m=>Nat.blt m.1 S.nx) ds=true/\m.1<S.nx/\bh V.h (eZ nm m)=some D/\Cq n β (eZ nm) ds D=true:=fun m cs aI=>by
  rw[cG]at aI
  obtain⟨ds,hd,rfl⟩:=Option.map_eq_some_iff.1 aI
  have:=List.all_eq_true.1 W _ (sC _ _ _ hd)
  simp only[hd,Bool.and_eq_true,Nat.blt_eq]at this
  obtain⟨A,E,h3⟩:=this
  split at h3
  ·rename_i D G
   exact⟨ds,D,hd,rfl,A,E,G,h3⟩
  ·cases h3
 refine Ji (aK:=S.I (β.ap ρ)) (eZ nm) hb (fun m hm=>Ou Mi hm) u (fun i => ?_) (fun m cs aI => ?_) (fun m m' hm a0 G => ?_)
 ·simp only[XS.I,jf]
  rcases Da S.t i with h | ⟨v,R⟩
  ·rw[h];exact .inl rfl
  ·have:=List.all_eq_true.1 ht _ R
   simp only[G_]at this
   split at this
   ·rename_i hp;rw[hp];exact .inl rfl
   ·simp only[Bool.and_eq_true]at this
    exact .inr ⟨X.vN _ _ this.1,G' Z _ _ this.2⟩
 ·obtain⟨ds,D,A,rfl,h3,h4,h5,h6⟩:=key m cs aI
  refine⟨X.vM _ _ h3,h4,?_⟩
  simp only[XS.I]
  rw[cG,h5,Option.map_some,Xj Z h6]
 ·obtain⟨cs,aI⟩:=Option.isSome_iff_exists.1 hm
  obtain⟨bn,qy⟩:=Option.isSome_iff_exists.1 a0
  obtain⟨ds,_,A,_⟩:=key m cs aI
  obtain⟨sb,_,pa,_⟩:=key m' bn qy
  exact FP qB m (List.mem_map.2 ⟨_,sC _ _ _ A,rfl⟩) m' (List.mem_map.2 ⟨_,sC _ _ _ pa,rfl⟩) G
def du:Code->Option Nat
 | .region id _ _=>some id
 | .seq a b=>match du a with
  | some k=>some k
  | none=>du b
 | .cond _ a b=>match du a with
  | some k=>some k
  | none=>du b
 | .block _ c=>du c
 | .loop c=>du c
 | _=>none
structure bf where
 key:Nat
 k0:Nat
 n:Nat
 S:XS
 init:Bind
 nm:List (Nm×Nm)
 out:T (XE×XS)
def bW (P:Program) (ρ:aa) (N:Nat) (c:Code) (L:bf):Prop :=
 ∀ac:Aw.Env,ac.N=N->(∀m,ac.c0.kn m->m.1<L.k0)->AW P ac (.loop c) (fun e V=>∃e' s,L.out.aq ρ=some (e',s)/\e=e'.to/\dF ac V (s.I ρ)) (L.S.I (L.init.ap ρ))
def bf.R (L:bf):Bool:=Nat.beq L.n 0
def BH (key aB t3:Nat):bf:=⟨key,aB,0,⟨[],[],t3⟩,⟨[],[],[],[]⟩,[],.fail []⟩
def jC (k:Option Nat):List bf->List bf
 | []=>[]
 | L::r=>match k with
  | some k=>if(Nat.beq L.key k && !L.R)=true then L::jC (some k) r else jC (some k) r
  | none=>[]
def V4 (k:Option Nat):List bf->Option (Nat×Nat)
 | []=>none
 | L::r=>match k with
  | some k=>if(Nat.beq L.key k&&L.R)=true then some (L.k0,L.S.nx)else V4 (some k) r
  | none=>none
def ahe (b t:ba):Bool:=b.all fun p=>t.any fun q=>Nat.beq q.1 p.1
def y3 (b : ba) (p : XE × XS) : T (XE × XS) := if ahe b p.2.t = true then .ret (p.1, ⟨pT p.2.t (p.2.t.map (·.1)) [] b, p.2.h, p.2.nx⟩) else .fail ["keys"]
theorem XU {ρ:aa} {b:ba} {p:XE×XS} {e:XE} {s:XS} (h:(y3 b p).aq ρ=some (e,s)):e=p.1/\fX (s.I ρ) (p.2.I ρ)/\Ext b s.t:=by
 unfold y3 at h
 split at h
 ·rename_i u
  cases h
  refine⟨rfl,⟨fun i => ?_,fun m cs aI=>⟨cs,aI,bo.refl cs⟩,Nat.le_refl _⟩,tJ _ _ _ _⟩
  simp only[XS.I,jf,Dc]
  split
  ·exact bT.refl _
  ·rename_i hn
   simp only[List.not_mem_nil,not_false_eq_true,and_true]at hn
   have A:bY b i = .top:=by
    rcases Da b i with h | ⟨v,R⟩
    ·exact h
    ·have:=List.all_eq_true.1 u _ R
     obtain⟨q,hq,G⟩:=List.any_eq_true.1 this
     have G:=Nat.eq_of_beq_eq_true G
     exact absurd (List.mem_map.2 ⟨q,hq,G⟩) hn
   rw[A];exact bT.top _
 ·cases h
def vx (k0:Nat) (L:bf) (B:J) (V:XS):T (XE×XS) :=
 if (Nat.beq L.k0 k0 && ff k0 L.n L.init L.nm L.S V) = true then L.out.bind B fun _ p => y3 V.t p else .fail ["loop", Nat.repr k0, Nat.repr V.nx]
def yt (k0:Nat) (B:J) (V:XS):List bf->T (XE×XS)
 | [] => .fail ["loops"]
 | [L]=>vx k0 L B V
 | L::r=>if(Nat.beq L.k0 k0&&ff k0 L.n L.init L.nm L.S V)=true then vx k0 L B V else yt k0 B V r
theorem ahY {P:Program} {ac:Aw.Env} {ρ:aa} {k0:Nat} {L:bf} {c:Code} (hb:∀m,ac.c0.kn m->m.1<k0) (hL:bW P ρ ac.N c L) {B:J} (u:J.ok ρ B) {V aK:XS} {e:XE} (h:(vx k0 L B V).aq ρ=some (e,aK)) :
  AW P ac (.loop c) (fun e' s=>e'=e.to/\dF ac s (aK.I ρ)) (V.I ρ):=by
 unfold vx at h
 split at h
 ·rename_i H
  simp only[Bool.and_eq_true]at H
  have eN:=Nat.eq_of_beq_eq_true H.1
  subst eN
  obtain⟨_,p,_,A,E⟩:=T.cQ _ u h
  obtain⟨rfl,aZ,_⟩:=XU E
  refine p_ (jF hb H.2 ρ) (dE (fun e' s hq => ?_) (hL ac rfl hb))
  obtain⟨e1,s1,g1,g2,g3⟩:=hq
  rw[A]at g1
  cases g1
  exact⟨g2,fun a w hr=>wJ aZ a w (g3 a w hr)⟩
 ·cases h
theorem V8 {k0:Nat} {L:bf} {B:J} {V:XS}:(vx k0 L B V).c_ fun p=>Ext V.t p.2.t:=by
 unfold vx
 split
 ·refine T.nJ (p:=fun _=>True) (fun B p _ => ?_) (T.rO _)
  unfold y3
  split
  ·exact tJ _ _ _ _
  ·trivial
 ·trivial
theorem V9 {ρ:aa} {k0:Nat} {B:J} {V aK:XS} {e:XE}:∀{Ls:List bf},(yt k0 B V Ls).aq ρ=some (e,aK)->∃L∈Ls,(vx k0 L B V).aq ρ=some (e,aK)
 | [],h=>by cases h
 | [L],h=>⟨L,List.mem_singleton.2 rfl,h⟩
 | L::dl::r,h=>by
  simp only[yt]at h
  split at h
  ·exact⟨L,List.mem_cons_self,h⟩
  ·obtain⟨K,hK,E⟩:=V9 (Ls:=dl::r) h
   exact⟨K,List.mem_cons_of_mem _ hK,E⟩
theorem NJ {k0:Nat} {B:J} {V:XS}:∀{Ls:List bf},(yt k0 B V Ls).c_ fun p=>Ext V.t p.2.t
 | []=>trivial
 | [L]=>V8
 | L::dl::r=>by
  simp only[yt]
  split
  ·exact V8
  ·exact NJ (Ls:=dl::r)
end Go.Proofs.Xw
namespace Go.Proofs.Xw
open Go Go.Proofs.Aw
def yd (b:ba) (body:J->XS->T (XE×XS)):Nat->J->XS->T (XE×XS)
 | 0,_,_=>(.fail [])
 | n+1,B,V=>oj b ((body B V).bind B fun B p=>match p.1 with
  | .normal=>yd b body n B (zj b p.2)
  | e => .ret (e,p.2))
def leave (id:Nat) (p:XE×XS):XE×XS :=
 match p.1 with
 | .exit j=>if Nat.beq j id=true then(.normal,p.2)else p
 | _=>p
def d_:Nat:=90000
theorem cc (x:Int) (h0 : -9223372036854775808<=x) (A:x<9223372036854775808):IntKind.i64.wrap x=x:=IntWalk.i64_in x ⟨by omega,by omega⟩
def WS : bB := fun _ _ _ _ _ => .fail ["call"]
theorem aiZ (P:Program) (ρ:aa):cS P ρ WS:=fun _ _ _ _ _ _ _ _ h=>by cases h
def Vi (aB:Nat) (m:Nm) (z:Nat) (n:U) (V:XS):XS:=⟨(aB,.sc (.i .i64 (.var d_)))::V.t,x2 V.h m [.rows z n (.var d_ [.s])],V.nx⟩
def vb:U := .op .add .i64 (.var d_) (.lit 1)
def MB (n:U) (B:J):J:=(.lt (.var d_) (.lit 0),false)::(.lt n (.var d_),false)::(.lt (.lit 4611686018427387904) (.var d_),false)::B.filter fun p=>p.1.ar d_
def zg (B:J) (e:BE) (b:Bool):Bool:=match red B e with
 | .lit v=>v==b
 | _=>false
def Vh (m:Nm) (s:XS):RL:=match bh s.h m with
 | some [.rows _ _ l]=>l
 | _ => .one []
def qL (m:Nm) (n e:U) (s:XS):Bind:=⟨[(d_,e)],[],[],[(d_,n,Vh m s)]⟩
def CR (k0 aB:Nat) (e:U) (m:Nm) (n:U) (S s:XS):Bool :=
 Nat.ble k0 S.nx&&(n.ar d_&&(X.beq (bY S.t aB) (.sc (.i .i64 (.var d_)))&&(X.beq (bY s.t aB) (.sc (.i .i64 e)) &&
 (S.t.all (fun p=>Nat.beq p.1 aB||(match bY S.t p.1 with
  | .top=>true
  | x=>X.b8 (fun k=>Nat.blt k.1 S.nx) x&&(x.ar d_&&X.beq x (bY s.t p.1)))) &&
 (S.h.all (fun p=>cN p.1 m||(match bh S.h p.1 with
  | some cs=>X.a4 (fun k=>Nat.blt k.1 S.nx) cs&&(Nat.blt p.1.1 S.nx&&(X.jo d_ cs&&(match bh s.h p.1 with | some ds=>X.fh cs ds | none=>false)))
  | none=>true)) &&
 (Nat.blt m.1 S.nx&&(match bh S.h m,bh s.h m with
  | some [.rows z n1 (.var v [.s])],some [.rows z' n2 l]=>Nat.beq v d_&&(Nat.beq z 1&&(Nat.beq z' 1&&(n1.beq n&&(n2.beq n&&l.kd [.s]))))
  | _,_=>false)))))))
theorem Mz (m:Nm) (n e:U) (s:XS):(qL m n e s).ge d_=true:=by simp[Bind.ge,kp,qL]
theorem YY {ac:Aw.Env} {k0:Nat} (hb:∀m,ac.c0.kn m->m.1<k0) {aB:Nat} {e:U} {m:Nm} {n:U} {S s:XS} (h:CR k0 aB e m n S s=true) (ρ:aa):dF ac (s.I ρ) (S.I ((qL m n e s).ap ρ)):=by
 simp only[CR,Bool.and_eq_true,Nat.ble_eq]at h
 obtain⟨h0,hn,A,E,h3,h4,h5,h6⟩:=h
 have ah:az d_ ρ ((qL m n e s).ap ρ):=Bind.bt (Mz _ _ _ _) ρ
 have e1:=X.beq_eq _ _ A
 have e2:=X.beq_eq _ _ E
 have obj:∀k cs,ae (S.I ((qL m n e s).ap ρ)).h k=some cs->Aw.a4 (fun k=>Nat.blt k.1 S.nx) cs=true/\k.1<S.nx/\ae (s.I ρ).h k=some cs:=fun k cs aI=>by
  simp only[XS.I,cG]at aI ⊢
  obtain⟨ds,hd,rfl⟩:=Option.map_eq_some_iff.1 aI
  by_cases hm:k=m
  ·subst hm
   rw[hd]at h6
   split at h6
   ·rename_i z n1 v z' n2 l g1 g2
    cases g1
    simp only[Bool.and_eq_true]at h6
    obtain⟨k1,k2,k3,k4,FS,Nh⟩:=h6
    have k1:=Nat.eq_of_beq_eq_true k1
    have k2:=Nat.eq_of_beq_eq_true k2
    have k3:=Nat.eq_of_beq_eq_true k3
    have k4:=U.beq_eq _ _ k4
    have FS:=U.beq_eq _ _ FS
    subst k1 k2 k3 k4 FS
    refine⟨q' ra,by simpa using h5,?_⟩
    have M:be d_ (qL k n2 e s).r=some (n2,l):=by
     simp only[qL,be,Nat.beq_refl,if_true,Vh,g2]
    rw[g2,Option.map_some]
    simp only[aA]
    refine congrArg some (congrArg List.flatten ?_)
    unfold aV
    rw[<-U.aT ah n2 hn]
    refine List.map_congr_left fun j _ => ?_
    have:=Bind.rows (β:=qL k n2 e s) (ρ:=ρ) M Nh j
    simp only[RL.row,Int.toNat_natCast]
    exact this.symm
   ·cases h6
  ·have:=List.all_eq_true.1 h4 _ (sC _ _ _ hd)
   simp only[hd,Bool.or_eq_true,Bool.and_eq_true,Nat.blt_eq]at this
   rcases this with h7 | ⟨g1,g2,g3,g4⟩
   ·exact absurd (eu h7) hm
   ·refine⟨X.vM _ _ g1,g2,?_⟩
    split at g4
    ·rename_i sb xO
     rw[xO,<-X.gO _ _ g4,Option.map_some,S3 ah _ g3]
    ·cases g4
 refine Ji (aK:=S.I ((qL m n e s).ap ρ)) id hb (fun _ _=>rfl) h0 (fun i => ?_) (fun k cs aI => ?_) (fun _ _ _ _ G=>G)
 ·simp only[XS.I,jf]
  rcases Da S.t i with h | ⟨v,R⟩
  ·rw[h];exact .inl rfl
  ·by_cases hi:i=aB
   ·subst hi
    rw[e1,e2]
    exact .inr ⟨rfl,rfl⟩
   ·have:=List.all_eq_true.1 h3 _ R
    simp only[Bool.or_eq_true]at this
    rcases this with h7 | h7
    ·exact absurd (Nat.eq_of_beq_eq_true h7) hi
    ·split at h7
     ·rename_i hp;rw[hp];exact .inl rfl
     ·simp only[Bool.and_eq_true]at h7
      obtain⟨g1,g2,g3⟩:=h7
      refine .inr ⟨X.vN _ _ g1,?_⟩
      rw[<-X.beq_eq _ _ g3,y5,X.aT ah _ g2]
 ·obtain⟨g1,g2,g3⟩:=obj k cs aI
  exact⟨g1,g2,by rw[pO];exact g3⟩
def sP (k0 aB:Nat) (m:Nm) (n:U) (S:XS):J->T (XE×XS)->Bool
 | B,.ret (.normal,s)=>CR k0 aB vb m n S s&&(zg B (.lt vb (.lit 0)) false&&zg B (.lt n vb) false)
 | _,.ret (_,_)=>true
 | B,.br c x y=>sP k0 aB m n S (assume c true B) x&&sP k0 aB m n S (assume c false B) y
 | _,_=>false
def FJ:T (XE×XS)->List (XE×XS)
 | .ret (.normal,_)=>[]
 | .ret p=>[p]
 | .br _ x y=>FJ x++FJ y
 | _=>[]
def x5:ba->ba
 | []=>[]
 | (k,v)::r=>(k,if v.ar d_=true then v else .top)::x5 r
def va (m:Nm):au->au
 | []=>[]
 | (k,cs)::r=>if(cN k m || !X.jo d_ cs)=true then va m r else(k,cs)::va m r
def x4 (m:Nm) (s:XS):XS:=⟨x5 s.t,va m s.h,s.nx⟩
def vT:au->Bool
 | []=>true
 | (k,_)::r => !(bh r k).isSome&&vT r
def Be (k0 aB t3:Nat) (run:J->XS->T (XE×XS)) (B:J) (V:XS):T (XE×XS) :=
 match bY V.t t3 with
 | .slv m _ _ _ _=>match bh V.h m with
  | some [.rows z n _] =>
   let S:=Vi aB m z n V
   let t:=run (MB n B) S
   if(zg B (.lt n (.lit 0)) false&&(n.ar d_&&(zg B (.lt (.lit 4611686018427387904) n) false&&(CR k0 aB (.lit 0) m n S V&&sP k0 aB m n S (MB n B) t))))=true then
    match FJ t with
    | [p] => if vT p.2.h = true then y3 V.t (p.1, x4 m p.2) else .fail ["havoc"]
    | _ => .fail ["havoc"]
   else .fail ["havoc"]
  | _ => .fail ["havoc"]
 | _ => .fail ["havoc"]
def ck (ti:Nat->Option TI) (call:bB) (ms:List Nat) (k0:Nat) (bN:List bf) (fuel:Nat):Code->J->XS->T (XE×XS)
 | .skip,_,V => .ret (.normal,V)
 | .label _,_,V => .ret (.normal,V)
 | .region _ ops draw,B,V=>oj V.t ((if draw=true then xh ti call ms ops.toList B V else mW ti call ms ops.toList ops.toList B V).map fun s=>(.normal,s))
 | .seq a b,B,V=>(ck ti call ms k0 bN fuel a B V).bind B fun B p=>match p.1 with
  | .normal=>ck ti call ms k0 bN fuel b B p.2
  | e => .ret (e,p.2)
 | .cond c x y,B,V=>match cm (bY V.t) c with
  | .sc (.b e)=>oj V.t (part B e (fun B=>ck ti call ms k0 bN fuel x B V) (fun B=>ck ti call ms k0 bN fuel y B V))
  | _ => .fail ["cond"]
 | .block id c,B,V=>oj V.t ((ck ti call ms k0 bN fuel c B V).map (leave id))
 | .loop c,B,V=>match V4 (du c) bN with
  | some v=>oj V.t (Be k0 v.1 v.2 (fun B S=>ck ti WS ms k0 [] fuel c B S) B V)
  | none=>match jC (du c) bN with
   | L::Ls=>oj V.t (yt k0 B V (L::Ls))
   | []=>yd V.t (fun B V=>ck ti call ms k0 bN fuel c B V) fuel B V
 | .exit id,_,V => .ret (.exit id,V)
 | .ret,_,V => .ret (.ret,V)
 | _,_,_=>(.fail [])
def da (N:Nat):Code->Bool
 | .region _ ops draw=>fits N ops.toList&&(!draw||once ops.toList)
 | .seq a b=>da N a&&da N b
 | .cond _ a b=>da N a&&da N b
 | .block _ c=>da N c
 | .loop c=>da N c
 | _=>true
def dP:Code->List Code
 | .seq a b=>dP a++dP b
 | .cond _ a b=>dP a++dP b
 | .block _ c=>dP c
 | .loop c=>c::dP c
 | _=>[]
def a1 (P:Program) (ρ:aa) (N:Nat) (bN:List bf) (c:Code):Prop:=∀dx∈dP c,∀L∈jC (du dx) bN,bW P ρ N dx L
theorem a1.nil (P:Program) (ρ:aa) (N:Nat) (c:Code):a1 P ρ N [] c:=fun _ _ L h=>by simp[jC]at h
theorem UN {k0 aB t3:Nat} {run:J->XS->T (XE×XS)} {B:J} {V:XS}:(Be k0 aB t3 run B V).c_ fun p=>Ext V.t p.2.t:=by
 unfold Be
 split
 ·split
  ·simp only
   split
   ·split
    ·split
     ·unfold y3
      split
      ·exact tJ _ _ _ _
      ·trivial
     ·trivial
    ·trivial
   ·trivial
  ·trivial
 ·trivial
theorem Us {ti:Nat->Option TI} {call:bB} {ms:List Nat} {ops:List Oper}:∀(l:List Oper) (B:J) (V:XS),(mW ti call ms ops l B V).c_ fun s=>Ext V.t s.t
 | [],_,V=>Ext.refl _
 | o::l,B,V=>by
  have put:∀(v:X) (h:au) (n:Nat),Ext V.t (XS.mk (nD o.dst v V.t) h n).t:=fun v h n=>by
   cases o.dst with
   | none=>exact Ext.refl _
   | some d=>exact⟨[(d,v)],rfl⟩
  have step:∀(v:X) (h:au) (n:Nat) B,(mW ti call ms ops l B ⟨nD o.dst v V.t,h,n⟩).c_ fun s=>Ext V.t s.t:=fun v h n B=>T.zK (fun s hs=>Ext.trans (put v h n) hs) (Us l B _)
  unfold mW
  cases o.guard with
  | none=>exact T.nJ (p:=fun _=>True) (fun B p _=>step p.1 _ _ B) (T.rO _)
  | some pm=>exact abd (fun B r d=>step r _ _ B) (fun B=>step _ _ _ B) (fun B y=>step y _ _ B)
theorem TX:∀(D:List cd) (t:ba),Ext t (xD D t)
 | [],t=>Ext.refl t
 | e::D,t=>by
  obtain⟨Y,hu⟩:=TX D t
  unfold xD
  cases e.dst with
  | none=>exact⟨Y,hu⟩
  | some d=>exact⟨(d,e.r)::Y,by simp only[nD,hu];rfl⟩
theorem Kw {ti:Nat->Option TI} {call:bB} {ms:List Nat} {ops:List Oper} {B:J} {V:XS}:(xj ti call ms ops B V).c_ fun s=>Ext V.t s.t :=
 T.t_ (p:=fun _=>True) (q:=fun s:XS=>Ext V.t s.t) (fun D _=>TX D V.t) (T.rO _)
theorem ad4 {ti:Nat->Option TI} {call:bB} {ms:List Nat} {ops:List Oper} {B:J} {V:XS}:(xh ti call ms ops B V).c_ fun s=>Ext V.t s.t:=by
 unfold xh
 split
 ·split
  ·rename_i i o _ _
   refine T.nJ (p:=fun s:XS=>Ext V.t s.t) (fun B s hs => ?_) Kw
   unfold Nn
   refine T.nJ (p:=fun _=>True) (fun B p _ => ?_) (T.rO _)
   refine Ext.trans hs ?_
   show Ext s.t (nD o.dst p.1 s.t)
   cases o.dst with
   | none=>exact Ext.refl _
   | some d=>exact⟨[(d,p.1)],rfl⟩
  ·exact Kw
 ·exact Kw
theorem XX {ti:Nat->Option TI} {call:bB} {ms:List Nat} {ops:List Oper} {draw:Bool} {B:J} {V:XS}:((if draw=true then xh ti call ms ops B V else mW ti call ms ops ops B V).map fun s=>(XE.normal,s)).c_ fun p=>Ext V.t p.2.t:=by
 refine T.t_ (p:=fun s:XS=>Ext V.t s.t) (q:=fun p:XE×XS=>Ext V.t p.2.t) (fun s hs=>hs) ?_
 split
 ·exact ad4
 ·exact Us _ _ _
theorem M5 {b:ba} {body:J->XS->T (XE×XS)} (hb:∀B V,(body B V).c_ fun p=>Ext V.t p.2.t):∀(n:Nat) (B:J) (V:XS),Ext b V.t->(yd b body n B V).c_ fun p=>Ext b p.2.t
 | 0,_,_,_=>trivial
 | n+1,B,V,h=>by
  unfold yd
  refine yi (T.nJ (p:=fun p=>Ext V.t p.2.t) (fun B p hp => ?_) (hb B V))
  split
  ·exact M5 hb n B (zj b p.2) (tJ _ _ _ _)
  ·exact Ext.trans h hp
theorem lY {ti:Nat->Option TI} {call:bB} {ms:List Nat} {k0:Nat} {bN:List bf} {fuel:Nat}:∀(c:Code) (B:J) (V:XS),(ck ti call ms k0 bN fuel c B V).c_ fun p=>Ext V.t p.2.t
 | .skip,_,V=>Ext.refl _
 | .label _,_,V=>Ext.refl _
 | .region _ ops draw,B,V=>by
  unfold ck
  exact yi XX
 | .seq a b,B,V=>by
  unfold ck
  refine T.nJ (p:=fun p=>Ext V.t p.2.t) (fun B p hp => ?_) (lY a B V)
  split
  ·exact T.zK (fun q hq=>Ext.trans hp hq) (lY b B p.2)
  ·exact hp
 | .cond c x y,B,V=>by
  unfold ck
  split
  ·exact yi (Rx (fun B=>lY x B V) (fun B=>lY y B V))
  ·trivial
 | .block id c,B,V=>by
  unfold ck
  refine yi (T.t_ (p:=fun p=>Ext V.t p.2.t) (fun p hp => ?_) (lY c B V))
  unfold leave
  split
  ·split
   ·exact hp
   ·exact hp
  ·exact hp
 | .loop c,B,V=>by
  unfold ck
  split
  ·exact yi UN
  split
  ·exact yi NJ
  ·exact M5 (fun B V=>lY c B V) fuel B V (Ext.refl _)
 | .exit id,_,V=>Ext.refl _
 | .ret,_,V=>Ext.refl _
 | .rangeFunc _ _ _ _,_,_=>trivial
 | .scope _,_,_=>trivial
 | .goto _,_,_=>trivial
 | .refuse _,_,_=>trivial
def zM (P:Program) (ac:Aw.Env) (ρ:aa) (c:Code) (V:XS) (e:XE) (aK:XS):Prop:=AW P ac c (fun e' s=>e'=e.to/\dF ac s (aK.I ρ)) (V.I ρ)
theorem BM (ac:Aw.Env) (s:St):dF ac s s:=fun _ _ h=>h
theorem fp {ac:Aw.Env} {a b c:St} (h:dF ac a b) (k:fX c b):dF ac a c:=fun x w hr=>wJ k x w (h x w hr)
theorem vn {ac:Aw.Env} {a b c:St} (h:dF ac a b) (k:dF ac b c):dF ac a c:=fun x w hr=>k x w (h x w hr)
theorem S9 {P:Program} {ρ:aa} {ti:Nat->Option TI} (a_:eL.ok P ti) {call:bB} (aP:cS P ρ call) {ms:List Nat} {ops:List Oper} {B:J} {V aK:XS} (u:J.ok ρ B)
  (h:(xj ti call ms ops B V).aq ρ=some aK):∃D,jl P ops V.nx (e7 ops (fm ρ V.t)) (aO ρ V.h) D/\D.length=ops.length/\(∀i,bT (bR (fm ρ aK.t) i) (bR (b3 (fun _=>true) D (e7 ops (fm ρ V.t))) i)) /\
   aO ρ aK.h=aJ (fun _=>true) D (aO ρ V.h)/\aK.nx=V.nx+ops.length:=by
 obtain⟨D,A,rfl⟩:=T.je _ h
 obtain⟨hw,M⟩:=Kv a_ aP (t0:=e7 ops (fm ρ V.t)) (ac4 ρ ops V.t) ops B [] 0 D u (fun j=>by simp) trivial (fun j e G=>by simp[bA,bg]at G) A
 simp only[List.length_nil,Nat.zero_add]at M
 have bX:(bA ρ D).length=ops.length:=by simp[bA,M]
 refine⟨bA ρ D,hw,bX,fun i => ?_,?_,rfl⟩
 ·
  have afZ:∀(l:List cd) (i:Nat),bR (fm ρ (xD l V.t)) i=bR (b3 (fun _=>true) (bA ρ l) (fm ρ V.t)) i:=by
   intro l
   induction l with
   | nil=>intro i;rfl
   | cons e l ih =>
    intro i
    simp only[xD,ED,bA,List.map_cons,b3,if_true,Dd]at ih ⊢
    rw[ih];rfl
  rw[afZ]
  rcases pY (fun _=>true) (fm ρ V.t) i (bA ρ D)with⟨j,e,E,h3,h4⟩ | ⟨E,h3⟩
  ·rcases pY (fun _=>true) (e7 ops (fm ρ V.t)) i (bA ρ D)with⟨j',e',xI,EQ,aup⟩ | ⟨xI,_⟩
   ·have R:∀(l:List En) (t t':Tp),(∃j e,bg l j=some e/\e.dst=some i)->bR (b3 (fun _=>true) l t) i=bR (b3 (fun _=>true) l t') i:=by
     intro l
     induction l with
     | nil=>rintro t t' ⟨j,e,h,_⟩;simp[bg]at h
     | cons x l ih =>
      rintro t t' ⟨j,e,h,hd⟩
      simp only[b3,if_true,Dd]
      split
      ·rfl
      ·rename_i ay
       refine ih t t' ⟨j,e,?_,hd⟩
       simp only[bg]at h
       split at h
       ·cases h;exact absurd hd ay
       ·exact h
    rw[R _ _ (e7 ops (fm ρ V.t)) ⟨j,e,E,h3⟩]
    exact bT.refl _
   ·exact absurd h3 (xI j e E)
  ·rcases pY (fun _=>true) (e7 ops (fm ρ V.t)) i (bA ρ D)with⟨j',e',xI,EQ,_⟩ | ⟨_,EQ⟩
   ·exact absurd EQ (E j' e' xI)
   ·rw[h3,EQ,wq]
    split
    ·rename_i ha
     obtain⟨o,ho1,ho2⟩:=List.any_eq_true.1 ha
     obtain⟨j,O⟩:=List.mem_iff_getElem?.1 ho1
     have m5:=(List.getElem?_eq_some_iff.1 O).1
     obtain⟨e,G⟩:=EM (D:=bA ρ D) (j:=j) (by omega)
     obtain⟨bi,o',_,_,g3,hs,_,_⟩:=hw.get G
     rw[O]at g3;cases g3
     exact absurd (by rw[hs.dst];simpa using ho2) (E j e G)
    ·exact bT.refl _
 ·rw[x6]
theorem S8 {P:Program} {ac:Aw.Env} {ρ:aa} {ti:Nat->Option TI} (hm:P.follows .mixedOrders=true) (a_:eL.ok P ti) {call:bB} (aP:cS P ρ call) {ms:List Nat} {ops:List Oper} {B:J} {V aK:XS} (u:J.ok ρ B) (hf:fits ac.N ops=true) (ho:once ops=true) {id:Nat}
  (h:(xj ti call ms ops B V).aq ρ=some aK):zM P ac ρ (.region id ops.toArray true) V .normal aK:=by
 obtain⟨D,hw,M,A,E,h3⟩:=S9 a_ aP u h
 refine aa8 (ac:=ac) (V:=V.I ρ) hm hf ho D hw M ⟨rfl,wJ ⟨A,fun m cs aI=>⟨cs,?_,bo.refl cs⟩,by simp only[XS.I,h3];exact Nat.le_refl _⟩⟩
 simp only[XS.I]at aI ⊢
 rw[<-E];exact aI
theorem ad5 {P:Program} {ac:Aw.Env} {ρ:aa} {ti:Nat->Option TI} (hm:P.follows .mixedOrders=true) (a_:eL.ok P ti) {call:bB} (aP:cS P ρ call) {ms:List Nat} {ops:List Oper} {B:J} {V aK:XS} (u:J.ok ρ B) (hf:fits ac.N ops=true) (ho:once ops=true) {id:Nat}
  (h:(xh ti call ms ops B V).aq ρ=some aK):zM P ac ρ (.region id ops.toArray true) V .normal aK:=by
 unfold xh at h
 split at h
 ·rename_i i o hs
  split at h
  ·rename_i hw
   obtain⟨aR,Mn⟩:=at5 hw
   have e:=Zd hs
   subst e
   have UX:fits ac.N i=true/\(∀d,o.dst=some d->d<ac.N):=by
    simp only[fits,List.all_append,List.all_cons,List.all_nil,Bool.and_true,Bool.and_eq_true]at hf
    refine⟨hf.1,fun d hd => ?_⟩
    have:=hf.2
    rw[hd]at this
    simpa [Nat.blt_eq]using this
   obtain⟨fd,s1,bp,A,E⟩:=T.cQ _ u h
   obtain⟨D,g1,g2,g3,g4,g5⟩:=S9 a_ aP u A
   unfold Nn at E
   obtain⟨_,p,_,h3,h4⟩:=T.cQ _ bp E
   obtain⟨r,d⟩:=p
   cases h4
   rw[P5]at h3
   have hy:=xg (t:=fm ρ s1.t) a_ aP (fun i=>(jf ρ i s1.t).symm) bp h3
   have vf:Aw.Yields P (V.nx+i.length) o.op (b3 (fun _=>true) D (e7 i (fm ρ V.t))) (aJ (fun _=>true) D (aO ρ V.h)) (r.I ρ) (bk ρ d):=by
    rw[<-g5,<-g4]
    intro C a o' next Q dT W ht hn aM
    exact hy C a o' next Q dT W (fun j=>g3 j _ _ (ht j)) hn aM
   refine abb (V:=V.I ρ) hm aR UX.2 UX.1 Mn D g1 g2 vf ⟨rfl,wJ ⟨fun j => ?_,fun m cs aI=>⟨cs,?_,bo.refl cs⟩,by simp only[XS.I,g5];exact Nat.le_refl _⟩⟩
   ·simp only[XS.I,ED,Dd]
    split
    ·exact bT.refl _
    ·exact g3 j
   ·simp only[XS.I]at aI ⊢
    rw[o7,g4]at aI
    exact aI
  ·exact S8 hm a_ aP u hf ho h
 ·exact S8 hm a_ aP u hf ho h
theorem H_ {ρ:aa} {B:J} (u:J.ok ρ B) {e:BE} {b:Bool} (h:zg B e b=true):e.I ρ=b:=by
 unfold zg at h
 split at h
 ·rename_i v R
  rw[<-c9 u,R]
  exact eq_of_beq h
 ·cases h
theorem MA {ρ:aa} {k0 aB:Nat} {m:Nm} {n:U} {S:XS}:∀(t:T (XE×XS)) (B:J),sP k0 aB m n S B t=true->J.ok ρ B->∃e s,t.aq ρ=some (e,s) /\
  ((e = .normal/\CR k0 aB vb m n S s=true/\(BE.lt vb (.lit 0)).I ρ=false/\(BE.lt n vb).I ρ=false)\/(e ≠ .normal/\(e,s)∈FJ t))
 | .ret (.normal,s),B,h,u=>by
  simp only[sP,Bool.and_eq_true]at h
  exact⟨_,s,rfl,.inl ⟨rfl,h.1,H_ u h.2.1,H_ u h.2.2⟩⟩
 | .ret (.exit j,s),B,_,_=>⟨_,s,rfl,.inr ⟨(fun h=>by cases h),List.mem_cons_self⟩⟩
 | .ret (.ret,s),B,_,_=>⟨_,s,rfl,.inr ⟨(fun h=>by cases h),List.mem_cons_self⟩⟩
 | .br c x y,B,h,u=>by
  simp only[sP,Bool.and_eq_true]at h
  cases H:c.I ρ with
  | true =>
   obtain⟨e,s,A,E⟩:=MA x _ h.1 (gn c true B H u)
   refine⟨e,s,by simp only[T.aq,H,if_true];exact A,?_⟩
   rcases E with E | ⟨E,h3⟩
   ·exact .inl E
   ·exact .inr ⟨E,List.mem_append_left _ h3⟩
  | false =>
   obtain⟨e,s,A,E⟩:=MA y _ h.2 (gn c false B H u)
   refine⟨e,s,by simp only[T.aq,H,Bool.false_eq_true,if_false];exact A,?_⟩
   rcases E with E | ⟨E,h3⟩
   ·exact .inl E
   ·exact .inr ⟨E,List.mem_append_right _ h3⟩
 | .cL _ _,_,h,_=>by simp[sP]at h
 | .fail _,_,h,_=>by simp[sP]at h
theorem Vk (ρ:aa) (i:Nat):∀t:ba,bT ((bY (x5 t) i).I ρ) ((bY t i).I ρ)
 | []=>bT.refl _
 | (k,v)::r=>by
  simp only[x5,bY]
  split
  ·split
   ·exact bT.refl _
   ·exact bT.top _
  ·exact Vk ρ i r
theorem Vj:∀t:ba,(x5 t).all (fun p=>p.2.ar d_)=true
 | []=>rfl
 | (k,v)::r=>by
  simp only[x5,List.all_cons,Vj r,Bool.and_true]
  split
  ·assumption
  ·rfl
theorem MC (m:Nm):∀h:au,(va m h).all (fun p=>X.jo d_ p.2)=true
 | []=>rfl
 | (k,cs)::r=>by
  simp only[va]
  split
  ·exact MC m r
  ·rename_i H
   simp only[Bool.or_eq_true,Bool.not_eq_true',not_or,Bool.not_eq_false]at H
   simp only[List.all_cons,H.2,MC m r,Bool.and_self]
theorem MD (m:Nm) {k:Nm} {cs:List X}:∀{h:au},vT h=true->bh (va m h) k=some cs->bh h k=some cs
 | [],_,hq=>by cases hq
 | (j,ds)::r,ho,hq=>by
  simp only[vT,Bool.and_eq_true,Bool.not_eq_true']at ho
  simp only[va]at hq
  simp only[bh]
  split at hq
  ·have:=MD m ho.2 hq
   split
   ·rename_i e
    rw[eu e,this]at ho
    simp at ho
   ·exact this
  ·simp only[bh]at hq
   split at hq
   ·rename_i e;rw[if_pos e];exact hq
   ·rename_i e;rw[if_neg e];exact MD m ho.2 hq
theorem agr (ρ:aa) {m:Nm} {s:XS} (ho:vT s.h=true):fX ((x4 m s).I ρ) (s.I ρ):=by
 refine⟨fun i => ?_,fun k cs aI => ?_,Nat.le_refl _⟩
 ·simp only[XS.I,x4,jf]
  exact Vk ρ i s.t
 ·simp only[XS.I,x4,cG]at aI ⊢
  obtain⟨ds,A,rfl⟩:=Option.map_eq_some_iff.1 aI
  exact⟨_,by rw[MD m ho A];rfl,bo.refl _⟩
theorem afJ {P:Program} {ac:Aw.Env} {ρ:aa} {k0 aB t3:Nat} {run:J->XS->T (XE×XS)} {c:Code} (hb:∀m,ac.c0.kn m->m.1<k0) (bD:∀(F:aa) (B:J) (S:XS) (e:XE) (s:XS),J.ok F B->(run B S).aq F=some (e,s)->zM P ac F c S e s)
  {B:J} (u:J.ok ρ B) {V aK:XS} {e:XE} (h:(Be k0 aB t3 run B V).aq ρ=some (e,aK)):AW P ac (.loop c) (fun e' s=>e'=e.to/\dF ac s (aK.I ρ)) (V.I ρ):=by
 unfold Be at h
 split at h
 ·rename_i m _ _ _ _ _
  split at h
  ·rename_i z n _ _
   simp only at h
   generalize hS:Vi aB m z n V=S at h
   split at h
   ·rename_i H
    simp only[Bool.and_eq_true]at H
    obtain⟨c1,c2,c3,dy,t7⟩:=H
    split at h
    ·rename_i p hp
     have ho:vT p.2.h=true:=by
      cases ho:vT p.2.h with
      | true=>rfl
      | false=>rw[if_neg (by rw[ho];decide)]at h;cases h
     rw[if_pos ho]at h
     obtain⟨rfl,aZ,_⟩:=XU h
     have c3:=H_ u c3
     have n0:0<=n.I ρ:=by
      have:=of_decide_eq_false (H_ u c1)
      simp only[U.I]at this
      omega
     have n1:n.I ρ<=4611686018427387904:=by
      have:=of_decide_eq_false c3
      simp only[U.I]at this
      omega
     ·refine Rw (fun k s=>∃F:aa,az d_ ρ F/\0<=F.i d_/\F.i d_<=n.I ρ/\k=(n.I ρ-F.i d_).toNat/\s=S.I F) _
       ⟨_,YY hb dy ρ,_,Bind.bt (Mz _ _ _ _) ρ,?_,?_,rfl,rfl⟩ fun k s hI => ?_
      ·exact Int.le_refl 0
      ·exact n0
      ·obtain⟨F,ah,i0,i1,rfl,rfl⟩:=hI
       have Ar:n.I F=n.I ρ:=(U.aT ah n c2).symm
       have aM:J.ok F (MB n B):=by
        refine J.av ?_ (J.av ?_ (J.av ?_ fun q hq => ?_))
        ·exact decide_eq_false (by simp only[U.I];omega)
        ·exact decide_eq_false (by simp only[U.I];rw[Ar];omega)
        ·exact decide_eq_false (by simp only[U.I];omega)
        ·obtain⟨q1,q2⟩:=List.mem_filter.1 hq
         rw[<-BE.aT ah _ q2]
         exact u q q1
       obtain⟨e1,s1,g1,g2⟩:=MA _ _ t7 aM
       refine dE (fun e' s' hq => ?_) (bD F _ S e1 s1 aM g1)
       obtain⟨rfl,hi⟩:=hq
       rcases g2 with⟨rfl,g3,g4,g5⟩ | ⟨g3,g4⟩
       ·have g4:=of_decide_eq_false g4
        have g5:=of_decide_eq_false g5
        simp only[vb,U.I,a7.I]at g4 g5
        have w:IntKind.i64.wrap (F.i d_+1)=F.i d_+1:=cc _ (by omega) (by omega)
        rw[w]at g4 g5
        rw[Ar]at g5
        refine⟨_,_,?_,vn hi (YY hb g3 F),_,ah.trans (Bind.bt (Mz _ _ _ _) F),?_,?_,rfl,rfl⟩
        ·show(n.I ρ-IntKind.i64.wrap (F.i d_+1)).toNat<_
         rw[w];omega
        ·show 0<=IntKind.i64.wrap (F.i d_+1)
         rw[w];omega
        ·show IntKind.i64.wrap (F.i d_+1)<=_
         rw[w];omega
       ·have pj:(e1,s1)=p:=by
         rw[hp]at g4
         exact List.mem_singleton.1 g4
        subst pj
        have M:fX (aK.I ρ) (s1.I F):=by
         refine aZ.trans ?_
         rw[XS.aT ah (x4 m s1) (by simp only[XS.ar,x4,Vj,MC,Bool.and_self])]
         exact agr F ho
        have fin:dF ac s' (aK.I ρ):=fp hi M
        cases e1 with
        | normal=>exact absurd rfl g3
        | exit j=>exact⟨rfl,fin⟩
        | ret=>exact⟨rfl,fin⟩
    ·cases h
   ·cases h
  ·cases h
 ·cases h
theorem jY {P:Program} {ac:Aw.Env} {ρ:aa} {ti:Nat->Option TI} (hm:P.follows .mixedOrders=true) (a_:eL.ok P ti) {call:bB} (aP:cS P ρ call) {ms:List Nat} {k0:Nat} (hb:∀m,ac.c0.kn m->m.1<k0) {bN:List bf} {fuel:Nat} :
  ∀(c:Code) (B:J) (V:XS) (e:XE) (aK:XS),J.ok ρ B->da ac.N c=true->a1 P ρ ac.N bN c->(ck ti call ms k0 bN fuel c B V).aq ρ=some (e,aK)->zM P ac ρ c V e aK
 | .skip,B,V,e,aK,u,_,_,h=>by cases h;exact Ja ⟨rfl,BM _ _⟩
 | .label _,B,V,e,aK,u,_,_,h=>by cases h;exact aba ⟨rfl,BM _ _⟩
 | .region id ops draw,B,V,e,aK,u,hf,_,h=>by
  unfold ck at h
  simp only[da,Bool.and_eq_true,Bool.or_eq_true,Bool.not_eq_true']at hf
  obtain⟨s,A,aZ⟩:=vu XX h
  obtain⟨s1,E,h3⟩:=T.je _ A
  cases h3
  cases draw with
  | true =>
   rw[if_pos rfl]at E
   have:=ad5 (ac:=ac) hm a_ aP (id:=id) u hf.1 (hf.2.resolve_left (by simp)) E
   rw[show ops.toList.toArray=ops from by simp]at this
   exact dE (fun e' s' hq=>⟨hq.1,fp hq.2 aZ⟩) this
  | false =>
   rw[if_neg (by simp)]at E
   intro a w hr
   refine wp_region_lit ?_
   have:=LI (ac:=ac) (P:=P) (Q:=fun e bz w'=>∃wn,Rel ac wn bz w'/\e=XE.normal.to/\dF ac wn (aK.I ρ)) a_ aP (fun bz w' mf=>⟨_,mf,rfl,wJ aZ⟩) ops.toList B V a w u hf.1 E hr
   simpa using this
 | .seq x y,B,V,e,aK,u,hf,M,h=>by
  unfold ck at h
  simp only[da,Bool.and_eq_true]at hf
  obtain⟨aS,p,aM,A,E⟩:=T.cQ _ u h
  obtain⟨e1,tY⟩:=p
  have g1:=jY hm a_ aP hb x B V e1 tY u hf.1 (fun dx dA=>M dx (List.mem_append_left _ dA)) A
  refine oZ fun K hK=>dE (fun e' s hq => ?_) g1
  obtain⟨rfl,aZ⟩:=hq
  cases e1 with
  | normal =>
   simp only at E
   exact hK s (p_ aZ (jY hm a_ aP hb y aS tY e aK aM hf.2 (fun dx dA=>M dx (List.mem_append_right _ dA)) E))
  | exit id=>cases E;exact⟨rfl,aZ⟩
  | ret=>cases E;exact⟨rfl,aZ⟩
 | .cond c x y,B,V,e,aK,u,hf,M,h=>by
  unfold ck at h
  simp only[da,Bool.and_eq_true]at hf
  have L7:=eM (ρ:=ρ) (g:=bY V.t) (t:=fm ρ V.t) (fun i=>(jf ρ i V.t).symm) c
  split at h
  ·rename_i b L0
   rw[L0]at L7
   obtain⟨s,A,aZ⟩:=vu (Rx (fun B=>lY x B V) (fun B=>lY y B V)) h
   obtain⟨aS,aM,⟨H,E⟩ | ⟨H,E⟩⟩:=Y_ u A
   ·refine aa7 (V:=V.I ρ) (by rw[show ev (V.I ρ).t c=_ from L7.symm];simp only[X.I,Sc.I,H]) ?_
    exact dE (fun e' s' hq=>⟨hq.1,fp hq.2 aZ⟩) (jY hm a_ aP hb x aS V e s aM hf.1 (fun dx dA=>M dx (List.mem_append_left _ dA)) E)
   ·refine aa6 (V:=V.I ρ) (by rw[show ev (V.I ρ).t c=_ from L7.symm];simp only[X.I,Sc.I,H]) ?_
    exact dE (fun e' s' hq=>⟨hq.1,fp hq.2 aZ⟩) (jY hm a_ aP hb y aS V e s aM hf.2 (fun dx dA=>M dx (List.mem_append_right _ dA)) E)
  ·cases h
 | .block id c,B,V,e,aK,u,hf,M,h=>by
  unfold ck at h
  simp only[da]at hf
  obtain⟨s,A,aZ⟩:=vu (T.t_ (p:=fun p=>Ext V.t p.2.t) (fun p hp=>by
   unfold leave
   split
   ·split
    ·exact hp
    ·exact hp
   ·exact hp) (lY c B V)) h
  obtain⟨p,E,h3⟩:=T.je _ A
  obtain⟨e1,tY⟩:=p
  have g1:=jY hm a_ aP hb c B V e1 tY u hf M E
  refine aa5 (dE (fun e' s' hq => ?_) g1)
  obtain⟨rfl,sG⟩:=hq
  cases e1 with
  | normal=>cases h3;exact⟨rfl,fp sG aZ⟩
  | ret=>cases h3;exact⟨rfl,fp sG aZ⟩
  | exit j =>
   simp only[leave]at h3
   simp only[XE.to,Je]
   by_cases O:j=id
   ·subst O
    simp at h3
    rw[if_pos rfl]
    obtain⟨rfl,rfl⟩:=h3
    exact⟨rfl,fp sG aZ⟩
   ·rw[if_neg O]
    rw[if_neg (by simpa using O)]at h3
    cases h3
    exact⟨rfl,fp sG aZ⟩
 | .loop c,B,V,e,aK,u,hf,M,h=>by
  unfold ck at h
  simp only[da]at hf
  split at h
  ·obtain⟨s,A,aZ⟩:=vu UN h
   exact dE (fun e' s' hq=>⟨hq.1,fp hq.2 aZ⟩) (afJ hb (fun F B S e s aM hs=>jY (ρ:=F) hm a_ (aiZ P F) hb c B S e s aM hf (a1.nil _ _ _ _) hs) u A)
  split at h
  ·rename_i L Ls hL
   obtain⟨s,A,aZ⟩:=vu NJ h
   obtain⟨K,hK,A⟩:=V9 A
   exact dE (fun e' s' hq=>⟨hq.1,fp hq.2 aZ⟩) (ahY hb (M c List.mem_cons_self K (by rw[hL];exact hK)) u A)
  have key:∀(n:Nat) (B:J) (s:XS) (aK:XS),J.ok ρ B->Ext V.t s.t->(yd V.t (fun B V=>ck ti call ms k0 bN fuel c B V) n B s).aq ρ=some (e,aK)->jM P ac c (fun e' s=>e'=e.to/\dF ac s (aK.I ρ)) n (s.I ρ):=by
   intro n
   induction n with
   | zero=>intro B s aK _ _ h;cases h
   | succ n ih =>
    intro B s aK u hx h
    unfold yd at h
    obtain⟨s1,A,aZ⟩:=vu (T.nJ (p:=fun p=>Ext s.t p.2.t) (fun B p hp=>by
     split
     ·exact M5 (fun B V=>lY c B V) n B (zj V.t p.2) (tJ _ _ _ _)
     ·exact Ext.trans hx hp) (lY c B s)) h
    obtain⟨aS,p,aM,E,h3⟩:=T.cQ _ u A
    obtain⟨e1,tY⟩:=p
    have g1:=jY hm a_ aP hb c B s e1 tY u hf (fun dx dA=>M dx (List.mem_cons_of_mem _ dA)) E
    have hx1:Ext s.t tY.t:=by
     have:=lY (ti:=ti) (call:=call) (ms:=ms) (k0:=k0) (bN:=bN) (fuel:=fuel) c B s
     exact T.DN (p:=fun p:XE×XS=>Ext s.t p.2.t) this E
    refine aa4 (dE (fun e' s' hq => ?_) g1)
    obtain⟨rfl,sG⟩:=hq
    cases e1 with
    | normal =>
     simp only at h3
     have:=ih aS (zj V.t tY) s1 aM (tJ _ _ _ _) h3
     refine AWR_le (fp sG (arK (Ext.trans hx hx1))) (AWR_post (fun e' s' hq=>⟨hq.1,fp hq.2 aZ⟩) n _ this)
    | exit j=>cases h3;exact⟨rfl,fp sG aZ⟩
    | ret=>cases h3;exact⟨rfl,fp sG aZ⟩
  exact DL fuel (key fuel B V aK u (Ext.refl _) h)
 | .exit id,B,V,e,aK,u,_,_,h=>by cases h;exact aa9 ⟨rfl,BM _ _⟩
 | .ret,B,V,e,aK,u,_,_,h=>by cases h;exact DK ⟨rfl,BM _ _⟩
 | .rangeFunc _ _ _ _,_,_,_,_,_,_,_,h=>by cases h
 | .scope _,_,_,_,_,_,_,_,h=>by cases h
 | .goto _,_,_,_,_,_,_,_,h=>by cases h
 | .refuse _,_,_,_,_,_,_,_,h=>by cases h
where
 T.DN {ao:Type} {ρ:aa} {p:ao->Prop}:∀{t:T ao} {a:ao},t.c_ p->t.aq ρ=some a->p a
  | .ret a,_,h,hs=>by cases hs;exact h
  | .br c x y,a,h,hs=>by
   simp only[T.aq]at hs
   split at hs
   ·exact T.DN h.1 hs
   ·exact T.DN h.2 hs
  | .cL c x,a,h,hs=>by
   simp only[T.aq]at hs
   split at hs
   ·exact T.DN (t:=x) h hs
   ·cases hs
  | .fail _,_,_,hs=>by cases hs
 AWR_post {P:Program} {ac:Aw.Env} {c:Code} {Q Q':Exit->St->Prop} (hq:∀e s,Q e s->Q' e s):∀(n:Nat) (s:St),jM P ac c Q n s->jM P ac c Q' n s
  | 0,_,h=>h
  | n+1,s,h=>dE (fun e s' W=>by
    cases e with
    | normal=>exact AWR_post hq n s' W
    | _=>exact hq _ _ W) h
 AWR_le {P:Program} {ac:Aw.Env} {c:Code} {Q:Exit->St->Prop} {n:Nat} {s V:St} (h:dF ac s V) (u:jM P ac c Q n V):jM P ac c Q n s:=by
  cases n with
  | zero=>exact u
  | succ n=>exact p_ h u
end Go.Proofs.Xw
namespace Go.Proofs.Xw
open Go Go.Proofs.Aw
structure p' where
 body:Code
 results:List ResultVar
 ntmps:Nat
 ms:List Nat
def jk (P:Program) (f:FuncId) (i:p'):Prop:=∃fn,P.funcs[f]? = some fn/\fn.body=some i.body/\fn.results.toList=i.results/\fn.ntmps=i.ntmps/\da i.ntmps i.body=true/\b_ P f=true
def oI (ti:Nat->Option TI) (V:XS):List ResultVar->Option (List X)
 | []=>some []
 | .tmp i::rs=>(oI ti V rs).map (bY V.t i :: ·)
 | .cell p ty::rs=>match ti ty with
  | some i=>match Gf i V.h (bY V.t p),oI ti V rs with
   | some v,some vs=>some (v::vs)
   | _,_=>none
  | none=>none
theorem HH {P:Program} {ρ:aa} {ti:Nat->Option TI} (a_:eL.ok P ti) {V:XS}:∀{rs:List ResultVar} {vs:List X} {K:List AV->Prop},oI ti V rs=some vs->K (X.af ρ vs)->kK P (V.I ρ) rs K
 | [],vs,K,h,u=>by simp only[oI,Option.some.injEq]at h;subst h;exact u
 | .tmp i::rs,vs,K,h,u=>by
  simp only[oI]at h
  obtain⟨ws,hw,rfl⟩:=Option.map_eq_some_iff.1 h
  simp only[kK]
  refine HH a_ hw ?_
  simp only[XS.I,jf]
  exact u
 | .cell p ty::rs,vs,K,h,u=>by
  simp only[oI]at h
  split at h
  ·rename_i i hi
   have hi:=a_ _ _ hi
   subst hi
   split at h
   ·rename_i v ws A E
    cases h
    simp only[kK]
    have:=V1 (P:=P) (ρ:=ρ) (ty:=ty) A
    simp only[XS.I,jf]
    exact V0 this (HH a_ E u)
   ·cases h
  ·cases h
def yP:List X->X
 | [v]=>v
 | vs => .tup vs
theorem Xp (ρ:aa) (vs:List X):(yP vs).I ρ=oneOf (X.af ρ vs):=by
 match vs with
 | []=>rfl
 | [v]=>rfl
 | v::w::vs=>rfl
def rE:Nat->List X->ba
 | _,[]=>[]
 | i,v::vs=>(i,v)::rE (i+1) vs
theorem P' (ρ:aa):∀(i:Nat) (vs:List X),fm ρ (rE i vs)=gE i (X.af ρ vs)
 | _,[]=>rfl
 | i,v::vs=>by
  have:=P' ρ (i+1) vs
  simp only[fm]at this
  simp only[rE,fm,List.map_cons,gE,X.af,this]
def qj:T X->Option (BE×Option X)
 | .ret a=>some (.lit true,some a)
 | .br c x y=>match qj x,qj y with
  | some (p,some a),some (q,some b)=>match X.en c a b with
   | some z=>some (iq c p q,some z)
   | none=>none
  | some (p,some a),some (q,none)=>some (iq c p q,some a)
  | some (p,none),some (q,b)=>some (iq c p q,b)
  | _,_=>none
 | .cL c x=>match qj x with
  | some (p,a)=>some (mkAnd c p,a)
  | none=>none
 | .fail _=>some (.lit false,none)
theorem qk {ρ:aa}:∀{t:T X} {ok:BE} {o:Option X},qj t=some (ok,o)->ok.I ρ=true->∃a,t.aq ρ=some a/\(∀z,o=some z->z.I ρ=a.I ρ)/\(o=none->False)
 | .ret a,ok,o,h,_=>by
  simp only[qj,Option.some.injEq,Prod.mk.injEq]at h
  obtain⟨rfl,rfl⟩:=h
  exact⟨a,rfl,fun z hz=>by cases hz;rfl,fun hn=>by cases hn⟩
 | .br c x y,ok,o,h,a2=>by
  simp only[qj]at h
  simp only[T.aq]
  split at h
  ·rename_i p a q b A E
   split at h
   ·rename_i z hz
    cases h
    rw[kx]at a2
    have hd:=X.Ca (ρ:=ρ) _ _ _ hz
    split at a2
    ·rename_i H
     obtain⟨w,g1,g2,_⟩:=qk A a2
     rw[if_pos H]at hd ⊢
     exact⟨w,g1,fun z' jv=>by cases jv;rw[hd];exact g2 a rfl,fun hn=>by cases hn⟩
    ·rename_i H
     obtain⟨w,g1,g2,_⟩:=qk E a2
     rw[if_neg H]at hd ⊢
     exact⟨w,g1,fun z' jv=>by cases jv;rw[hd];exact g2 b rfl,fun hn=>by cases hn⟩
   ·cases h
  ·rename_i p a q A E
   cases h
   rw[kx]at a2
   split at a2
   ·rename_i H
    rw[if_pos H]
    exact qk A a2
   ·obtain⟨w,_,_,g3⟩:=qk E a2
    exact(g3 rfl).elim
  ·rename_i p q b A E
   cases h
   rw[kx]at a2
   split at a2
   ·obtain⟨w,_,_,g3⟩:=qk A a2
    exact(g3 rfl).elim
   ·rename_i H
    rw[if_neg H]
    exact qk E a2
  ·cases h
 | .cL c x,ok,o,h,a2=>by
  simp only[qj]at h
  split at h
  ·rename_i p a A
   cases h
   rw[fM,Bool.and_eq_true]at a2
   simp only[T.aq,a2.1,if_true]
   exact qk A a2.2
  ·cases h
 | .fail _,ok,o,h,a2=>by
  simp only[qj,Option.some.injEq,Prod.mk.injEq]at h
  rw[<-h.1]at a2
  simp[BE.I]at a2
def NT (t:T X):T X :=
 match t with
 | .ret a => .ret a
 | t=>match qj t with
  | some (.lit true,some a) => .ret a
  | some (c,some a) => .cL c (.ret a)
  | some (_,none) => .fail t.zz
  | none=>t
theorem ah8 {ρ:aa} {t:T X} {z:X} (h:(NT t).aq ρ=some z):∃a,t.aq ρ=some a/\z.I ρ=a.I ρ:=by
 unfold NT at h
 split at h
 ·cases h;exact⟨z,rfl,rfl⟩
 ·split at h
  ·rename_i a H
   cases h
   obtain⟨w,g1,g2,_⟩:=qk (ρ:=ρ) H rfl
   exact⟨w,g1,g2 _ rfl⟩
  ·rename_i c a _ H
   simp only[T.aq]at h
   split at h
   ·rename_i a2
    cases h
    obtain⟨w,g1,g2,_⟩:=qk (ρ:=ρ) H a2
    exact⟨w,g1,g2 _ rfl⟩
   ·cases h
  ·cases h
  ·exact⟨z,h,rfl⟩
mutual
def X.nn:X->Bool
 | .top | .k _ | .sc _ | .rl _ _ _ _ | .rows _ _ _ | .rn _ _ _ _ _ | .cJ _ _ _=>true
 | .tk _ _ _ D | .tq _ _ _ D _=>X.vO D
 | .slv _ _ _ _ _ | .dv _ _ _ _=>false
 | .agg cs | .tup cs | .ip cs _ _=>X.ly cs
 | .ptr _ _ _ | .sl _ _ _ _ _=>false
 | .ro _ D _=>X.vO D
 | .fn _ xs ys=>X.ly xs&&X.ly ys
 | .gd _ x=>x.nn
def X.ly:List X->Bool
 | []=>true
 | x::xs=>x.nn&&X.ly xs
def X.vO:List (List X)->Bool
 | []=>true
 | e::D=>X.ly e&&X.vO D
end
mutual
theorem X.kB {p:Nm->Bool} (ρ:aa):∀x:X,x.nn=true->Aw.b8 p (x.I ρ)=true
 | .top,_=>rfl
 | .k _,_=>rfl
 | .sc _,_=>rfl
 | .rl _ _ _ _,_=>ra
 | .rn _ _ _ _ _,_=>GO
 | .tk _ _ _ _,_=>rfl
 | .tq _ _ _ D _,h=>Ch rb (X.Ci ρ D h)
 | .cJ t o j,_=>Oz (ρ.ct t o _).2.1
 | .rows _ _ _,_=>rfl
 | .agg cs,h=>X.pE ρ cs h
 | .tup cs,h=>X.pE ρ cs h
 | .ip cs _ _,h=>X.pE ρ cs h
 | .ro _ D _,h=>X.Ci ρ D h
 | .fn _ xs ys,h=>by
  simp only[X.nn,Bool.and_eq_true]at h
  simp only[X.I,Aw.b8,X.pE ρ xs h.1,X.pE ρ ys h.2,Bool.and_self]
 | .ptr _ _ _,h=>by cases h
 | .sl _ _ _ _ _,h=>by cases h
 | .gd c x,h=>by
  simp only[X.I]
  split
  ·exact X.kB ρ x h
  ·rfl
theorem X.pE {p:Nm->Bool} (ρ:aa):∀l:List X,X.ly l=true->Aw.a4 p (X.af ρ l)=true
 | [],_=>rfl
 | x::xs,h=>by
  simp only[X.ly,Bool.and_eq_true]at h
  simp only[X.af,Aw.a4,X.kB ρ x h.1,X.pE ρ xs h.2,Bool.and_self]
theorem X.Ci {p:Nm->Bool} (ρ:aa):∀l:List (List X),X.vO l=true->Aw.cq p (X.aX ρ l)=true
 | [],_=>rfl
 | x::xs,h=>by
  simp only[X.vO,Bool.and_eq_true]at h
  simp only[X.aX,Aw.cq,X.pE ρ x h.1,X.Ci ρ xs h.2,Bool.and_self]
end
structure GK where
 f:Nat
 args:List X
 cp:au
 r:X
 d:aL
def c' (P:Program) (ρ:aa) (k:GK):Prop:=b_ P k.f=true/\CY P 1 k.f (X.af ρ k.args) (aO ρ k.cp) (k.r.I ρ) (bk ρ k.d)
def ua (P:Program) (k:Nat×Nat):Prop:=b_ P k.1=true/\∀(full:Bool) (n:Nat) (h:Hp),CY P n k.1 [.ro k.2 [] full] h (.ro k.2 [] false) []
def fx (ss:List ByteArray):List (List AV):=ss.map fun s=>[.sc (.string s)]
def o0 (P:Program) (f:Nat):Prop:=b_ P f=true/\∀(ss:List ByteArray) (f1 gu:Bool) (n:Nat) (h:Hp),ss.length<=4611686018427387904->CY P n f [.ro 1 (fx ss) f1,.ro 1 (fx ss) gu] h (.sc (.bool true)) []
structure h8 where
 ti:Nat->Option TI
 hD:Nat->Option p'
 fuel:Nat
 ks:List (Nat×List X×X)
 lp:Nat->List bf
 kh:List GK
 cl:List (Nat×Nat)
 k7:List Nat
structure bZ (P:Program) (ρ:aa) (c:h8):Prop where
 mixed:P.follows .mixedOrders=true
 ti:eL.ok P c.ti
 hD:∀f i,c.hD f=some i->jk P f i
 ks:∀p∈c.ks,b_ P p.1=true/\∀n h,CY P n p.1 (X.af ρ p.2.1) h (p.2.2.I ρ) []
 lp:∀f i,c.hD f=some i->a1 P ρ i.ntmps (c.lp f) i.body
 kh:∀k∈c.kh,c' P ρ k
 cl:∀k∈c.cl,ua P k
 k7:∀f∈c.k7,o0 P f
def B1 (f:Nat) (args:List X):List (Nat×List X×X)->Option X
 | []=>none
 | (g,aG,r)::l=>if(Nat.beq g f&&X.fh aG args)=true then some r else B1 f args l
theorem V3 {f:Nat} {args:List X} {r:X}:∀{l:List (Nat×List X×X)},B1 f args l=some r->(f,args,r)∈l
 | [],h=>by cases h
 | (g,aG,s)::l,h=>by
  simp only[B1]at h
  split at h
  ·rename_i H
   simp only[Bool.and_eq_true]at H
   cases h
   rw[<-Nat.eq_of_beq_eq_true H.1,<-X.gO _ _ H.2]
   exact List.mem_cons_self
  ·exact List.mem_cons_of_mem _ (V3 h)
def PI (c:h8) (call:bB) (f:Nat) (i:p') (args:List X) (B:J):T X :=
 if Nat.ble args.length i.ntmps=true then
  (ck c.ti call i.ms 0 (c.lp f) c.fuel i.body B ⟨rE 0 args,[],0⟩).bind B fun _ p=>match p.1 with
   | .exit _ => .fail ["exit"]
   | _=>eH ((oI c.ti p.2 i.results).map yP)
 else(.fail [])
theorem aq6 {P:Program} {ρ:aa} {c:h8} (H:bZ P ρ c) {call:bB} (aP:cS P ρ call) {f:FuncId} {i:p'} (hi:jk P f i) (u5:a1 P ρ i.ntmps (c.lp f) i.body) {args:List X} {B:J} (u:J.ok ρ B) {r:X} (h:(PI c call f i args B).aq ρ=some r) :
  args.length<=i.ntmps/\∀ac:Aw.Env,ac.N=i.ntmps->AW P ac i.body (DV P i.results (r.I ρ)) ⟨gE 0 (X.af ρ args),[],0⟩:=by
 unfold PI at h
 split at h
 ·rename_i M
  refine⟨by simpa using M,fun ac hE => ?_⟩
  obtain⟨fn,_,_,_,_,hf,_⟩:=hi
  obtain⟨aS,p,aM,A,E⟩:=T.cQ _ u h
  obtain⟨e,aK⟩:=p
  refine Rv fun hb => ?_
  have g:=jY (ac:=ac) H.mixed H.ti aP (k0:=0) hb i.body B _ e aK u (by rw[hE];exact hf) (by rw[hE];exact u5) A
  have eP:(XS.mk (rE 0 args) [] 0).I ρ=⟨gE 0 (X.af ρ args),[],0⟩:=by simp only[XS.I,P'];rfl
  have Lz:AW P ac i.body (fun e' s=>e'=e.to/\s=aK.I ρ) ⟨gE 0 (X.af ρ args),[],0⟩:=by
   rw[<-eP]
   intro a w hr
   exact Code.wp_mono (fun e' bz w' ⟨s,q1,q2,q3⟩=>⟨aK.I ρ,q3 bz w' q1,q2,rfl⟩) (g a w hr)
  have fin:∀{o:Option X},(eH ((oI c.ti aK i.results).map yP):T X).aq ρ=o->o=some r->kK P (aK.I ρ) i.results fun vs=>oneOf vs=r.I ρ:=by
   intro o h3 h4
   obtain⟨vs,R,rfl⟩:=Option.map_eq_some_iff.1 (e6 (h3.trans h4))
   exact HH H.ti R (Xp ρ vs).symm
  refine dE (fun e' s hq => ?_) Lz
  obtain⟨rfl,rfl⟩:=hq
  cases e with
  | exit id=>cases E
  | normal=>exact⟨.inr rfl,fin E rfl⟩
  | ret=>exact⟨.inl rfl,fin E rfl⟩
 ·cases h
def tj (c:h8) (call:bB) (f:Nat) (args:List X) (B:J):T (X×aL) :=
 match c.hD f with
 | some i => (NT (PI c call f i args B)).bind B fun _ r => if r.nn = true then .ret (r, []) else .fail ["names"]
 | none => .fail ["table"]
theorem CB {P:Program} {ρ:aa} {c:h8} (H:bZ P ρ c) {call:bB} (aP:cS P ρ call) {n:Nat} {f:FuncId} {args:List X} (ha:X.ly args=true) {h:Hp} {B:J} (u:J.ok ρ B) {r:X} {d:aL} (hs:(tj c call f args B).aq ρ=some (r,d)) :
  b_ P f=true/\CY P n f (X.af ρ args) h (r.I ρ) (bk ρ d):=by
 unfold tj at hs
 split at hs
 ·rename_i i hi
  have u5:=H.lp f i hi
  have hi:=H.hD f i hi
  obtain⟨_,z,_,A,E⟩:=T.cQ _ u hs
  obtain⟨a,h3,h4⟩:=ah8 A
  split at E
  ·rename_i hn
   cases E
   obtain⟨hlen,hb⟩:=aq6 H aP hi u5 u h3
   obtain⟨fn,g1,g2,g3,g4,_,g6⟩:=hi
   refine⟨g6,?_⟩
   rw[<-h4,<-g3,<-g4]at hb
   exact abg g1 g2 (by rw[X.f_,g4];exact hlen) (X.pE ρ args ha) (X.kB ρ _ hn) hb n h
  ·cases E
 ·cases hs
def Sf (c:h8):Nat->bB
 | 0=>fun _ _ _ _ _=>(.fail [])
 | d+1=>fun _ f args _ B=>match B1 f args c.ks with
  | some r => .ret (r,[])
  | none=>if X.ly args=true then tj c (Sf c d) f args B else(.fail [])
inductive BT (ao:Type) where
 | leaf
 | node (l:BT ao) (k:Nat) (v:ao) (r:BT ao)
def eB {ao:Type} (k:Nat):BT ao->Option ao
 | .leaf=>none
 | .node l j v r=>if Nat.beq j k=true then some v else if Nat.ble k j=true then eB k l else eB k r
def BT.mem {ao:Type} (p:Nat×ao):BT ao->Prop
 | .leaf=>False
 | .node l j v r=>p=(j,v)\/l.mem p\/r.mem p
theorem jU {ao:Type} {k:Nat} {v:ao}:∀{t:BT ao},eB k t=some v->t.mem (k,v)
 | .leaf,h=>by cases h
 | .node l j Y r,h=>by
  simp only[eB]at h
  split at h
  ·rename_i O;cases h;rw[Nat.eq_of_beq_eq_true O];exact .inl rfl
  ·split at h
   ·exact .inr (.inl (jU h))
   ·exact .inr (.inr (jU h))
def w4 {ao:Type} (l:List (Nat×ao)):Nat->BT ao
 | 0 => .leaf
 | d+1=>match l.drop (l.length / 2)with
  | [] => .leaf
  | (k,v)::r => .node (w4 (l.take (l.length / 2)) d) k v (w4 r d)
theorem jV {ao:Type} {p:Nat×ao}:∀(l:List (Nat×ao)) (d:Nat),(w4 l d).mem p->p∈l
 | l,0,h=>by cases h
 | l,d+1,h=>by
  simp only[w4]at h
  split at h
  ·cases h
  ·rename_i k v r G
   have hm:∀q∈(k,v)::r,q∈l:=fun q hq=>List.mem_of_mem_drop (by rw[G];exact hq)
   rcases h with h | h | h
   ·exact hm p (by rw[h];exact List.mem_cons_self)
   ·exact List.mem_of_mem_take (jV _ d h)
   ·exact hm p (List.mem_cons_of_mem _ (jV r d h))
def ask (c:h8) (d:Nat) (f:Nat) (args:List X):T X:=(Sf c d 0 f args [] []).map (·.1)
end Go.Proofs.Xw
namespace Go.Proofs.Xw
open Go Go.Proofs.Aw
def vL (m:Nm):List Nm->Bool
 | []=>false
 | k::l=>cN k m||vL m l
def ns (h:au):Nat->List Nm->List Nm->List Nm
 | 0,_,cK=>cK
 | _+1,[],cK=>cK
 | k+1,m::l,cK=>if vL m cK=true then ns h k l cK else match bh h m with
  | some cs=>ns h k (X.ls cs++l) (cK++[m])
  | none=>ns h k l cK
def ik (ak:List Nm):au->au
 | []=>[]
 | (m,v)::l=>if vL m ak=true then(m,v)::ik ak l else ik ak l
theorem Me (ak:List Nm) (m:Nm):∀h:au,bh (ik ak h) m=if vL m ak=true then bh h m else none
 | []=>by simp[ik,bh]
 | (k,v)::l=>by
  have ih:=Me ak m l
  simp only[ik]
  by_cases u:cN k m=true
  ·have:=eu u
   subst this
   by_cases hw:vL k ak=true
   ·simp only[hw,if_true,bh,u]
   ·simp only[hw]at ih ⊢
    simpa using ih
  ·by_cases hw:vL k ak=true
   ·simp only[hw,if_true,bh,u]
    simpa using ih
   ·simp only[hw,bh,u]
    simpa using ih
theorem mc:∀(h:au) (m:Nm) (cs:List X),bh h m=some cs->(m,cs)∈h
 | [],_,_,h=>by cases h
 | (k,v)::l,m,cs,h=>by
  simp only[bh]at h
  split at h
  ·rename_i e;have:=eu e;subst this;cases h;exact List.mem_cons_self
  ·exact List.mem_cons_of_mem _ (mc l m cs h)
def Vt (m:Nm):List Nm->Nat->Option Nat
 | [],_=>none
 | k::l,i=>if cN k m=true then some i else Vt m l (i+1)
def Ok (n:Nat) (ne:Nm->Nm) (A:au):Nat->List Nm->aL
 | _,[]=>[]
 | k,m::l=>match bh A m with
  | some cs=>((n,k),some (X.bu ne cs))::Ok n ne A (k+1) l
  | none=>Ok n ne A (k+1) l
def yH (n:Nat) (hs:au) (m:Nm):Bool:=Nat.beq m.1 n||(bh hs m).isSome
def ON (n:Nat) (aE:Nat->Nm) (hs h A:au) (r r':X) (d:aL):Bool :=
 let p:=yH n hs
 let h':=ij d h
 d.all (fun q=>p q.1)&&(hs.all (fun q=>d.any fun e=>cN e.1 q.1)&&(r'.b8 p&&(X.beq (r'.aW (hU n aE)) r &&
  (h'.all (fun q => !p q.1||(X.a4 p q.2&&match bh A (hU n aE q.1)with | some cs=>X.fh (X.bu (hU n aE) q.2) cs | none=>false)) &&
  h'.all (fun q => !Nat.beq q.1.1 n||(Nat.blt n (aE q.1.2).1&&h'.all fun e => !Nat.beq e.1.1 n||(!cN (aE q.1.2) (aE e.1.2)||Nat.beq q.1.2 e.1.2)))))))
def LW (n:Nat) (ak:List Nm) (hs h:au) (A:au) (r:X):T (X×aL) :=
 let L:=(ns A 200 (r.names++ak) []).filter fun m => !vL m ak
 let ne:Nm->Nm:=fun m=>match Vt m L 0 with | some k=>(n,k) | none=>m
 let aE:Nat->Nm:=fun k=>(L[k]?).getD (n+1,0)
 let d:aL:=(ak.map fun m=>(m,(bh A m).map (X.bu ne)))++Ok n ne A 0 L
 if ON n aE hs h A r (r.aW ne) d = true then .ret (r.aW ne, d) else .fail ["hand"]
def sA (c:h8) (call:bB) (n:Nat) (f:Nat) (args:List X) (h:au) (B:J):T (X×aL) :=
 match c.hD f with
 | some i =>
  let ak:=ns h 200 (X.ls args) []
  let hs:=ik ak h
  if(Nat.ble args.length i.ntmps&&(X.a4 (fun k=>Nat.blt k.1 n) args&&hs.all fun q=>Nat.blt q.1.1 n&&X.a4 (fun k=>Nat.blt k.1 n) q.2))=true then
   (oj (rE 0 args) (ck c.ti call i.ms (n+1) (c.lp f) c.fuel i.body B ⟨rE 0 args,hs,n+1⟩)).bind B fun _ p=>match p.1 with
    | .exit _ => .fail ["exit"]
    | _=>match oI c.ti p.2 i.results with
     | some vs=>LW n ak hs h p.2.h (yP vs)
     | none => .fail ["res"]
  else .fail ["heap"]
 | none => .fail ["table"]
theorem Cg (ρ:aa) (n:Nat) (hs:au):yH n hs=d' n (aO ρ hs):=by
 funext m
 simp only[yH,d',cG,Option.isSome_map]
 have:Nat.beq m.1 n=(m.1==n):=by rw[Bool.eq_iff_iff];simp
 rw[this]
theorem akR {P:Program} {ρ:aa} {f:FuncId} {fn:Func} {c:Code} {args:List X} {r r':X} {n:Nat} {ak:List Nm} {h A:au} {d:aL} {aE:Nat->Nm} (hf:P.funcs[f]? = some fn) (hb:fn.body=some c) (hN:args.length<=fn.ntmps)
  (aQ:((ik ak h).all fun q=>Nat.blt q.1.1 n&&X.a4 (fun k=>Nat.blt k.1 n) q.2)=true) (hA:X.a4 (fun k=>Nat.blt k.1 n) args=true) (a2:ON n aE (ik ak h) h A r r' d=true)
  (bD:∀ac:Aw.Env,ac.N=fn.ntmps->AW P ac c (fun e V=>(e = .ret\/e = .normal)/\(kK P V fn.results.toList fun vs=>oneOf vs=r.I ρ)/\V.h=aO ρ A) ⟨gE 0 (X.af ρ args),aO ρ (ik ak h),n+1⟩) :
  CY P n f (X.af ρ args) (aO ρ h) (r'.I ρ) (bk ρ d):=by
 simp only[ON,Bool.and_eq_true,List.all_eq_true,Bool.or_eq_true,Bool.not_eq_true',List.any_eq_true]at a2
 obtain⟨q1,q2,q3,q4,q5,q6⟩:=a2
 have q4:=X.beq_eq _ _ q4
 have iR:∀m,ae (aD (bk ρ d) (aO ρ h)) m=(bh (ij d h) m).map (aA ρ):=fun m=>by rw[<-o7,cG]
 have present:∀k,(ae (aD (bk ρ d) (aO ρ h)) (n,k)).isSome=true->∃cs,((n,k),cs)∈ij d h:=fun k u=>by
  rw[iR,Option.isSome_map]at u
  obtain⟨cs,aI⟩:=Option.isSome_iff_exists.1 u
  exact⟨cs,mc _ _ _ aI⟩
 refine RB (hs:=aO ρ (ik ak h)) aE hf hb (by rw[X.f_];exact hN) (fun m cs Z => ?_) (fun m cs Z => ?_) (X.pB ρ args hA) (fun m hm => ?_) (fun m hm => ?_) ?_ (fun m cs Z hp => ?_) (fun k u => ?_) (fun j k O u G => ?_) (fun ac hE => ?_)
 ·rw[cG,Me]at Z
  rw[cG]
  split at Z
  ·exact Z
  ·cases Z
 ·rw[cG]at Z
  obtain⟨bn,E,rfl⟩:=Option.map_eq_some_iff.1 Z
  have:=List.all_eq_true.1 aQ _ (mc _ _ _ E)
  simp only[Bool.and_eq_true,Nat.blt_eq]at this
  exact⟨this.1,X.vM ρ _ this.2⟩
 ·simp only[bk,List.map_map,List.mem_map]at hm
  obtain⟨q,hq,rfl⟩:=hm
  have:=q1 q hq
  simp only[yH,Bool.or_eq_true]at this
  rcases this with E | E
  ·exact .inl (Nat.eq_of_beq_eq_true E)
  ·right;rw[cG,Option.isSome_map];exact E
 ·rw[cG,Option.isSome_map]at hm
  obtain⟨cs,aI⟩:=Option.isSome_iff_exists.1 hm
  obtain⟨e,G,E⟩:=q2 _ (mc _ _ _ aI)
  simp only[bk,List.map_map,List.mem_map]
  exact⟨e,G,eu E⟩
 ·rw[<-Cg];exact X.vN ρ _ q3
 ·rw[iR]at Z
  obtain⟨bn,E,rfl⟩:=Option.map_eq_some_iff.1 Z
  rw[<-Cg]at hp ⊢
  rcases q5 _ (mc _ _ _ E)with h3 | h3
  ·rw[hp]at h3;cases h3
  ·exact X.vM ρ _ h3.1
 ·obtain⟨cs,aI⟩:=present k u
  rcases q6 _ aI with h3 | h3
  ·simp at h3
  ·simpa using h3.1
 ·obtain⟨cs,aI⟩:=present j O
  obtain⟨bn,qy⟩:=present k u
  rcases q6 _ aI with h3 | h3
  ·simp at h3
  ·rcases h3.2 _ qy with h4 | h4
   ·simp at h4
   ·rcases h4 with h4 | h4
    ·simp only at h4
     rw[G]at h4
     simp[cN]at h4
    ·exact Nat.eq_of_beq_eq_true h4
 ·refine dE (fun e V hq=>⟨hq.1,?_,fun m cs Z hp => ?_⟩) (bD ac hE)
  ·rw[<-X.HG,q4];exact hq.2.1
  ·rw[iR]at Z
   obtain⟨bn,E,rfl⟩:=Option.map_eq_some_iff.1 Z
   rw[<-Cg]at hp
   rcases q5 _ (mc _ _ _ E)with h3 | h3
   ·rw[hp]at h3;cases h3
   ·have h4:=h3.2
    simp only at h4
    split at h4
    ·rename_i cs'' h5
     have h6:=X.gO _ _ h4
     rw[hq.2.2,cG,h5,Option.map_some,<-h6,X.Pp]
    ·cases h4
theorem xT {P:Program} {ρ:aa} {c:h8} (H:bZ P ρ c) {call:bB} (aP:cS P ρ call) {n:Nat} {f:FuncId} {args:List X} {h:au} {B:J} (u:J.ok ρ B) {r:X} {d:aL} (hs:(sA c call n f args h B).aq ρ=some (r,d)) :
  b_ P f=true/\CY P n f (X.af ρ args) (aO ρ h) (r.I ρ) (bk ρ d):=by
 unfold sA at hs
 split at hs
 ·rename_i i hi
  have u5:=H.lp f i hi
  have hi:=H.hD f i hi
  simp only at hs
  split at hs
  ·rename_i L1
   simp only[Bool.and_eq_true]at L1
   obtain⟨M,hA,aQ⟩:=L1
   obtain⟨fn,g1,g2,g3,g4,g5,g6⟩:=hi
   refine⟨g6,?_⟩
   obtain⟨aS,p,aM,A,E⟩:=T.cQ _ u hs
   obtain⟨e,aK⟩:=p
   obtain⟨s1,h3,aZ⟩:=vu (lY i.body B ⟨rE 0 args,ik (ns h 200 (X.ls args) []) h,n+1⟩) A
   have eP:(XS.mk (rE 0 args) (ik (ns h 200 (X.ls args) []) h) (n+1)).I ρ=⟨gE 0 (X.af ρ args),aO ρ (ik (ns h 200 (X.ls args) []) h),n+1⟩:=by simp only[XS.I,P']
   have key:∀vs,oI c.ti aK i.results=some vs->(e = .ret\/e = .normal)->∀ac:Aw.Env,ac.N=fn.ntmps->AW P ac i.body (fun e V=>(e = .ret\/e = .normal)/\(kK P V fn.results.toList fun ch=>oneOf ch=(yP vs).I ρ)/\V.h=aO ρ aK.h) ⟨gE 0 (X.af ρ args),aO ρ (ik (ns h 200 (X.ls args) []) h),n+1⟩:=fun vs iW G ac hE=>by
    refine Rv fun hb => ?_
    have g:=jY (ac:=ac) H.mixed H.ti aP (k0:=n+1) hb i.body B _ e s1 u (by rw[hE,g4];exact g5) (by rw[hE,g4];exact u5) h3
    unfold zM at g
    rw[eP]at g
    have Lz:AW P ac i.body (fun e' s=>e'=e.to/\s=aK.I ρ) ⟨gE 0 (X.af ρ args),aO ρ (ik (ns h 200 (X.ls args) []) h),n+1⟩:=by
     intro a w hr
     exact Code.wp_mono (fun e' bz w' ⟨s,q1,q2,q3⟩=>⟨aK.I ρ,(fp q3 aZ) bz w' q1,q2,rfl⟩) (g a w hr)
    refine dE (fun e' s hq => ?_) Lz
    obtain⟨rfl,rfl⟩:=hq
    refine⟨by rcases G with rfl | rfl<;>simp[XE.to],?_,rfl⟩
    rw[g3]
    exact HH H.ti iW (Xp ρ vs).symm
   have fin:∀vs,oI c.ti aK i.results=some vs->(e = .ret\/e = .normal)->(LW n (ns h 200 (X.ls args) []) (ik (ns h 200 (X.ls args) []) h) h aK.h (yP vs)).aq ρ=some (r,d)->CY P n f (X.af ρ args) (aO ρ h) (r.I ρ) (bk ρ d):=fun vs iW G W=>by
    unfold LW at W
    simp only at W
    split at W
    ·rename_i a2
     cases W
     exact akR g1 g2 (by rw[g4];simpa using M) aQ hA a2 (key vs iW G)
    ·cases W
   cases e with
   | exit id=>cases E
   | normal =>
    simp only at E
    split at E
    ·rename_i vs iW;exact fin vs iW (.inr rfl) E
    ·cases E
   | ret =>
    simp only at E
    split at E
    ·rename_i vs iW;exact fin vs iW (.inl rfl) E
    ·cases E
  ·cases hs
 ·cases hs
mutual
def WL:X->X->List (Nm×Nm)->List (Nm×Nm)
 | .ptr a _ _,.ptr b _ _,l=>(a,b)::l
 | .sl a _ _ _ _,.sl b _ _ _ _,l=>(a,b)::l
 | .slv a _ _ _ _,.sl b _ _ _ _,l=>(a,b)::l
 | .slv a _ _ _ _,.slv b _ _ _ _,l=>(a,b)::l
 | .dv a _ _ _,.dv b _ _ _,l=>(a,b)::l
 | .agg xs,.agg ys,l=>q_ xs ys l
 | .fn _ xs us,.fn _ ys vs,l=>q_ xs ys (q_ us vs l)
 | _,_,l=>l
def q_:List X->List X->List (Nm×Nm)->List (Nm×Nm)
 | x::xs,y::ys,l=>WL x y (q_ xs ys l)
 | _,_,l=>l
end
def GL (h:au):au->List (Nm×Nm)->List (Nm×Nm)
 | [],cK=>cK
 | (m,cs)::r,cK=>GL h r (match bh h (eZ cK m)with
  | some ds=>q_ cs ds cK
  | none=>cK)
def Xh (n:Nat) (aE cw:Nm->Nm) (k:GK) (args:List X) (hs h:au) (r:X) (d:aL):Bool :=
 let p:=yH n hs
 X.a4 (fun m=>Nat.blt m.1 1) k.args&&(X.fh (X.bu aE k.args) args&&(k.cp.all (fun q=>Nat.blt q.1.1 1&&(X.a4 (fun m=>Nat.blt m.1 1) q.2&&(match bh hs (aE q.1)with | some ds=>X.fh (X.bu aE q.2) ds | none=>false))) &&
 (hs.all (fun q=>(bh k.cp (cw q.1)).isSome&&cN (aE (cw q.1)) q.1)&&(vq aE (k.cp.map (·.1))&&(d.all (fun q=>p q.1)&&(hs.all (fun q=>d.any fun e=>cN e.1 q.1)&&(r.b8 p&&(X.beq (r.aW cw) k.r &&
 (ij d h).all (fun q => !p q.1||(X.a4 p q.2&&match bh (ij k.d k.cp) (cw q.1)with | some cs=>X.fh (X.bu cw q.2) cs | none=>false))))))))))
def QP (n:Nat) (args:List X) (h:au) (k:GK):Option (X×aL) :=
 let nm:=GL h k.cp (q_ k.args args [])
 let aE:=eZ nm
 let inv:=nm.map fun q=>(q.2,q.1)
 let ne:Nm->Nm:=fun m=>if Nat.beq m.1 1=true then(n,m.2)else aE m
 let cw:Nm->Nm:=fun m=>if Nat.beq m.1 n=true then(1,m.2)else eZ inv m
 let hs:=ik (k.cp.map fun q=>aE q.1) h
 let r:=k.r.aW ne
 let d:aL:=k.d.map fun q=>(ne q.1,q.2.map (X.bu ne))
 if Xh n aE cw k args hs h r d=true then some (r,d)else none
theorem agO {aE:Nm->Nm} {g:au} (h:vq aE (g.map (·.1))=true):∀m m',(bh g m).isSome=true->(bh g m').isSome=true->aE m=aE m'->m=m':=fun m m' hm a0 G=>by
 obtain⟨cs,aI⟩:=Option.isSome_iff_exists.1 hm
 obtain⟨bn,qy⟩:=Option.isSome_iff_exists.1 a0
 exact FP h m (List.mem_map.2 ⟨_,mc _ _ _ aI,rfl⟩) m' (List.mem_map.2 ⟨_,mc _ _ _ qy,rfl⟩) G
theorem atD {P:Program} {ρ:aa} {n:Nat} {args:List X} {h:au} {k:GK} {r:X} {d:aL} (u:c' P ρ k) (hq:QP n args h k=some (r,d)):CY P n k.f (X.af ρ args) (aO ρ h) (r.I ρ) (bk ρ d):=by
 unfold QP at hq
 simp only at hq
 split at hq
 ·rename_i a2
  simp only[Option.some.injEq,Prod.mk.injEq]at hq
  obtain⟨hr,hd⟩:=hq
  rw[hr,hd]at a2
  generalize Vq:eZ (GL h k.cp (q_ k.args args []))=aE at a2
  generalize m8:ik (k.cp.map fun q=>aE q.1) h=hs at a2
  generalize agB:(fun m:Nm=>if Nat.beq m.1 n=true then(1,m.2)else eZ ((GL h k.cp (q_ k.args args [])).map fun q=>(q.2,q.1)) m)=cw at a2
  have Rt:∀j,cw (n,j)=(1,j):=fun j=>by rw[<-agB];simp
  simp only[Xh,Bool.and_eq_true,List.all_eq_true,Bool.or_eq_true,Bool.not_eq_true',List.any_eq_true,Nat.blt_eq]at a2
  obtain⟨q1,q2,q3,q4,q5,q6,q7,v4,apg,q10⟩:=a2
  have iR:∀m,ae (aD (bk ρ d) (aO ρ h)) m=(bh (ij d h) m).map (aA ρ):=fun m=>by rw[<-o7,cG]
  have af2:∀m,ae (aD (bk ρ k.d) (aO ρ k.cp)) m=(bh (ij k.d k.cp) m).map (aA ρ):=fun m=>by rw[<-o7,cG]
  refine RA (hs:=aO ρ hs) aE cw u.2 (X.pB ρ _ (by simpa using q1)) (by rw[<-X.rr,X.gO _ _ q2]) (fun m cs Z => ?_) (fun m hm => ?_) (fun m m' hm a0 G => ?_) (fun m cs Z => ?_) (fun m hm => ?_) (fun m hm => ?_) ?_ ?_ (fun m cs Z hp => ?_) (fun j _=>by rw[Rt];exact Nat.le_refl _) (fun i j _ _ G => ?_)
  ·rw[cG]at Z
   obtain⟨bn,E,rfl⟩:=Option.map_eq_some_iff.1 Z
   obtain⟨g1,g2,g3⟩:=q3 _ (mc _ _ _ E)
   refine⟨g1,X.vM ρ _ g2,?_⟩
   split at g3
   ·rename_i ds i5
    rw[cG,i5,Option.map_some,<-X.gO _ _ g3,X.Pp]
   ·cases g3
  ·rw[cG,Option.isSome_map]at hm ⊢
   obtain⟨cs,aI⟩:=Option.isSome_iff_exists.1 hm
   obtain⟨g1,g2⟩:=q4 _ (mc _ _ _ aI)
   exact⟨g1,eu g2⟩
  ·rw[cG,Option.isSome_map]at hm a0
   exact agO q5 m m' hm a0 G
  ·rw[<-m8,cG,Me]at Z
   rw[cG]
   split at Z
   ·exact Z
   ·cases Z
  ·simp only[bk,List.map_map,List.mem_map]at hm
   obtain⟨q,hq,rfl⟩:=hm
   have:=q6 q hq
   simp only[yH,Bool.or_eq_true]at this
   rcases this with E | E
   ·exact .inl (Nat.eq_of_beq_eq_true E)
   ·right;rw[cG,Option.isSome_map];exact E
  ·rw[cG,Option.isSome_map]at hm
   obtain⟨cs,aI⟩:=Option.isSome_iff_exists.1 hm
   obtain⟨e,G,E⟩:=q7 _ (mc _ _ _ aI)
   simp only[bk,List.map_map,List.mem_map]
   exact⟨e,G,eu E⟩
  ·rw[<-Cg];exact X.vN ρ _ v4
  ·rw[<-X.HG,X.beq_eq _ _ apg]
  ·rw[iR]at Z
   obtain⟨bn,E,rfl⟩:=Option.map_eq_some_iff.1 Z
   rw[<-Cg]at hp ⊢
   rcases q10 _ (mc _ _ _ E)with h3 | h3
   ·rw[hp]at h3;cases h3
   ·refine⟨X.vM ρ _ h3.1,?_⟩
    have h4:=h3.2
    split at h4
    ·rename_i cs'' h5
     rw[af2,h5,Option.map_some,<-X.gO _ _ h4,X.Pp]
    ·cases h4
  ·rw[Rt,Rt]at G
   exact(Prod.mk.inj G).2
 ·cases hq
def yr (n f:Nat) (args:List X) (h:au):List GK->Option (X×aL)
 | []=>none
 | k::l=>if Nat.beq k.f f=true then(match QP n args h k with
  | some q=>some q
  | none=>yr n f args h l)else yr n f args h l
theorem Gi {P:Program} {ρ:aa} {n f:Nat} {args:List X} {h:au} {r:X} {d:aL}:∀{l:List GK},(∀k∈l,c' P ρ k)->yr n f args h l=some (r,d)->b_ P f=true/\CY P n f (X.af ρ args) (aO ρ h) (r.I ρ) (bk ρ d)
 | [],_,hq=>by cases hq
 | k::l,u,hq=>by
  have aM:∀k∈l,c' P ρ k:=fun t ht=>u t (List.mem_cons_of_mem _ ht)
  simp only[yr]at hq
  split at hq
  ·rename_i hf
   have hf:=Nat.eq_of_beq_eq_true hf
   split at hq
   ·rename_i q hu
    cases hq
    rw[<-hf]
    exact⟨(u k List.mem_cons_self).1,atD (u k List.mem_cons_self) hu⟩
   ·exact Gi aM hq
  ·exact Gi aM hq
end Go.Proofs.Xw
