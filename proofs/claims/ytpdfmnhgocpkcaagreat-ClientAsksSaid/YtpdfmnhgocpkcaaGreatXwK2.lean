/- Parts of the logic that the proof runs in, one behind the other. -/
import Derived.Test.YtpdfmnhgocpkcaaGreatXwK1
import Derived.Test.YtpdfmnhgocpkcaaGreatAwK2
namespace Go.Proofs.Xw
open Go Go.Proofs.Aw
abbrev bI:=Nat->FuncId->List X->av->J->T (X×aN)
def dk (P:Program) (ρ:aa) (call:bI):Prop:=∀n f args h B r d,J.ok ρ B->(call n f args h B).aq ρ=some (r,d)->cj P f=true/\CY P n f (X.af ρ args) (aK ρ h) (r.I ρ) (bn ρ d)
def pk (ti:Nat->Option TI) (call:bI) (n:Nat) (mu:Bool) (g:Nat->X) (h:av) (B:J) (op:Op):T (X×aN) :=
 (Qo ti n mu (fun i=>strip B (g i)) h B op).bind B fun B a=>match a with
  | .ok r d => .ret (r,d)
  | .call f args=>call n f args h B
theorem xC {P:Program} {ρ:aa} {ti:Nat->Option TI} (bb:eO.ok P ti) {call:bI} (aO:dk P ρ call) {n:Nat} {mu:Bool} {g:Nat->X} {t:Tp} (Z:∀i,(g i).I ρ=bU t i) {h:av} {B:J} (u:J.ok ρ B) {op:Op} {r:X} {d:aN}
  (hs:(pk ti call n mu g h B op).aq ρ=some (r,d)):Aw.Yields P n op t (aK ρ h) (r.I ρ) (bn ρ d):=by
 obtain⟨aQ,a,aJ,A,E⟩:=T.cZ _ u hs
 have Vp:=arD bb (g:=fun i=>strip B (g i)) (fun i=>(Qu u (g i)).trans (Z i)) u A
 cases a with
 | ok r' gx=>cases E;exact Vp
 | call f args =>
  obtain⟨hb,qX⟩:=aO _ _ _ _ _ _ _ aJ E
  obtain⟨r',gx,hy,h3,h4⟩:=Qn (ZB (K:=fun a b=>a=r.I ρ/\b=bn ρ d) Vp ⟨_,_,hb,qX,rfl,rfl⟩)
  subst h3 h4;exact hy
structure XS where
 t:bf
 h:av
 nx:Nat
noncomputable def XS.I (ρ:aa) (V:XS):St:=⟨ep ρ V.t,aK ρ V.h,V.nx⟩
def uq (ops:List Oper) (g:Nat->X) (j:Nat):X :=
 match(ops[j]?).bind (·.dst)with
 | some d=>g d
 | none => .top
theorem Rr {ρ:aa} {ops:List Oper} {g:Nat->X} {t:Tp} (Z:∀i,(g i).I ρ=bU t i) (j:Nat):(uq ops g j).I ρ=yv ops t j:=by
 unfold uq yv
 split
 ·rename_i d h;rw[h];exact Z d
 ·rename_i h;rw[h];rfl
def quiet:T (X×aN)->Option (BE×X)
 | .ret (r,[])=>some (.lit true,r)
 | .cT p (.ret (r,[]))=>some (p,r)
 | _=>none
theorem HS {ρ:aa} {t:T (X×aN)} {p:BE} {r:X} (h:quiet t=some (p,r)) (hp:p.I ρ=true):t.aq ρ=some (r,[]):=by
 unfold quiet at h
 split at h
 ·cases h;rfl
 ·cases h;simp only[T.aq,hp,if_true]
 ·cases h
def Ra (want':Bool):X->Option BE
 | .sc (.b c)=>some (if want'=true then c else mkNot c)
 | .gd d (.sc (.b c))=>some (mkAnd d (if want'=true then c else mkNot c))
 | .k (.tuple _)=>some (.lit false)
 | _=>none
theorem atV {ρ:aa} {want':Bool} {v:X} {e:BE} (h:Ra want' v=some e):(e.I ρ=true->v.I ρ = .sc (.bool want'))/\(e.I ρ=false->(∃b,v.I ρ = .sc (.bool b)/\b≠want')\/∃x,v.I ρ = .sc (.tuple x)):=by
 have ln:∀c:BE,(if want'=true then c else mkNot c).I ρ=(c.I ρ==want'):=fun c=>by
  cases want' with
  | true=>rw[if_pos rfl];cases BE.I ρ c<;>rfl
  | false=>rw[if_neg (by simp),eA];cases BE.I ρ c<;>rfl
 unfold Ra at h
 split at h
 ·rename_i c
  cases h
  rw[ln]
  refine⟨fun W => ?_,fun W => .inl ⟨c.I ρ,rfl,by simpa using W⟩⟩
  simp only[beq_iff_eq]at W
  simp only[X.I,Sc.I,W]
 ·rename_i d c
  cases h
  rw[fQ,ln]
  simp only[X.I,Sc.I]
  cases hd:d.I ρ with
  | true =>
   refine⟨fun W => ?_,fun W => .inl ⟨c.I ρ,rfl,by simpa using W⟩⟩
   simp only[Bool.true_and,beq_iff_eq]at W
   simp only[if_true,W]
  | false=>exact⟨fun W=>by simp at W,fun _ => .inr ⟨#[],rfl⟩⟩
 ·rename_i x
  cases h
  exact⟨fun W=>by simp[BE.I]at W,fun _ => .inr ⟨x,rfl⟩⟩
 ·cases h
def xR {am:Type} (B:J) (v:X) (want':Bool) (run:J->T (X×aN)) (go:J->X->aN->T am) (skip:J->T am) (both:J->X->T am):T am :=
 match Ra want' v with
 | some e=>match red B e with
  | .lit true=>(run B).bind B fun B p=>go B p.1 p.2
  | .lit false=>skip B
  | d=>match quiet (run (assume d true B))with
   | some (p,r)=>want B (mkOr (mkNot d) p) fun B=>both B (.gd d r)
   | none => .br d ((run (assume d true B)).bind (assume d true B) fun B p=>go B p.1 p.2) (skip (assume d false B))
 | none => .fail ["guard"]
theorem Zr {am:Type} {ρ:aa} {B:J} {v:X} {want':Bool} {run:J->T (X×aN)} {go:J->X->aN->T am} {skip:J->T am} {both:J->X->T am} {a:am} (u:J.ok ρ B) (h:(xR B v want' run go skip both).aq ρ=some a) :
  (v.I ρ = .sc (.bool want')/\∃dl aQ r d,J.ok ρ dl/\J.ok ρ aQ/\(run dl).aq ρ=some (r,d)/\(go aQ r d).aq ρ=some a) \/
  (((∃b,v.I ρ = .sc (.bool b)/\b≠want')\/∃x,v.I ρ = .sc (.tuple x))/\∃aQ,J.ok ρ aQ/\(skip aQ).aq ρ=some a) \/
  (∃aQ y,J.ok ρ aQ/\(both aQ y).aq ρ=some a/\((v.I ρ = .sc (.bool want')/\∃dl r,J.ok ρ dl/\(run dl).aq ρ=some (r,[])/\y.I ρ=r.I ρ)\/(((∃b,v.I ρ = .sc (.bool b)/\b≠want')\/∃x,v.I ρ = .sc (.tuple x))/\y.I ρ = .sc undef))):=by
 unfold xR at h
 split at h
 ·rename_i e hw
  obtain⟨DR,no⟩:=atV (ρ:=ρ) hw
  have hr:=dc u e
  rw[<-hr]at DR no
  split at h
  ·rename_i hd
   rw[hd]at DR
   obtain⟨aQ,p,aJ,A,E⟩:=T.cZ _ u h
   exact .inl ⟨DR rfl,B,aQ,p.1,p.2,u,aJ,A,E⟩
  ·rename_i hd
   rw[hd]at no
   exact .inr (.inl ⟨no rfl,B,u,h⟩)
  ·rename_i d xZ x0
   split at h
   ·rename_i p r hq
    obtain⟨aQ,aJ,A,E⟩:=c4 u h
    rw[oI,eA]at A
    refine .inr (.inr ⟨aQ,_,aJ,E,?_⟩)
    by_cases oh:(red B e).I ρ=true
    ·rw[oh]at A
     refine .inl ⟨DR oh,_,r,gu _ true B oh u,HS hq (by simpa using A),?_⟩
     simp only[X.I,oh,if_true]
    ·have Bu:(red B e).I ρ=false:=Bool.eq_false_iff.2 oh
     refine .inr ⟨no Bu,?_⟩
     simp only[X.I,Bu];rfl
   ·simp only[T.aq]at h
    by_cases oh:(red B e).I ρ=true
    ·rw[if_pos oh]at h
     have bt:=gu _ true B oh u
     obtain⟨aQ,p,aJ,A,E⟩:=T.cZ _ bt h
     exact .inl ⟨DR oh,_,aQ,p.1,p.2,bt,aJ,A,E⟩
    ·rw[if_neg oh]at h
     have Bu:(red B e).I ρ=false:=Bool.eq_false_iff.2 oh
     exact .inr (.inl ⟨no Bu,_,gu _ false B Bu u,h⟩)
 ·cases h
def m8 (ti:Nat->Option TI) (call:bI) (ms:List Nat) (ops:List Oper):List Oper->J->XS->T XS
 | [],_,V => .ret V
 | o::l,B,V =>
  let run:J->T (X×aN):=fun B=>tm o.pos (pk ti call V.nx (o.dst.any ms.contains) (b3 V.t) V.h B o.op)
  let go:J->X->aN->T XS:=fun B r d=>m8 ti call ms ops l B ⟨nI o.dst r V.t,iz d V.h,V.nx+1⟩
  match o.guard with
  | none=>(run B).bind B fun B p=>go B p.1 p.2
  | some (j,want)=>xR B (uq ops (b3 V.t) j) want run go (fun B=>m8 ti call ms ops l B ⟨nI o.dst (.k undef) V.t,V.h,V.nx⟩) (fun B y=>m8 ti call ms ops l B ⟨nI o.dst y V.t,V.h,V.nx+1⟩)
theorem Rel.nx {ac:Aw.Env} {t:Tp} {h:Hp} {n n':Nat} {a:Act} {w:World} (hn:n<=n') (hr:Rel ac ⟨t,h,n⟩ a w):Rel ac ⟨t,h,n'⟩ a w:=by
 obtain⟨C,rfl,hC⟩:=hr
 exact⟨C,rfl,hC.heap,hC.t,hC.size,hC.defers,fun m hm=>Nat.lt_of_lt_of_le (hC.kn m hm) hn,hC.frame⟩
theorem LY {P:Program} {ρ:aa} {ac:Env} {ti:Nat->Option TI} (bb:eO.ok P ti) {call:bI} (aO:dk P ρ call) {ms:List Nat} {ops:List Oper} {Q:Exit->Act->World->Prop} {aM:XS} (ii:∀a w,Rel ac (aM.I ρ) a w->Q .normal a w) :
  ∀(l:List Oper) (B:J) (V:XS) (a:Act) (w:World),J.ok ρ B->fits ac.N l=true->(m8 ti call ms ops l B V).aq ρ=some aM->Rel ac (V.I ρ) a w->wpList P ops.toArray Q l a w
 | [],B,V,a,w,_,_,h,hr=>by
  cases h;exact ii a w hr
 | o::l,B,V,a,w,u,d8,h,hr=>by
  obtain⟨hd,BB⟩:=T_ d8
  obtain⟨C,rfl,hC⟩:=hr
  have Z:∀i,(b3 V.t i).I ρ=bU (ep ρ V.t) i:=fun i=>(jm ρ i V.t).symm
  have stepped:∀dl B r d,J.ok ρ dl->J.ok ρ B->(tm o.pos (pk ti call V.nx (o.dst.any ms.contains) (b3 V.t) V.h dl o.op)).aq ρ=some (r,d)->∀y:X,y.I ρ=r.I ρ ->
    (m8 ti call ms ops l B ⟨nI o.dst y V.t,iz d V.h,V.nx+1⟩).aq ρ=some aM->Region.wanted o (yielded ops.toArray a.tmps)=true->wpList P ops.toArray Q (o::l) a C.w:=by
   intro dl B r d eV u A y vC E hw
   rw[Qd]at A
   have hy:=xC bb aO Z eV A
   unfold wpList
   rw[if_pos hw]
   refine .inl (hy C a o _ _ rfl hC.heap hC.t (fun k bM=>absurd (hC.kn _ bM) (by simp[XS.I])) fun Y C' hp => ?_)
   refine LY bb aO ii l B _ _ _ u BB E ⟨C',rfl,?_⟩
   have:=hC.step hp hd
   simp only[XS.I,E0,pj,vC]at this ⊢
   exact this
  have skipped:∀B (y:X) n,V.nx<=n->J.ok ρ B->y.I ρ = .sc undef->(m8 ti call ms ops l B ⟨nI o.dst y V.t,V.h,n⟩).aq ρ=some aM->Region.wanted o (yielded ops.toArray a.tmps)=false->wpList P ops.toArray Q (o::l) a C.w:=by
   intro B y n hn u hy hs hw
   unfold wpList
   rw[if_neg (by rw[hw];simp)]
   refine LY bb aO ii l B _ _ _ u BB hs ?_
   have:=hC.skip (dst:=o.dst) hd
   simp only[XS.I,E0,hy]at this ⊢
   exact Rel.nx hn ⟨C,rfl,this⟩
  unfold m8 at h
  cases kw:o.guard with
  | none =>
   rw[kw]at h
   obtain⟨aQ,p,aJ,A,E⟩:=T.cZ _ u h
   exact stepped B aQ p.1 p.2 u aJ A p.1 rfl E (by simp[Region.wanted,kw])
  | some pI =>
   obtain⟨j,want⟩:=pI
   rw[kw]at h
   obtain⟨y1,y2⟩:=Rp hC.t ops j
   have vD:=Rr (ρ:=ρ) (ops:=ops) Z j
   have wyes:(uq ops (b3 V.t) j).I ρ = .sc (.bool want)->Region.wanted o (yielded ops.toArray a.tmps)=true:=fun W=>by
    rw[vD]at W;simp[Region.wanted,kw,y1 _ W]
   have wno:((∃b,(uq ops (b3 V.t) j).I ρ = .sc (.bool b)/\b≠want)\/∃x,(uq ops (b3 V.t) j).I ρ = .sc (.tuple x))->Region.wanted o (yielded ops.toArray a.tmps)=false:=fun W=>by
    rw[vD]at W
    rcases W with⟨b,A,hb⟩ | ⟨x,A⟩
    ·simp[Region.wanted,kw,y1 _ A,hb]
    ·simp[Region.wanted,kw,y2 _ A]
   rcases Zr u h with⟨R,dl,aQ,r,d,eV,aJ,A,E⟩ | ⟨R,aQ,aJ,E⟩ | ⟨aQ,y,aJ,E,hq⟩
   ·exact stepped dl aQ r d eV aJ A r rfl E (wyes R)
   ·exact skipped aQ (.k undef) V.nx (Nat.le_refl _) aJ rfl E (wno R)
   ·rcases hq with⟨R,dl,r,eV,A,vC⟩ | ⟨R,M2⟩
    ·exact stepped dl aQ r [] eV aJ A y vC E (wyes R)
    ·exact skipped aQ y (V.nx+1) (Nat.le_succ _) aJ M2 E (wno R)
structure cg where
 dst:Option Tmp
 r:X
 d:aN
 ms:Nat
noncomputable def cg.I (ρ:aa) (e:cg):En:=⟨e.dst,e.r.I ρ,bn ρ e.d,e.ms⟩
noncomputable def bA (ρ:aa) (D:List cg):List En:=D.map (cg.I ρ)
def xF (d:Option Tmp) (x:Nat):Bool:=match d with | some d=>Nat.beq d x | none=>false
theorem KO {d:Option Tmp} {x:Nat}:xF d x=true↔d=some x:=by
 cases d with
 | none=>simp[xF]
 | some d=>simp[xF]
def nK (ab:Nat->Bool) (base:Nat->X):List cg->Nat->X
 | [],x=>base x
 | e::D,x=>if xF e.dst x=true then(if ab D.length=true then e.r else .top)else nK ab base D x
def J1 (ops:List Oper) (t0:bf) (x:Nat):X:=if ops.any (fun o=>xF o.dst x)=true then .top else b3 t0 x
theorem ady (ρ:aa) (ops:List Oper) (t0:bf) (x:Nat):(J1 ops t0 x).I ρ=bU (fb ops (ep ρ t0)) x:=by
 rw[wO]
 unfold J1
 have e:(ops.any fun o=>xF o.dst x)=(ops.any fun o=>o.dst==some x):=by
  congr 1;funext o;rw[Bool.eq_iff_iff,KO];simp
 rw[e]
 split
 ·rfl
 ·exact(jm ρ x t0).symm
theorem wT {ρ:aa} {ab:Nat->Bool} {base:Nat->X} {t:Tp} (hb:∀x,(base x).I ρ=bU t x):∀(D:List cg) (x:Nat),(nK ab base D x).I ρ=bU (b5 ab (bA ρ D) t) x
 | [],x=>hb x
 | e::D,x=>by
  have ih:=wT (ab:=ab) hb D x
  have O:(bA ρ D).length=D.length:=by simp[bA]
  simp only[bA,List.map_cons,b5,DC,nK]at ih O ⊢
  by_cases hd:e.dst=some x
  ·rw[if_pos (KO.2 hd),if_pos (show(cg.I ρ e).dst=some x from hd),O]
   split<;>rfl
  ·rw[if_neg (fun h=>hd (KO.1 h)),if_neg (show ¬(cg.I ρ e).dst=some x from hd)]
   exact ih
def ni (ab:Nat->Bool):List cg->av->av
 | [],h=>h
 | e::D,h=>match e.d with
  | []=>ni ab D h
  | d=>if ab D.length=true then iz d (ni ab D h)else ni ab D h
theorem ye {ρ:aa} {ab:Nat->Bool} {h:av}:∀D:List cg,aK ρ (ni ab D h)=aL ab (bA ρ D) (aK ρ h)
 | []=>rfl
 | e::D=>by
  have ih:=ye (ρ:=ρ) (ab:=ab) (h:=h) D
  have O:(bA ρ D).length=D.length:=by simp[bA]
  simp only[bA,List.map_cons,aL,ni]at ih O ⊢
  rw[O]
  split
  ·rename_i hd
   have:(cg.I ρ e).d=[]:=by simp only[cg.I,hd,bn,List.map_nil]
   rw[this]
   simp only[aE,ite_self]
   exact ih
  ·split
   ·rw[pj,ih];rfl
   ·exact ih
def E8:List cg->Nat->Nat
 | [],_=>0
 | e::D,j=>if Nat.beq j D.length=true then e.ms else E8 D j
def db (D:List cg):List Edge->Nat
 | []=>0
 | e::l=>if Region.binds .any e=true then(2 ^ e.on ||| E8 D e.on) ||| db D l else db D l
theorem TN (ρ:aa) (j:Nat):∀D:List cg,u2 (bA ρ D) j=E8 D j
 | []=>rfl
 | e::D=>by
  have ih:=TN ρ j D
  have O:(bA ρ D).length=D.length:=by simp[bA]
  unfold u2 at ih ⊢
  simp only[bA,List.map_cons,bk,E8]at ih O ⊢
  rw[O]
  by_cases M:j=D.length
  ·rw[if_pos M,if_pos (by simpa using M)];rfl
  ·rw[if_neg M,if_neg (by simpa using M)];exact ih
theorem GP (ρ:aa) (D:List cg):∀l:List Edge,rA (bA ρ D) l=db D l
 | []=>rfl
 | e::l=>by simp only[rA,db,TN,GP ρ D l]
def va (n:Nat):aN->Bool
 | []=>true
 | (m,some _)::d=>Nat.beq m.1 n&&va n d
 | (_,none)::_=>false
theorem LQ (ρ:aa) (n:Nat):∀d:aN,er n (bn ρ d)=va n d
 | []=>rfl
 | (m,some _)::d=>by
  have ih:=LQ ρ n d
  simp only[bn,List.map_cons,Option.map_some,er,va,WS]at ih ⊢
  rw[ih]
 | (_,none)::_=>rfl
def Gv (ti:Nat->Option TI) (call:bI) (ms:List Nat) (ops:List Oper) (nx:Nat) (base:Nat->X) (h0:av) (B:J) (all:List cg) (mk:Nat):List cg->Bool
 | []=>true
 | ek::D=>(Nat.testBit mk D.length||(match ops[D.length]?,ek.d with
   | some o,[]=>(match o.guard with | none=>true | some _=>false)&&(match quiet (pk ti call (nx+D.length) (o.dst.any ms.contains) (nK ((ek.ms ||| mk) ||| 2 ^ (all.length-1)).testBit base all) (ni ((ek.ms ||| mk) ||| 2 ^ (all.length-1)).testBit all h0) B o.op)with
    | some (.lit true,r)=>X.beq r ek.r
    | _=>false)
   | _,_=>false))&&Gv ti call ms ops nx base h0 B all mk D
def CL (n:Nat):aN->Bool
 | [(m,none),(q,some _)] => !Nat.beq m.1 n&&Nat.beq q.1 n
 | d=>d.all fun q=>q.2.isSome && !Nat.beq q.1.1 n
def Gu (ti:Nat->Option TI) (call:bI) (ms:List Nat) (ops:List Oper) (nx:Nat) (base:Nat->X) (h0:av) (B:J) (e:cg) (D:List cg):Bool :=
 CL (nx+D.length) e.d&&Gv ti call ms ops nx base h0 B (e::D) e.ms D
theorem V_ {P:Program} {ρ:aa} {ti:Nat->Option TI} (bb:eO.ok P ti) {call:bI} (aO:dk P ρ call) {ms:List Nat} {ops:List Oper} {nx:Nat} {base:Nat->X} {t0:Tp} (hb:∀x,(base x).I ρ=bU t0 x) {h0:av} {B:J} (u:J.ok ρ B) {all:List cg} {mk:Nat} :
  ∀(D:List cg),Gv ti call ms ops nx base h0 B all mk D=true->∀k ek o,k<D.length->mk.testBit k=false->bk (bA ρ D) k=some ek->ops[k]? = some o ->
   ek.d=[]/\w_ P ops (nx+k) o (b5 ((ek.ms ||| mk) ||| 2 ^ (all.length-1)).testBit (bA ρ all) t0) (aL ((ek.ms ||| mk) ||| 2 ^ (all.length-1)).testBit (bA ρ all) (aK ρ h0)) ek.r []
 | [],_,k,_,_,aT,_,_,_=>by simp at aT
 | e::D,h,k,ek,o,aT,hm,F,ho=>by
  unfold Gv at h
  rw[Bool.and_eq_true]at h
  obtain⟨A,E⟩:=h
  have hlen:(bA ρ D).length=D.length:=by simp[bA]
  by_cases M:k=D.length
  ·subst M
   simp only[bA,List.map_cons,bk]at F
   rw[if_pos (by simp)]at F
   cases F
   rw[hm,Bool.false_or]at A
   split at A
   case h_2=>cases A
   rename_i o' d3 hd
   rw[ho]at d3;cases d3
   rw[Bool.and_eq_true]at A
   obtain⟨h3,h4⟩:=A
   split at h3
   case h_2=>cases h3
   rename_i Z
   split at h4
   case h_2=>cases h4
   rename_i r hq
   refine⟨by simp only[cg.I,hd,bn,List.map_nil],.inl ⟨Z,?_⟩⟩
   have hy:=xC bb aO (fun x=>wT hb all x) u (HS (ρ:=ρ) hq rfl)
   rw[ye,X.beq_eq _ _ h4]at hy
   exact hy
  ·have FW:k<D.length:=by simp at aT;omega
   simp only[bA,List.map_cons,bk]at F
   rw[if_neg (by simpa using M)]at F
   exact V_ bb aO hb u D E k ek o FW hm F ho
theorem ahV {P:Program} {ρ:aa} {ti:Nat->Option TI} (bb:eO.ok P ti) {call:bI} (aO:dk P ρ call) {ms:List Nat} {ops:List Oper} {nx:Nat} {base:Nat->X} {t0:Tp} (hb:∀x,(base x).I ρ=bU t0 x) {h0:av} {B:J} (u:J.ok ρ B) {e:cg} {D:List cg}
  (h:Gu ti call ms ops nx base h0 B e D=true):Ef P ops nx t0 (aK ρ h0) (bA ρ D) (cg.I ρ e):=by
 unfold Gu at h
 rw[Bool.and_eq_true]at h
 refine⟨?_,fun k ek o aT hm F ho => ?_⟩
 ·have A:=h.1
  have O:(bA ρ D).length=D.length:=by simp[bA]
  unfold CL at A
  split at A
  ·rename_i m q cs hd
   simp only[Bool.and_eq_true,Bool.not_eq_true']at A
   refine .inr ⟨m,q,_,by simp only[cg.I,hd,bn,List.map_cons,List.map_nil];rfl,fun h => ?_,by rw[O];exact Nat.eq_of_beq_eq_true A.2⟩
   rw[O]at h
   rw[h]at A
   simp at A
  ·refine .inl fun p hp => ?_
   simp only[cg.I,bn]at hp
   obtain⟨q,hq,rfl⟩:=List.mem_map.1 hp
   have:=List.all_eq_true.1 A q hq
   simp only[Bool.and_eq_true,Bool.not_eq_true']at this
   refine⟨by rw[Option.isSome_map];exact this.1,fun h => ?_⟩
   rw[O]at h
   have E:=this.2
   simp only at h
   rw[h]at E
   simp at E
 ·have:=V_ bb aO hb u D h.2 k ek o (by simpa [bA]using aT) hm F ho
  simpa [bA,show(cg.I ρ e).ms=e.ms from rfl]using this
def gd (B:J) (x:X) (want:Bool):Bool:=match x with
 | .sc (.b e)=>(match red B e with
  | .lit b=>b==want
  | _=>false)
 | _=>false
theorem afz {ρ:aa} {B:J} (u:J.ok ρ B) {x:X} {want:Bool} (h:gd B x want=true):x.I ρ = .sc (.bool want):=by
 unfold gd at h
 split at h
 ·rename_i e
  have hr:=dc u e
  split at h
  ·rename_i b F
   rw[F]at hr
   simp only[X.I,Sc.I,<-hr,BE.I,beq_iff_eq]at h ⊢
   rw[h]
  ·cases h
 ·cases h
def Fx (B:J) (ops:List Oper) (o:Oper) (g:Nat->X):Bool:=match o.guard with
 | none=>true
 | some (j,want)=>gd B (uq ops g j) want
def JE (ops:List Oper) (o:Oper) (t:Tp):Prop:=o.guard=none\/∃j want,o.guard=some (j,want)/\yv ops t j = .sc (.bool want)
theorem Ut {ρ:aa} {B:J} (u:J.ok ρ B) {ops:List Oper} {o:Oper} {g:Nat->X} {t:Tp} (Z:∀i,(g i).I ρ=bU t i) (h:Fx B ops o g=true):JE ops o t:=by
 unfold Fx at h
 split at h
 ·rename_i hn;exact .inl hn
 ·rename_i j want hn
  refine .inr ⟨j,want,hn,?_⟩
  rw[<-Rr Z j]
  exact afz u h
theorem JE.Rq {P:Program} {ops:List Oper} {n:Nat} {o:Oper} {t:Tp} {h:Hp} {r:AV} {d:Dl} (O:JE ops o t) (hy:Aw.Yields P n o.op t h r d):w_ P ops n o t h r d:=by
 rcases O with O | ⟨j,want,A,E⟩
 ·exact .inl ⟨O,hy⟩
 ·exact .inr (.inl ⟨j,want,want,A,E,rfl,hy⟩)
def E4 (ti:Nat->Option TI) (call:bI) (ms:List Nat) (ops:List Oper) (o:Oper) (n:Nat) (base:Nat->X) (h0:av) (B:J) (all:List cg) (cJ mk:Nat) (r:X):List cg->Bool
 | []=>true
 | ek::D=>(!(Nat.testBit cJ D.length)||(Nat.testBit mk D.length||(Fx B ops o (nK ((mk ||| ek.ms) ||| 2 ^ D.length).testBit base all)&&(match quiet (pk ti call n (o.dst.any ms.contains) (nK ((mk ||| ek.ms) ||| 2 ^ D.length).testBit base all) (ni ((mk ||| ek.ms) ||| 2 ^ D.length).testBit all h0) B o.op)with
   | some (.lit true,r')=>X.beq r' r
   | _=>false))))&&E4 ti call ms ops o n base h0 B all cJ mk r D
theorem TD {P:Program} {ρ:aa} {ti:Nat->Option TI} (bb:eO.ok P ti) {call:bI} (aO:dk P ρ call) {ms:List Nat} {ops:List Oper} {o:Oper} {n:Nat} {base:Nat->X} {t0:Tp} (hb:∀x,(base x).I ρ=bU t0 x) {h0:av} {B:J} (u:J.ok ρ B) {all:List cg} {cJ mk:Nat} {r:X} :
  ∀(D:List cg),E4 ti call ms ops o n base h0 B all cJ mk r D=true->∀j ej,bk (bA ρ D) j=some ej->cJ.testBit j=true->mk.testBit j=false ->
   w_ P ops n o (b5 ((mk ||| ej.ms) ||| 2 ^ j).testBit (bA ρ all) t0) (aL ((mk ||| ej.ms) ||| 2 ^ j).testBit (bA ρ all) (aK ρ h0)) (r.I ρ) []
 | [],_,_,_,F,_,_=>by simp[bA,bk]at F
 | e::D,h,j,ej,F,A,E=>by
  unfold E4 at h
  rw[Bool.and_eq_true]at h
  obtain⟨g1,g2⟩:=h
  simp only[bA,List.map_cons,bk]at F
  split at F
  ·rename_i M
   rw[show(List.map (cg.I ρ) D).length=D.length from by simp]at M
   subst M
   cases F
   rw[A,E,Bool.not_true,Bool.false_or,Bool.false_or,Bool.and_eq_true]at g1
   obtain⟨g5,g4⟩:=g1
   refine(Ut u (fun x=>wT hb all x) g5).Rq ?_
   split at g4
   case h_2=>cases g4
   rename_i r' hq
   have hy:=xC bb aO (fun x=>wT hb all x) u (HS (ρ:=ρ) hq rfl)
   rw[ye,X.beq_eq _ _ g4]at hy
   exact hy
  ·exact TD bb aO hb u D g2 j ej F A E
def lh (ti:Nat->Option TI) (call:bI) (ms:List Nat) (ops:List Oper) (nx:Nat) (base:Nat->X) (h0:av):List Oper->J->List cg->Nat->T (List cg)
 | [],_,D,_ => .ret D
 | o::l,B,D,cJ =>
  let mk:=db D o.after.toList
  if(Nat.blt mk (2 ^ D.length)&&Nat.beq (cJ &&& mk) cJ)=true then
   let g:=nK mk.testBit base D
   let run:J->T (X×aN):=fun B=>tm o.pos (pk ti call (nx+D.length) (o.dst.any ms.contains) g (ni mk.testBit D h0) B o.op)
   let go:J->X->aN->T (List cg):=fun B r d =>
    if va (nx+D.length) d=true then lh ti call ms ops nx base h0 l B (⟨o.dst,r,d,mk⟩::D) cJ
    else if Nat.beq (mk+1) (2 ^ D.length)=true then lh ti call ms ops nx base h0 l B (⟨o.dst,r,d,mk⟩::D) (cJ ||| 2 ^ D.length)
    else if Gu ti call ms ops nx base h0 B ⟨o.dst, r, d, mk⟩ D = true then lh ti call ms ops nx base h0 l B (⟨o.dst, r, d, mk⟩ :: D) (cJ ||| 2 ^ D.length) else .fail ["write", o.pos]
   match o.guard with
   | none=>(run B).bind B fun B p=>go B p.1 p.2
   | some (j,want)=>xR B (uq ops g j) want run go (fun B=>lh ti call ms ops nx base h0 l B (⟨o.dst,.k undef,[],mk⟩::D) cJ) (fun B y=>lh ti call ms ops nx base h0 l B (⟨o.dst,y,[],mk⟩::D) cJ)
  else if Nat.blt mk (2 ^ D.length)=true then
   if Fx B ops o (nK mk.testBit base D)=true then
    match quiet (pk ti call (nx+D.length) (o.dst.any ms.contains) (nK mk.testBit base D) (ni mk.testBit D h0) B o.op)with
    | some (.lit true, r) => if E4 ti call ms ops o (nx + D.length) base h0 B D cJ mk r D = true then lh ti call ms ops nx base h0 l B (⟨o.dst, r, [], mk⟩ :: D) cJ else .fail ["order", o.pos]
    | _ => .fail ["order", o.pos]
   else .fail ["order", o.pos]
  else .fail ["order", o.pos]
theorem KM {P:Program} {ρ:aa} {ti:Nat->Option TI} (bb:eO.ok P ti) {call:bI} (aO:dk P ρ call) {ms:List Nat} {ops:List Oper} {nx:Nat} {base:Nat->X} {t0:Tp} (hb:∀x,(base x).I ρ=bU t0 x) {h0:av} :
  ∀(l:List Oper) (B:J) (D:List cg) (cJ:Nat) (bB:List cg),J.ok ρ B->(∀j,l[j]? = ops[D.length+j]?)->jt P ops nx t0 (aK ρ h0) (bA ρ D) ->
  (∀j e,bk (bA ρ D) j=some e->er (nx+j) e.d=false->cJ.testBit j=true)->(lh ti call ms ops nx base h0 l B D cJ).aq ρ=some bB->jt P ops nx t0 (aK ρ h0) (bA ρ bB)/\bB.length=D.length+l.length
 | [],B,D,cJ,bB,_,_,hw,_,h=>by cases h;exact⟨hw,by simp⟩
 | o::l,B,D,cJ,bB,u,O,hw,py,h=>by
  have hlen:(bA ρ D).length=D.length:=by simp[bA]
  have ho:ops[D.length]? = some o:=by have:=O 0;simpa using this.symm
  have bY:∀j,l[j]? = ops[D.length+1+j]? := fun j=>by
   have:=O (j+1)
   rw[List.getElem?_cons_succ]at this
   rw[this];congr 1;omega
  unfold lh at h
  simp only at h
  split at h
  case isFalse =>
   split at h
   case isFalse=>cases h
   rename_i H
   have aT:db D o.after.toList<2 ^ D.length:=by simpa [Nat.blt_eq]using H
   split at h
   case isFalse=>cases h
   rename_i Z
   split at h
   case h_2=>cases h
   rename_i r hq
   split at h
   case isFalse=>cases h
   rename_i age
   have agw:=Ut (ρ:=ρ) u (fun x=>wT hb D x) Z
   have hy:=xC bb aO (fun x=>wT hb D x) u (HS (ρ:=ρ) hq rfl)
   rw[ye]at hy
   have hs:Shown P ops nx t0 (aK ρ h0) (bA ρ D) (cg.I ρ ⟨o.dst,r,[],db D o.after.toList⟩) o:=by
    refine⟨rfl,(GP ρ D _).symm,by rw[hlen];exact aT,?_,.inl rfl,fun j e' F hf => ?_⟩
    ·rcases agw with Z | ⟨j,want,Z,R⟩
     ·exact .inl ⟨Z,by rw[hlen];exact hy⟩
     ·exact .inr (.inl ⟨j,want,want,Z,R,rfl,by rw[hlen];exact hy⟩)
    ·cases M:(db D o.after.toList).testBit j with
     | true=>exact .inl M
     | false =>
      exact .inr ⟨rfl,by rw[hlen];exact TD bb aO hb u D age j e' F (py j e' F hf) M⟩
   have MV:jt P ops nx t0 (aK ρ h0) (bA ρ (⟨o.dst,r,[],db D o.after.toList⟩::D)):=⟨hw,o,by rw[show(List.map (cg.I ρ) D).length=D.length from by simp];exact ho,hs⟩
   obtain⟨A,E⟩:=KM bb aO hb l B _ cJ bB u bY MV (fun j e F fw=>by
    simp only[bA,List.map_cons,bk]at F
    split at F
    ·cases F;cases fw
    ·exact py j e F fw) h
   exact⟨A,by rw[E];simp;omega⟩
  rename_i H
  simp only[Bool.and_eq_true]at H
  have aT:db D o.after.toList<2 ^ D.length:=by simpa [Nat.blt_eq]using H.1
  have hbq:=Nat.eq_of_beq_eq_true H.2
  have wait:∀j e',bk (bA ρ D) j=some e'->er (nx+j) e'.d=false->(db D o.after.toList).testBit j=true:=fun j e' F hf=>by
   have A:=py j e' F hf
   rw[<-hbq,Nat.testBit_and,Bool.and_eq_true]at A
   exact A.2
  have Va:∀x,(nK (db D o.after.toList).testBit base D x).I ρ=bU (b5 (db D o.after.toList).testBit (bA ρ D) t0) x:=fun x=>wT hb D x
  have goOn:∀(r:X) (d:aN) (EC:Nat) (B:J),J.ok ρ B->Shown P ops nx t0 (aK ρ h0) (bA ρ D) (cg.I ρ ⟨o.dst,r,d,db D o.after.toList⟩) o ->
    (∀j e,bk (bA ρ (⟨o.dst,r,d,db D o.after.toList⟩::D)) j=some e->er (nx+j) e.d=false->EC.testBit j=true) ->
    (lh ti call ms ops nx base h0 l B (⟨o.dst,r,d,db D o.after.toList⟩::D) EC).aq ρ=some bB->jt P ops nx t0 (aK ρ h0) (bA ρ bB)/\bB.length=D.length+(o::l).length:=by
   intro r d EC B u hs af2 hd
   have MV:jt P ops nx t0 (aK ρ h0) (bA ρ (⟨o.dst,r,d,db D o.after.toList⟩::D)):=⟨hw,o,by rw[show(List.map (cg.I ρ) D).length=D.length from by simp];exact ho,hs⟩
   obtain⟨A,E⟩:=KM bb aO hb l B _ EC bB u bY MV af2 hd
   exact⟨A,by rw[E];simp;omega⟩
  have fresh':∀(r:X) (d:aN),va (nx+D.length) d=true->∀j e,bk (bA ρ (⟨o.dst,r,d,db D o.after.toList⟩::D)) j=some e->er (nx+j) e.d=false->cJ.testBit j=true:=by
   intro r d hf j e F fw
   simp only[bA,List.map_cons,bk]at F
   split at F
   ·rename_i M
    cases F
    rw[show(List.map (cg.I ρ) D).length=D.length from by simp]at M
    subst M
    simp only[cg.I]at fw
    rw[LQ,hf]at fw;cases fw
   ·exact py j e F fw
  have skipped:∀B (y:X),J.ok ρ B->y.I ρ = .sc undef->∀(j:Nat) (want:Bool),o.guard=some (j,want)->((∃b,yv ops (b5 (db D o.after.toList).testBit (bA ρ D) t0) j = .sc (.bool b)/\b≠want)\/∃x,yv ops (b5 (db D o.after.toList).testBit (bA ρ D) t0) j = .sc (.tuple x)) ->
    (lh ti call ms ops nx base h0 l B (⟨o.dst,y,[],db D o.after.toList⟩::D) cJ).aq ρ=some bB->jt P ops nx t0 (aK ρ h0) (bA ρ bB)/\bB.length=D.length+(o::l).length:=by
   intro B y u hy j want Z i9 hd
   refine goOn y [] cJ B u ⟨rfl,(GP ρ D _).symm,by rw[hlen];exact aT,.inr (.inr ⟨j,want,Z,i9,hy,rfl⟩),.inl rfl,fun j e' A E => .inl (wait j e' A E)⟩ (fresh' _ _ rfl) hd
  have shown:∀dl (r y:X) (d:aN),J.ok ρ dl->(o.guard=none\/∃j want,o.guard=some (j,want)/\yv ops (b5 (db D o.after.toList).testBit (bA ρ D) t0) j = .sc (.bool want)) ->
    (tm o.pos (pk ti call (nx+D.length) (o.dst.any ms.contains) (nK (db D o.after.toList).testBit base D) (ni (db D o.after.toList).testBit D h0) dl o.op)).aq ρ=some (r,d)->y.I ρ=r.I ρ ->
    (va (nx+D.length) d=true\/db D o.after.toList+1=2 ^ D.length\/Ef P ops nx t0 (aK ρ h0) (bA ρ D) (cg.I ρ ⟨o.dst,y,d,db D o.after.toList⟩))->Shown P ops nx t0 (aK ρ h0) (bA ρ D) (cg.I ρ ⟨o.dst,y,d,db D o.after.toList⟩) o:=by
   intro dl r y d eV kw A vC hf
   rw[Qd]at A
   have hy:=xC bb aO Va eV A
   rw[ye,<-vC]at hy
   have vA:(o.guard=none/\Aw.Yields P (nx+(bA ρ D).length) o.op (b5 (db D o.after.toList).testBit (bA ρ D) t0) (aL (db D o.after.toList).testBit (bA ρ D) (aK ρ h0)) (y.I ρ) (bn ρ d)) \/
     (∃j want b,o.guard=some (j,want)/\yv ops (b5 (db D o.after.toList).testBit (bA ρ D) t0) j = .sc (.bool b)/\b=want/\Aw.Yields P (nx+(bA ρ D).length) o.op (b5 (db D o.after.toList).testBit (bA ρ D) t0) (aL (db D o.after.toList).testBit (bA ρ D) (aK ρ h0)) (y.I ρ) (bn ρ d)):=by
    rw[hlen]
    rcases kw with Z | ⟨j,want,Z,R⟩
    ·exact .inl ⟨Z,hy⟩
    ·exact .inr ⟨j,want,want,Z,R,rfl,hy⟩
   exact⟨rfl,(GP ρ D _).symm,by rw[hlen];exact aT,by
     rcases vA with h3 | h3
     ·exact .inl h3
     ·exact .inr (.inl h3),by rw[hlen];simpa only[cg.I,LQ]using hf,fun j e' A E => .inl (wait j e' A E)⟩
  have X8:∀dl B (r:X) (d:aN),J.ok ρ dl->J.ok ρ B->(o.guard=none\/∃j want,o.guard=some (j,want)/\yv ops (b5 (db D o.after.toList).testBit (bA ρ D) t0) j = .sc (.bool want)) ->
    (tm o.pos (pk ti call (nx+D.length) (o.dst.any ms.contains) (nK (db D o.after.toList).testBit base D) (ni (db D o.after.toList).testBit D h0) dl o.op)).aq ρ=some (r,d) ->
    (if va (nx+D.length) d=true then lh ti call ms ops nx base h0 l B (⟨o.dst,r,d,db D o.after.toList⟩::D) cJ
     else if Nat.beq (db D o.after.toList+1) (2 ^ D.length)=true then lh ti call ms ops nx base h0 l B (⟨o.dst,r,d,db D o.after.toList⟩::D) (cJ ||| 2 ^ D.length)
     else if Gu ti call ms ops nx base h0 B ⟨o.dst, r, d, db D o.after.toList⟩ D = true then lh ti call ms ops nx base h0 l B (⟨o.dst, r, d, db D o.after.toList⟩ :: D) (cJ ||| 2 ^ D.length) else .fail ["write", o.pos]).aq ρ = some bB ->
    jt P ops nx t0 (aK ρ h0) (bA ρ bB)/\bB.length=D.length+(o::l).length:=by
   intro dl B r d eV u kw A E
   split at E
   ·rename_i hf
    exact goOn r d cJ B u (shown dl r r d eV kw A rfl (.inl hf)) (fresh' r d hf) E
   ·have more:∀j e,bk (bA ρ (⟨o.dst,r,d,db D o.after.toList⟩::D)) j=some e->er (nx+j) e.d=false->(cJ ||| 2 ^ D.length).testBit j=true:=fun j e F fw=>by
     rw[Nat.testBit_or]
     simp only[bA,List.map_cons,bk]at F
     split at F
     ·rename_i M
      rw[show(List.map (cg.I ρ) D).length=D.length from by simp]at M
      subst M;rw[Nat.testBit_two_pow_self,Bool.or_true]
     ·rw[py j e F fw];rfl
    split at E
    ·rename_i hf hm
     have hm:=Nat.eq_of_beq_eq_true hm
     exact goOn r d (cJ ||| 2 ^ D.length) B u (shown dl r r d eV kw A rfl (.inr (.inl hm))) more E
    ·split at E
     ·rename_i hf _ hm
      exact goOn r d (cJ ||| 2 ^ D.length) B u (shown dl r r d eV kw A rfl (.inr (.inr (ahV bb aO hb u hm)))) more E
     ·cases E
  cases Z:o.guard with
  | none =>
   rw[Z]at h
   obtain⟨aQ,p,aJ,A,E⟩:=T.cZ _ u h
   exact X8 B aQ p.1 p.2 u aJ (.inl Z) A E
  | some pI =>
   obtain⟨j,want⟩:=pI
   rw[Z]at h
   have vD:=Rr (ρ:=ρ) (ops:=ops) Va j
   rcases Zr u h with⟨R,dl,aQ,r,d,eV,aJ,A,E⟩ | ⟨R,aQ,aJ,E⟩ | ⟨aQ,y,aJ,E,hq⟩
   ·rw[vD]at R
    exact X8 dl aQ r d eV aJ (.inr ⟨j,want,Z,R⟩) A E
   ·rw[vD]at R
    exact skipped aQ (.k undef) aJ rfl j want Z R E
   ·rcases hq with⟨R,dl,r,eV,A,vC⟩ | ⟨R,M2⟩
    ·rw[vD]at R
     exact goOn y [] cJ aQ aJ (shown dl r y [] eV (.inr ⟨j,want,Z,R⟩) A vC (.inl rfl)) (fresh' y [] rfl) E
    ·rw[vD]at R
     exact skipped aQ y aJ M2 j want Z R E
def xO:List cg->bf->bf
 | [],t=>t
 | e::D,t=>nI e.dst e.r (xO D t)
def xE (ti:Nat->Option TI) (call:bI) (ms:List Nat) (ops:List Oper) (B:J) (V:XS):T XS :=
 (lh ti call ms ops V.nx (J1 ops V.t) V.h ops B [] 0).map fun D=>⟨xO D V.t,ni (fun _=>true) D V.h,V.nx+ops.length⟩
def IF:List Oper->Option (List Oper×Oper)
 | []=>none
 | [o]=>some ([],o)
 | p::q::l=>match IF (q::l)with
  | some (i,o)=>some (p::i,o)
  | none=>none
theorem Zx:∀{l i:List Oper} {o:Oper},IF l=some (i,o)->l=i++[o]
 | [],_,_,h=>by cases h
 | [p],_,_,h=>by cases h;rfl
 | p::q::l,i,o,h=>by
  simp only[IF]at h
  split at h
  ·rename_i i' o' A
   cases h
   rw[Zx A];rfl
  ·cases h
def E5:Nat->List Oper->Bool
 | _,[]=>true
 | n,p::l=>p.after.toList.all (fun ed => !Region.binds .any ed||Nat.blt ed.on n)&&E5 (n+1) l
theorem TF:∀{l:List Oper} {n:Nat},E5 n l=true->∀i p,l[i]? = some p->∀ed∈p.after,Region.binds .any ed=true->ed.on<n+i
 | [],_,_,i,p,hp=>by simp at hp
 | q::l,n,h,i,p,hp=>by
  simp only[E5,Bool.and_eq_true]at h
  intro ed d6 hb
  cases i with
  | zero =>
   simp at hp;subst hp
   have:=List.all_eq_true.1 h.1 ed (by simpa using d6)
   simpa [hb,Nat.blt_eq]using this
  | succ i =>
   have:=TF h.2 i p (by simpa using hp) ed d6 hb
   omega
def afG (n:Nat) (l:List Oper):Bool:=l.all fun p=>match p.guard with
 | some (j,_)=>Nat.blt j n
 | none=>true
def EX:Nat->List Edge->Bool
 | 0,_=>true
 | n+1,l=>l.any (fun ed=>Region.binds .any ed&&Nat.beq ed.on n)&&EX n l
theorem S5 {l:List Edge}:∀{n:Nat},EX n l=true->∀j,j<n->∃ed∈l,Region.binds .any ed=true/\ed.on=j
 | 0,_,j,M=>by omega
 | n+1,h,j,M=>by
  simp only[EX,Bool.and_eq_true]at h
  by_cases oi:j=n
  ·subst oi
   obtain⟨ed,A,E⟩:=List.any_eq_true.1 h.1
   simp only[Bool.and_eq_true]at E
   exact⟨ed,A,E.1,Nat.eq_of_beq_eq_true E.2⟩
  ·exact S5 h.2 j (by omega)
def waits (l:List Oper) (o:Oper):Bool :=
 (match o.guard with | none=>true | some _=>false)&&(o.after.toList.all (fun ed => !Region.binds .any ed||Nat.blt ed.on l.length)&&(EX l.length o.after.toList&&(afG l.length l&&(E5 0 l&&once l))))
theorem atN {l:List Oper} {o:Oper} (h:waits l o=true):JD l o/\once l=true:=by
 simp only[waits,Bool.and_eq_true]at h
 obtain⟨A,E,h3,h4,h5,h6⟩:=h
 refine⟨⟨fun j M => ?_,fun ed d6 hb => ?_,?_,fun p hp j want Z => ?_,fun i p hp ed d6 hb => ?_⟩,h6⟩
 ·obtain⟨ed,g1,g2⟩:=S5 h3 j M
  exact⟨ed,by simpa using g1,g2⟩
 ·have:=List.all_eq_true.1 E ed (by simpa using d6)
  simpa [hb,Nat.blt_eq]using this
 ·cases Z:o.guard with
  | none=>rfl
  | some _=>rw[Z]at A;cases A
 ·have:=List.all_eq_true.1 h4 p hp
  rw[Z]at this
  simpa [Nat.blt_eq]using this
 ·have:=TF h5 i p hp ed d6 hb
  omega
def NC (ti:Nat->Option TI) (call:bI) (ms:List Nat) (o:Oper) (B:J) (V:XS):T XS :=
 (tm o.pos (pk ti call V.nx (o.dst.any ms.contains) (b3 V.t) V.h B o.op)).bind B fun _ p => .ret ⟨nI o.dst p.1 V.t,iz p.2 V.h,V.nx+1⟩
def xD (ti:Nat->Option TI) (call:bI) (ms:List Nat) (ops:List Oper) (B:J) (V:XS):T XS :=
 match IF ops with
 | some (i,o)=>if waits i o=true then(xE ti call ms i B V).bind B fun B s=>NC ti call ms o B s else xE ti call ms ops B V
 | none=>xE ti call ms ops B V
end Go.Proofs.Xw
namespace Go.Proofs.Xw
open Go Go.Proofs.Aw
def bQ (a b:List AV):Prop:=a.length=b.length/\∀(j:Nat) (x:AV),a[j]? = some x->∃y,b[j]? = some y/\b' x y
theorem b'.trans {a b c:AV} (h:b' a b) (k:b' b c):b' a c:=fun C Y hu=>h C Y (k C Y hu)
theorem bQ.refl (a:List AV):bQ a a:=⟨rfl,fun _ x hx=>⟨x,hx,b'.refl x⟩⟩
theorem bQ.trans {a b c:List AV} (h:bQ a b) (k:bQ b c):bQ a c:=⟨h.1.trans k.1,fun j x hx=>by
 obtain⟨y,hy,A⟩:=h.2 j x hx
 obtain⟨z,hz,E⟩:=k.2 j y hy
 exact⟨z,hz,A.trans E⟩⟩
structure ga (aM V:St):Prop where
 t:∀i,b' (bU aM.t i) (bU V.t i)
 h:∀m bi,ae aM.h m=some bi->∃cs,ae V.h m=some cs/\bQ bi cs
 nx:V.nx<=aM.nx
theorem ga.refl (V:St):ga V V:=⟨fun _=>b'.refl _,fun _ cs h=>⟨cs,h,bQ.refl cs⟩,Nat.le_refl _⟩
theorem ga.trans {a b c:St} (h:ga a b) (k:ga b c):ga a c:=⟨fun i=>(h.t i).trans (k.t i),fun m cs aI=>by
 obtain⟨ds,hd,A⟩:=h.h m cs aI
 obtain⟨D,F,E⟩:=k.h m ds hd
 exact⟨D,F,A.trans E⟩,Nat.le_trans k.nx h.nx⟩
theorem w4 {ac:Env} {V aM:St} (O:ga aM V):dL ac V aM:=by
 rintro a w ⟨C,rfl,hC⟩
 have gF:∀m,(ae aM.h m).isSome=true->C.live m:=fun m hm=>by
  obtain⟨cs,aI⟩:=Option.isSome_iff_exists.1 hm
  obtain⟨ds,hd,_⟩:=O.h m cs aI
  exact hC.heap.get hd
 let C':Ctx:={ C with live:=fun m=>(ae aM.h m).isSome=true }
 have le:C.le C':=⟨Nat.le_refl _,fun _ _ _=>rfl,fun _ _ h=>h,fun _ h=>h,fun m _ hm=>⟨gF m hm,rfl,rfl⟩,fun _ _ _ cs ty h=>⟨cs,ty,h,rfl⟩⟩
 refine⟨C',rfl,⟨⟨fun _=>Iff.rfl,fun m cs Z => ?_,fun m m' hm a1 F=>hC.heap.inj m m' (gF m hm) (gF m' a1) F,fun m hm=>hC.heap.mt _ (gF m hm),fun m hm=>hC.heap.kn m (gF m hm)⟩,fun i => ?_,hC.size,hC.defers,fun m hm=>Nat.lt_of_lt_of_le (hC.kn m hm) O.nx,⟨hC.frame.os,hC.frame.tape,hC.frame.output,hC.frame.size,hC.frame.same,hC.frame.mt,fun m hm hb=>hC.frame.wr _ (gF m hm) hb,hC.frame.le.trans le⟩⟩⟩
 ·obtain⟨ds,hd,_,a0⟩:=O.h m cs Z
  obtain⟨arr,ty,ha,H⟩:=hC.heap.obj m ds hd
  refine⟨arr,ty,ha,fun j c M => ?_⟩
  obtain⟨y,hy,hyl⟩:=a0 j c M
  obtain⟨Y,hu,a'⟩:=H j y hy
  exact⟨Y,hu,ak.mono le _ _ (hyl C Y a')⟩
 ·exact ak.mono le _ _ (O.t i C _ (hC.t i))
def Cq (c:BE) (x y:X):X:=match X.et c x y with
 | some z=>z
 | none => .top
theorem WC (ρ:aa) (c:BE) (x y:X):b' ((Cq c x y).I ρ) (if c.I ρ=true then x.I ρ else y.I ρ):=by
 unfold Cq
 split
 ·rename_i z hz;exact b'.of_eq (X.Cr _ _ _ hz)
 ·exact b'.top _
def tv (c:BE) (t1 t2:bf):List Nat->List Nat->bf->bf
 | [],_,b=>b
 | k::ks,seen,b=>if seen.any (Nat.beq k)=true then tv c t1 t2 ks seen b else(k,Cq c (b3 t1 k) (b3 t2 k))::tv c t1 t2 ks (k::seen) b
theorem any_beq {k:Nat} {l:List Nat}:l.any (Nat.beq k)=true↔k∈l:=by
 rw[List.any_eq_true]
 constructor
 ·rintro⟨x,hx,h⟩;rw[Nat.eq_of_beq_eq_true h];exact hx
 ·intro h;exact⟨k,h,Nat.beq_refl k⟩
theorem QC (c:BE) (t1 t2 b:bf) (i:Nat):∀(ks seen:List Nat),b3 (tv c t1 t2 ks seen b) i=if i∈ks/\i∉seen then Cq c (b3 t1 i) (b3 t2 i)else b3 b i
 | [],seen=>by simp[tv]
 | k::ks,seen=>by
  simp only[tv,any_beq]
  by_cases u:k∈seen
  ·rw[if_pos u,QC c t1 t2 b i ks seen]
   by_cases hi:i=k
   ·subst hi;simp[u]
   ·simp[hi]
  ·rw[if_neg u]
   simp only[b3]
   by_cases hi:k=i
   ·subst hi;simp[u]
   ·rw[if_neg (by simpa using hi),QC c t1 t2 b i ks (k::seen)]
    simp[Ne.symm hi]
def yx (n:Nat) (t:bf):List Nat:=(t.take n).map (·.1)
def N_ (c:BE) (b t1 t2:bf):bf:=tv c t1 t2 (yx (t1.length-b.length) t1++yx (t2.length-b.length) t2) [] b
def Ext (b t:bf):Prop:=∃Y,t=Y++b
theorem Ext.refl (b:bf):Ext b b:=⟨[],rfl⟩
theorem Ext.trans {a b c:bf} (h:Ext a b) (k:Ext b c):Ext a c:=by
 obtain⟨Y,rfl⟩:=h
 obtain⟨v,rfl⟩:=k
 exact⟨v++Y,by simp⟩
theorem QB {b Y:bf} {i:Nat} (h:i∉yx ((Y++b).length-b.length) (Y++b)):b3 (Y++b) i=b3 b i:=by
 have e:yx ((Y++b).length-b.length) (Y++b)=Y.map (·.1):=by
  unfold yx
  rw[List.length_append,Nat.add_sub_cancel,List.take_left]
 rw[e]at h
 clear e
 induction Y with
 | nil=>rfl
 | cons p Y ih =>
  obtain⟨j,v⟩:=p
  simp only[List.map_cons,List.mem_cons,not_or]at h
  simp only[List.cons_append,b3]
  rw[if_neg (by simpa using Ne.symm h.1),ih h.2]
theorem aiw {ρ:aa} {c:BE} {b t1 t2:bf} (A:Ext b t1) (E:Ext b t2) (i:Nat):b' ((b3 (N_ c b t1 t2) i).I ρ) (if c.I ρ=true then(b3 t1 i).I ρ else(b3 t2 i).I ρ):=by
 unfold N_
 rw[QC]
 split
 ·exact WC ρ c _ _
 ·rename_i hn
  simp only[List.mem_append,List.not_mem_nil,not_false_eq_true,and_true,not_or]at hn
  obtain⟨awc,rfl⟩:=A
  obtain⟨awd,rfl⟩:=E
  rw[QB hn.1,QB hn.2]
  split<;>exact b'.refl _
theorem N8 (c:BE) (t1 t2 b:bf):∀ks seen,Ext b (tv c t1 t2 ks seen b)
 | [],_=>Ext.refl b
 | k::ks,seen=>by
  simp only[tv]
  split
  ·exact N8 c t1 t2 b ks seen
  ·obtain⟨Y,hu⟩:=N8 c t1 t2 b ks (k::seen)
   exact⟨_::Y,by rw[hu];rfl⟩
def yH (c:BE):List X->List X->List X
 | a::aG,b::bs=>Cq c a b::yH c aG bs
 | _,_=>[]
theorem WA {ρ:aa} {c:BE}:∀{a b:List X},a.length=b.length->bQ (X.af ρ (yH c a b)) (if c.I ρ=true then X.af ρ a else X.af ρ b)
 | [],[],_=>by simp only[yH,X.af,ite_self];exact bQ.refl _
 | a::aG,b::bs,h=>by
  obtain⟨A,E⟩:=WA (ρ:=ρ) (c:=c) (a:=aG) (b:=bs) (by simpa using h)
  have hm:=WC ρ c a b
  simp only[yH,X.af]
  by_cases H:c.I ρ=true
  ·rw[if_pos H]at A E hm ⊢
   refine⟨by simp[A],fun j x hx => ?_⟩
   cases j with
   | zero=>simp at hx ⊢;subst hx;exact hm
   | succ j=>simpa using E j x (by simpa using hx)
  ·rw[if_neg H]at A E hm ⊢
   refine⟨by simp[A],fun j x hx => ?_⟩
   cases j with
   | zero=>simp at hx ⊢;subst hx;exact hm
   | succ j=>simpa using E j x (by simpa using hx)
 | [],_::_,h=>by simp at h
 | _::_,[],h=>by simp at h
def N9 (c:BE) (a b:List X):Option (List X):=if(!b0 a&&(!b0 b&&(Nat.beq a.length b.length && !b0 (yH c a b))))=true then some (yH c a b)else none
def GW (c:BE) (a b:List X):Option (List X) :=
 match a,b with
 | [.rows z n l],[.rows z' n' l']=>if Nat.beq z z'=true then some [.rows z (lF c n n') (yK c l l')]else none
 | [.tk z n t D],b=>if X.fc [.tk z n t D] b=true then some b else none
 | a,b=>N9 c a b
theorem aiu {ρ:aa} {c:BE} {a b r:List X} (h:N9 c a b=some r):bQ (aB ρ r) (if c.I ρ=true then aB ρ a else aB ρ b):=by
 unfold N9 at h
 split at h
 ·rename_i H
  simp only[Bool.and_eq_true,Bool.not_eq_true']at H
  obtain⟨A,E,h3,h4⟩:=H
  cases h
  rw[cR A,cR E,cR h4]
  exact WA (Nat.eq_of_beq_eq_true h3)
 ·cases h
theorem ait {ρ:aa} {c:BE} {a b r:List X} (h:GW c a b=some r):bQ (aB ρ r) (if c.I ρ=true then aB ρ a else aB ρ b):=by
 unfold GW at h
 split at h
 ·split at h
  ·rename_i z n l z' n' l' hz
   have hz:=Nat.eq_of_beq_eq_true hz
   subst hz
   cases h
   simp only[aB]
   have:aX ρ (lF c n n') (yK c l l')=if c.I ρ=true then aX ρ n l else aX ρ n' l':=by
    unfold aX
    rw[tw]
    simp only[WG]
    split<;>rfl
   rw[this]
   split<;>exact bQ.refl _
  ·cases h
 ·split at h
  ·rename_i hb
   cases h
   rw[X.gv _ _ hb]
   split<;>exact bQ.refl _
  ·cases h
 ·exact aiu h
def yI (c:BE) (A E:av):List Nm->av
 | []=>[]
 | m::ms=>match bl A m,bl E m with
  | some a,some b=>match GW c a b with
   | some r=>(m,r)::yI c A E ms
   | none=>yI c A E ms
  | _,_=>yI c A E ms
theorem GV {c:BE} {A E:av} {m:Nm} {cs:List X}:∀{ms:List Nm},bl (yI c A E ms) m=some cs->∃a b,bl A m=some a/\bl E m=some b/\GW c a b=some cs
 | [],h=>by cases h
 | k::ms,h=>by
  simp only[yI]at h
  split at h
  ·rename_i a b ha hb
   split at h
   ·rename_i r O
    simp only[bl]at h
    split at h
    ·rename_i u
     cases h
     have:=eB u
     subst this
     exact⟨a,b,ha,hb,O⟩
    ·exact GV h
   ·exact GV h
  ·exact GV h
def vX (c:BE) (b:bf) (s1 s2:XS):XS:=⟨N_ c b s1.t s2.t,yI c s1.h s2.h (s1.h.map (·.1)),Nat.max s1.nx s2.nx⟩
theorem aiv {ρ:aa} {c:BE} {b:bf} {s1 s2:XS} (A:Ext b s1.t) (E:Ext b s2.t):ga ((vX c b s1 s2).I ρ) (if c.I ρ=true then s1.I ρ else s2.I ρ):=by
 refine⟨fun i => ?_,fun m cs aI => ?_,?_⟩
 ·have:=aiw (ρ:=ρ) (c:=c) A E i
  by_cases H:c.I ρ=true
  ·rw[if_pos H]at this ⊢;simp only[XS.I,vX,jm];exact this
  ·rw[if_neg H]at this ⊢;simp only[XS.I,vX,jm];exact this
 ·simp only[XS.I,vX,cL]at aI
  obtain⟨ds,hd,rfl⟩:=Option.map_eq_some_iff.1 aI
  obtain⟨a,dt,ha,hb,O⟩:=GV hd
  have:=ait (ρ:=ρ) (c:=c) O
  by_cases H:c.I ρ=true
  ·rw[if_pos H]at this ⊢
   exact⟨_,by simp only[XS.I,cL,ha,Option.map_some],this⟩
  ·rw[if_neg H]at this ⊢
   exact⟨_,by simp only[XS.I,cL,hb,Option.map_some],this⟩
 ·simp only[vX,XS.I]
  split
  ·exact Nat.le_max_left _ _
  ·exact Nat.le_max_right _ _
def qe (t:bf):List Nat->List Nat->bf->bf
 | [],_,b=>b
 | k::ks,seen,b=>if seen.any (Nat.beq k)=true then qe t ks seen b else(k,b3 t k)::qe t ks (k::seen) b
theorem DB (t b:bf) (i:Nat):∀(ks seen:List Nat),b3 (qe t ks seen b) i=if i∈ks/\i∉seen then b3 t i else b3 b i
 | [],seen=>by simp[qe]
 | k::ks,seen=>by
  simp only[qe,any_beq]
  by_cases u:k∈seen
  ·rw[if_pos u,DB t b i ks seen]
   by_cases hi:i=k
   ·subst hi;simp[u]
   ·simp[hi]
  ·rw[if_neg u]
   simp only[b3]
   by_cases hi:k=i
   ·subst hi;simp[u]
   ·rw[if_neg (by simpa using hi),DB t b i ks (k::seen)]
    simp[Ne.symm hi]
theorem ua (t b:bf):∀ks seen,Ext b (qe t ks seen b)
 | [],_=>Ext.refl b
 | k::ks,seen=>by
  simp only[qe]
  split
  ·exact ua t b ks seen
  ·obtain⟨Y,hu⟩:=ua t b ks (k::seen)
   exact⟨_::Y,by rw[hu];rfl⟩
def zr (b:bf) (s:XS):XS:=⟨qe s.t (yx (s.t.length-b.length) s.t) [] b,s.h,s.nx⟩
theorem arw {ρ:aa} {b:bf} {s:XS} (h:Ext b s.t):ga ((zr b s).I ρ) (s.I ρ):=by
 refine⟨fun i => ?_,fun m cs aI=>⟨cs,aI,bQ.refl cs⟩,Nat.le_refl _⟩
 simp only[XS.I,zr,jm,DB]
 split
 ·exact b'.refl _
 ·rename_i hn
  simp only[List.not_mem_nil,not_false_eq_true,and_true]at hn
  obtain⟨Y,hu⟩:=h
  rw[hu]at hn ⊢
  rw[QB hn]
  exact b'.refl _
inductive XE where
 | normal
 | exit (id:Nat)
 | ret
def XE.to:XE->Exit
 | .normal => .normal
 | .exit id => .exit id
 | .ret => .ret
def XE.beq:XE->XE->Bool
 | .normal,.normal=>true
 | .exit a,.exit b=>Nat.beq a b
 | .ret,.ret=>true
 | _,_=>false
theorem XE.beq_eq {a b:XE} (h:a.beq b=true):a=b:=by
 cases a<;>cases b<;>simp[XE.beq]at h ⊢;exact h
def T.dd {am:Type} (p:am->Prop):T am->Prop
 | .ret a=>p a
 | .br _ x y=>x.dd p/\y.dd p
 | .cT _ x=>x.dd p
 | .fail _=>True
theorem T.sj {am:Type}:∀t:T am,t.dd fun _=>True
 | .ret _=>trivial
 | .br _ x y=>⟨T.sj x,T.sj y⟩
 | .cT _ x=>T.sj x
 | .fail _=>trivial
theorem T.zU {am:Type} {p q:am->Prop} (h:∀a,p a->q a):∀{t:T am},t.dd p->t.dd q
 | .ret a,ht=>h a ht
 | .br _ _ _,ht=>⟨T.zU h ht.1,T.zU h ht.2⟩
 | .cT _ x,ht=>T.zU (t:=x) h ht
 | .fail _,_=>trivial
theorem T.nO {am β:Type} {p:am->Prop} {q:β->Prop} {f:J->am->T β} (hf:∀B a,p a->(f B a).dd q):∀{t:T am} {B:J},t.dd p->(t.bind B f).dd q
 | .ret a,B,h=>hf B a h
 | .br _ _ _,_,h=>⟨T.nO hf h.1,T.nO hf h.2⟩
 | .cT _ x,_,h=>T.nO (t:=x) hf h
 | .fail _,_,_=>trivial
theorem T.uy {am β:Type} {p:am->Prop} {q:β->Prop} {f:am->β} (hf:∀a,p a->q (f a)):∀{t:T am},t.dd p->(t.map f).dd q
 | .ret a,h=>hf a h
 | .br _ _ _,h=>⟨T.uy hf h.1,T.uy hf h.2⟩
 | .cT _ x,h=>T.uy (t:=x) hf h
 | .fail _,_=>trivial
theorem RI {am:Type} {p:am->Prop} {B:J} {c:BE} {x y:J->T am} (hx:∀B,(x B).dd p) (hy:∀B,(y B).dd p):(part B c x y).dd p:=by
 unfold part
 split
 ·exact hx _
 ·exact hy _
 ·exact⟨hx _,hy _⟩
theorem aby {am:Type} {p:am->Prop} {B:J} {c:BE} {x:J->T am} (hx:∀B,(x B).dd p):(want B c x).dd p:=by
 unfold want
 split
 ·exact hx _
 ·trivial
 ·exact hx _
theorem abx {am:Type} {p:am->Prop} {B:J} {v:X} {want':Bool} {run:J->T (X×aN)} {go:J->X->aN->T am} {skip:J->T am} {both:J->X->T am} (Z:∀B r d,(go B r d).dd p) (hs:∀B,(skip B).dd p) (hb:∀B y,(both B y).dd p) :
  (xR B v want' run go skip both).dd p:=by
 have bJ:∀(B aQ:J),((run B).bind aQ fun B p=>go B p.1 p.2).dd p:=fun B aQ=>T.nO (p:=fun _=>True) (fun B q _=>Z B q.1 q.2) (T.sj _)
 unfold xR
 split
 ·split
  ·exact bJ _ _
  ·exact hs _
  ·split
   ·exact aby fun B=>hb B _
   ·exact⟨bJ _ _,hs _⟩
 ·trivial
structure dg where
 c:BE
 e:XE
 s:XS
def VR:X->Bool
 | .sl _ _ _ _ _=>true
 | .slv _ _ _ _ _=>true
 | _=>false
def SQ:List X->List X->Bool
 | x::xs,y::ys=>((VR x||VR y) && !X.beq x y)||SQ xs ys
 | _,_=>false
def apart (a b:XS):Bool:=a.h.any fun p=>match bl b.h p.1 with
 | some ds=>SQ p.2 ds
 | none=>false
def ou (b:bf) (c:BE) (e:XE) (s:XS):List dg->List dg
 | []=>[⟨c,e,s⟩]
 | x::r=>if(x.e.beq e && !apart x.s s)=true then⟨mkOr x.c c,e,vX x.c b x.s s⟩::r else x::ou b c e s r
def Bl (b:bf):List dg->List dg->List dg
 | [],cS=>cS
 | x::l,cS=>Bl b l (ou b x.c x.e x.s cS)
def dg.and (c:BE) (x:dg):dg:=⟨mkAnd c x.c,x.e,x.s⟩
def kl:BE->List dg->List dg
 | _,[]=>[]
 | cS,[x]=>[⟨mkNot cS,x.e,x.s⟩]
 | cS,x::r=>x::kl (mkOr cS x.c) r
def flat (b:bf):T (XE×XS)->BE×List dg
 | .ret (e,s)=>(.lit true,[⟨.lit true,e,s⟩])
 | .br c x y=>match flat b x,flat b y with
  | (p,l),(q,m)=>(iF c p q,kl (.lit false) (Bl b (m.map (dg.and (mkNot c))) (l.map (dg.and c))))
 | .cT c x=>match flat b x with
  | (p,l)=>(mkAnd c p,l)
 | .fail _=>(.lit false,[])
def dg.right (ρ:aa) (t:Option (XE×XS)) (x:dg):Prop:=x.c.I ρ=true->∃s,t=some (x.e,s)/\ga (x.s.I ρ) (s.I ρ)
structure j5 (ρ:aa) (b:bf) (t:Option (XE×XS)) (l:List dg):Prop where
 right:∀x∈l,x.right ρ t
 ext:∀x∈l,Ext b x.s.t
theorem WB (c:BE) (b:bf) (s1 s2:XS):Ext b (vX c b s1 s2).t:=N8 _ _ _ _ _ _
theorem VJ {ρ:aa} {b:bf} {t:Option (XE×XS)} {n:dg} (hn:n.right ρ t) (F:Ext b n.s.t):∀{l:List dg},j5 ρ b t l ->
  j5 ρ b t (ou b n.c n.e n.s l)/\((n.c.I ρ=true\/∃x∈l,x.c.I ρ=true)->∃x∈ou b n.c n.e n.s l,x.c.I ρ=true)
 | [],_=>by
  refine⟨⟨fun x hx => ?_,fun x hx => ?_⟩,fun h => ?_⟩
  ·simp only[ou,List.mem_singleton]at hx;subst hx;exact hn
  ·simp only[ou,List.mem_singleton]at hx;subst hx;exact F
  ·rcases h with h | ⟨x,hx,_⟩
   ·exact⟨_,by simp only[ou,List.mem_singleton],h⟩
   ·cases hx
 | y::r,ho=>by
  have hy:=ho.right y List.mem_cons_self
  have Vy:=ho.ext y List.mem_cons_self
  have d3:j5 ρ b t r:=⟨fun x hx=>ho.right x (List.mem_cons_of_mem _ hx),fun x hx=>ho.ext x (List.mem_cons_of_mem _ hx)⟩
  simp only[ou]
  split
  ·rename_i hb
   rw[Bool.and_eq_true]at hb
   have hb:=XE.beq_eq hb.1
   have a0:=aiv (ρ:=ρ) (c:=y.c) Vy F
   refine⟨⟨fun x hx => ?_,fun x hx => ?_⟩,fun h => ?_⟩
   ·rcases List.mem_cons.1 hx with rfl | hx
    ·intro H
     simp only[oI,Bool.or_eq_true]at H
     by_cases F9:y.c.I ρ=true
     ·obtain⟨s,A,E⟩:=hy F9
      rw[if_pos F9]at a0
      exact⟨s,by rw[A,hb],a0.trans E⟩
     ·obtain⟨s,A,E⟩:=hn (H.resolve_left F9)
      rw[if_neg F9]at a0
      exact⟨s,A,a0.trans E⟩
    ·exact d3.right x hx
   ·rcases List.mem_cons.1 hx with rfl | hx
    ·exact WB _ _ _ _
    ·exact d3.ext x hx
   ·rcases h with h | ⟨x,hx,h⟩
    ·exact⟨_,List.mem_cons_self,by simp only[oI,h,Bool.or_true]⟩
    ·rcases List.mem_cons.1 hx with rfl | hx
     ·exact⟨_,List.mem_cons_self,by simp only[oI,h,Bool.true_or]⟩
     ·exact⟨x,List.mem_cons_of_mem _ hx,h⟩
  ·obtain⟨es,ex⟩:=VJ hn F d3
   refine⟨⟨fun x hx => ?_,fun x hx => ?_⟩,fun h => ?_⟩
   ·rcases List.mem_cons.1 hx with rfl | hx
    ·exact hy
    ·exact es.right x hx
   ·rcases List.mem_cons.1 hx with rfl | hx
    ·exact Vy
    ·exact es.ext x hx
   ·rcases h with h | ⟨x,hx,h⟩
    ·obtain⟨z,hz,jI⟩:=ex (.inl h)
     exact⟨z,List.mem_cons_of_mem _ hz,jI⟩
    ·rcases List.mem_cons.1 hx with rfl | hx
     ·exact⟨_,List.mem_cons_self,h⟩
     ·obtain⟨z,hz,jI⟩:=ex (.inr ⟨x,hx,h⟩)
      exact⟨z,List.mem_cons_of_mem _ hz,jI⟩
theorem UG {ρ:aa} {b:bf} {t:Option (XE×XS)}:∀{m l:List dg},j5 ρ b t m->j5 ρ b t l->j5 ρ b t (Bl b m l)/\(((∃x∈m,x.c.I ρ=true)\/∃x∈l,x.c.I ρ=true)->∃x∈Bl b m l,x.c.I ρ=true)
 | [],l,_,O=>⟨O,fun h=>by
   rcases h with⟨x,hx,_⟩ | h
   ·cases hx
   ·exact h⟩
 | y::m,l,hm,O=>by
  have a1:j5 ρ b t m:=⟨fun x hx=>hm.right x (List.mem_cons_of_mem _ hx),fun x hx=>hm.ext x (List.mem_cons_of_mem _ hx)⟩
  obtain⟨A,E⟩:=VJ (hm.right y List.mem_cons_self) (hm.ext y List.mem_cons_self) O
  obtain⟨h3,h4⟩:=UG a1 A
  refine⟨h3,fun h=>h4 ?_⟩
  rcases h with⟨x,hx,H⟩ | h
  ·rcases List.mem_cons.1 hx with rfl | hx
   ·exact .inr (E (.inl H))
   ·exact .inl ⟨x,hx,H⟩
  ·exact .inr (E (.inr h))
theorem Ub {ρ:aa} {b:bf} {t:Option (XE×XS)}:∀{l:List dg} {cS:BE},j5 ρ b t l->(cS.I ρ=true\/∃x∈l,x.c.I ρ=true)->j5 ρ b t (kl cS l)/\(cS.I ρ=true\/∃x∈kl cS l,x.c.I ρ=true)
 | [],cS,ho,hx=>⟨ho,hx⟩
 | [x],cS,ho,hx=>by
  have hr:=ho.right x List.mem_cons_self
  refine⟨⟨fun y hy => ?_,fun y hy => ?_⟩,?_⟩
  ·simp only[kl,List.mem_singleton]at hy
   subst hy
   intro H
   simp only[eA,Bool.not_eq_true']at H
   refine hr ?_
   rcases hx with h | ⟨z,hz,h⟩
   ·rw[H]at h;cases h
   ·simp only[List.mem_singleton]at hz;subst hz;exact h
  ·simp only[kl,List.mem_singleton]at hy
   subst hy
   exact ho.ext x List.mem_cons_self
  ·by_cases ha:cS.I ρ=true
   ·exact .inl ha
   ·exact .inr ⟨⟨mkNot cS,x.e,x.s⟩,by simp only[kl,List.mem_singleton],by simp only[eA];simpa using ha⟩
 | x::y::r,cS,ho,hx=>by
  have d3:j5 ρ b t (y::r):=⟨fun z hz=>ho.right z (List.mem_cons_of_mem _ hz),fun z hz=>ho.ext z (List.mem_cons_of_mem _ hz)⟩
  obtain⟨A,E⟩:=Ub (cS:=mkOr cS x.c) d3 (by
   rw[oI]
   rcases hx with h | ⟨z,hz,h⟩
   ·exact .inl (by rw[h];rfl)
   ·rcases List.mem_cons.1 hz with rfl | hz
    ·exact .inl (by rw[h];simp)
    ·exact .inr ⟨z,hz,h⟩)
  refine⟨⟨fun z hz => ?_,fun z hz => ?_⟩,?_⟩
  ·simp only[kl]at hz
   rcases List.mem_cons.1 hz with rfl | hz
   ·exact ho.right _ List.mem_cons_self
   ·exact A.right z hz
  ·simp only[kl]at hz
   rcases List.mem_cons.1 hz with rfl | hz
   ·exact ho.ext _ List.mem_cons_self
   ·exact A.ext z hz
  ·rw[oI,Bool.or_eq_true]at E
   rcases E with(E | E) | ⟨z,hz,E⟩
   ·exact .inl E
   ·exact .inr ⟨x,by simp only[kl];exact List.mem_cons_self,E⟩
   ·exact .inr ⟨z,by simp only[kl];exact List.mem_cons_of_mem _ hz,E⟩
theorem A_ {ρ:aa} {b:bf}:∀{t:T (XE×XS)},t.dd (fun p=>Ext b p.2.t)->(flat b t).1.I ρ=true->j5 ρ b (t.aq ρ) (flat b t).2/\∃x∈(flat b t).2,x.c.I ρ=true
 | .ret (e,s),ha,_=>by
  refine⟨⟨fun x hx => ?_,fun x hx => ?_⟩,?_⟩
  ·simp only[flat,List.mem_singleton]at hx;subst hx;exact fun _=>⟨s,rfl,ga.refl _⟩
  ·simp only[flat,List.mem_singleton]at hx;subst hx;exact ha
  ·exact⟨⟨.lit true,e,s⟩,by simp only[flat,List.mem_singleton],by simp only[BE.I]⟩
 | .br c x y,ha,a2=>by
  simp only[flat]at a2 ⊢
  rw[kM]at a2
  have hx:=fun h=>A_ (ρ:=ρ) (b:=b) (t:=x) ha.1 h
  have hy:=fun h=>A_ (ρ:=ρ) (b:=b) (t:=y) ha.2 h
  have key:j5 ρ b ((T.br c x y).aq ρ) ((flat b x).2.map (dg.and c))/\j5 ρ b ((T.br c x y).aq ρ) ((flat b y).2.map (dg.and (mkNot c)))/\((∃z∈(flat b y).2.map (dg.and (mkNot c)),z.c.I ρ=true)\/∃z∈(flat b x).2.map (dg.and c),z.c.I ρ=true):=by
   have extOf:∀{t:T (XE×XS)},t.dd (fun p=>Ext b p.2.t)->∀z∈(flat b t).2,Ext b z.s.t:=fun {t} ht z hz=>Ud ht z hz
   by_cases H:c.I ρ=true
   ·rw[if_pos H]at a2
    obtain⟨A,z,hz,jI⟩:=hx a2
    have rf:(T.br c x y).aq ρ=x.aq ρ:=by simp only[T.aq,H,if_true]
    rw[rf]
    refine⟨⟨fun v R => ?_,fun v R => ?_⟩,⟨fun v R => ?_,fun v R => ?_⟩,.inr ⟨dg.and c z,List.mem_map.2 ⟨z,hz,rfl⟩,by simp only[dg.and,fQ,H,jI,Bool.and_self]⟩⟩
    ·obtain⟨w,hw,rfl⟩:=List.mem_map.1 R
     intro W
     simp only[dg.and,fQ,Bool.and_eq_true]at W
     exact A.right w hw W.2
    ·obtain⟨w,hw,rfl⟩:=List.mem_map.1 R
     exact A.ext w hw
    ·obtain⟨w,hw,rfl⟩:=List.mem_map.1 R
     intro W
     simp only[dg.and,fQ,eA,H,Bool.not_true,Bool.false_and]at W
     cases W
    ·obtain⟨w,hw,rfl⟩:=List.mem_map.1 R
     exact extOf ha.2 w hw
   ·rw[if_neg H]at a2
    obtain⟨A,z,hz,jI⟩:=hy a2
    have rf:(T.br c x y).aq ρ=y.aq ρ:=by simp only[T.aq,H];rfl
    have vd:c.I ρ=false:=by simpa using H
    rw[rf]
    refine⟨⟨fun v R => ?_,fun v R => ?_⟩,⟨fun v R => ?_,fun v R => ?_⟩,.inl ⟨dg.and (mkNot c) z,List.mem_map.2 ⟨z,hz,rfl⟩,by simp only[dg.and,fQ,eA,vd,jI,Bool.not_false,Bool.and_self]⟩⟩
    ·obtain⟨w,hw,rfl⟩:=List.mem_map.1 R
     intro W
     simp only[dg.and,fQ,vd,Bool.false_and]at W
     cases W
    ·obtain⟨w,hw,rfl⟩:=List.mem_map.1 R
     exact extOf ha.1 w hw
    ·obtain⟨w,hw,rfl⟩:=List.mem_map.1 R
     intro W
     simp only[dg.and,fQ,Bool.and_eq_true]at W
     exact A.right w hw W.2
    ·obtain⟨w,hw,rfl⟩:=List.mem_map.1 R
     exact A.ext w hw
  obtain⟨k1,k2,k3⟩:=key
  obtain⟨g1,g2⟩:=UG k2 k1
  obtain⟨f1,f2⟩:=Ub (cS := .lit false) g1 (.inr (g2 k3))
  refine⟨f1,?_⟩
  rcases f2 with f2 | f2
  ·simp[BE.I]at f2
  ·exact f2
 | .cT c x,ha,a2=>by
  simp only[flat,fQ,Bool.and_eq_true]at a2 ⊢
  obtain⟨A,E⟩:=A_ (ρ:=ρ) (b:=b) (t:=x) ha a2.2
  have rf:(T.cT c x).aq ρ=x.aq ρ:=by simp only[T.aq,a2.1,if_true]
  rw[rf]
  exact⟨A,E⟩
 | .fail _,_,a2=>by simp[flat,BE.I]at a2
where
 Ud:∀{t:T (XE×XS)},t.dd (fun p=>Ext b p.2.t)->∀z∈(flat b t).2,Ext b z.s.t:=by
  intro t
  induction t with
  | ret a=>intro ha z hz;obtain⟨e,s⟩:=a;simp only[flat,List.mem_singleton]at hz;subst hz;exact ha
  | fail _=>intro _ z hz;simp[flat]at hz
  | cT c x ih=>intro ha z hz;simp only[flat]at hz;exact ih ha z hz
  | br c x y es ex =>
   intro ha z hz
   simp only[flat]at hz
   have i1:=es ha.1
   have ot:=ex ha.2
   have afw:∀(l:List dg) (cS:BE),(∀z∈l,Ext b z.s.t)->∀z∈kl cS l,Ext b z.s.t:=by
    intro l
    induction l with
    | nil=>intro cS h z hz;simp[kl]at hz
    | cons x r ih =>
     intro cS h z hz
     cases r with
     | nil=>simp only[kl,List.mem_singleton]at hz;subst hz;exact h x List.mem_cons_self
     | cons y r =>
      simp only[kl]at hz
      rcases List.mem_cons.1 hz with rfl | hz
      ·exact h _ List.mem_cons_self
      ·exact ih _ (fun z hz=>h z (List.mem_cons_of_mem _ hz)) z hz
   have ins:∀(l:List dg) (n:dg),(∀z∈l,Ext b z.s.t)->Ext b n.s.t->∀z∈ou b n.c n.e n.s l,Ext b z.s.t:=by
    intro l n
    induction l with
    | nil=>intro _ hn z hz;simp only[ou,List.mem_singleton]at hz;subst hz;exact hn
    | cons x r ih =>
     intro h hn z hz
     simp only[ou]at hz
     split at hz
     ·rcases List.mem_cons.1 hz with rfl | hz
      ·exact WB _ _ _ _
      ·exact h z (List.mem_cons_of_mem _ hz)
     ·rcases List.mem_cons.1 hz with rfl | hz
      ·exact h _ List.mem_cons_self
      ·exact ih (fun z hz=>h z (List.mem_cons_of_mem _ hz)) hn z hz
   have Bk:∀(m l:List dg),(∀z∈m,Ext b z.s.t)->(∀z∈l,Ext b z.s.t)->∀z∈Bl b m l,Ext b z.s.t:=by
    intro m
    induction m with
    | nil=>intro l _ O;exact O
    | cons x m ih=>intro l hm O;exact ih _ (fun z hz=>hm z (List.mem_cons_of_mem _ hz)) (ins l x O (hm x List.mem_cons_self))
   refine afw _ _ (Bk _ _ (fun z hz => ?_) (fun z hz => ?_)) z hz
   ·obtain⟨w,hw,rfl⟩:=List.mem_map.1 hz;exact ot w hw
   ·obtain⟨w,hw,rfl⟩:=List.mem_map.1 hz;exact i1 w hw
def sz:List dg->T (XE×XS)
 | []=>(.fail [])
 | [x] => .ret (x.e,x.s)
 | x::r=>match x.c with
  | .lit true => .ret (x.e,x.s)
  | .lit false=>sz r
  | c => .br c (.ret (x.e,x.s)) (sz r)
theorem EE {ρ:aa} {b:bf} {t:Option (XE×XS)} {e:XE} {s':XS}:∀{l:List dg},j5 ρ b t l->(∃x∈l,x.c.I ρ=true)->(sz l).aq ρ=some (e,s')->∃s,t=some (e,s)/\ga (s'.I ρ) (s.I ρ)
 | [],_,hx,_=>by obtain⟨x,hx,_⟩:=hx;cases hx
 | [x],ho,hx,h=>by
  obtain⟨y,hy,H⟩:=hx
  simp only[List.mem_singleton]at hy
  subst hy
  cases h
  exact ho.right _ List.mem_cons_self H
 | x::y::r,ho,hx,h=>by
  have d3:j5 ρ b t (y::r):=⟨fun z hz=>ho.right z (List.mem_cons_of_mem _ hz),fun z hz=>ho.ext z (List.mem_cons_of_mem _ hz)⟩
  have hr:=ho.right x List.mem_cons_self
  have next:¬x.c.I ρ=true->∃z∈y::r,z.c.I ρ=true:=fun hn=>by
   obtain⟨z,hz,H⟩:=hx
   rcases List.mem_cons.1 hz with rfl | hz
   ·exact absurd H hn
   ·exact⟨z,hz,H⟩
  simp only[sz]at h
  split at h
  ·rename_i H
   cases h
   exact hr (by rw[H];rfl)
  ·rename_i H
   exact EE d3 (next (by rw[H];simp[BE.I])) h
  ·simp only[T.aq]at h
   split at h
   ·rename_i H;cases h;exact hr H
   ·rename_i H;exact EE d3 (next H) h
theorem J' {b:bf}:∀{l:List dg},(∀z∈l,Ext b z.s.t)->(sz l).dd fun p=>Ext b p.2.t
 | [],_=>trivial
 | [x],h=>h x List.mem_cons_self
 | x::y::r,h=>by
  have ih:=J' (l:=y::r) fun z hz=>h z (List.mem_cons_of_mem _ hz)
  simp only[sz]
  split
  ·exact h x List.mem_cons_self
  ·exact ih
  ·exact⟨h x List.mem_cons_self,ih⟩
def ov (b:bf) (t:T (XE×XS)):T (XE×XS) :=
 match t with
 | .ret p => .ret p
 | .fail w => .fail w
 | t=>match flat b t with
  | (.lit true,l)=>sz l
  | (.lit false,_) => .fail t.zJ
  | (c,l) => .cT c (sz l)
theorem vO {ρ:aa} {b:bf} {t:T (XE×XS)} (ha:t.dd fun p=>Ext b p.2.t) {e:XE} {s':XS} (h:(ov b t).aq ρ=some (e,s')):∃s,t.aq ρ=some (e,s)/\ga (s'.I ρ) (s.I ρ):=by
 unfold ov at h
 split at h
 ·cases h;exact⟨s',rfl,ga.refl _⟩
 ·cases h
 ·have hf:=A_ (ρ:=ρ) (b:=b) ha
  split at h
  ·rename_i l O
   rw[O]at hf
   obtain⟨A,E⟩:=hf rfl
   exact EE A E h
  ·cases h
  ·rename_i c l _ _ O
   rw[O]at hf
   simp only[T.aq]at h
   split at h
   ·rename_i H
    obtain⟨A,E⟩:=hf H
    exact EE A E h
   ·cases h
theorem yt {b:bf} {t:T (XE×XS)} (ha:t.dd fun p=>Ext b p.2.t):(ov b t).dd fun p=>Ext b p.2.t:=by
 unfold ov
 split
 ·exact ha
 ·trivial
 ·have hx:=A_.Ud ha
  split
  ·rename_i l O;rw[O]at hx;exact J' hx
  ·trivial
  ·rename_i c l _ _ O;rw[O]at hx;exact J' hx
end Go.Proofs.Xw
namespace Go.Proofs.Xw
open Go Go.Proofs.Aw
theorem rI {p:Nm->Bool} {ρ:aa} {n:U} {l:RL}:cw p (aX ρ n l)=true:=by
 have sc:∀r:List Sc,a4 p (cd ρ r)=true:=fun r=>by
  induction r with
  | nil=>rfl
  | cons s r ih=>simp only[cd,List.map_cons,a4,ca,Bool.true_and]at ih ⊢;exact ih
 have KJ:∀(l:Nat) (ks:List Kd) (k j:Nat),a4 p (bR ρ l k ks j)=true:=fun l ks=>by
  induction ks with
  | nil=>intro k j;rfl
  | cons kd ks ih=>intro k j;cases kd<;>simp only[bR,a4,ca,Bool.true_and]<;>exact ih _ _
 have row:∀(l:RL) (j:Int),a4 p (l.row ρ j)=true:=fun l=>by
  induction l with
  | var l ks=>intro j;exact KJ _ _ _ _
  | one r=>intro j;exact sc r
  | app n a b es ex=>intro j;simp only[RL.row];split<;>first | exact es _ | exact ex _
  | drop n a ih=>intro j;exact ih _
  | eN i r a ih=>intro j;simp only[RL.row];split<;>first | exact sc _ | exact ih _
  | ite c a b es ex=>intro j;simp only[RL.row];split<;>first | exact es _ | exact ex _
 unfold aX
 generalize List.range (n.I ρ).toNat=L
 induction L with
 | nil=>rfl
 | cons j L ih=>simp only[List.map_cons,cw,row,Bool.true_and];exact ih
theorem G' {p:Nm->Bool} {ρ:aa} {n:U} {l:Nat} {ks:List Nk}:cw p (fW ρ n l ks)=true:=by
 have KJ:∀(l:Nat) (ks:List Kd) (k j:Nat),a4 p (bR ρ l k ks j)=true:=fun l ks=>by
  induction ks with
  | nil=>intro k j;rfl
  | cons kd ks ih=>intro k j;cases kd<;>simp only[bR,a4,ca,Bool.true_and]<;>exact ih _ _
 have all:∀(f:Nat->List AV),(∀j,a4 p (f j)=true)->∀L:List Nat,cw p (L.map f)=true:=fun f hf L=>by
  induction L with
  | nil=>rfl
  | cons j L ih=>simp only[List.map_cons,cw,hf,Bool.true_and];exact ih
 have AB:∀(ks:List Nk) (k j:Nat),a4 p (dx ρ l k ks j)=true:=fun ks=>by
  induction ks with
  | nil=>intro k j;rfl
  | cons kd ks ih =>
   intro k j
   cases kd with
   | f kd=>cases kd<;>simp only[dx,qB,a4,ca,Bool.true_and]<;>exact ih _ _
   | r z S kk =>
    simp only[dx,a4,ca,Bool.and_eq_true]
    exact⟨all _ (fun e=>KJ S kk 0 _) _,ih _ _⟩
 exact all _ (fun j=>AB ks 0 j) _
theorem OK {p:Nm->Bool} {v:AV} (h:Aw.ca (fun _=>false) v=true):Aw.ca p v=true:=OL (p:=fun _=>false) (fun _ h=>by cases h) v h
theorem Cz {p:Nm->Bool}:∀{a b:List (List AV)},cw p a=true->cw p b=true->cw p (a++b)=true
 | [],_,_,hb=>hb
 | x::a,b,ha,hb=>by
  simp only[cw,Bool.and_eq_true]at ha
  simp only[List.cons_append,cw,ha.1,Bool.true_and]
  exact Cz ha.2 hb
theorem rJ {p:Nm->Bool} {ρ:aa} {z:Nat} {m:U} {t:Nat}:cw p (bN ρ z m t)=true:=by
 have row:∀(j:Nat) (L:List Nat),Aw.a4 p (L.map fun k=>(ρ.ct t k j).1)=true:=fun j L=>by
  induction L with
  | nil=>rfl
  | cons k L ih=>simp only[List.map_cons,Aw.a4,OK (ρ.ct t k j).2.1,Bool.true_and];exact ih
 have all:∀L:List Nat,cw p (L.map fun(j:Nat)=>(List.range z).map fun k=>(ρ.ct t k j).1)=true:=fun L=>by
  induction L with
  | nil=>rfl
  | cons j L ih=>simp only[List.map_cons,cw,row,Bool.true_and];exact ih
 exact all _
theorem HY (f:Nm->Nm):∀a b:List AV,Aw.bu f (a++b)=Aw.bu f a++Aw.bu f b
 | [],_=>rfl
 | x::a,b=>by simp only[List.cons_append,Aw.bu,HY f a b]
theorem HW (f:Nm->Nm):∀a b:List (List AV),Aw.dJ f (a++b)=Aw.dJ f a++Aw.dJ f b
 | [],_=>rfl
 | x::a,b=>by simp only[List.cons_append,Aw.dJ,HW f a b]
mutual
def X.ca (p:Nm->Bool):X->Bool
 | .top | .k _ | .sc _ | .rl _ _ _ _ | .rows _ _ _ | .rn _ _ _ _ _ | .cQ _ _ _=>true
 | .tk _ _ _ D | .tq _ _ _ D _=>X.cw p D
 | .slv n _ _ _ _=>p n
 | .dz n _ _ _=>p n
 | .agg cs | .tup cs | .ip cs _ _=>X.a4 p cs
 | .ptr n _ _=>p n
 | .sl n _ _ _ _=>p n
 | .ro _ D _=>X.cw p D
 | .fn _ xs ys=>X.a4 p xs&&X.a4 p ys
 | .gd _ x=>x.ca p
def X.a4 (p:Nm->Bool):List X->Bool
 | []=>true
 | x::xs=>x.ca p&&X.a4 p xs
def X.cw (p:Nm->Bool):List (List X)->Bool
 | []=>true
 | e::D=>X.a4 p e&&X.cw p D
end
mutual
theorem X.wc {p:Nm->Bool} (ρ:aa):∀x:X,x.ca p=true->Aw.ca p (x.I ρ)=true
 | .top,_=>rfl
 | .k _,_=>rfl
 | .sc _,_=>rfl
 | .rl _ _ _ _,_=>rI
 | .rn _ _ _ _ _,_=>G'
 | .tk _ _ _ _,_=>rfl
 | .tq _ _ _ D _,h=>Cz rJ (X.G_ ρ D h)
 | .cQ t o j,_=>OK (ρ.ct t o _).2.1
 | .rows _ _ _,_=>rfl
 | .slv _ _ _ _ _,h=>h
 | .dz _ _ _ _,h=>h
 | .agg cs,h=>X.pV ρ cs h
 | .tup cs,h=>X.pV ρ cs h
 | .ip cs _ _,h=>X.pV ρ cs h
 | .ro _ D _,h=>X.G_ ρ D h
 | .fn _ xs ys,h=>by
  simp only[X.ca,Bool.and_eq_true]at h
  simp only[X.I,Aw.ca,X.pV ρ xs h.1,X.pV ρ ys h.2,Bool.and_self]
 | .ptr _ _ _,h=>h
 | .sl _ _ _ _ _,h=>h
 | .gd c x,h=>by
  simp only[X.I]
  split
  ·exact X.wc ρ x h
  ·rfl
theorem X.pV {p:Nm->Bool} (ρ:aa):∀l:List X,X.a4 p l=true->Aw.a4 p (X.af ρ l)=true
 | [],_=>rfl
 | x::xs,h=>by
  simp only[X.a4,Bool.and_eq_true]at h
  simp only[X.af,Aw.a4,X.wc ρ x h.1,X.pV ρ xs h.2,Bool.and_self]
theorem X.G_ {p:Nm->Bool} (ρ:aa):∀l:List (List X),X.cw p l=true->Aw.cw p (X.a7 ρ l)=true
 | [],_=>rfl
 | x::xs,h=>by
  simp only[X.cw,Bool.and_eq_true]at h
  simp only[X.a7,Aw.cw,X.pV ρ x h.1,X.G_ ρ xs h.2,Bool.and_self]
end
mutual
def X.aW (f:Nm->Nm):X->X
 | .agg cs => .agg (X.bu f cs)
 | .tup cs => .tup (X.bu f cs)
 | .ip cs aG d => .ip (X.bu f cs) aG d
 | .ptr n aG d => .ptr (f n) aG d
 | .sl n z off len own => .sl (f n) z off len own
 | .ro z D full => .ro z (X.dJ f D) full
 | .fn g xs ys => .fn g (X.bu f xs) (X.bu f ys)
 | .gd c x => .gd c (x.aW f)
 | .top => .top
 | .k v => .k v
 | .sc s => .sc s
 | .rl z n l full => .rl z n l full
 | .rn z n l ks full => .rn z n l ks full
 | .tk z m t D => .tk z m t (X.dJ f D)
 | .tq z m t D full => .tq z m t (X.dJ f D) full
 | .cQ t o j => .cQ t o j
 | .rows z n l => .rows z n l
 | .slv n z o l w => .slv (f n) z o l w
 | .dz n z j o => .dz (f n) z j o
def X.bu (f:Nm->Nm):List X->List X
 | []=>[]
 | x::xs=>x.aW f::X.bu f xs
def X.dJ (f:Nm->Nm):List (List X)->List (List X)
 | []=>[]
 | e::D=>X.bu f e::X.dJ f D
end
mutual
theorem X.HZ {f:Nm->Nm} (ρ:aa):∀x:X,(x.aW f).I ρ=Aw.aW f (x.I ρ)
 | .top=>rfl
 | .k _=>rfl
 | .sc _=>rfl
 | .rl _ _ _ _=>by simp only[X.aW,X.I,Aw.aW];rw[p9 f _ rI]
 | .rn _ _ _ _ _=>by simp only[X.aW,X.I,Aw.aW];rw[p9 f _ G']
 | .tk _ _ _ _=>rfl
 | .tq _ _ _ D _=>by simp only[X.aW,X.I,Aw.aW,HW,X.HX ρ D];rw[p9 f _ rJ]
 | .cQ t o j=>(zd f _ (ρ.ct t o _).2.1).symm
 | .rows _ _ _=>rfl
 | .slv _ _ _ _ _=>rfl
 | .dz _ _ _ _=>rfl
 | .agg cs=>by simp only[X.aW,X.I,Aw.aW,X.rT ρ cs]
 | .tup cs=>by simp only[X.aW,X.I,Aw.aW,X.rT ρ cs]
 | .ip cs _ _=>by simp only[X.aW,X.I,Aw.aW,X.rT ρ cs]
 | .ro _ D _=>by simp only[X.aW,X.I,Aw.aW,X.HX ρ D]
 | .fn _ xs ys=>by simp only[X.aW,X.I,Aw.aW,X.rT ρ xs,X.rT ρ ys]
 | .ptr _ _ _=>rfl
 | .sl _ _ _ _ _=>rfl
 | .gd c x=>by
  simp only[X.aW,X.I]
  split
  ·exact X.HZ ρ x
  ·rfl
theorem X.rT {f:Nm->Nm} (ρ:aa):∀l:List X,X.af ρ (X.bu f l)=Aw.bu f (X.af ρ l)
 | []=>rfl
 | x::xs=>by simp only[X.bu,X.af,Aw.bu,X.HZ ρ x,X.rT ρ xs]
theorem X.HX {f:Nm->Nm} (ρ:aa):∀l:List (List X),X.a7 ρ (X.dJ f l)=Aw.dJ f (X.a7 ρ l)
 | []=>rfl
 | x::xs=>by simp only[X.dJ,X.a7,Aw.dJ,X.rT ρ x,X.HX ρ xs]
end
mutual
def X.names:X->List Nm
 | .top | .k _ | .sc _ | .rl _ _ _ _ | .rows _ _ _ | .rn _ _ _ _ _ | .cQ _ _ _=>[]
 | .tk _ _ _ D | .tq _ _ _ D _=>X.Ow D
 | .slv n _ _ _ _=>[n]
 | .dz n _ _ _=>[n]
 | .agg cs | .tup cs | .ip cs _ _=>X.lG cs
 | .ptr n _ _=>[n]
 | .sl n _ _ _ _=>[n]
 | .ro _ D _=>X.Ow D
 | .fn _ xs ys=>X.lG xs++X.lG ys
 | .gd _ x=>x.names
def X.lG:List X->List Nm
 | []=>[]
 | x::xs=>x.names++X.lG xs
def X.Ow:List (List X)->List Nm
 | []=>[]
 | e::D=>X.lG e++X.Ow D
end
theorem rH {p:Nm->Bool}:∀{D:List (List AV)},cw p D=true->Aw.a4 p D.flatten=true
 | [],_=>rfl
 | e::D,h=>by
  simp only[cw,Bool.and_eq_true]at h
  have app:∀(a b:List AV),Aw.a4 p a=true->Aw.a4 p b=true->Aw.a4 p (a++b)=true:=fun a b ha hb=>by
   induction a with
   | nil=>exact hb
   | cons x a ih =>
    simp only[Aw.a4,Bool.and_eq_true]at ha
    simp only[List.cons_append,Aw.a4,Bool.and_eq_true]
    exact⟨ha.1,ih ha.2⟩
  rw[List.flatten_cons]
  exact app _ _ h.1 (rH h.2)
theorem X.wb {p:Nm->Bool} (ρ:aa) (cs:List X) (h:X.a4 p cs=true):Aw.a4 p (aB ρ cs)=true:=by
 unfold aB
 split
 ·exact rH rI
 ·simp only[X.a4,X.ca,Bool.and_true]at h
  exact rH (Cz rJ (X.G_ ρ _ h))
 ·exact X.pV ρ cs h
theorem X.PC {f:Nm->Nm} (ρ:aa) (cs:List X):aB ρ (X.bu f cs)=Aw.bu f (aB ρ cs):=by
 by_cases h:b0 cs=true
 ·unfold b0 at h
  split at h
  ·rename_i z n l
   have e:X.bu f [.rows z n l]=[.rows z n l]:=rfl
   rw[e,lN f _ (by simp only[aB];exact rH rI)]
  ·rename_i z m t D
   have e:X.bu f [.tk z m t D]=[.tk z m t (X.dJ f D)]:=rfl
   have fl:∀l:List (List AV),Aw.bu f l.flatten=(Aw.dJ f l).flatten:=fun l=>by
    induction l with
    | nil=>rfl
    | cons a l ih=>simp only[List.flatten_cons,HY,Aw.dJ,ih]
   rw[e]
   simp only[aB]
   rw[fl,HW,X.HX,p9 f _ rJ]
  ·cases h
 ·have A:b0 cs=false:=by simpa using h
  have E:b0 (X.bu f cs)=false:=by
   match cs,A with
   | [],_=>rfl
   | [x],A=>cases x<;>first | rfl | (simp[b0]at A)
   | x::y::r,_ =>
    simp only[X.bu]
    unfold b0
    split
    ·rename_i dN;simp at dN
    ·rename_i dN;simp at dN
    ·rfl
  rw[cR A,cR E,X.rT]
end Go.Proofs.Xw
namespace Go.Proofs.Xw
open Go Go.Proofs.Aw
structure aA (n:Nat) (ρ G:aa):Prop where
 i:∀k,k<n->ρ.i k=G.i k
 b:∀k,k<n->ρ.b k=G.b k
 s:∀k,k<n->ρ.s k=G.s k
 len:∀k,k<n->ρ.len k=G.len k
 ci:∀k,k<n->ρ.ci k=G.ci k
 cb:∀k,k<n->ρ.cb k=G.cb k
 cs:∀k,k<n->ρ.cs k=G.cs k
 ct:∀k,k<n->ρ.ct k=G.ct k
theorem aA.refl (n:Nat) (ρ:aa):aA n ρ ρ:=⟨fun _ _=>rfl,fun _ _=>rfl,fun _ _=>rfl,fun _ _=>rfl,fun _ _=>rfl,fun _ _=>rfl,fun _ _=>rfl,fun _ _=>rfl⟩
theorem aA.symm {n:Nat} {ρ G:aa} (h:aA n ρ G):aA n G ρ :=
 ⟨fun k u=>(h.i k u).symm,fun k u=>(h.b k u).symm,fun k u=>(h.s k u).symm,fun k u=>(h.len k u).symm,fun k u=>(h.ci k u).symm,fun k u=>(h.cb k u).symm,fun k u=>(h.cs k u).symm,fun k u=>(h.ct k u).symm⟩
theorem aA.trans {n:Nat} {a b c:aa} (h:aA n a b) (k:aA n b c):aA n a c :=
 ⟨fun j M=>(h.i j M).trans (k.i j M),fun j M=>(h.b j M).trans (k.b j M),fun j M=>(h.s j M).trans (k.s j M),fun j M=>(h.len j M).trans (k.len j M),fun j M=>(h.ci j M).trans (k.ci j M),fun j M=>(h.cb j M).trans (k.cb j M),fun j M=>(h.cs j M).trans (k.cs j M),fun j M=>(h.ct j M).trans (k.ct j M)⟩
theorem aA.le {m n:Nat} {ρ G:aa} (h:aA n ρ G) (hm:m<=n):aA m ρ G :=
 ⟨fun k u=>h.i k (by omega),fun k u=>h.b k (by omega),fun k u=>h.s k (by omega),fun k u=>h.len k (by omega),fun k u=>h.ci k (by omega),fun k u=>h.cb k (by omega),fun k u=>h.cs k (by omega),fun k u=>h.ct k (by omega)⟩
mutual
def U.au (n:Nat):U->Bool
 | .lit _=>true
 | .var i=>Nat.blt i n
 | .cl l _ j=>Nat.blt l n&&j.au n
 | .len l=>Nat.blt l n
 | .cm t=>t.au n
 | .fJ t j=>t.au n&&j.au n
 | .op _ _ a b=>a.au n&&b.au n
 | .ite c a b=>c.au n&&(a.au n&&b.au n)
 | .uf _ _ a=>a.au n
def AL.au (n:Nat):AL->Bool
 | .nil=>true
 | .i e r=>e.au n&&r.au n
 | .b e r=>e.au n&&r.au n
 | .s e r=>e.au n&&r.au n
def BE.au (n:Nat):BE->Bool
 | .lit _=>true
 | .var i=>Nat.blt i n
 | .cl l _ j=>Nat.blt l n&&j.au n
 | .lt a b=>a.au n&&b.au n
 | .eq a b=>a.au n&&b.au n
 | .seq a b=>a.au n&&b.au n
 | .slt a b=>a.au n&&b.au n
 | .not a=>a.au n
 | .and a b=>a.au n&&b.au n
 | .or a b=>a.au n&&b.au n
 | .ite c a b=>c.au n&&(a.au n&&b.au n)
def TE.au (n:Nat):TE->Bool
 | .lit _=>true
 | .var i=>Nat.blt i n
 | .cl l _ j=>Nat.blt l n&&j.au n
 | .sub t a b=>t.au n&&(a.au n&&b.au n)
 | .ite c a b=>c.au n&&(a.au n&&b.au n)
end
mutual
theorem U.aP {n:Nat} {ρ G:aa} (h:aA n ρ G):∀e:U,e.au n=true->e.I ρ=e.I G
 | .lit _,_=>rfl
 | .var i,hb=>h.i i (by simpa [U.au]using hb)
 | .cl l k j,hb=>by
  simp only[U.au,Bool.and_eq_true]at hb
  simp only[U.I,U.aP h j hb.2,h.ci l (by simpa using hb.1)]
 | .len l,hb=>by simp only[U.I,h.len l (by simpa [U.au]using hb)]
 | .cm t,hb=>by simp only[U.I,TE.aP h t hb]
 | .fJ t j,hb=>by
  simp only[U.au,Bool.and_eq_true]at hb
  simp only[U.I,TE.aP h t hb.1,U.aP h j hb.2]
 | .op o k a b,hb=>by
  simp only[U.au,Bool.and_eq_true]at hb
  simp only[U.I,U.aP h a hb.1,U.aP h b hb.2]
 | .ite c a b,hb=>by
  simp only[U.au,Bool.and_eq_true]at hb
  simp only[U.I,BE.aP h c hb.1,U.aP h a hb.2.1,U.aP h b hb.2.2]
 | .uf _ _ a,hb=>by simp only[U.I,AL.aP h a hb]
theorem AL.aP {n:Nat} {ρ G:aa} (h:aA n ρ G):∀e:AL,e.au n=true->e.I ρ=e.I G
 | .nil,_=>rfl
 | .i e r,hb=>by
  simp only[AL.au,Bool.and_eq_true]at hb
  simp only[AL.I,U.aP h e hb.1,AL.aP h r hb.2]
 | .b e r,hb=>by
  simp only[AL.au,Bool.and_eq_true]at hb
  simp only[AL.I,BE.aP h e hb.1,AL.aP h r hb.2]
 | .s e r,hb=>by
  simp only[AL.au,Bool.and_eq_true]at hb
  simp only[AL.I,TE.aP h e hb.1,AL.aP h r hb.2]
theorem BE.aP {n:Nat} {ρ G:aa} (h:aA n ρ G):∀e:BE,e.au n=true->e.I ρ=e.I G
 | .lit _,_=>rfl
 | .var i,hb=>h.b i (by simpa [BE.au]using hb)
 | .cl l k j,hb=>by
  simp only[BE.au,Bool.and_eq_true]at hb
  simp only[BE.I,U.aP h j hb.2,h.cb l (by simpa using hb.1)]
 | .lt a b,hb=>by
  simp only[BE.au,Bool.and_eq_true]at hb
  simp only[BE.I,U.aP h a hb.1,U.aP h b hb.2]
 | .eq a b,hb=>by
  simp only[BE.au,Bool.and_eq_true]at hb
  simp only[BE.I,U.aP h a hb.1,U.aP h b hb.2]
 | .seq a b,hb=>by
  simp only[BE.au,Bool.and_eq_true]at hb
  simp only[BE.I,TE.aP h a hb.1,TE.aP h b hb.2]
 | .slt a b,hb=>by
  simp only[BE.au,Bool.and_eq_true]at hb
  simp only[BE.I,TE.aP h a hb.1,TE.aP h b hb.2]
 | .not a,hb=>by simp only[BE.I,BE.aP h a hb]
 | .and a b,hb=>by
  simp only[BE.au,Bool.and_eq_true]at hb
  simp only[BE.I,BE.aP h a hb.1,BE.aP h b hb.2]
 | .or a b,hb=>by
  simp only[BE.au,Bool.and_eq_true]at hb
  simp only[BE.I,BE.aP h a hb.1,BE.aP h b hb.2]
 | .ite c a b,hb=>by
  simp only[BE.au,Bool.and_eq_true]at hb
  simp only[BE.I,BE.aP h c hb.1,BE.aP h a hb.2.1,BE.aP h b hb.2.2]
theorem TE.aP {n:Nat} {ρ G:aa} (h:aA n ρ G):∀e:TE,e.au n=true->e.I ρ=e.I G
 | .lit _,_=>rfl
 | .var i,hb=>h.s i (by simpa [TE.au]using hb)
 | .cl l k j,hb=>by
  simp only[TE.au,Bool.and_eq_true]at hb
  simp only[TE.I,U.aP h j hb.2,h.cs l (by simpa using hb.1)]
 | .sub t a b,hb=>by
  simp only[TE.au,Bool.and_eq_true]at hb
  simp only[TE.I,TE.aP h t hb.1,U.aP h a hb.2.1,U.aP h b hb.2.2]
 | .ite c a b,hb=>by
  simp only[TE.au,Bool.and_eq_true]at hb
  simp only[TE.I,BE.aP h c hb.1,TE.aP h a hb.2.1,TE.aP h b hb.2.2]
end
def Sc.au (n:Nat):Sc->Bool
 | .i _ e=>e.au n
 | .b e=>e.au n
 | .s e=>e.au n
 | .f a z=>a.au n&&z.au n
 | .c a z m y=>a.au n&&(z.au n&&(m.au n&&y.au n))
theorem Sc.aP {n:Nat} {ρ G:aa} (h:aA n ρ G) (s:Sc) (hb:s.au n=true):s.I ρ=s.I G:=by
 cases s with
 | i k e=>simp only[Sc.I,U.aP h e hb]
 | b e=>simp only[Sc.I,BE.aP h e hb]
 | s e=>simp only[Sc.I,TE.aP h e hb]
 | f a z =>
  simp only[Sc.au,Bool.and_eq_true]at hb
  simp only[Sc.I,U.aP h a hb.1,BE.aP h z hb.2]
 | c a z m y =>
  simp only[Sc.au,Bool.and_eq_true]at hb
  simp only[Sc.I,U.aP h a hb.1,BE.aP h z hb.2.1,U.aP h m hb.2.2.1,BE.aP h y hb.2.2.2]
theorem P_ {n:Nat} {ρ G:aa} (h:aA n ρ G):∀(r:List Sc),r.all (Sc.au n)=true->cd ρ r=cd G r
 | [],_=>rfl
 | s::r,hb=>by
  simp only[List.all_cons,Bool.and_eq_true]at hb
  have ih:=P_ h r hb.2
  simp only[cd]at ih
  simp only[cd,List.map_cons,Sc.aP h s hb.1,ih]
theorem Ap {n:Nat} {ρ G:aa} (h:aA n ρ G) {l:Nat} (O:l<n) (j:Nat):∀(ks:List Kd) (k:Nat),bR ρ l k ks j=bR G l k ks j
 | [],_=>rfl
 | .i K::ks,k=>by simp only[bR,h.ci l O,Ap h O j ks (k+1)]
 | .b::ks,k=>by simp only[bR,h.cb l O,Ap h O j ks (k+1)]
 | .s::ks,k=>by simp only[bR,h.cs l O,Ap h O j ks (k+1)]
def RL.au (n:Nat):RL->Bool
 | .var l _=>Nat.blt l n
 | .one r=>r.all (Sc.au n)
 | .app m a b=>m.au n&&(a.au n&&b.au n)
 | .drop m a=>m.au n&&a.au n
 | .eN i r a=>i.au n&&(r.all (Sc.au n)&&a.au n)
 | .ite c a b=>c.au n&&(a.au n&&b.au n)
theorem RL.iR {n:Nat} {ρ G:aa} (h:aA n ρ G):∀(l:RL) (j:Int),l.au n=true->l.row ρ j=l.row G j
 | .var l ks,j,hb=>Ap h (by simpa [RL.au]using hb) _ ks 0
 | .one r,j,hb=>P_ h r hb
 | .app m a b,j,hb=>by
  simp only[RL.au,Bool.and_eq_true]at hb
  simp only[RL.row,U.aP h m hb.1,RL.iR h a _ hb.2.1,RL.iR h b _ hb.2.2]
 | .drop m a,j,hb=>by
  simp only[RL.au,Bool.and_eq_true]at hb
  simp only[RL.row,U.aP h m hb.1,RL.iR h a _ hb.2]
 | .eN i r a,j,hb=>by
  simp only[RL.au,Bool.and_eq_true]at hb
  simp only[RL.row,U.aP h i hb.1,P_ h r hb.2.1,RL.iR h a _ hb.2.2]
 | .ite c a b,j,hb=>by
  simp only[RL.au,Bool.and_eq_true]at hb
  simp only[RL.row,BE.aP h c hb.1,RL.iR h a _ hb.2.1,RL.iR h b _ hb.2.2]
theorem YA {n:Nat} {ρ G:aa} (h:aA n ρ G) {m:U} {l:RL} (hm:m.au n=true) (O:l.au n=true):aX ρ m l=aX G m l:=by
 unfold aX
 rw[U.aP h m hm]
 congr 1
 funext j
 exact RL.iR h l j O
def v_ (n:Nat):List Nk->Bool
 | []=>true
 | .f _::ks=>v_ n ks
 | .r _ S _::ks=>Nat.blt S n&&v_ n ks
theorem EL {n:Nat} {ρ G:aa} (h:aA n ρ G) {l:Nat} (O:l<n) (j:Nat):∀(ks:List Nk) (k:Nat),v_ n ks=true->dx ρ l k ks j=dx G l k ks j
 | [],_,_=>rfl
 | .f kd::ks,k,hb=>by
  simp only[dx,EL h O j ks (k+1) hb]
  congr 1
  cases kd
  ·simp only[qB,h.ci l O]
  ·simp only[qB,h.cb l O]
  ·simp only[qB,h.cs l O]
 | .r z S kk::ks,k,hb=>by
  simp only[v_,Bool.and_eq_true]at hb
  simp only[dx,EL h O j ks (k+1) hb.2,j0,h.ci l O]
  congr 2
  congr 1
  funext e
  exact Ap h (by simpa using hb.1) _ kk 0
theorem aqB {n:Nat} {ρ G:aa} (h:aA n ρ G) {m:U} {l:Nat} {ks:List Nk} (hm:m.au n=true) (O:Nat.blt l n=true) (u:v_ n ks=true):fW ρ m l ks=fW G m l ks:=by
 unfold fW
 rw[U.aP h m hm]
 congr 1
 funext j
 exact EL h (by simpa using O) j ks 0 u
theorem YF {n:Nat} {ρ G:aa} (h:aA n ρ G) {z:Nat} {m:U} {t:Nat} (hm:m.au n=true) (ht:Nat.blt t n=true):bN ρ z m t=bN G z m t:=by
 unfold bN
 rw[U.aP h m hm,h.ct t (by simpa using ht)]
def uK (n:Nat):List (BE×Nat)->Bool
 | []=>true
 | (c,_)::r=>c.au n&&uK n r
theorem Av {n:Nat} {ρ G:aa} (h:aA n ρ G) (d:Nat):∀aG,uK n aG=true->choose ρ aG d=choose G aG d
 | [],_=>rfl
 | (c,o)::r,hb=>by
  simp only[uK,Bool.and_eq_true]at hb
  simp only[choose,BE.aP h c hb.1,Av h d r hb.2]
mutual
def X.au (n:Nat):X->Bool
 | .top | .k _=>true
 | .sc s=>s.au n
 | .agg cs | .tup cs=>X.jw n cs
 | .ptr _ aG _=>uK n aG
 | .sl _ _ _ _ _=>true
 | .ip cs aG _=>X.jw n cs&&uK n aG
 | .ro _ D _=>X.Ag n D
 | .rl _ m l _=>m.au n&&l.au n
 | .rn _ m l ks _=>m.au n&&(Nat.blt l n&&v_ n ks)
 | .tk _ m t D | .tq _ m t D _=>m.au n&&(Nat.blt t n&&X.Ag n D)
 | .cQ t _ j=>Nat.blt t n&&j.au n
 | .fn _ xs ys=>X.jw n xs&&X.jw n ys
 | .gd c x=>c.au n&&x.au n
 | .rows _ m l=>m.au n&&l.au n
 | .slv _ _ o l _=>o.au n&&l.au n
 | .dz _ _ j _=>j.au n
def X.jw (n:Nat):List X->Bool
 | []=>true
 | x::xs=>x.au n&&X.jw n xs
def X.Ag (n:Nat):List (List X)->Bool
 | []=>true
 | e::D=>X.jw n e&&X.Ag n D
end
mutual
theorem X.aP {n:Nat} {ρ G:aa} (h:aA n ρ G):∀x:X,x.au n=true->x.I ρ=x.I G
 | .top,_=>rfl
 | .k _,_=>rfl
 | .sc s,hb=>by simp only[X.I,Sc.aP h s hb]
 | .agg cs,hb=>by simp only[X.I,X.fI h cs hb]
 | .tup cs,hb=>by simp only[X.I,X.fI h cs hb]
 | .ptr _ aG d,hb=>by simp only[X.I,Av h d aG hb]
 | .sl _ _ _ _ _,_=>rfl
 | .ip cs aG d,hb=>by
  simp only[X.au,Bool.and_eq_true]at hb
  simp only[X.I,X.fI h cs hb.1,Av h d aG hb.2]
 | .ro _ D _,hb=>by simp only[X.I,X.EA h D hb]
 | .rl _ m l _,hb=>by
  simp only[X.au,Bool.and_eq_true]at hb
  simp only[X.I,YA h hb.1 hb.2]
 | .rn _ m l ks _,hb=>by
  simp only[X.au,Bool.and_eq_true]at hb
  simp only[X.I,aqB h hb.1 hb.2.1 hb.2.2]
 | .tk _ _ _ _,_=>rfl
 | .tq _ m t D _,hb=>by
  simp only[X.au,Bool.and_eq_true]at hb
  simp only[X.I,YF h hb.1 hb.2.1,X.EA h D hb.2.2]
 | .cQ t o j,hb=>by
  simp only[X.au,Bool.and_eq_true]at hb
  simp only[X.I,U.aP h j hb.2,h.ct t (by simpa using hb.1)]
 | .fn _ xs ys,hb=>by
  simp only[X.au,Bool.and_eq_true]at hb
  simp only[X.I,X.fI h xs hb.1,X.fI h ys hb.2]
 | .gd c x,hb=>by
  simp only[X.au,Bool.and_eq_true]at hb
  simp only[X.I,BE.aP h c hb.1,X.aP h x hb.2]
 | .rows _ _ _,_=>rfl
 | .slv _ _ o l _,hb=>by
  simp only[X.au,Bool.and_eq_true]at hb
  simp only[X.I,U.aP h o hb.1,U.aP h l hb.2]
 | .dz _ _ j _,hb=>by
  simp only[X.I,U.aP h j hb]
theorem X.fI {n:Nat} {ρ G:aa} (h:aA n ρ G):∀l:List X,X.jw n l=true->X.af ρ l=X.af G l
 | [],_=>rfl
 | x::xs,hb=>by
  simp only[X.jw,Bool.and_eq_true]at hb
  simp only[X.af,X.aP h x hb.1,X.fI h xs hb.2]
theorem X.EA {n:Nat} {ρ G:aa} (h:aA n ρ G):∀l:List (List X),X.Ag n l=true->X.a7 ρ l=X.a7 G l
 | [],_=>rfl
 | x::xs,hb=>by
  simp only[X.Ag,Bool.and_eq_true]at hb
  simp only[X.a7,X.fI h x hb.1,X.EA h xs hb.2]
end
theorem Tj {n:Nat} {ρ G:aa} (h:aA n ρ G) (cs:List X) (hb:X.jw n cs=true):aB ρ cs=aB G cs:=by
 unfold aB
 split
 ·simp only[X.jw,X.au,Bool.and_eq_true]at hb
  simp only[YA h hb.1.1 hb.1.2]
 ·simp only[X.jw,X.au,Bool.and_eq_true]at hb
  simp only[YF h hb.1.1 hb.1.2.1,X.EA h _ hb.1.2.2]
 ·exact X.fI h cs hb
def XS.au (n:Nat) (s:XS):Bool:=s.t.all (fun p=>p.2.au n)&&s.h.all fun p=>X.jw n p.2
theorem XS.aP {n:Nat} {ρ G:aa} (h:aA n ρ G) (s:XS) (hb:s.au n=true):s.I ρ=s.I G:=by
 simp only[XS.au,Bool.and_eq_true,List.all_eq_true]at hb
 simp only[XS.I,ep,aK]
 congr 1
 ·exact List.map_congr_left fun p hp=>by rw[X.aP h p.2 (hb.1 p hp)]
 ·exact List.map_congr_left fun p hp=>by rw[Tj h p.2 (hb.2 p hp)]
structure Bind where
 i:List (Nat×U)
 b:List (Nat×BE)
 s:List (Nat×TE)
 r:List (Nat×U×RL)
def bh {am:Type} (k:Nat):List (Nat×am)->Option am
 | []=>none
 | (j,v)::r=>if Nat.beq j k=true then some v else bh k r
def aH:Option AV->Int
 | some (.sc (.int _ v))=>v
 | _=>0
def dS:Option AV->Bool
 | some (.sc (.bool v))=>v
 | _=>false
def cellS:Option AV->ByteArray
 | some (.sc (.string v))=>v
 | _=>⟨#[]⟩
noncomputable def Bind.ap (β:Bind) (ρ:aa):aa where
 i k:=match bh k β.i with | some e=>e.I ρ | none=>ρ.i k
 b k:=match bh k β.b with | some e=>e.I ρ | none=>ρ.b k
 s k:=match bh k β.s with | some e=>e.I ρ | none=>ρ.s k
 len k:=match bh k β.r with | some (n,_)=>(n.I ρ).toNat | none=>ρ.len k
 ci l k j:=match bh l β.r with | some (_,r)=>aH (r.row ρ j)[k]? | none=>ρ.ci l k j
 cb l k j:=match bh l β.r with | some (_,r)=>dS (r.row ρ j)[k]? | none=>ρ.cb l k j
 cs l k j:=match bh l β.r with | some (_,r)=>cellS (r.row ρ j)[k]? | none=>ρ.cs l k j
 ct:=ρ.ct
def kJ {am:Type} (n:Nat):List (Nat×am)->Bool
 | []=>true
 | (j,_)::r=>Nat.ble n j&&kJ n r
theorem ry {am:Type} {n k:Nat}:∀{l:List (Nat×am)},kJ n l=true->k<n->bh k l=none
 | [],_,_=>rfl
 | (j,v)::r,h,u=>by
  simp only[kJ,Bool.and_eq_true,Nat.ble_eq]at h
  simp only[bh]
  rw[if_neg (by simp;omega)]
  exact ry h.2 u
def Bind.ge (n:Nat) (β:Bind):Bool:=kJ n β.i&&(kJ n β.b&&(kJ n β.s&&kJ n β.r))
theorem Bind.bC {n:Nat} {β:Bind} (h:β.ge n=true) (ρ:aa):aA n ρ (β.ap ρ):=by
 simp only[Bind.ge,Bool.and_eq_true]at h
 obtain⟨A,E,h3,h4⟩:=h
 refine⟨fun k u => ?_,fun k u => ?_,fun k u => ?_,fun k u => ?_,fun k u => ?_,fun k u => ?_,fun k u => ?_,fun _ _=>rfl⟩
 ·simp only[Bind.ap,ry A u]
 ·simp only[Bind.ap,ry E u]
 ·simp only[Bind.ap,ry h3 u]
 ·simp only[Bind.ap,ry h4 u]
 ·funext a b;simp only[Bind.ap,ry h4 u]
 ·funext a b;simp only[Bind.ap,ry h4 u]
 ·funext a b;simp only[Bind.ap,ry h4 u]
def U.nn:U->Bool
 | .lit n=>decide (0<=n)
 | .len _ | .cm _ | .fJ _ _=>true
 | .op .cY _ a b=>a.nn&&b.nn
 | .ite _ a b=>a.nn&&b.nn
 | _=>false
theorem U.kP (ρ:aa):∀e:U,e.nn=true->0<=e.I ρ
 | .lit n,h=>by simpa [U.nn,U.I]using h
 | .len l,_=>by simp only[U.I];omega
 | .cm t,_=>by simp only[U.I];omega
 | .fJ t j,_=>by simp only[U.I];omega
 | .op .cY k a b,h=>by
  simp only[U.nn,Bool.and_eq_true]at h
  have A:=U.kP ρ a h.1
  have E:=U.kP ρ b h.2
  simp only[U.I,a_.I];omega
 | .ite c a b,h=>by
  simp only[U.nn,Bool.and_eq_true]at h
  simp only[U.I]
  split
  ·exact U.kP ρ a h.1
  ·exact U.kP ρ b h.2
def P9:Kd->Sc->Bool
 | .i k,.i k' _=>mw k k'
 | .b,.b _=>true
 | .s,.s _=>true
 | _,_=>false
def rX:List Kd->List Sc->Bool
 | [],[]=>true
 | k::ks,s::ss=>P9 k s&&rX ks ss
 | _,_=>false
def RL.kd (ks:List Kd):RL->Bool
 | .var _ lA=>jN yu ks lA
 | .one r=>rX ks r
 | .app _ a b=>a.kd ks&&b.kd ks
 | .drop _ a=>a.kd ks
 | .eN _ r a=>rX ks r&&a.kd ks
 | .ite _ a b=>a.kd ks&&b.kd ks
def k5:List Kd->List AV->Prop
 | [],l=>l=[]
 | .i k::ks,l=>∃v r,l = .sc (.int k v)::r/\k5 ks r
 | .b::ks,l=>∃v r,l = .sc (.bool v)::r/\k5 ks r
 | .s::ks,l=>∃v r,l = .sc (.string v)::r/\k5 ks r
theorem Dg {ρ:aa}:∀{ks:List Kd} {r:List Sc},rX ks r=true->k5 ks (cd ρ r)
 | [],[],_=>rfl
 | [],_::_,h=>by cases h
 | _::_,[],h=>by simp[rX]at h
 | k::ks,s::r,h=>by
  simp only[rX,Bool.and_eq_true]at h
  have ih:=Dg (ρ:=ρ) h.2
  have A:=h.1
  cases k<;>cases s<;>simp only[P9,Bool.false_eq_true]at A
  ·rw[ox A];exact⟨_,_,rfl,ih⟩
  ·exact⟨_,_,rfl,ih⟩
  ·exact⟨_,_,rfl,ih⟩
theorem EN (ρ:aa) (l j:Nat):∀(ks:List Kd) (k:Nat),k5 ks (bR ρ l k ks j)
 | [],_=>rfl
 | .i _::ks,k=>⟨_,_,rfl,EN ρ l j ks (k+1)⟩
 | .b::ks,k=>⟨_,_,rfl,EN ρ l j ks (k+1)⟩
 | .s::ks,k=>⟨_,_,rfl,EN ρ l j ks (k+1)⟩
theorem RL.rr {ρ:aa} {ks:List Kd}:∀{l:RL} {j:Int},l.kd ks=true->k5 ks (l.row ρ j)
 | .var l lA,j,h=>by
  have:=mz (fun _ _=>Gq) h
  subst this
  exact EN ρ l _ _ 0
 | .one r,j,h=>Dg h
 | .app n a b,j,h=>by
  simp only[RL.kd,Bool.and_eq_true]at h
  simp only[RL.row]
  split
  ·exact RL.rr h.1
  ·exact RL.rr h.2
 | .drop n a,j,h=>by simp only[RL.row];exact RL.rr (l:=a) h
 | .eN i r a,j,h=>by
  simp only[RL.kd,Bool.and_eq_true]at h
  simp only[RL.row]
  split
  ·exact Dg h.1
  ·exact RL.rr h.2
 | .ite c a b,j,h=>by
  simp only[RL.kd,Bool.and_eq_true]at h
  simp only[RL.row]
  split
  ·exact RL.rr h.1
  ·exact RL.rr h.2
theorem ER {ρ G:aa} {l j:Nat} {row:List AV} (hi:∀k,G.ci l k j=aH row[k]?) (hb:∀k,G.cb l k j=dS row[k]?) (hs:∀k,G.cs l k j=cellS row[k]?) :
  ∀(ks:List Kd) (k:Nat) (tl:List AV),(∀i,tl[i]? = row[k+i]?)->k5 ks tl->bR G l k ks j=tl
 | [],k,tl,_,h=>by simp only[k5]at h;subst h;rfl
 | .i K::ks,k,tl,ht,h=>by
  obtain⟨v,r,rfl,h⟩:=h
  have h0:=ht 0
  simp only[List.getElem?_cons_zero,Nat.add_zero]at h0
  simp only[bR,hi,<-h0,aH,ER (ρ:=ρ) hi hb hs ks (k+1) r (fun i=>by have:=ht (i+1);rw[List.getElem?_cons_succ]at this;rw[this];congr 1;omega) h]
 | .b::ks,k,tl,ht,h=>by
  obtain⟨v,r,rfl,h⟩:=h
  have h0:=ht 0
  simp only[List.getElem?_cons_zero,Nat.add_zero]at h0
  simp only[bR,hb,<-h0,dS,ER (ρ:=ρ) hi hb hs ks (k+1) r (fun i=>by have:=ht (i+1);rw[List.getElem?_cons_succ]at this;rw[this];congr 1;omega) h]
 | .s::ks,k,tl,ht,h=>by
  obtain⟨v,r,rfl,h⟩:=h
  have h0:=ht 0
  simp only[List.getElem?_cons_zero,Nat.add_zero]at h0
  simp only[bR,hs,<-h0,cellS,ER (ρ:=ρ) hi hb hs ks (k+1) r (fun i=>by have:=ht (i+1);rw[List.getElem?_cons_succ]at this;rw[this];congr 1;omega) h]
theorem Bind.rows {β:Bind} {ρ:aa} {l:Nat} {n:U} {r:RL} {ks:List Kd} (h:bh l β.r=some (n,r)) (u:r.kd ks=true) (j:Nat):bR (β.ap ρ) l 0 ks j=r.row ρ j :=
 ER (ρ:=ρ) (row:=r.row ρ j) (fun k=>by simp only[Bind.ap,h]) (fun k=>by simp only[Bind.ap,h]) (fun k=>by simp only[Bind.ap,h]) ks 0 _ (fun i=>by rw[Nat.zero_add]) (RL.rr u)
end Go.Proofs.Xw
namespace Go.Proofs.Xw
open Go Go.Proofs.Aw
def Bj (r:RL) (j:U) (k:Nat):Option Sc:=if j.nn=true then(match r.get j with
 | some row=>row[k]?
 | none=>none)else none
theorem LX {ρ:aa} {r:RL} {j:U} {k:Nat} {s:Sc} (h:Bj r j k=some s):(r.row ρ ((j.I ρ).toNat:Nat))[k]? = some (.sc (s.I ρ)):=by
 unfold Bj at h
 split at h
 ·rename_i hn
  have hn:=U.kP ρ j hn
  split at h
  ·rename_i row hr
   rw[Int.toNat_of_nonneg hn,<-RL.pv hr]
   unfold cd
   rw[List.getElem?_map,h];rfl
  ·cases h
 ·cases h
theorem SE {β:Bind} {ρ:aa} {l:Nat} (F:bh l β.r=none) (j:Nat):∀(ks:List Kd) (k:Nat),bR (β.ap ρ) l k ks j=bR ρ l k ks j
 | [],_=>rfl
 | kd::ks,k=>by
  have e1:∀k,(β.ap ρ).ci l k j=ρ.ci l k j/\(β.ap ρ).cb l k j=ρ.cb l k j/\(β.ap ρ).cs l k j=ρ.cs l k j:=fun k=>by simp only[Bind.ap,F,and_self]
  cases kd<;>simp only[bR,SE F j ks (k+1),(e1 k).1,(e1 k).2.1,(e1 k).2.2]
def o2 {am β mO:Type} (f:am->β->mO):Option am->Option β->Option mO
 | some a,some b=>some (f a b)
 | _,_=>none
theorem kQ {am β mO:Type} {f:am->β->mO} {x:Option am} {y:Option β} {c:mO} (h:o2 f x y=some c):∃a b,x=some a/\y=some b/\c=f a b:=by
 unfold o2 at h
 split at h
 ·cases h;exact⟨_,_,rfl,rfl,rfl⟩
 ·cases h
mutual
def e_ (β:Bind):U->Option U
 | .lit n=>some (.lit n)
 | .var k=>match bh k β.i with
  | some e=>some e
  | none=>some (.var k)
 | .len l=>match bh l β.r with
  | some (m,_)=>if m.nn=true then some m else none
  | none=>some (.len l)
 | .cl l k j=>match e_ β j with
  | some j=>(match bh l β.r with
   | some (_,r)=>(match Bj r j k with
    | some (.i _ e)=>some e
    | _=>none)
   | none=>some (.cl l k j))
  | none=>none
 | .cm t=>match jX β t with
  | some t=>some (.cm t)
  | none=>none
 | .fJ t j=>o2 U.fJ (jX β t) (e_ β j)
 | .op o k a b=>o2 (U.op o k) (e_ β a) (e_ β b)
 | .ite c a b=>match fA β c with
  | some c=>o2 (U.ite c) (e_ β a) (e_ β b)
  | none=>none
 | .uf k j a=>match rQ β a with
  | some a=>some (.uf k j a)
  | none=>none
def rQ (β:Bind):AL->Option AL
 | .nil=>some .nil
 | .i e r=>o2 AL.i (e_ β e) (rQ β r)
 | .b e r=>o2 AL.b (fA β e) (rQ β r)
 | .s e r=>o2 AL.s (jX β e) (rQ β r)
def fA (β:Bind):BE->Option BE
 | .lit b=>some (.lit b)
 | .var k=>match bh k β.b with
  | some e=>some e
  | none=>some (.var k)
 | .cl l k j=>match e_ β j with
  | some j=>(match bh l β.r with
   | some (_,r)=>(match Bj r j k with
    | some (.b e)=>some e
    | _=>none)
   | none=>some (.cl l k j))
  | none=>none
 | .lt a b=>o2 BE.lt (e_ β a) (e_ β b)
 | .eq a b=>o2 BE.eq (e_ β a) (e_ β b)
 | .seq a b=>o2 BE.seq (jX β a) (jX β b)
 | .slt a b=>o2 BE.slt (jX β a) (jX β b)
 | .not a=>match fA β a with
  | some a=>some (.not a)
  | none=>none
 | .and a b=>o2 BE.and (fA β a) (fA β b)
 | .or a b=>o2 BE.or (fA β a) (fA β b)
 | .ite c a b=>match fA β c with
  | some c=>o2 (BE.ite c) (fA β a) (fA β b)
  | none=>none
def jX (β:Bind):TE->Option TE
 | .lit s=>some (.lit s)
 | .var k=>match bh k β.s with
  | some e=>some e
  | none=>some (.var k)
 | .cl l k j=>match e_ β j with
  | some j=>(match bh l β.r with
   | some (_,r)=>(match Bj r j k with
    | some (.s e)=>some e
    | _=>none)
   | none=>some (.cl l k j))
  | none=>none
 | .sub t a b=>match jX β t with
  | some t=>o2 (TE.sub t) (e_ β a) (e_ β b)
  | none=>none
 | .ite c a b=>match fA β c with
  | some c=>o2 (TE.ite c) (jX β a) (jX β b)
  | none=>none
end
mutual
theorem ig {β:Bind} {ρ:aa}:∀{e e':U},e_ β e=some e'->e'.I ρ=e.I (β.ap ρ)
 | .lit n,e',h=>by simp only[e_,Option.some.injEq]at h;subst h;rfl
 | .var k,e',h=>by
  simp only[e_]at h
  split at h
  ·rename_i F
   cases h;simp only[U.I,Bind.ap,F]
  ·rename_i F
   cases h;simp only[U.I,Bind.ap,F]
 | .len l,e',h=>by
  simp only[e_]at h
  split at h
  ·rename_i F
   split at h
   ·rename_i hn
    cases h
    have:=U.kP ρ _ hn
    simp only[U.I,Bind.ap,F]
    omega
   ·cases h
  ·rename_i F
   cases h;simp only[U.I,Bind.ap,F]
 | .cl l k j,e',h=>by
  simp only[e_]at h
  split at h
  ·rename_i M
   split at h
   ·rename_i F
    split at h
    ·rename_i Z
     cases h
     have:=LX (ρ:=ρ) Z
     rw[ig M]at this
     simp only[U.I,Bind.ap,F]
     simp only[Bind.ap]at this
     rw[this];rfl
    ·cases h
   ·rename_i F
    cases h
    simp only[U.I,ig M]
    simp only[Bind.ap,F]
  ·cases h
 | .cm t,e',h=>by
  simp only[e_]at h
  split at h
  ·rename_i ht
   cases h;simp only[U.I,p8 ht]
  ·cases h
 | .fJ t j,e',h=>by
  simp only[e_]at h
  obtain⟨a,b,A,E,rfl⟩:=kQ h
  simp only[U.I,p8 A,ig E]
 | .op o k x y,e',h=>by
  simp only[e_]at h
  obtain⟨a,b,A,E,rfl⟩:=kQ h
  simp only[U.I,ig A,ig E]
 | .ite c x y,e',h=>by
  simp only[e_]at h
  split at h
  ·rename_i H
   obtain⟨a,b,A,E,rfl⟩:=kQ h
   simp only[U.I,nA H,ig A,ig E]
  ·cases h
 | .uf k j a,e',h=>by
  simp only[e_]at h
  split at h
  ·rename_i ha
   cases h;simp only[U.I,HP ha]
  ·cases h
theorem HP {β:Bind} {ρ:aa}:∀{e e':AL},rQ β e=some e'->e'.I ρ=e.I (β.ap ρ)
 | .nil,e',h=>by simp only[rQ,Option.some.injEq]at h;subst h;rfl
 | .i x r,e',h=>by
  simp only[rQ]at h
  obtain⟨a,b,A,E,rfl⟩:=kQ h
  simp only[AL.I,ig A,HP E]
 | .b x r,e',h=>by
  simp only[rQ]at h
  obtain⟨a,b,A,E,rfl⟩:=kQ h
  simp only[AL.I,nA A,HP E]
 | .s x r,e',h=>by
  simp only[rQ]at h
  obtain⟨a,b,A,E,rfl⟩:=kQ h
  simp only[AL.I,p8 A,HP E]
theorem nA {β:Bind} {ρ:aa}:∀{e e':BE},fA β e=some e'->e'.I ρ=e.I (β.ap ρ)
 | .lit b,e',h=>by simp only[fA,Option.some.injEq]at h;subst h;rfl
 | .var k,e',h=>by
  simp only[fA]at h
  split at h
  ·rename_i F
   cases h;simp only[BE.I,Bind.ap,F]
  ·rename_i F
   cases h;simp only[BE.I,Bind.ap,F]
 | .cl l k j,e',h=>by
  simp only[fA]at h
  split at h
  ·rename_i M
   split at h
   ·rename_i F
    split at h
    ·rename_i Z
     cases h
     have:=LX (ρ:=ρ) Z
     rw[ig M]at this
     simp only[BE.I,Bind.ap,F]
     simp only[Bind.ap]at this
     rw[this];rfl
    ·cases h
   ·rename_i F
    cases h
    simp only[BE.I,ig M]
    simp only[Bind.ap,F]
  ·cases h
 | .lt x y,e',h=>by
  simp only[fA]at h
  obtain⟨a,b,A,E,rfl⟩:=kQ h
  simp only[BE.I,ig A,ig E]
 | .eq x y,e',h=>by
  simp only[fA]at h
  obtain⟨a,b,A,E,rfl⟩:=kQ h
  simp only[BE.I,ig A,ig E]
 | .seq x y,e',h=>by
  simp only[fA]at h
  obtain⟨a,b,A,E,rfl⟩:=kQ h
  simp only[BE.I,p8 A,p8 E]
 | .slt x y,e',h=>by
  simp only[fA]at h
  obtain⟨a,b,A,E,rfl⟩:=kQ h
  simp only[BE.I,p8 A,p8 E]
 | .not x,e',h=>by
  simp only[fA]at h
  split at h
  ·rename_i hx
   cases h;simp only[BE.I,nA hx]
  ·cases h
 | .and x y,e',h=>by
  simp only[fA]at h
  obtain⟨a,b,A,E,rfl⟩:=kQ h
  simp only[BE.I,nA A,nA E]
 | .or x y,e',h=>by
  simp only[fA]at h
  obtain⟨a,b,A,E,rfl⟩:=kQ h
  simp only[BE.I,nA A,nA E]
 | .ite c x y,e',h=>by
  simp only[fA]at h
  split at h
  ·rename_i H
   obtain⟨a,b,A,E,rfl⟩:=kQ h
   simp only[BE.I,nA H,nA A,nA E]
  ·cases h
theorem p8 {β:Bind} {ρ:aa}:∀{e e':TE},jX β e=some e'->e'.I ρ=e.I (β.ap ρ)
 | .lit s,e',h=>by simp only[jX,Option.some.injEq]at h;subst h;rfl
 | .var k,e',h=>by
  simp only[jX]at h
  split at h
  ·rename_i F
   cases h;simp only[TE.I,Bind.ap,F]
  ·rename_i F
   cases h;simp only[TE.I,Bind.ap,F]
 | .cl l k j,e',h=>by
  simp only[jX]at h
  split at h
  ·rename_i M
   split at h
   ·rename_i F
    split at h
    ·rename_i Z
     cases h
     have:=LX (ρ:=ρ) Z
     rw[ig M]at this
     simp only[TE.I,Bind.ap,F]
     simp only[Bind.ap]at this
     rw[this];rfl
    ·cases h
   ·rename_i F
    cases h
    simp only[TE.I,ig M]
    simp only[Bind.ap,F]
  ·cases h
 | .sub t x y,e',h=>by
  simp only[jX]at h
  split at h
  ·rename_i ht
   obtain⟨a,b,A,E,rfl⟩:=kQ h
   simp only[TE.I,p8 ht,ig A,ig E]
  ·cases h
 | .ite c x y,e',h=>by
  simp only[jX]at h
  split at h
  ·rename_i H
   obtain⟨a,b,A,E,rfl⟩:=kQ h
   simp only[TE.I,nA H,p8 A,p8 E]
  ·cases h
end
def gn (n:Nat) (β:Bind) (p e:U):Bool :=
 match p with
 | .uf k j a=>match e_ β (.uf k j a)with
  | some e'=>e'.beq e
  | none=>false
 | .var v=>if Nat.ble n v=true then(match bh v β.i with | some e'=>e'.beq e | none=>e.beq (.var v))else e.beq (.var v)
 | .len l=>if Nat.ble n l=true then(match bh l β.r with | some (m,_)=>m.beq e&&m.nn | none=>e.beq (.len l))else e.beq (.len l)
 | p=>p.au n&&p.beq e
def okB (n:Nat) (β:Bind) (p e:BE):Bool :=
 match p with
 | .var v=>if Nat.ble n v=true then(match bh v β.b with | some e'=>e'.beq e | none=>e.beq (.var v))else e.beq (.var v)
 | p=>p.au n&&p.beq e
def O1 (n:Nat) (β:Bind) (p e:TE):Bool :=
 match p with
 | .var v=>if Nat.ble n v=true then(match bh v β.s with | some e'=>e'.beq e | none=>e.beq (.var v))else e.beq (.var v)
 | p=>p.au n&&p.beq e
section
variable {n:Nat} {β:Bind} (Z:β.ge n=true) {ρ:aa}
include Z
theorem kS {p e:U} (h:gn n β p e=true):p.I (β.ap ρ)=e.I ρ:=by
 unfold gn at h
 split at h
 ·split at h
  ·rename_i e' F
   rw[<-U.beq_eq _ _ h,ig F]
  ·cases h
 ·rename_i v
  split at h
  ·split at h
   ·rename_i e' F
    rw[<-U.beq_eq _ _ h]
    simp only[U.I,Bind.ap,F]
   ·rename_i F
    rw[U.beq_eq _ _ h]
    simp only[U.I,Bind.ap,F]
  ·rename_i R
   rw[U.beq_eq _ _ h]
   exact((Bind.bC Z ρ).i v (by simpa using R)).symm
 ·rename_i l
  split at h
  ·split at h
   ·rename_i m r F
    simp only[Bool.and_eq_true]at h
    rw[<-U.beq_eq _ _ h.1]
    have:=U.kP ρ m h.2
    simp only[U.I,Bind.ap,F]
    omega
   ·rename_i F
    rw[U.beq_eq _ _ h]
    simp only[U.I,Bind.ap,F]
  ·rename_i R
   rw[U.beq_eq _ _ h]
   simp only[U.I,(Bind.bC Z ρ).len l (by simpa using R)]
 ·simp only[Bool.and_eq_true]at h
  rw[<-U.beq_eq _ _ h.2]
  exact(U.aP (Bind.bC Z ρ) _ h.1).symm
theorem CI {p e:BE} (h:okB n β p e=true):p.I (β.ap ρ)=e.I ρ:=by
 unfold okB at h
 split at h
 ·rename_i v
  split at h
  ·split at h
   ·rename_i e' F
    rw[<-BE.beq_eq _ _ h]
    simp only[BE.I,Bind.ap,F]
   ·rename_i F
    rw[BE.beq_eq _ _ h]
    simp only[BE.I,Bind.ap,F]
  ·rename_i R
   rw[BE.beq_eq _ _ h]
   exact((Bind.bC Z ρ).b v (by simpa using R)).symm
 ·simp only[Bool.and_eq_true]at h
  rw[<-BE.beq_eq _ _ h.2]
  exact(BE.aP (Bind.bC Z ρ) _ h.1).symm
theorem alb {p e:TE} (h:O1 n β p e=true):p.I (β.ap ρ)=e.I ρ:=by
 unfold O1 at h
 split at h
 ·rename_i v
  split at h
  ·split at h
   ·rename_i e' F
    rw[<-TE.beq_eq _ _ h]
    simp only[TE.I,Bind.ap,F]
   ·rename_i F
    rw[TE.beq_eq _ _ h]
    simp only[TE.I,Bind.ap,F]
  ·rename_i R
   rw[TE.beq_eq _ _ h]
   exact((Bind.bC Z ρ).s v (by simpa using R)).symm
 ·simp only[Bool.and_eq_true]at h
  rw[<-TE.beq_eq _ _ h.2]
  exact(TE.aP (Bind.bC Z ρ) _ h.1).symm
end
def OX (n:Nat) (β:Bind):Sc->Sc->Bool
 | .i k p,.i k' e=>mw k k'&&gn n β p e
 | .b p,.b e=>okB n β p e
 | .s p,.s e=>O1 n β p e
 | .f p z,.f e y=>gn n β p e&&okB n β z y
 | .c p z q w,.c e y d v=>gn n β p e&&(okB n β z y&&(gn n β q d&&okB n β w v))
 | _,_=>false
theorem ak7 {n:Nat} {β:Bind} (Z:β.ge n=true) {ρ:aa} {p e:Sc} (h:OX n β p e=true):p.I (β.ap ρ)=e.I ρ:=by
 unfold OX at h
 split at h
 ·simp only[Bool.and_eq_true]at h
  simp only[Sc.I,ox h.1,kS Z h.2]
 ·simp only[Sc.I,CI Z h]
 ·simp only[Sc.I,alb Z h]
 ·simp only[Bool.and_eq_true]at h
  simp only[Sc.I,kS Z h.1,CI Z h.2]
 ·simp only[Bool.and_eq_true]at h
  simp only[Sc.I,kS Z h.1,CI Z h.2.1,kS Z h.2.2.1,CI Z h.2.2.2]
 ·cases h
def yS (n:Nat) (β:Bind) (p e:RL):Bool :=
 match p with
 | .var l ks=>if Nat.ble n l=true then(match bh l β.r with | some (_,r)=>r.beq e&&r.kd ks | none=>e.beq (.var l ks))else e.beq (.var l ks)
 | p=>p.au n&&p.beq e
theorem ala {n:Nat} {β:Bind} (Z:β.ge n=true) {ρ:aa} {p e:RL} (h:yS n β p e=true) (j:Nat):p.row (β.ap ρ) j=e.row ρ j:=by
 unfold yS at h
 split at h
 ·rename_i l ks
  split at h
  ·split at h
   ·rename_i m r F
    simp only[Bool.and_eq_true]at h
    rw[<-RL.beq_eq h.1]
    simp only[RL.row,Int.toNat_natCast]
    exact Bind.rows F h.2 j
   ·rename_i F
    rw[RL.beq_eq h]
    simp only[RL.row]
    exact SE F _ ks 0
  ·rename_i R
   rw[RL.beq_eq h]
   exact(RL.iR (Bind.bC Z ρ) (.var l ks) j (by simp only[RL.au];simpa using R)).symm
 ·simp only[Bool.and_eq_true]at h
  rw[<-RL.beq_eq h.2]
  exact(RL.iR (Bind.bC Z ρ) _ j h.1).symm
theorem O0 {n:Nat} {β:Bind} (Z:β.ge n=true) {ρ:aa} {m m':U} {p e:RL} (hm:gn n β m m'=true) (h:yS n β p e=true):aX (β.ap ρ) m p=aX ρ m' e:=by
 unfold aX
 rw[kS Z hm]
 congr 1
 funext j
 exact ala Z h j
def Hu (n:Nat) (β:Bind) (m:U) (p:RL) (D:List (List X)):Bool :=
 gn n β m (.lit D.length)&&match D with
  | []=>true
  | D=>match o4 D with
   | some e=>yS n β p e
   | none=>false
theorem XB {n:Nat} {β:Bind} (Z:β.ge n=true) {ρ:aa} {m:U} {p:RL} {D:List (List X)} (h:Hu n β m p D=true):aX (β.ap ρ) m p=X.a7 ρ D:=by
 unfold Hu at h
 simp only[Bool.and_eq_true]at h
 obtain⟨A,E⟩:=h
 split at E
 ·have:=kS Z (ρ:=ρ) A
  simp only[U.I,List.length_nil]at this
  simp[aX,this,X.a7]
 ·split at E
  ·rename_i e F
   rw[O0 Z A E,IT F]
  ·cases E
mutual
def fS (n:Nat) (β:Bind) (aF:Nm->Nm):X->X->Bool
 | .sc p,.sc e=>OX n β p e
 | .agg cs,.agg ds=>nt n β aF cs ds
 | .tup cs,.tup ds=>nt n β aF cs ds
 | .sl a z o l w,.sl bz z' o' l' w'=>cC (aF a) bz&&(Nat.beq z z'&&(Nat.beq o o'&&(Nat.beq l l'&&w==w')))
 | .slv a z o l w,.slv bz z' o' l' w'=>cC (aF a) bz&&(Nat.beq z z'&&(gn n β o o'&&(gn n β l l'&&w==w')))
 | .slv a z o l w,.sl bz z' o' l' w'=>cC (aF a) bz&&(Nat.beq z z'&&(gn n β o (.lit 0)&&(Nat.beq o' 0&&(gn n β l (.lit l')&&w==w'))))
 | .ptr a aG d,.ptr bz t8 gx=>cC (aF a) bz&&(Nat.beq d gx&&(uK n aG&&jN xh aG t8))
 | .dz a z j o,.dz bz z' j' o'=>cC (aF a) bz&&(Nat.beq z z'&&(gn n β j j'&&Nat.beq o o'))
 | .rl z m l f,.rl z' m' l' f'=>Nat.beq z z'&&(f==f'&&(gn n β m m'&&yS n β l l'))
 | .rl z m l f,.ro z' D f'=>Nat.beq z z'&&(f==f'&&Hu n β m l D)
 | .rn z m l ks f,.rn z' m' l' lA f'=>Nat.beq z z'&&(f==f'&&(gn n β m m'&&(Nat.beq l l'&&(jN G7 ks lA&&(Nat.blt l n&&v_ n ks)))))
 | .ro z D f,.ro z' bB f'=>Nat.beq z z'&&(f==f'&&wi n β aF D bB)
 | .ip cs aG d,.ip bi t8 gx=>nt n β aF cs bi&&(Nat.beq d gx&&(uK n aG&&jN xh aG t8))
 | .fn f xs ys,.fn f' v6 wl=>Fq f f'&&(nt n β aF xs v6&&nt n β aF ys wl)
 | .gd c x,.gd dD Rg=>okB n β c dD&&fS n β aF x Rg
 | .k v,.k v'=>zE v v'
 | .tq z m t D f,.tq z' m' t' bB f'=>Nat.beq z z'&&(f==f'&&(gn n β m m'&&(Nat.beq t t'&&wi n β aF D bB)))
 | .cQ t k j,.cQ t' k' j'=>Nat.beq t t'&&(Nat.beq k k'&&gn n β j j')
 | .top,.top=>true
 | _,_=>false
def nt (n:Nat) (β:Bind) (aF:Nm->Nm):List X->List X->Bool
 | [],[]=>true
 | a::aG,b::bs=>fS n β aF a b&&nt n β aF aG bs
 | _,_=>false
def wi (n:Nat) (β:Bind) (aF:Nm->Nm):List (List X)->List (List X)->Bool
 | [],[]=>true
 | a::aG,b::bs=>nt n β aF a b&&wi n β aF aG bs
 | _,_=>false
end
theorem YE {n:Nat} {β:Bind} (Z:β.ge n=true) {ρ:aa} {z t:Nat} {m m':U} (h:gn n β m m'=true):bN (β.ap ρ) z m t=bN ρ z m' t:=by
 unfold bN
 rw[kS Z h]
 rfl
theorem Yh (aF:Nm->Nm) (ρ:aa) (n:U) (l:RL):Aw.dJ aF (aX ρ n l)=aX ρ n l:=p9 aF _ rI
mutual
theorem Hy {n:Nat} {β:Bind} (Z:β.ge n=true) {aF:Nm->Nm} {ρ:aa}:∀(p e:X),fS n β aF p e=true->e.I ρ=Aw.aW aF (p.I (β.ap ρ))
 | .sc p,e,h=>by
  cases e<;>simp only[fS,Bool.false_eq_true]at h
  simp only[X.I,Aw.aW,ak7 Z h]
 | .agg cs,e,h=>by
  cases e<;>simp only[fS,Bool.false_eq_true]at h
  simp only[X.I,Aw.aW,tE Z _ _ h]
 | .tup cs,e,h=>by
  cases e<;>simp only[fS,Bool.false_eq_true]at h
  simp only[X.I,Aw.aW,tE Z _ _ h]
 | .sl a z o l w,e,h=>by
  cases e<;>simp only[fS,Bool.false_eq_true]at h
  simp only[Bool.and_eq_true,beq_iff_eq]at h
  obtain⟨A,E,h3,h4,h5⟩:=h
  simp only[X.I,Aw.aW,eB A,Nat.eq_of_beq_eq_true E,Nat.eq_of_beq_eq_true h3,Nat.eq_of_beq_eq_true h4,h5]
 | .slv a z o l w,e,h=>by
  cases e<;>simp only[fS,Bool.false_eq_true]at h
  ·simp only[Bool.and_eq_true,beq_iff_eq]at h
   obtain⟨A,E,h3,h4,h5,h6⟩:=h
   have h3:=kS Z (ρ:=ρ) h3
   have h5:=kS Z (ρ:=ρ) h5
   simp only[U.I]at h5 h3
   simp only[X.I,Aw.aW,eB A,Nat.eq_of_beq_eq_true E,Nat.eq_of_beq_eq_true h4,h5,h6,h3,Int.toNat_zero,Nat.zero_mul,Int.toNat_natCast]
  ·simp only[Bool.and_eq_true,beq_iff_eq]at h
   obtain⟨A,E,h3,h4,h5⟩:=h
   simp only[X.I,Aw.aW,eB A,Nat.eq_of_beq_eq_true E,kS Z h3,kS Z h4,h5]
 | .ptr a aG d,e,h=>by
  cases e<;>simp only[fS,Bool.false_eq_true]at h
  simp only[Bool.and_eq_true]at h
  obtain⟨A,E,h3,h4⟩:=h
  simp only[X.I,Aw.aW,eB A,Nat.eq_of_beq_eq_true E,mz Ac h4]
  rw[<-mz Ac h4,Av (Bind.bC Z ρ) _ aG h3]
 | .dz a z j o,e,h=>by
  cases e<;>simp only[fS,Bool.false_eq_true]at h
  simp only[Bool.and_eq_true]at h
  obtain⟨A,E,h3,h4⟩:=h
  simp only[X.I,Aw.aW,eB A,Nat.eq_of_beq_eq_true E,kS Z h3,Nat.eq_of_beq_eq_true h4]
 | .rl z m l f,e,h=>by
  cases e<;>simp only[fS,Bool.false_eq_true]at h
  ·simp only[Bool.and_eq_true,beq_iff_eq]at h
   obtain⟨A,E,h3⟩:=h
   simp only[X.I,Aw.aW,Yh,Nat.eq_of_beq_eq_true A,E]
   rw[XB Z h3]
  ·simp only[Bool.and_eq_true,beq_iff_eq]at h
   obtain⟨A,E,h3,h4⟩:=h
   simp only[X.I,Aw.aW,Yh,O0 Z h3 h4,Nat.eq_of_beq_eq_true A,E]
 | .ro z D f,e,h=>by
  cases e<;>simp only[fS,Bool.false_eq_true]at h
  simp only[Bool.and_eq_true,beq_iff_eq]at h
  obtain⟨A,E,h3⟩:=h
  simp only[X.I,Aw.aW,Nat.eq_of_beq_eq_true A,E,O2 Z _ _ h3]
 | .ip cs aG d,e,h=>by
  cases e<;>simp only[fS,Bool.false_eq_true]at h
  simp only[Bool.and_eq_true]at h
  obtain⟨A,E,h3,h4⟩:=h
  simp only[X.I,Aw.aW,tE Z _ _ A,Nat.eq_of_beq_eq_true E]
  rw[<-mz Ac h4,Av (Bind.bC Z ρ) _ aG h3]
 | .fn f xs ys,e,h=>by
  cases e<;>simp only[fS,Bool.false_eq_true]at h
  simp only[Bool.and_eq_true]at h
  obtain⟨A,E,h3⟩:=h
  simp only[X.I,Aw.aW,Uh A,tE Z _ _ E,tE Z _ _ h3]
 | .gd c x,e,h=>by
  cases e<;>simp only[fS,Bool.false_eq_true]at h
  simp only[Bool.and_eq_true]at h
  obtain⟨A,E⟩:=h
  simp only[X.I,CI Z A,Hy Z _ _ E]
  split<;>rfl
 | .k v,e,h=>by
  cases e<;>simp only[fS,Bool.false_eq_true]at h
  simp only[X.I,Aw.aW,Q3 h]
 | .top,e,h=>by
  cases e<;>simp only[fS,Bool.false_eq_true]at h
  rfl
 | .rows _ _ _,e,h=>by cases e<;>simp only[fS,Bool.false_eq_true]at h
 | .rn z m l ks f,e,h=>by
  cases e<;>simp only[fS,Bool.false_eq_true]at h
  simp only[Bool.and_eq_true,beq_iff_eq]at h
  obtain⟨A,E,h3,h4,h5,h6,h7⟩:=h
  have e1:=Nat.eq_of_beq_eq_true A
  have e4:=Nat.eq_of_beq_eq_true h4
  have iV:=mz (fun _ _=>W0) h5
  subst e1 E e4 iV
  have hr:∀m',gn n β m m'=true->fW (β.ap ρ) m l ks=fW ρ m' l ks:=fun m' hm=>by
   unfold fW
   rw[kS Z hm]
   congr 1
   funext j
   exact(EL (Bind.bC Z ρ) (by simpa using h6) j ks 0 h7).symm
  simp only[X.I,Aw.aW,hr _ h3]
  rw[p9 aF _ G']
 | .tk _ _ _ _,e,h=>by cases e<;>simp only[fS,Bool.false_eq_true]at h
 | .tq z m t D f,e,h=>by
  cases e<;>simp only[fS,Bool.false_eq_true]at h
  simp only[Bool.and_eq_true,beq_iff_eq]at h
  obtain⟨A,E,h3,h4,h5⟩:=h
  have e1:=Nat.eq_of_beq_eq_true A
  have e4:=Nat.eq_of_beq_eq_true h4
  subst e1 E e4
  simp only[X.I,Aw.aW,HW,O2 Z _ _ h5]
  rw[p9 aF _ rJ,YE Z h3]
 | .cQ t k j,e,h=>by
  cases e<;>simp only[fS,Bool.false_eq_true]at h
  simp only[Bool.and_eq_true]at h
  obtain⟨A,E,h3⟩:=h
  have e1:=Nat.eq_of_beq_eq_true A
  have e2:=Nat.eq_of_beq_eq_true E
  subst e1 e2
  simp only[X.I,kS Z h3]
  exact(zd aF _ (ρ.ct _ _ _).2.1).symm
theorem tE {n:Nat} {β:Bind} (Z:β.ge n=true) {aF:Nm->Nm} {ρ:aa}:∀(p e:List X),nt n β aF p e=true->X.af ρ e=Aw.bu aF (X.af (β.ap ρ) p)
 | [],[],_=>rfl
 | [],_::_,h=>by simp[nt]at h
 | _::_,[],h=>by simp[nt]at h
 | a::aG,b::bs,h=>by
  simp only[nt,Bool.and_eq_true]at h
  simp only[X.af,Aw.bu,Hy Z a b h.1,tE Z aG bs h.2]
theorem O2 {n:Nat} {β:Bind} (Z:β.ge n=true) {aF:Nm->Nm} {ρ:aa}:∀(p e:List (List X)),wi n β aF p e=true->X.a7 ρ e=Aw.dJ aF (X.a7 (β.ap ρ) p)
 | [],[],_=>rfl
 | [],_::_,h=>by simp[wi]at h
 | _::_,[],h=>by simp[wi]at h
 | a::aG,b::bs,h=>by
  simp only[wi,Bool.and_eq_true]at h
  simp only[X.a7,Aw.dJ,tE Z a b h.1,O2 Z aG bs h.2]
end
def CJ (n:Nat) (β:Bind) (aF:Nm->Nm) (p e:List X):Bool :=
 match p with
 | [.rows z m l]=>l.wd z&&match e with
  | [.rows z' m' l']=>Nat.beq z z'&&(gn n β m m'&&yS n β l l')
  | e => !b0 e&&(Nat.blt 0 z&&(Nat.beq e.length (e.length / z*z)&&Hu n β m l (n3 z (e.length / z) e)))
 | [.tk z m t []]=>(match e with
  | [.tk z' m' t' []]=>Nat.beq z z'&&(Nat.beq t t'&&gn n β m m')
  | _=>false)
 | p => !b0 e&&(!b0 p&&nt n β aF p e)
theorem ajf {p:Nm->Bool} {ρ:aa} {n:U} {l:RL}:Aw.a4 p (aX ρ n l).flatten=true:=rH rI
theorem XA {n:Nat} {β:Bind} (Z:β.ge n=true) {aF:Nm->Nm} {ρ:aa} {p e:List X} (h:CJ n β aF p e=true):aB ρ e=Aw.bu aF (aB (β.ap ρ) p):=by
 unfold CJ at h
 split at h
 ·rename_i z m l
  simp only[Bool.and_eq_true]at h
  obtain⟨hw,h⟩:=h
  have e1:Aw.bu aF (aB (β.ap ρ) [.rows z m l])=(aX (β.ap ρ) m l).flatten:=lN aF _ ajf
  rw[e1]
  split at h
  ·simp only[Bool.and_eq_true]at h
   simp only[aB,O0 Z h.2.1 h.2.2]
  ·simp only[Bool.and_eq_true,Bool.not_eq_true']at h
   obtain⟨A,E,h3,h4⟩:=h
   rw[cR A,XB Z h4,xu,Az _ _ _ (by rw[X.gg];exact Nat.eq_of_beq_eq_true h3)]
 ·rename_i z m t
  split at h
  ·simp only[Bool.and_eq_true]at h
   obtain⟨A,E,h3⟩:=h
   have e1:=Nat.eq_of_beq_eq_true A
   have e2:=Nat.eq_of_beq_eq_true E
   subst e1 e2
   simp only[aB,X.a7,List.append_nil]
   rw[lN aF _ (rH rJ),YE Z h3]
  ·cases h
 ·simp only[Bool.and_eq_true,Bool.not_eq_true']at h
  rw[cR h.1,cR h.2.1]
  exact tE Z _ _ h.2.2
def e9:List (Nm×Nm)->Nm->Nm
 | [],m=>m
 | (a,b)::r,m=>if cC a m=true then b else e9 r m
def Hw (n:Nat) (β:Bind) (aF:Nm->Nm) (nx:Nat) (p e:X):Bool:=match p with
 | .top=>true
 | p=>X.ca (fun m=>Nat.blt m.1 nx) p&&fS n β aF p e
def vL (aF:Nm->Nm):List Nm->Bool
 | []=>true
 | m::r=>r.all (fun k=>cC m k || !cC (aF m) (aF k))&&vL aF r
def Cj (k0:Nat):List (Nm×Nm)->Bool
 | []=>true
 | (a,b)::r=>(Nat.ble k0 a.1||cC a b)&&Cj k0 r
structure Pat where
 n:Nat
 S:XS
def gp (k0 n:Nat) (β:Bind) (nm:List (Nm×Nm)) (S V:XS):Bool :=
  β.ge n&&(Nat.ble k0 S.nx&&(Cj k0 nm&&(vL (e9 nm) (S.h.map (·.1)) &&
  (S.t.all (fun p=>Hw n β (e9 nm) S.nx (b3 S.t p.1) (b3 V.t p.1)) &&
   S.h.all (fun p=>match bl S.h p.1 with
    | some cs=>X.a4 (fun m=>Nat.blt m.1 S.nx) cs&&(Nat.blt p.1.1 S.nx&&(match bl V.h (e9 nm p.1)with
      | some D=>CJ n β (e9 nm) cs D
      | none=>false))
    | none=>true)))))
theorem OF {k0:Nat}:∀{nm:List (Nm×Nm)} {m:Nm},Cj k0 nm=true->m.1<k0->e9 nm m=m
 | [],_,_,_=>rfl
 | (a,b)::r,m,h,hm=>by
  simp only[Cj,Bool.and_eq_true,Bool.or_eq_true,Nat.ble_eq]at h
  simp only[e9]
  split
  ·rename_i ha
   have:=eB ha
   subst this
   rcases h.1 with A | A
   ·omega
   ·exact(eB A).symm
  ·exact OF h.2 hm
theorem Gb {aF:Nm->Nm}:∀{l:List Nm},vL aF l=true->∀m∈l,∀m'∈l,aF m=aF m'->m=m'
 | [],_,m,hm,_,_,_=>by cases hm
 | a::r,h,m,hm,m',a1,F=>by
  simp only[vL,Bool.and_eq_true,List.all_eq_true,Bool.or_eq_true,Bool.not_eq_true']at h
  rcases List.mem_cons.1 hm with rfl | dI
  ·rcases List.mem_cons.1 a1 with rfl | dW
   ·rfl
   ·rcases h.1 m' dW with A | A
    ·exact eB A
    ·rw[F]at A;simp[cC]at A
  ·rcases List.mem_cons.1 a1 with rfl | dW
   ·rcases h.1 m dI with A | A
    ·exact(eB A).symm
    ·rw[F]at A;simp[cC]at A
   ·exact Gb h.2 m dI m' dW F
theorem Dz:∀(t:bf) (i:Nat),b3 t i = .top\/∃v,(i,v)∈t
 | [],i => .inl rfl
 | (j,v)::l,i=>by
  simp only[b3]
  split
  ·rename_i h;have h:=Nat.eq_of_beq_eq_true h;subst h;exact .inr ⟨v,List.mem_cons_self⟩
  ·rcases Dz l i with h | ⟨w,h⟩
   ·exact .inl h
   ·exact .inr ⟨w,List.mem_cons_of_mem _ h⟩
theorem sU:∀(h:av) (m:Nm) (cs:List X),bl h m=some cs->(m,cs)∈h
 | [],_,_,h=>by cases h
 | (k,v)::l,m,cs,h=>by
  simp only[bl]at h
  split at h
  ·rename_i e;have:=eB e;subst this;cases h;exact List.mem_cons_self
  ·exact List.mem_cons_of_mem _ (sU l m cs h)
theorem lL {ac:Aw.Env} {k0 n:Nat} (hb:∀m,ac.c0.kn m->m.1<k0) {β:Bind} {nm:List (Nm×Nm)} {S V:XS} (h:gp k0 n β nm S V=true) (ρ:aa):dL ac (V.I ρ) (S.I (β.ap ρ)):=by
 simp only[gp,Bool.and_eq_true,Nat.ble_eq]at h
 obtain⟨Z,u,Mx,qZ,ht,W⟩:=h
 have key:∀m cs,ae (aK (β.ap ρ) S.h) m=some cs->∃ds D,bl S.h m=some ds/\cs=aB (β.ap ρ) ds/\X.a4 (fun m=>Nat.blt m.1 S.nx) ds=true/\m.1<S.nx/\bl V.h (e9 nm m)=some D/\CJ n β (e9 nm) ds D=true:=fun m cs aI=>by
  rw[cL]at aI
  obtain⟨ds,hd,rfl⟩:=Option.map_eq_some_iff.1 aI
  have:=List.all_eq_true.1 W _ (sU _ _ _ hd)
  simp only[hd,Bool.and_eq_true,Nat.blt_eq]at this
  obtain⟨A,E,h3⟩:=this
  split at h3
  ·rename_i D F
   exact⟨ds,D,hd,rfl,A,E,F,h3⟩
  ·cases h3
 refine JC (aM:=S.I (β.ap ρ)) (e9 nm) hb (fun m hm=>OF Mx hm) u (fun i => ?_) (fun m cs aI => ?_) (fun m m' hm a1 F => ?_)
 ·simp only[XS.I,jm]
  rcases Dz S.t i with h | ⟨v,R⟩
  ·rw[h];exact .inl rfl
  ·have:=List.all_eq_true.1 ht _ R
   simp only[Hw]at this
   split at this
   ·rename_i hp;rw[hp];exact .inl rfl
   ·simp only[Bool.and_eq_true]at this
    exact .inr ⟨X.wc _ _ this.1,Hy Z _ _ this.2⟩
 ·obtain⟨ds,D,A,rfl,h3,h4,h5,h6⟩:=key m cs aI
  refine⟨X.wb _ _ h3,h4,?_⟩
  simp only[XS.I]
  rw[cL,h5,Option.map_some,XA Z h6]
 ·obtain⟨cs,aI⟩:=Option.isSome_iff_exists.1 hm
  obtain⟨bi,qW⟩:=Option.isSome_iff_exists.1 a1
  obtain⟨ds,_,A,_⟩:=key m cs aI
  obtain⟨sG,_,pi,_⟩:=key m' bi qW
  exact Gb qZ m (List.mem_map.2 ⟨_,sU _ _ _ A,rfl⟩) m' (List.mem_map.2 ⟨_,sU _ _ _ pi,rfl⟩) F
def dF:Code->Option Nat
 | .region id _ _=>some id
 | .seq a b=>match dF a with
  | some k=>some k
  | none=>dF b
 | .cond _ a b=>match dF a with
  | some k=>some k
  | none=>dF b
 | .block _ c=>dF c
 | .loop c=>dF c
 | _=>none
structure bo where
 key:Nat
 k0:Nat
 n:Nat
 S:XS
 init:Bind
 nm:List (Nm×Nm)
 out:T (XE×XS)
def b8 (P:Program) (ρ:aa) (N:Nat) (c:Code) (L:bo):Prop :=
 ∀ac:Aw.Env,ac.N=N->(∀m,ac.c0.kn m->m.1<L.k0)->AW P ac (.loop c) (fun e V=>∃e' s,L.out.aq ρ=some (e',s)/\e=e'.to/\dL ac V (s.I ρ)) (L.S.I (L.init.ap ρ))
def bo.R (L:bo):Bool:=Nat.beq L.n 0
def BU (key aC t4:Nat):bo:=⟨key,aC,0,⟨[],[],t4⟩,⟨[],[],[],[]⟩,[],.fail []⟩
def jO (k:Option Nat):List bo->List bo
 | []=>[]
 | L::r=>match k with
  | some k=>if(Nat.beq L.key k && !L.R)=true then L::jO (some k) r else jO (some k) r
  | none=>[]
def Wf (k:Option Nat):List bo->Option (Nat×Nat)
 | []=>none
 | L::r=>match k with
  | some k=>if(Nat.beq L.key k&&L.R)=true then some (L.k0,L.S.nx)else Wf (some k) r
  | none=>none
def ahu (b t:bf):Bool:=b.all fun p=>t.any fun q=>Nat.beq q.1 p.1
def y' (b : bf) (p : XE × XS) : T (XE × XS) := if ahu b p.2.t = true then .ret (p.1, ⟨qe p.2.t (p.2.t.map (·.1)) [] b, p.2.h, p.2.nx⟩) else .fail ["keys"]
theorem Yb {ρ:aa} {b:bf} {p:XE×XS} {e:XE} {s:XS} (h:(y' b p).aq ρ=some (e,s)):e=p.1/\ga (s.I ρ) (p.2.I ρ)/\Ext b s.t:=by
 unfold y' at h
 split at h
 ·rename_i u
  cases h
  refine⟨rfl,⟨fun i => ?_,fun m cs aI=>⟨cs,aI,bQ.refl cs⟩,Nat.le_refl _⟩,ua _ _ _ _⟩
  simp only[XS.I,jm,DB]
  split
  ·exact b'.refl _
  ·rename_i hn
   simp only[List.not_mem_nil,not_false_eq_true,and_true]at hn
   have A:b3 b i = .top:=by
    rcases Dz b i with h | ⟨v,R⟩
    ·exact h
    ·have:=List.all_eq_true.1 u _ R
     obtain⟨q,hq,F⟩:=List.any_eq_true.1 this
     have F:=Nat.eq_of_beq_eq_true F
     exact absurd (List.mem_map.2 ⟨q,hq,F⟩) hn
   rw[A];exact b'.top _
 ·cases h
def vT (k0:Nat) (L:bo) (B:J) (V:XS):T (XE×XS) :=
 if (Nat.beq L.k0 k0 && gp k0 L.n L.init L.nm L.S V) = true then L.out.bind B fun _ p => y' V.t p else .fail ["loop", Nat.repr k0, Nat.repr V.nx]
def yA (k0:Nat) (B:J) (V:XS):List bo->T (XE×XS)
 | [] => .fail ["loops"]
 | [L]=>vT k0 L B V
 | L::r=>if(Nat.beq L.k0 k0&&gp k0 L.n L.init L.nm L.S V)=true then vT k0 L B V else yA k0 B V r
theorem aie {P:Program} {ac:Aw.Env} {ρ:aa} {k0:Nat} {L:bo} {c:Code} (hb:∀m,ac.c0.kn m->m.1<k0) (hL:b8 P ρ ac.N c L) {B:J} (u:J.ok ρ B) {V aM:XS} {e:XE} (h:(vT k0 L B V).aq ρ=some (e,aM)) :
  AW P ac (.loop c) (fun e' s=>e'=e.to/\dL ac s (aM.I ρ)) (V.I ρ):=by
 unfold vT at h
 split at h
 ·rename_i H
  simp only[Bool.and_eq_true]at H
  have eV:=Nat.eq_of_beq_eq_true H.1
  subst eV
  obtain⟨_,p,_,A,E⟩:=T.cZ _ u h
  obtain⟨rfl,a0,_⟩:=Yb E
  refine qs (lL hb H.2 ρ) (dB (fun e' s hq => ?_) (hL ac rfl hb))
  obtain⟨e1,s1,g1,g2,g3⟩:=hq
  rw[A]at g1
  cases g1
  exact⟨g2,fun a w hr=>w4 a0 a w (g3 a w hr)⟩
 ·cases h
theorem Wl {k0:Nat} {L:bo} {B:J} {V:XS}:(vT k0 L B V).dd fun p=>Ext V.t p.2.t:=by
 unfold vT
 split
 ·refine T.nO (p:=fun _=>True) (fun B p _ => ?_) (T.sj _)
  unfold y'
  split
  ·exact ua _ _ _ _
  ·trivial
 ·trivial
theorem Wm {ρ:aa} {k0:Nat} {B:J} {V aM:XS} {e:XE}:∀{Ls:List bo},(yA k0 B V Ls).aq ρ=some (e,aM)->∃L∈Ls,(vT k0 L B V).aq ρ=some (e,aM)
 | [],h=>by cases h
 | [L],h=>⟨L,List.mem_singleton.2 rfl,h⟩
 | L::dr::r,h=>by
  simp only[yA]at h
  split at h
  ·exact⟨L,List.mem_cons_self,h⟩
  ·obtain⟨K,hK,E⟩:=Wm (Ls:=dr::r) h
   exact⟨K,List.mem_cons_of_mem _ hK,E⟩
theorem NU {k0:Nat} {B:J} {V:XS}:∀{Ls:List bo},(yA k0 B V Ls).dd fun p=>Ext V.t p.2.t
 | []=>trivial
 | [L]=>Wl
 | L::dr::r=>by
  simp only[yA]
  split
  ·exact Wl
  ·exact NU (Ls:=dr::r)
end Go.Proofs.Xw
namespace Go.Proofs.Xw
open Go Go.Proofs.Aw
def yn (b:bf) (body:J->XS->T (XE×XS)):Nat->J->XS->T (XE×XS)
 | 0,_,_=>(.fail [])
 | n+1,B,V=>ov b ((body B V).bind B fun B p=>match p.1 with
  | .normal=>yn b body n B (zr b p.2)
  | e => .ret (e,p.2))
def leave (id:Nat) (p:XE×XS):XE×XS :=
 match p.1 with
 | .exit j=>if Nat.beq j id=true then(.normal,p.2)else p
 | _=>p
def ec:Nat:=90000
theorem cp (x:Int) (h0 : -9223372036854775808<=x) (A:x<9223372036854775808):IntKind.i64.wrap x=x:=IntWalk.i64_in x ⟨by omega,by omega⟩
def W9 : bI := fun _ _ _ _ _ => .fail ["call"]
theorem ajg (P:Program) (ρ:aa):dk P ρ W9:=fun _ _ _ _ _ _ _ _ h=>by cases h
def Vt (aC:Nat) (m:Nm) (z:Nat) (n:U) (V:XS):XS:=⟨(aC,.sc (.i .i64 (.var ec)))::V.t,ya V.h m [.rows z n (.var ec [.s])],V.nx⟩
def vv:U := .op .add .i64 (.var ec) (.lit 1)
def MR (n:U) (B:J):J:=(.lt (.var ec) (.lit 0),false)::(.lt n (.var ec),false)::(.lt (.lit 4611686018427387904) (.var ec),false)::B.filter fun p=>p.1.au ec
def zo (B:J) (e:BE) (b:Bool):Bool:=match red B e with
 | .lit v=>v==b
 | _=>false
def Vs (m:Nm) (s:XS):RL:=match bl s.h m with
 | some [.rows _ _ l]=>l
 | _ => .one []
def rh (m:Nm) (n e:U) (s:XS):Bind:=⟨[(ec,e)],[],[],[(ec,n,Vs m s)]⟩
def Df (k0 aC:Nat) (e:U) (m:Nm) (n:U) (S s:XS):Bool :=
 Nat.ble k0 S.nx&&(n.au ec&&(X.beq (b3 S.t aC) (.sc (.i .i64 (.var ec)))&&(X.beq (b3 s.t aC) (.sc (.i .i64 e)) &&
 (S.t.all (fun p=>Nat.beq p.1 aC||(match b3 S.t p.1 with
  | .top=>true
  | x=>X.ca (fun k=>Nat.blt k.1 S.nx) x&&(x.au ec&&X.beq x (b3 s.t p.1)))) &&
 (S.h.all (fun p=>cC p.1 m||(match bl S.h p.1 with
  | some cs=>X.a4 (fun k=>Nat.blt k.1 S.nx) cs&&(Nat.blt p.1.1 S.nx&&(X.jw ec cs&&(match bl s.h p.1 with | some ds=>X.fc cs ds | none=>false)))
  | none=>true)) &&
 (Nat.blt m.1 S.nx&&(match bl S.h m,bl s.h m with
  | some [.rows z n1 (.var v [.s])],some [.rows z' n2 l]=>Nat.beq v ec&&(Nat.beq z 1&&(Nat.beq z' 1&&(n1.beq n&&(n2.beq n&&l.kd [.s]))))
  | _,_=>false)))))))
theorem MP (m:Nm) (n e:U) (s:XS):(rh m n e s).ge ec=true:=by simp[Bind.ge,kJ,rh]
theorem Zg {ac:Aw.Env} {k0:Nat} (hb:∀m,ac.c0.kn m->m.1<k0) {aC:Nat} {e:U} {m:Nm} {n:U} {S s:XS} (h:Df k0 aC e m n S s=true) (ρ:aa):dL ac (s.I ρ) (S.I ((rh m n e s).ap ρ)):=by
 simp only[Df,Bool.and_eq_true,Nat.ble_eq]at h
 obtain⟨h0,hn,A,E,h3,h4,h5,h6⟩:=h
 have ah:aA ec ρ ((rh m n e s).ap ρ):=Bind.bC (MP _ _ _ _) ρ
 have e1:=X.beq_eq _ _ A
 have e2:=X.beq_eq _ _ E
 have obj:∀k cs,ae (S.I ((rh m n e s).ap ρ)).h k=some cs->Aw.a4 (fun k=>Nat.blt k.1 S.nx) cs=true/\k.1<S.nx/\ae (s.I ρ).h k=some cs:=fun k cs aI=>by
  simp only[XS.I,cL]at aI ⊢
  obtain⟨ds,hd,rfl⟩:=Option.map_eq_some_iff.1 aI
  by_cases hm:k=m
  ·subst hm
   rw[hd]at h6
   split at h6
   ·rename_i z n1 v z' n2 l g1 g2
    cases g1
    simp only[Bool.and_eq_true]at h6
    obtain⟨k1,k2,k3,k4,Gn,Ny⟩:=h6
    have k1:=Nat.eq_of_beq_eq_true k1
    have k2:=Nat.eq_of_beq_eq_true k2
    have k3:=Nat.eq_of_beq_eq_true k3
    have k4:=U.beq_eq _ _ k4
    have Gn:=U.beq_eq _ _ Gn
    subst k1 k2 k3 k4 Gn
    refine⟨rH rI,by simpa using h5,?_⟩
    have O:bh ec (rh k n2 e s).r=some (n2,l):=by
     simp only[rh,bh,Nat.beq_refl,if_true,Vs,g2]
    rw[g2,Option.map_some]
    simp only[aB]
    refine congrArg some (congrArg List.flatten ?_)
    unfold aX
    rw[<-U.aP ah n2 hn]
    refine List.map_congr_left fun j _ => ?_
    have:=Bind.rows (β:=rh k n2 e s) (ρ:=ρ) O Ny j
    simp only[RL.row,Int.toNat_natCast]
    exact this.symm
   ·cases h6
  ·have:=List.all_eq_true.1 h4 _ (sU _ _ _ hd)
   simp only[hd,Bool.or_eq_true,Bool.and_eq_true,Nat.blt_eq]at this
   rcases this with h7 | ⟨g1,g2,g3,g4⟩
   ·exact absurd (eB h7) hm
   ·refine⟨X.wb _ _ g1,g2,?_⟩
    split at g4
    ·rename_i sG xY
     rw[xY,<-X.gv _ _ g4,Option.map_some,Tj ah _ g3]
    ·cases g4
 refine JC (aM:=S.I ((rh m n e s).ap ρ)) id hb (fun _ _=>rfl) h0 (fun i => ?_) (fun k cs aI => ?_) (fun _ _ _ _ F=>F)
 ·simp only[XS.I,jm]
  rcases Dz S.t i with h | ⟨v,R⟩
  ·rw[h];exact .inl rfl
  ·by_cases hi:i=aC
   ·subst hi
    rw[e1,e2]
    exact .inr ⟨rfl,rfl⟩
   ·have:=List.all_eq_true.1 h3 _ R
    simp only[Bool.or_eq_true]at this
    rcases this with h7 | h7
    ·exact absurd (Nat.eq_of_beq_eq_true h7) hi
    ·split at h7
     ·rename_i hp;rw[hp];exact .inl rfl
     ·simp only[Bool.and_eq_true]at h7
      obtain⟨g1,g2,g3⟩:=h7
      refine .inr ⟨X.wc _ _ g1,?_⟩
      rw[<-X.beq_eq _ _ g3,zb,X.aP ah _ g2]
 ·obtain⟨g1,g2,g3⟩:=obj k cs aI
  exact⟨g1,g2,by rw[p_];exact g3⟩
def tb (k0 aC:Nat) (m:Nm) (n:U) (S:XS):J->T (XE×XS)->Bool
 | B,.ret (.normal,s)=>Df k0 aC vv m n S s&&(zo B (.lt vv (.lit 0)) false&&zo B (.lt n vv) false)
 | _,.ret (_,_)=>true
 | B,.br c x y=>tb k0 aC m n S (assume c true B) x&&tb k0 aC m n S (assume c false B) y
 | _,_=>false
def F4:T (XE×XS)->List (XE×XS)
 | .ret (.normal,_)=>[]
 | .ret p=>[p]
 | .br _ x y=>F4 x++F4 y
 | _=>[]
def yd:bf->bf
 | []=>[]
 | (k,v)::r=>(k,if v.au ec=true then v else .top)::yd r
def vu (m:Nm):av->av
 | []=>[]
 | (k,cs)::r=>if(cC k m || !X.jw ec cs)=true then vu m r else(k,cs)::vu m r
def yc (m:Nm) (s:XS):XS:=⟨yd s.t,vu m s.h,s.nx⟩
def wk:av->Bool
 | []=>true
 | (k,_)::r => !(bl r k).isSome&&wk r
def Br (k0 aC t4:Nat) (run:J->XS->T (XE×XS)) (B:J) (V:XS):T (XE×XS) :=
 match b3 V.t t4 with
 | .slv m _ _ _ _=>match bl V.h m with
  | some [.rows z n _] =>
   let S:=Vt aC m z n V
   let t:=run (MR n B) S
   if(zo B (.lt n (.lit 0)) false&&(n.au ec&&(zo B (.lt (.lit 4611686018427387904) n) false&&(Df k0 aC (.lit 0) m n S V&&tb k0 aC m n S (MR n B) t))))=true then
    match F4 t with
    | [p] => if wk p.2.h = true then y' V.t (p.1, yc m p.2) else .fail ["havoc"]
    | _ => .fail ["havoc"]
   else .fail ["havoc"]
  | _ => .fail ["havoc"]
 | _ => .fail ["havoc"]
def cz (ti:Nat->Option TI) (call:bI) (ms:List Nat) (k0:Nat) (bP:List bo) (fuel:Nat):Code->J->XS->T (XE×XS)
 | .skip,_,V => .ret (.normal,V)
 | .label _,_,V => .ret (.normal,V)
 | .region _ ops draw,B,V=>ov V.t ((if draw=true then xD ti call ms ops.toList B V else m8 ti call ms ops.toList ops.toList B V).map fun s=>(.normal,s))
 | .seq a b,B,V=>(cz ti call ms k0 bP fuel a B V).bind B fun B p=>match p.1 with
  | .normal=>cz ti call ms k0 bP fuel b B p.2
  | e => .ret (e,p.2)
 | .cond c x y,B,V=>match cq (b3 V.t) c with
  | .sc (.b e)=>ov V.t (part B e (fun B=>cz ti call ms k0 bP fuel x B V) (fun B=>cz ti call ms k0 bP fuel y B V))
  | _ => .fail ["cond"]
 | .block id c,B,V=>ov V.t ((cz ti call ms k0 bP fuel c B V).map (leave id))
 | .loop c,B,V=>match Wf (dF c) bP with
  | some v=>ov V.t (Br k0 v.1 v.2 (fun B S=>cz ti W9 ms k0 [] fuel c B S) B V)
  | none=>match jO (dF c) bP with
   | L::Ls=>ov V.t (yA k0 B V (L::Ls))
   | []=>yn V.t (fun B V=>cz ti call ms k0 bP fuel c B V) fuel B V
 | .exit id,_,V => .ret (.exit id,V)
 | .ret,_,V => .ret (.ret,V)
 | _,_,_=>(.fail [])
def dp (N:Nat):Code->Bool
 | .region _ ops draw=>fits N ops.toList&&(!draw||once ops.toList)
 | .seq a b=>dp N a&&dp N b
 | .cond _ a b=>dp N a&&dp N b
 | .block _ c=>dp N c
 | .loop c=>dp N c
 | _=>true
def ef:Code->List Code
 | .seq a b=>ef a++ef b
 | .cond _ a b=>ef a++ef b
 | .block _ c=>ef c
 | .loop c=>c::ef c
 | _=>[]
def a5 (P:Program) (ρ:aa) (N:Nat) (bP:List bo) (c:Code):Prop:=∀dD∈ef c,∀L∈jO (dF dD) bP,b8 P ρ N dD L
theorem a5.nil (P:Program) (ρ:aa) (N:Nat) (c:Code):a5 P ρ N [] c:=fun _ _ L h=>by simp[jO]at h
theorem UX {k0 aC t4:Nat} {run:J->XS->T (XE×XS)} {B:J} {V:XS}:(Br k0 aC t4 run B V).dd fun p=>Ext V.t p.2.t:=by
 unfold Br
 split
 ·split
  ·simp only
   split
   ·split
    ·split
     ·unfold y'
      split
      ·exact ua _ _ _ _
      ·trivial
     ·trivial
    ·trivial
   ·trivial
  ·trivial
 ·trivial
theorem UC {ti:Nat->Option TI} {call:bI} {ms:List Nat} {ops:List Oper}:∀(l:List Oper) (B:J) (V:XS),(m8 ti call ms ops l B V).dd fun s=>Ext V.t s.t
 | [],_,V=>Ext.refl _
 | o::l,B,V=>by
  have put:∀(v:X) (h:av) (n:Nat),Ext V.t (XS.mk (nI o.dst v V.t) h n).t:=fun v h n=>by
   cases o.dst with
   | none=>exact Ext.refl _
   | some d=>exact⟨[(d,v)],rfl⟩
  have step:∀(v:X) (h:av) (n:Nat) B,(m8 ti call ms ops l B ⟨nI o.dst v V.t,h,n⟩).dd fun s=>Ext V.t s.t:=fun v h n B=>T.zU (fun s hs=>Ext.trans (put v h n) hs) (UC l B _)
  unfold m8
  cases o.guard with
  | none=>exact T.nO (p:=fun _=>True) (fun B p _=>step p.1 _ _ B) (T.sj _)
  | some pI=>exact abx (fun B r d=>step r _ _ B) (fun B=>step _ _ _ B) (fun B y=>step y _ _ B)
theorem T7:∀(D:List cg) (t:bf),Ext t (xO D t)
 | [],t=>Ext.refl t
 | e::D,t=>by
  obtain⟨Y,hu⟩:=T7 D t
  unfold xO
  cases e.dst with
  | none=>exact⟨Y,hu⟩
  | some d=>exact⟨(d,e.r)::Y,by simp only[nI,hu];rfl⟩
theorem KN {ti:Nat->Option TI} {call:bI} {ms:List Nat} {ops:List Oper} {B:J} {V:XS}:(xE ti call ms ops B V).dd fun s=>Ext V.t s.t :=
 T.uy (p:=fun _=>True) (q:=fun s:XS=>Ext V.t s.t) (fun D _=>T7 D V.t) (T.sj _)
theorem aew {ti:Nat->Option TI} {call:bI} {ms:List Nat} {ops:List Oper} {B:J} {V:XS}:(xD ti call ms ops B V).dd fun s=>Ext V.t s.t:=by
 unfold xD
 split
 ·split
  ·rename_i i o _ _
   refine T.nO (p:=fun s:XS=>Ext V.t s.t) (fun B s hs => ?_) KN
   unfold NC
   refine T.nO (p:=fun _=>True) (fun B p _ => ?_) (T.sj _)
   refine Ext.trans hs ?_
   show Ext s.t (nI o.dst p.1 s.t)
   cases o.dst with
   | none=>exact Ext.refl _
   | some d=>exact⟨[(d,p.1)],rfl⟩
  ·exact KN
 ·exact KN
theorem Ye {ti:Nat->Option TI} {call:bI} {ms:List Nat} {ops:List Oper} {draw:Bool} {B:J} {V:XS}:((if draw=true then xD ti call ms ops B V else m8 ti call ms ops ops B V).map fun s=>(XE.normal,s)).dd fun p=>Ext V.t p.2.t:=by
 refine T.uy (p:=fun s:XS=>Ext V.t s.t) (q:=fun p:XE×XS=>Ext V.t p.2.t) (fun s hs=>hs) ?_
 split
 ·exact aew
 ·exact UC _ _ _
theorem Ni {b:bf} {body:J->XS->T (XE×XS)} (hb:∀B V,(body B V).dd fun p=>Ext V.t p.2.t):∀(n:Nat) (B:J) (V:XS),Ext b V.t->(yn b body n B V).dd fun p=>Ext b p.2.t
 | 0,_,_,_=>trivial
 | n+1,B,V,h=>by
  unfold yn
  refine yt (T.nO (p:=fun p=>Ext V.t p.2.t) (fun B p hp => ?_) (hb B V))
  split
  ·exact Ni hb n B (zr b p.2) (ua _ _ _ _)
  ·exact Ext.trans h hp
theorem me {ti:Nat->Option TI} {call:bI} {ms:List Nat} {k0:Nat} {bP:List bo} {fuel:Nat}:∀(c:Code) (B:J) (V:XS),(cz ti call ms k0 bP fuel c B V).dd fun p=>Ext V.t p.2.t
 | .skip,_,V=>Ext.refl _
 | .label _,_,V=>Ext.refl _
 | .region _ ops draw,B,V=>by
  unfold cz
  exact yt Ye
 | .seq a b,B,V=>by
  unfold cz
  refine T.nO (p:=fun p=>Ext V.t p.2.t) (fun B p hp => ?_) (me a B V)
  split
  ·exact T.zU (fun q hq=>Ext.trans hp hq) (me b B p.2)
  ·exact hp
 | .cond c x y,B,V=>by
  unfold cz
  split
  ·exact yt (RI (fun B=>me x B V) (fun B=>me y B V))
  ·trivial
 | .block id c,B,V=>by
  unfold cz
  refine yt (T.uy (p:=fun p=>Ext V.t p.2.t) (fun p hp => ?_) (me c B V))
  unfold leave
  split
  ·split
   ·exact hp
   ·exact hp
  ·exact hp
 | .loop c,B,V=>by
  unfold cz
  split
  ·exact yt UX
  split
  ·exact yt NU
  ·exact Ni (fun B V=>me c B V) fuel B V (Ext.refl _)
 | .exit id,_,V=>Ext.refl _
 | .ret,_,V=>Ext.refl _
 | .rangeFunc _ _ _ _,_,_=>trivial
 | .scope _,_,_=>trivial
 | .goto _,_,_=>trivial
 | .refuse _,_,_=>trivial
def zX (P:Program) (ac:Aw.Env) (ρ:aa) (c:Code) (V:XS) (e:XE) (aM:XS):Prop:=AW P ac c (fun e' s=>e'=e.to/\dL ac s (aM.I ρ)) (V.I ρ)
theorem B0 (ac:Aw.Env) (s:St):dL ac s s:=fun _ _ h=>h
theorem fx {ac:Aw.Env} {a b c:St} (h:dL ac a b) (k:ga c b):dL ac a c:=fun x w hr=>w4 k x w (h x w hr)
theorem vH {ac:Aw.Env} {a b c:St} (h:dL ac a b) (k:dL ac b c):dL ac a c:=fun x w hr=>k x w (h x w hr)
theorem Tr {P:Program} {ρ:aa} {ti:Nat->Option TI} (bb:eO.ok P ti) {call:bI} (aO:dk P ρ call) {ms:List Nat} {ops:List Oper} {B:J} {V aM:XS} (u:J.ok ρ B)
  (h:(xE ti call ms ops B V).aq ρ=some aM):∃D,jt P ops V.nx (fb ops (ep ρ V.t)) (aK ρ V.h) D/\D.length=ops.length/\(∀i,b' (bU (ep ρ aM.t) i) (bU (b5 (fun _=>true) D (fb ops (ep ρ V.t))) i)) /\
   aK ρ aM.h=aL (fun _=>true) D (aK ρ V.h)/\aM.nx=V.nx+ops.length:=by
 obtain⟨D,A,rfl⟩:=T.jk _ h
 obtain⟨hw,O⟩:=KM bb aO (t0:=fb ops (ep ρ V.t)) (ady ρ ops V.t) ops B [] 0 D u (fun j=>by simp) trivial (fun j e F=>by simp[bA,bk]at F) A
 simp only[List.length_nil,Nat.zero_add]at O
 have bY:(bA ρ D).length=ops.length:=by simp[bA,O]
 refine⟨bA ρ D,hw,bY,fun i => ?_,?_,rfl⟩
 ·
  have agi:∀(l:List cg) (i:Nat),bU (ep ρ (xO l V.t)) i=bU (b5 (fun _=>true) (bA ρ l) (ep ρ V.t)) i:=by
   intro l
   induction l with
   | nil=>intro i;rfl
   | cons e l ih =>
    intro i
    simp only[xO,E0,bA,List.map_cons,b5,if_true,DC]at ih ⊢
    rw[ih];rfl
  rw[agi]
  rcases qj (fun _=>true) (ep ρ V.t) i (bA ρ D)with⟨j,e,E,h3,h4⟩ | ⟨E,h3⟩
  ·rcases qj (fun _=>true) (fb ops (ep ρ V.t)) i (bA ρ D)with⟨j',e',xS,EQ,av0⟩ | ⟨xS,_⟩
   ·have R:∀(l:List En) (t t':Tp),(∃j e,bk l j=some e/\e.dst=some i)->bU (b5 (fun _=>true) l t) i=bU (b5 (fun _=>true) l t') i:=by
     intro l
     induction l with
     | nil=>rintro t t' ⟨j,e,h,_⟩;simp[bk]at h
     | cons x l ih =>
      rintro t t' ⟨j,e,h,hd⟩
      simp only[b5,if_true,DC]
      split
      ·rfl
      ·rename_i ay
       refine ih t t' ⟨j,e,?_,hd⟩
       simp only[bk]at h
       split at h
       ·cases h;exact absurd hd ay
       ·exact h
    rw[R _ _ (fb ops (ep ρ V.t)) ⟨j,e,E,h3⟩]
    exact b'.refl _
   ·exact absurd h3 (xS j e E)
  ·rcases qj (fun _=>true) (fb ops (ep ρ V.t)) i (bA ρ D)with⟨j',e',xS,EQ,_⟩ | ⟨_,EQ⟩
   ·exact absurd EQ (E j' e' xS)
   ·rw[h3,EQ,wO]
    split
    ·rename_i ha
     obtain⟨o,ho1,ho2⟩:=List.any_eq_true.1 ha
     obtain⟨j,M⟩:=List.mem_iff_getElem?.1 ho1
     have nb:=(List.getElem?_eq_some_iff.1 M).1
     obtain⟨e,F⟩:=E9 (D:=bA ρ D) (j:=j) (by omega)
     obtain⟨bB,o',_,_,g3,hs,_,_⟩:=hw.get F
     rw[M]at g3;cases g3
     exact absurd (by rw[hs.dst];simpa using ho2) (E j e F)
    ·exact b'.refl _
 ·rw[ye]
theorem Tq {P:Program} {ac:Aw.Env} {ρ:aa} {ti:Nat->Option TI} (hm:P.follows .mixedOrders=true) (bb:eO.ok P ti) {call:bI} (aO:dk P ρ call) {ms:List Nat} {ops:List Oper} {B:J} {V aM:XS} (u:J.ok ρ B) (hf:fits ac.N ops=true) (ho:once ops=true) {id:Nat}
  (h:(xE ti call ms ops B V).aq ρ=some aM):zX P ac ρ (.region id ops.toArray true) V .normal aM:=by
 obtain⟨D,hw,O,A,E,h3⟩:=Tr bb aO u h
 refine abr (ac:=ac) (V:=V.I ρ) hm hf ho D hw O ⟨rfl,w4 ⟨A,fun m cs aI=>⟨cs,?_,bQ.refl cs⟩,by simp only[XS.I,h3];exact Nat.le_refl _⟩⟩
 simp only[XS.I]at aI ⊢
 rw[<-E];exact aI
theorem aex {P:Program} {ac:Aw.Env} {ρ:aa} {ti:Nat->Option TI} (hm:P.follows .mixedOrders=true) (bb:eO.ok P ti) {call:bI} (aO:dk P ρ call) {ms:List Nat} {ops:List Oper} {B:J} {V aM:XS} (u:J.ok ρ B) (hf:fits ac.N ops=true) (ho:once ops=true) {id:Nat}
  (h:(xD ti call ms ops B V).aq ρ=some aM):zX P ac ρ (.region id ops.toArray true) V .normal aM:=by
 unfold xD at h
 split at h
 ·rename_i i o hs
  split at h
  ·rename_i hw
   obtain⟨aR,MD⟩:=atN hw
   have e:=Zx hs
   subst e
   have U8:fits ac.N i=true/\(∀d,o.dst=some d->d<ac.N):=by
    simp only[fits,List.all_append,List.all_cons,List.all_nil,Bool.and_true,Bool.and_eq_true]at hf
    refine⟨hf.1,fun d hd => ?_⟩
    have:=hf.2
    rw[hd]at this
    simpa [Nat.blt_eq]using this
   obtain⟨f0,s1,bt,A,E⟩:=T.cZ _ u h
   obtain⟨D,g1,g2,g3,g4,g5⟩:=Tr bb aO u A
   unfold NC at E
   obtain⟨_,p,_,h3,h4⟩:=T.cZ _ bt E
   obtain⟨r,d⟩:=p
   cases h4
   rw[Qd]at h3
   have hy:=xC (t:=ep ρ s1.t) bb aO (fun i=>(jm ρ i s1.t).symm) bt h3
   have vA:Aw.Yields P (V.nx+i.length) o.op (b5 (fun _=>true) D (fb i (ep ρ V.t))) (aL (fun _=>true) D (aK ρ V.h)) (r.I ρ) (bn ρ d):=by
    rw[<-g5,<-g4]
    intro C a o' next Q d3 W ht hn aJ
    exact hy C a o' next Q d3 W (fun j=>g3 j _ _ (ht j)) hn aJ
   refine abv (V:=V.I ρ) hm aR U8.2 U8.1 MD D g1 g2 vA ⟨rfl,w4 ⟨fun j => ?_,fun m cs aI=>⟨cs,?_,bQ.refl cs⟩,by simp only[XS.I,g5];exact Nat.le_refl _⟩⟩
   ·simp only[XS.I,E0,DC]
    split
    ·exact b'.refl _
    ·exact g3 j
   ·simp only[XS.I]at aI ⊢
    rw[pj,g4]at aI
    exact aI
  ·exact Tq hm bb aO u hf ho h
 ·exact Tq hm bb aO u hf ho h
theorem Iw {ρ:aa} {B:J} (u:J.ok ρ B) {e:BE} {b:Bool} (h:zo B e b=true):e.I ρ=b:=by
 unfold zo at h
 split at h
 ·rename_i v R
  rw[<-dc u,R]
  exact eq_of_beq h
 ·cases h
theorem MQ {ρ:aa} {k0 aC:Nat} {m:Nm} {n:U} {S:XS}:∀(t:T (XE×XS)) (B:J),tb k0 aC m n S B t=true->J.ok ρ B->∃e s,t.aq ρ=some (e,s) /\
  ((e = .normal/\Df k0 aC vv m n S s=true/\(BE.lt vv (.lit 0)).I ρ=false/\(BE.lt n vv).I ρ=false)\/(e ≠ .normal/\(e,s)∈F4 t))
 | .ret (.normal,s),B,h,u=>by
  simp only[tb,Bool.and_eq_true]at h
  exact⟨_,s,rfl,.inl ⟨rfl,h.1,Iw u h.2.1,Iw u h.2.2⟩⟩
 | .ret (.exit j,s),B,_,_=>⟨_,s,rfl,.inr ⟨(fun h=>by cases h),List.mem_cons_self⟩⟩
 | .ret (.ret,s),B,_,_=>⟨_,s,rfl,.inr ⟨(fun h=>by cases h),List.mem_cons_self⟩⟩
 | .br c x y,B,h,u=>by
  simp only[tb,Bool.and_eq_true]at h
  cases H:c.I ρ with
  | true =>
   obtain⟨e,s,A,E⟩:=MQ x _ h.1 (gu c true B H u)
   refine⟨e,s,by simp only[T.aq,H,if_true];exact A,?_⟩
   rcases E with E | ⟨E,h3⟩
   ·exact .inl E
   ·exact .inr ⟨E,List.mem_append_left _ h3⟩
  | false =>
   obtain⟨e,s,A,E⟩:=MQ y _ h.2 (gu c false B H u)
   refine⟨e,s,by simp only[T.aq,H,Bool.false_eq_true,if_false];exact A,?_⟩
   rcases E with E | ⟨E,h3⟩
   ·exact .inl E
   ·exact .inr ⟨E,List.mem_append_right _ h3⟩
 | .cT _ _,_,h,_=>by simp[tb]at h
 | .fail _,_,h,_=>by simp[tb]at h
theorem Vv (ρ:aa) (i:Nat):∀t:bf,b' ((b3 (yd t) i).I ρ) ((b3 t i).I ρ)
 | []=>b'.refl _
 | (k,v)::r=>by
  simp only[yd,b3]
  split
  ·split
   ·exact b'.refl _
   ·exact b'.top _
  ·exact Vv ρ i r
theorem Vu:∀t:bf,(yd t).all (fun p=>p.2.au ec)=true
 | []=>rfl
 | (k,v)::r=>by
  simp only[yd,List.all_cons,Vu r,Bool.and_true]
  split
  ·assumption
  ·rfl
theorem MS (m:Nm):∀h:av,(vu m h).all (fun p=>X.jw ec p.2)=true
 | []=>rfl
 | (k,cs)::r=>by
  simp only[vu]
  split
  ·exact MS m r
  ·rename_i H
   simp only[Bool.or_eq_true,Bool.not_eq_true',not_or,Bool.not_eq_false]at H
   simp only[List.all_cons,H.2,MS m r,Bool.and_self]
theorem MT (m:Nm) {k:Nm} {cs:List X}:∀{h:av},wk h=true->bl (vu m h) k=some cs->bl h k=some cs
 | [],_,hq=>by cases hq
 | (j,ds)::r,ho,hq=>by
  simp only[wk,Bool.and_eq_true,Bool.not_eq_true']at ho
  simp only[vu]at hq
  simp only[bl]
  split at hq
  ·have:=MT m ho.2 hq
   split
   ·rename_i e
    rw[eB e,this]at ho
    simp at ho
   ·exact this
  ·simp only[bl]at hq
   split at hq
   ·rename_i e;rw[if_pos e];exact hq
   ·rename_i e;rw[if_neg e];exact MT m ho.2 hq
theorem agI (ρ:aa) {m:Nm} {s:XS} (ho:wk s.h=true):ga ((yc m s).I ρ) (s.I ρ):=by
 refine⟨fun i => ?_,fun k cs aI => ?_,Nat.le_refl _⟩
 ·simp only[XS.I,yc,jm]
  exact Vv ρ i s.t
 ·simp only[XS.I,yc,cL]at aI ⊢
  obtain⟨ds,A,rfl⟩:=Option.map_eq_some_iff.1 aI
  exact⟨_,by rw[MT m ho A];rfl,bQ.refl _⟩
theorem af1 {P:Program} {ac:Aw.Env} {ρ:aa} {k0 aC t4:Nat} {run:J->XS->T (XE×XS)} {c:Code} (hb:∀m,ac.c0.kn m->m.1<k0) (bJ:∀(G:aa) (B:J) (S:XS) (e:XE) (s:XS),J.ok G B->(run B S).aq G=some (e,s)->zX P ac G c S e s)
  {B:J} (u:J.ok ρ B) {V aM:XS} {e:XE} (h:(Br k0 aC t4 run B V).aq ρ=some (e,aM)):AW P ac (.loop c) (fun e' s=>e'=e.to/\dL ac s (aM.I ρ)) (V.I ρ):=by
 unfold Br at h
 split at h
 ·rename_i m _ _ _ _ _
  split at h
  ·rename_i z n _ _
   simp only at h
   generalize hS:Vt aC m z n V=S at h
   split at h
   ·rename_i H
    simp only[Bool.and_eq_true]at H
    obtain⟨c1,c2,c3,dE,c5⟩:=H
    split at h
    ·rename_i p hp
     have ho:wk p.2.h=true:=by
      cases ho:wk p.2.h with
      | true=>rfl
      | false=>rw[if_neg (by rw[ho];decide)]at h;cases h
     rw[if_pos ho]at h
     obtain⟨rfl,a0,_⟩:=Yb h
     have c3:=Iw u c3
     have n0:0<=n.I ρ:=by
      have:=of_decide_eq_false (Iw u c1)
      simp only[U.I]at this
      omega
     have n1:n.I ρ<=4611686018427387904:=by
      have:=of_decide_eq_false c3
      simp only[U.I]at this
      omega
     ·refine RH (fun k s=>∃G:aa,aA ec ρ G/\0<=G.i ec/\G.i ec<=n.I ρ/\k=(n.I ρ-G.i ec).toNat/\s=S.I G) _
       ⟨_,Zg hb dE ρ,_,Bind.bC (MP _ _ _ _) ρ,?_,?_,rfl,rfl⟩ fun k s hI => ?_
      ·exact Int.le_refl 0
      ·exact n0
      ·obtain⟨G,ah,i0,i1,rfl,rfl⟩:=hI
       have AC:n.I G=n.I ρ:=(U.aP ah n c2).symm
       have aJ:J.ok G (MR n B):=by
        refine J.aw ?_ (J.aw ?_ (J.aw ?_ fun q hq => ?_))
        ·exact decide_eq_false (by simp only[U.I];omega)
        ·exact decide_eq_false (by simp only[U.I];rw[AC];omega)
        ·exact decide_eq_false (by simp only[U.I];omega)
        ·obtain⟨q1,q2⟩:=List.mem_filter.1 hq
         rw[<-BE.aP ah _ q2]
         exact u q q1
       obtain⟨e1,s1,g1,g2⟩:=MQ _ _ c5 aJ
       refine dB (fun e' s' hq => ?_) (bJ G _ S e1 s1 aJ g1)
       obtain⟨rfl,hi⟩:=hq
       rcases g2 with⟨rfl,g3,g4,g5⟩ | ⟨g3,g4⟩
       ·have g4:=of_decide_eq_false g4
        have g5:=of_decide_eq_false g5
        simp only[vv,U.I,a_.I]at g4 g5
        have w:IntKind.i64.wrap (G.i ec+1)=G.i ec+1:=cp _ (by omega) (by omega)
        rw[w]at g4 g5
        rw[AC]at g5
        refine⟨_,_,?_,vH hi (Zg hb g3 G),_,ah.trans (Bind.bC (MP _ _ _ _) G),?_,?_,rfl,rfl⟩
        ·show(n.I ρ-IntKind.i64.wrap (G.i ec+1)).toNat<_
         rw[w];omega
        ·show 0<=IntKind.i64.wrap (G.i ec+1)
         rw[w];omega
        ·show IntKind.i64.wrap (G.i ec+1)<=_
         rw[w];omega
       ·have pD:(e1,s1)=p:=by
         rw[hp]at g4
         exact List.mem_singleton.1 g4
        subst pD
        have O:ga (aM.I ρ) (s1.I G):=by
         refine a0.trans ?_
         rw[XS.aP ah (yc m s1) (by simp only[XS.au,yc,Vu,MS,Bool.and_self])]
         exact agI G ho
        have fin:dL ac s' (aM.I ρ):=fx hi O
        cases e1 with
        | normal=>exact absurd rfl g3
        | exit j=>exact⟨rfl,fin⟩
        | ret=>exact⟨rfl,fin⟩
    ·cases h
   ·cases h
  ·cases h
 ·cases h
theorem kf {P:Program} {ac:Aw.Env} {ρ:aa} {ti:Nat->Option TI} (hm:P.follows .mixedOrders=true) (bb:eO.ok P ti) {call:bI} (aO:dk P ρ call) {ms:List Nat} {k0:Nat} (hb:∀m,ac.c0.kn m->m.1<k0) {bP:List bo} {fuel:Nat} :
  ∀(c:Code) (B:J) (V:XS) (e:XE) (aM:XS),J.ok ρ B->dp ac.N c=true->a5 P ρ ac.N bP c->(cz ti call ms k0 bP fuel c B V).aq ρ=some (e,aM)->zX P ac ρ c V e aM
 | .skip,B,V,e,aM,u,_,_,h=>by cases h;exact Jv ⟨rfl,B0 _ _⟩
 | .label _,B,V,e,aM,u,_,_,h=>by cases h;exact abu ⟨rfl,B0 _ _⟩
 | .region id ops draw,B,V,e,aM,u,hf,_,h=>by
  unfold cz at h
  simp only[dp,Bool.and_eq_true,Bool.or_eq_true,Bool.not_eq_true']at hf
  obtain⟨s,A,a0⟩:=vO Ye h
  obtain⟨s1,E,h3⟩:=T.jk _ A
  cases h3
  cases draw with
  | true =>
   rw[if_pos rfl]at E
   have:=aex (ac:=ac) hm bb aO (id:=id) u hf.1 (hf.2.resolve_left (by simp)) E
   rw[show ops.toList.toArray=ops from by simp]at this
   exact dB (fun e' s' hq=>⟨hq.1,fx hq.2 a0⟩) this
  | false =>
   rw[if_neg (by simp)]at E
   intro a w hr
   refine wp_region_lit ?_
   have:=LY (ac:=ac) (P:=P) (Q:=fun e bz w'=>∃wn,Rel ac wn bz w'/\e=XE.normal.to/\dL ac wn (aM.I ρ)) bb aO (fun bz w' mo=>⟨_,mo,rfl,w4 a0⟩) ops.toList B V a w u hf.1 E hr
   simpa using this
 | .seq x y,B,V,e,aM,u,hf,O,h=>by
  unfold cz at h
  simp only[dp,Bool.and_eq_true]at hf
  obtain⟨aQ,p,aJ,A,E⟩:=T.cZ _ u h
  obtain⟨e1,t3⟩:=p
  have g1:=kf hm bb aO hb x B V e1 t3 u hf.1 (fun dD dH=>O dD (List.mem_append_left _ dH)) A
  refine o_ fun K hK=>dB (fun e' s hq => ?_) g1
  obtain⟨rfl,a0⟩:=hq
  cases e1 with
  | normal =>
   simp only at E
   exact hK s (qs a0 (kf hm bb aO hb y aQ t3 e aM aJ hf.2 (fun dD dH=>O dD (List.mem_append_right _ dH)) E))
  | exit id=>cases E;exact⟨rfl,a0⟩
  | ret=>cases E;exact⟨rfl,a0⟩
 | .cond c x y,B,V,e,aM,u,hf,O,h=>by
  unfold cz at h
  simp only[dp,Bool.and_eq_true]at hf
  have Ml:=eU (ρ:=ρ) (g:=b3 V.t) (t:=ep ρ V.t) (fun i=>(jm ρ i V.t).symm) c
  split at h
  ·rename_i b Me
   rw[Me]at Ml
   obtain⟨s,A,a0⟩:=vO (RI (fun B=>me x B V) (fun B=>me y B V)) h
   obtain⟨aQ,aJ,⟨H,E⟩ | ⟨H,E⟩⟩:=Zs u A
   ·refine abq (V:=V.I ρ) (by rw[show ev (V.I ρ).t c=_ from Ml.symm];simp only[X.I,Sc.I,H]) ?_
    exact dB (fun e' s' hq=>⟨hq.1,fx hq.2 a0⟩) (kf hm bb aO hb x aQ V e s aJ hf.1 (fun dD dH=>O dD (List.mem_append_left _ dH)) E)
   ·refine abp (V:=V.I ρ) (by rw[show ev (V.I ρ).t c=_ from Ml.symm];simp only[X.I,Sc.I,H]) ?_
    exact dB (fun e' s' hq=>⟨hq.1,fx hq.2 a0⟩) (kf hm bb aO hb y aQ V e s aJ hf.2 (fun dD dH=>O dD (List.mem_append_right _ dH)) E)
  ·cases h
 | .block id c,B,V,e,aM,u,hf,O,h=>by
  unfold cz at h
  simp only[dp]at hf
  obtain⟨s,A,a0⟩:=vO (T.uy (p:=fun p=>Ext V.t p.2.t) (fun p hp=>by
   unfold leave
   split
   ·split
    ·exact hp
    ·exact hp
   ·exact hp) (me c B V)) h
  obtain⟨p,E,h3⟩:=T.jk _ A
  obtain⟨e1,t3⟩:=p
  have g1:=kf hm bb aO hb c B V e1 t3 u hf O E
  refine abo (dB (fun e' s' hq => ?_) g1)
  obtain⟨rfl,sX⟩:=hq
  cases e1 with
  | normal=>cases h3;exact⟨rfl,fx sX a0⟩
  | ret=>cases h3;exact⟨rfl,fx sX a0⟩
  | exit j =>
   simp only[leave]at h3
   simp only[XE.to,Jy]
   by_cases M:j=id
   ·subst M
    simp at h3
    rw[if_pos rfl]
    obtain⟨rfl,rfl⟩:=h3
    exact⟨rfl,fx sX a0⟩
   ·rw[if_neg M]
    rw[if_neg (by simpa using M)]at h3
    cases h3
    exact⟨rfl,fx sX a0⟩
 | .loop c,B,V,e,aM,u,hf,O,h=>by
  unfold cz at h
  simp only[dp]at hf
  split at h
  ·obtain⟨s,A,a0⟩:=vO UX h
   exact dB (fun e' s' hq=>⟨hq.1,fx hq.2 a0⟩) (af1 hb (fun G B S e s aJ hs=>kf (ρ:=G) hm bb (ajg P G) hb c B S e s aJ hf (a5.nil _ _ _ _) hs) u A)
  split at h
  ·rename_i L Ls hL
   obtain⟨s,A,a0⟩:=vO NU h
   obtain⟨K,hK,A⟩:=Wm A
   exact dB (fun e' s' hq=>⟨hq.1,fx hq.2 a0⟩) (aie hb (O c List.mem_cons_self K (by rw[hL];exact hK)) u A)
  have key:∀(n:Nat) (B:J) (s:XS) (aM:XS),J.ok ρ B->Ext V.t s.t->(yn V.t (fun B V=>cz ti call ms k0 bP fuel c B V) n B s).aq ρ=some (e,aM)->j3 P ac c (fun e' s=>e'=e.to/\dL ac s (aM.I ρ)) n (s.I ρ):=by
   intro n
   induction n with
   | zero=>intro B s aM _ _ h;cases h
   | succ n ih =>
    intro B s aM u hx h
    unfold yn at h
    obtain⟨s1,A,a0⟩:=vO (T.nO (p:=fun p=>Ext s.t p.2.t) (fun B p hp=>by
     split
     ·exact Ni (fun B V=>me c B V) n B (zr V.t p.2) (ua _ _ _ _)
     ·exact Ext.trans hx hp) (me c B s)) h
    obtain⟨aQ,p,aJ,E,h3⟩:=T.cZ _ u A
    obtain⟨e1,t3⟩:=p
    have g1:=kf hm bb aO hb c B s e1 t3 u hf (fun dD dH=>O dD (List.mem_cons_of_mem _ dH)) E
    have hx1:Ext s.t t3.t:=by
     have:=me (ti:=ti) (call:=call) (ms:=ms) (k0:=k0) (bP:=bP) (fuel:=fuel) c B s
     exact T.Ea (p:=fun p:XE×XS=>Ext s.t p.2.t) this E
    refine abn (dB (fun e' s' hq => ?_) g1)
    obtain⟨rfl,sX⟩:=hq
    cases e1 with
    | normal =>
     simp only at h3
     have:=ih aQ (zr V.t t3) s1 aJ (ua _ _ _ _) h3
     refine AWR_le (fx sX (arw (Ext.trans hx hx1))) (AWR_post (fun e' s' hq=>⟨hq.1,fx hq.2 a0⟩) n _ this)
    | exit j=>cases h3;exact⟨rfl,fx sX a0⟩
    | ret=>cases h3;exact⟨rfl,fx sX a0⟩
  exact D_ fuel (key fuel B V aM u (Ext.refl _) h)
 | .exit id,B,V,e,aM,u,_,_,h=>by cases h;exact abt ⟨rfl,B0 _ _⟩
 | .ret,B,V,e,aM,u,_,_,h=>by cases h;exact D9 ⟨rfl,B0 _ _⟩
 | .rangeFunc _ _ _ _,_,_,_,_,_,_,_,h=>by cases h
 | .scope _,_,_,_,_,_,_,_,h=>by cases h
 | .goto _,_,_,_,_,_,_,_,h=>by cases h
 | .refuse _,_,_,_,_,_,_,_,h=>by cases h
where
 T.Ea {am:Type} {ρ:aa} {p:am->Prop}:∀{t:T am} {a:am},t.dd p->t.aq ρ=some a->p a
  | .ret a,_,h,hs=>by cases hs;exact h
  | .br c x y,a,h,hs=>by
   simp only[T.aq]at hs
   split at hs
   ·exact T.Ea h.1 hs
   ·exact T.Ea h.2 hs
  | .cT c x,a,h,hs=>by
   simp only[T.aq]at hs
   split at hs
   ·exact T.Ea (t:=x) h hs
   ·cases hs
  | .fail _,_,_,hs=>by cases hs
 AWR_post {P:Program} {ac:Aw.Env} {c:Code} {Q Q':Exit->St->Prop} (hq:∀e s,Q e s->Q' e s):∀(n:Nat) (s:St),j3 P ac c Q n s->j3 P ac c Q' n s
  | 0,_,h=>h
  | n+1,s,h=>dB (fun e s' W=>by
    cases e with
    | normal=>exact AWR_post hq n s' W
    | _=>exact hq _ _ W) h
 AWR_le {P:Program} {ac:Aw.Env} {c:Code} {Q:Exit->St->Prop} {n:Nat} {s V:St} (h:dL ac s V) (u:j3 P ac c Q n V):j3 P ac c Q n s:=by
  cases n with
  | zero=>exact u
  | succ n=>exact qs h u
end Go.Proofs.Xw
namespace Go.Proofs.Xw
open Go Go.Proofs.Aw
structure qu where
 body:Code
 results:List ResultVar
 ntmps:Nat
 ms:List Nat
def j6 (P:Program) (f:FuncId) (i:qu):Prop:=∃fn,P.funcs[f]? = some fn/\fn.body=some i.body/\fn.results.toList=i.results/\fn.ntmps=i.ntmps/\dp i.ntmps i.body=true/\cj P f=true
def oS (ti:Nat->Option TI) (V:XS):List ResultVar->Option (List X)
 | []=>some []
 | .tmp i::rs=>(oS ti V rs).map (b3 V.t i :: ·)
 | .cell p ty::rs=>match ti ty with
  | some i=>match GD i V.h (b3 V.t p),oS ti V rs with
   | some v,some vs=>some (v::vs)
   | _,_=>none
  | none=>none
theorem H0 {P:Program} {ρ:aa} {ti:Nat->Option TI} (bb:eO.ok P ti) {V:XS}:∀{rs:List ResultVar} {vs:List X} {K:List AV->Prop},oS ti V rs=some vs->K (X.af ρ vs)->kW P (V.I ρ) rs K
 | [],vs,K,h,u=>by simp only[oS,Option.some.injEq]at h;subst h;exact u
 | .tmp i::rs,vs,K,h,u=>by
  simp only[oS]at h
  obtain⟨ws,hw,rfl⟩:=Option.map_eq_some_iff.1 h
  simp only[kW]
  refine H0 bb hw ?_
  simp only[XS.I,jm]
  exact u
 | .cell p ty::rs,vs,K,h,u=>by
  simp only[oS]at h
  split at h
  ·rename_i i hi
   have hi:=bb _ _ hi
   subst hi
   split at h
   ·rename_i v ws A E
    cases h
    simp only[kW]
    have:=Wc (P:=P) (ρ:=ρ) (ty:=ty) A
    simp only[XS.I,jm]
    exact Wb this (H0 bb E u)
   ·cases h
  ·cases h
def yV:List X->X
 | [v]=>v
 | vs => .tup vs
theorem XI (ρ:aa) (vs:List X):(yV vs).I ρ=oneOf (X.af ρ vs):=by
 match vs with
 | []=>rfl
 | [v]=>rfl
 | v::w::vs=>rfl
def r7:Nat->List X->bf
 | _,[]=>[]
 | i,v::vs=>(i,v)::r7 (i+1) vs
theorem Qj (ρ:aa):∀(i:Nat) (vs:List X),ep ρ (r7 i vs)=gN i (X.af ρ vs)
 | _,[]=>rfl
 | i,v::vs=>by
  have:=Qj ρ (i+1) vs
  simp only[ep]at this
  simp only[r7,ep,List.map_cons,gN,X.af,this]
def qF:T X->Option (BE×Option X)
 | .ret a=>some (.lit true,some a)
 | .br c x y=>match qF x,qF y with
  | some (p,some a),some (q,some b)=>match X.et c a b with
   | some z=>some (iF c p q,some z)
   | none=>none
  | some (p,some a),some (q,none)=>some (iF c p q,some a)
  | some (p,none),some (q,b)=>some (iF c p q,b)
  | _,_=>none
 | .cT c x=>match qF x with
  | some (p,a)=>some (mkAnd c p,a)
  | none=>none
 | .fail _=>some (.lit false,none)
theorem qG {ρ:aa}:∀{t:T X} {ok:BE} {o:Option X},qF t=some (ok,o)->ok.I ρ=true->∃a,t.aq ρ=some a/\(∀z,o=some z->z.I ρ=a.I ρ)/\(o=none->False)
 | .ret a,ok,o,h,_=>by
  simp only[qF,Option.some.injEq,Prod.mk.injEq]at h
  obtain⟨rfl,rfl⟩:=h
  exact⟨a,rfl,fun z hz=>by cases hz;rfl,fun hn=>by cases hn⟩
 | .br c x y,ok,o,h,a2=>by
  simp only[qF]at h
  simp only[T.aq]
  split at h
  ·rename_i p a q b A E
   split at h
   ·rename_i z hz
    cases h
    rw[kM]at a2
    have hd:=X.Cr (ρ:=ρ) _ _ _ hz
    split at a2
    ·rename_i H
     obtain⟨w,g1,g2,_⟩:=qG A a2
     rw[if_pos H]at hd ⊢
     exact⟨w,g1,fun z' ja=>by cases ja;rw[hd];exact g2 a rfl,fun hn=>by cases hn⟩
    ·rename_i H
     obtain⟨w,g1,g2,_⟩:=qG E a2
     rw[if_neg H]at hd ⊢
     exact⟨w,g1,fun z' ja=>by cases ja;rw[hd];exact g2 b rfl,fun hn=>by cases hn⟩
   ·cases h
  ·rename_i p a q A E
   cases h
   rw[kM]at a2
   split at a2
   ·rename_i H
    rw[if_pos H]
    exact qG A a2
   ·obtain⟨w,_,_,g3⟩:=qG E a2
    exact(g3 rfl).elim
  ·rename_i p q b A E
   cases h
   rw[kM]at a2
   split at a2
   ·obtain⟨w,_,_,g3⟩:=qG A a2
    exact(g3 rfl).elim
   ·rename_i H
    rw[if_neg H]
    exact qG E a2
  ·cases h
 | .cT c x,ok,o,h,a2=>by
  simp only[qF]at h
  split at h
  ·rename_i p a A
   cases h
   rw[fQ,Bool.and_eq_true]at a2
   simp only[T.aq,a2.1,if_true]
   exact qG A a2.2
  ·cases h
 | .fail _,ok,o,h,a2=>by
  simp only[qF,Option.some.injEq,Prod.mk.injEq]at h
  rw[<-h.1]at a2
  simp[BE.I]at a2
def N3 (t:T X):T X :=
 match t with
 | .ret a => .ret a
 | t=>match qF t with
  | some (.lit true,some a) => .ret a
  | some (c,some a) => .cT c (.ret a)
  | some (_,none) => .fail t.zJ
  | none=>t
theorem aip {ρ:aa} {t:T X} {z:X} (h:(N3 t).aq ρ=some z):∃a,t.aq ρ=some a/\z.I ρ=a.I ρ:=by
 unfold N3 at h
 split at h
 ·cases h;exact⟨z,rfl,rfl⟩
 ·split at h
  ·rename_i a H
   cases h
   obtain⟨w,g1,g2,_⟩:=qG (ρ:=ρ) H rfl
   exact⟨w,g1,g2 _ rfl⟩
  ·rename_i c a _ H
   simp only[T.aq]at h
   split at h
   ·rename_i a2
    cases h
    obtain⟨w,g1,g2,_⟩:=qG (ρ:=ρ) H a2
    exact⟨w,g1,g2 _ rfl⟩
   ·cases h
  ·cases h
  ·exact⟨z,h,rfl⟩
mutual
def X.nn:X->Bool
 | .top | .k _ | .sc _ | .rl _ _ _ _ | .rows _ _ _ | .rn _ _ _ _ _ | .cQ _ _ _=>true
 | .tk _ _ _ D | .tq _ _ _ D _=>X.we D
 | .slv _ _ _ _ _ | .dz _ _ _ _=>false
 | .agg cs | .tup cs | .ip cs _ _=>X.lJ cs
 | .ptr _ _ _ | .sl _ _ _ _ _=>false
 | .ro _ D _=>X.we D
 | .fn _ xs ys=>X.lJ xs&&X.lJ ys
 | .gd _ x=>x.nn
def X.lJ:List X->Bool
 | []=>true
 | x::xs=>x.nn&&X.lJ xs
def X.we:List (List X)->Bool
 | []=>true
 | e::D=>X.lJ e&&X.we D
end
mutual
theorem X.kP {p:Nm->Bool} (ρ:aa):∀x:X,x.nn=true->Aw.ca p (x.I ρ)=true
 | .top,_=>rfl
 | .k _,_=>rfl
 | .sc _,_=>rfl
 | .rl _ _ _ _,_=>rI
 | .rn _ _ _ _ _,_=>G'
 | .tk _ _ _ _,_=>rfl
 | .tq _ _ _ D _,h=>Cz rJ (X.CA ρ D h)
 | .cQ t o j,_=>OK (ρ.ct t o _).2.1
 | .rows _ _ _,_=>rfl
 | .agg cs,h=>X.pY ρ cs h
 | .tup cs,h=>X.pY ρ cs h
 | .ip cs _ _,h=>X.pY ρ cs h
 | .ro _ D _,h=>X.CA ρ D h
 | .fn _ xs ys,h=>by
  simp only[X.nn,Bool.and_eq_true]at h
  simp only[X.I,Aw.ca,X.pY ρ xs h.1,X.pY ρ ys h.2,Bool.and_self]
 | .ptr _ _ _,h=>by cases h
 | .sl _ _ _ _ _,h=>by cases h
 | .gd c x,h=>by
  simp only[X.I]
  split
  ·exact X.kP ρ x h
  ·rfl
theorem X.pY {p:Nm->Bool} (ρ:aa):∀l:List X,X.lJ l=true->Aw.a4 p (X.af ρ l)=true
 | [],_=>rfl
 | x::xs,h=>by
  simp only[X.lJ,Bool.and_eq_true]at h
  simp only[X.af,Aw.a4,X.kP ρ x h.1,X.pY ρ xs h.2,Bool.and_self]
theorem X.CA {p:Nm->Bool} (ρ:aa):∀l:List (List X),X.we l=true->Aw.cw p (X.a7 ρ l)=true
 | [],_=>rfl
 | x::xs,h=>by
  simp only[X.we,Bool.and_eq_true]at h
  simp only[X.a7,Aw.cw,X.pY ρ x h.1,X.CA ρ xs h.2,Bool.and_self]
end
structure GK where
 f:Nat
 args:List X
 cv:av
 r:X
 d:aN
def cy (P:Program) (ρ:aa) (k:GK):Prop:=cj P k.f=true/\CY P 1 k.f (X.af ρ k.args) (aK ρ k.cv) (k.r.I ρ) (bn ρ k.d)
def uz (P:Program) (k:Nat×Nat):Prop:=cj P k.1=true/\∀(full:Bool) (n:Nat) (h:Hp),CY P n k.1 [.ro k.2 [] full] h (.ro k.2 [] false) []
def fC (ss:List ByteArray):List (List AV):=ss.map fun s=>[.sc (.string s)]
def pa (P:Program) (f:Nat):Prop:=cj P f=true/\∀(ss:List ByteArray) (f1 f2:Bool) (n:Nat) (h:Hp),ss.length<=4611686018427387904->CY P n f [.ro 1 (fC ss) f1,.ro 1 (fC ss) f2] h (.sc (.bool true)) []
structure jr where
 ti:Nat->Option TI
 hV:Nat->Option qu
 fuel:Nat
 ks:List (Nat×List X×X)
 lp:Nat->List bo
 kh:List GK
 cl:List (Nat×Nat)
 ln:List Nat
structure cf (P:Program) (ρ:aa) (c:jr):Prop where
 mixed:P.follows .mixedOrders=true
 ti:eO.ok P c.ti
 hV:∀f i,c.hV f=some i->j6 P f i
 ks:∀p∈c.ks,cj P p.1=true/\∀n h,CY P n p.1 (X.af ρ p.2.1) h (p.2.2.I ρ) []
 lp:∀f i,c.hV f=some i->a5 P ρ i.ntmps (c.lp f) i.body
 kh:∀k∈c.kh,cy P ρ k
 cl:∀k∈c.cl,uz P k
 ln:∀f∈c.ln,pa P f
def Ch (f:Nat) (args:List X):List (Nat×List X×X)->Option X
 | []=>none
 | (g,aG,r)::l=>if(Nat.beq g f&&X.fc aG args)=true then some r else Ch f args l
theorem We {f:Nat} {args:List X} {r:X}:∀{l:List (Nat×List X×X)},Ch f args l=some r->(f,args,r)∈l
 | [],h=>by cases h
 | (g,aG,s)::l,h=>by
  simp only[Ch]at h
  split at h
  ·rename_i H
   simp only[Bool.and_eq_true]at H
   cases h
   rw[<-Nat.eq_of_beq_eq_true H.1,<-X.gv _ _ H.2]
   exact List.mem_cons_self
  ·exact List.mem_cons_of_mem _ (We h)
def PX (c:jr) (call:bI) (f:Nat) (i:qu) (args:List X) (B:J):T X :=
 if Nat.ble args.length i.ntmps=true then
  (cz c.ti call i.ms 0 (c.lp f) c.fuel i.body B ⟨r7 0 args,[],0⟩).bind B fun _ p=>match p.1 with
   | .exit _ => .fail ["exit"]
   | _=>eL ((oS c.ti p.2 i.results).map yV)
 else(.fail [])
theorem aqU {P:Program} {ρ:aa} {c:jr} (H:cf P ρ c) {call:bI} (aO:dk P ρ call) {f:FuncId} {i:qu} (hi:j6 P f i) (vo:a5 P ρ i.ntmps (c.lp f) i.body) {args:List X} {B:J} (u:J.ok ρ B) {r:X} (h:(PX c call f i args B).aq ρ=some r) :
  args.length<=i.ntmps/\∀ac:Aw.Env,ac.N=i.ntmps->AW P ac i.body (Eg P i.results (r.I ρ)) ⟨gN 0 (X.af ρ args),[],0⟩:=by
 unfold PX at h
 split at h
 ·rename_i O
  refine⟨by simpa using O,fun ac hE => ?_⟩
  obtain⟨fn,_,_,_,_,hf,_⟩:=hi
  obtain⟨aQ,p,aJ,A,E⟩:=T.cZ _ u h
  obtain⟨e,aM⟩:=p
  refine RG fun hb => ?_
  have g:=kf (ac:=ac) H.mixed H.ti aO (k0:=0) hb i.body B _ e aM u (by rw[hE];exact hf) (by rw[hE];exact vo) A
  have fK:(XS.mk (r7 0 args) [] 0).I ρ=⟨gN 0 (X.af ρ args),[],0⟩:=by simp only[XS.I,Qj];rfl
  have Lz:AW P ac i.body (fun e' s=>e'=e.to/\s=aM.I ρ) ⟨gN 0 (X.af ρ args),[],0⟩:=by
   rw[<-fK]
   intro a w hr
   exact Code.wp_mono (fun e' bz w' ⟨s,q1,q2,q3⟩=>⟨aM.I ρ,q3 bz w' q1,q2,rfl⟩) (g a w hr)
  have fin:∀{o:Option X},(eL ((oS c.ti aM i.results).map yV):T X).aq ρ=o->o=some r->kW P (aM.I ρ) i.results fun vs=>oneOf vs=r.I ρ:=by
   intro o h3 h4
   obtain⟨vs,R,rfl⟩:=Option.map_eq_some_iff.1 (fa (h3.trans h4))
   exact H0 H.ti R (XI ρ vs).symm
  refine dB (fun e' s hq => ?_) Lz
  obtain⟨rfl,rfl⟩:=hq
  cases e with
  | exit id=>cases E
  | normal=>exact⟨.inr rfl,fin E rfl⟩
  | ret=>exact⟨.inl rfl,fin E rfl⟩
 ·cases h
def tI (c:jr) (call:bI) (f:Nat) (args:List X) (B:J):T (X×aN) :=
 match c.hV f with
 | some i => (N3 (PX c call f i args B)).bind B fun _ r => if r.nn = true then .ret (r, []) else .fail ["names"]
 | none => .fail ["table"]
theorem CV {P:Program} {ρ:aa} {c:jr} (H:cf P ρ c) {call:bI} (aO:dk P ρ call) {n:Nat} {f:FuncId} {args:List X} (ha:X.lJ args=true) {h:Hp} {B:J} (u:J.ok ρ B) {r:X} {d:aN} (hs:(tI c call f args B).aq ρ=some (r,d)) :
  cj P f=true/\CY P n f (X.af ρ args) h (r.I ρ) (bn ρ d):=by
 unfold tI at hs
 split at hs
 ·rename_i i hi
  have vo:=H.lp f i hi
  have hi:=H.hV f i hi
  obtain⟨_,z,_,A,E⟩:=T.cZ _ u hs
  obtain⟨a,h3,h4⟩:=aip A
  split at E
  ·rename_i hn
   cases E
   obtain⟨hlen,hb⟩:=aqU H aO hi vo u h3
   obtain⟨fn,g1,g2,g3,g4,_,g6⟩:=hi
   refine⟨g6,?_⟩
   rw[<-h4,<-g3,<-g4]at hb
   exact abA g1 g2 (by rw[X.gg,g4];exact hlen) (X.pY ρ args ha) (X.kP ρ _ hn) hb n h
  ·cases E
 ·cases hs
def SA (c:jr):Nat->bI
 | 0=>fun _ _ _ _ _=>(.fail [])
 | d+1=>fun _ f args _ B=>match Ch f args c.ks with
  | some r => .ret (r,[])
  | none=>if X.lJ args=true then tI c (SA c d) f args B else(.fail [])
inductive BT (am:Type) where
 | leaf
 | node (l:BT am) (k:Nat) (v:am) (r:BT am)
def eS {am:Type} (k:Nat):BT am->Option am
 | .leaf=>none
 | .node l j v r=>if Nat.beq j k=true then some v else if Nat.ble k j=true then eS k l else eS k r
def BT.mem {am:Type} (p:Nat×am):BT am->Prop
 | .leaf=>False
 | .node l j v r=>p=(j,v)\/l.mem p\/r.mem p
theorem k7 {am:Type} {k:Nat} {v:am}:∀{t:BT am},eS k t=some v->t.mem (k,v)
 | .leaf,h=>by cases h
 | .node l j Y r,h=>by
  simp only[eS]at h
  split at h
  ·rename_i M;cases h;rw[Nat.eq_of_beq_eq_true M];exact .inl rfl
  ·split at h
   ·exact .inr (.inl (k7 h))
   ·exact .inr (.inr (k7 h))
def xp {am:Type} (l:List (Nat×am)):Nat->BT am
 | 0 => .leaf
 | d+1=>match l.drop (l.length / 2)with
  | [] => .leaf
  | (k,v)::r => .node (xp (l.take (l.length / 2)) d) k v (xp r d)
theorem k8 {am:Type} {p:Nat×am}:∀(l:List (Nat×am)) (d:Nat),(xp l d).mem p->p∈l
 | l,0,h=>by cases h
 | l,d+1,h=>by
  simp only[xp]at h
  split at h
  ·cases h
  ·rename_i k v r F
   have hm:∀q∈(k,v)::r,q∈l:=fun q hq=>List.mem_of_mem_drop (by rw[F];exact hq)
   rcases h with h | h | h
   ·exact hm p (by rw[h];exact List.mem_cons_self)
   ·exact List.mem_of_mem_take (k8 _ d h)
   ·exact hm p (List.mem_cons_of_mem _ (k8 r d h))
def ask (c:jr) (d:Nat) (f:Nat) (args:List X):T X:=(SA c d 0 f args [] []).map (·.1)
end Go.Proofs.Xw
namespace Go.Proofs.Xw
open Go Go.Proofs.Aw
def wa (m:Nm):List Nm->Bool
 | []=>false
 | k::l=>cC k m||wa m l
def nB (h:av):Nat->List Nm->List Nm->List Nm
 | 0,_,cS=>cS
 | _+1,[],cS=>cS
 | k+1,m::l,cS=>if wa m cS=true then nB h k l cS else match bl h m with
  | some cs=>nB h k (X.lG cs++l) (cS++[m])
  | none=>nB h k l cS
def iA (aj:List Nm):av->av
 | []=>[]
 | (m,v)::l=>if wa m aj=true then(m,v)::iA aj l else iA aj l
theorem Mt (aj:List Nm) (m:Nm):∀h:av,bl (iA aj h) m=if wa m aj=true then bl h m else none
 | []=>by simp[iA,bl]
 | (k,v)::l=>by
  have ih:=Mt aj m l
  simp only[iA]
  by_cases u:cC k m=true
  ·have:=eB u
   subst this
   by_cases hw:wa k aj=true
   ·simp only[hw,if_true,bl,u]
   ·simp only[hw]at ih ⊢
    simpa using ih
  ·by_cases hw:wa k aj=true
   ·simp only[hw,if_true,bl,u]
    simpa using ih
   ·simp only[hw,bl,u]
    simpa using ih
theorem ml:∀(h:av) (m:Nm) (cs:List X),bl h m=some cs->(m,cs)∈h
 | [],_,_,h=>by cases h
 | (k,v)::l,m,cs,h=>by
  simp only[bl]at h
  split at h
  ·rename_i e;have:=eB e;subst this;cases h;exact List.mem_cons_self
  ·exact List.mem_cons_of_mem _ (ml l m cs h)
def VG (m:Nm):List Nm->Nat->Option Nat
 | [],_=>none
 | k::l,i=>if cC k m=true then some i else VG m l (i+1)
def Oy (n:Nat) (nM:Nm->Nm) (A:av):Nat->List Nm->aN
 | _,[]=>[]
 | k,m::l=>match bl A m with
  | some cs=>((n,k),some (X.bu nM cs))::Oy n nM A (k+1) l
  | none=>Oy n nM A (k+1) l
def yN (n:Nat) (hs:av) (m:Nm):Bool:=Nat.beq m.1 n||(bl hs m).isSome
def OZ (n:Nat) (aF:Nat->Nm) (hs h A:av) (r r':X) (d:aN):Bool :=
 let p:=yN n hs
 let h':=iz d h
 d.all (fun q=>p q.1)&&(hs.all (fun q=>d.any fun e=>cC e.1 q.1)&&(r'.ca p&&(X.beq (r'.aW (ib n aF)) r &&
  (h'.all (fun q => !p q.1||(X.a4 p q.2&&match bl A (ib n aF q.1)with | some cs=>X.fc (X.bu (ib n aF) q.2) cs | none=>false)) &&
  h'.all (fun q => !Nat.beq q.1.1 n||(Nat.blt n (aF q.1.2).1&&h'.all fun e => !Nat.beq e.1.1 n||(!cC (aF q.1.2) (aF e.1.2)||Nat.beq q.1.2 e.1.2)))))))
def Ma (n:Nat) (aj:List Nm) (hs h:av) (A:av) (r:X):T (X×aN) :=
 let L:=(nB A 200 (r.names++aj) []).filter fun m => !wa m aj
 let nM:Nm->Nm:=fun m=>match VG m L 0 with | some k=>(n,k) | none=>m
 let aF:Nat->Nm:=fun k=>(L[k]?).getD (n+1,0)
 let d:aN:=(aj.map fun m=>(m,(bl A m).map (X.bu nM)))++Oy n nM A 0 L
 if OZ n aF hs h A r (r.aW nM) d = true then .ret (r.aW nM, d) else .fail ["hand"]
def vf (c:jr) (call:bI) (n:Nat) (f:Nat) (args:List X) (h:av) (B:J):T (X×aN) :=
 match c.hV f with
 | some i =>
  let aj:=nB h 200 (X.lG args) []
  let hs:=iA aj h
  if(Nat.ble args.length i.ntmps&&(X.a4 (fun k=>Nat.blt k.1 n) args&&hs.all fun q=>Nat.blt q.1.1 n&&X.a4 (fun k=>Nat.blt k.1 n) q.2))=true then
   (ov (r7 0 args) (cz c.ti call i.ms (n+1) (c.lp f) c.fuel i.body B ⟨r7 0 args,hs,n+1⟩)).bind B fun _ p=>match p.1 with
    | .exit _ => .fail ["exit"]
    | _=>match oS c.ti p.2 i.results with
     | some vs=>Ma n aj hs h p.2.h (yV vs)
     | none => .fail ["res"]
  else .fail ["heap"]
 | none => .fail ["table"]
theorem Cx (ρ:aa) (n:Nat) (hs:av):yN n hs=eg n (aK ρ hs):=by
 funext m
 simp only[yN,eg,cL,Option.isSome_map]
 have:Nat.beq m.1 n=(m.1==n):=by rw[Bool.eq_iff_iff];simp
 rw[this]
theorem ak8 {P:Program} {ρ:aa} {f:FuncId} {fn:Func} {c:Code} {args:List X} {r r':X} {n:Nat} {aj:List Nm} {h A:av} {d:aN} {aF:Nat->Nm} (hf:P.funcs[f]? = some fn) (hb:fn.body=some c) (hN:args.length<=fn.ntmps)
  (aT:((iA aj h).all fun q=>Nat.blt q.1.1 n&&X.a4 (fun k=>Nat.blt k.1 n) q.2)=true) (hA:X.a4 (fun k=>Nat.blt k.1 n) args=true) (a2:OZ n aF (iA aj h) h A r r' d=true)
  (bJ:∀ac:Aw.Env,ac.N=fn.ntmps->AW P ac c (fun e V=>(e = .ret\/e = .normal)/\(kW P V fn.results.toList fun vs=>oneOf vs=r.I ρ)/\V.h=aK ρ A) ⟨gN 0 (X.af ρ args),aK ρ (iA aj h),n+1⟩) :
  CY P n f (X.af ρ args) (aK ρ h) (r'.I ρ) (bn ρ d):=by
 simp only[OZ,Bool.and_eq_true,List.all_eq_true,Bool.or_eq_true,Bool.not_eq_true',List.any_eq_true]at a2
 obtain⟨q1,q2,q3,q4,q5,q6⟩:=a2
 have q4:=X.beq_eq _ _ q4
 have i6:∀m,ae (aE (bn ρ d) (aK ρ h)) m=(bl (iz d h) m).map (aB ρ):=fun m=>by rw[<-pj,cL]
 have present:∀k,(ae (aE (bn ρ d) (aK ρ h)) (n,k)).isSome=true->∃cs,((n,k),cs)∈iz d h:=fun k u=>by
  rw[i6,Option.isSome_map]at u
  obtain⟨cs,aI⟩:=Option.isSome_iff_exists.1 u
  exact⟨cs,ml _ _ _ aI⟩
 refine RO (hs:=aK ρ (iA aj h)) aF hf hb (by rw[X.gg];exact hN) (fun m cs Z => ?_) (fun m cs Z => ?_) (X.pV ρ args hA) (fun m hm => ?_) (fun m hm => ?_) ?_ (fun m cs Z hp => ?_) (fun k u => ?_) (fun j k M u F => ?_) (fun ac hE => ?_)
 ·rw[cL,Mt]at Z
  rw[cL]
  split at Z
  ·exact Z
  ·cases Z
 ·rw[cL]at Z
  obtain⟨bi,E,rfl⟩:=Option.map_eq_some_iff.1 Z
  have:=List.all_eq_true.1 aT _ (ml _ _ _ E)
  simp only[Bool.and_eq_true,Nat.blt_eq]at this
  exact⟨this.1,X.wb ρ _ this.2⟩
 ·simp only[bn,List.map_map,List.mem_map]at hm
  obtain⟨q,hq,rfl⟩:=hm
  have:=q1 q hq
  simp only[yN,Bool.or_eq_true]at this
  rcases this with E | E
  ·exact .inl (Nat.eq_of_beq_eq_true E)
  ·right;rw[cL,Option.isSome_map];exact E
 ·rw[cL,Option.isSome_map]at hm
  obtain⟨cs,aI⟩:=Option.isSome_iff_exists.1 hm
  obtain⟨e,F,E⟩:=q2 _ (ml _ _ _ aI)
  simp only[bn,List.map_map,List.mem_map]
  exact⟨e,F,eB E⟩
 ·rw[<-Cx];exact X.wc ρ _ q3
 ·rw[i6]at Z
  obtain⟨bi,E,rfl⟩:=Option.map_eq_some_iff.1 Z
  rw[<-Cx]at hp ⊢
  rcases q5 _ (ml _ _ _ E)with h3 | h3
  ·rw[hp]at h3;cases h3
  ·exact X.wb ρ _ h3.1
 ·obtain⟨cs,aI⟩:=present k u
  rcases q6 _ aI with h3 | h3
  ·simp at h3
  ·simpa using h3.1
 ·obtain⟨cs,aI⟩:=present j M
  obtain⟨bi,qW⟩:=present k u
  rcases q6 _ aI with h3 | h3
  ·simp at h3
  ·rcases h3.2 _ qW with h4 | h4
   ·simp at h4
   ·rcases h4 with h4 | h4
    ·simp only at h4
     rw[F]at h4
     simp[cC]at h4
    ·exact Nat.eq_of_beq_eq_true h4
 ·refine dB (fun e V hq=>⟨hq.1,?_,fun m cs Z hp => ?_⟩) (bJ ac hE)
  ·rw[<-X.HZ,q4];exact hq.2.1
  ·rw[i6]at Z
   obtain⟨bi,E,rfl⟩:=Option.map_eq_some_iff.1 Z
   rw[<-Cx]at hp
   rcases q5 _ (ml _ _ _ E)with h3 | h3
   ·rw[hp]at h3;cases h3
   ·have h4:=h3.2
    simp only at h4
    split at h4
    ·rename_i cs'' h5
     have h6:=X.gv _ _ h4
     rw[hq.2.2,cL,h5,Option.map_some,<-h6,X.PC]
    ·cases h4
theorem Bw {P:Program} {ρ:aa} {c:jr} (H:cf P ρ c) {call:bI} (aO:dk P ρ call) {n:Nat} {f:FuncId} {args:List X} {h:av} {B:J} (u:J.ok ρ B) {r:X} {d:aN} (hs:(vf c call n f args h B).aq ρ=some (r,d)) :
  cj P f=true/\CY P n f (X.af ρ args) (aK ρ h) (r.I ρ) (bn ρ d):=by
 unfold vf at hs
 split at hs
 ·rename_i i hi
  have vo:=H.lp f i hi
  have hi:=H.hV f i hi
  simp only at hs
  split at hs
  ·rename_i Mf
   simp only[Bool.and_eq_true]at Mf
   obtain⟨O,hA,aT⟩:=Mf
   obtain⟨fn,g1,g2,g3,g4,g5,g6⟩:=hi
   refine⟨g6,?_⟩
   obtain⟨aQ,p,aJ,A,E⟩:=T.cZ _ u hs
   obtain⟨e,aM⟩:=p
   obtain⟨s1,h3,a0⟩:=vO (me i.body B ⟨r7 0 args,iA (nB h 200 (X.lG args) []) h,n+1⟩) A
   have fK:(XS.mk (r7 0 args) (iA (nB h 200 (X.lG args) []) h) (n+1)).I ρ=⟨gN 0 (X.af ρ args),aK ρ (iA (nB h 200 (X.lG args) []) h),n+1⟩:=by simp only[XS.I,Qj]
   have key:∀vs,oS c.ti aM i.results=some vs->(e = .ret\/e = .normal)->∀ac:Aw.Env,ac.N=fn.ntmps->AW P ac i.body (fun e V=>(e = .ret\/e = .normal)/\(kW P V fn.results.toList fun cn=>oneOf cn=(yV vs).I ρ)/\V.h=aK ρ aM.h) ⟨gN 0 (X.af ρ args),aK ρ (iA (nB h 200 (X.lG args) []) h),n+1⟩:=fun vs iB F ac hE=>by
    refine RG fun hb => ?_
    have g:=kf (ac:=ac) H.mixed H.ti aO (k0:=n+1) hb i.body B _ e s1 u (by rw[hE,g4];exact g5) (by rw[hE,g4];exact vo) h3
    unfold zX at g
    rw[fK]at g
    have Lz:AW P ac i.body (fun e' s=>e'=e.to/\s=aM.I ρ) ⟨gN 0 (X.af ρ args),aK ρ (iA (nB h 200 (X.lG args) []) h),n+1⟩:=by
     intro a w hr
     exact Code.wp_mono (fun e' bz w' ⟨s,q1,q2,q3⟩=>⟨aM.I ρ,(fx q3 a0) bz w' q1,q2,rfl⟩) (g a w hr)
    refine dB (fun e' s hq => ?_) Lz
    obtain⟨rfl,rfl⟩:=hq
    refine⟨by rcases F with rfl | rfl<;>simp[XE.to],?_,rfl⟩
    rw[g3]
    exact H0 H.ti iB (XI ρ vs).symm
   have fin:∀vs,oS c.ti aM i.results=some vs->(e = .ret\/e = .normal)->(Ma n (nB h 200 (X.lG args) []) (iA (nB h 200 (X.lG args) []) h) h aM.h (yV vs)).aq ρ=some (r,d)->CY P n f (X.af ρ args) (aK ρ h) (r.I ρ) (bn ρ d):=fun vs iB F W=>by
    unfold Ma at W
    simp only at W
    split at W
    ·rename_i a2
     cases W
     exact ak8 g1 g2 (by rw[g4];simpa using O) aT hA a2 (key vs iB F)
    ·cases W
   cases e with
   | exit id=>cases E
   | normal =>
    simp only at E
    split at E
    ·rename_i vs iB;exact fin vs iB (.inr rfl) E
    ·cases E
   | ret =>
    simp only at E
    split at E
    ·rename_i vs iB;exact fin vs iB (.inl rfl) E
    ·cases E
  ·cases hs
 ·cases hs
mutual
def W3:X->X->List (Nm×Nm)->List (Nm×Nm)
 | .ptr a _ _,.ptr b _ _,l=>(a,b)::l
 | .sl a _ _ _ _,.sl b _ _ _ _,l=>(a,b)::l
 | .slv a _ _ _ _,.sl b _ _ _ _,l=>(a,b)::l
 | .slv a _ _ _ _,.slv b _ _ _ _,l=>(a,b)::l
 | .dz a _ _ _,.dz b _ _ _,l=>(a,b)::l
 | .agg xs,.agg ys,l=>rG xs ys l
 | .fn _ xs us,.fn _ ys vs,l=>rG xs ys (rG us vs l)
 | _,_,l=>l
def rG:List X->List X->List (Nm×Nm)->List (Nm×Nm)
 | x::xs,y::ys,l=>W3 x y (rG xs ys l)
 | _,_,l=>l
end
def G8 (h:av):av->List (Nm×Nm)->List (Nm×Nm)
 | [],cS=>cS
 | (m,cs)::r,cS=>G8 h r (match bl h (e9 cS m)with
  | some ds=>rG cs ds cS
  | none=>cS)
def Xy (n:Nat) (aF cE:Nm->Nm) (k:GK) (args:List X) (hs h:av) (r:X) (d:aN):Bool :=
 let p:=yN n hs
 X.a4 (fun m=>Nat.blt m.1 1) k.args&&(X.fc (X.bu aF k.args) args&&(k.cv.all (fun q=>Nat.blt q.1.1 1&&(X.a4 (fun m=>Nat.blt m.1 1) q.2&&(match bl hs (aF q.1)with | some ds=>X.fc (X.bu aF q.2) ds | none=>false))) &&
 (hs.all (fun q=>(bl k.cv (cE q.1)).isSome&&cC (aF (cE q.1)) q.1)&&(vL aF (k.cv.map (·.1))&&(d.all (fun q=>p q.1)&&(hs.all (fun q=>d.any fun e=>cC e.1 q.1)&&(r.ca p&&(X.beq (r.aW cE) k.r &&
 (iz d h).all (fun q => !p q.1||(X.a4 p q.2&&match bl (iz k.d k.cv) (cE q.1)with | some cs=>X.fc (X.bu cE q.2) cs | none=>false))))))))))
def Q2 (n:Nat) (args:List X) (h:av) (k:GK):Option (X×aN) :=
 let nm:=G8 h k.cv (rG k.args args [])
 let aF:=e9 nm
 let inv:=nm.map fun q=>(q.2,q.1)
 let nM:Nm->Nm:=fun m=>if Nat.beq m.1 1=true then(n,m.2)else aF m
 let cE:Nm->Nm:=fun m=>if Nat.beq m.1 n=true then(1,m.2)else e9 inv m
 let hs:=iA (k.cv.map fun q=>aF q.1) h
 let r:=k.r.aW nM
 let d:aN:=k.d.map fun q=>(nM q.1,q.2.map (X.bu nM))
 if Xy n aF cE k args hs h r d=true then some (r,d)else none
theorem ag4 {aF:Nm->Nm} {g:av} (h:vL aF (g.map (·.1))=true):∀m m',(bl g m).isSome=true->(bl g m').isSome=true->aF m=aF m'->m=m':=fun m m' hm a1 F=>by
 obtain⟨cs,aI⟩:=Option.isSome_iff_exists.1 hm
 obtain⟨bi,qW⟩:=Option.isSome_iff_exists.1 a1
 exact Gb h m (List.mem_map.2 ⟨_,ml _ _ _ aI,rfl⟩) m' (List.mem_map.2 ⟨_,ml _ _ _ qW,rfl⟩) F
theorem atm {P:Program} {ρ:aa} {n:Nat} {args:List X} {h:av} {k:GK} {r:X} {d:aN} (u:cy P ρ k) (hq:Q2 n args h k=some (r,d)):CY P n k.f (X.af ρ args) (aK ρ h) (r.I ρ) (bn ρ d):=by
 unfold Q2 at hq
 simp only at hq
 split at hq
 ·rename_i a2
  simp only[Option.some.injEq,Prod.mk.injEq]at hq
  obtain⟨hr,hd⟩:=hq
  rw[hr,hd]at a2
  generalize VC:e9 (G8 h k.cv (rG k.args args []))=aF at a2
  generalize nf:iA (k.cv.map fun q=>aF q.1) h=hs at a2
  generalize agR:(fun m:Nm=>if Nat.beq m.1 n=true then(1,m.2)else e9 ((G8 h k.cv (rG k.args args [])).map fun q=>(q.2,q.1)) m)=cE at a2
  have RE:∀j,cE (n,j)=(1,j):=fun j=>by rw[<-agR];simp
  simp only[Xy,Bool.and_eq_true,List.all_eq_true,Bool.or_eq_true,Bool.not_eq_true',List.any_eq_true,Nat.blt_eq]at a2
  obtain⟨q1,q2,q3,q4,q5,q6,q7,v0,ao3,q10⟩:=a2
  have i6:∀m,ae (aE (bn ρ d) (aK ρ h)) m=(bl (iz d h) m).map (aB ρ):=fun m=>by rw[<-pj,cL]
  have agl:∀m,ae (aE (bn ρ k.d) (aK ρ k.cv)) m=(bl (iz k.d k.cv) m).map (aB ρ):=fun m=>by rw[<-pj,cL]
  refine RN (hs:=aK ρ hs) aF cE u.2 (X.pV ρ _ (by simpa using q1)) (by rw[<-X.rT,X.gv _ _ q2]) (fun m cs Z => ?_) (fun m hm => ?_) (fun m m' hm a1 F => ?_) (fun m cs Z => ?_) (fun m hm => ?_) (fun m hm => ?_) ?_ ?_ (fun m cs Z hp => ?_) (fun j _=>by rw[RE];exact Nat.le_refl _) (fun i j _ _ F => ?_)
  ·rw[cL]at Z
   obtain⟨bi,E,rfl⟩:=Option.map_eq_some_iff.1 Z
   obtain⟨g1,g2,g3⟩:=q3 _ (ml _ _ _ E)
   refine⟨g1,X.wb ρ _ g2,?_⟩
   split at g3
   ·rename_i ds jE
    rw[cL,jE,Option.map_some,<-X.gv _ _ g3,X.PC]
   ·cases g3
  ·rw[cL,Option.isSome_map]at hm ⊢
   obtain⟨cs,aI⟩:=Option.isSome_iff_exists.1 hm
   obtain⟨g1,g2⟩:=q4 _ (ml _ _ _ aI)
   exact⟨g1,eB g2⟩
  ·rw[cL,Option.isSome_map]at hm a1
   exact ag4 q5 m m' hm a1 F
  ·rw[<-nf,cL,Mt]at Z
   rw[cL]
   split at Z
   ·exact Z
   ·cases Z
  ·simp only[bn,List.map_map,List.mem_map]at hm
   obtain⟨q,hq,rfl⟩:=hm
   have:=q6 q hq
   simp only[yN,Bool.or_eq_true]at this
   rcases this with E | E
   ·exact .inl (Nat.eq_of_beq_eq_true E)
   ·right;rw[cL,Option.isSome_map];exact E
  ·rw[cL,Option.isSome_map]at hm
   obtain⟨cs,aI⟩:=Option.isSome_iff_exists.1 hm
   obtain⟨e,F,E⟩:=q7 _ (ml _ _ _ aI)
   simp only[bn,List.map_map,List.mem_map]
   exact⟨e,F,eB E⟩
  ·rw[<-Cx];exact X.wc ρ _ v0
  ·rw[<-X.HZ,X.beq_eq _ _ ao3]
  ·rw[i6]at Z
   obtain⟨bi,E,rfl⟩:=Option.map_eq_some_iff.1 Z
   rw[<-Cx]at hp ⊢
   rcases q10 _ (ml _ _ _ E)with h3 | h3
   ·rw[hp]at h3;cases h3
   ·refine⟨X.wb ρ _ h3.1,?_⟩
    have h4:=h3.2
    split at h4
    ·rename_i cs'' h5
     rw[agl,h5,Option.map_some,<-X.gv _ _ h4,X.PC]
    ·cases h4
  ·rw[RE,RE]at F
   exact(Prod.mk.inj F).2
 ·cases hq
def yz (n f:Nat) (args:List X) (h:av):List GK->Option (X×aN)
 | []=>none
 | k::l=>if Nat.beq k.f f=true then(match Q2 n args h k with
  | some q=>some q
  | none=>yz n f args h l)else yz n f args h l
theorem GH {P:Program} {ρ:aa} {n f:Nat} {args:List X} {h:av} {r:X} {d:aN}:∀{l:List GK},(∀k∈l,cy P ρ k)->yz n f args h l=some (r,d)->cj P f=true/\CY P n f (X.af ρ args) (aK ρ h) (r.I ρ) (bn ρ d)
 | [],_,hq=>by cases hq
 | k::l,u,hq=>by
  have aJ:∀k∈l,cy P ρ k:=fun t ht=>u t (List.mem_cons_of_mem _ ht)
  simp only[yz]at hq
  split at hq
  ·rename_i hf
   have hf:=Nat.eq_of_beq_eq_true hf
   split at hq
   ·rename_i q hu
    cases hq
    rw[<-hf]
    exact⟨(u k List.mem_cons_self).1,atm (u k List.mem_cons_self) hu⟩
   ·exact GH aJ hq
  ·exact GH aJ hq
end Go.Proofs.Xw
