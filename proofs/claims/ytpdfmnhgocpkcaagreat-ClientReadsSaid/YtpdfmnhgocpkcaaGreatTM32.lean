/- Parts of the proof, one behind the other. -/
import Derived.Test.YtpdfmnhgocpkcaaGreatTM31
import Derived.Test.YtpdfmnhgocpkcaaGreatTM15
import Derived.Test.YtpdfmnhgocpkcaaGreatTM9
import Derived.Test.YtpdfmnhgocpkcaaGreatTM4
namespace Go.Proofs.YtpdfmnhgocpkcaaGreat
open Go Go.Proofs.Aw Go.Proofs.Xw
set_option maxRecDepth 100000
def vF (n:Nat):Facts:=(.eq kyN (.lit n),true)::((List.range n).flatMap fun j=>(E5 j,false)::(EZ j,false)::((List.range j).flatMap fun k=>[(Aj j k,false),(Aj k j,false)]))
def bW6 (Φ:Facts):T X->Bool
 | .ret (.sc (.b e))=>isT (nR Φ e)
 | _=>false
def sl3 (m:Nm) (z n:Nat):X := .sl m z 0 n true
def x51 (n:Nat):dR:=[((1,0),some (vi 405 9++vi 405 9++[xi 1,fE (1,1) 1 kyN,fE (1,2) 25 kyN,sl3 (1,3) 1 n,xn 1,xn 0])),((1,1),some [.rows 1 kyN kyL]),((1,2),some [.rows 25 kyN an0]),((1,3),some ((List.range n).map fun(j:Nat)=>xn j))]
def an1:List X:=[xn 0,xl false]++List.replicate 6 (xn 0)++[.sc (.s (.lit ⟨#[]⟩)),.sc (.s (.lit ⟨#[]⟩)),xl false]++List.replicate 14 (xn 0)
def x74 (n:Nat):dR:=[((1,0),some ([xi 1,sl3 (1,1) 1 n,sl3 (1,2) 25 n,sl3 (1,3) 1 n,xn 1]++vi 405 9++[xl false,xn 0])),((1,1),some ((List.range n).map fun j => .sc (.s (ky j)))),((1,2),some ((List.range n).flatMap fun _=>an1)),((1,3),some ((List.range n).map fun(j:Nat)=>xn j))]
def okR:X := .tup [.ptr (1,0) [] 0,xn 0]
def ao6:dR->dR->Bool
 | [],[]=>true
 | (m,some a)::r,(k,some b)::s=>eG m k&&(X.beqL a b&&ao6 r s)
 | _,_=>false
theorem Vr:∀{a b:dR},ao6 a b=true->a=b
 | [],[],_=>rfl
 | (m,some a)::r,(k,some b)::s,h=>by
  simp only[ao6,Bool.and_eq_true]at h
  rw[bT h.1,X.beqL_eq _ _ h.2.1,Vr h.2.2]
 | [],_::_,h=>by simp[ao6]at h
 | (_,some _)::_,[],h=>by cases h
 | (_,none)::_,[],h=>by cases h
 | (_,none)::_,(_,some _)::_,h=>by cases h
 | (_,none)::_,(_,none)::_,h=>by cases h
 | (_,some _)::_,(_,none)::_,h=>by cases h
def isG (d:dR):T (X×dR)->Bool
 | .ret (r,e)=>X.beq r okR&&ao6 e d
 | _=>false
theorem ah5 {d:dR} {t:T (X×dR)} (h:isG d t=true):t = .ret (okR,d):=by
 cases t with
 | ret p =>
  obtain⟨r,e⟩:=p
  simp only[isG,Bool.and_eq_true]at h
  rw[X.beq_eq _ _ h.1,Vr h.2]
 | br _ _ _=>cases h
 | need _ _=>cases h
 | fail _=>cases h
noncomputable def g87 (n:Nat):Bool:=bW6 (vF n) (aU cK 87 [KX] (vF n))
noncomputable def g51 (n:Nat):Bool:=isG (x51 n) (pK cN 51 aN [] ((.var 690,true)::(.var 691,true)::(.eq kyN (.lit n),true)::rQ))
noncomputable def g74 (n:Nat):Bool:=isG (x74 n) (pK cN 74 aN [] ((.var 690,true)::(vF n++rQ)))
theorem bY9:(g87 1&&(g51 1&&g74 1))=true:=by kernel_rfl
theorem bY8:(g87 2&&(g51 2&&g74 2))=true:=by kernel_rfl
theorem bY7:(g87 3&&(g51 3&&g74 3))=true:=by kernel_rfl
theorem bY6:(g87 4&&(g51 4&&g74 4))=true:=by kernel_rfl
theorem bY5:(g87 5&&(g51 5&&g74 5))=true:=by kernel_rfl
theorem bY4:(g87 6&&(g51 6&&g74 6))=true:=by kernel_rfl
end Go.Proofs.YtpdfmnhgocpkcaaGreat
namespace Go.Proofs.YtpdfmnhgocpkcaaGreat
open Go Go.Proofs.Aw Go.Proofs.Xw
set_option maxRecDepth 100000
theorem tLL {J:Rho} {n:Int} {e:IE} (h:n<e.den J) {Φ:Facts} (hk:Facts.ok J Φ):Facts.ok J ((.lt (.lit n) e,true)::Φ):=fT (show(IE.lit n).den J<e.den J from h) hk
theorem tR' {J:Rho} {n:Int} {e:IE} (h:e.den J<n) {Φ:Facts} (hk:Facts.ok J Φ):Facts.ok J ((.lt e (.lit n),true)::Φ):=fT h hk
theorem fL {J:Rho} {n:Int} {e:IE} (h:e.den J<=n) {Φ:Facts} (hk:Facts.ok J Φ):Facts.ok J ((.lt (.lit n) e,false)::Φ):=fF h hk
theorem fR {J:Rho} {n:Int} {e:IE} (h:n<=e.den J) {Φ:Facts} (hk:Facts.ok J Φ):Facts.ok J ((.lt e (.lit n),false)::Φ):=fF (show(IE.lit n).den J<=e.den J from h) hk
theorem cyF {J:Rho} {f:Nat} {p:List X} {Φ:Facts} {x:X} (hk:Facts.ok J Φ) (h:aU cK f p Φ = .ret x):Cy f (X.denL J p) (x.den J):=dM (c:=cK) (lG (List.forall_mem_nil _)) (List.forall_mem_nil _) hk (by rw[h];rfl)
def ah2:T X->T X->Bool
 | .ret (.sc (.b a)),.ret (.sc (.b b))=>a.beq b&&(List.range 9).all fun k=>CO false 400 [] [] (.or (.not a) (.not (.lt (.var (405+k)) (.lit 0))))
 | _,_=>false
theorem aU7:ah2 (aU cK 64 [.agg (vi 405 9)] []) (aU cK 102 [.agg (vi 405 9)] [])=true:=by kernel_rfl
theorem b36 (J:Rho):CfgOk Tryz.prog J cK.c:=lG (List.forall_mem_nil _)
theorem bs0 (J:Rho):∃b:Bool,Cy 64 (X.denL J [.agg (vi 405 9)]) (.sc (.bool b))/\Cy 102 (X.denL J [.agg (vi 405 9)]) (.sc (.bool b))/\(b=true->∀k:Nat,k<9->0<=J.i (405+k)):=by
 have h:=aU7
 unfold ah2 at h
 split at h
 ·rename_i a b e1 e2
  rw[Bool.and_eq_true]at h
  have:=BE.beq_eq _ _ h.1
  subst this
  refine⟨a.den J,cyF (Facts.ok_nil J) e1,cyF (Facts.ok_nil J) e2,fun ha k hk => ?_⟩
  have ht:=pO (J:=J) 400 [] [] _ (List.all_eq_true.1 h.2 k (List.mem_range.2 hk)) (Facts.ok_nil J)
  have ht:((!(a.den J)) || !(decide (J.i (405+k)<0)))=true:=ht
  rw[ha]at ht
  simpa using ht
 ·cases h
def aN4 (n:Nat) (J:Rho):Prop:=∀j,j<n->(E5 j).den J=false/\(EZ j).den J=false/\∀k,k<j->(Aj j k).den J=false
theorem TK (J:Rho) (j k:Nat):(Aj j k).den J=(Aj k j).den J:=by
 show(((ky j).den J).toList==((ky k).den J).toList)=(((ky k).den J).toList==((ky j).den J).toList)
 exact BEq.comm
theorem aO0 {n:Nat} {J:Rho} (hn:kyN.den J=n) (h:aN4 n J):Facts.ok J (vF n):=by
 refine Facts.ok_cons (by show(kyN.den J==(n:Int))=true;rw[hn];exact beq_self_eq_true _) fun p hp => ?_
 obtain⟨j,hj,hp⟩:=List.mem_flatMap.1 hp
 obtain⟨h1,h2,h3⟩:=h j (List.mem_range.1 hj)
 rcases List.mem_cons.1 hp with rfl | hp
 ·exact h1
 ·rcases List.mem_cons.1 hp with rfl | hp
  ·exact h2
  ·obtain⟨k,hk,hp⟩:=List.mem_flatMap.1 hp
   have h4:=h3 k (List.mem_range.1 hk)
   rcases List.mem_cons.1 hp with rfl | hp
   ·exact h4
   ·rcases List.mem_cons.1 hp with rfl | hp
    ·show(Aj k j).den J=false
     rw[<-TK];exact h4
    ·cases hp
theorem ao7 {n j:Nat} {J:Rho} (hn:kyN.den J=n) (h6:n<=6) (hj:j<n):Facts.ok J (atF j) :=
 tLL (by omega) (fL (by omega) (Facts.ok_nil J))
theorem aG4 {n:Nat} {J:Rho} (hn:kyN.den J=n) (hb:n<=250):(1<=n/\n<=6/\aN4 n J/\Cy 87 (X.denL J [KX]) (.sc (.bool true))) \/
  (Cy 87 (X.denL J [KX]) (.sc (.bool false))/\∀J',Agree 600 J J'->CfgOk Tryz.prog J' cN.c->Facts.ok J' rQ->(BE.var 690).den J'=true->∃Φ,Facts.ok J' Φ/\(pK cN 74 aN [] Φ).sel J'=some (xG,[])):=by
 by_cases h0:n=0
 ·right
  subst h0
  have hz:Facts.ok J zF:=tR' (by omega) (fR (by omega) (Facts.ok_nil J))
  refine⟨cyF hz (mG z87),fun J' ag _ hl hv => ?_⟩
  have hz':Facts.ok J' zF:=bG ag (by kernel_rfl) hz
  refine⟨_,Facts.ok_cons hv (aY hz' hl),?_⟩
  have h:=aT4
  unfold z74 at h
  split at h
  ·rename_i c x e
   rw[Bool.and_eq_true]at h
   rw[e]
   simp only[T.sel,wM hz' h.1,if_true]
   exact gU h.2
  ·exact gU h
 by_cases h6:6<n
 ·right
  obtain⟨ss,hl,he⟩:∃ss:List ByteArray,ss.length=n/\aC J kyN kyL=nP ss:=by
   refine⟨(List.range n).map fun(j:Nat)=>J.cs 194 0 ((j:Int)+(IE.cl 2 2 (.var 400)).den J).toNat,by simp,?_⟩
   unfold aC nP
   have e:(kyN.den J).toNat=n:=by omega
   rw[e,List.map_map]
   rfl
  have e:X.denL J [KX]=[.ro 1 (nP ss) false]:=by rw[<-he];rfl
  refine⟨by rw[e];exact VZ ss false (by omega) (by omega),fun J' ag _ hl' hv => ?_⟩
  have en:kyN.den J'=n:=by rw[<-IE.bel_den ag kyN (by kernel_rfl)];exact hn
  exact⟨_,Facts.ok_cons hv (tLL (by omega) (fR (by omega) hl')),gU bn1⟩
 have h6:n<=6:=by omega
 by_cases hg:aN4 n J
 ·left
  refine⟨by omega,h6,hg,?_⟩
  have go:∀k,n=k->(g87 k&&(g51 k&&g74 k))=true->Cy 87 (X.denL J [KX]) (.sc (.bool true)):=fun k hk h=>by
   subst hk
   rw[Bool.and_eq_true]at h
   have h:=h.1
   unfold g87 bW6 at h
   split at h
   ·rename_i e he
    have hv:=aO0 hn hg
    have q:=dM (b36 J) (List.forall_mem_nil _) hv (show(aU cK 87 [KX] (vF n)).sel J=some _ by rw[he];rfl)
    simp only[X.den,Sc.den,wM hv h]at q
    exact q
   ·cases h
  rcases(show n=1\/n=2\/n=3\/n=4\/n=5\/n=6 by omega)with h | h | h | h | h | h
  ·exact go 1 h bY9
  ·exact go 2 h bY8
  ·exact go 3 h bY7
  ·exact go 4 h bY6
  ·exact go 5 h bY5
  ·exact go 6 h bY4
 ·right
  obtain⟨j,hj,c,d,hc,hd,hr,ht⟩:∃(j:Nat),j<n/\∃c d:BE,c.den J=true/\d.den J=true/\n87 j c=true/\(n74 j d=true/\d.bel 600=true):=by
   apply Classical.byContradiction
   intro hno
   apply hg
   intro j hj
   obtain⟨a1,a2,a3⟩:=aE7 (j:=j) (by omega)
   obtain⟨b1,b2,b3⟩:=aE8 (j:=j) (by omega)
   have bel:∀k,k<6->(ky k).bel 600=true:=fun k hk=>by
    rcases(show k=0\/k=1\/k=2\/k=3\/k=4\/k=5 by omega)with rfl | rfl | rfl | rfl | rfl | rfl<;>kernel_rfl
   refine⟨Bool.eq_false_iff.2 fun h=>hno ⟨j,hj,_,_,h,h,a1,b1,?_⟩,Bool.eq_false_iff.2 fun h=>hno ⟨j,hj,_,_,h,h,a2,b2,?_⟩,fun k hk=>Bool.eq_false_iff.2 fun h=>hno ⟨j,hj,_,_,h,(by rw[<-TK];exact h),a3 k hk,b3 k hk,?_⟩⟩
   ·simp only[E5,BE.bel,IE.bel,bel j (by omega),Bool.and_self]
   ·simp only[EZ,BE.bel,IE.bel,bel j (by omega),Bool.and_self]
   ·simp only[Aj,BE.bel,bel j (by omega),bel k (by omega),Bool.and_self]
  refine⟨cyF (Facts.ok_cons hc (ao7 hn h6 hj)) (mG hr),fun J' ag _ hl hv => ?_⟩
  have en:kyN.den J'=n:=by rw[<-IE.bel_den ag kyN (by kernel_rfl)];exact hn
  exact⟨_,Facts.ok_cons (by rw[<-BE.bel_den ag d ht.2];exact hd) (Facts.ok_cons hv (aY (ao7 en h6 hj) hl)),gU ht.1⟩
end Go.Proofs.YtpdfmnhgocpkcaaGreat
namespace Go.Proofs.YtpdfmnhgocpkcaaGreat
open Go Go.Proofs.Aw Go.Proofs.Xw
set_option maxRecDepth 100000
theorem ag4 (J:Rho) (j:Nat):(ky j).den J=J.cs 194 0 ((j:Int)+(IE.cl 2 2 (.var 400)).den J).toNat:=by
 cases j with
 | zero =>
  show J.cs 194 0 ((IE.cl 2 2 (.var 400)).den J).toNat=_
  rw[show((0:Nat):Int)+(IE.cl 2 2 (.var 400)).den J=(IE.cl 2 2 (.var 400)).den J by omega]
 | succ j=>rfl
theorem aj7 {α:Type} (f:Nat->α):∀l:List Nat,(l.map fun j=>[f j]).flatten=l.map f
 | []=>rfl
 | a::l=>by simp only[List.map_cons,List.flatten_cons,aj7 f l];rfl
theorem O1 (J:Rho) (g:Nat->X) (l:List Nat):X.denL J (l.map g)=l.map fun j=>(g j).den J:=by
 rw[X.denL_eq,List.map_map];rfl
theorem Je (J:Rho) (g:Nat->List X):∀l:List Nat,X.denL J (l.flatMap g)=(l.map fun j=>X.denL J (g j)).flatten
 | []=>rfl
 | a::l=>by simp only[List.flatMap_cons,X.denL_append,List.map_cons,List.flatten_cons,Je J g l]
theorem Qu {J:Rho} {n:Nat} (hn:kyN.den J=n) (L:RL):aC J kyN L=(List.range n).map fun(j:Nat)=>L.row J j:=by
 unfold aC
 rw[hn,Int.toNat_natCast]
theorem ag7 {J:Rho} {n:Nat} (hn:kyN.den J=n) (hr:aZ ((List.range n).map fun j=>(.sc (.s (ky j)):X))=false):aF J ((List.range n).map fun j => .sc (.s (ky j)))=aF J [.rows 1 kyN kyL]:=by
 rw[bC hr,O1]
 show _=(aC J kyN kyL).flatten
 rw[Qu hn,<-aj7]
 congr 1
 refine List.map_congr_left fun j _ => ?_
 show [AV.sc (.string ((ky j).den J))]=_
 rw[ag4]
 rfl
theorem aL6 {J:Rho} {n:Nat} (hn:kyN.den J=n) (hr:aZ ((List.range n).flatMap fun _=>an1)=false):aF J ((List.range n).flatMap fun _=>an1)=aF J [.rows 25 kyN an0]:=by
 rw[bC hr,Je]
 show _=(aC J kyN an0).flatten
 rw[Qu hn]
 rfl
theorem MM {J:Rho} {n:Nat} (hn:kyN.den J=n) (hj:∀j,J.ci 620 0 j=j) (hr:aZ ((List.range n).map fun(j:Nat)=>xn j)=false):aF J ((List.range n).map fun(j:Nat)=>xn j)=aF J [.rows 1 kyN tdN]:=by
 rw[bC hr,O1]
 show _=(aC J kyN tdN).flatten
 rw[Qu hn,<-aj7]
 congr 1
 refine List.map_congr_left fun j _ => ?_
 show [AV.sc (.int .i64 (j:Int))]=(if(j:Int)=(IE.lit 0).den J then mQ J [aI (.lit 0)]else(RL.var 620 [.i .i64]).row J j)
 by_cases h0:(j:Int)=(IE.lit 0).den J
 ·rw[if_pos h0]
  have:(j:Int)=0:=h0
  show _=[AV.sc (.int .i64 0)]
  rw[this]
 ·rw[if_neg h0]
  show _=[AV.sc (.int .i64 (J.ci 620 0 ((j:Int)).toNat))]
  rw[Int.toNat_natCast,hj]
theorem JO {J:Rho} {n:Nat} (hn:kyN.den J=n) (m:Nm) (z:Nat):(sl3 m z n).den J=(fE m z kyN).den J:=by
 simp only[sl3,fE,X.den,hn,IE.den,Int.toNat_zero,Nat.zero_mul,Int.toNat_natCast]
def nrw:List Nat:=[1,2,3,4,5,6]
theorem bf6:(nrw.all fun n => !aZ ((List.range n).map fun j=>(.sc (.s (ky j)):X))&&(!aZ ((List.range n).flatMap fun _=>an1) && !aZ ((List.range n).map fun(j:Nat)=>xn j)))=true:=by kernel_rfl
theorem ah3 {n:Nat} (h1:1<=n) (h6:n<=6):aZ ((List.range n).map fun j=>(.sc (.s (ky j)):X))=false/\aZ ((List.range n).flatMap fun _=>an1)=false/\aZ ((List.range n).map fun(j:Nat)=>xn j)=false:=by
 have:=List.all_eq_true.1 bf6 n (by simp only[nrw,List.mem_cons,List.not_mem_nil,or_false];omega)
 simpa only[Bool.and_eq_true,Bool.not_eq_true']using this
theorem aJ9 {J:Rho} {n:Nat} (hn:kyN.den J=n) (h1:1<=n) (h6:n<=6) (hj:∀j,J.ci 620 0 j=j):bZ J (x51 n)=bZ J (((1,0),some (vi 405 9++vi 405 9++[xi 1,fE (1,1) 1 kyN,fE (1,2) 25 kyN,fE (1,3) 1 kyN,xn 1,xn 0]))::nwO):=by
 obtain⟨r1,r2,r3⟩:=ah3 h1 h6
 have e:=MM hn hj r3
 have s:=JO hn (1,3) 1
 have o:aF J (vi 405 9++vi 405 9++[xi 1,fE (1,1) 1 kyN,fE (1,2) 25 kyN,sl3 (1,3) 1 n,xn 1,xn 0])=aF J (vi 405 9++vi 405 9++[xi 1,fE (1,1) 1 kyN,fE (1,2) 25 kyN,fE (1,3) 1 kyN,xn 1,xn 0]):=by
  rw[bC rfl,bC rfl,X.denL_append (l:=vi 405 9++vi 405 9),X.denL_append (l:=vi 405 9++vi 405 9)]
  congr 1
  show [_,_,_,(sl3 (1,3) 1 n).den J,_,_]=[_,_,_,(fE (1,3) 1 kyN).den J,_,_]
  rw[s]
 show [((1,0),some (aF J _)),((1,1),some (aF J _)),((1,2),some (aF J _)),((1,3),some (aF J _))]=[((1,0),some (aF J _)),((1,1),some (aF J _)),((1,2),some (aF J _)),((1,3),some (aF J _))]
 rw[o,e]
theorem aJ8 {J:Rho} {n:Nat} (hn:kyN.den J=n) (h1:1<=n) (h6:n<=6) (hj:∀j,J.ci 620 0 j=j):bZ J (x74 n)=bZ J (((1,0),some ([xi 1,fE (1,1) 1 kyN,fE (1,2) 25 kyN,fE (1,3) 1 kyN,xn 1]++vi 405 9++[xl false,xn 0]))::nwO):=by
 obtain⟨r1,r2,r3⟩:=ah3 h1 h6
 have e:=MM hn hj r3
 have ek:=ag7 hn r1
 have ea:=aL6 hn r2
 have o:aF J ([xi 1,sl3 (1,1) 1 n,sl3 (1,2) 25 n,sl3 (1,3) 1 n,xn 1]++vi 405 9++[xl false,xn 0])=aF J ([xi 1,fE (1,1) 1 kyN,fE (1,2) 25 kyN,fE (1,3) 1 kyN,xn 1]++vi 405 9++[xl false,xn 0]):=by
  rw[bC rfl,bC rfl,List.append_assoc,List.append_assoc,X.denL_append (m:=vi 405 9++[xl false,xn 0]),X.denL_append (m:=vi 405 9++[xl false,xn 0])]
  congr 1
  show [_,(sl3 (1,1) 1 n).den J,(sl3 (1,2) 25 n).den J,(sl3 (1,3) 1 n).den J,_]=[_,(fE (1,1) 1 kyN).den J,(fE (1,2) 25 kyN).den J,(fE (1,3) 1 kyN).den J,_]
  rw[JO hn,JO hn,JO hn]
 show [((1,0),some (aF J _)),((1,1),some (aF J _)),((1,2),some (aF J _)),((1,3),some (aF J _))]=[((1,0),some (aF J _)),((1,1),some (aF J _)),((1,2),some (aF J _)),((1,3),some (aF J _))]
 rw[o,ek,ea,e]
theorem La {J:Rho} {f:Nat} {args args':List X} {inn:bg} {r:X} {d:dR} (h:iG Tryz.prog J ⟨f,args,inn,r,d⟩) (ha:args'.map X.unf=args):iG Tryz.prog J ⟨f,args',inn,r,d⟩ :=
 ⟨h.1,fun C vs hh hL hn=>h.2 C vs hh (by have:=Ad C args' vs hL;rw[ha]at this;exact this) hn⟩
theorem bh9 {J:Rho} {f:Nat} {args:List X} {inn:bg} {r r':X} {d:dR} (h:iG Tryz.prog J ⟨f,args,inn,r,d⟩) (hr:∀C u,Conc C (r.den J) u->Conc C (r'.den J) u):iG Tryz.prog J ⟨f,args,inn,r',d⟩ :=
 ⟨h.1,fun C vs hh hL hn=>(h.2 C vs hh hL hn).mono fun e' w' hq=>by
  obtain⟨u,C',h3,h4,hp⟩:=hq
  exact⟨u,C',h3,h4,{ hp with val:=hr _ _ hp.val }⟩⟩
theorem bY3 {J:Rho} {f:Nat} {args:List X} {inn:bg} {r:X} {d d':dR} (h:iG Tryz.prog J ⟨f,args,inn,r,d⟩) (hd:bZ J d=bZ J d'):iG Tryz.prog J ⟨f,args,inn,r,d'⟩ :=
 ⟨h.1,by have:=h.2;rw[show bZ J (⟨f,args,inn,r,d⟩:GK).d=bZ J d' from hd]at this;exact this⟩
theorem b35 {J:Rho} (h64:Cy 64 (X.denL J [.agg (vi 405 9)]) (.sc (.bool (J.b 690)))) (h102:Cy 102 (X.denL J [.agg (vi 405 9)]) (.sc (.bool (J.b 690)))) (h87:Cy 87 (X.denL J [KX]) (.sc (.bool (J.b 691)))):CfgOk Tryz.prog J cN.c :=
 sJ (List.forall_mem_cons.2 ⟨h64,List.forall_mem_cons.2 ⟨h102,List.forall_mem_cons.2 ⟨h87,List.forall_mem_nil _⟩⟩⟩) (fun _ _ _=>LpsOk.nil _ _ _ _) (List.forall_mem_nil _) RG (List.forall_mem_nil _)
theorem bR4 (J:Rho) (hl:Facts.ok J rQ) (h0:0<=kyN.den J) (h250:kyN.den J<=250):∃J',Agree 600 J J'/\J'.len 610=0/\((Facts.ok J' wF/\NewI J'/\∀k∈yD false++yD true,iG Tryz.prog J' k)\/(J'.len 621=0/\∀k∈xm false++xm true,iG Tryz.prog J' k)):=by
 obtain⟨n,hn⟩:∃n:Nat,kyN.den J=n:=⟨(kyN.den J).toNat,by omega⟩
 obtain⟨b0,v64,v102,vcu⟩:=bs0 J
 have mk:∀(b1:Bool) (m:Nat),Cy 87 (X.denL J [KX]) (.sc (.bool b1))->∃J',Agree 600 J J'/\J'.len 610=0/\J'.len 621=m/\(∀j,J'.ci 620 0 j=j)/\J'.b 690=b0/\J'.b 691=b1/\CfgOk Tryz.prog J' cN.c:=fun b1 m h87=>by
  let J':Rho:={ J with b:=fun k=>if k=690 then b0 else if k=691 then b1 else J.b k,len:=fun k=>if k=621 then m else if k=610 then 0 else J.len k,ci:=fun l k j=>if l=620 then(j:Int)else J.ci l k j }
  have ag:Agree 600 J J':=⟨fun _ _=>rfl,fun k hk=>by show J.b k=if k=690 then b0 else if k=691 then b1 else J.b k;rw[if_neg (by omega),if_neg (by omega)],fun _ _=>rfl,
   fun k hk=>by show J.len k=if k=621 then m else if k=610 then 0 else J.len k;rw[if_neg (by omega),if_neg (by omega)],fun l hl=>by funext k j;show J.ci l k j=if l=620 then(j:Int)else J.ci l k j;rw[if_neg (by omega)],fun _ _=>rfl,fun _ _=>rfl,fun _ _=>rfl⟩
  have e1:X.denL J [.agg (vi 405 9)]=X.denL J' [.agg (vi 405 9)]:=X.belL_den ag _ (by kernel_rfl)
  have e2:X.denL J [KX]=X.denL J' [KX]:=X.belL_den ag _ (by kernel_rfl)
  refine⟨J',ag,rfl,rfl,fun j=>rfl,rfl,rfl,b35 ?_ ?_ ?_⟩
  ·rw[<-e1];exact v64
  ·rw[<-e1];exact v102
  ·rw[<-e2];exact h87
 have no:∀J',Agree 600 J J'->CfgOk Tryz.prog J' cN.c->∀Φ Ψ,Facts.ok J' Φ->(pK cN 51 aN [] Φ).sel J'=some (xG,[])->Facts.ok J' Ψ->(pK cN 74 aN [] Ψ).sel J'=some (xG,[])->∀k∈xm false++xm true,iG Tryz.prog J' k:=fun J' _ hc Φ Ψ h1 h2 h3 h4=>by
  have g1:=sV hc (List.forall_mem_nil _) h1 h2
  have g2:=sV hc (List.forall_mem_nil _) h3 h4
  have g1:iG Tryz.prog J' ⟨51,aN,[],.tup [.top,xn 1],[]⟩:=bh9 g1 fun C u hu=>by
   obtain⟨us,rfl,hu⟩:=hu
   refine⟨us,rfl,?_⟩
   obtain⟨v,vs,e,_,h5⟩:=hu
   exact⟨v,vs,e,trivial,h5⟩
  exact List.forall_mem_cons.2 ⟨g1,List.forall_mem_cons.2 ⟨g2,List.forall_mem_cons.2 ⟨La g1 rfl,List.forall_mem_cons.2 ⟨La g2 rfl,List.forall_mem_nil _⟩⟩⟩⟩
 rcases aG4 hn (by omega)with⟨h1,h6,hk,h87⟩ | ⟨h87,h74⟩
 ·cases hb0:b0 with
  | false =>
   obtain⟨J',ag,q1,q2,q3,q4,q5,hc⟩:=mk true 0 h87
   have hl':=bG ag (by kernel_rfl) hl
   have hv:Facts.ok J' ((.var 690,false)::rQ):=Facts.ok_cons (show J'.b 690=false by rw[q4,hb0]) hl'
   exact⟨J',ag,q1,.inr ⟨q2,no J' ag hc _ _ hv (gU YY) hv (gU YX)⟩⟩
  | true =>
   obtain⟨J',ag,q1,q2,q3,q4,q5,hc⟩:=mk true n h87
   have hl':=bG ag (by kernel_rfl) hl
   have hn':kyN.den J'=n:=by rw[<-IE.bel_den ag kyN (by kernel_rfl)];exact hn
   have bel:∀k,k<6->(ky k).bel 600=true:=fun k hk=>by
    rcases(show k=0\/k=1\/k=2\/k=3\/k=4\/k=5 by omega)with rfl | rfl | rfl | rfl | rfl | rfl<;>kernel_rfl
   have hk':aN4 n J':=fun j hj=>by
    obtain⟨a1,a2,a3⟩:=hk j hj
    refine⟨?_,?_,fun k hkj => ?_⟩
    ·rw[<-BE.bel_den ag (E5 j) (by simp only[E5,BE.bel,IE.bel,bel j (by omega),Bool.and_self])];exact a1
    ·rw[<-BE.bel_den ag (EZ j) (by simp only[EZ,BE.bel,IE.bel,bel j (by omega),Bool.and_self])];exact a2
    ·rw[<-BE.bel_den ag (Aj j k) (by simp only[Aj,BE.bel,bel j (by omega),bel k (by omega),Bool.and_self])];exact a3 k hkj
   have e690:(BE.var 690).den J'=true:=by show J'.b 690=true;rw[q4,hb0]
   have e691:(BE.var 691).den J'=true:=q5
   have gs:(g87 n&&(g51 n&&g74 n))=true:=by
    rcases(show n=1\/n=2\/n=3\/n=4\/n=5\/n=6 by omega)with h | h | h | h | h | h<;>subst h
    ·exact bY9
    ·exact bY8
    ·exact bY7
    ·exact bY6
    ·exact bY5
    ·exact bY4
   simp only[Bool.and_eq_true]at gs
   have hv:=aO0 hn' hk'
   have eqn:(BE.eq kyN (.lit n)).den J'=true:=by show(kyN.den J'==(n:Int))=true;rw[hn'];exact beq_self_eq_true _
   have g1:=sV hc (List.forall_mem_nil _) (Facts.ok_cons e690 (Facts.ok_cons e691 (Facts.ok_cons eqn hl'))) (show(pK cN 51 aN [] _).sel J'=some (okR,x51 n)by rw[ah5 gs.2.1];rfl)
   have g2:=sV hc (List.forall_mem_nil _) (Facts.ok_cons e690 (aY hv hl')) (show(pK cN 74 aN [] _).sel J'=some (okR,x74 n)by rw[ah5 gs.2.2];rfl)
   have g1:=bY3 g1 (aJ9 hn' h1 h6 q3)
   have g2:=bY3 g2 (aJ8 hn' h1 h6 q3)
   have size:∀j,j<n->1<=(J'.cs 194 0 ((j:Int)+(IE.cl 2 2 (.var 400)).den J').toNat).size/\(J'.cs 194 0 ((j:Int)+(IE.cl 2 2 (.var 400)).den J').toNat).size<=16:=fun j hj=>by
    obtain⟨a1,a2,_⟩:=hk' j hj
    have a1:¬(((ky j).den J').size:Int)<1:=of_decide_eq_false a1
    have a2:¬(16:Int)<(((ky j).den J').size:Int):=of_decide_eq_false a2
    rw[ag4]at a1 a2
    omega
   refine⟨J',ag,q1,.inl ⟨?_,⟨by omega,fun j hj=>size j (by omega),fun j hj=>q3 j,fun k hk=>by rw[<-ag.i (405+k) (by omega)];exact vcu hb0 k hk⟩,List.forall_mem_cons.2 ⟨g1,List.forall_mem_cons.2 ⟨g2,List.forall_mem_cons.2 ⟨La g1 rfl,List.forall_mem_cons.2 ⟨La g2 rfl,List.forall_mem_nil _⟩⟩⟩⟩⟩⟩
   have s0:=(size 0 (by omega)).2
   refine fL (by omega) (fR (by omega) (fL ?_ (Facts.ok_cons ?_ (fR (show(1:Int)<=(J'.len 621:Int)by omega) (fL (show(J'.len 621:Int)<=6 by omega) (Facts.ok_nil _))))))
   ·show((J'.cs 194 0 ((IE.cl 2 2 (.var 400)).den J').toNat).size:Int)<=16
    rw[show((0:Nat):Int)+(IE.cl 2 2 (.var 400)).den J'=(IE.cl 2 2 (.var 400)).den J' by omega]at s0
    omega
   ·show(kyN.den J'==(J'.len 621:Int))=true
    rw[hn',q2];exact beq_self_eq_true _
 ·cases hb0:b0 with
  | false =>
   obtain⟨J',ag,q1,q2,q3,q4,q5,hc⟩:=mk false 0 h87
   have hl':=bG ag (by kernel_rfl) hl
   have hv:Facts.ok J' ((.var 690,false)::rQ):=Facts.ok_cons (show J'.b 690=false by rw[q4,hb0]) hl'
   exact⟨J',ag,q1,.inr ⟨q2,no J' ag hc _ _ hv (gU YY) hv (gU YX)⟩⟩
  | true =>
   obtain⟨J',ag,q1,q2,q3,q4,q5,hc⟩:=mk false 0 h87
   have hl':=bG ag (by kernel_rfl) hl
   have e690:(BE.var 690).den J'=true:=by show J'.b 690=true;rw[q4,hb0]
   obtain⟨Ψ,g3,g4⟩:=h74 J' ag hc hl' e690
   exact⟨J',ag,q1,.inr ⟨q2,no J' ag hc _ _ (Facts.ok_cons e690 (Facts.ok_cons (show(BE.var 691).den J'=false from q5) hl')) (gU a13) g3 g4⟩⟩
end Go.Proofs.YtpdfmnhgocpkcaaGreat
namespace Go.Proofs.YtpdfmnhgocpkcaaGreat
open Go Go.Proofs.Aw Go.Proofs.Xw
set_option maxRecDepth 100000
def anX:X := .rl 25 (.len 470) (.var 625 GI) false
def rsC:Nat->List X
 | 0=>vi 405 9++vi 500 9++[xi 1,keR,anX,tdR,xn 2,xn 0]
 | 1=>[xi 1,keR,anX,tdR,xn 2]++vi 500 9++[xl true,xn 0]
 | 2=>vi 405 9++vi 600 9++[xi 1,keR,anX,tdR,xn 1,xn 0]
 | _=>[xi 1,keR,anX,.k (.slice none 0 0),xn 1]++vi 600 9++[xl true,xn 0]
def rsP (v:Nat):Bool:=Nat.beq v 0||Nat.beq v 2
def ZG (v:Nat):Nat:=if rsP v=true then 122 else 116
def rsN (v:Nat):Nat:=if rsP v=true then 20 else 5
def rsI (v:Nat):X := .ip (rsC v) [] 0
def rsT (v:Nat) (i o:X):ig:=if rsP v=true then [(21,i),(20,.sc (.i .i64 (.len 470))),(19,anX),(3,o),(18,.top),(17,.top),(16,.top),(15,.top),(14,.top),(13,.top),(12,.top),(11,.top),(10,.top),(9,.top),(8,.top),(7,.top),(6,.top),(2,.top),(0,rsI v)]else [(4,i),(3,o),(2,.top),(0,rsI v)]
def GY:X := .k (.slice none 0 0)
def rsL (v:Nat):X := .slv (rsN v,0) 22 (.lit 0) (.len 630) true
def rsH (v:Nat):bg:=[((rsN v,0),[.rows 22 (.len 630) (.var 630 DK)])]
def ay8 (v:Nat):XS:=⟨rsT v (xn 0) GY,[],rsN v⟩
def rsA (v:Nat):XS:=⟨rsT v (xi 700) GY,[],rsN v⟩
def rsB (v:Nat):XS:=⟨rsT v (xi 700) (rsL v),rsH v,rsN v+1⟩
def rsO (v:Nat):XS:=⟨rsT v (xi 700) (rsL v),rsH v,90⟩
noncomputable def rsD (v:Nat):Code:=(dw ((if rsP v=true then Tryz.f122 else Tryz.f116).body.getD .skip))[0]?.getD .skip
def rsR (i:IE):List Sc:=[.s (.cl 470 0 i),.b (.cl 625 1 i)]++(List.range 6).map (fun k=>aI (.cl 625 (2+k) i))++[.s (.cl 625 8 i),.s (.cl 625 9 i),.b (.cl 625 10 i)]++(List.range 11).map fun k=>aI (.cl 625 (11+k) i)
def EE:Facts:=[(.eq (.var 443) (.lit 1),true),(.lt (.len 470) (.lit 1),false),(.lt (.lit 6) (.len 470),false)]
def bA0 (v:Nat):List Cls:=[⟨rsB v,[(.lt (.len 630) (.lit 1),false)],[⟨0,[],[],[],[(630,.lit 1,.one (rsR (.var 700)))],[]⟩,⟨1,[],[],[],[(630,.op .padd .i64 (.len 630) (.lit 1),.app (.len 630) (.var 630 DK) (.one (rsR (.var 700))))],[]⟩]⟩]
def p7:IE := .op .add .i64 (.var 700) (.lit 1)
def NC:Facts:=[(.eq (.var 700) (.lit 0),true),(.lt (.var 700) (.len 470),true)]++EE
def Nz:Facts:=[(.lt (.var 700) (.lit 0),false),(.lt (.var 700) (.len 470),true),(.lt (.len 470) p7,false),(.lt p7 (.lit 0),false),(.lt (.len 630) (.lit 1),false),(.lt (.lit 6) (.len 630),false)]++EE
def Ny:Facts:=[(.lt (.var 700) (.lit 0),false),(.lt (.var 700) (.len 470),false),(.lt (.len 630) (.lit 1),false)]++EE
noncomputable def rsCf:Cfg2:=⟨bU [] (fun _=>[]),[],[10119]⟩
noncomputable def aP7 (v:Nat) (S:XS) (Φ:Facts):T (XE×XS):=(dG rsCf.c.ti (iK rsCf 12) ((rsCf.c.ft (ZG v)).elim [] (·.ms)) 2 [] 1000 (rsD v) Φ S).map (yC (S.t.map (·.1)))
end Go.Proofs.YtpdfmnhgocpkcaaGreat
namespace Go.Proofs.YtpdfmnhgocpkcaaGreat
open Go Go.Proofs.Aw Go.Proofs.Xw
set_option maxRecDepth 100000
noncomputable def pX (v i:Nat) (Φ:Facts):Bool:=jV 2 630 700 [] (0,[]) i (bA0 v) (rsO v) .normal Φ (aP7 v (if Nat.beq i 0=true then rsA v else rsB v) Φ)
noncomputable def Ew (v:Nat) (Φ:Facts):Bool:=jV 2 630 700 [] (0,[]) 1 [] (rsO v) (.exit 0) Φ (aP7 v (rsB v) Φ)
theorem rn0:(pX 0 0 NC&&(pX 0 1 Nz&&Ew 0 Ny))=true:=by kernel_rfl
theorem rn1:(pX 1 0 NC&&(pX 1 1 Nz&&Ew 1 Ny))=true:=by kernel_rfl
theorem rn2:(pX 2 0 NC&&(pX 2 1 Nz&&Ew 2 Ny))=true:=by kernel_rfl
theorem rn3:(pX 3 0 NC&&(pX 3 1 Nz&&Ew 3 Ny))=true:=by kernel_rfl
theorem aZ2 {v:Nat} (h:v<4):pX v 0 NC=true/\pX v 1 Nz=true/\Ew v Ny=true:=by
 have go:∀v,(pX v 0 NC&&(pX v 1 Nz&&Ew v Ny))=true->pX v 0 NC=true/\pX v 1 Nz=true/\Ew v Ny=true:=fun v h=>by
  simpa only[Bool.and_eq_true]using h
 rcases(show v=0\/v=1\/v=2\/v=3 by omega)with rfl | rfl | rfl | rfl
 ·exact go 0 rn0
 ·exact go 1 rn1
 ·exact go 2 rn2
 ·exact go 3 rn3
noncomputable def Nv (J:Rho) (x:Int):List AV:=mQ { J with i:=fun _=>x } (rsR (.var 0))
theorem Hz {J J':Rho} (ag:Agree 630 J J') (x:Int):Nv J x=Nv J' x:=by
 unfold Nv mQ rsR
 simp only[List.map_append,List.map_cons,List.map_nil,List.map_map,Function.comp_def,Sc.den,aI,IE.den,BE.den,TE.den,ag.ci 625 (by decide),ag.cb 625 (by decide),ag.cs 625 (by decide),ag.cs 470 (by decide)]
theorem ZO {J':Rho} {j:Nat} {l:List AV} (hi:∀k,J'.ci 630 k j=ai l[k]?) (hb:∀k,J'.cb 630 k j=fU l[k]?) (hs:∀k,J'.cs 630 k j=cellS l[k]?) :
  (RL.var 630 DK).row J' (j:Int)=[.sc (.string (cellS l[0]?)),.sc (.bool (fU l[1]?)),.sc (.int .i64 (ai l[2]?)),.sc (.int .i64 (ai l[3]?)),.sc (.int .i64 (ai l[4]?)),.sc (.int .i64 (ai l[5]?)),.sc (.int .i64 (ai l[6]?)),.sc (.int .i64 (ai l[7]?)),.sc (.string (cellS l[8]?)),.sc (.string (cellS l[9]?)),.sc (.bool (fU l[10]?)),.sc (.int .i64 (ai l[11]?)),.sc (.int .i64 (ai l[12]?)),.sc (.int .i64 (ai l[13]?)),.sc (.int .i64 (ai l[14]?)),.sc (.int .i64 (ai l[15]?)),.sc (.int .i64 (ai l[16]?)),.sc (.int .i64 (ai l[17]?)),.sc (.int .i64 (ai l[18]?)),.sc (.int .i64 (ai l[19]?)),.sc (.int .i64 (ai l[20]?)),.sc (.int .i64 (ai l[21]?))]:=by
 simp only[<-hi,<-hb,<-hs]
 rfl
theorem J5 {J J':Rho} {x:Int} {j:Nat} (hi:∀k,J'.ci 630 k j=ai (Nv J x)[k]?) (hb:∀k,J'.cb 630 k j=fU (Nv J x)[k]?) (hs:∀k,J'.cs 630 k j=cellS (Nv J x)[k]?):(RL.var 630 DK).row J' (j:Int)=Nv J x:=by
 rw[ZO hi hb hs];rfl
theorem az2 {J J':Rho} {j:Nat} (hi:∀k,J'.ci 630 k j=ai ((RL.var 630 DK).row J (j:Int))[k]?) (hb:∀k,J'.cb 630 k j=fU ((RL.var 630 DK).row J (j:Int))[k]?) (hs:∀k,J'.cs 630 k j=cellS ((RL.var 630 DK).row J (j:Int))[k]?):(RL.var 630 DK).row J' (j:Int)=(RL.var 630 DK).row J (j:Int):=by
 rw[ZO hi hb hs];rfl
structure RsI (J0 J:Rho) (i:Nat):Prop where
 ag:Agree 630 J0 J
 z:i=0->J.i 700=0
 b:i≠0->i=1/\∃m:Nat,1<=m/\m<=J0.len 470/\J.i 700=m/\J.len 630=m/\∀j,j<m->(RL.var 630 DK).row J (j:Int)=Nv J0 j
structure RsQ (J0 J:Rho):Prop where
 l:J.len 630=J0.len 470
 r:∀j,j<J0.len 470->(RL.var 630 DK).row J (j:Int)=Nv J0 j
noncomputable def Qs (v:Nat):Nat:=if rsP v=true then Tryz.f122.ntmps else Tryz.f116.ntmps
noncomputable def Nw (v:Nat):LoopX:=⟨(bW (rsD v)).getD 0,2,630,ay8 v,noB,[],.ret (.exit 0,rsO v)⟩
theorem J4 {v:Nat} (h:v<4):fD (Qs v) (rsD v)=true:=by
 rcases(show v=0\/v=1\/v=2\/v=3 by omega)with rfl | rfl | rfl | rfl<;>kernel_rfl
theorem aY5 {v:Nat} (h:v<4):(ay8 v).bel 630=true:=by
 rcases(show v=0\/v=1\/v=2\/v=3 by omega)with rfl | rfl | rfl | rfl<;>kernel_rfl
def rsN0:Bind:=⟨[(700,.lit 0)],[],[],[]⟩
theorem bz6 {v:Nat} (h:v<4):okS 2 630 rsN0 [] (rsA v) (ay8 v)=true:=by
 rcases(show v=0\/v=1\/v=2\/v=3 by omega)with rfl | rfl | rfl | rfl<;>kernel_rfl
def ay7 (v i:Nat):XS:=if i=0 then rsA v else rsB v
theorem ay6 {v:Nat} (hv:v<4) {J:Rho} (h43:J.i 443=1) (h1:1<=J.len 470) (h6:J.len 470<=6):∃Jf,Agree 630 J Jf/\RsQ J Jf/\LoopOk Tryz.prog Jf (Qs v) (rsD v) (Nw v):=by
 have hc:∀J',CfgOk Tryz.prog J' rsCf.c:=fun J'=>lG (List.forall_mem_nil _)
 obtain⟨r0,r1,r2⟩:=aZ2 hv
 refine iR (P:=Tryz.prog) (N:=Qs v) (body:=rsD v) (k0:=2) (n:=630) (S0:=ay8 v) (J:=J) (aY5 hv) (ay7 v) (Nw v) ⟨rfl,rfl,rfl⟩ (fun i J'=>RsI J J' i) (RsQ J) (fun J'=>J.len 470-(J'.i 700).toNat) (fun i J' hR => ?_) ⟨0,rsN0.ap J,Bind.agree (by kernel_rfl) J,⟨Bind.agree (by kernel_rfl) J,fun _=>rfl,fun h=>absurd rfl h⟩,fun E _ hkn=>jq hkn (bz6 hv) J⟩
 have ag:=hR.ag
 have l4:J'.len 470=J.len 470:=(ag.len 470 (by decide)).symm
 have hcall:=dP (c:=rsCf) (hc J') (List.forall_mem_nil _) 12
 have hf1:Facts.ok J' EE:=Facts.ok_cons (by show(J'.i 443==1)=true;rw[<-ag.i 443 (by decide),h43];rfl) (fR (show(1:Int)<=(J'.len 470:Int)by omega) (fL (show(J'.len 470:Int)<=6 by omega) (Facts.ok_nil _)))
 have p7d:∀m:Nat,J'.i 700=m->m<=6->p7.den J'=m+1:=fun m hm h=>by
  refine(show p7.den J'=IntKind.i64.wrap (J'.i 700+1)from rfl).trans ?_
  rw[hm];exact aP _ (by omega) (by omega)
 have nxt:∀(m:Nat),J'.i 700=m->m<J.len 470->(i=0->m=0)->(i≠0->J'.len 630=m/\∀j,j<m->(RL.var 630 DK).row J' (j:Int)=Nv J j)->(∃(j:Nat) (C:Cls) (J2:Rho),(bA0 v)[j]? = some C/\StepF Tryz.prog (Qs v) (rsD v) 2 (ay7 v i) C.S J' J2/\Facts.ok J2 C.Ψ/\J2.i 700=IntKind.i64.wrap (J'.i 700+1)/\Agree 630 J' J2/\(BD 0 [] J'->BD 0 [] J2)/\(C.al=[]\/∃a∈C.al,a.fr=i/\kW a J' J2)) ->
   ∃i' J2,StepF Tryz.prog (Qs v) (rsD v) 2 (ay7 v i) (ay7 v i') J' J2/\RsI J J2 i'/\J.len 470-(J2.i 700).toNat<J.len 470-(J'.i 700).toNat/\Agree 630 J' J2:=fun m hm hlt hz hb ⟨j,C,J2,h1,h2,_,h4,h5,_,h7⟩=>by
  have e4:J2.i 700=m+1:=by rw[h4,hm];exact aP _ (by omega) (by omega)
  match j,h1 with
  | 0,h1 =>
   cases h1
   refine⟨1,J2,h2,⟨ag.trans h5,fun h=>by omega,fun _=>⟨rfl,m+1,by omega,by omega,by omega,?_,fun j hj => ?_⟩⟩,by omega,h5⟩
   all_goals
    simp only[List.cons_ne_nil,false_or,List.mem_cons,List.not_mem_nil,or_false]at h7
    obtain⟨a,ha,hfr,hok⟩:=h7
   ·rcases ha with rfl | rfl
    ·have h0:0=i:=hfr
     have:=(hok.2.2.2 _ List.mem_cons_self).1
     rw[this,hz h0.symm];rfl
    ·have h0:1=i:=hfr
     have:=(hok.2.2.2 _ List.mem_cons_self).1
     rw[this]
     show(((J'.len 630:Nat):Int)+1).toNat=m+1
     rw[(hb (by omega)).1];omega
   ·rcases ha with rfl | rfl
    ·have h0:0=i:=hfr
     have hm0:=hz h0.symm
     obtain rfl:j=0:=by omega
     obtain⟨_,ci,cb,cs⟩:=hok.2.2.2 _ List.mem_cons_self
     have e:(RL.one (rsR (.var 700))).row J' ((0:Nat):Int)=Nv J' (J'.i 700):=rfl
     rw[Hz ag,show((0:Nat):Int)=J'.i 700 by rw[hm,hm0]]
     rw[show J'.i 700=((0:Nat):Int)by rw[hm,hm0]]
     refine J5 (fun k => ?_) (fun k => ?_) (fun k => ?_)
     ·rw[ci k 0,e,hm,hm0]
     ·rw[cb k 0,e,hm,hm0]
     ·rw[cs k 0,e,hm,hm0]
    ·have h0:1=i:=hfr
     obtain⟨hl,hr⟩:=hb (by omega)
     obtain⟨_,ci,cb,cs⟩:=hok.2.2.2 _ List.mem_cons_self
     by_cases hjm:j<m
     ·have e:(RL.app (.len 630) (.var 630 DK) (.one (rsR (.var 700)))).row J' ((j:Nat):Int)=(RL.var 630 DK).row J' (j:Int):=by
       show(if(j:Int)<(J'.len 630:Int)then(RL.var 630 DK).row J' (j:Int)else _)=_
       rw[if_pos (by omega)]
      rw[<-hr j hjm]
      refine az2 (fun k => ?_) (fun k => ?_) (fun k => ?_)
      ·rw[ci k j,e]
      ·rw[cb k j,e]
      ·rw[cs k j,e]
     ·obtain rfl:j=m:=by omega
      have e:(RL.app (.len 630) (.var 630 DK) (.one (rsR (.var 700)))).row J' ((j:Nat):Int)=Nv J' (J'.i 700):=by
       show(if(j:Int)<(J'.len 630:Int)then _ else Nv J' (J'.i 700))=_
       rw[if_neg (by omega)]
      rw[Hz ag]
      refine J5 (fun k => ?_) (fun k => ?_) (fun k => ?_)
      ·rw[ci k j,e,hm]
      ·rw[cb k j,e,hm]
      ·rw[cs k j,e,hm]
  | j+1,h1=>cases h1
 by_cases hi:i=0
 ·subst hi
  right
  have hz:=hR.z rfl
  have hk:Facts.ok J' NC:=Facts.ok_cons (by show(J'.i 700==0)=true;rw[hz];rfl) (Facts.ok_cons (decide_eq_true (by show J'.i 700<(J'.len 470:Int);omega)) hf1)
  exact nxt 0 hz (by omega) (fun _=>rfl) (fun h=>absurd rfl h) (kH mixed dm hcall (LpsOk.nil _ _ _ _) (J4 hv) hk r0)
 ·obtain⟨hi1,m,m1,m2,m3,m4,m5⟩:=hR.b hi
  subst hi1
  by_cases hm:m<J.len 470
  ·right
   have hp:=p7d m m3 (by omega)
   have hk:Facts.ok J' Nz:=fR (show(0:Int)<=J'.i 700 by omega) (Facts.ok_cons (decide_eq_true (by show J'.i 700<(J'.len 470:Int);omega)) (fF (show p7.den J'<=(J'.len 470:Int)by rw[hp];omega) (fR (by rw[hp];omega) (fR (show(1:Int)<=(J'.len 630:Int)by omega) (fL (show(J'.len 630:Int)<=6 by omega) hf1)))))
   exact nxt m m3 hm (fun h=>absurd h (by decide)) (fun _=>⟨m4,m5⟩) (kH mixed dm hcall (LpsOk.nil _ _ _ _) (J4 hv) hk r1)
  ·left
   obtain rfl:m=J.len 470:=by omega
   have hk:Facts.ok J' Ny:=fR (show(0:Int)<=J'.i 700 by omega) (Facts.ok_cons (decide_eq_false (by show ¬J'.i 700<(J'.len 470:Int);omega)) (fR (show(1:Int)<=(J'.len 630:Int)by omega) hf1))
   refine⟨⟨m4,m5⟩,?_⟩
   rcases iL mixed dm hcall (LpsOk.nil _ _ _ _) (J4 hv) hk r2 with h | ⟨j,C,_,h1,_⟩
   ·exact h
   ·simp at h1
end Go.Proofs.YtpdfmnhgocpkcaaGreat
namespace Go.Proofs.YtpdfmnhgocpkcaaGreat
open Go Go.Proofs.Aw Go.Proofs.Xw
set_option maxRecDepth 100000
def MF (L:RL):Nat->bg
 | 0=>[((0,0),vi 405 9++vi 500 9++[xi 1,fE (0,1) 1 (.len 470),fE (0,2) 25 (.len 470),Dy false,xn 2,xn 0]),((0,1),kR),((0,2),[.rows 25 (.len 470) L]),((0,3),oR)]
 | 1=>[((0,0),[xi 1,fE (0,1) 1 (.len 470),fE (0,2) 25 (.len 470),Dy false,xn 2]++vi 500 9++[xl true,xn 0]),((0,1),kR),((0,2),[.rows 25 (.len 470) L]),((0,3),oR)]
 | 2=>[((0,0),vi 405 9++vi 600 9++[xi 1,fE (0,1) 1 (.len 470),fE (0,2) 25 (.len 470),Dy false,xn 1,xn 0]),((0,1),kR),((0,2),[.rows 25 (.len 470) L]),((0,3),oR)]
 | _=>[((0,0),[xi 1,fE (0,1) 1 (.len 470),fE (0,2) 25 (.len 470),.k (.slice none 0 0),xn 1]++vi 600 9++[xl true,xn 0]),((0,1),kR),((0,2),[.rows 25 (.len 470) L])]
def rq:RL := .var 625 GI
noncomputable def aY7 (v:Nat) (g:Nat):List LoopX:=if Nat.beq g (ZG v)=true then [Nw v]else []
noncomputable def VQ (v:Nat):Cfg2:=⟨bU [] (aY7 v),[],[10119]⟩
def rsY:X := .rl 22 (.len 630) (.var 630 DK) false
def VP:Facts:=EE++(Y7++[(.lt (.len 630) (.lit 1),false)])
def isY:T (X×dR)->Bool
 | .ret (r,d)=>X.beq r rsY&&d.isEmpty
 | _=>false
theorem cj4:(isY (RY (VQ 0) (ZG 0) [.ptr (0,0) [] 0] (MF rq 0) VP)&&Wl (MF rq 0)&&(isY (RY (VQ 1) (ZG 1) [.ptr (0,0) [] 0] (MF rq 1) VP)&&Wl (MF rq 1))&&(isY (RY (VQ 2) (ZG 2) [.ptr (0,0) [] 0] (MF rq 2) VP)&&Wl (MF rq 2))&&(isY (RY (VQ 3) (ZG 3) [.ptr (0,0) [] 0] (MF rq 3) VP)&&Wl (MF rq 3)))=true:=by kernel_rfl
theorem bz5 {v:Nat} (h:v<4):isY (RY (VQ v) (ZG v) [.ptr (0,0) [] 0] (MF rq v) VP)=true/\Wl (MF rq v)=true:=by
 have q:=cj4
 simp only[Bool.and_eq_true]at q
 obtain⟨⟨⟨q0,q1⟩,q2⟩,q3⟩:=q
 rcases(show v=0\/v=1\/v=2\/v=3 by omega)with rfl | rfl | rfl | rfl
 ·exact q0
 ·exact q1
 ·exact q2
 ·exact q3
theorem bf4 {t:T (X×dR)} (h:isY t=true):t = .ret (rsY,[]):=by
 cases t with
 | ret p =>
  obtain⟨r,d⟩:=p
  simp only[isY,Bool.and_eq_true]at h
  rw[X.beq_eq _ _ h.1,List.isEmpty_iff.1 h.2]
 | br _ _ _=>cases h
 | need _ _=>cases h
 | fail _=>cases h
theorem aY4 {v:Nat} (hv:v<4) {J:Rho} (h:LoopOk Tryz.prog J (Qs v) (rsD v) (Nw v)):∀g i,fO g su=some i->LpsOk Tryz.prog J i.ntmps (aY7 v g) i.body:=fun g i hi=>by
 unfold aY7
 split
 ·rename_i hf
  have hf:=Nat.eq_of_beq_eq_true hf
  subst hf
  have hfo:zV Tryz.prog (ZG v) i:=qA (ZG v,i) (gK _ _ (fG hi))
  have go:∀(fn:Func),Tryz.prog.funcs[ZG v]? = some fn->Qs v=fn.ntmps->rsD v=(dw (fn.body.getD .skip))[0]?.getD .skip->rO [Nw v] [0] 0 (dw (fn.body.getD .skip))=true->nN (bW (rsD v)) [Nw v]=[Nw v]->LpsOk Tryz.prog J i.ntmps [Nw v] i.body:=fun fn e1 e2 e3 e4 e5=>by
   refine nV hfo e1 ?_
   rw[e2]at h
   refine jP (c:=fn.body.getD .skip) [0] e4 (List.forall_mem_cons.2 ⟨?_,List.forall_mem_nil _⟩)
   rw[<-e3]
   exact iD e5 h
  rcases(show v=0\/v=1\/v=2\/v=3 by omega)with rfl | rfl | rfl | rfl
  ·exact go Tryz.f122 Tryz.func122 rfl rfl (by kernel_rfl) (by kernel_rfl)
  ·exact go Tryz.f116 Tryz.func116 rfl rfl (by kernel_rfl) (by kernel_rfl)
  ·exact go Tryz.f122 Tryz.func122 rfl rfl (by kernel_rfl) (by kernel_rfl)
  ·exact go Tryz.f116 Tryz.func116 rfl rfl (by kernel_rfl) (by kernel_rfl)
 ·exact LpsOk.nil _ _ _ _
theorem bY2 {J J':Rho} {f:Nat} {args:List X} {h h':bg} {r r':X} (hg:iG Tryz.prog J ⟨f,args,h,r,UW h⟩) (ha:X.denL J args=X.denL J' args) (hh:aV J h=aV J' h') (hr:r.den J=r'.den J'):iG Tryz.prog J' ⟨f,args,h',r',UW h'⟩:=by
 have e:∀(J:Rho) (h:bg),bZ J (UW h)=(aV J h).map fun q=>(q.1,some q.2):=fun J h=>by
  simp only[bZ,UW,aV,List.map_map];rfl
 refine⟨hg.1,?_⟩
 have q:=hg.2
 simp only[e]at q ⊢
 rw[ha,hh,hr]at q
 exact q
theorem ni {n:Nat} {J J':Rho} (ag:Agree n J J') (h:bg) (hb:(XS.mk [] h 0).bel n=true):aV J h=aV J' h:=congrArg St.h (XS.bel_den ag (XS.mk [] h 0) hb)
theorem aZ0 {J':Rho} {j:Nat} {l:List AV} (hi:∀k,J'.ci 625 k j=ai l[k]?) (hb:∀k,J'.cb 625 k j=fU l[k]?) (hs:∀k,J'.cs 625 k j=cellS l[k]?) :
  (RL.var 625 GI).row J' (j:Int)=[.sc (.int .i64 (ai l[0]?)),.sc (.bool (fU l[1]?)),.sc (.int .i64 (ai l[2]?)),.sc (.int .i64 (ai l[3]?)),.sc (.int .i64 (ai l[4]?)),.sc (.int .i64 (ai l[5]?)),.sc (.int .i64 (ai l[6]?)),.sc (.int .i64 (ai l[7]?)),.sc (.string (cellS l[8]?)),.sc (.string (cellS l[9]?)),.sc (.bool (fU l[10]?)),.sc (.int .i64 (ai l[11]?)),.sc (.int .i64 (ai l[12]?)),.sc (.int .i64 (ai l[13]?)),.sc (.int .i64 (ai l[14]?)),.sc (.int .i64 (ai l[15]?)),.sc (.int .i64 (ai l[16]?)),.sc (.int .i64 (ai l[17]?)),.sc (.int .i64 (ai l[18]?)),.sc (.int .i64 (ai l[19]?)),.sc (.int .i64 (ai l[20]?)),.sc (.int .i64 (ai l[21]?)),.sc (.int .i64 (ai l[22]?)),.sc (.int .i64 (ai l[23]?)),.sc (.int .i64 (ai l[24]?))]:=by
 simp only[<-hi,<-hb,<-hs]
 rfl
noncomputable def dS (J:Rho) (has:Bool):Rho:={ J with ci:=fun l k j=>if l=625 then ai ((mM has).row J (j:Int))[k]? else J.ci l k j,cb:=fun l k j=>if l=625 then fU ((mM has).row J (j:Int))[k]? else J.cb l k j,cs:=fun l k j=>if l=625 then cellS ((mM has).row J (j:Int))[k]? else J.cs l k j }
theorem vT (J:Rho) (has:Bool):Agree 625 J (dS J has):=⟨fun _ _=>rfl,fun _ _=>rfl,fun _ _=>rfl,fun _ _=>rfl,
 fun l hl=>by funext k j;show _=if l=625 then _ else _;rw[if_neg (by omega)],fun l hl=>by funext k j;show _=if l=625 then _ else _;rw[if_neg (by omega)],fun l hl=>by funext k j;show _=if l=625 then _ else _;rw[if_neg (by omega)],fun _ _=>rfl⟩
theorem ZW (J:Rho) (has:Bool) (j:Nat):(RL.var 625 GI).row (dS J has) (j:Int)=(mM has).row J (j:Int):=by
 rw[aZ0 (J':=dS J has) (j:=j) (l:=(mM has).row J (j:Int)) (fun _=>rfl) (fun _=>rfl) (fun _=>rfl)]
 by_cases hj:(j:Int)=todo0.den J
 ·have e:(mM has).row J j=mQ J (YC has):=by
   show(if(j:Int)=todo0.den J then mQ J (YC has)else(RL.var 472 GI).row J j)=_
   rw[if_pos hj]
  rw[e]
  cases has<;>rfl
 ·have e:(mM has).row J j=(RL.var 472 GI).row J j:=by
   show(if(j:Int)=todo0.den J then mQ J (YC has)else(RL.var 472 GI).row J j)=_
   rw[if_neg hj]
  rw[e]
  rfl
noncomputable def V7 (J:Rho):Rho:={ J with ci:=fun l k j=>if l=630 then ai (Nv J (j:Int))[k]? else J.ci l k j,cb:=fun l k j=>if l=630 then fU (Nv J (j:Int))[k]? else J.cb l k j,cs:=fun l k j=>if l=630 then cellS (Nv J (j:Int))[k]? else J.cs l k j }
theorem aA2 (J:Rho):Agree 630 J (V7 J):=⟨fun _ _=>rfl,fun _ _=>rfl,fun _ _=>rfl,fun _ _=>rfl,
 fun l hl=>by funext k j;show _=if l=630 then _ else _;rw[if_neg (by omega)],fun l hl=>by funext k j;show _=if l=630 then _ else _;rw[if_neg (by omega)],fun l hl=>by funext k j;show _=if l=630 then _ else _;rw[if_neg (by omega)],fun _ _=>rfl⟩
theorem ZV (J:Rho) (j:Nat):(RL.var 630 DK).row (V7 J) (j:Int)=Nv J j:=J5 (J:=J) (J':=V7 J) (j:=j) (x:=(j:Int)) (fun _=>rfl) (fun _=>rfl) (fun _=>rfl)
theorem bn6 (J:Rho) (has:Bool):aF (dS J has) [.rows 25 (.len 470) rq]=aF (dS J has) [.rows 25 (.len 470) (mM has)]:=by
 have ag:=vT J has
 show(aC (dS J has) (.len 470) rq).flatten=(aC (dS J has) (.len 470) (mM has)).flatten
 unfold aC
 congr 1
 refine List.map_congr_left fun j _ => ?_
 rw[show rq=RL.var 625 GI from rfl,ZW]
 exact RL.bel_row ag (mM has) _ (by cases has<;>kernel_rfl)
theorem ay9 (J:Rho) (has:Bool) (v:Nat) (hv:v<4):aV (dS J has) (MF rq v)=aV (dS J has) (MF (mM has) v):=by
 have e:=bn6 J has
 rcases(show v=0\/v=1\/v=2\/v=3 by omega)with rfl | rfl | rfl | rfl
 ·show [(_,_),(_,_),(_,aF (dS J has) [.rows 25 (.len 470) rq]),(_,_)]=[(_,_),(_,_),(_,aF (dS J has) [.rows 25 (.len 470) (mM has)]),(_,_)]
  rw[e]
 ·show [(_,_),(_,_),(_,aF (dS J has) [.rows 25 (.len 470) rq]),(_,_)]=[(_,_),(_,_),(_,aF (dS J has) [.rows 25 (.len 470) (mM has)]),(_,_)]
  rw[e]
 ·show [(_,_),(_,_),(_,aF (dS J has) [.rows 25 (.len 470) rq]),(_,_)]=[(_,_),(_,_),(_,aF (dS J has) [.rows 25 (.len 470) (mM has)]),(_,_)]
  rw[e]
 ·show [(_,_),(_,_),(_,aF (dS J has) [.rows 25 (.len 470) rq])]=[(_,_),(_,_),(_,aF (dS J has) [.rows 25 (.len 470) (mM has)])]
  rw[e]
theorem az0:([true,false].all fun has=>[0,1,2,3].all fun v=>(XS.mk [] (MF (mM has) v) 0).bel 625&&(XS.mk [] (MF rq v) 0).bel 630)=true:=by kernel_rfl
theorem aY8 (has:Bool) {v:Nat} (hv:v<4):(XS.mk [] (MF (mM has) v) 0).bel 625=true/\(XS.mk [] (MF rq v) 0).bel 630=true:=by
 have h:=List.all_eq_true.1 az0 has (by cases has<;>simp)
 have h:=List.all_eq_true.1 h v (by simp only[List.mem_cons,List.not_mem_nil,or_false];omega)
 simpa only[Bool.and_eq_true]using h
theorem aP6 {J:Rho} (has:Bool) (hT:TI J) (h43:J.i 443=1):∃J',Agree 625 J J'/\∀v,v<4->iG Tryz.prog J' ⟨ZG v,[.ptr (0,0) [] 0],MF (mM has) v,rsX,UW (MF (mM has) v)⟩:=by
 have a1:=vT J has
 have a2:=aA2 (dS J has)
 refine⟨V7 (dS J has),a1.trans (a2.le (by decide)),fun v hv => ?_⟩
 have hT1:=hT.agree (a1.le (by decide))
 have n1:=hT1.n1
 have n6:=hT1.n6
 obtain⟨Jf,af,hQ,hL⟩:=ay6 hv (J:=dS J has) h43 n1 n6
 obtain⟨y1,y2⟩:=bz5 hv
 have hTf:=hT1.agree (af.le (by decide))
 have hc:CfgOk Tryz.prog Jf (VQ v).c:=iW (List.forall_mem_nil _) (aY4 hv hL)
 have l4:Jf.len 470=(dS J has).len 470:=(af.len 470 (by decide)).symm
 have e43:Jf.i 443=1:=by rw[<-af.i 443 (by decide)];exact h43
 have hk1:Facts.ok Jf EE:=Facts.ok_cons (by show(Jf.i 443==1)=true;rw[e43];rfl) (fR (show(1:Int)<=(Jf.len 470:Int)by omega) (fL (show(Jf.len 470:Int)<=6 by omega) (Facts.ok_nil _)))
 have hk2:Facts.ok Jf [(.lt (.len 630) (.lit 1),false)]:=fR (show(1:Int)<=(Jf.len 630:Int)by rw[hQ.l];omega) (Facts.ok_nil _)
 have hk:Facts.ok Jf VP:=aY hk1 (aY hTf.tr hk2)
 have g:=aL0 hc (List.forall_mem_nil _) hk (by rw[bf4 y1];rfl) y2
 obtain⟨b1,b2⟩:=aY8 has hv
 refine bY2 g rfl ?_ ?_
 ·rw[<-ni af _ b2,ay9 J has v hv]
  exact ni (a2.le (by decide)) _ b1
 ·show AV.ro 22 (aC Jf (.len 630) (.var 630 DK)) false=AV.ro 22 (aC (V7 (dS J has)) (.len 470) (.var 630 DK)) false
  congr 1
  unfold aC
  have e1:((IE.len 630).den Jf).toNat=(dS J has).len 470:=by show((Jf.len 630:Nat):Int).toNat=_;rw[hQ.l];exact Int.toNat_natCast _
  have e2:((IE.len 470).den (V7 (dS J has))).toNat=(dS J has).len 470:=Int.toNat_natCast _
  rw[e1,e2]
  refine List.map_congr_left fun j hj => ?_
  rw[hQ.r j (List.mem_range.1 hj),ZV]
end Go.Proofs.YtpdfmnhgocpkcaaGreat
namespace Go.Proofs.YtpdfmnhgocpkcaaGreat
open Go Go.Proofs.Aw Go.Proofs.Xw
set_option maxRecDepth 100000
def en5 (i:IE):AL:=(List.range 6).foldr (fun k r => .i (.cl 625 (2+k) i) r) (.s (.cl 625 8 i) (.s (.cl 625 9 i) (.b (.cl 625 10 i) ((List.range 11).foldr (fun k r => .i (.cl 625 (11+k) i) r) .nil))))
def tuG (cu:Nat) (td:X) (rd:Int):bg:=[((0,0),vi 405 9++vi cu 9++[xi 1,fE (0,1) 1 (.len 470),fE (0,2) 25 (.len 470),td,xn rd,xn 0]),((0,1),kR),((0,2),[.rows 25 (.len 470) rq]),((0,3),oR)]
def tuT (i:X):ig:=[(11,i),(10,.sc (.i .i64 (.len 470))),(9,fE (0,2) 25 (.len 470)),(8,.top),(7,.top),(6,.top),(0,.ptr (0,0) [] 0)]
def tuS0:XS:=⟨tuT (xn 0),tuG 405 (Dy false) 1,8⟩
def tuS:XS:=⟨tuT (xi 700),tuG 640 (Dy false) 1,8⟩
def tuO:XS:=⟨tuT .top,tuG 640 (Dy false) 1,60⟩
noncomputable def Y5:Code:=(dw (Tryz.f120.body.getD .skip))[0]?.getD .skip
def has7:BE := .cl 625 1 (.var 700)
def wr7:BE := .eq (.uf 2 0 (en5 (.var 700))) (.lit 1)
def ki4:List Nat:=[640,641,642,643,644,645,646,647,648]
def tuC:List Cls:=[⟨tuS,[],[⟨0,[],[],(List.range 9).map (fun k=>(640+k,.op .max .i64 (.op .max .i64 (.lit 0) (.var (640+k))) (.uf 3 k (en5 (.var 700))))),[],[(has7,true)]⟩,⟨0,ki4,[],[],[],[(has7,false)]⟩]⟩]
def tuF:Facts:=[(.lt (.var 700) (.lit 0),false),(.lt (.var 700) (.len 470),true),(.lt (.len 470) p7,false),(.lt p7 (.lit 0),false)]++EE
def tuE:Facts:=[(.lt (.var 700) (.lit 0),false),(.lt (.var 700) (.len 470),false)]++EE
noncomputable def tuCf:Cfg2:=⟨bU [] (fun _=>[]),JM,[10119]⟩
noncomputable def aO7 (Φ:Facts):T (XE×XS):=(dG tuCf.c.ti (iK tuCf 12) ((tuCf.c.ft 120).elim [] (·.ms)) 2 [] 1000 Y5 Φ tuS).map (yC (tuS.t.map (·.1)))
noncomputable def tuN (Φ:Facts):Bool:=jV 2 630 700 [] (0,[]) 0 tuC tuO .normal Φ (aO7 Φ)
noncomputable def tuX (Φ:Facts):Bool:=jV 2 630 700 [] (0,[]) 0 [] tuO (.exit 0) Φ (aO7 Φ)
theorem bv4:(tuN ((has7,true)::(wr7,true)::tuF)&&(tuN ((has7,false)::tuF)&&tuX tuE))=true:=by kernel_rfl
end Go.Proofs.YtpdfmnhgocpkcaaGreat
