/- Parts of the proof, one behind the other. -/
import Derived.Test.YtpdfmnhgocpkcaaGreatTM29
import Derived.Test.YtpdfmnhgocpkcaaGreatTM14
import Derived.Test.YtpdfmnhgocpkcaaGreatTM8
import Derived.Test.YtpdfmnhgocpkcaaGreatTM3
namespace Go.Proofs.YtpdfmnhgocpkcaaGreat
open Go Go.Proofs.Aw Go.Proofs.Xw
set_option maxRecDepth 100000
def Dm (n:Nat):J:=(.eq bj (.lit n),true)::((List.range n).flatMap fun j=>(fK j,false)::(fL j,false)::((List.range j).flatMap fun k=>[(eS j k,false),(eS k j,false)]))
def VF (B:J):T X->Bool
 | .ret (.sc (.b e))=>sT (fu B e)
 | _=>false
def lH (m:Nm) (z n:Nat):X := .sl m z 0 n true
def Q_ (n:Nat):aL:=[((1,0),some (vi 405 9++vi 405 9++[xi 1,aY (1,1) 1 bj,aY (1,2) 25 bj,lH (1,3) 1 n,xn 1,xn 0])),((1,1),some [.rows 1 bj oo]),((1,2),some [.rows 25 bj zT]),((1,3),some ((List.range n).map fun(j:Nat)=>xn j))]
def zU:List X:=[xn 0,xl false]++List.replicate 6 (xn 0)++[.sc (.s (.lit ⟨#[]⟩)),.sc (.s (.lit ⟨#[]⟩)),xl false]++List.replicate 14 (xn 0)
def Ra (n:Nat):aL:=[((1,0),some ([xi 1,lH (1,1) 1 n,lH (1,2) 25 n,lH (1,3) 1 n,xn 1]++vi 405 9++[xl false,xn 0])),((1,1),some ((List.range n).map fun j => .sc (.s (ky j)))),((1,2),some ((List.range n).flatMap fun _=>zU)),((1,3),some ((List.range n).map fun(j:Nat)=>xn j))]
def G7:X := .tup [.ptr (1,0) [] 0,xn 0]
def z6:aL->aL->Bool
 | [],[]=>true
 | (m,some a)::r,(k,some b)::s=>cN m k&&(X.fh a b&&z6 r s)
 | _,_=>false
theorem R':∀{a b:aL},z6 a b=true->a=b
 | [],[],_=>rfl
 | (m,some a)::r,(k,some b)::s,h=>by
  simp only[z6,Bool.and_eq_true]at h
  rw[eu h.1,X.gO _ _ h.2.1,R' h.2.2]
 | [],_::_,h=>by simp[z6]at h
 | (_,some _)::_,[],h=>by cases h
 | (_,none)::_,[],h=>by cases h
 | (_,none)::_,(_,some _)::_,h=>by cases h
 | (_,none)::_,(_,none)::_,h=>by cases h
 | (_,some _)::_,(_,none)::_,h=>by cases h
def FQ (d:aL):T (X×aL)->Bool
 | .ret (r,e)=>X.beq r G7&&z6 e d
 | _=>false
theorem Vz {d:aL} {t:T (X×aL)} (h:FQ d t=true):t = .ret (G7,d):=by
 cases t with
 | ret p =>
  obtain⟨r,e⟩:=p
  simp only[FQ,Bool.and_eq_true]at h
  rw[X.beq_eq _ _ h.1,R' h.2]
 | br _ _ _=>cases h
 | cL _ _=>cases h
 | fail _=>cases h
noncomputable def qv (n:Nat):Bool:=VF (Dm n) (aN qf 87 [KX] (Dm n))
noncomputable def su (n:Nat):Bool:=FQ (Q_ n) (fC iE 51 kO [] ((.var 690,true)::(.var 691,true)::(.eq bj (.lit n),true)::dh))
noncomputable def sv (n:Nat):Bool:=FQ (Ra n) (fC iE 74 kO [] ((.var 690,true)::(Dm n++dh)))
theorem Uj:(qv 1&&(su 1&&sv 1))=true:=by kernel_rfl
theorem Uk:(qv 2&&(su 2&&sv 2))=true:=by kernel_rfl
theorem Ul:(qv 3&&(su 3&&sv 3))=true:=by kernel_rfl
theorem Um:(qv 4&&(su 4&&sv 4))=true:=by kernel_rfl
theorem Un:(qv 5&&(su 5&&sv 5))=true:=by kernel_rfl
theorem Uo:(qv 6&&(su 6&&sv 6))=true:=by kernel_rfl
end Go.Proofs.YtpdfmnhgocpkcaaGreat
namespace Go.Proofs.YtpdfmnhgocpkcaaGreat
open Go Go.Proofs.Aw Go.Proofs.Xw
set_option maxRecDepth 100000
theorem Zy {ρ:aa} {n:Int} {e:U} (h:n<e.I ρ) {B:J} (u:J.ok ρ B):J.ok ρ ((.lt (.lit n) e,true)::B):=xy (show(U.lit n).I ρ<e.I ρ from h) u
theorem asm {ρ:aa} {n:Int} {e:U} (h:e.I ρ<n) {B:J} (u:J.ok ρ B):J.ok ρ ((.lt e (.lit n),true)::B):=xy h u
theorem j0 {ρ:aa} {n:Int} {e:U} (h:e.I ρ<=n) {B:J} (u:J.ok ρ B):J.ok ρ ((.lt (.lit n) e,false)::B):=fF h u
theorem fR {ρ:aa} {n:Int} {e:U} (h:n<=e.I ρ) {B:J} (u:J.ok ρ B):J.ok ρ ((.lt e (.lit n),false)::B):=fF (show(U.lit n).I ρ<=e.I ρ from h) u
theorem EB {ρ:aa} {f:Nat} {p:List X} {B:J} {x:X} (u:J.ok ρ B) (h:aN qf f p B = .ret x):Cy f (X.af ρ p) (x.I ρ):=ef (c:=qf) (kW (List.forall_mem_nil _)) (List.forall_mem_nil _) u (by rw[h];rfl)
def VC:T X->T X->Bool
 | .ret (.sc (.b a)),.ret (.sc (.b b))=>a.beq b&&(List.range 9).all fun k=>nA false 400 [] [] (.or (.not a) (.not (.lt (.var (405+k)) (.lit 0))))
 | _,_=>false
theorem atN:VC (aN qf 64 [.agg (vi 405 9)] []) (aN qf 102 [.agg (vi 405 9)] [])=true:=by kernel_rfl
theorem ads (ρ:aa):bZ Tryz.prog ρ qf.c:=kW (List.forall_mem_nil _)
theorem atM (ρ:aa):∃b:Bool,Cy 64 (X.af ρ [.agg (vi 405 9)]) (.sc (.bool b))/\Cy 102 (X.af ρ [.agg (vi 405 9)]) (.sc (.bool b))/\(b=true->∀k:Nat,k<9->0<=ρ.i (405+k)):=by
 have h:=atN
 unfold VC at h
 split at h
 ·rename_i a b e1 e2
  rw[Bool.and_eq_true]at h
  have:=BE.beq_eq _ _ h.1
  subst this
  refine⟨a.I ρ,EB (J.bq ρ) e1,EB (J.bq ρ) e2,fun ha k u => ?_⟩
  have ht:=tN (ρ:=ρ) 400 [] [] _ (List.all_eq_true.1 h.2 k (List.mem_range.2 u)) (J.bq ρ)
  have ht:((!(a.I ρ)) || !(decide (ρ.i (405+k)<0)))=true:=ht
  rw[ha]at ht
  simpa using ht
 ·cases h
def DS (n:Nat) (ρ:aa):Prop:=∀j,j<n->(fK j).I ρ=false/\(fL j).I ρ=false/\∀k,k<j->(eS j k).I ρ=false
theorem Zf (ρ:aa) (j k:Nat):(eS j k).I ρ=(eS k j).I ρ:=by
 show(((ky j).I ρ).toList==((ky k).I ρ).toList)=(((ky k).I ρ).toList==((ky j).I ρ).toList)
 exact BEq.comm
theorem aam {n:Nat} {ρ:aa} (hn:bj.I ρ=n) (h:DS n ρ):J.ok ρ (Dm n):=by
 refine J.av (by show(bj.I ρ==(n:Int))=true;rw[hn];exact beq_self_eq_true _) fun p hp => ?_
 obtain⟨j,O,hp⟩:=List.mem_flatMap.1 hp
 obtain⟨A,E,h3⟩:=h j (List.mem_range.1 O)
 rcases List.mem_cons.1 hp with rfl | hp
 ·exact A
 ·rcases List.mem_cons.1 hp with rfl | hp
  ·exact E
  ·obtain⟨k,u,hp⟩:=List.mem_flatMap.1 hp
   have h4:=h3 k (List.mem_range.1 u)
   rcases List.mem_cons.1 hp with rfl | hp
   ·exact h4
   ·rcases List.mem_cons.1 hp with rfl | hp
    ·show(eS k j).I ρ=false
     rw[<-Zf];exact h4
    ·cases hp
theorem R5 {n j:Nat} {ρ:aa} (hn:bj.I ρ=n) (h6:n<=6) (O:j<n):J.ok ρ (JE j) :=
 Zy (by omega) (j0 (by omega) (J.bq ρ))
theorem ahg {n:Nat} {ρ:aa} (hn:bj.I ρ=n) (hb:n<=250):(1<=n/\n<=6/\DS n ρ/\Cy 87 (X.af ρ [KX]) (.sc (.bool true))) \/
  (Cy 87 (X.af ρ [KX]) (.sc (.bool false))/\∀F,az 600 ρ F->bZ Tryz.prog F iE.c->J.ok F dh->(BE.var 690).I F=true->∃B,J.ok F B/\(fC iE 74 kO [] B).aq F=some (kA,[])):=by
 by_cases h0:n=0
 ·right
  subst h0
  have hz:J.ok ρ Du:=asm (by omega) (fR (by omega) (J.bq ρ))
  refine⟨EB hz (p6 z87),fun F ah _ M R => ?_⟩
  have jv:J.ok F Du:=gR ah (by kernel_rfl) hz
  refine⟨_,J.av R (dY jv M),?_⟩
  have h:=aug
  unfold z74 at h
  split at h
  ·rename_i c x e
   rw[Bool.and_eq_true]at h
   rw[e]
   simp only[T.aq,w5 jv h.1,if_true]
   exact nN h.2
  ·exact nN h
 by_cases h6:6<n
 ·right
  obtain⟨ss,M,G⟩:∃ss:List ByteArray,ss.length=n/\aV ρ bj oo=fx ss:=by
   refine⟨(List.range n).map fun(j:Nat)=>ρ.cs 194 0 ((j:Int)+(U.cl 2 2 (.var 400)).I ρ).toNat,by simp,?_⟩
   unfold aV fx
   have e:(bj.I ρ).toNat=n:=by omega
   rw[e,List.map_map]
   rfl
  have e:X.af ρ [KX]=[.ro 1 (fx ss) false]:=by rw[<-G];rfl
  refine⟨by rw[e];exact aqB ss false (by omega) (by omega),fun F ah _ bX R => ?_⟩
  have Ar:bj.I F=n:=by rw[<-U.aT ah bj (by kernel_rfl)];exact hn
  exact⟨_,J.av R (Zy (by omega) (fR (by omega) bX)),nN acU⟩
 have h6:n<=6:=by omega
 by_cases Z:DS n ρ
 ·left
  refine⟨by omega,h6,Z,?_⟩
  have go:∀k,n=k->(qv k&&(su k&&sv k))=true->Cy 87 (X.af ρ [KX]) (.sc (.bool true)):=fun k u h=>by
   subst u
   rw[Bool.and_eq_true]at h
   have h:=h.1
   unfold qv VF at h
   split at h
   ·rename_i e G
    have R:=aam hn Z
    have q:=ef (ads ρ) (List.forall_mem_nil _) R (show(aN qf 87 [KX] (Dm n)).aq ρ=some _ by rw[G];rfl)
    simp only[X.I,Sc.I,w5 R h]at q
    exact q
   ·cases h
  rcases(show n=1\/n=2\/n=3\/n=4\/n=5\/n=6 by omega)with h | h | h | h | h | h
  ·exact go 1 h Uj
  ·exact go 2 h Uk
  ·exact go 3 h Ul
  ·exact go 4 h Um
  ·exact go 5 h Un
  ·exact go 6 h Uo
 ·right
  obtain⟨j,O,c,d,H,hd,hr,ht⟩:∃(j:Nat),j<n/\∃c d:BE,c.I ρ=true/\d.I ρ=true/\eF j c=true/\(eE j d=true/\d.ar 600=true):=by
   apply Classical.byContradiction
   intro iT
   apply Z
   intro j O
   obtain⟨bm,bl,gL⟩:=aiN (j:=j) (by omega)
   obtain⟨b1,b2,dt⟩:=aiG (j:=j) (by omega)
   have ar:∀k,k<6->(ky k).ar 600=true:=fun k u=>by
    rcases(show k=0\/k=1\/k=2\/k=3\/k=4\/k=5 by omega)with rfl | rfl | rfl | rfl | rfl | rfl<;>kernel_rfl
   refine⟨Bool.eq_false_iff.2 fun h=>iT ⟨j,O,_,_,h,h,bm,b1,?_⟩,Bool.eq_false_iff.2 fun h=>iT ⟨j,O,_,_,h,h,bl,b2,?_⟩,fun k u=>Bool.eq_false_iff.2 fun h=>iT ⟨j,O,_,_,h,(by rw[<-Zf];exact h),gL k u,dt k u,?_⟩⟩
   ·simp only[fK,BE.ar,U.ar,ar j (by omega),Bool.and_self]
   ·simp only[fL,BE.ar,U.ar,ar j (by omega),Bool.and_self]
   ·simp only[eS,BE.ar,ar j (by omega),ar k (by omega),Bool.and_self]
  refine⟨EB (J.av H (R5 hn h6 O)) (p6 hr),fun F ah _ M R => ?_⟩
  have Ar:bj.I F=n:=by rw[<-U.aT ah bj (by kernel_rfl)];exact hn
  exact⟨_,J.av (by rw[<-BE.aT ah d ht.2];exact hd) (J.av R (dY (R5 Ar h6 O) M)),nN ht.1⟩
end Go.Proofs.YtpdfmnhgocpkcaaGreat
namespace Go.Proofs.YtpdfmnhgocpkcaaGreat
open Go Go.Proofs.Aw Go.Proofs.Xw
set_option maxRecDepth 100000
theorem VR (ρ:aa) (j:Nat):(ky j).I ρ=ρ.cs 194 0 ((j:Int)+(U.cl 2 2 (.var 400)).I ρ).toNat:=by
 cases j with
 | zero =>
  show ρ.cs 194 0 ((U.cl 2 2 (.var 400)).I ρ).toNat=_
  rw[show((0:Nat):Int)+(U.cl 2 2 (.var 400)).I ρ=(U.cl 2 2 (.var 400)).I ρ by omega]
 | succ j=>rfl
theorem Lu {ao:Type} (f:Nat->ao):∀l:List Nat,(l.map fun j=>[f j]).flatten=l.map f
 | []=>rfl
 | a::l=>by simp only[List.map_cons,List.flatten_cons,Lu f l];rfl
theorem S2 (ρ:aa) (g:Nat->X) (l:List Nat):X.af ρ (l.map g)=l.map fun j=>(g j).I ρ:=by
 rw[X.l5,List.map_map];rfl
theorem S1 (ρ:aa) (g:Nat->List X):∀l:List Nat,X.af ρ (l.flatMap g)=(l.map fun j=>X.af ρ (g j)).flatten
 | []=>rfl
 | a::l=>by simp only[List.flatMap_cons,X.gq,List.map_cons,List.flatten_cons,S1 ρ g l]
theorem PB {ρ:aa} {n:Nat} (hn:bj.I ρ=n) (L:RL):aV ρ bj L=(List.range n).map fun(j:Nat)=>L.row ρ j:=by
 unfold aV
 rw[hn,Int.toNat_natCast]
theorem ahf {ρ:aa} {n:Nat} (hn:bj.I ρ=n) (hr:b6 ((List.range n).map fun j=>(.sc (.s (ky j)):X))=false):aA ρ ((List.range n).map fun j => .sc (.s (ky j)))=aA ρ [.rows 1 bj oo]:=by
 rw[cP hr,S2]
 show _=(aV ρ bj oo).flatten
 rw[PB hn,<-Lu]
 congr 1
 refine List.map_congr_left fun j _ => ?_
 show [AV.sc (.string ((ky j).I ρ))]=_
 rw[VR]
 rfl
theorem acA {ρ:aa} {n:Nat} (hn:bj.I ρ=n) (hr:b6 ((List.range n).flatMap fun _=>zU)=false):aA ρ ((List.range n).flatMap fun _=>zU)=aA ρ [.rows 25 bj zT]:=by
 rw[cP hr,S1]
 show _=(aV ρ bj zT).flatten
 rw[PB hn]
 rfl
theorem ZK {ρ:aa} {n:Nat} (hn:bj.I ρ=n) (O:∀j,ρ.ci 620 0 j=j) (hr:b6 ((List.range n).map fun(j:Nat)=>xn j)=false):aA ρ ((List.range n).map fun(j:Nat)=>xn j)=aA ρ [.rows 1 bj zm]:=by
 rw[cP hr,S2]
 show _=(aV ρ bj zm).flatten
 rw[PB hn,<-Lu]
 congr 1
 refine List.map_congr_left fun j _ => ?_
 show [AV.sc (.int .i64 (j:Int))]=(if(j:Int)=(U.lit 0).I ρ then ca ρ [ec (.lit 0)]else(RL.var 620 [.i .i64]).row ρ j)
 by_cases h0:(j:Int)=(U.lit 0).I ρ
 ·rw[if_pos h0]
  have:(j:Int)=0:=h0
  show _=[AV.sc (.int .i64 0)]
  rw[this]
 ·rw[if_neg h0]
  show _=[AV.sc (.int .i64 (ρ.ci 620 0 ((j:Int)).toNat))]
  rw[Int.toNat_natCast,O]
theorem If {ρ:aa} {n:Nat} (hn:bj.I ρ=n) (m:Nm) (z:Nat):(lH m z n).I ρ=(aY m z bj).I ρ:=by
 simp only[lH,aY,X.I,hn,U.I,Int.toNat_zero,Nat.zero_mul,Int.toNat_natCast]
def W0:List Nat:=[1,2,3,4,5,6]
theorem agT:(W0.all fun n => !b6 ((List.range n).map fun j=>(.sc (.s (ky j)):X))&&(!b6 ((List.range n).flatMap fun _=>zU) && !b6 ((List.range n).map fun(j:Nat)=>xn j)))=true:=by kernel_rfl
theorem VB {n:Nat} (A:1<=n) (h6:n<=6):b6 ((List.range n).map fun j=>(.sc (.s (ky j)):X))=false/\b6 ((List.range n).flatMap fun _=>zU)=false/\b6 ((List.range n).map fun(j:Nat)=>xn j)=false:=by
 have:=List.all_eq_true.1 agT n (by simp only[W0,List.mem_cons,List.not_mem_nil,or_false];omega)
 simpa only[Bool.and_eq_true,Bool.not_eq_true']using this
theorem adX {ρ:aa} {n:Nat} (hn:bj.I ρ=n) (A:1<=n) (h6:n<=6) (O:∀j,ρ.ci 620 0 j=j):bk ρ (Q_ n)=bk ρ (((1,0),some (vi 405 9++vi 405 9++[xi 1,aY (1,1) 1 bj,aY (1,2) 25 bj,aY (1,3) 1 bj,xn 1,xn 0]))::GX):=by
 obtain⟨r1,r2,r3⟩:=VB A h6
 have e:=ZK hn O r3
 have s:=If hn (1,3) 1
 have o:aA ρ (vi 405 9++vi 405 9++[xi 1,aY (1,1) 1 bj,aY (1,2) 25 bj,lH (1,3) 1 n,xn 1,xn 0])=aA ρ (vi 405 9++vi 405 9++[xi 1,aY (1,1) 1 bj,aY (1,2) 25 bj,aY (1,3) 1 bj,xn 1,xn 0]):=by
  rw[cP rfl,cP rfl,X.gq (l:=vi 405 9++vi 405 9),X.gq (l:=vi 405 9++vi 405 9)]
  congr 1
  show [_,_,_,(lH (1,3) 1 n).I ρ,_,_]=[_,_,_,(aY (1,3) 1 bj).I ρ,_,_]
  rw[s]
 show [((1,0),some (aA ρ _)),((1,1),some (aA ρ _)),((1,2),some (aA ρ _)),((1,3),some (aA ρ _))]=[((1,0),some (aA ρ _)),((1,1),some (aA ρ _)),((1,2),some (aA ρ _)),((1,3),some (aA ρ _))]
 rw[o,e]
theorem adY {ρ:aa} {n:Nat} (hn:bj.I ρ=n) (A:1<=n) (h6:n<=6) (O:∀j,ρ.ci 620 0 j=j):bk ρ (Ra n)=bk ρ (((1,0),some ([xi 1,aY (1,1) 1 bj,aY (1,2) 25 bj,aY (1,3) 1 bj,xn 1]++vi 405 9++[xl false,xn 0]))::GX):=by
 obtain⟨r1,r2,r3⟩:=VB A h6
 have e:=ZK hn O r3
 have ek:=ahf hn r1
 have ib:=acA hn r2
 have o:aA ρ ([xi 1,lH (1,1) 1 n,lH (1,2) 25 n,lH (1,3) 1 n,xn 1]++vi 405 9++[xl false,xn 0])=aA ρ ([xi 1,aY (1,1) 1 bj,aY (1,2) 25 bj,aY (1,3) 1 bj,xn 1]++vi 405 9++[xl false,xn 0]):=by
  rw[cP rfl,cP rfl,List.append_assoc,List.append_assoc,X.gq (m:=vi 405 9++[xl false,xn 0]),X.gq (m:=vi 405 9++[xl false,xn 0])]
  congr 1
  show [_,(lH (1,1) 1 n).I ρ,(lH (1,2) 25 n).I ρ,(lH (1,3) 1 n).I ρ,_]=[_,(aY (1,1) 1 bj).I ρ,(aY (1,2) 25 bj).I ρ,(aY (1,3) 1 bj).I ρ,_]
  rw[If hn,If hn,If hn]
 show [((1,0),some (aA ρ _)),((1,1),some (aA ρ _)),((1,2),some (aA ρ _)),((1,3),some (aA ρ _))]=[((1,0),some (aA ρ _)),((1,1),some (aA ρ _)),((1,2),some (aA ρ _)),((1,3),some (aA ρ _))]
 rw[o,ek,ib,e]
theorem Fc {ρ:aa} {f:Nat} {args args':List X} {cp:au} {r:X} {d:aL} (h:c' Tryz.prog ρ ⟨f,args,cp,r,d⟩) (ha:args'.map X.Dk=args):c' Tryz.prog ρ ⟨f,args',cp,r,d⟩ :=
 ⟨h.1,fun C vs W hL hn=>h.2 C vs W (by have:=QO C args' vs hL;rw[ha]at this;exact this) hn⟩
theorem afl {ρ:aa} {f:Nat} {args:List X} {cp:au} {r r':X} {d:aL} (h:c' Tryz.prog ρ ⟨f,args,cp,r,d⟩) (hr:∀C Y,aj C (r.I ρ) Y->aj C (r'.I ρ) Y):c' Tryz.prog ρ ⟨f,args,cp,r',d⟩ :=
 ⟨h.1,fun C vs W hL hn=>(h.2 C vs W hL hn).mono fun e' w' hq=>by
  obtain⟨Y,C',h3,h4,hp⟩:=hq
  exact⟨Y,C',h3,h4,{ hp with val:=hr _ _ hp.val }⟩⟩
theorem Uq {ρ:aa} {f:Nat} {args:List X} {cp:au} {r:X} {d fE:aL} (h:c' Tryz.prog ρ ⟨f,args,cp,r,d⟩) (hd:bk ρ d=bk ρ fE):c' Tryz.prog ρ ⟨f,args,cp,r,fE⟩ :=
 ⟨h.1,by have:=h.2;rw[show bk ρ (⟨f,args,cp,r,d⟩:GK).d=bk ρ fE from hd]at this;exact this⟩
theorem adt {ρ:aa} (h64:Cy 64 (X.af ρ [.agg (vi 405 9)]) (.sc (.bool (ρ.b 690)))) (afr:Cy 102 (X.af ρ [.agg (vi 405 9)]) (.sc (.bool (ρ.b 690)))) (qr:Cy 87 (X.af ρ [KX]) (.sc (.bool (ρ.b 691)))):bZ Tryz.prog ρ iE.c :=
 r5 (List.forall_mem_cons.2 ⟨h64,List.forall_mem_cons.2 ⟨afr,List.forall_mem_cons.2 ⟨qr,List.forall_mem_nil _⟩⟩⟩) (fun _ _ _=>a1.nil _ _ _ _) (List.forall_mem_nil _) J_ (List.forall_mem_nil _)
theorem aja (ρ:aa) (M:J.ok ρ dh) (h0:0<=bj.I ρ) (auo:bj.I ρ<=250):∃F,az 600 ρ F/\F.len 610=0/\((J.ok F wF/\ud F/\∀k∈ei false++ei true,c' Tryz.prog F k)\/(F.len 621=0/\∀k∈dS false++dS true,c' Tryz.prog F k)):=by
 obtain⟨n,hn⟩:∃n:Nat,bj.I ρ=n:=⟨(bj.I ρ).toNat,by omega⟩
 obtain⟨ex,v64,v102,vcu⟩:=atM ρ
 have mk:∀(b1:Bool) (m:Nat),Cy 87 (X.af ρ [KX]) (.sc (.bool b1))->∃F,az 600 ρ F/\F.len 610=0/\F.len 621=m/\(∀j,F.ci 620 0 j=j)/\F.b 690=ex/\F.b 691=b1/\bZ Tryz.prog F iE.c:=fun b1 m qr=>by
  let F:aa:={ ρ with b:=fun k=>if k=690 then ex else if k=691 then b1 else ρ.b k,len:=fun k=>if k=621 then m else if k=610 then 0 else ρ.len k,ci:=fun l k j=>if l=620 then(j:Int)else ρ.ci l k j }
  have ah:az 600 ρ F:=⟨fun _ _=>rfl,fun k u=>by show ρ.b k=if k=690 then ex else if k=691 then b1 else ρ.b k;rw[if_neg (by omega),if_neg (by omega)],fun _ _=>rfl,
   fun k u=>by show ρ.len k=if k=621 then m else if k=610 then 0 else ρ.len k;rw[if_neg (by omega),if_neg (by omega)],fun l M=>by funext k j;show ρ.ci l k j=if l=620 then(j:Int)else ρ.ci l k j;rw[if_neg (by omega)],fun _ _=>rfl,fun _ _=>rfl,fun _ _=>rfl⟩
  have e1:X.af ρ [.agg (vi 405 9)]=X.af F [.agg (vi 405 9)]:=X.fZ ah _ (by kernel_rfl)
  have e2:X.af ρ [KX]=X.af F [KX]:=X.fZ ah _ (by kernel_rfl)
  refine⟨F,ah,rfl,rfl,fun j=>rfl,rfl,rfl,adt ?_ ?_ ?_⟩
  ·rw[<-e1];exact v64
  ·rw[<-e1];exact v102
  ·rw[<-e2];exact qr
 have no:∀F,az 600 ρ F->bZ Tryz.prog F iE.c->∀B bS,J.ok F B->(fC iE 51 kO [] B).aq F=some (kA,[])->J.ok F bS->(fC iE 74 kO [] bS).aq F=some (kA,[])->∀k∈dS false++dS true,c' Tryz.prog F k:=fun F _ H B bS A E h3 h4=>by
  have g1:=uq H (List.forall_mem_nil _) A E
  have g2:=uq H (List.forall_mem_nil _) h3 h4
  have g1:c' Tryz.prog F ⟨51,kO,[],.tup [.top,xn 1],[]⟩:=afl g1 fun C Y hu=>by
   obtain⟨us,rfl,hu⟩:=hu
   refine⟨us,rfl,?_⟩
   obtain⟨v,vs,e,_,h5⟩:=hu
   exact⟨v,vs,e,trivial,h5⟩
  exact List.forall_mem_cons.2 ⟨g1,List.forall_mem_cons.2 ⟨g2,List.forall_mem_cons.2 ⟨Fc g1 rfl,List.forall_mem_cons.2 ⟨Fc g2 rfl,List.forall_mem_nil _⟩⟩⟩⟩
 rcases ahg hn (by omega)with⟨A,h6,u,qr⟩ | ⟨qr,h74⟩
 ·cases ld:ex with
  | false =>
   obtain⟨F,ah,q1,q2,q3,q4,q5,H⟩:=mk true 0 qr
   have bX:=gR ah (by kernel_rfl) M
   have R:J.ok F ((.var 690,false)::dh):=J.av (show F.b 690=false by rw[q4,ld]) bX
   exact⟨F,ah,q1,.inr ⟨q2,no F ah H _ _ R (nN aak) R (nN aal)⟩⟩
  | true =>
   obtain⟨F,ah,q1,q2,q3,q4,q5,H⟩:=mk true n qr
   have bX:=gR ah (by kernel_rfl) M
   have u7:bj.I F=n:=by rw[<-U.aT ah bj (by kernel_rfl)];exact hn
   have ar:∀k,k<6->(ky k).ar 600=true:=fun k u=>by
    rcases(show k=0\/k=1\/k=2\/k=3\/k=4\/k=5 by omega)with rfl | rfl | rfl | rfl | rfl | rfl<;>kernel_rfl
   have aM:DS n F:=fun j O=>by
    obtain⟨bm,bl,gL⟩:=u j O
    refine⟨?_,?_,fun k hkj => ?_⟩
    ·rw[<-BE.aT ah (fK j) (by simp only[fK,BE.ar,U.ar,ar j (by omega),Bool.and_self])];exact bm
    ·rw[<-BE.aT ah (fL j) (by simp only[fL,BE.ar,U.ar,ar j (by omega),Bool.and_self])];exact bl
    ·rw[<-BE.aT ah (eS j k) (by simp only[eS,BE.ar,ar j (by omega),ar k (by omega),Bool.and_self])];exact gL k hkj
   have e690:(BE.var 690).I F=true:=by show F.b 690=true;rw[q4,ld]
   have e691:(BE.var 691).I F=true:=q5
   have gs:(qv n&&(su n&&sv n))=true:=by
    rcases(show n=1\/n=2\/n=3\/n=4\/n=5\/n=6 by omega)with h | h | h | h | h | h<;>subst h
    ·exact Uj
    ·exact Uk
    ·exact Ul
    ·exact Um
    ·exact Un
    ·exact Uo
   simp only[Bool.and_eq_true]at gs
   have R:=aam u7 aM
   have i3:(BE.eq bj (.lit n)).I F=true:=by show(bj.I F==(n:Int))=true;rw[u7];exact beq_self_eq_true _
   have g1:=uq H (List.forall_mem_nil _) (J.av e690 (J.av e691 (J.av i3 bX))) (show(fC iE 51 kO [] _).aq F=some (G7,Q_ n)by rw[Vz gs.2.1];rfl)
   have g2:=uq H (List.forall_mem_nil _) (J.av e690 (dY R bX)) (show(fC iE 74 kO [] _).aq F=some (G7,Ra n)by rw[Vz gs.2.2];rfl)
   have g1:=Uq g1 (adX u7 A h6 q3)
   have g2:=Uq g2 (adY u7 A h6 q3)
   have size:∀j,j<n->1<=(F.cs 194 0 ((j:Int)+(U.cl 2 2 (.var 400)).I F).toNat).size/\(F.cs 194 0 ((j:Int)+(U.cl 2 2 (.var 400)).I F).toNat).size<=16:=fun j O=>by
    obtain⟨bm,bl,_⟩:=aM j O
    have bm:¬(((ky j).I F).size:Int)<1:=of_decide_eq_false bm
    have bl:¬(16:Int)<(((ky j).I F).size:Int):=of_decide_eq_false bl
    rw[VR]at bm bl
    omega
   refine⟨F,ah,q1,.inl ⟨?_,⟨by omega,fun j O=>size j (by omega),fun j O=>q3 j,fun k u=>by rw[<-ah.i (405+k) (by omega)];exact vcu ld k u⟩,List.forall_mem_cons.2 ⟨g1,List.forall_mem_cons.2 ⟨g2,List.forall_mem_cons.2 ⟨Fc g1 rfl,List.forall_mem_cons.2 ⟨Fc g2 rfl,List.forall_mem_nil _⟩⟩⟩⟩⟩⟩
   have s0:=(size 0 (by omega)).2
   refine j0 (by omega) (fR (by omega) (j0 ?_ (J.av ?_ (fR (show(1:Int)<=(F.len 621:Int)by omega) (j0 (show(F.len 621:Int)<=6 by omega) (J.bq _))))))
   ·show((F.cs 194 0 ((U.cl 2 2 (.var 400)).I F).toNat).size:Int)<=16
    rw[show((0:Nat):Int)+(U.cl 2 2 (.var 400)).I F=(U.cl 2 2 (.var 400)).I F by omega]at s0
    omega
   ·show(bj.I F==(F.len 621:Int))=true
    rw[u7,q2];exact beq_self_eq_true _
 ·cases ld:ex with
  | false =>
   obtain⟨F,ah,q1,q2,q3,q4,q5,H⟩:=mk false 0 qr
   have bX:=gR ah (by kernel_rfl) M
   have R:J.ok F ((.var 690,false)::dh):=J.av (show F.b 690=false by rw[q4,ld]) bX
   exact⟨F,ah,q1,.inr ⟨q2,no F ah H _ _ R (nN aak) R (nN aal)⟩⟩
  | true =>
   obtain⟨F,ah,q1,q2,q3,q4,q5,H⟩:=mk false 0 qr
   have bX:=gR ah (by kernel_rfl) M
   have e690:(BE.var 690).I F=true:=by show F.b 690=true;rw[q4,ld]
   obtain⟨bS,g3,g4⟩:=h74 F ah H bX e690
   exact⟨F,ah,q1,.inr ⟨q2,no F ah H _ _ (J.av e690 (J.av (show(BE.var 691).I F=false from q5) bX)) (nN apt) g3 g4⟩⟩
end Go.Proofs.YtpdfmnhgocpkcaaGreat
namespace Go.Proofs.YtpdfmnhgocpkcaaGreat
open Go Go.Proofs.Aw Go.Proofs.Xw
set_option maxRecDepth 100000
def zV:X := .rl 25 (.len 470) (.var 625 gh) false
def rsC:Nat->List X
 | 0=>vi 405 9++vi 500 9++[xi 1,F4,zV,Qr,xn 2,xn 0]
 | 1=>[xi 1,F4,zV,Qr,xn 2]++vi 500 9++[xl true,xn 0]
 | 2=>vi 405 9++vi 600 9++[xi 1,F4,zV,Qr,xn 1,xn 0]
 | _=>[xi 1,F4,zV,.k (.slice none 0 0),xn 1]++vi 600 9++[xl true,xn 0]
def CK (v:Nat):Bool:=Nat.beq v 0||Nat.beq v 2
def oK (v:Nat):Nat:=if CK v=true then 122 else 116
def CJ (v:Nat):Nat:=if CK v=true then 20 else 5
def Ys (v:Nat):X := .ip (rsC v) [] 0
def HX (v:Nat) (i o:X):ba:=if CK v=true then [(21,i),(20,.sc (.i .i64 (.len 470))),(19,zV),(3,o),(18,.top),(17,.top),(16,.top),(15,.top),(14,.top),(13,.top),(12,.top),(11,.top),(10,.top),(9,.top),(8,.top),(7,.top),(6,.top),(2,.top),(0,Ys v)]else [(4,i),(3,o),(2,.top),(0,Ys v)]
def pA:X := .k (.slice none 0 0)
def Yt (v:Nat):X := .slv (CJ v,0) 22 (.lit 0) (.len 630) true
def Yr (v:Nat):au:=[((CJ v,0),[.rows 22 (.len 630) (.var 630 fc)])]
def HV (v:Nat):XS:=⟨HX v (xn 0) pA,[],CJ v⟩
def PD (v:Nat):XS:=⟨HX v (xi 700) pA,[],CJ v⟩
def HU (v:Nat):XS:=⟨HX v (xi 700) (Yt v),Yr v,CJ v+1⟩
def PF (v:Nat):XS:=⟨HX v (xi 700) (Yt v),Yr v,90⟩
noncomputable def pR (v:Nat):Code:=(dP ((if CK v=true then Tryz.f122 else Tryz.f116).body.getD .skip))[0]?.getD .skip
def wi (i:U):List Sc:=[.s (.cl 470 0 i),.b (.cl 625 1 i)]++(List.range 6).map (fun k=>ec (.cl 625 (2+k) i))++[.s (.cl 625 8 i),.s (.cl 625 9 i),.b (.cl 625 10 i)]++(List.range 11).map fun k=>ec (.cl 625 (11+k) i)
def fP:J:=[(.eq (.var 443) (.lit 1),true),(.lt (.len 470) (.lit 1),false),(.lt (.lit 6) (.len 470),false)]
def Yq (v:Nat):List dm:=[⟨HU v,[(.lt (.len 630) (.lit 1),false)],[⟨0,[],[],[],[(630,.lit 1,.one (wi (.var 700)))],[]⟩,⟨1,[],[],[],[(630,.op .cW .i64 (.len 630) (.lit 1),.app (.len 630) (.var 630 fc) (.one (wi (.var 700))))],[]⟩]⟩]
def p7:U := .op .add .i64 (.var 700) (.lit 1)
def tw:J:=[(.eq (.var 700) (.lit 0),true),(.lt (.var 700) (.len 470),true)]++fP
def tz:J:=[(.lt (.var 700) (.lit 0),false),(.lt (.var 700) (.len 470),true),(.lt (.len 470) p7,false),(.lt p7 (.lit 0),false),(.lt (.len 630) (.lit 1),false),(.lt (.lit 6) (.len 630),false)]++fP
def tA:J:=[(.lt (.var 700) (.lit 0),false),(.lt (.var 700) (.len 470),false),(.lt (.len 630) (.lit 1),false)]++fP
noncomputable def CI:cj:=⟨bd [] (fun _=>[]),[],[10119]⟩
noncomputable def Yv (v:Nat) (S:XS) (B:J):T (XE×XS):=(ck CI.c.ti (eC CI 12) ((CI.c.hD (oK v)).elim [] (·.ms)) 2 [] 1000 (pR v) B S).map (dV (S.t.map (·.1)))
end Go.Proofs.YtpdfmnhgocpkcaaGreat
namespace Go.Proofs.YtpdfmnhgocpkcaaGreat
open Go Go.Proofs.Aw Go.Proofs.Xw
set_option maxRecDepth 100000
noncomputable def lE (v i:Nat) (B:J):Bool:=dC 2 630 700 [] (0,[]) i (Yq v) (PF v) .normal B (Yv v (if Nat.beq i 0=true then PD v else HU v) B)
noncomputable def wh (v:Nat) (B:J):Bool:=dC 2 630 700 [] (0,[]) 1 [] (PF v) (.exit 0) B (Yv v (HU v) B)
theorem rn0:(lE 0 0 tw&&(lE 0 1 tz&&wh 0 tA))=true:=by kernel_rfl
theorem rn1:(lE 1 0 tw&&(lE 1 1 tz&&wh 1 tA))=true:=by kernel_rfl
theorem rn2:(lE 2 0 tw&&(lE 2 1 tz&&wh 2 tA))=true:=by kernel_rfl
theorem rn3:(lE 3 0 tw&&(lE 3 1 tz&&wh 3 tA))=true:=by kernel_rfl
theorem aqC {v:Nat} (h:v<4):lE v 0 tw=true/\lE v 1 tz=true/\wh v tA=true:=by
 have go:∀v,(lE v 0 tw&&(lE v 1 tz&&wh v tA))=true->lE v 0 tw=true/\lE v 1 tz=true/\wh v tA=true:=fun v h=>by
  simpa only[Bool.and_eq_true]using h
 rcases(show v=0\/v=1\/v=2\/v=3 by omega)with rfl | rfl | rfl | rfl
 ·exact go 0 rn0
 ·exact go 1 rn1
 ·exact go 2 rn2
 ·exact go 3 rn3
noncomputable def jd (ρ:aa) (x:Int):List AV:=ca { ρ with i:=fun _=>x } (wi (.var 0))
theorem Yw {ρ F:aa} (ah:az 630 ρ F) (x:Int):jd ρ x=jd F x:=by
 unfold jd ca wi
 simp only[List.map_append,List.map_cons,List.map_nil,List.map_map,Function.comp_def,Sc.I,ec,U.I,BE.I,TE.I,ah.ci 625 (by decide),ah.cb 625 (by decide),ah.cs 625 (by decide),ah.cs 470 (by decide)]
theorem X' {F:aa} {j:Nat} {l:List AV} (hi:∀k,F.ci 630 k j=aH l[k]?) (hb:∀k,F.cb 630 k j=dK l[k]?) (hs:∀k,F.cs 630 k j=cellS l[k]?) :
  (RL.var 630 fc).row F (j:Int)=[.sc (.string (cellS l[0]?)),.sc (.bool (dK l[1]?)),.sc (.int .i64 (aH l[2]?)),.sc (.int .i64 (aH l[3]?)),.sc (.int .i64 (aH l[4]?)),.sc (.int .i64 (aH l[5]?)),.sc (.int .i64 (aH l[6]?)),.sc (.int .i64 (aH l[7]?)),.sc (.string (cellS l[8]?)),.sc (.string (cellS l[9]?)),.sc (.bool (dK l[10]?)),.sc (.int .i64 (aH l[11]?)),.sc (.int .i64 (aH l[12]?)),.sc (.int .i64 (aH l[13]?)),.sc (.int .i64 (aH l[14]?)),.sc (.int .i64 (aH l[15]?)),.sc (.int .i64 (aH l[16]?)),.sc (.int .i64 (aH l[17]?)),.sc (.int .i64 (aH l[18]?)),.sc (.int .i64 (aH l[19]?)),.sc (.int .i64 (aH l[20]?)),.sc (.int .i64 (aH l[21]?))]:=by
 simp only[<-hi,<-hb,<-hs]
 rfl
theorem Pw {ρ F:aa} {x:Int} {j:Nat} (hi:∀k,F.ci 630 k j=aH (jd ρ x)[k]?) (hb:∀k,F.cb 630 k j=dK (jd ρ x)[k]?) (hs:∀k,F.cs 630 k j=cellS (jd ρ x)[k]?):(RL.var 630 fc).row F (j:Int)=jd ρ x:=by
 rw[X' hi hb hs];rfl
theorem aqI {ρ F:aa} {j:Nat} (hi:∀k,F.ci 630 k j=aH ((RL.var 630 fc).row ρ (j:Int))[k]?) (hb:∀k,F.cb 630 k j=dK ((RL.var 630 fc).row ρ (j:Int))[k]?) (hs:∀k,F.cs 630 k j=cellS ((RL.var 630 fc).row ρ (j:Int))[k]?):(RL.var 630 fc).row F (j:Int)=(RL.var 630 fc).row ρ (j:Int):=by
 rw[X' hi hb hs];rfl
structure RJ (al ρ:aa) (i:Nat):Prop where
 ah:az 630 al ρ
 z:i=0->ρ.i 700=0
 b:i≠0->i=1/\∃m:Nat,1<=m/\m<=al.len 470/\ρ.i 700=m/\ρ.len 630=m/\∀j,j<m->(RL.var 630 fc).row ρ (j:Int)=jd al j
structure RK (al ρ:aa):Prop where
 l:ρ.len 630=al.len 470
 r:∀j,j<al.len 470->(RL.var 630 fc).row ρ (j:Int)=jd al j
noncomputable def wg (v:Nat):Nat:=if CK v=true then Tryz.f122.ntmps else Tryz.f116.ntmps
noncomputable def tB (v:Nat):bf:=⟨(du (pR v)).getD 0,2,630,HV v,gj,[],.ret (.exit 0,PF v)⟩
theorem PG {v:Nat} (h:v<4):da (wg v) (pR v)=true:=by
 rcases(show v=0\/v=1\/v=2\/v=3 by omega)with rfl | rfl | rfl | rfl<;>kernel_rfl
theorem aqY {v:Nat} (h:v<4):(HV v).ar 630=true:=by
 rcases(show v=0\/v=1\/v=2\/v=3 by omega)with rfl | rfl | rfl | rfl<;>kernel_rfl
def Yu:Bind:=⟨[(700,.lit 0)],[],[],[]⟩
theorem aqZ {v:Nat} (h:v<4):ff 2 630 Yu [] (PD v) (HV v)=true:=by
 rcases(show v=0\/v=1\/v=2\/v=3 by omega)with rfl | rfl | rfl | rfl<;>kernel_rfl
def HW (v i:Nat):XS:=if i=0 then PD v else HU v
theorem aq0 {v:Nat} (R:v<4) {ρ:aa} (dq:ρ.i 443=1) (A:1<=ρ.len 470) (h6:ρ.len 470<=6):∃am,az 630 ρ am/\RK ρ am/\bW Tryz.prog am (wg v) (pR v) (tB v):=by
 have H:∀F,bZ Tryz.prog F CI.c:=fun F=>kW (List.forall_mem_nil _)
 obtain⟨r0,r1,r2⟩:=aqC R
 refine ou (P:=Tryz.prog) (N:=wg v) (body:=pR v) (k0:=2) (n:=630) (S0:=HV v) (ρ:=ρ) (aqY R) (HW v) (tB v) ⟨rfl,rfl,rfl⟩ (fun i F=>RJ ρ F i) (RK ρ) (fun F=>ρ.len 470-(F.i 700).toNat) (fun i F hR => ?_) ⟨0,Yu.ap ρ,Bind.bt (by kernel_rfl) ρ,⟨Bind.bt (by kernel_rfl) ρ,fun _=>rfl,fun h=>absurd rfl h⟩,fun ac _ bI=>jF bI (aqZ R) ρ⟩
 have ah:=hR.ah
 have l4:F.len 470=ρ.len 470:=(ah.len 470 (by decide)).symm
 have aP:=eU (c:=CI) (H F) (List.forall_mem_nil _) 12
 have j_:J.ok F fP:=J.av (by show(F.i 443==1)=true;rw[<-ah.i 443 (by decide),dq];rfl) (fR (show(1:Int)<=(F.len 470:Int)by omega) (j0 (show(F.len 470:Int)<=6 by omega) (J.bq _)))
 have p7d:∀m:Nat,F.i 700=m->m<=6->p7.I F=m+1:=fun m hm h=>by
  refine(show p7.I F=IntKind.i64.wrap (F.i 700+1)from rfl).trans ?_
  rw[hm];exact cc _ (by omega) (by omega)
 have is:∀(m:Nat),F.i 700=m->m<ρ.len 470->(i=0->m=0)->(i≠0->F.len 630=m/\∀j,j<m->(RL.var 630 fc).row F (j:Int)=jd ρ j)->(∃(j:Nat) (C:dm) (ax:aa),(Yq v)[j]? = some C/\ea Tryz.prog (wg v) (pR v) 2 (HW v i) C.S F ax/\J.ok ax C.bS/\ax.i 700=IntKind.i64.wrap (F.i 700+1)/\az 630 F ax/\(dX 0 [] F->dX 0 [] ax)/\(C.di=[]\/∃a∈C.di,a.fr=i/\gI a F ax)) ->
   ∃i' ax,ea Tryz.prog (wg v) (pR v) 2 (HW v i) (HW v i') F ax/\RJ ρ ax i'/\ρ.len 470-(ax.i 700).toNat<ρ.len 470-(F.i 700).toNat/\az 630 F ax:=fun m hm aQ hz hb ⟨j,C,ax,A,E,_,h4,h5,_,h7⟩=>by
  have e4:ax.i 700=m+1:=by rw[h4,hm];exact cc _ (by omega) (by omega)
  match j,A with
  | 0,A =>
   cases A
   refine⟨1,ax,E,⟨ah.trans h5,fun h=>by omega,fun _=>⟨rfl,m+1,by omega,by omega,by omega,?_,fun j O => ?_⟩⟩,by omega,h5⟩
   all_goals
    simp only[List.cons_ne_nil,false_or,List.mem_cons,List.not_mem_nil,or_false]at h7
    obtain⟨a,ha,d3,a2⟩:=h7
   ·rcases ha with rfl | rfl
    ·have h0:0=i:=d3
     have:=(a2.2.2.2 _ List.mem_cons_self).1
     rw[this,hz h0.symm];rfl
    ·have h0:1=i:=d3
     have:=(a2.2.2.2 _ List.mem_cons_self).1
     rw[this]
     show(((F.len 630:Nat):Int)+1).toNat=m+1
     rw[(hb (by omega)).1];omega
   ·rcases ha with rfl | rfl
    ·have h0:0=i:=d3
     have md:=hz h0.symm
     obtain rfl:j=0:=by omega
     obtain⟨_,ci,cb,cs⟩:=a2.2.2.2 _ List.mem_cons_self
     have e:(RL.one (wi (.var 700))).row F ((0:Nat):Int)=jd F (F.i 700):=rfl
     rw[Yw ah,show((0:Nat):Int)=F.i 700 by rw[hm,md]]
     rw[show F.i 700=((0:Nat):Int)by rw[hm,md]]
     refine Pw (fun k => ?_) (fun k => ?_) (fun k => ?_)
     ·rw[ci k 0,e,hm,md]
     ·rw[cb k 0,e,hm,md]
     ·rw[cs k 0,e,hm,md]
    ·have h0:1=i:=d3
     obtain⟨M,hr⟩:=hb (by omega)
     obtain⟨_,ci,cb,cs⟩:=a2.2.2.2 _ List.mem_cons_self
     by_cases Fx:j<m
     ·have e:(RL.app (.len 630) (.var 630 fc) (.one (wi (.var 700)))).row F ((j:Nat):Int)=(RL.var 630 fc).row F (j:Int):=by
       show(if(j:Int)<(F.len 630:Int)then(RL.var 630 fc).row F (j:Int)else _)=_
       rw[if_pos (by omega)]
      rw[<-hr j Fx]
      refine aqI (fun k => ?_) (fun k => ?_) (fun k => ?_)
      ·rw[ci k j,e]
      ·rw[cb k j,e]
      ·rw[cs k j,e]
     ·obtain rfl:j=m:=by omega
      have e:(RL.app (.len 630) (.var 630 fc) (.one (wi (.var 700)))).row F ((j:Nat):Int)=jd F (F.i 700):=by
       show(if(j:Int)<(F.len 630:Int)then _ else jd F (F.i 700))=_
       rw[if_neg (by omega)]
      rw[Yw ah]
      refine Pw (fun k => ?_) (fun k => ?_) (fun k => ?_)
      ·rw[ci k j,e,hm]
      ·rw[cb k j,e,hm]
      ·rw[cs k j,e,hm]
  | j+1,A=>cases A
 by_cases hi:i=0
 ·subst hi
  right
  have hz:=hR.z rfl
  have u:J.ok F tw:=J.av (by show(F.i 700==0)=true;rw[hz];rfl) (J.av (decide_eq_true (by show F.i 700<(F.len 470:Int);omega)) j_)
  exact is 0 hz (by omega) (fun _=>rfl) (fun h=>absurd rfl h) (kL mixed cR aP (a1.nil _ _ _ _) (PG R) u r0)
 ·obtain⟨Fw,m,m1,m2,sY,Wa,Wb⟩:=hR.b hi
  subst Fw
  by_cases hm:m<ρ.len 470
  ·right
   have hp:=p7d m sY (by omega)
   have u:J.ok F tz:=fR (show(0:Int)<=F.i 700 by omega) (J.av (decide_eq_true (by show F.i 700<(F.len 470:Int);omega)) (fF (show p7.I F<=(F.len 470:Int)by rw[hp];omega) (fR (by rw[hp];omega) (fR (show(1:Int)<=(F.len 630:Int)by omega) (j0 (show(F.len 630:Int)<=6 by omega) j_)))))
   exact is m sY hm (fun h=>absurd h (by decide)) (fun _=>⟨Wa,Wb⟩) (kL mixed cR aP (a1.nil _ _ _ _) (PG R) u r1)
  ·left
   obtain rfl:m=ρ.len 470:=by omega
   have u:J.ok F tA:=fR (show(0:Int)<=F.i 700 by omega) (J.av (decide_eq_false (by show ¬F.i 700<(F.len 470:Int);omega)) (fR (show(1:Int)<=(F.len 630:Int)by omega) j_))
   refine⟨⟨Wa,Wb⟩,?_⟩
   rcases gD mixed cR aP (a1.nil _ _ _ _) (PG R) u r2 with h | ⟨j,C,_,A,_⟩
   ·exact h
   ·simp at A
end Go.Proofs.YtpdfmnhgocpkcaaGreat
namespace Go.Proofs.YtpdfmnhgocpkcaaGreat
open Go Go.Proofs.Aw Go.Proofs.Xw
set_option maxRecDepth 100000
def iv (L:RL):Nat->au
 | 0=>[((0,0),vi 405 9++vi 500 9++[xi 1,aY (0,1) 1 (.len 470),aY (0,2) 25 (.len 470),fy false,xn 2,xn 0]),((0,1),kR),((0,2),[.rows 25 (.len 470) L]),((0,3),oR)]
 | 1=>[((0,0),[xi 1,aY (0,1) 1 (.len 470),aY (0,2) 25 (.len 470),fy false,xn 2]++vi 500 9++[xl true,xn 0]),((0,1),kR),((0,2),[.rows 25 (.len 470) L]),((0,3),oR)]
 | 2=>[((0,0),vi 405 9++vi 600 9++[xi 1,aY (0,1) 1 (.len 470),aY (0,2) 25 (.len 470),fy false,xn 1,xn 0]),((0,1),kR),((0,2),[.rows 25 (.len 470) L]),((0,3),oR)]
 | _=>[((0,0),[xi 1,aY (0,1) 1 (.len 470),aY (0,2) 25 (.len 470),.k (.slice none 0 0),xn 1]++vi 600 9++[xl true,xn 0]),((0,1),kR),((0,2),[.rows 25 (.len 470) L])]
def c5:RL := .var 625 gh
noncomputable def PE (v:Nat) (g:Nat):List bf:=if Nat.beq g (oK v)=true then [tB v]else []
noncomputable def za (v:Nat):cj:=⟨bd [] (PE v),[],[10119]⟩
def Yx:X := .rl 22 (.len 630) (.var 630 fc) false
def zb:J:=fP++(oU++[(.lt (.len 630) (.lit 1),false)])
def vr:T (X×aL)->Bool
 | .ret (r,d)=>X.beq r Yx&&d.isEmpty
 | _=>false
theorem aq2:(vr (ur (za 0) (oK 0) [.ptr (0,0) [] 0] (iv c5 0) zb)&&yN (iv c5 0)&&(vr (ur (za 1) (oK 1) [.ptr (0,0) [] 0] (iv c5 1) zb)&&yN (iv c5 1))&&(vr (ur (za 2) (oK 2) [.ptr (0,0) [] 0] (iv c5 2) zb)&&yN (iv c5 2))&&(vr (ur (za 3) (oK 3) [.ptr (0,0) [] 0] (iv c5 3) zb)&&yN (iv c5 3)))=true:=by kernel_rfl
theorem aq3 {v:Nat} (h:v<4):vr (ur (za v) (oK v) [.ptr (0,0) [] 0] (iv c5 v) zb)=true/\yN (iv c5 v)=true:=by
 have q:=aq2
 simp only[Bool.and_eq_true]at q
 obtain⟨⟨⟨v0,q1⟩,q2⟩,q3⟩:=q
 rcases(show v=0\/v=1\/v=2\/v=3 by omega)with rfl | rfl | rfl | rfl
 ·exact v0
 ·exact q1
 ·exact q2
 ·exact q3
theorem agY {t:T (X×aL)} (h:vr t=true):t = .ret (Yx,[]):=by
 cases t with
 | ret p =>
  obtain⟨r,d⟩:=p
  simp only[vr,Bool.and_eq_true]at h
  rw[X.beq_eq _ _ h.1,List.isEmpty_iff.1 h.2]
 | br _ _ _=>cases h
 | cL _ _=>cases h
 | fail _=>cases h
theorem aq1 {v:Nat} (R:v<4) {ρ:aa} (h:bW Tryz.prog ρ (wg v) (pR v) (tB v)):∀g i,eB g gb=some i->a1 Tryz.prog ρ i.ntmps (PE v g) i.body:=fun g i hi=>by
 unfold PE
 split
 ·rename_i hf
  have hf:=Nat.eq_of_beq_eq_true hf
  subst hf
  have gc:jk Tryz.prog (oK v) i:=mT (oK v,i) (jV _ _ (jU hi))
  have go:∀(fn:Func),Tryz.prog.funcs[oK v]? = some fn->wg v=fn.ntmps->pR v=(dP (fn.body.getD .skip))[0]?.getD .skip->vU [tB v] [0] 0 (dP (fn.body.getD .skip))=true->jC (du (pR v)) [tB v]=[tB v]->a1 Tryz.prog ρ i.ntmps [tB v] i.body:=fun fn e1 e2 e3 e4 iG=>by
   refine ov gc e1 ?_
   rw[e2]at h
   refine kv (c:=fn.body.getD .skip) [0] e4 (List.forall_mem_cons.2 ⟨?_,List.forall_mem_nil _⟩)
   rw[<-e3]
   exact ku iG h
  rcases(show v=0\/v=1\/v=2\/v=3 by omega)with rfl | rfl | rfl | rfl
  ·exact go Tryz.f122 Tryz.func122 rfl rfl (by kernel_rfl) (by kernel_rfl)
  ·exact go Tryz.f116 Tryz.func116 rfl rfl (by kernel_rfl) (by kernel_rfl)
  ·exact go Tryz.f122 Tryz.func122 rfl rfl (by kernel_rfl) (by kernel_rfl)
  ·exact go Tryz.f116 Tryz.func116 rfl rfl (by kernel_rfl) (by kernel_rfl)
 ·exact a1.nil _ _ _ _
theorem afm {ρ F:aa} {f:Nat} {args:List X} {h h':au} {r r':X} (Z:c' Tryz.prog ρ ⟨f,args,h,r,ln h⟩) (ha:X.af ρ args=X.af F args) (W:aO ρ h=aO F h') (hr:r.I ρ=r'.I F):c' Tryz.prog F ⟨f,args,h',r',ln h'⟩:=by
 have e:∀(ρ:aa) (h:au),bk ρ (ln h)=(aO ρ h).map fun q=>(q.1,some q.2):=fun ρ h=>by
  simp only[bk,ln,aO,List.map_map];rfl
 refine⟨Z.1,?_⟩
 have q:=Z.2
 simp only[e]at q ⊢
 rw[ha,W,hr]at q
 exact q
theorem r8 {n:Nat} {ρ F:aa} (ah:az n ρ F) (h:au) (hb:(XS.mk [] h 0).ar n=true):aO ρ h=aO F h:=congrArg St.h (XS.aT ah (XS.mk [] h 0) hb)
theorem aqE {F:aa} {j:Nat} {l:List AV} (hi:∀k,F.ci 625 k j=aH l[k]?) (hb:∀k,F.cb 625 k j=dK l[k]?) (hs:∀k,F.cs 625 k j=cellS l[k]?) :
  (RL.var 625 gh).row F (j:Int)=[.sc (.int .i64 (aH l[0]?)),.sc (.bool (dK l[1]?)),.sc (.int .i64 (aH l[2]?)),.sc (.int .i64 (aH l[3]?)),.sc (.int .i64 (aH l[4]?)),.sc (.int .i64 (aH l[5]?)),.sc (.int .i64 (aH l[6]?)),.sc (.int .i64 (aH l[7]?)),.sc (.string (cellS l[8]?)),.sc (.string (cellS l[9]?)),.sc (.bool (dK l[10]?)),.sc (.int .i64 (aH l[11]?)),.sc (.int .i64 (aH l[12]?)),.sc (.int .i64 (aH l[13]?)),.sc (.int .i64 (aH l[14]?)),.sc (.int .i64 (aH l[15]?)),.sc (.int .i64 (aH l[16]?)),.sc (.int .i64 (aH l[17]?)),.sc (.int .i64 (aH l[18]?)),.sc (.int .i64 (aH l[19]?)),.sc (.int .i64 (aH l[20]?)),.sc (.int .i64 (aH l[21]?)),.sc (.int .i64 (aH l[22]?)),.sc (.int .i64 (aH l[23]?)),.sc (.int .i64 (aH l[24]?))]:=by
 simp only[<-hi,<-hb,<-hs]
 rfl
noncomputable def bK (ρ:aa) (ag:Bool):aa:={ ρ with ci:=fun l k j=>if l=625 then aH ((b9 ag).row ρ (j:Int))[k]? else ρ.ci l k j,cb:=fun l k j=>if l=625 then dK ((b9 ag).row ρ (j:Int))[k]? else ρ.cb l k j,cs:=fun l k j=>if l=625 then cellS ((b9 ag).row ρ (j:Int))[k]? else ρ.cs l k j }
theorem yW (ρ:aa) (ag:Bool):az 625 ρ (bK ρ ag):=⟨fun _ _=>rfl,fun _ _=>rfl,fun _ _=>rfl,fun _ _=>rfl,
 fun l M=>by funext k j;show _=if l=625 then _ else _;rw[if_neg (by omega)],fun l M=>by funext k j;show _=if l=625 then _ else _;rw[if_neg (by omega)],fun l M=>by funext k j;show _=if l=625 then _ else _;rw[if_neg (by omega)],fun _ _=>rfl⟩
theorem apv (ρ:aa) (ag:Bool) (j:Nat):(RL.var 625 gh).row (bK ρ ag) (j:Int)=(b9 ag).row ρ (j:Int):=by
 rw[aqE (F:=bK ρ ag) (j:=j) (l:=(b9 ag).row ρ (j:Int)) (fun _=>rfl) (fun _=>rfl) (fun _=>rfl)]
 by_cases O:(j:Int)=g8.I ρ
 ·have e:(b9 ag).row ρ j=ca ρ (mK ag):=by
   show(if(j:Int)=g8.I ρ then ca ρ (mK ag)else(RL.var 472 gh).row ρ j)=_
   rw[if_pos O]
  rw[e]
  cases ag<;>rfl
 ·have e:(b9 ag).row ρ j=(RL.var 472 gh).row ρ j:=by
   show(if(j:Int)=g8.I ρ then ca ρ (mK ag)else(RL.var 472 gh).row ρ j)=_
   rw[if_neg O]
  rw[e]
  rfl
noncomputable def yX (ρ:aa):aa:={ ρ with ci:=fun l k j=>if l=630 then aH (jd ρ (j:Int))[k]? else ρ.ci l k j,cb:=fun l k j=>if l=630 then dK (jd ρ (j:Int))[k]? else ρ.cb l k j,cs:=fun l k j=>if l=630 then cellS (jd ρ (j:Int))[k]? else ρ.cs l k j }
theorem apw (ρ:aa):az 630 ρ (yX ρ):=⟨fun _ _=>rfl,fun _ _=>rfl,fun _ _=>rfl,fun _ _=>rfl,
 fun l M=>by funext k j;show _=if l=630 then _ else _;rw[if_neg (by omega)],fun l M=>by funext k j;show _=if l=630 then _ else _;rw[if_neg (by omega)],fun l M=>by funext k j;show _=if l=630 then _ else _;rw[if_neg (by omega)],fun _ _=>rfl⟩
theorem apx (ρ:aa) (j:Nat):(RL.var 630 fc).row (yX ρ) (j:Int)=jd ρ j:=Pw (ρ:=ρ) (F:=yX ρ) (j:=j) (x:=(j:Int)) (fun _=>rfl) (fun _=>rfl) (fun _=>rfl)
theorem Jt (ρ:aa) (ag:Bool):aA (bK ρ ag) [.rows 25 (.len 470) c5]=aA (bK ρ ag) [.rows 25 (.len 470) (b9 ag)]:=by
 have ah:=yW ρ ag
 show(aV (bK ρ ag) (.len 470) c5).flatten=(aV (bK ρ ag) (.len 470) (b9 ag)).flatten
 unfold aV
 congr 1
 refine List.map_congr_left fun j _ => ?_
 rw[show c5=RL.var 625 gh from rfl,apv]
 exact RL.iD ah (b9 ag) _ (by cases ag<;>kernel_rfl)
theorem aqX (ρ:aa) (ag:Bool) (v:Nat) (R:v<4):aO (bK ρ ag) (iv c5 v)=aO (bK ρ ag) (iv (b9 ag) v):=by
 have e:=Jt ρ ag
 rcases(show v=0\/v=1\/v=2\/v=3 by omega)with rfl | rfl | rfl | rfl
 ·show [(_,_),(_,_),(_,aA (bK ρ ag) [.rows 25 (.len 470) c5]),(_,_)]=[(_,_),(_,_),(_,aA (bK ρ ag) [.rows 25 (.len 470) (b9 ag)]),(_,_)]
  rw[e]
 ·show [(_,_),(_,_),(_,aA (bK ρ ag) [.rows 25 (.len 470) c5]),(_,_)]=[(_,_),(_,_),(_,aA (bK ρ ag) [.rows 25 (.len 470) (b9 ag)]),(_,_)]
  rw[e]
 ·show [(_,_),(_,_),(_,aA (bK ρ ag) [.rows 25 (.len 470) c5]),(_,_)]=[(_,_),(_,_),(_,aA (bK ρ ag) [.rows 25 (.len 470) (b9 ag)]),(_,_)]
  rw[e]
 ·show [(_,_),(_,_),(_,aA (bK ρ ag) [.rows 25 (.len 470) c5])]=[(_,_),(_,_),(_,aA (bK ρ ag) [.rows 25 (.len 470) (b9 ag)])]
  rw[e]
theorem aqV:([true,false].all fun ag=>[0,1,2,3].all fun v=>(XS.mk [] (iv (b9 ag) v) 0).ar 625&&(XS.mk [] (iv c5 v) 0).ar 630)=true:=by kernel_rfl
theorem aqW (ag:Bool) {v:Nat} (R:v<4):(XS.mk [] (iv (b9 ag) v) 0).ar 625=true/\(XS.mk [] (iv c5 v) 0).ar 630=true:=by
 have h:=List.all_eq_true.1 aqV ag (by cases ag<;>simp)
 have h:=List.all_eq_true.1 h v (by simp only[List.mem_cons,List.not_mem_nil,or_false];omega)
 simpa only[Bool.and_eq_true]using h
theorem Yy {ρ:aa} (ag:Bool) (hT:TI ρ) (dq:ρ.i 443=1):∃F,az 625 ρ F/\∀v,v<4->c' Tryz.prog F ⟨oK v,[.ptr (0,0) [] 0],iv (b9 ag) v,CL,ln (iv (b9 ag) v)⟩:=by
 have bm:=yW ρ ag
 have bl:=apw (bK ρ ag)
 refine⟨yX (bK ρ ag),bm.trans (bl.le (by decide)),fun v R => ?_⟩
 have LQ:=hT.bt (bm.le (by decide))
 have n1:=LQ.n1
 have n6:=LQ.n6
 obtain⟨am,rt,ig,hL⟩:=aq0 R (ρ:=bK ρ ag) dq n1 n6
 obtain⟨y1,y2⟩:=aq3 R
 have hTf:=LQ.bt (rt.le (by decide))
 have H:bZ Tryz.prog am (za v).c:=hl (List.forall_mem_nil _) (aq1 R hL)
 have l4:am.len 470=(bK ρ ag).len 470:=(rt.len 470 (by decide)).symm
 have e43:am.i 443=1:=by rw[<-rt.i 443 (by decide)];exact dq
 have bp:J.ok am fP:=J.av (by show(am.i 443==1)=true;rw[e43];rfl) (fR (show(1:Int)<=(am.len 470:Int)by omega) (j0 (show(am.len 470:Int)<=6 by omega) (J.bq _)))
 have dO:J.ok am [(.lt (.len 630) (.lit 1),false)]:=fR (show(1:Int)<=(am.len 630:Int)by rw[ig.l];omega) (J.bq _)
 have u:J.ok am zb:=dY bp (dY hTf.tr dO)
 have g:=acQ H (List.forall_mem_nil _) u (by rw[agY y1];rfl) y2
 obtain⟨b1,b2⟩:=aqW ag R
 refine afm g rfl ?_ ?_
 ·rw[<-r8 rt _ b2,aqX ρ ag v R]
  exact r8 (bl.le (by decide)) _ b1
 ·show AV.ro 22 (aV am (.len 630) (.var 630 fc)) false=AV.ro 22 (aV (yX (bK ρ ag)) (.len 470) (.var 630 fc)) false
  congr 1
  unfold aV
  have e1:((U.len 630).I am).toNat=(bK ρ ag).len 470:=by show((am.len 630:Nat):Int).toNat=_;rw[ig.l];exact Int.toNat_natCast _
  have e2:((U.len 470).I (yX (bK ρ ag))).toNat=(bK ρ ag).len 470:=Int.toNat_natCast _
  rw[e1,e2]
  refine List.map_congr_left fun j O => ?_
  rw[ig.r j (List.mem_range.1 O),apx]
end Go.Proofs.YtpdfmnhgocpkcaaGreat
namespace Go.Proofs.YtpdfmnhgocpkcaaGreat
open Go Go.Proofs.Aw Go.Proofs.Xw
set_option maxRecDepth 100000
def xp (i:U):AL:=(List.range 6).foldr (fun k r => .i (.cl 625 (2+k) i) r) (.s (.cl 625 8 i) (.s (.cl 625 9 i) (.b (.cl 625 10 i) ((List.range 11).foldr (fun k r => .i (.cl 625 (11+k) i) r) .nil))))
def p5 (dM:Nat) (td:X) (rd:Int):au:=[((0,0),vi 405 9++vi dM 9++[xi 1,aY (0,1) 1 (.len 470),aY (0,2) 25 (.len 470),td,xn rd,xn 0]),((0,1),kR),((0,2),[.rows 25 (.len 470) c5]),((0,3),oR)]
def QG (i:X):ba:=[(11,i),(10,.sc (.i .i64 (.len 470))),(9,aY (0,2) 25 (.len 470)),(8,.top),(7,.top),(6,.top),(0,.ptr (0,0) [] 0)]
def Dh:XS:=⟨QG (xn 0),p5 405 (fy false) 1,8⟩
def tR:XS:=⟨QG (xi 700),p5 640 (fy false) 1,8⟩
def rM:XS:=⟨QG .top,p5 640 (fy false) 1,60⟩
noncomputable def oV:Code:=(dP (Tryz.f120.body.getD .skip))[0]?.getD .skip
def fa:BE := .cl 625 1 (.var 700)
def wr7:BE := .eq (.uf 2 0 (xp (.var 700))) (.lit 1)
def ki4:List Nat:=[640,641,642,643,644,645,646,647,648]
def ZM:List dm:=[⟨tR,[],[⟨0,[],[],(List.range 9).map (fun k=>(640+k,.op .max .i64 (.op .max .i64 (.lit 0) (.var (640+k))) (.uf 3 k (xp (.var 700))))),[],[(fa,true)]⟩,⟨0,ki4,[],[],[],[(fa,false)]⟩]⟩]
def IA:J:=[(.lt (.var 700) (.lit 0),false),(.lt (.var 700) (.len 470),true),(.lt (.len 470) p7,false),(.lt p7 (.lit 0),false)]++fP
def ZN:J:=[(.lt (.var 700) (.lit 0),false),(.lt (.var 700) (.len 470),false)]++fP
noncomputable def g9:cj:=⟨bd [] (fun _=>[]),h2,[10119]⟩
noncomputable def ZQ (B:J):T (XE×XS):=(ck g9.c.ti (eC g9 12) ((g9.c.hD 120).elim [] (·.ms)) 2 [] 1000 oV B tR).map (dV (tR.t.map (·.1)))
noncomputable def ZO (B:J):Bool:=dC 2 630 700 [] (0,[]) 0 ZM rM .normal B (ZQ B)
noncomputable def tuX (B:J):Bool:=dC 2 630 700 [] (0,[]) 0 [] rM (.exit 0) B (ZQ B)
theorem as2:(ZO ((fa,true)::(wr7,true)::IA)&&(ZO ((fa,false)::IA)&&tuX ZN))=true:=by kernel_rfl
end Go.Proofs.YtpdfmnhgocpkcaaGreat
