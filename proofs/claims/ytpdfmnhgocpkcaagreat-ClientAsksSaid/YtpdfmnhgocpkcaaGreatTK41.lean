/- Parts of the proof, one behind the other. -/
import Derived.Test.YtpdfmnhgocpkcaaGreatTK40
import Derived.Test.YtpdfmnhgocpkcaaGreatTK7
import Derived.Test.YtpdfmnhgocpkcaaGreatTK19
import Derived.Test.YtpdfmnhgocpkcaaGreatTK3
namespace Go.Proofs.YtpdfmnhgocpkcaaGreat
open Go Go.Proofs.Aw Go.Proofs.Xw
set_option maxRecDepth 100000
def DL (n:Nat):J:=(.eq bm (.lit n),true)::((List.range n).flatMap fun j=>(fO j,false)::(fP j,false)::((List.range j).flatMap fun k=>[(eY j k,false),(eY k j,false)]))
def VT (B:J):T X->Bool
 | .ret (.sc (.b e))=>tg (fB B e)
 | _=>false
def lS (m:Nm) (z n:Nat):X := .sl m z 0 n true
def Rl (n:Nat):aN:=[((1,0),some (vi 405 9++vi 405 9++[xi 1,aZ (1,1) 1 bm,aZ (1,2) 25 bm,lS (1,3) 1 n,xn 1,xn 0])),((1,1),some [.rows 1 bm oy]),((1,2),some [.rows 25 bm z5]),((1,3),some ((List.range n).map fun(j:Nat)=>xn j))]
def z6:List X:=[xn 0,xl false]++List.replicate 6 (xn 0)++[.sc (.s (.lit ⟨#[]⟩)),.sc (.s (.lit ⟨#[]⟩)),xl false]++List.replicate 14 (xn 0)
def Rm (n:Nat):aN:=[((1,0),some ([xi 1,lS (1,1) 1 n,lS (1,2) 25 n,lS (1,3) 1 n,xn 1]++vi 405 9++[xl false,xn 0])),((1,1),some ((List.range n).map fun j => .sc (.s (ky j)))),((1,2),some ((List.range n).flatMap fun _=>z6)),((1,3),some ((List.range n).map fun(j:Nat)=>xn j))]
def Ht:X := .tup [.ptr (1,0) [] 0,xn 0]
def Ai:aN->aN->Bool
 | [],[]=>true
 | (m,some a)::r,(k,some b)::s=>cC m k&&(X.fc a b&&Ai r s)
 | _,_=>false
theorem Sq:∀{a b:aN},Ai a b=true->a=b
 | [],[],_=>rfl
 | (m,some a)::r,(k,some b)::s,h=>by
  simp only[Ai,Bool.and_eq_true]at h
  rw[eB h.1,X.gv _ _ h.2.1,Sq h.2.2]
 | [],_::_,h=>by simp[Ai]at h
 | (_,some _)::_,[],h=>by cases h
 | (_,none)::_,[],h=>by cases h
 | (_,none)::_,(_,some _)::_,h=>by cases h
 | (_,none)::_,(_,none)::_,h=>by cases h
 | (_,some _)::_,(_,none)::_,h=>by cases h
def Gc (d:aN):T (X×aN)->Bool
 | .ret (r,e)=>X.beq r Ht&&Ai e d
 | _=>false
theorem VM {d:aN} {t:T (X×aN)} (h:Gc d t=true):t = .ret (Ht,d):=by
 cases t with
 | ret p =>
  obtain⟨r,e⟩:=p
  simp only[Gc,Bool.and_eq_true]at h
  rw[X.beq_eq _ _ h.1,Sq h.2]
 | br _ _ _=>cases h
 | cT _ _=>cases h
 | fail _=>cases h
noncomputable def qS (n:Nat):Bool:=VT (DL n) (aS qA 87 [KX] (DL n))
noncomputable def sM (n:Nat):Bool:=Gc (Rl n) (fH iS 51 kY [] ((.var 690,true)::(.var 691,true)::(.eq bm (.lit n),true)::di))
noncomputable def sN (n:Nat):Bool:=Gc (Rm n) (fH iS 74 kY [] ((.var 690,true)::(DL n++di)))
theorem Uu:(qS 1&&(sM 1&&sN 1))=true:=by kernel_rfl
theorem Uv:(qS 2&&(sM 2&&sN 2))=true:=by kernel_rfl
theorem Uw:(qS 3&&(sM 3&&sN 3))=true:=by kernel_rfl
theorem Ux:(qS 4&&(sM 4&&sN 4))=true:=by kernel_rfl
theorem Uy:(qS 5&&(sM 5&&sN 5))=true:=by kernel_rfl
theorem Uz:(qS 6&&(sM 6&&sN 6))=true:=by kernel_rfl
end Go.Proofs.YtpdfmnhgocpkcaaGreat
namespace Go.Proofs.YtpdfmnhgocpkcaaGreat
open Go Go.Proofs.Aw Go.Proofs.Xw
set_option maxRecDepth 100000
theorem ZS {ρ:aa} {n:Int} {e:U} (h:n<e.I ρ) {B:J} (u:J.ok ρ B):J.ok ρ ((.lt (.lit n) e,true)::B):=xK (show(U.lit n).I ρ<e.I ρ from h) u
theorem ar5 {ρ:aa} {n:Int} {e:U} (h:e.I ρ<n) {B:J} (u:J.ok ρ B):J.ok ρ ((.lt e (.lit n),true)::B):=xK h u
theorem kj {ρ:aa} {n:Int} {e:U} (h:e.I ρ<=n) {B:J} (u:J.ok ρ B):J.ok ρ ((.lt (.lit n) e,false)::B):=fF h u
theorem fR {ρ:aa} {n:Int} {e:U} (h:n<=e.I ρ) {B:J} (u:J.ok ρ B):J.ok ρ ((.lt e (.lit n),false)::B):=fF (show(U.lit n).I ρ<=e.I ρ from h) u
theorem EZ {ρ:aa} {f:Nat} {p:List X} {B:J} {x:X} (u:J.ok ρ B) (h:aS qA f p B = .ret x):Cy f (X.af ρ p) (x.I ρ):=eG (c:=qA) (lb (List.forall_mem_nil _)) (List.forall_mem_nil _) u (by rw[h];rfl)
def VQ:T X->T X->Bool
 | .ret (.sc (.b a)),.ret (.sc (.b b))=>a.beq b&&(List.range 9).all fun k=>nH false 400 [] [] (.or (.not a) (.not (.lt (.var (405+k)) (.lit 0))))
 | _,_=>false
theorem atw:VQ (aS qA 64 [.agg (vi 405 9)] []) (aS qA 102 [.agg (vi 405 9)] [])=true:=by kernel_rfl
theorem adU (ρ:aa):cf Tryz.prog ρ qA.c:=lb (List.forall_mem_nil _)
theorem atv (ρ:aa):∃b:Bool,Cy 64 (X.af ρ [.agg (vi 405 9)]) (.sc (.bool b))/\Cy 102 (X.af ρ [.agg (vi 405 9)]) (.sc (.bool b))/\(b=true->∀k:Nat,k<9->0<=ρ.i (405+k)):=by
 have h:=atw
 unfold VQ at h
 split at h
 ·rename_i a b e1 e2
  rw[Bool.and_eq_true]at h
  have:=BE.beq_eq _ _ h.1
  subst this
  refine⟨a.I ρ,EZ (J.bq ρ) e1,EZ (J.bq ρ) e2,fun ha k u => ?_⟩
  have ht:=ue (ρ:=ρ) 400 [] [] _ (List.all_eq_true.1 h.2 k (List.mem_range.2 u)) (J.bq ρ)
  have ht:((!(a.I ρ)) || !(decide (ρ.i (405+k)<0)))=true:=ht
  rw[ha]at ht
  simpa using ht
 ·cases h
def Ee (n:Nat) (ρ:aa):Prop:=∀j,j<n->(fO j).I ρ=false/\(fP j).I ρ=false/\∀k,k<j->(eY j k).I ρ=false
theorem Zz (ρ:aa) (j k:Nat):(eY j k).I ρ=(eY k j).I ρ:=by
 show(((ky j).I ρ).toList==((ky k).I ρ).toList)=(((ky k).I ρ).toList==((ky j).I ρ).toList)
 exact BEq.comm
theorem aaC {n:Nat} {ρ:aa} (hn:bm.I ρ=n) (h:Ee n ρ):J.ok ρ (DL n):=by
 refine J.aw (by show(bm.I ρ==(n:Int))=true;rw[hn];exact beq_self_eq_true _) fun p hp => ?_
 obtain⟨j,M,hp⟩:=List.mem_flatMap.1 hp
 obtain⟨A,E,h3⟩:=h j (List.mem_range.1 M)
 rcases List.mem_cons.1 hp with rfl | hp
 ·exact A
 ·rcases List.mem_cons.1 hp with rfl | hp
  ·exact E
  ·obtain⟨k,u,hp⟩:=List.mem_flatMap.1 hp
   have h4:=h3 k (List.mem_range.1 u)
   rcases List.mem_cons.1 hp with rfl | hp
   ·exact h4
   ·rcases List.mem_cons.1 hp with rfl | hp
    ·show(eY k j).I ρ=false
     rw[<-Zz];exact h4
    ·cases hp
theorem Si {n j:Nat} {ρ:aa} (hn:bm.I ρ=n) (h6:n<=6) (M:j<n):J.ok ρ (J0 j) :=
 ZS (by omega) (kj (by omega) (J.bq ρ))
theorem ahw {n:Nat} {ρ:aa} (hn:bm.I ρ=n) (hb:n<=250):(1<=n/\n<=6/\Ee n ρ/\Cy 87 (X.af ρ [KX]) (.sc (.bool true))) \/
  (Cy 87 (X.af ρ [KX]) (.sc (.bool false))/\∀G,aA 600 ρ G->cf Tryz.prog G iS.c->J.ok G di->(BE.var 690).I G=true->∃B,J.ok G B/\(fH iS 74 kY [] B).aq G=some (kO,[])):=by
 by_cases h0:n=0
 ·right
  subst h0
  have hz:J.ok ρ DU:=ar5 (by omega) (fR (by omega) (J.bq ρ))
  refine⟨EZ hz (qp z87),fun G ah _ O R => ?_⟩
  have ja:J.ok G DU:=gz ah (by kernel_rfl) hz
  refine⟨_,J.aw R (dZ ja O),?_⟩
  have h:=avS
  unfold z74 at h
  split at h
  ·rename_i c x e
   rw[Bool.and_eq_true]at h
   rw[e]
   simp only[T.aq,xq ja h.1,if_true]
   exact nU h.2
  ·exact nU h
 by_cases h6:6<n
 ·right
  obtain⟨ss,O,F⟩:∃ss:List ByteArray,ss.length=n/\aX ρ bm oy=fC ss:=by
   refine⟨(List.range n).map fun(j:Nat)=>ρ.cs 194 0 ((j:Int)+(U.cl 2 2 (.var 400)).I ρ).toNat,by simp,?_⟩
   unfold aX fC
   have e:(bm.I ρ).toNat=n:=by omega
   rw[e,List.map_map]
   rfl
  have e:X.af ρ [KX]=[.ro 1 (fC ss) false]:=by rw[<-F];rfl
  refine⟨by rw[e];exact aqq ss false (by omega) (by omega),fun G ah _ bY R => ?_⟩
  have AC:bm.I G=n:=by rw[<-U.aP ah bm (by kernel_rfl)];exact hn
  exact⟨_,J.aw R (ZS (by omega) (fR (by omega) bY)),nU adp⟩
 have h6:n<=6:=by omega
 by_cases Z:Ee n ρ
 ·left
  refine⟨by omega,h6,Z,?_⟩
  have go:∀k,n=k->(qS k&&(sM k&&sN k))=true->Cy 87 (X.af ρ [KX]) (.sc (.bool true)):=fun k u h=>by
   subst u
   rw[Bool.and_eq_true]at h
   have h:=h.1
   unfold qS VT at h
   split at h
   ·rename_i e F
    have R:=aaC hn Z
    have q:=eG (adU ρ) (List.forall_mem_nil _) R (show(aS qA 87 [KX] (DL n)).aq ρ=some _ by rw[F];rfl)
    simp only[X.I,Sc.I,xq R h]at q
    exact q
   ·cases h
  rcases(show n=1\/n=2\/n=3\/n=4\/n=5\/n=6 by omega)with h | h | h | h | h | h
  ·exact go 1 h Uu
  ·exact go 2 h Uv
  ·exact go 3 h Uw
  ·exact go 4 h Ux
  ·exact go 5 h Uy
  ·exact go 6 h Uz
 ·right
  obtain⟨j,M,c,d,H,hd,hr,ht⟩:∃(j:Nat),j<n/\∃c d:BE,c.I ρ=true/\d.I ρ=true/\eJ j c=true/\(eI j d=true/\d.au 600=true):=by
   apply Classical.byContradiction
   intro i9
   apply Z
   intro j M
   obtain⟨bp,bj,gU⟩:=ai5 (j:=j) (by omega)
   obtain⟨b1,b2,de⟩:=aiY (j:=j) (by omega)
   have au:∀k,k<6->(ky k).au 600=true:=fun k u=>by
    rcases(show k=0\/k=1\/k=2\/k=3\/k=4\/k=5 by omega)with rfl | rfl | rfl | rfl | rfl | rfl<;>kernel_rfl
   refine⟨Bool.eq_false_iff.2 fun h=>i9 ⟨j,M,_,_,h,h,bp,b1,?_⟩,Bool.eq_false_iff.2 fun h=>i9 ⟨j,M,_,_,h,h,bj,b2,?_⟩,fun k u=>Bool.eq_false_iff.2 fun h=>i9 ⟨j,M,_,_,h,(by rw[<-Zz];exact h),gU k u,de k u,?_⟩⟩
   ·simp only[fO,BE.au,U.au,au j (by omega),Bool.and_self]
   ·simp only[fP,BE.au,U.au,au j (by omega),Bool.and_self]
   ·simp only[eY,BE.au,au j (by omega),au k (by omega),Bool.and_self]
  refine⟨EZ (J.aw H (Si hn h6 M)) (qp hr),fun G ah _ O R => ?_⟩
  have AC:bm.I G=n:=by rw[<-U.aP ah bm (by kernel_rfl)];exact hn
  exact⟨_,J.aw (by rw[<-BE.aP ah d ht.2];exact hd) (J.aw R (dZ (Si AC h6 M) O)),nU ht.1⟩
end Go.Proofs.YtpdfmnhgocpkcaaGreat
namespace Go.Proofs.YtpdfmnhgocpkcaaGreat
open Go Go.Proofs.Aw Go.Proofs.Xw
set_option maxRecDepth 100000
theorem V5 (ρ:aa) (j:Nat):(ky j).I ρ=ρ.cs 194 0 ((j:Int)+(U.cl 2 2 (.var 400)).I ρ).toNat:=by
 cases j with
 | zero =>
  show ρ.cs 194 0 ((U.cl 2 2 (.var 400)).I ρ).toNat=_
  rw[show((0:Nat):Int)+(U.cl 2 2 (.var 400)).I ρ=(U.cl 2 2 (.var 400)).I ρ by omega]
 | succ j=>rfl
theorem LL {am:Type} (f:Nat->am):∀l:List Nat,(l.map fun j=>[f j]).flatten=l.map f
 | []=>rfl
 | a::l=>by simp only[List.map_cons,List.flatten_cons,LL f l];rfl
theorem Ti (ρ:aa) (g:Nat->X) (l:List Nat):X.af ρ (l.map g)=l.map fun j=>(g j).I ρ:=by
 rw[X.mh,List.map_map];rfl
theorem Th (ρ:aa) (g:Nat->List X):∀l:List Nat,X.af ρ (l.flatMap g)=(l.map fun j=>X.af ρ (g j)).flatten
 | []=>rfl
 | a::l=>by simp only[List.flatMap_cons,X.gf,List.map_cons,List.flatten_cons,Th ρ g l]
theorem PO {ρ:aa} {n:Nat} (hn:bm.I ρ=n) (L:RL):aX ρ bm L=(List.range n).map fun(j:Nat)=>L.row ρ j:=by
 unfold aX
 rw[hn,Int.toNat_natCast]
theorem ahv {ρ:aa} {n:Nat} (hn:bm.I ρ=n) (hr:b0 ((List.range n).map fun j=>(.sc (.s (ky j)):X))=false):aB ρ ((List.range n).map fun j => .sc (.s (ky j)))=aB ρ [.rows 1 bm oy]:=by
 rw[cR hr,Ti]
 show _=(aX ρ bm oy).flatten
 rw[PO hn,<-LL]
 congr 1
 refine List.map_congr_left fun j _ => ?_
 show [AV.sc (.string ((ky j).I ρ))]=_
 rw[V5]
 rfl
theorem acU {ρ:aa} {n:Nat} (hn:bm.I ρ=n) (hr:b0 ((List.range n).flatMap fun _=>z6)=false):aB ρ ((List.range n).flatMap fun _=>z6)=aB ρ [.rows 25 bm z5]:=by
 rw[cR hr,Th]
 show _=(aX ρ bm z5).flatten
 rw[PO hn]
 rfl
theorem Z3 {ρ:aa} {n:Nat} (hn:bm.I ρ=n) (M:∀j,ρ.ci 620 0 j=j) (hr:b0 ((List.range n).map fun(j:Nat)=>xn j)=false):aB ρ ((List.range n).map fun(j:Nat)=>xn j)=aB ρ [.rows 1 bm zw]:=by
 rw[cR hr,Ti]
 show _=(aX ρ bm zw).flatten
 rw[PO hn,<-LL]
 congr 1
 refine List.map_congr_left fun j _ => ?_
 show [AV.sc (.int .i64 (j:Int))]=(if(j:Int)=(U.lit 0).I ρ then cd ρ [eo (.lit 0)]else(RL.var 620 [.i .i64]).row ρ j)
 by_cases h0:(j:Int)=(U.lit 0).I ρ
 ·rw[if_pos h0]
  have:(j:Int)=0:=h0
  show _=[AV.sc (.int .i64 0)]
  rw[this]
 ·rw[if_neg h0]
  show _=[AV.sc (.int .i64 (ρ.ci 620 0 ((j:Int)).toNat))]
  rw[Int.toNat_natCast,M]
theorem IC {ρ:aa} {n:Nat} (hn:bm.I ρ=n) (m:Nm) (z:Nat):(lS m z n).I ρ=(aZ m z bm).I ρ:=by
 simp only[lS,aZ,X.I,hn,U.I,Int.toNat_zero,Nat.zero_mul,Int.toNat_natCast]
def Xf:List Nat:=[1,2,3,4,5,6]
theorem ag9:(Xf.all fun n => !b0 ((List.range n).map fun j=>(.sc (.s (ky j)):X))&&(!b0 ((List.range n).flatMap fun _=>z6) && !b0 ((List.range n).map fun(j:Nat)=>xn j)))=true:=by kernel_rfl
theorem VP {n:Nat} (A:1<=n) (h6:n<=6):b0 ((List.range n).map fun j=>(.sc (.s (ky j)):X))=false/\b0 ((List.range n).flatMap fun _=>z6)=false/\b0 ((List.range n).map fun(j:Nat)=>xn j)=false:=by
 have:=List.all_eq_true.1 ag9 n (by simp only[Xf,List.mem_cons,List.not_mem_nil,or_false];omega)
 simpa only[Bool.and_eq_true,Bool.not_eq_true']using this
theorem aep {ρ:aa} {n:Nat} (hn:bm.I ρ=n) (A:1<=n) (h6:n<=6) (M:∀j,ρ.ci 620 0 j=j):bn ρ (Rl n)=bn ρ (((1,0),some (vi 405 9++vi 405 9++[xi 1,aZ (1,1) 1 bm,aZ (1,2) 25 bm,aZ (1,3) 1 bm,xn 1,xn 0]))::Hi):=by
 obtain⟨r1,r2,r3⟩:=VP A h6
 have e:=Z3 hn M r3
 have s:=IC hn (1,3) 1
 have o:aB ρ (vi 405 9++vi 405 9++[xi 1,aZ (1,1) 1 bm,aZ (1,2) 25 bm,lS (1,3) 1 n,xn 1,xn 0])=aB ρ (vi 405 9++vi 405 9++[xi 1,aZ (1,1) 1 bm,aZ (1,2) 25 bm,aZ (1,3) 1 bm,xn 1,xn 0]):=by
  rw[cR rfl,cR rfl,X.gf (l:=vi 405 9++vi 405 9),X.gf (l:=vi 405 9++vi 405 9)]
  congr 1
  show [_,_,_,(lS (1,3) 1 n).I ρ,_,_]=[_,_,_,(aZ (1,3) 1 bm).I ρ,_,_]
  rw[s]
 show [((1,0),some (aB ρ _)),((1,1),some (aB ρ _)),((1,2),some (aB ρ _)),((1,3),some (aB ρ _))]=[((1,0),some (aB ρ _)),((1,1),some (aB ρ _)),((1,2),some (aB ρ _)),((1,3),some (aB ρ _))]
 rw[o,e]
theorem aeq {ρ:aa} {n:Nat} (hn:bm.I ρ=n) (A:1<=n) (h6:n<=6) (M:∀j,ρ.ci 620 0 j=j):bn ρ (Rm n)=bn ρ (((1,0),some ([xi 1,aZ (1,1) 1 bm,aZ (1,2) 25 bm,aZ (1,3) 1 bm,xn 1]++vi 405 9++[xl false,xn 0]))::Hi):=by
 obtain⟨r1,r2,r3⟩:=VP A h6
 have e:=Z3 hn M r3
 have ek:=ahv hn r1
 have iw:=acU hn r2
 have o:aB ρ ([xi 1,lS (1,1) 1 n,lS (1,2) 25 n,lS (1,3) 1 n,xn 1]++vi 405 9++[xl false,xn 0])=aB ρ ([xi 1,aZ (1,1) 1 bm,aZ (1,2) 25 bm,aZ (1,3) 1 bm,xn 1]++vi 405 9++[xl false,xn 0]):=by
  rw[cR rfl,cR rfl,List.append_assoc,List.append_assoc,X.gf (m:=vi 405 9++[xl false,xn 0]),X.gf (m:=vi 405 9++[xl false,xn 0])]
  congr 1
  show [_,(lS (1,1) 1 n).I ρ,(lS (1,2) 25 n).I ρ,(lS (1,3) 1 n).I ρ,_]=[_,(aZ (1,1) 1 bm).I ρ,(aZ (1,2) 25 bm).I ρ,(aZ (1,3) 1 bm).I ρ,_]
  rw[IC hn,IC hn,IC hn]
 show [((1,0),some (aB ρ _)),((1,1),some (aB ρ _)),((1,2),some (aB ρ _)),((1,3),some (aB ρ _))]=[((1,0),some (aB ρ _)),((1,1),some (aB ρ _)),((1,2),some (aB ρ _)),((1,3),some (aB ρ _))]
 rw[o,ek,iw,e]
theorem Fy {ρ:aa} {f:Nat} {args args':List X} {cv:av} {r:X} {d:aN} (h:cy Tryz.prog ρ ⟨f,args,cv,r,d⟩) (ha:args'.map X.DK=args):cy Tryz.prog ρ ⟨f,args',cv,r,d⟩ :=
 ⟨h.1,fun C vs W hL hn=>h.2 C vs W (by have:=Q1 C args' vs hL;rw[ha]at this;exact this) hn⟩
theorem afC {ρ:aa} {f:Nat} {args:List X} {cv:av} {r r':X} {d:aN} (h:cy Tryz.prog ρ ⟨f,args,cv,r,d⟩) (hr:∀C Y,ak C (r.I ρ) Y->ak C (r'.I ρ) Y):cy Tryz.prog ρ ⟨f,args,cv,r',d⟩ :=
 ⟨h.1,fun C vs W hL hn=>(h.2 C vs W hL hn).mono fun e' w' hq=>by
  obtain⟨Y,C',h3,h4,hp⟩:=hq
  exact⟨Y,C',h3,h4,{ hp with val:=hr _ _ hp.val }⟩⟩
theorem UA {ρ:aa} {f:Nat} {args:List X} {cv:av} {r:X} {d gx:aN} (h:cy Tryz.prog ρ ⟨f,args,cv,r,d⟩) (hd:bn ρ d=bn ρ gx):cy Tryz.prog ρ ⟨f,args,cv,r,gx⟩ :=
 ⟨h.1,by have:=h.2;rw[show bn ρ (⟨f,args,cv,r,d⟩:GK).d=bn ρ gx from hd]at this;exact this⟩
theorem adV {ρ:aa} (h64:Cy 64 (X.af ρ [.agg (vi 405 9)]) (.sc (.bool (ρ.b 690)))) (afI:Cy 102 (X.af ρ [.agg (vi 405 9)]) (.sc (.bool (ρ.b 690)))) (qT:Cy 87 (X.af ρ [KX]) (.sc (.bool (ρ.b 691)))):cf Tryz.prog ρ iS.c :=
 uQ (List.forall_mem_cons.2 ⟨h64,List.forall_mem_cons.2 ⟨afI,List.forall_mem_cons.2 ⟨qT,List.forall_mem_nil _⟩⟩⟩) (fun _ _ _=>a5.nil _ _ _ _) (List.forall_mem_nil _) Ks (List.forall_mem_nil _)
theorem ajr (ρ:aa) (O:J.ok ρ di) (h0:0<=bm.I ρ) (avZ:bm.I ρ<=250):∃G,aA 600 ρ G/\G.len 610=0/\((J.ok G wF/\qv G/\∀k∈dy false++dy true,cy Tryz.prog G k)\/(G.len 621=0/\∀k∈cW false++cW true,cy Tryz.prog G k)):=by
 obtain⟨n,hn⟩:∃n:Nat,bm.I ρ=n:=⟨(bm.I ρ).toNat,by omega⟩
 obtain⟨eR,v64,v102,vcu⟩:=atv ρ
 have mk:∀(b1:Bool) (m:Nat),Cy 87 (X.af ρ [KX]) (.sc (.bool b1))->∃G,aA 600 ρ G/\G.len 610=0/\G.len 621=m/\(∀j,G.ci 620 0 j=j)/\G.b 690=eR/\G.b 691=b1/\cf Tryz.prog G iS.c:=fun b1 m qT=>by
  let G:aa:={ ρ with b:=fun k=>if k=690 then eR else if k=691 then b1 else ρ.b k,len:=fun k=>if k=621 then m else if k=610 then 0 else ρ.len k,ci:=fun l k j=>if l=620 then(j:Int)else ρ.ci l k j }
  have ah:aA 600 ρ G:=⟨fun _ _=>rfl,fun k u=>by show ρ.b k=if k=690 then eR else if k=691 then b1 else ρ.b k;rw[if_neg (by omega),if_neg (by omega)],fun _ _=>rfl,
   fun k u=>by show ρ.len k=if k=621 then m else if k=610 then 0 else ρ.len k;rw[if_neg (by omega),if_neg (by omega)],fun l O=>by funext k j;show ρ.ci l k j=if l=620 then(j:Int)else ρ.ci l k j;rw[if_neg (by omega)],fun _ _=>rfl,fun _ _=>rfl,fun _ _=>rfl⟩
  have e1:X.af ρ [.agg (vi 405 9)]=X.af G [.agg (vi 405 9)]:=X.fI ah _ (by kernel_rfl)
  have e2:X.af ρ [KX]=X.af G [KX]:=X.fI ah _ (by kernel_rfl)
  refine⟨G,ah,rfl,rfl,fun j=>rfl,rfl,rfl,adV ?_ ?_ ?_⟩
  ·rw[<-e1];exact v64
  ·rw[<-e1];exact v102
  ·rw[<-e2];exact qT
 have no:∀G,aA 600 ρ G->cf Tryz.prog G iS.c->∀B b6,J.ok G B->(fH iS 51 kY [] B).aq G=some (kO,[])->J.ok G b6->(fH iS 74 kY [] b6).aq G=some (kO,[])->∀k∈cW false++cW true,cy Tryz.prog G k:=fun G _ H B b6 A E h3 h4=>by
  have g1:=uL H (List.forall_mem_nil _) A E
  have g2:=uL H (List.forall_mem_nil _) h3 h4
  have g1:cy Tryz.prog G ⟨51,kY,[],.tup [.top,xn 1],[]⟩:=afC g1 fun C Y hu=>by
   obtain⟨us,rfl,hu⟩:=hu
   refine⟨us,rfl,?_⟩
   obtain⟨v,vs,e,_,h5⟩:=hu
   exact⟨v,vs,e,trivial,h5⟩
  exact List.forall_mem_cons.2 ⟨g1,List.forall_mem_cons.2 ⟨g2,List.forall_mem_cons.2 ⟨Fy g1 rfl,List.forall_mem_cons.2 ⟨Fy g2 rfl,List.forall_mem_nil _⟩⟩⟩⟩
 rcases ahw hn (by omega)with⟨A,h6,u,qT⟩ | ⟨qT,h74⟩
 ·cases ls:eR with
  | false =>
   obtain⟨G,ah,q1,q2,q3,q4,q5,H⟩:=mk true 0 qT
   have bY:=gz ah (by kernel_rfl) O
   have R:J.ok G ((.var 690,false)::di):=J.aw (show G.b 690=false by rw[q4,ls]) bY
   exact⟨G,ah,q1,.inr ⟨q2,no G ah H _ _ R (nU aaA) R (nU aaB)⟩⟩
  | true =>
   obtain⟨G,ah,q1,q2,q3,q4,q5,H⟩:=mk true n qT
   have bY:=gz ah (by kernel_rfl) O
   have vq:bm.I G=n:=by rw[<-U.aP ah bm (by kernel_rfl)];exact hn
   have au:∀k,k<6->(ky k).au 600=true:=fun k u=>by
    rcases(show k=0\/k=1\/k=2\/k=3\/k=4\/k=5 by omega)with rfl | rfl | rfl | rfl | rfl | rfl<;>kernel_rfl
   have aJ:Ee n G:=fun j M=>by
    obtain⟨bp,bj,gU⟩:=u j M
    refine⟨?_,?_,fun k hkj => ?_⟩
    ·rw[<-BE.aP ah (fO j) (by simp only[fO,BE.au,U.au,au j (by omega),Bool.and_self])];exact bp
    ·rw[<-BE.aP ah (fP j) (by simp only[fP,BE.au,U.au,au j (by omega),Bool.and_self])];exact bj
    ·rw[<-BE.aP ah (eY j k) (by simp only[eY,BE.au,au j (by omega),au k (by omega),Bool.and_self])];exact gU k hkj
   have e690:(BE.var 690).I G=true:=by show G.b 690=true;rw[q4,ls]
   have e691:(BE.var 691).I G=true:=q5
   have gs:(qS n&&(sM n&&sN n))=true:=by
    rcases(show n=1\/n=2\/n=3\/n=4\/n=5\/n=6 by omega)with h | h | h | h | h | h<;>subst h
    ·exact Uu
    ·exact Uv
    ·exact Uw
    ·exact Ux
    ·exact Uy
    ·exact Uz
   simp only[Bool.and_eq_true]at gs
   have R:=aaC vq aJ
   have jp:(BE.eq bm (.lit n)).I G=true:=by show(bm.I G==(n:Int))=true;rw[vq];exact beq_self_eq_true _
   have g1:=uL H (List.forall_mem_nil _) (J.aw e690 (J.aw e691 (J.aw jp bY))) (show(fH iS 51 kY [] _).aq G=some (Ht,Rl n)by rw[VM gs.2.1];rfl)
   have g2:=uL H (List.forall_mem_nil _) (J.aw e690 (dZ R bY)) (show(fH iS 74 kY [] _).aq G=some (Ht,Rm n)by rw[VM gs.2.2];rfl)
   have g1:=UA g1 (aep vq A h6 q3)
   have g2:=UA g2 (aeq vq A h6 q3)
   have size:∀j,j<n->1<=(G.cs 194 0 ((j:Int)+(U.cl 2 2 (.var 400)).I G).toNat).size/\(G.cs 194 0 ((j:Int)+(U.cl 2 2 (.var 400)).I G).toNat).size<=16:=fun j M=>by
    obtain⟨bp,bj,_⟩:=aJ j M
    have bp:¬(((ky j).I G).size:Int)<1:=of_decide_eq_false bp
    have bj:¬(16:Int)<(((ky j).I G).size:Int):=of_decide_eq_false bj
    rw[V5]at bp bj
    omega
   refine⟨G,ah,q1,.inl ⟨?_,⟨by omega,fun j M=>size j (by omega),fun j M=>q3 j,fun k u=>by rw[<-ah.i (405+k) (by omega)];exact vcu ls k u⟩,List.forall_mem_cons.2 ⟨g1,List.forall_mem_cons.2 ⟨g2,List.forall_mem_cons.2 ⟨Fy g1 rfl,List.forall_mem_cons.2 ⟨Fy g2 rfl,List.forall_mem_nil _⟩⟩⟩⟩⟩⟩
   have s0:=(size 0 (by omega)).2
   refine kj (by omega) (fR (by omega) (kj ?_ (J.aw ?_ (fR (show(1:Int)<=(G.len 621:Int)by omega) (kj (show(G.len 621:Int)<=6 by omega) (J.bq _))))))
   ·show((G.cs 194 0 ((U.cl 2 2 (.var 400)).I G).toNat).size:Int)<=16
    rw[show((0:Nat):Int)+(U.cl 2 2 (.var 400)).I G=(U.cl 2 2 (.var 400)).I G by omega]at s0
    omega
   ·show(bm.I G==(G.len 621:Int))=true
    rw[vq,q2];exact beq_self_eq_true _
 ·cases ls:eR with
  | false =>
   obtain⟨G,ah,q1,q2,q3,q4,q5,H⟩:=mk false 0 qT
   have bY:=gz ah (by kernel_rfl) O
   have R:J.ok G ((.var 690,false)::di):=J.aw (show G.b 690=false by rw[q4,ls]) bY
   exact⟨G,ah,q1,.inr ⟨q2,no G ah H _ _ R (nU aaA) R (nU aaB)⟩⟩
  | true =>
   obtain⟨G,ah,q1,q2,q3,q4,q5,H⟩:=mk false 0 qT
   have bY:=gz ah (by kernel_rfl) O
   have e690:(BE.var 690).I G=true:=by show G.b 690=true;rw[q4,ls]
   obtain⟨b6,g3,g4⟩:=h74 G ah H bY e690
   exact⟨G,ah,q1,.inr ⟨q2,no G ah H _ _ (J.aw e690 (J.aw (show(BE.var 691).I G=false from q5) bY)) (nU apf) g3 g4⟩⟩
end Go.Proofs.YtpdfmnhgocpkcaaGreat
namespace Go.Proofs.YtpdfmnhgocpkcaaGreat
open Go Go.Proofs.Aw Go.Proofs.Xw
set_option maxRecDepth 100000
def z7:X := .rl 25 (.len 470) (.var 625 gl) false
def rsC:Nat->List X
 | 0=>vi 405 9++vi 500 9++[xi 1,Gr,z7,QA,xn 2,xn 0]
 | 1=>[xi 1,Gr,z7,QA,xn 2]++vi 500 9++[xl true,xn 0]
 | 2=>vi 405 9++vi 600 9++[xi 1,Gr,z7,QA,xn 1,xn 0]
 | _=>[xi 1,Gr,z7,.k (.slice none 0 0),xn 1]++vi 600 9++[xl true,xn 0]
def C9 (v:Nat):Bool:=Nat.beq v 0||Nat.beq v 2
def oU (v:Nat):Nat:=if C9 v=true then 122 else 116
def C8 (v:Nat):Nat:=if C9 v=true then 20 else 5
def YL (v:Nat):X := .ip (rsC v) [] 0
def If (v:Nat) (i o:X):bf:=if C9 v=true then [(21,i),(20,.sc (.i .i64 (.len 470))),(19,z7),(3,o),(18,.top),(17,.top),(16,.top),(15,.top),(14,.top),(13,.top),(12,.top),(11,.top),(10,.top),(9,.top),(8,.top),(7,.top),(6,.top),(2,.top),(0,YL v)]else [(4,i),(3,o),(2,.top),(0,YL v)]
def pT:X := .k (.slice none 0 0)
def YM (v:Nat):X := .slv (C8 v,0) 22 (.lit 0) (.len 630) true
def YK (v:Nat):av:=[((C8 v,0),[.rows 22 (.len 630) (.var 630 fy)])]
def Ic (v:Nat):XS:=⟨If v (xn 0) pT,[],C8 v⟩
def PR (v:Nat):XS:=⟨If v (xi 700) pT,[],C8 v⟩
def Ib (v:Nat):XS:=⟨If v (xi 700) (YM v),YK v,C8 v+1⟩
def PU (v:Nat):XS:=⟨If v (xi 700) (YM v),YK v,90⟩
noncomputable def qb (v:Nat):Code:=(ef ((if C9 v=true then Tryz.f122 else Tryz.f116).body.getD .skip))[0]?.getD .skip
def wJ (i:U):List Sc:=[.s (.cl 470 0 i),.b (.cl 625 1 i)]++(List.range 6).map (fun k=>eo (.cl 625 (2+k) i))++[.s (.cl 625 8 i),.s (.cl 625 9 i),.b (.cl 625 10 i)]++(List.range 11).map fun k=>eo (.cl 625 (11+k) i)
def fU:J:=[(.eq (.var 443) (.lit 1),true),(.lt (.len 470) (.lit 1),false),(.lt (.lit 6) (.len 470),false)]
def YJ (v:Nat):List dq:=[⟨Ib v,[(.lt (.len 630) (.lit 1),false)],[⟨0,[],[],[],[(630,.lit 1,.one (wJ (.var 700)))],[]⟩,⟨1,[],[],[],[(630,.op .cY .i64 (.len 630) (.lit 1),.app (.len 630) (.var 630 fy) (.one (wJ (.var 700))))],[]⟩]⟩]
def p7:U := .op .add .i64 (.var 700) (.lit 1)
def tQ:J:=[(.eq (.var 700) (.lit 0),true),(.lt (.var 700) (.len 470),true)]++fU
def tR:J:=[(.lt (.var 700) (.lit 0),false),(.lt (.var 700) (.len 470),true),(.lt (.len 470) p7,false),(.lt p7 (.lit 0),false),(.lt (.len 630) (.lit 1),false),(.lt (.lit 6) (.len 630),false)]++fU
def tS:J:=[(.lt (.var 700) (.lit 0),false),(.lt (.var 700) (.len 470),false),(.lt (.len 630) (.lit 1),false)]++fU
noncomputable def C7:cr:=⟨bg [] (fun _=>[]),[],[10119]⟩
noncomputable def YO (v:Nat) (S:XS) (B:J):T (XE×XS):=(cz C7.c.ti (eT C7 12) ((C7.c.hV (oU v)).elim [] (·.ms)) 2 [] 1000 (qb v) B S).map (eu (S.t.map (·.1)))
end Go.Proofs.YtpdfmnhgocpkcaaGreat
namespace Go.Proofs.YtpdfmnhgocpkcaaGreat
open Go Go.Proofs.Aw Go.Proofs.Xw
set_option maxRecDepth 100000
noncomputable def lQ (v i:Nat) (B:J):Bool:=dX 2 630 700 [] (0,[]) i (YJ v) (PU v) .normal B (YO v (if Nat.beq i 0=true then PR v else Ib v) B)
noncomputable def wI (v:Nat) (B:J):Bool:=dX 2 630 700 [] (0,[]) 1 [] (PU v) (.exit 0) B (YO v (Ib v) B)
theorem rn0:(lQ 0 0 tQ&&(lQ 0 1 tR&&wI 0 tS))=true:=by kernel_rfl
theorem rn1:(lQ 1 0 tQ&&(lQ 1 1 tR&&wI 1 tS))=true:=by kernel_rfl
theorem rn2:(lQ 2 0 tQ&&(lQ 2 1 tR&&wI 2 tS))=true:=by kernel_rfl
theorem rn3:(lQ 3 0 tQ&&(lQ 3 1 tR&&wI 3 tS))=true:=by kernel_rfl
theorem aqr {v:Nat} (h:v<4):lQ v 0 tQ=true/\lQ v 1 tR=true/\wI v tS=true:=by
 have go:∀v,(lQ v 0 tQ&&(lQ v 1 tR&&wI v tS))=true->lQ v 0 tQ=true/\lQ v 1 tR=true/\wI v tS=true:=fun v h=>by
  simpa only[Bool.and_eq_true]using h
 rcases(show v=0\/v=1\/v=2\/v=3 by omega)with rfl | rfl | rfl | rfl
 ·exact go 0 rn0
 ·exact go 1 rn1
 ·exact go 2 rn2
 ·exact go 3 rn3
noncomputable def jj (ρ:aa) (x:Int):List AV:=cd { ρ with i:=fun _=>x } (wJ (.var 0))
theorem YP {ρ G:aa} (ah:aA 630 ρ G) (x:Int):jj ρ x=jj G x:=by
 unfold jj cd wJ
 simp only[List.map_append,List.map_cons,List.map_nil,List.map_map,Function.comp_def,Sc.I,eo,U.I,BE.I,TE.I,ah.ci 625 (by decide),ah.cb 625 (by decide),ah.cs 625 (by decide),ah.cs 470 (by decide)]
theorem Ys {G:aa} {j:Nat} {l:List AV} (hi:∀k,G.ci 630 k j=aH l[k]?) (hb:∀k,G.cb 630 k j=dS l[k]?) (hs:∀k,G.cs 630 k j=cellS l[k]?) :
  (RL.var 630 fy).row G (j:Int)=[.sc (.string (cellS l[0]?)),.sc (.bool (dS l[1]?)),.sc (.int .i64 (aH l[2]?)),.sc (.int .i64 (aH l[3]?)),.sc (.int .i64 (aH l[4]?)),.sc (.int .i64 (aH l[5]?)),.sc (.int .i64 (aH l[6]?)),.sc (.int .i64 (aH l[7]?)),.sc (.string (cellS l[8]?)),.sc (.string (cellS l[9]?)),.sc (.bool (dS l[10]?)),.sc (.int .i64 (aH l[11]?)),.sc (.int .i64 (aH l[12]?)),.sc (.int .i64 (aH l[13]?)),.sc (.int .i64 (aH l[14]?)),.sc (.int .i64 (aH l[15]?)),.sc (.int .i64 (aH l[16]?)),.sc (.int .i64 (aH l[17]?)),.sc (.int .i64 (aH l[18]?)),.sc (.int .i64 (aH l[19]?)),.sc (.int .i64 (aH l[20]?)),.sc (.int .i64 (aH l[21]?))]:=by
 simp only[<-hi,<-hb,<-hs]
 rfl
theorem PJ {ρ G:aa} {x:Int} {j:Nat} (hi:∀k,G.ci 630 k j=aH (jj ρ x)[k]?) (hb:∀k,G.cb 630 k j=dS (jj ρ x)[k]?) (hs:∀k,G.cs 630 k j=cellS (jj ρ x)[k]?):(RL.var 630 fy).row G (j:Int)=jj ρ x:=by
 rw[Ys hi hb hs];rfl
theorem aqw {ρ G:aa} {j:Nat} (hi:∀k,G.ci 630 k j=aH ((RL.var 630 fy).row ρ (j:Int))[k]?) (hb:∀k,G.cb 630 k j=dS ((RL.var 630 fy).row ρ (j:Int))[k]?) (hs:∀k,G.cs 630 k j=cellS ((RL.var 630 fy).row ρ (j:Int))[k]?):(RL.var 630 fy).row G (j:Int)=(RL.var 630 fy).row ρ (j:Int):=by
 rw[Ys hi hb hs];rfl
structure RU (al ρ:aa) (i:Nat):Prop where
 ah:aA 630 al ρ
 z:i=0->ρ.i 700=0
 b:i≠0->i=1/\∃m:Nat,1<=m/\m<=al.len 470/\ρ.i 700=m/\ρ.len 630=m/\∀j,j<m->(RL.var 630 fy).row ρ (j:Int)=jj al j
structure RV (al ρ:aa):Prop where
 l:ρ.len 630=al.len 470
 r:∀j,j<al.len 470->(RL.var 630 fy).row ρ (j:Int)=jj al j
noncomputable def wH (v:Nat):Nat:=if C9 v=true then Tryz.f122.ntmps else Tryz.f116.ntmps
noncomputable def tT (v:Nat):bo:=⟨(dF (qb v)).getD 0,2,630,Ic v,gJ,[],.ret (.exit 0,PU v)⟩
theorem PV {v:Nat} (h:v<4):dp (wH v) (qb v)=true:=by
 rcases(show v=0\/v=1\/v=2\/v=3 by omega)with rfl | rfl | rfl | rfl<;>kernel_rfl
theorem aqM {v:Nat} (h:v<4):(Ic v).au 630=true:=by
 rcases(show v=0\/v=1\/v=2\/v=3 by omega)with rfl | rfl | rfl | rfl<;>kernel_rfl
def YN:Bind:=⟨[(700,.lit 0)],[],[],[]⟩
theorem aqN {v:Nat} (h:v<4):gp 2 630 YN [] (PR v) (Ic v)=true:=by
 rcases(show v=0\/v=1\/v=2\/v=3 by omega)with rfl | rfl | rfl | rfl<;>kernel_rfl
def Ie (v i:Nat):XS:=if i=0 then PR v else Ib v
theorem aqO {v:Nat} (R:v<4) {ρ:aa} (dv:ρ.i 443=1) (A:1<=ρ.len 470) (h6:ρ.len 470<=6):∃ar,aA 630 ρ ar/\RV ρ ar/\b8 Tryz.prog ar (wH v) (qb v) (tT v):=by
 have H:∀G,cf Tryz.prog G C7.c:=fun G=>lb (List.forall_mem_nil _)
 obtain⟨r0,r1,r2⟩:=aqr R
 refine rz (P:=Tryz.prog) (N:=wH v) (body:=qb v) (k0:=2) (n:=630) (S0:=Ic v) (ρ:=ρ) (aqM R) (Ie v) (tT v) ⟨rfl,rfl,rfl⟩ (fun i G=>RU ρ G i) (RV ρ) (fun G=>ρ.len 470-(G.i 700).toNat) (fun i G hR => ?_) ⟨0,YN.ap ρ,Bind.bC (by kernel_rfl) ρ,⟨Bind.bC (by kernel_rfl) ρ,fun _=>rfl,fun h=>absurd rfl h⟩,fun ac _ bM=>lL bM (aqN R) ρ⟩
 have ah:=hR.ah
 have l4:G.len 470=ρ.len 470:=(ah.len 470 (by decide)).symm
 have aO:=ft (c:=C7) (H G) (List.forall_mem_nil _) 12
 have kv:J.ok G fU:=J.aw (by show(G.i 443==1)=true;rw[<-ah.i 443 (by decide),dv];rfl) (fR (show(1:Int)<=(G.len 470:Int)by omega) (kj (show(G.len 470:Int)<=6 by omega) (J.bq _)))
 have p7d:∀m:Nat,G.i 700=m->m<=6->p7.I G=m+1:=fun m hm h=>by
  refine(show p7.I G=IntKind.i64.wrap (G.i 700+1)from rfl).trans ?_
  rw[hm];exact cp _ (by omega) (by omega)
 have iH:∀(m:Nat),G.i 700=m->m<ρ.len 470->(i=0->m=0)->(i≠0->G.len 630=m/\∀j,j<m->(RL.var 630 fy).row G (j:Int)=jj ρ j)->(∃(j:Nat) (C:dq) (ax:aa),(YJ v)[j]? = some C/\ei Tryz.prog (wH v) (qb v) 2 (Ie v i) C.S G ax/\J.ok ax C.b6/\ax.i 700=IntKind.i64.wrap (G.i 700+1)/\aA 630 G ax/\(eP 0 [] G->eP 0 [] ax)/\(C.dm=[]\/∃a∈C.dm,a.fr=i/\gR a G ax)) ->
   ∃i' ax,ei Tryz.prog (wH v) (qb v) 2 (Ie v i) (Ie v i') G ax/\RU ρ ax i'/\ρ.len 470-(ax.i 700).toNat<ρ.len 470-(G.i 700).toNat/\aA 630 G ax:=fun m hm aT hz hb ⟨j,C,ax,A,E,_,h4,h5,_,h7⟩=>by
  have e4:ax.i 700=m+1:=by rw[h4,hm];exact cp _ (by omega) (by omega)
  match j,A with
  | 0,A =>
   cases A
   refine⟨1,ax,E,⟨ah.trans h5,fun h=>by omega,fun _=>⟨rfl,m+1,by omega,by omega,by omega,?_,fun j M => ?_⟩⟩,by omega,h5⟩
   all_goals
    simp only[List.cons_ne_nil,false_or,List.mem_cons,List.not_mem_nil,or_false]at h7
    obtain⟨a,ha,d5,a2⟩:=h7
   ·rcases ha with rfl | rfl
    ·have h0:0=i:=d5
     have:=(a2.2.2.2 _ List.mem_cons_self).1
     rw[this,hz h0.symm];rfl
    ·have h0:1=i:=d5
     have:=(a2.2.2.2 _ List.mem_cons_self).1
     rw[this]
     show(((G.len 630:Nat):Int)+1).toNat=m+1
     rw[(hb (by omega)).1];omega
   ·rcases ha with rfl | rfl
    ·have h0:0=i:=d5
     have mm:=hz h0.symm
     obtain rfl:j=0:=by omega
     obtain⟨_,ci,cb,cs⟩:=a2.2.2.2 _ List.mem_cons_self
     have e:(RL.one (wJ (.var 700))).row G ((0:Nat):Int)=jj G (G.i 700):=rfl
     rw[YP ah,show((0:Nat):Int)=G.i 700 by rw[hm,mm]]
     rw[show G.i 700=((0:Nat):Int)by rw[hm,mm]]
     refine PJ (fun k => ?_) (fun k => ?_) (fun k => ?_)
     ·rw[ci k 0,e,hm,mm]
     ·rw[cb k 0,e,hm,mm]
     ·rw[cs k 0,e,hm,mm]
    ·have h0:1=i:=d5
     obtain⟨O,hr⟩:=hb (by omega)
     obtain⟨_,ci,cb,cs⟩:=a2.2.2.2 _ List.mem_cons_self
     by_cases FT:j<m
     ·have e:(RL.app (.len 630) (.var 630 fy) (.one (wJ (.var 700)))).row G ((j:Nat):Int)=(RL.var 630 fy).row G (j:Int):=by
       show(if(j:Int)<(G.len 630:Int)then(RL.var 630 fy).row G (j:Int)else _)=_
       rw[if_pos (by omega)]
      rw[<-hr j FT]
      refine aqw (fun k => ?_) (fun k => ?_) (fun k => ?_)
      ·rw[ci k j,e]
      ·rw[cb k j,e]
      ·rw[cs k j,e]
     ·obtain rfl:j=m:=by omega
      have e:(RL.app (.len 630) (.var 630 fy) (.one (wJ (.var 700)))).row G ((j:Nat):Int)=jj G (G.i 700):=by
       show(if(j:Int)<(G.len 630:Int)then _ else jj G (G.i 700))=_
       rw[if_neg (by omega)]
      rw[YP ah]
      refine PJ (fun k => ?_) (fun k => ?_) (fun k => ?_)
      ·rw[ci k j,e,hm]
      ·rw[cb k j,e,hm]
      ·rw[cs k j,e,hm]
  | j+1,A=>cases A
 by_cases hi:i=0
 ·subst hi
  right
  have hz:=hR.z rfl
  have u:J.ok G tQ:=J.aw (by show(G.i 700==0)=true;rw[hz];rfl) (J.aw (decide_eq_true (by show G.i 700<(G.len 470:Int);omega)) kv)
  exact iH 0 hz (by omega) (fun _=>rfl) (fun h=>absurd rfl h) (jZ mixed dj aO (a5.nil _ _ _ _) (PV R) u r0)
 ·obtain⟨FS,m,m1,m2,rt,Wp,Wq⟩:=hR.b hi
  subst FS
  by_cases hm:m<ρ.len 470
  ·right
   have hp:=p7d m rt (by omega)
   have u:J.ok G tR:=fR (show(0:Int)<=G.i 700 by omega) (J.aw (decide_eq_true (by show G.i 700<(G.len 470:Int);omega)) (fF (show p7.I G<=(G.len 470:Int)by rw[hp];omega) (fR (by rw[hp];omega) (fR (show(1:Int)<=(G.len 630:Int)by omega) (kj (show(G.len 630:Int)<=6 by omega) kv)))))
   exact iH m rt hm (fun h=>absurd h (by decide)) (fun _=>⟨Wp,Wq⟩) (jZ mixed dj aO (a5.nil _ _ _ _) (PV R) u r1)
  ·left
   obtain rfl:m=ρ.len 470:=by omega
   have u:J.ok G tS:=fR (show(0:Int)<=G.i 700 by omega) (J.aw (decide_eq_false (by show ¬G.i 700<(G.len 470:Int);omega)) (fR (show(1:Int)<=(G.len 630:Int)by omega) kv))
   refine⟨⟨Wp,Wq⟩,?_⟩
   rcases ij mixed dj aO (a5.nil _ _ _ _) (PV R) u r2 with h | ⟨j,C,_,A,_⟩
   ·exact h
   ·simp at A
end Go.Proofs.YtpdfmnhgocpkcaaGreat
namespace Go.Proofs.YtpdfmnhgocpkcaaGreat
open Go Go.Proofs.Aw Go.Proofs.Xw
set_option maxRecDepth 100000
def iJ (L:RL):Nat->av
 | 0=>[((0,0),vi 405 9++vi 500 9++[xi 1,aZ (0,1) 1 (.len 470),aZ (0,2) 25 (.len 470),fD false,xn 2,xn 0]),((0,1),kR),((0,2),[.rows 25 (.len 470) L]),((0,3),oR)]
 | 1=>[((0,0),[xi 1,aZ (0,1) 1 (.len 470),aZ (0,2) 25 (.len 470),fD false,xn 2]++vi 500 9++[xl true,xn 0]),((0,1),kR),((0,2),[.rows 25 (.len 470) L]),((0,3),oR)]
 | 2=>[((0,0),vi 405 9++vi 600 9++[xi 1,aZ (0,1) 1 (.len 470),aZ (0,2) 25 (.len 470),fD false,xn 1,xn 0]),((0,1),kR),((0,2),[.rows 25 (.len 470) L]),((0,3),oR)]
 | _=>[((0,0),[xi 1,aZ (0,1) 1 (.len 470),aZ (0,2) 25 (.len 470),.k (.slice none 0 0),xn 1]++vi 600 9++[xl true,xn 0]),((0,1),kR),((0,2),[.rows 25 (.len 470) L])]
def c_:RL := .var 625 gl
noncomputable def PS (v:Nat) (g:Nat):List bo:=if Nat.beq g (oU v)=true then [tT v]else []
noncomputable def zk (v:Nat):cr:=⟨bg [] (PS v),[],[10119]⟩
def YQ:X := .rl 22 (.len 630) (.var 630 fy) false
def zl:J:=fU++(o6++[(.lt (.len 630) (.lit 1),false)])
def vM:T (X×aN)->Bool
 | .ret (r,d)=>X.beq r YQ&&d.isEmpty
 | _=>false
theorem aqQ:(vM (uM (zk 0) (oU 0) [.ptr (0,0) [] 0] (iJ c_ 0) zl)&&yT (iJ c_ 0)&&(vM (uM (zk 1) (oU 1) [.ptr (0,0) [] 0] (iJ c_ 1) zl)&&yT (iJ c_ 1))&&(vM (uM (zk 2) (oU 2) [.ptr (0,0) [] 0] (iJ c_ 2) zl)&&yT (iJ c_ 2))&&(vM (uM (zk 3) (oU 3) [.ptr (0,0) [] 0] (iJ c_ 3) zl)&&yT (iJ c_ 3)))=true:=by kernel_rfl
theorem aqR {v:Nat} (h:v<4):vM (uM (zk v) (oU v) [.ptr (0,0) [] 0] (iJ c_ v) zl)=true/\yT (iJ c_ v)=true:=by
 have q:=aqQ
 simp only[Bool.and_eq_true]at q
 obtain⟨⟨⟨rx,q1⟩,q2⟩,q3⟩:=q
 rcases(show v=0\/v=1\/v=2\/v=3 by omega)with rfl | rfl | rfl | rfl
 ·exact rx
 ·exact q1
 ·exact q2
 ·exact q3
theorem ahe {t:T (X×aN)} (h:vM t=true):t = .ret (YQ,[]):=by
 cases t with
 | ret p =>
  obtain⟨r,d⟩:=p
  simp only[vM,Bool.and_eq_true]at h
  rw[X.beq_eq _ _ h.1,List.isEmpty_iff.1 h.2]
 | br _ _ _=>cases h
 | cT _ _=>cases h
 | fail _=>cases h
theorem aqP {v:Nat} (R:v<4) {ρ:aa} (h:b8 Tryz.prog ρ (wH v) (qb v) (tT v)):∀g i,eS g gA=some i->a5 Tryz.prog ρ i.ntmps (PS v g) i.body:=fun g i hi=>by
 unfold PS
 split
 ·rename_i hf
  have hf:=Nat.eq_of_beq_eq_true hf
  subst hf
  have g0:j6 Tryz.prog (oU v) i:=oc (oU v,i) (k8 _ _ (k7 hi))
  have go:∀(fn:Func),Tryz.prog.funcs[oU v]? = some fn->wH v=fn.ntmps->qb v=(ef (fn.body.getD .skip))[0]?.getD .skip->wm [tT v] [0] 0 (ef (fn.body.getD .skip))=true->jO (dF (qb v)) [tT v]=[tT v]->a5 Tryz.prog ρ i.ntmps [tT v] i.body:=fun fn e1 e2 e3 e4 iV=>by
   refine pN g0 e1 ?_
   rw[e2]at h
   refine lE (c:=fn.body.getD .skip) [0] e4 (List.forall_mem_cons.2 ⟨?_,List.forall_mem_nil _⟩)
   rw[<-e3]
   exact lD iV h
  rcases(show v=0\/v=1\/v=2\/v=3 by omega)with rfl | rfl | rfl | rfl
  ·exact go Tryz.f122 Tryz.func122 rfl rfl (by kernel_rfl) (by kernel_rfl)
  ·exact go Tryz.f116 Tryz.func116 rfl rfl (by kernel_rfl) (by kernel_rfl)
  ·exact go Tryz.f122 Tryz.func122 rfl rfl (by kernel_rfl) (by kernel_rfl)
  ·exact go Tryz.f116 Tryz.func116 rfl rfl (by kernel_rfl) (by kernel_rfl)
 ·exact a5.nil _ _ _ _
theorem afD {ρ G:aa} {f:Nat} {args:List X} {h h':av} {r r':X} (Z:cy Tryz.prog ρ ⟨f,args,h,r,lz h⟩) (ha:X.af ρ args=X.af G args) (W:aK ρ h=aK G h') (hr:r.I ρ=r'.I G):cy Tryz.prog G ⟨f,args,h',r',lz h'⟩:=by
 have e:∀(ρ:aa) (h:av),bn ρ (lz h)=(aK ρ h).map fun q=>(q.1,some q.2):=fun ρ h=>by
  simp only[bn,lz,aK,List.map_map];rfl
 refine⟨Z.1,?_⟩
 have q:=Z.2
 simp only[e]at q ⊢
 rw[ha,W,hr]at q
 exact q
theorem sD {n:Nat} {ρ G:aa} (ah:aA n ρ G) (h:av) (hb:(XS.mk [] h 0).au n=true):aK ρ h=aK G h:=congrArg St.h (XS.aP ah (XS.mk [] h 0) hb)
theorem aqt {G:aa} {j:Nat} {l:List AV} (hi:∀k,G.ci 625 k j=aH l[k]?) (hb:∀k,G.cb 625 k j=dS l[k]?) (hs:∀k,G.cs 625 k j=cellS l[k]?) :
  (RL.var 625 gl).row G (j:Int)=[.sc (.int .i64 (aH l[0]?)),.sc (.bool (dS l[1]?)),.sc (.int .i64 (aH l[2]?)),.sc (.int .i64 (aH l[3]?)),.sc (.int .i64 (aH l[4]?)),.sc (.int .i64 (aH l[5]?)),.sc (.int .i64 (aH l[6]?)),.sc (.int .i64 (aH l[7]?)),.sc (.string (cellS l[8]?)),.sc (.string (cellS l[9]?)),.sc (.bool (dS l[10]?)),.sc (.int .i64 (aH l[11]?)),.sc (.int .i64 (aH l[12]?)),.sc (.int .i64 (aH l[13]?)),.sc (.int .i64 (aH l[14]?)),.sc (.int .i64 (aH l[15]?)),.sc (.int .i64 (aH l[16]?)),.sc (.int .i64 (aH l[17]?)),.sc (.int .i64 (aH l[18]?)),.sc (.int .i64 (aH l[19]?)),.sc (.int .i64 (aH l[20]?)),.sc (.int .i64 (aH l[21]?)),.sc (.int .i64 (aH l[22]?)),.sc (.int .i64 (aH l[23]?)),.sc (.int .i64 (aH l[24]?))]:=by
 simp only[<-hi,<-hb,<-hs]
 rfl
noncomputable def bK (ρ:aa) (ag:Bool):aa:={ ρ with ci:=fun l k j=>if l=625 then aH ((cc ag).row ρ (j:Int))[k]? else ρ.ci l k j,cb:=fun l k j=>if l=625 then dS ((cc ag).row ρ (j:Int))[k]? else ρ.cb l k j,cs:=fun l k j=>if l=625 then cellS ((cc ag).row ρ (j:Int))[k]? else ρ.cs l k j }
theorem y5 (ρ:aa) (ag:Bool):aA 625 ρ (bK ρ ag):=⟨fun _ _=>rfl,fun _ _=>rfl,fun _ _=>rfl,fun _ _=>rfl,
 fun l O=>by funext k j;show _=if l=625 then _ else _;rw[if_neg (by omega)],fun l O=>by funext k j;show _=if l=625 then _ else _;rw[if_neg (by omega)],fun l O=>by funext k j;show _=if l=625 then _ else _;rw[if_neg (by omega)],fun _ _=>rfl⟩
theorem aph (ρ:aa) (ag:Bool) (j:Nat):(RL.var 625 gl).row (bK ρ ag) (j:Int)=(cc ag).row ρ (j:Int):=by
 rw[aqt (G:=bK ρ ag) (j:=j) (l:=(cc ag).row ρ (j:Int)) (fun _=>rfl) (fun _=>rfl) (fun _=>rfl)]
 by_cases M:(j:Int)=hv.I ρ
 ·have e:(cc ag).row ρ j=cd ρ (mV ag):=by
   show(if(j:Int)=hv.I ρ then cd ρ (mV ag)else(RL.var 472 gl).row ρ j)=_
   rw[if_pos M]
  rw[e]
  cases ag<;>rfl
 ·have e:(cc ag).row ρ j=(RL.var 472 gl).row ρ j:=by
   show(if(j:Int)=hv.I ρ then cd ρ (mV ag)else(RL.var 472 gl).row ρ j)=_
   rw[if_neg M]
  rw[e]
  rfl
noncomputable def y6 (ρ:aa):aa:={ ρ with ci:=fun l k j=>if l=630 then aH (jj ρ (j:Int))[k]? else ρ.ci l k j,cb:=fun l k j=>if l=630 then dS (jj ρ (j:Int))[k]? else ρ.cb l k j,cs:=fun l k j=>if l=630 then cellS (jj ρ (j:Int))[k]? else ρ.cs l k j }
theorem api (ρ:aa):aA 630 ρ (y6 ρ):=⟨fun _ _=>rfl,fun _ _=>rfl,fun _ _=>rfl,fun _ _=>rfl,
 fun l O=>by funext k j;show _=if l=630 then _ else _;rw[if_neg (by omega)],fun l O=>by funext k j;show _=if l=630 then _ else _;rw[if_neg (by omega)],fun l O=>by funext k j;show _=if l=630 then _ else _;rw[if_neg (by omega)],fun _ _=>rfl⟩
theorem apj (ρ:aa) (j:Nat):(RL.var 630 fy).row (y6 ρ) (j:Int)=jj ρ j:=PJ (ρ:=ρ) (G:=y6 ρ) (j:=j) (x:=(j:Int)) (fun _=>rfl) (fun _=>rfl) (fun _=>rfl)
theorem JO (ρ:aa) (ag:Bool):aB (bK ρ ag) [.rows 25 (.len 470) c_]=aB (bK ρ ag) [.rows 25 (.len 470) (cc ag)]:=by
 have ah:=y5 ρ ag
 show(aX (bK ρ ag) (.len 470) c_).flatten=(aX (bK ρ ag) (.len 470) (cc ag)).flatten
 unfold aX
 congr 1
 refine List.map_congr_left fun j _ => ?_
 rw[show c_=RL.var 625 gl from rfl,aph]
 exact RL.iR ah (cc ag) _ (by cases ag<;>kernel_rfl)
theorem aqL (ρ:aa) (ag:Bool) (v:Nat) (R:v<4):aK (bK ρ ag) (iJ c_ v)=aK (bK ρ ag) (iJ (cc ag) v):=by
 have e:=JO ρ ag
 rcases(show v=0\/v=1\/v=2\/v=3 by omega)with rfl | rfl | rfl | rfl
 ·show [(_,_),(_,_),(_,aB (bK ρ ag) [.rows 25 (.len 470) c_]),(_,_)]=[(_,_),(_,_),(_,aB (bK ρ ag) [.rows 25 (.len 470) (cc ag)]),(_,_)]
  rw[e]
 ·show [(_,_),(_,_),(_,aB (bK ρ ag) [.rows 25 (.len 470) c_]),(_,_)]=[(_,_),(_,_),(_,aB (bK ρ ag) [.rows 25 (.len 470) (cc ag)]),(_,_)]
  rw[e]
 ·show [(_,_),(_,_),(_,aB (bK ρ ag) [.rows 25 (.len 470) c_]),(_,_)]=[(_,_),(_,_),(_,aB (bK ρ ag) [.rows 25 (.len 470) (cc ag)]),(_,_)]
  rw[e]
 ·show [(_,_),(_,_),(_,aB (bK ρ ag) [.rows 25 (.len 470) c_])]=[(_,_),(_,_),(_,aB (bK ρ ag) [.rows 25 (.len 470) (cc ag)])]
  rw[e]
theorem aqJ:([true,false].all fun ag=>[0,1,2,3].all fun v=>(XS.mk [] (iJ (cc ag) v) 0).au 625&&(XS.mk [] (iJ c_ v) 0).au 630)=true:=by kernel_rfl
theorem aqK (ag:Bool) {v:Nat} (R:v<4):(XS.mk [] (iJ (cc ag) v) 0).au 625=true/\(XS.mk [] (iJ c_ v) 0).au 630=true:=by
 have h:=List.all_eq_true.1 aqJ ag (by cases ag<;>simp)
 have h:=List.all_eq_true.1 h v (by simp only[List.mem_cons,List.not_mem_nil,or_false];omega)
 simpa only[Bool.and_eq_true]using h
theorem YR {ρ:aa} (ag:Bool) (hT:TI ρ) (dv:ρ.i 443=1):∃G,aA 625 ρ G/\∀v,v<4->cy Tryz.prog G ⟨oU v,[.ptr (0,0) [] 0],iJ (cc ag) v,C_,lz (iJ (cc ag) v)⟩:=by
 have bp:=y5 ρ ag
 have bj:=api (bK ρ ag)
 refine⟨y6 (bK ρ ag),bp.trans (bj.le (by decide)),fun v R => ?_⟩
 have L6:=hT.bC (bp.le (by decide))
 have n1:=L6.n1
 have n6:=L6.n6
 obtain⟨ar,sr,ii,hL⟩:=aqO R (ρ:=bK ρ ag) dv n1 n6
 obtain⟨y1,y2⟩:=aqR R
 have hTf:=L6.bC (sr.le (by decide))
 have H:cf Tryz.prog ar (zk v).c:=jz (List.forall_mem_nil _) (aqP R hL)
 have l4:ar.len 470=(bK ρ ag).len 470:=(sr.len 470 (by decide)).symm
 have e43:ar.i 443=1:=by rw[<-sr.i 443 (by decide)];exact dv
 have bt:J.ok ar fU:=J.aw (by show(ar.i 443==1)=true;rw[e43];rfl) (fR (show(1:Int)<=(ar.len 470:Int)by omega) (kj (show(ar.len 470:Int)<=6 by omega) (J.bq _)))
 have dV:J.ok ar [(.lt (.len 630) (.lit 1),false)]:=fR (show(1:Int)<=(ar.len 630:Int)by rw[ii.l];omega) (J.bq _)
 have u:J.ok ar zl:=dZ bt (dZ hTf.tr dV)
 have g:=adk H (List.forall_mem_nil _) u (by rw[ahe y1];rfl) y2
 obtain⟨b1,b2⟩:=aqK ag R
 refine afD g rfl ?_ ?_
 ·rw[<-sD sr _ b2,aqL ρ ag v R]
  exact sD (bj.le (by decide)) _ b1
 ·show AV.ro 22 (aX ar (.len 630) (.var 630 fy)) false=AV.ro 22 (aX (y6 (bK ρ ag)) (.len 470) (.var 630 fy)) false
  congr 1
  unfold aX
  have e1:((U.len 630).I ar).toNat=(bK ρ ag).len 470:=by show((ar.len 630:Nat):Int).toNat=_;rw[ii.l];exact Int.toNat_natCast _
  have e2:((U.len 470).I (y6 (bK ρ ag))).toNat=(bK ρ ag).len 470:=Int.toNat_natCast _
  rw[e1,e2]
  refine List.map_congr_left fun j M => ?_
  rw[ii.r j (List.mem_range.1 M),apj]
end Go.Proofs.YtpdfmnhgocpkcaaGreat
namespace Go.Proofs.YtpdfmnhgocpkcaaGreat
open Go Go.Proofs.Aw Go.Proofs.Xw
set_option maxRecDepth 100000
def xI (i:U):AL:=(List.range 6).foldr (fun k r => .i (.cl 625 (2+k) i) r) (.s (.cl 625 8 i) (.s (.cl 625 9 i) (.b (.cl 625 10 i) ((List.range 11).foldr (fun k r => .i (.cl 625 (11+k) i) r) .nil))))
def qo (dT:Nat) (td:X) (rd:Int):av:=[((0,0),vi 405 9++vi dT 9++[xi 1,aZ (0,1) 1 (.len 470),aZ (0,2) 25 (.len 470),td,xn rd,xn 0]),((0,1),kR),((0,2),[.rows 25 (.len 470) c_]),((0,3),oR)]
def QQ (i:X):bf:=[(11,i),(10,.sc (.i .i64 (.len 470))),(9,aZ (0,2) 25 (.len 470)),(8,.top),(7,.top),(6,.top),(0,.ptr (0,0) [] 0)]
def DG:XS:=⟨QQ (xn 0),qo 405 (fD false) 1,8⟩
def uk:XS:=⟨QQ (xi 700),qo 640 (fD false) 1,8⟩
def sf:XS:=⟨QQ .top,qo 640 (fD false) 1,60⟩
noncomputable def o7:Code:=(ef (Tryz.f120.body.getD .skip))[0]?.getD .skip
def fj:BE := .cl 625 1 (.var 700)
def wr7:BE := .eq (.uf 2 0 (xI (.var 700))) (.lit 1)
def ki4:List Nat:=[640,641,642,643,644,645,646,647,648]
def Z5:List dq:=[⟨uk,[],[⟨0,[],[],(List.range 9).map (fun k=>(640+k,.op .max .i64 (.op .max .i64 (.lit 0) (.var (640+k))) (.uf 3 k (xI (.var 700))))),[],[(fj,true)]⟩,⟨0,ki4,[],[],[],[(fj,false)]⟩]⟩]
def IV:J:=[(.lt (.var 700) (.lit 0),false),(.lt (.var 700) (.len 470),true),(.lt (.len 470) p7,false),(.lt p7 (.lit 0),false)]++fU
def Z6:J:=[(.lt (.var 700) (.lit 0),false),(.lt (.var 700) (.len 470),false)]++fU
noncomputable def hD:cr:=⟨bg [] (fun _=>[]),hj,[10119]⟩
noncomputable def Z9 (B:J):T (XE×XS):=(cz hD.c.ti (eT hD 12) ((hD.c.hV 120).elim [] (·.ms)) 2 [] 1000 o7 B uk).map (eu (uk.t.map (·.1)))
noncomputable def Z7 (B:J):Bool:=dX 2 630 700 [] (0,[]) 0 Z5 sf .normal B (Z9 B)
noncomputable def tuX (B:J):Bool:=dX 2 630 700 [] (0,[]) 0 [] sf (.exit 0) B (Z9 B)
theorem asL:(Z7 ((fj,true)::(wr7,true)::IV)&&(Z7 ((fj,false)::IV)&&tuX Z6))=true:=by kernel_rfl
end Go.Proofs.YtpdfmnhgocpkcaaGreat
