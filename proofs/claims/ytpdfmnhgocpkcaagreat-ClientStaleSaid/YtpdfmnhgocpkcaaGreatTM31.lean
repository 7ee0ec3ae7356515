/- Parts of the proof, one behind the other. -/
import Derived.Test.YtpdfmnhgocpkcaaGreatTM30
import Derived.Test.YtpdfmnhgocpkcaaGreatTM15
import Derived.Test.YtpdfmnhgocpkcaaGreatTM9
import Derived.Test.YtpdfmnhgocpkcaaGreatTM4
namespace Go.Proofs.YtpdfmnhgocpkcaaGreat
open Go Go.Proofs.Aw Go.Proofs.Xw
set_option maxRecDepth 100000
def Dm (n:Nat):J:=(.eq bh (.lit n),true)::((List.range n).flatMap fun j=>(fJ j,false)::(fK j,false)::((List.range j).flatMap fun k=>[(eS j k,false),(eS k j,false)]))
def VC (B:J):T X->Bool
 | .ret (.sc (.b e))=>sU (fu B e)
 | _=>false
def lH (m:Nm) (z n:Nat):X := .sl m z 0 n true
def Q9 (n:Nat):aL:=[((1,0),some (vi 405 9++vi 405 9++[xi 1,aY (1,1) 1 bh,aY (1,2) 25 bh,lH (1,3) 1 n,xn 1,xn 0])),((1,1),some [.rows 1 bh om]),((1,2),some [.rows 25 bh zT]),((1,3),some ((List.range n).map fun(j:Nat)=>xn j))]
def zU:List X:=[xn 0,xl false]++List.replicate 6 (xn 0)++[.sc (.s (.lit ⟨#[]⟩)),.sc (.s (.lit ⟨#[]⟩)),xl false]++List.replicate 14 (xn 0)
def Q_ (n:Nat):aL:=[((1,0),some ([xi 1,lH (1,1) 1 n,lH (1,2) 25 n,lH (1,3) 1 n,xn 1]++vi 405 9++[xl false,xn 0])),((1,1),some ((List.range n).map fun j => .sc (.s (ky j)))),((1,2),some ((List.range n).flatMap fun _=>zU)),((1,3),some ((List.range n).map fun(j:Nat)=>xn j))]
def G8:X := .tup [.ptr (1,0) [] 0,xn 0]
def z5:aL->aL->Bool
 | [],[]=>true
 | (m,some a)::r,(k,some b)::s=>cN m k&&(X.fh a b&&z5 r s)
 | _,_=>false
theorem R_:∀{a b:aL},z5 a b=true->a=b
 | [],[],_=>rfl
 | (m,some a)::r,(k,some b)::s,h=>by
  simp only[z5,Bool.and_eq_true]at h
  rw[ew h.1,X.gN _ _ h.2.1,R_ h.2.2]
 | [],_::_,h=>by simp[z5]at h
 | (_,some _)::_,[],h=>by cases h
 | (_,none)::_,[],h=>by cases h
 | (_,none)::_,(_,some _)::_,h=>by cases h
 | (_,none)::_,(_,none)::_,h=>by cases h
 | (_,some _)::_,(_,none)::_,h=>by cases h
def FU (d:aL):T (X×aL)->Bool
 | .ret (r,e)=>X.beq r G8&&z5 e d
 | _=>false
theorem Vw {d:aL} {t:T (X×aL)} (h:FU d t=true):t = .ret (G8,d):=by
 cases t with
 | ret p =>
  obtain⟨r,e⟩:=p
  simp only[FU,Bool.and_eq_true]at h
  rw[X.beq_eq _ _ h.1,R_ h.2]
 | br _ _ _=>cases h
 | cL _ _=>cases h
 | fail _=>cases h
noncomputable def qv (n:Nat):Bool:=VC (Dm n) (aM qg 87 [KX] (Dm n))
noncomputable def sv (n:Nat):Bool:=FU (Q9 n) (fB iD 51 kO [] ((.var 690,true)::(.var 691,true)::(.eq bh (.lit n),true)::dh))
noncomputable def sw (n:Nat):Bool:=FU (Q_ n) (fB iD 74 kO [] ((.var 690,true)::(Dm n++dh)))
theorem Uh:(qv 1&&(sv 1&&sw 1))=true:=by kernel_rfl
theorem Ui:(qv 2&&(sv 2&&sw 2))=true:=by kernel_rfl
theorem Uj:(qv 3&&(sv 3&&sw 3))=true:=by kernel_rfl
theorem Uk:(qv 4&&(sv 4&&sw 4))=true:=by kernel_rfl
theorem Ul:(qv 5&&(sv 5&&sw 5))=true:=by kernel_rfl
theorem Um:(qv 6&&(sv 6&&sw 6))=true:=by kernel_rfl
end Go.Proofs.YtpdfmnhgocpkcaaGreat
namespace Go.Proofs.YtpdfmnhgocpkcaaGreat
open Go Go.Proofs.Aw Go.Proofs.Xw
set_option maxRecDepth 100000
theorem Zv {ρ:aa} {n:Int} {e:U} (h:n<e.I ρ) {B:J} (u:J.ok ρ B):J.ok ρ ((.lt (.lit n) e,true)::B):=xz (show(U.lit n).I ρ<e.I ρ from h) u
theorem arR {ρ:aa} {n:Int} {e:U} (h:e.I ρ<n) {B:J} (u:J.ok ρ B):J.ok ρ ((.lt e (.lit n),true)::B):=xz h u
theorem j1 {ρ:aa} {n:Int} {e:U} (h:e.I ρ<=n) {B:J} (u:J.ok ρ B):J.ok ρ ((.lt (.lit n) e,false)::B):=fF h u
theorem fR {ρ:aa} {n:Int} {e:U} (h:n<=e.I ρ) {B:J} (u:J.ok ρ B):J.ok ρ ((.lt e (.lit n),false)::B):=fF (show(U.lit n).I ρ<=e.I ρ from h) u
theorem ED {ρ:aa} {f:Nat} {p:List X} {B:J} {x:X} (u:J.ok ρ B) (h:aM qg f p B = .ret x):Cy f (X.af ρ p) (x.I ρ):=ec (c:=qg) (kW (List.forall_mem_nil _)) (List.forall_mem_nil _) u (by rw[h];rfl)
def Vz:T X->T X->Bool
 | .ret (.sc (.b a)),.ret (.sc (.b b))=>a.beq b&&(List.range 9).all fun k=>nw false 400 [] [] (.or (.not a) (.not (.lt (.var (405+k)) (.lit 0))))
 | _,_=>false
theorem atk:Vz (aM qg 64 [.agg (vi 405 9)] []) (aM qg 102 [.agg (vi 405 9)] [])=true:=by kernel_rfl
theorem adq (ρ:aa):b4 Tryz.prog ρ qg.c:=kW (List.forall_mem_nil _)
theorem atj (ρ:aa):∃b:Bool,Cy 64 (X.af ρ [.agg (vi 405 9)]) (.sc (.bool b))/\Cy 102 (X.af ρ [.agg (vi 405 9)]) (.sc (.bool b))/\(b=true->∀k:Nat,k<9->0<=ρ.i (405+k)):=by
 have h:=atk
 unfold Vz at h
 split at h
 ·rename_i a b e1 e2
  rw[Bool.and_eq_true]at h
  have:=BE.beq_eq _ _ h.1
  subst this
  refine⟨a.I ρ,ED (J.bt ρ) e1,ED (J.bt ρ) e2,fun ha k u => ?_⟩
  have ht:=tN (ρ:=ρ) 400 [] [] _ (List.all_eq_true.1 h.2 k (List.mem_range.2 u)) (J.bt ρ)
  have ht:((!(a.I ρ)) || !(decide (ρ.i (405+k)<0)))=true:=ht
  rw[ha]at ht
  simpa using ht
 ·cases h
def DS (n:Nat) (ρ:aa):Prop:=∀j,j<n->(fJ j).I ρ=false/\(fK j).I ρ=false/\∀k,k<j->(eS j k).I ρ=false
theorem Zc (ρ:aa) (j k:Nat):(eS j k).I ρ=(eS k j).I ρ:=by
 show(((ky j).I ρ).toList==((ky k).I ρ).toList)=(((ky k).I ρ).toList==((ky j).I ρ).toList)
 exact BEq.comm
theorem aaj {n:Nat} {ρ:aa} (hn:bh.I ρ=n) (h:DS n ρ):J.ok ρ (Dm n):=by
 refine J.av (by show(bh.I ρ==(n:Int))=true;rw[hn];exact beq_self_eq_true _) fun p hp => ?_
 obtain⟨j,O,hp⟩:=List.mem_flatMap.1 hp
 obtain⟨A,E,h3⟩:=h j (List.mem_range.1 O)
 rcases List.mem_cons.1 hp with rfl | hp
 ·exact A
 ·rcases List.mem_cons.1 hp with rfl | hp
  ·exact E
  ·obtain⟨k,u,hp⟩:=List.mem_flatMap.1 hp
   have h4:=h3 k (List.mem_range.1 u)
   rcases List.mem_cons.1 hp with rfl | hp
   ·exact h4
   ·rcases List.mem_cons.1 hp with rfl | hp
    ·show(eS k j).I ρ=false
     rw[<-Zc];exact h4
    ·cases hp
theorem R4 {n j:Nat} {ρ:aa} (hn:bh.I ρ=n) (h6:n<=6) (O:j<n):J.ok ρ (JD j) :=
 Zv (by omega) (j1 (by omega) (J.bt ρ))
theorem ahg {n:Nat} {ρ:aa} (hn:bh.I ρ=n) (hb:n<=250):(1<=n/\n<=6/\DS n ρ/\Cy 87 (X.af ρ [KX]) (.sc (.bool true))) \/
  (Cy 87 (X.af ρ [KX]) (.sc (.bool false))/\∀F,az 600 ρ F->b4 Tryz.prog F iD.c->J.ok F dh->(BE.var 690).I F=true->∃B,J.ok F B/\(fB iD 74 kO [] B).aq F=some (kA,[])):=by
 by_cases h0:n=0
 ·right
  subst h0
  have hz:J.ok ρ Du:=arR (by omega) (fR (by omega) (J.bt ρ))
  refine⟨ED hz (p8 z87),fun F ah _ M R => ?_⟩
  have ju:J.ok F Du:=gP ah (by kernel_rfl) hz
  refine⟨_,J.av R (eg ju M),?_⟩
  have h:=atN
  unfold z74 at h
  split at h
  ·rename_i c x e
   rw[Bool.and_eq_true]at h
   rw[e]
   simp only[T.aq,w6 ju h.1,if_true]
   exact nK h.2
  ·exact nK h
 by_cases h6:6<n
 ·right
  obtain⟨ss,M,G⟩:∃ss:List ByteArray,ss.length=n/\aV ρ bh om=fw ss:=by
   refine⟨(List.range n).map fun(j:Nat)=>ρ.cs 194 0 ((j:Int)+(U.cl 2 2 (.var 400)).I ρ).toNat,by simp,?_⟩
   unfold aV fw
   have e:(bh.I ρ).toNat=n:=by omega
   rw[e,List.map_map]
   rfl
  have e:X.af ρ [KX]=[.ro 1 (fw ss) false]:=by rw[<-G];rfl
  refine⟨by rw[e];exact ap7 ss false (by omega) (by omega),fun F ah _ bW R => ?_⟩
  have Ao:bh.I F=n:=by rw[<-U.aT ah bh (by kernel_rfl)];exact hn
  exact⟨_,J.av R (Zv (by omega) (fR (by omega) bW)),nK acR⟩
 have h6:n<=6:=by omega
 by_cases Z:DS n ρ
 ·left
  refine⟨by omega,h6,Z,?_⟩
  have go:∀k,n=k->(qv k&&(sv k&&sw k))=true->Cy 87 (X.af ρ [KX]) (.sc (.bool true)):=fun k u h=>by
   subst u
   rw[Bool.and_eq_true]at h
   have h:=h.1
   unfold qv VC at h
   split at h
   ·rename_i e G
    have R:=aaj hn Z
    have q:=ec (adq ρ) (List.forall_mem_nil _) R (show(aM qg 87 [KX] (Dm n)).aq ρ=some _ by rw[G];rfl)
    simp only[X.I,Sc.I,w6 R h]at q
    exact q
   ·cases h
  rcases(show n=1\/n=2\/n=3\/n=4\/n=5\/n=6 by omega)with h | h | h | h | h | h
  ·exact go 1 h Uh
  ·exact go 2 h Ui
  ·exact go 3 h Uj
  ·exact go 4 h Uk
  ·exact go 5 h Ul
  ·exact go 6 h Um
 ·right
  obtain⟨j,O,c,d,H,hd,hr,ht⟩:∃(j:Nat),j<n/\∃c d:BE,c.I ρ=true/\d.I ρ=true/\eG j c=true/\(eF j d=true/\d.ar 600=true):=by
   apply Classical.byContradiction
   intro iS
   apply Z
   intro j O
   obtain⟨bm,bl,gK⟩:=aiQ (j:=j) (by omega)
   obtain⟨b1,b2,dr⟩:=aiJ (j:=j) (by omega)
   have ar:∀k,k<6->(ky k).ar 600=true:=fun k u=>by
    rcases(show k=0\/k=1\/k=2\/k=3\/k=4\/k=5 by omega)with rfl | rfl | rfl | rfl | rfl | rfl<;>kernel_rfl
   refine⟨Bool.eq_false_iff.2 fun h=>iS ⟨j,O,_,_,h,h,bm,b1,?_⟩,Bool.eq_false_iff.2 fun h=>iS ⟨j,O,_,_,h,h,bl,b2,?_⟩,fun k u=>Bool.eq_false_iff.2 fun h=>iS ⟨j,O,_,_,h,(by rw[<-Zc];exact h),gK k u,dr k u,?_⟩⟩
   ·simp only[fJ,BE.ar,U.ar,ar j (by omega),Bool.and_self]
   ·simp only[fK,BE.ar,U.ar,ar j (by omega),Bool.and_self]
   ·simp only[eS,BE.ar,ar j (by omega),ar k (by omega),Bool.and_self]
  refine⟨ED (J.av H (R4 hn h6 O)) (p8 hr),fun F ah _ M R => ?_⟩
  have Ao:bh.I F=n:=by rw[<-U.aT ah bh (by kernel_rfl)];exact hn
  exact⟨_,J.av (by rw[<-BE.aT ah d ht.2];exact hd) (J.av R (eg (R4 Ao h6 O) M)),nK ht.1⟩
end Go.Proofs.YtpdfmnhgocpkcaaGreat
namespace Go.Proofs.YtpdfmnhgocpkcaaGreat
open Go Go.Proofs.Aw Go.Proofs.Xw
set_option maxRecDepth 100000
theorem VO (ρ:aa) (j:Nat):(ky j).I ρ=ρ.cs 194 0 ((j:Int)+(U.cl 2 2 (.var 400)).I ρ).toNat:=by
 cases j with
 | zero =>
  show ρ.cs 194 0 ((U.cl 2 2 (.var 400)).I ρ).toNat=_
  rw[show((0:Nat):Int)+(U.cl 2 2 (.var 400)).I ρ=(U.cl 2 2 (.var 400)).I ρ by omega]
 | succ j=>rfl
theorem Lt {an:Type} (f:Nat->an):∀l:List Nat,(l.map fun j=>[f j]).flatten=l.map f
 | []=>rfl
 | a::l=>by simp only[List.map_cons,List.flatten_cons,Lt f l];rfl
theorem S1 (ρ:aa) (g:Nat->X) (l:List Nat):X.af ρ (l.map g)=l.map fun j=>(g j).I ρ:=by
 rw[X.l5,List.map_map];rfl
theorem SZ (ρ:aa) (g:Nat->List X):∀l:List Nat,X.af ρ (l.flatMap g)=(l.map fun j=>X.af ρ (g j)).flatten
 | []=>rfl
 | a::l=>by simp only[List.flatMap_cons,X.gp,List.map_cons,List.flatten_cons,SZ ρ g l]
theorem PB {ρ:aa} {n:Nat} (hn:bh.I ρ=n) (L:RL):aV ρ bh L=(List.range n).map fun(j:Nat)=>L.row ρ j:=by
 unfold aV
 rw[hn,Int.toNat_natCast]
theorem ahf {ρ:aa} {n:Nat} (hn:bh.I ρ=n) (hr:b5 ((List.range n).map fun j=>(.sc (.s (ky j)):X))=false):aA ρ ((List.range n).map fun j => .sc (.s (ky j)))=aA ρ [.rows 1 bh om]:=by
 rw[cP hr,S1]
 show _=(aV ρ bh om).flatten
 rw[PB hn,<-Lt]
 congr 1
 refine List.map_congr_left fun j _ => ?_
 show [AV.sc (.string ((ky j).I ρ))]=_
 rw[VO]
 rfl
theorem acy {ρ:aa} {n:Nat} (hn:bh.I ρ=n) (hr:b5 ((List.range n).flatMap fun _=>zU)=false):aA ρ ((List.range n).flatMap fun _=>zU)=aA ρ [.rows 25 bh zT]:=by
 rw[cP hr,SZ]
 show _=(aV ρ bh zT).flatten
 rw[PB hn]
 rfl
theorem ZH {ρ:aa} {n:Nat} (hn:bh.I ρ=n) (O:∀j,ρ.ci 620 0 j=j) (hr:b5 ((List.range n).map fun(j:Nat)=>xn j)=false):aA ρ ((List.range n).map fun(j:Nat)=>xn j)=aA ρ [.rows 1 bh zn]:=by
 rw[cP hr,S1]
 show _=(aV ρ bh zn).flatten
 rw[PB hn,<-Lt]
 congr 1
 refine List.map_congr_left fun j _ => ?_
 show [AV.sc (.int .i64 (j:Int))]=(if(j:Int)=(U.lit 0).I ρ then b' ρ [eb (.lit 0)]else(RL.var 620 [.i .i64]).row ρ j)
 by_cases h0:(j:Int)=(U.lit 0).I ρ
 ·rw[if_pos h0]
  have:(j:Int)=0:=h0
  show _=[AV.sc (.int .i64 0)]
  rw[this]
 ·rw[if_neg h0]
  show _=[AV.sc (.int .i64 (ρ.ci 620 0 ((j:Int)).toNat))]
  rw[Int.toNat_natCast,O]
theorem Ig {ρ:aa} {n:Nat} (hn:bh.I ρ=n) (m:Nm) (z:Nat):(lH m z n).I ρ=(aY m z bh).I ρ:=by
 simp only[lH,aY,X.I,hn,U.I,Int.toNat_zero,Nat.zero_mul,Int.toNat_natCast]
def WX:List Nat:=[1,2,3,4,5,6]
theorem agT:(WX.all fun n => !b5 ((List.range n).map fun j=>(.sc (.s (ky j)):X))&&(!b5 ((List.range n).flatMap fun _=>zU) && !b5 ((List.range n).map fun(j:Nat)=>xn j)))=true:=by kernel_rfl
theorem Vy {n:Nat} (A:1<=n) (h6:n<=6):b5 ((List.range n).map fun j=>(.sc (.s (ky j)):X))=false/\b5 ((List.range n).flatMap fun _=>zU)=false/\b5 ((List.range n).map fun(j:Nat)=>xn j)=false:=by
 have:=List.all_eq_true.1 agT n (by simp only[WX,List.mem_cons,List.not_mem_nil,or_false];omega)
 simpa only[Bool.and_eq_true,Bool.not_eq_true']using this
theorem adW {ρ:aa} {n:Nat} (hn:bh.I ρ=n) (A:1<=n) (h6:n<=6) (O:∀j,ρ.ci 620 0 j=j):bk ρ (Q9 n)=bk ρ (((1,0),some (vi 405 9++vi 405 9++[xi 1,aY (1,1) 1 bh,aY (1,2) 25 bh,aY (1,3) 1 bh,xn 1,xn 0]))::GY):=by
 obtain⟨r1,r2,r3⟩:=Vy A h6
 have e:=ZH hn O r3
 have s:=Ig hn (1,3) 1
 have o:aA ρ (vi 405 9++vi 405 9++[xi 1,aY (1,1) 1 bh,aY (1,2) 25 bh,lH (1,3) 1 n,xn 1,xn 0])=aA ρ (vi 405 9++vi 405 9++[xi 1,aY (1,1) 1 bh,aY (1,2) 25 bh,aY (1,3) 1 bh,xn 1,xn 0]):=by
  rw[cP rfl,cP rfl,X.gp (l:=vi 405 9++vi 405 9),X.gp (l:=vi 405 9++vi 405 9)]
  congr 1
  show [_,_,_,(lH (1,3) 1 n).I ρ,_,_]=[_,_,_,(aY (1,3) 1 bh).I ρ,_,_]
  rw[s]
 show [((1,0),some (aA ρ _)),((1,1),some (aA ρ _)),((1,2),some (aA ρ _)),((1,3),some (aA ρ _))]=[((1,0),some (aA ρ _)),((1,1),some (aA ρ _)),((1,2),some (aA ρ _)),((1,3),some (aA ρ _))]
 rw[o,e]
theorem adX {ρ:aa} {n:Nat} (hn:bh.I ρ=n) (A:1<=n) (h6:n<=6) (O:∀j,ρ.ci 620 0 j=j):bk ρ (Q_ n)=bk ρ (((1,0),some ([xi 1,aY (1,1) 1 bh,aY (1,2) 25 bh,aY (1,3) 1 bh,xn 1]++vi 405 9++[xl false,xn 0]))::GY):=by
 obtain⟨r1,r2,r3⟩:=Vy A h6
 have e:=ZH hn O r3
 have ek:=ahf hn r1
 have i3:=acy hn r2
 have o:aA ρ ([xi 1,lH (1,1) 1 n,lH (1,2) 25 n,lH (1,3) 1 n,xn 1]++vi 405 9++[xl false,xn 0])=aA ρ ([xi 1,aY (1,1) 1 bh,aY (1,2) 25 bh,aY (1,3) 1 bh,xn 1]++vi 405 9++[xl false,xn 0]):=by
  rw[cP rfl,cP rfl,List.append_assoc,List.append_assoc,X.gp (m:=vi 405 9++[xl false,xn 0]),X.gp (m:=vi 405 9++[xl false,xn 0])]
  congr 1
  show [_,(lH (1,1) 1 n).I ρ,(lH (1,2) 25 n).I ρ,(lH (1,3) 1 n).I ρ,_]=[_,(aY (1,1) 1 bh).I ρ,(aY (1,2) 25 bh).I ρ,(aY (1,3) 1 bh).I ρ,_]
  rw[Ig hn,Ig hn,Ig hn]
 show [((1,0),some (aA ρ _)),((1,1),some (aA ρ _)),((1,2),some (aA ρ _)),((1,3),some (aA ρ _))]=[((1,0),some (aA ρ _)),((1,1),some (aA ρ _)),((1,2),some (aA ρ _)),((1,3),some (aA ρ _))]
 rw[o,ek,i3,e]
theorem Fg {ρ:aa} {f:Nat} {args args':List X} {cy:au} {r:X} {d:aL} (h:c' Tryz.prog ρ ⟨f,args,cy,r,d⟩) (ha:args'.map X.Di=args):c' Tryz.prog ρ ⟨f,args',cy,r,d⟩ :=
 ⟨h.1,fun C vs W hL hn=>h.2 C vs W (by have:=QN C args' vs hL;rw[ha]at this;exact this) hn⟩
theorem afk {ρ:aa} {f:Nat} {args:List X} {cy:au} {r r':X} {d:aL} (h:c' Tryz.prog ρ ⟨f,args,cy,r,d⟩) (hr:∀C Y,aj C (r.I ρ) Y->aj C (r'.I ρ) Y):c' Tryz.prog ρ ⟨f,args,cy,r',d⟩ :=
 ⟨h.1,fun C vs W hL hn=>(h.2 C vs W hL hn).mono fun e' w' hq=>by
  obtain⟨Y,C',h3,h4,hp⟩:=hq
  exact⟨Y,C',h3,h4,{ hp with val:=hr _ _ hp.val }⟩⟩
theorem Un {ρ:aa} {f:Nat} {args:List X} {cy:au} {r:X} {d fD:aL} (h:c' Tryz.prog ρ ⟨f,args,cy,r,d⟩) (hd:bk ρ d=bk ρ fD):c' Tryz.prog ρ ⟨f,args,cy,r,fD⟩ :=
 ⟨h.1,by have:=h.2;rw[show bk ρ (⟨f,args,cy,r,d⟩:GK).d=bk ρ fD from hd]at this;exact this⟩
theorem adr {ρ:aa} (h64:Cy 64 (X.af ρ [.agg (vi 405 9)]) (.sc (.bool (ρ.b 690)))) (afr:Cy 102 (X.af ρ [.agg (vi 405 9)]) (.sc (.bool (ρ.b 690)))) (qr:Cy 87 (X.af ρ [KX]) (.sc (.bool (ρ.b 691)))):b4 Tryz.prog ρ iD.c :=
 r6 (List.forall_mem_cons.2 ⟨h64,List.forall_mem_cons.2 ⟨afr,List.forall_mem_cons.2 ⟨qr,List.forall_mem_nil _⟩⟩⟩) (fun _ _ _=>a1.nil _ _ _ _) (List.forall_mem_nil _) J9 (List.forall_mem_nil _)
theorem ajd (ρ:aa) (M:J.ok ρ dh) (h0:0<=bh.I ρ) (at0:bh.I ρ<=250):∃F,az 600 ρ F/\F.len 610=0/\((J.ok F wF/\ue F/\∀k∈ei false++ei true,c' Tryz.prog F k)\/(F.len 621=0/\∀k∈dS false++dS true,c' Tryz.prog F k)):=by
 obtain⟨n,hn⟩:∃n:Nat,bh.I ρ=n:=⟨(bh.I ρ).toNat,by omega⟩
 obtain⟨es,v64,v102,vcu⟩:=atj ρ
 have mk:∀(b1:Bool) (m:Nat),Cy 87 (X.af ρ [KX]) (.sc (.bool b1))->∃F,az 600 ρ F/\F.len 610=0/\F.len 621=m/\(∀j,F.ci 620 0 j=j)/\F.b 690=es/\F.b 691=b1/\b4 Tryz.prog F iD.c:=fun b1 m qr=>by
  let F:aa:={ ρ with b:=fun k=>if k=690 then es else if k=691 then b1 else ρ.b k,len:=fun k=>if k=621 then m else if k=610 then 0 else ρ.len k,ci:=fun l k j=>if l=620 then(j:Int)else ρ.ci l k j }
  have ah:az 600 ρ F:=⟨fun _ _=>rfl,fun k u=>by show ρ.b k=if k=690 then es else if k=691 then b1 else ρ.b k;rw[if_neg (by omega),if_neg (by omega)],fun _ _=>rfl,
   fun k u=>by show ρ.len k=if k=621 then m else if k=610 then 0 else ρ.len k;rw[if_neg (by omega),if_neg (by omega)],fun l M=>by funext k j;show ρ.ci l k j=if l=620 then(j:Int)else ρ.ci l k j;rw[if_neg (by omega)],fun _ _=>rfl,fun _ _=>rfl,fun _ _=>rfl⟩
  have e1:X.af ρ [.agg (vi 405 9)]=X.af F [.agg (vi 405 9)]:=X.fZ ah _ (by kernel_rfl)
  have e2:X.af ρ [KX]=X.af F [KX]:=X.fZ ah _ (by kernel_rfl)
  refine⟨F,ah,rfl,rfl,fun j=>rfl,rfl,rfl,adr ?_ ?_ ?_⟩
  ·rw[<-e1];exact v64
  ·rw[<-e1];exact v102
  ·rw[<-e2];exact qr
 have no:∀F,az 600 ρ F->b4 Tryz.prog F iD.c->∀B b6,J.ok F B->(fB iD 51 kO [] B).aq F=some (kA,[])->J.ok F b6->(fB iD 74 kO [] b6).aq F=some (kA,[])->∀k∈dS false++dS true,c' Tryz.prog F k:=fun F _ H B b6 A E h3 h4=>by
  have g1:=ur H (List.forall_mem_nil _) A E
  have g2:=ur H (List.forall_mem_nil _) h3 h4
  have g1:c' Tryz.prog F ⟨51,kO,[],.tup [.top,xn 1],[]⟩:=afk g1 fun C Y hu=>by
   obtain⟨us,rfl,hu⟩:=hu
   refine⟨us,rfl,?_⟩
   obtain⟨v,vs,e,_,h5⟩:=hu
   exact⟨v,vs,e,trivial,h5⟩
  exact List.forall_mem_cons.2 ⟨g1,List.forall_mem_cons.2 ⟨g2,List.forall_mem_cons.2 ⟨Fg g1 rfl,List.forall_mem_cons.2 ⟨Fg g2 rfl,List.forall_mem_nil _⟩⟩⟩⟩
 rcases ahg hn (by omega)with⟨A,h6,u,qr⟩ | ⟨qr,h74⟩
 ·cases ld:es with
  | false =>
   obtain⟨F,ah,q1,q2,q3,q4,q5,H⟩:=mk true 0 qr
   have bW:=gP ah (by kernel_rfl) M
   have R:J.ok F ((.var 690,false)::dh):=J.av (show F.b 690=false by rw[q4,ld]) bW
   exact⟨F,ah,q1,.inr ⟨q2,no F ah H _ _ R (nK aah) R (nK aai)⟩⟩
  | true =>
   obtain⟨F,ah,q1,q2,q3,q4,q5,H⟩:=mk true n qr
   have bW:=gP ah (by kernel_rfl) M
   have u_:bh.I F=n:=by rw[<-U.aT ah bh (by kernel_rfl)];exact hn
   have ar:∀k,k<6->(ky k).ar 600=true:=fun k u=>by
    rcases(show k=0\/k=1\/k=2\/k=3\/k=4\/k=5 by omega)with rfl | rfl | rfl | rfl | rfl | rfl<;>kernel_rfl
   have aO:DS n F:=fun j O=>by
    obtain⟨bm,bl,gK⟩:=u j O
    refine⟨?_,?_,fun k hkj => ?_⟩
    ·rw[<-BE.aT ah (fJ j) (by simp only[fJ,BE.ar,U.ar,ar j (by omega),Bool.and_self])];exact bm
    ·rw[<-BE.aT ah (fK j) (by simp only[fK,BE.ar,U.ar,ar j (by omega),Bool.and_self])];exact bl
    ·rw[<-BE.aT ah (eS j k) (by simp only[eS,BE.ar,ar j (by omega),ar k (by omega),Bool.and_self])];exact gK k hkj
   have e690:(BE.var 690).I F=true:=by show F.b 690=true;rw[q4,ld]
   have e691:(BE.var 691).I F=true:=q5
   have gs:(qv n&&(sv n&&sw n))=true:=by
    rcases(show n=1\/n=2\/n=3\/n=4\/n=5\/n=6 by omega)with h | h | h | h | h | h<;>subst h
    ·exact Uh
    ·exact Ui
    ·exact Uj
    ·exact Uk
    ·exact Ul
    ·exact Um
   simp only[Bool.and_eq_true]at gs
   have R:=aaj u_ aO
   have i4:(BE.eq bh (.lit n)).I F=true:=by show(bh.I F==(n:Int))=true;rw[u_];exact beq_self_eq_true _
   have g1:=ur H (List.forall_mem_nil _) (J.av e690 (J.av e691 (J.av i4 bW))) (show(fB iD 51 kO [] _).aq F=some (G8,Q9 n)by rw[Vw gs.2.1];rfl)
   have g2:=ur H (List.forall_mem_nil _) (J.av e690 (eg R bW)) (show(fB iD 74 kO [] _).aq F=some (G8,Q_ n)by rw[Vw gs.2.2];rfl)
   have g1:=Un g1 (adW u_ A h6 q3)
   have g2:=Un g2 (adX u_ A h6 q3)
   have size:∀j,j<n->1<=(F.cs 194 0 ((j:Int)+(U.cl 2 2 (.var 400)).I F).toNat).size/\(F.cs 194 0 ((j:Int)+(U.cl 2 2 (.var 400)).I F).toNat).size<=16:=fun j O=>by
    obtain⟨bm,bl,_⟩:=aO j O
    have bm:¬(((ky j).I F).size:Int)<1:=of_decide_eq_false bm
    have bl:¬(16:Int)<(((ky j).I F).size:Int):=of_decide_eq_false bl
    rw[VO]at bm bl
    omega
   refine⟨F,ah,q1,.inl ⟨?_,⟨by omega,fun j O=>size j (by omega),fun j O=>q3 j,fun k u=>by rw[<-ah.i (405+k) (by omega)];exact vcu ld k u⟩,List.forall_mem_cons.2 ⟨g1,List.forall_mem_cons.2 ⟨g2,List.forall_mem_cons.2 ⟨Fg g1 rfl,List.forall_mem_cons.2 ⟨Fg g2 rfl,List.forall_mem_nil _⟩⟩⟩⟩⟩⟩
   have s0:=(size 0 (by omega)).2
   refine j1 (by omega) (fR (by omega) (j1 ?_ (J.av ?_ (fR (show(1:Int)<=(F.len 621:Int)by omega) (j1 (show(F.len 621:Int)<=6 by omega) (J.bt _))))))
   ·show((F.cs 194 0 ((U.cl 2 2 (.var 400)).I F).toNat).size:Int)<=16
    rw[show((0:Nat):Int)+(U.cl 2 2 (.var 400)).I F=(U.cl 2 2 (.var 400)).I F by omega]at s0
    omega
   ·show(bh.I F==(F.len 621:Int))=true
    rw[u_,q2];exact beq_self_eq_true _
 ·cases ld:es with
  | false =>
   obtain⟨F,ah,q1,q2,q3,q4,q5,H⟩:=mk false 0 qr
   have bW:=gP ah (by kernel_rfl) M
   have R:J.ok F ((.var 690,false)::dh):=J.av (show F.b 690=false by rw[q4,ld]) bW
   exact⟨F,ah,q1,.inr ⟨q2,no F ah H _ _ R (nK aah) R (nK aai)⟩⟩
  | true =>
   obtain⟨F,ah,q1,q2,q3,q4,q5,H⟩:=mk false 0 qr
   have bW:=gP ah (by kernel_rfl) M
   have e690:(BE.var 690).I F=true:=by show F.b 690=true;rw[q4,ld]
   obtain⟨b6,g3,g4⟩:=h74 F ah H bW e690
   exact⟨F,ah,q1,.inr ⟨q2,no F ah H _ _ (J.av e690 (J.av (show(BE.var 691).I F=false from q5) bW)) (nK aoY) g3 g4⟩⟩
end Go.Proofs.YtpdfmnhgocpkcaaGreat
namespace Go.Proofs.YtpdfmnhgocpkcaaGreat
open Go Go.Proofs.Aw Go.Proofs.Xw
set_option maxRecDepth 100000
def zV:X := .rl 25 (.len 470) (.var 625 gh) false
def rsC:Nat->List X
 | 0=>vi 405 9++vi 500 9++[xi 1,F7,zV,Qq,xn 2,xn 0]
 | 1=>[xi 1,F7,zV,Qq,xn 2]++vi 500 9++[xl true,xn 0]
 | 2=>vi 405 9++vi 600 9++[xi 1,F7,zV,Qq,xn 1,xn 0]
 | _=>[xi 1,F7,zV,.k (.slice none 0 0),xn 1]++vi 600 9++[xl true,xn 0]
def CI (v:Nat):Bool:=Nat.beq v 0||Nat.beq v 2
def oJ (v:Nat):Nat:=if CI v=true then 122 else 116
def CH (v:Nat):Nat:=if CI v=true then 20 else 5
def Yp (v:Nat):X := .ip (rsC v) [] 0
def HY (v:Nat) (i o:X):ba:=if CI v=true then [(21,i),(20,.sc (.i .i64 (.len 470))),(19,zV),(3,o),(18,.top),(17,.top),(16,.top),(15,.top),(14,.top),(13,.top),(12,.top),(11,.top),(10,.top),(9,.top),(8,.top),(7,.top),(6,.top),(2,.top),(0,Yp v)]else [(4,i),(3,o),(2,.top),(0,Yp v)]
def pB:X := .k (.slice none 0 0)
def Yq (v:Nat):X := .slv (CH v,0) 22 (.lit 0) (.len 630) true
def Yo (v:Nat):au:=[((CH v,0),[.rows 22 (.len 630) (.var 630 fb)])]
def HW (v:Nat):XS:=⟨HY v (xn 0) pB,[],CH v⟩
def PD (v:Nat):XS:=⟨HY v (xi 700) pB,[],CH v⟩
def HV (v:Nat):XS:=⟨HY v (xi 700) (Yq v),Yo v,CH v+1⟩
def PF (v:Nat):XS:=⟨HY v (xi 700) (Yq v),Yo v,90⟩
noncomputable def pS (v:Nat):Code:=(dP ((if CI v=true then Tryz.f122 else Tryz.f116).body.getD .skip))[0]?.getD .skip
def wi (i:U):List Sc:=[.s (.cl 470 0 i),.b (.cl 625 1 i)]++(List.range 6).map (fun k=>eb (.cl 625 (2+k) i))++[.s (.cl 625 8 i),.s (.cl 625 9 i),.b (.cl 625 10 i)]++(List.range 11).map fun k=>eb (.cl 625 (11+k) i)
def fO:J:=[(.eq (.var 443) (.lit 1),true),(.lt (.len 470) (.lit 1),false),(.lt (.lit 6) (.len 470),false)]
def Yn (v:Nat):List dm:=[⟨HV v,[(.lt (.len 630) (.lit 1),false)],[⟨0,[],[],[],[(630,.lit 1,.one (wi (.var 700)))],[]⟩,⟨1,[],[],[],[(630,.op .cV .i64 (.len 630) (.lit 1),.app (.len 630) (.var 630 fb) (.one (wi (.var 700))))],[]⟩]⟩]
def p7:U := .op .add .i64 (.var 700) (.lit 1)
def tw:J:=[(.eq (.var 700) (.lit 0),true),(.lt (.var 700) (.len 470),true)]++fO
def tz:J:=[(.lt (.var 700) (.lit 0),false),(.lt (.var 700) (.len 470),true),(.lt (.len 470) p7,false),(.lt p7 (.lit 0),false),(.lt (.len 630) (.lit 1),false),(.lt (.lit 6) (.len 630),false)]++fO
def tA:J:=[(.lt (.var 700) (.lit 0),false),(.lt (.var 700) (.len 470),false),(.lt (.len 630) (.lit 1),false)]++fO
noncomputable def CG:cr:=⟨bd [] (fun _=>[]),[],[10119]⟩
noncomputable def Ys (v:Nat) (S:XS) (B:J):T (XE×XS):=(ck CG.c.ti (eD CG 12) ((CG.c.hv (oJ v)).elim [] (·.ms)) 2 [] 1000 (pS v) B S).map (dV (S.t.map (·.1)))
end Go.Proofs.YtpdfmnhgocpkcaaGreat
namespace Go.Proofs.YtpdfmnhgocpkcaaGreat
open Go Go.Proofs.Aw Go.Proofs.Xw
set_option maxRecDepth 100000
noncomputable def lE (v i:Nat) (B:J):Bool:=dB 2 630 700 [] (0,[]) i (Yn v) (PF v) .normal B (Ys v (if Nat.beq i 0=true then PD v else HV v) B)
noncomputable def wh (v:Nat) (B:J):Bool:=dB 2 630 700 [] (0,[]) 1 [] (PF v) (.exit 0) B (Ys v (HV v) B)
theorem rn0:(lE 0 0 tw&&(lE 0 1 tz&&wh 0 tA))=true:=by kernel_rfl
theorem rn1:(lE 1 0 tw&&(lE 1 1 tz&&wh 1 tA))=true:=by kernel_rfl
theorem rn2:(lE 2 0 tw&&(lE 2 1 tz&&wh 2 tA))=true:=by kernel_rfl
theorem rn3:(lE 3 0 tw&&(lE 3 1 tz&&wh 3 tA))=true:=by kernel_rfl
theorem ap8 {v:Nat} (h:v<4):lE v 0 tw=true/\lE v 1 tz=true/\wh v tA=true:=by
 have go:∀v,(lE v 0 tw&&(lE v 1 tz&&wh v tA))=true->lE v 0 tw=true/\lE v 1 tz=true/\wh v tA=true:=fun v h=>by
  simpa only[Bool.and_eq_true]using h
 rcases(show v=0\/v=1\/v=2\/v=3 by omega)with rfl | rfl | rfl | rfl
 ·exact go 0 rn0
 ·exact go 1 rn1
 ·exact go 2 rn2
 ·exact go 3 rn3
noncomputable def jc (ρ:aa) (x:Int):List AV:=b' { ρ with i:=fun _=>x } (wi (.var 0))
theorem Yt {ρ F:aa} (ah:az 630 ρ F) (x:Int):jc ρ x=jc F x:=by
 unfold jc b' wi
 simp only[List.map_append,List.map_cons,List.map_nil,List.map_map,Function.comp_def,Sc.I,eb,U.I,BE.I,TE.I,ah.ci 625 (by decide),ah.cb 625 (by decide),ah.cs 625 (by decide),ah.cs 470 (by decide)]
theorem X8 {F:aa} {j:Nat} {l:List AV} (hi:∀k,F.ci 630 k j=aG l[k]?) (hb:∀k,F.cb 630 k j=dK l[k]?) (hs:∀k,F.cs 630 k j=cellS l[k]?) :
  (RL.var 630 fb).row F (j:Int)=[.sc (.string (cellS l[0]?)),.sc (.bool (dK l[1]?)),.sc (.int .i64 (aG l[2]?)),.sc (.int .i64 (aG l[3]?)),.sc (.int .i64 (aG l[4]?)),.sc (.int .i64 (aG l[5]?)),.sc (.int .i64 (aG l[6]?)),.sc (.int .i64 (aG l[7]?)),.sc (.string (cellS l[8]?)),.sc (.string (cellS l[9]?)),.sc (.bool (dK l[10]?)),.sc (.int .i64 (aG l[11]?)),.sc (.int .i64 (aG l[12]?)),.sc (.int .i64 (aG l[13]?)),.sc (.int .i64 (aG l[14]?)),.sc (.int .i64 (aG l[15]?)),.sc (.int .i64 (aG l[16]?)),.sc (.int .i64 (aG l[17]?)),.sc (.int .i64 (aG l[18]?)),.sc (.int .i64 (aG l[19]?)),.sc (.int .i64 (aG l[20]?)),.sc (.int .i64 (aG l[21]?))]:=by
 simp only[<-hi,<-hb,<-hs]
 rfl
theorem Pw {ρ F:aa} {x:Int} {j:Nat} (hi:∀k,F.ci 630 k j=aG (jc ρ x)[k]?) (hb:∀k,F.cb 630 k j=dK (jc ρ x)[k]?) (hs:∀k,F.cs 630 k j=cellS (jc ρ x)[k]?):(RL.var 630 fb).row F (j:Int)=jc ρ x:=by
 rw[X8 hi hb hs];rfl
theorem aqe {ρ F:aa} {j:Nat} (hi:∀k,F.ci 630 k j=aG ((RL.var 630 fb).row ρ (j:Int))[k]?) (hb:∀k,F.cb 630 k j=dK ((RL.var 630 fb).row ρ (j:Int))[k]?) (hs:∀k,F.cs 630 k j=cellS ((RL.var 630 fb).row ρ (j:Int))[k]?):(RL.var 630 fb).row F (j:Int)=(RL.var 630 fb).row ρ (j:Int):=by
 rw[X8 hi hb hs];rfl
structure RH (am ρ:aa) (i:Nat):Prop where
 ah:az 630 am ρ
 z:i=0->ρ.i 700=0
 b:i≠0->i=1/\∃m:Nat,1<=m/\m<=am.len 470/\ρ.i 700=m/\ρ.len 630=m/\∀j,j<m->(RL.var 630 fb).row ρ (j:Int)=jc am j
structure RI (am ρ:aa):Prop where
 l:ρ.len 630=am.len 470
 r:∀j,j<am.len 470->(RL.var 630 fb).row ρ (j:Int)=jc am j
noncomputable def wg (v:Nat):Nat:=if CI v=true then Tryz.f122.ntmps else Tryz.f116.ntmps
noncomputable def tB (v:Nat):bj:=⟨(dt (pS v)).getD 0,2,630,HW v,gz,[],.ret (.exit 0,PF v)⟩
theorem PG {v:Nat} (h:v<4):da (wg v) (pS v)=true:=by
 rcases(show v=0\/v=1\/v=2\/v=3 by omega)with rfl | rfl | rfl | rfl<;>kernel_rfl
theorem aqu {v:Nat} (h:v<4):(HW v).ar 630=true:=by
 rcases(show v=0\/v=1\/v=2\/v=3 by omega)with rfl | rfl | rfl | rfl<;>kernel_rfl
def Yr:Bind:=⟨[(700,.lit 0)],[],[],[]⟩
theorem aqv {v:Nat} (h:v<4):ff 2 630 Yr [] (PD v) (HW v)=true:=by
 rcases(show v=0\/v=1\/v=2\/v=3 by omega)with rfl | rfl | rfl | rfl<;>kernel_rfl
def HX (v i:Nat):XS:=if i=0 then PD v else HV v
theorem aqw {v:Nat} (R:v<4) {ρ:aa} (dp:ρ.i 443=1) (A:1<=ρ.len 470) (h6:ρ.len 470<=6):∃ao,az 630 ρ ao/\RI ρ ao/\bY Tryz.prog ao (wg v) (pS v) (tB v):=by
 have H:∀F,b4 Tryz.prog F CG.c:=fun F=>kW (List.forall_mem_nil _)
 obtain⟨r0,r1,r2⟩:=ap8 R
 refine ot (P:=Tryz.prog) (N:=wg v) (body:=pS v) (k0:=2) (n:=630) (S0:=HW v) (ρ:=ρ) (aqu R) (HX v) (tB v) ⟨rfl,rfl,rfl⟩ (fun i F=>RH ρ F i) (RI ρ) (fun F=>ρ.len 470-(F.i 700).toNat) (fun i F hR => ?_) ⟨0,Yr.ap ρ,Bind.bq (by kernel_rfl) ρ,⟨Bind.bq (by kernel_rfl) ρ,fun _=>rfl,fun h=>absurd rfl h⟩,fun ac _ bI=>jE bI (aqv R) ρ⟩
 have ah:=hR.ah
 have l4:F.len 470=ρ.len 470:=(ah.len 470 (by decide)).symm
 have aP:=eU (c:=CG) (H F) (List.forall_mem_nil _) 12
 have j_:J.ok F fO:=J.av (by show(F.i 443==1)=true;rw[<-ah.i 443 (by decide),dp];rfl) (fR (show(1:Int)<=(F.len 470:Int)by omega) (j1 (show(F.len 470:Int)<=6 by omega) (J.bt _)))
 have p7d:∀m:Nat,F.i 700=m->m<=6->p7.I F=m+1:=fun m hm h=>by
  refine(show p7.I F=IntKind.i64.wrap (F.i 700+1)from rfl).trans ?_
  rw[hm];exact ca _ (by omega) (by omega)
 have ir:∀(m:Nat),F.i 700=m->m<ρ.len 470->(i=0->m=0)->(i≠0->F.len 630=m/\∀j,j<m->(RL.var 630 fb).row F (j:Int)=jc ρ j)->(∃(j:Nat) (C:dm) (aw:aa),(Yn v)[j]? = some C/\ep Tryz.prog (wg v) (pS v) 2 (HX v i) C.S F aw/\J.ok aw C.b6/\aw.i 700=IntKind.i64.wrap (F.i 700+1)/\az 630 F aw/\(d' 0 [] F->d' 0 [] aw)/\(C.di=[]\/∃a∈C.di,a.fr=i/\gH a F aw)) ->
   ∃i' aw,ep Tryz.prog (wg v) (pS v) 2 (HX v i) (HX v i') F aw/\RH ρ aw i'/\ρ.len 470-(aw.i 700).toNat<ρ.len 470-(F.i 700).toNat/\az 630 F aw:=fun m hm aQ hz hb ⟨j,C,aw,A,E,_,h4,h5,_,h7⟩=>by
  have e4:aw.i 700=m+1:=by rw[h4,hm];exact ca _ (by omega) (by omega)
  match j,A with
  | 0,A =>
   cases A
   refine⟨1,aw,E,⟨ah.trans h5,fun h=>by omega,fun _=>⟨rfl,m+1,by omega,by omega,by omega,?_,fun j O => ?_⟩⟩,by omega,h5⟩
   all_goals
    simp only[List.cons_ne_nil,false_or,List.mem_cons,List.not_mem_nil,or_false]at h7
    obtain⟨a,ha,dY,a2⟩:=h7
   ·rcases ha with rfl | rfl
    ·have h0:0=i:=dY
     have:=(a2.2.2.2 _ List.mem_cons_self).1
     rw[this,hz h0.symm];rfl
    ·have h0:1=i:=dY
     have:=(a2.2.2.2 _ List.mem_cons_self).1
     rw[this]
     show(((F.len 630:Nat):Int)+1).toNat=m+1
     rw[(hb (by omega)).1];omega
   ·rcases ha with rfl | rfl
    ·have h0:0=i:=dY
     have md:=hz h0.symm
     obtain rfl:j=0:=by omega
     obtain⟨_,ci,cb,cs⟩:=a2.2.2.2 _ List.mem_cons_self
     have e:(RL.one (wi (.var 700))).row F ((0:Nat):Int)=jc F (F.i 700):=rfl
     rw[Yt ah,show((0:Nat):Int)=F.i 700 by rw[hm,md]]
     rw[show F.i 700=((0:Nat):Int)by rw[hm,md]]
     refine Pw (fun k => ?_) (fun k => ?_) (fun k => ?_)
     ·rw[ci k 0,e,hm,md]
     ·rw[cb k 0,e,hm,md]
     ·rw[cs k 0,e,hm,md]
    ·have h0:1=i:=dY
     obtain⟨M,hr⟩:=hb (by omega)
     obtain⟨_,ci,cb,cs⟩:=a2.2.2.2 _ List.mem_cons_self
     by_cases FA:j<m
     ·have e:(RL.app (.len 630) (.var 630 fb) (.one (wi (.var 700)))).row F ((j:Nat):Int)=(RL.var 630 fb).row F (j:Int):=by
       show(if(j:Int)<(F.len 630:Int)then(RL.var 630 fb).row F (j:Int)else _)=_
       rw[if_pos (by omega)]
      rw[<-hr j FA]
      refine aqe (fun k => ?_) (fun k => ?_) (fun k => ?_)
      ·rw[ci k j,e]
      ·rw[cb k j,e]
      ·rw[cs k j,e]
     ·obtain rfl:j=m:=by omega
      have e:(RL.app (.len 630) (.var 630 fb) (.one (wi (.var 700)))).row F ((j:Nat):Int)=jc F (F.i 700):=by
       show(if(j:Int)<(F.len 630:Int)then _ else jc F (F.i 700))=_
       rw[if_neg (by omega)]
      rw[Yt ah]
      refine Pw (fun k => ?_) (fun k => ?_) (fun k => ?_)
      ·rw[ci k j,e,hm]
      ·rw[cb k j,e,hm]
      ·rw[cs k j,e,hm]
  | j+1,A=>cases A
 by_cases hi:i=0
 ·subst hi
  right
  have hz:=hR.z rfl
  have u:J.ok F tw:=J.av (by show(F.i 700==0)=true;rw[hz];rfl) (J.av (decide_eq_true (by show F.i 700<(F.len 470:Int);omega)) j_)
  exact ir 0 hz (by omega) (fun _=>rfl) (fun h=>absurd rfl h) (kL mixed cR aP (a1.nil _ _ _ _) (PG R) u r0)
 ·obtain⟨Fz,m,m1,m2,sY,V8,V9⟩:=hR.b hi
  subst Fz
  by_cases hm:m<ρ.len 470
  ·right
   have hp:=p7d m sY (by omega)
   have u:J.ok F tz:=fR (show(0:Int)<=F.i 700 by omega) (J.av (decide_eq_true (by show F.i 700<(F.len 470:Int);omega)) (fF (show p7.I F<=(F.len 470:Int)by rw[hp];omega) (fR (by rw[hp];omega) (fR (show(1:Int)<=(F.len 630:Int)by omega) (j1 (show(F.len 630:Int)<=6 by omega) j_)))))
   exact ir m sY hm (fun h=>absurd h (by decide)) (fun _=>⟨V8,V9⟩) (kL mixed cR aP (a1.nil _ _ _ _) (PG R) u r1)
  ·left
   obtain rfl:m=ρ.len 470:=by omega
   have u:J.ok F tA:=fR (show(0:Int)<=F.i 700 by omega) (J.av (decide_eq_false (by show ¬F.i 700<(F.len 470:Int);omega)) (fR (show(1:Int)<=(F.len 630:Int)by omega) j_))
   refine⟨⟨V8,V9⟩,?_⟩
   rcases gC mixed cR aP (a1.nil _ _ _ _) (PG R) u r2 with h | ⟨j,C,_,A,_⟩
   ·exact h
   ·simp at A
end Go.Proofs.YtpdfmnhgocpkcaaGreat
namespace Go.Proofs.YtpdfmnhgocpkcaaGreat
open Go Go.Proofs.Aw Go.Proofs.Xw
set_option maxRecDepth 100000
def iv (L:RL):Nat->au
 | 0=>[((0,0),vi 405 9++vi 500 9++[xi 1,aY (0,1) 1 (.len 470),aY (0,2) 25 (.len 470),fx false,xn 2,xn 0]),((0,1),kR),((0,2),[.rows 25 (.len 470) L]),((0,3),oR)]
 | 1=>[((0,0),[xi 1,aY (0,1) 1 (.len 470),aY (0,2) 25 (.len 470),fx false,xn 2]++vi 500 9++[xl true,xn 0]),((0,1),kR),((0,2),[.rows 25 (.len 470) L]),((0,3),oR)]
 | 2=>[((0,0),vi 405 9++vi 600 9++[xi 1,aY (0,1) 1 (.len 470),aY (0,2) 25 (.len 470),fx false,xn 1,xn 0]),((0,1),kR),((0,2),[.rows 25 (.len 470) L]),((0,3),oR)]
 | _=>[((0,0),[xi 1,aY (0,1) 1 (.len 470),aY (0,2) 25 (.len 470),.k (.slice none 0 0),xn 1]++vi 600 9++[xl true,xn 0]),((0,1),kR),((0,2),[.rows 25 (.len 470) L])]
def c5:RL := .var 625 gh
noncomputable def PE (v:Nat) (g:Nat):List bj:=if Nat.beq g (oJ v)=true then [tB v]else []
noncomputable def zb (v:Nat):cr:=⟨bd [] (PE v),[],[10119]⟩
def Yu:X := .rl 22 (.len 630) (.var 630 fb) false
def zd:J:=fO++(oS++[(.lt (.len 630) (.lit 1),false)])
def vu:T (X×aL)->Bool
 | .ret (r,d)=>X.beq r Yu&&d.isEmpty
 | _=>false
theorem aqy:(vu (uu (zb 0) (oJ 0) [.ptr (0,0) [] 0] (iv c5 0) zd)&&yO (iv c5 0)&&(vu (uu (zb 1) (oJ 1) [.ptr (0,0) [] 0] (iv c5 1) zd)&&yO (iv c5 1))&&(vu (uu (zb 2) (oJ 2) [.ptr (0,0) [] 0] (iv c5 2) zd)&&yO (iv c5 2))&&(vu (uu (zb 3) (oJ 3) [.ptr (0,0) [] 0] (iv c5 3) zd)&&yO (iv c5 3)))=true:=by kernel_rfl
theorem aqz {v:Nat} (h:v<4):vu (uu (zb v) (oJ v) [.ptr (0,0) [] 0] (iv c5 v) zd)=true/\yO (iv c5 v)=true:=by
 have q:=aqy
 simp only[Bool.and_eq_true]at q
 obtain⟨⟨⟨v0,q1⟩,q2⟩,q3⟩:=q
 rcases(show v=0\/v=1\/v=2\/v=3 by omega)with rfl | rfl | rfl | rfl
 ·exact v0
 ·exact q1
 ·exact q2
 ·exact q3
theorem agY {t:T (X×aL)} (h:vu t=true):t = .ret (Yu,[]):=by
 cases t with
 | ret p =>
  obtain⟨r,d⟩:=p
  simp only[vu,Bool.and_eq_true]at h
  rw[X.beq_eq _ _ h.1,List.isEmpty_iff.1 h.2]
 | br _ _ _=>cases h
 | cL _ _=>cases h
 | fail _=>cases h
theorem aqx {v:Nat} (R:v<4) {ρ:aa} (h:bY Tryz.prog ρ (wg v) (pS v) (tB v)):∀g i,eC g gb=some i->a1 Tryz.prog ρ i.ntmps (PE v g) i.body:=fun g i hi=>by
 unfold PE
 split
 ·rename_i hf
  have hf:=Nat.eq_of_beq_eq_true hf
  subst hf
  have gc:ji Tryz.prog (oJ v) i:=mS (oJ v,i) (jW _ _ (jV hi))
  have go:∀(fn:Func),Tryz.prog.funcs[oJ v]? = some fn->wg v=fn.ntmps->pS v=(dP (fn.body.getD .skip))[0]?.getD .skip->vW [tB v] [0] 0 (dP (fn.body.getD .skip))=true->jB (dt (pS v)) [tB v]=[tB v]->a1 Tryz.prog ρ i.ntmps [tB v] i.body:=fun fn e1 e2 e3 e4 iF=>by
   refine ou gc e1 ?_
   rw[e2]at h
   refine kv (c:=fn.body.getD .skip) [0] e4 (List.forall_mem_cons.2 ⟨?_,List.forall_mem_nil _⟩)
   rw[<-e3]
   exact ku iF h
  rcases(show v=0\/v=1\/v=2\/v=3 by omega)with rfl | rfl | rfl | rfl
  ·exact go Tryz.f122 Tryz.func122 rfl rfl (by kernel_rfl) (by kernel_rfl)
  ·exact go Tryz.f116 Tryz.func116 rfl rfl (by kernel_rfl) (by kernel_rfl)
  ·exact go Tryz.f122 Tryz.func122 rfl rfl (by kernel_rfl) (by kernel_rfl)
  ·exact go Tryz.f116 Tryz.func116 rfl rfl (by kernel_rfl) (by kernel_rfl)
 ·exact a1.nil _ _ _ _
theorem afl {ρ F:aa} {f:Nat} {args:List X} {h h':au} {r r':X} (Z:c' Tryz.prog ρ ⟨f,args,h,r,ln h⟩) (ha:X.af ρ args=X.af F args) (W:aN ρ h=aN F h') (hr:r.I ρ=r'.I F):c' Tryz.prog F ⟨f,args,h',r',ln h'⟩:=by
 have e:∀(ρ:aa) (h:au),bk ρ (ln h)=(aN ρ h).map fun q=>(q.1,some q.2):=fun ρ h=>by
  simp only[bk,ln,aN,List.map_map];rfl
 refine⟨Z.1,?_⟩
 have q:=Z.2
 simp only[e]at q ⊢
 rw[ha,W,hr]at q
 exact q
theorem r9 {n:Nat} {ρ F:aa} (ah:az n ρ F) (h:au) (hb:(XS.mk [] h 0).ar n=true):aN ρ h=aN F h:=congrArg St.h (XS.aT ah (XS.mk [] h 0) hb)
theorem aqa {F:aa} {j:Nat} {l:List AV} (hi:∀k,F.ci 625 k j=aG l[k]?) (hb:∀k,F.cb 625 k j=dK l[k]?) (hs:∀k,F.cs 625 k j=cellS l[k]?) :
  (RL.var 625 gh).row F (j:Int)=[.sc (.int .i64 (aG l[0]?)),.sc (.bool (dK l[1]?)),.sc (.int .i64 (aG l[2]?)),.sc (.int .i64 (aG l[3]?)),.sc (.int .i64 (aG l[4]?)),.sc (.int .i64 (aG l[5]?)),.sc (.int .i64 (aG l[6]?)),.sc (.int .i64 (aG l[7]?)),.sc (.string (cellS l[8]?)),.sc (.string (cellS l[9]?)),.sc (.bool (dK l[10]?)),.sc (.int .i64 (aG l[11]?)),.sc (.int .i64 (aG l[12]?)),.sc (.int .i64 (aG l[13]?)),.sc (.int .i64 (aG l[14]?)),.sc (.int .i64 (aG l[15]?)),.sc (.int .i64 (aG l[16]?)),.sc (.int .i64 (aG l[17]?)),.sc (.int .i64 (aG l[18]?)),.sc (.int .i64 (aG l[19]?)),.sc (.int .i64 (aG l[20]?)),.sc (.int .i64 (aG l[21]?)),.sc (.int .i64 (aG l[22]?)),.sc (.int .i64 (aG l[23]?)),.sc (.int .i64 (aG l[24]?))]:=by
 simp only[<-hi,<-hb,<-hs]
 rfl
noncomputable def bK (ρ:aa) (ag:Bool):aa:={ ρ with ci:=fun l k j=>if l=625 then aG ((b9 ag).row ρ (j:Int))[k]? else ρ.ci l k j,cb:=fun l k j=>if l=625 then dK ((b9 ag).row ρ (j:Int))[k]? else ρ.cb l k j,cs:=fun l k j=>if l=625 then cellS ((b9 ag).row ρ (j:Int))[k]? else ρ.cs l k j }
theorem yX (ρ:aa) (ag:Bool):az 625 ρ (bK ρ ag):=⟨fun _ _=>rfl,fun _ _=>rfl,fun _ _=>rfl,fun _ _=>rfl,
 fun l M=>by funext k j;show _=if l=625 then _ else _;rw[if_neg (by omega)],fun l M=>by funext k j;show _=if l=625 then _ else _;rw[if_neg (by omega)],fun l M=>by funext k j;show _=if l=625 then _ else _;rw[if_neg (by omega)],fun _ _=>rfl⟩
theorem ao0 (ρ:aa) (ag:Bool) (j:Nat):(RL.var 625 gh).row (bK ρ ag) (j:Int)=(b9 ag).row ρ (j:Int):=by
 rw[aqa (F:=bK ρ ag) (j:=j) (l:=(b9 ag).row ρ (j:Int)) (fun _=>rfl) (fun _=>rfl) (fun _=>rfl)]
 by_cases O:(j:Int)=gZ.I ρ
 ·have e:(b9 ag).row ρ j=b' ρ (mK ag):=by
   show(if(j:Int)=gZ.I ρ then b' ρ (mK ag)else(RL.var 472 gh).row ρ j)=_
   rw[if_pos O]
  rw[e]
  cases ag<;>rfl
 ·have e:(b9 ag).row ρ j=(RL.var 472 gh).row ρ j:=by
   show(if(j:Int)=gZ.I ρ then b' ρ (mK ag)else(RL.var 472 gh).row ρ j)=_
   rw[if_neg O]
  rw[e]
  rfl
noncomputable def yY (ρ:aa):aa:={ ρ with ci:=fun l k j=>if l=630 then aG (jc ρ (j:Int))[k]? else ρ.ci l k j,cb:=fun l k j=>if l=630 then dK (jc ρ (j:Int))[k]? else ρ.cb l k j,cs:=fun l k j=>if l=630 then cellS (jc ρ (j:Int))[k]? else ρ.cs l k j }
theorem ao1 (ρ:aa):az 630 ρ (yY ρ):=⟨fun _ _=>rfl,fun _ _=>rfl,fun _ _=>rfl,fun _ _=>rfl,
 fun l M=>by funext k j;show _=if l=630 then _ else _;rw[if_neg (by omega)],fun l M=>by funext k j;show _=if l=630 then _ else _;rw[if_neg (by omega)],fun l M=>by funext k j;show _=if l=630 then _ else _;rw[if_neg (by omega)],fun _ _=>rfl⟩
theorem ao2 (ρ:aa) (j:Nat):(RL.var 630 fb).row (yY ρ) (j:Int)=jc ρ j:=Pw (ρ:=ρ) (F:=yY ρ) (j:=j) (x:=(j:Int)) (fun _=>rfl) (fun _=>rfl) (fun _=>rfl)
theorem Ju (ρ:aa) (ag:Bool):aA (bK ρ ag) [.rows 25 (.len 470) c5]=aA (bK ρ ag) [.rows 25 (.len 470) (b9 ag)]:=by
 have ah:=yX ρ ag
 show(aV (bK ρ ag) (.len 470) c5).flatten=(aV (bK ρ ag) (.len 470) (b9 ag)).flatten
 unfold aV
 congr 1
 refine List.map_congr_left fun j _ => ?_
 rw[show c5=RL.var 625 gh from rfl,ao0]
 exact RL.iC ah (b9 ag) _ (by cases ag<;>kernel_rfl)
theorem aqt (ρ:aa) (ag:Bool) (v:Nat) (R:v<4):aN (bK ρ ag) (iv c5 v)=aN (bK ρ ag) (iv (b9 ag) v):=by
 have e:=Ju ρ ag
 rcases(show v=0\/v=1\/v=2\/v=3 by omega)with rfl | rfl | rfl | rfl
 ·show [(_,_),(_,_),(_,aA (bK ρ ag) [.rows 25 (.len 470) c5]),(_,_)]=[(_,_),(_,_),(_,aA (bK ρ ag) [.rows 25 (.len 470) (b9 ag)]),(_,_)]
  rw[e]
 ·show [(_,_),(_,_),(_,aA (bK ρ ag) [.rows 25 (.len 470) c5]),(_,_)]=[(_,_),(_,_),(_,aA (bK ρ ag) [.rows 25 (.len 470) (b9 ag)]),(_,_)]
  rw[e]
 ·show [(_,_),(_,_),(_,aA (bK ρ ag) [.rows 25 (.len 470) c5]),(_,_)]=[(_,_),(_,_),(_,aA (bK ρ ag) [.rows 25 (.len 470) (b9 ag)]),(_,_)]
  rw[e]
 ·show [(_,_),(_,_),(_,aA (bK ρ ag) [.rows 25 (.len 470) c5])]=[(_,_),(_,_),(_,aA (bK ρ ag) [.rows 25 (.len 470) (b9 ag)])]
  rw[e]
theorem aqr:([true,false].all fun ag=>[0,1,2,3].all fun v=>(XS.mk [] (iv (b9 ag) v) 0).ar 625&&(XS.mk [] (iv c5 v) 0).ar 630)=true:=by kernel_rfl
theorem aqs (ag:Bool) {v:Nat} (R:v<4):(XS.mk [] (iv (b9 ag) v) 0).ar 625=true/\(XS.mk [] (iv c5 v) 0).ar 630=true:=by
 have h:=List.all_eq_true.1 aqr ag (by cases ag<;>simp)
 have h:=List.all_eq_true.1 h v (by simp only[List.mem_cons,List.not_mem_nil,or_false];omega)
 simpa only[Bool.and_eq_true]using h
theorem Yv {ρ:aa} (ag:Bool) (hT:TI ρ) (dp:ρ.i 443=1):∃F,az 625 ρ F/\∀v,v<4->c' Tryz.prog F ⟨oJ v,[.ptr (0,0) [] 0],iv (b9 ag) v,CJ,ln (iv (b9 ag) v)⟩:=by
 have bm:=yX ρ ag
 have bl:=ao1 (bK ρ ag)
 refine⟨yY (bK ρ ag),bm.trans (bl.le (by decide)),fun v R => ?_⟩
 have LP:=hT.bq (bm.le (by decide))
 have n1:=LP.n1
 have n6:=LP.n6
 obtain⟨ao,rt,ic,hL⟩:=aqw R (ρ:=bK ρ ag) dp n1 n6
 obtain⟨y1,y2⟩:=aqz R
 have hTf:=LP.bq (rt.le (by decide))
 have H:b4 Tryz.prog ao (zb v).c:=hj (List.forall_mem_nil _) (aqx R hL)
 have l4:ao.len 470=(bK ρ ag).len 470:=(rt.len 470 (by decide)).symm
 have e43:ao.i 443=1:=by rw[<-rt.i 443 (by decide)];exact dp
 have bp:J.ok ao fO:=J.av (by show(ao.i 443==1)=true;rw[e43];rfl) (fR (show(1:Int)<=(ao.len 470:Int)by omega) (j1 (show(ao.len 470:Int)<=6 by omega) (J.bt _)))
 have dO:J.ok ao [(.lt (.len 630) (.lit 1),false)]:=fR (show(1:Int)<=(ao.len 630:Int)by rw[ic.l];omega) (J.bt _)
 have u:J.ok ao zd:=eg bp (eg hTf.tr dO)
 have g:=acO H (List.forall_mem_nil _) u (by rw[agY y1];rfl) y2
 obtain⟨b1,b2⟩:=aqs ag R
 refine afl g rfl ?_ ?_
 ·rw[<-r9 rt _ b2,aqt ρ ag v R]
  exact r9 (bl.le (by decide)) _ b1
 ·show AV.ro 22 (aV ao (.len 630) (.var 630 fb)) false=AV.ro 22 (aV (yY (bK ρ ag)) (.len 470) (.var 630 fb)) false
  congr 1
  unfold aV
  have e1:((U.len 630).I ao).toNat=(bK ρ ag).len 470:=by show((ao.len 630:Nat):Int).toNat=_;rw[ic.l];exact Int.toNat_natCast _
  have e2:((U.len 470).I (yY (bK ρ ag))).toNat=(bK ρ ag).len 470:=Int.toNat_natCast _
  rw[e1,e2]
  refine List.map_congr_left fun j O => ?_
  rw[ic.r j (List.mem_range.1 O),ao2]
end Go.Proofs.YtpdfmnhgocpkcaaGreat
namespace Go.Proofs.YtpdfmnhgocpkcaaGreat
open Go Go.Proofs.Aw Go.Proofs.Xw
set_option maxRecDepth 100000
def xq (i:U):AL:=(List.range 6).foldr (fun k r => .i (.cl 625 (2+k) i) r) (.s (.cl 625 8 i) (.s (.cl 625 9 i) (.b (.cl 625 10 i) ((List.range 11).foldr (fun k r => .i (.cl 625 (11+k) i) r) .nil))))
def p6 (dM:Nat) (td:X) (rd:Int):au:=[((0,0),vi 405 9++vi dM 9++[xi 1,aY (0,1) 1 (.len 470),aY (0,2) 25 (.len 470),td,xn rd,xn 0]),((0,1),kR),((0,2),[.rows 25 (.len 470) c5]),((0,3),oR)]
def QF (i:X):ba:=[(11,i),(10,.sc (.i .i64 (.len 470))),(9,aY (0,2) 25 (.len 470)),(8,.top),(7,.top),(6,.top),(0,.ptr (0,0) [] 0)]
def Df:XS:=⟨QF (xn 0),p6 405 (fx false) 1,8⟩
def tS:XS:=⟨QF (xi 700),p6 640 (fx false) 1,8⟩
def rN:XS:=⟨QF .top,p6 640 (fx false) 1,60⟩
noncomputable def oU:Code:=(dP (Tryz.f120.body.getD .skip))[0]?.getD .skip
def e_:BE := .cl 625 1 (.var 700)
def wr7:BE := .eq (.uf 2 0 (xq (.var 700))) (.lit 1)
def ki4:List Nat:=[640,641,642,643,644,645,646,647,648]
def ZJ:List dm:=[⟨tS,[],[⟨0,[],[],(List.range 9).map (fun k=>(640+k,.op .max .i64 (.op .max .i64 (.lit 0) (.var (640+k))) (.uf 3 k (xq (.var 700))))),[],[(e_,true)]⟩,⟨0,ki4,[],[],[],[(e_,false)]⟩]⟩]
def IB:J:=[(.lt (.var 700) (.lit 0),false),(.lt (.var 700) (.len 470),true),(.lt (.len 470) p7,false),(.lt p7 (.lit 0),false)]++fO
def ZK:J:=[(.lt (.var 700) (.lit 0),false),(.lt (.var 700) (.len 470),false)]++fO
noncomputable def g0:cr:=⟨bd [] (fun _=>[]),h2,[10119]⟩
noncomputable def ZN (B:J):T (XE×XS):=(ck g0.c.ti (eD g0 12) ((g0.c.hv 120).elim [] (·.ms)) 2 [] 1000 oU B tS).map (dV (tS.t.map (·.1)))
noncomputable def ZL (B:J):Bool:=dB 2 630 700 [] (0,[]) 0 ZJ rN .normal B (ZN B)
noncomputable def tuX (B:J):Bool:=dB 2 630 700 [] (0,[]) 0 [] rN (.exit 0) B (ZN B)
theorem asz:(ZL ((e_,true)::(wr7,true)::IB)&&(ZL ((e_,false)::IB)&&tuX ZK))=true:=by kernel_rfl
end Go.Proofs.YtpdfmnhgocpkcaaGreat
