/- Parts of the proof, one behind the other. -/
import Derived.Test.YtpdfmnhgocpkcaaGreatTK5
import Derived.Test.YtpdfmnhgocpkcaaGreatTK4
namespace Go.Proofs.YtpdfmnhgocpkcaaGreat
open Go Go.Proofs.Aw Go.Proofs.Xw
set_option maxRecDepth 100000
def Cy (f:Nat) (vs:List AV) (r:AV):Prop:=cj Tryz.prog f=true/\∀n h,CY Tryz.prog n f vs h r []
theorem px:∀f∈[27,28,29,33,34,35,36,77,81,92,94,97,104,105,107,108,109,110,113,114,24,135],cj Tryz.prog f=true:=by
 intro f hf
 simp only[List.mem_cons,List.not_mem_nil,or_false]at hf
 rcases hf with rfl | rfl | rfl | rfl | rfl | rfl | rfl | rfl | rfl | rfl | rfl | rfl | rfl | rfl | rfl | rfl | rfl | rfl | rfl | rfl | rfl | rfl<;>kernel_rfl
theorem oE {ρ:aa} {a b:U} (h:a.I ρ<b.I ρ):(BE.lt a b).I ρ=true:=decide_eq_true h
theorem cN {ρ:aa} {a b:U} (h:¬a.I ρ<b.I ρ):(BE.lt a b).I ρ=false:=decide_eq_false h
theorem yC {ρ:aa} {a b:U} (h:(BE.not (.lt a b)).I ρ=true):¬a.I ρ<b.I ρ:=fun k=>by
 have:(!(decide (a.I ρ<b.I ρ)))=true:=h
 simp[k]at this
def cfM (n:Int) (j:Bool):List X:=[.agg ([xi 0,xn n]++vi 2 8++[xl j]++vi 11 2)]
theorem SG (ρ:aa):X.af ρ [.agg (iT 0)]=X.af ρ (cfM (ρ.i 1) (ρ.b 10)):=rfl
def J2:J:=[(.lt (.var 0) (.lit 1),true)]
def J3:J:=[(.lt (.lit 1099511627776) (.var 0),true)]
def J4:J:=[(.lt (.var 1) (.lit 1),true)]
def J5:J:=[(.lt (.lit 4) (.var 1),true)]
def xm (b:Bool):X := .sc (.b (.lit b))
theorem tJ (f:Nat) (B:J) (b:Bool) (h:iK (aS (cU []) f [.agg (iT 0)] B) (.ret (xm b))=true) {ρ:aa} (u:J.ok ρ B):Cy f (X.af ρ [.agg (iT 0)]) (.sc (.bool b)):=by
 unfold iK at h
 split at h
 ·rename_i x y e1 e2
  cases e2
  have:=X.beq_eq _ _ h
  subst this
  exact eG (kc ρ) (List.forall_mem_nil _) u (by rw[e1];rfl)
 ·cases h
theorem aqT (ρ:aa):∃b:Bool,Cy 97 (X.af ρ [.agg (iT 0)]) (.sc (.bool b))/\Cy 105 (X.af ρ [.agg (iT 0)]) (.sc (.bool b))/\(b=true->1<=ρ.i 1/\ρ.i 1<=4/\∀k:Nat,(k:Int)<ρ.i 1->0<=ρ.i (2+2*k)/\ρ.i (2+2*k)<=3):=by
 have one:∀{c:BE},c.I ρ=true->J.ok ρ [(c,true)]:=fun h=>J.aw h (J.bq ρ)
 by_cases h0:ρ.i 0<1
 ·have u:J.ok ρ J2:=one (oE h0)
  exact⟨false,tJ 97 J2 false (by kernel_rfl) u,tJ 105 J2 false (by kernel_rfl) u,fun h=>by cases h⟩
 by_cases A:1099511627776<ρ.i 0
 ·have u:J.ok ρ J3:=one (oE A)
  exact⟨false,tJ 97 J3 false (by kernel_rfl) u,tJ 105 J3 false (by kernel_rfl) u,fun h=>by cases h⟩
 by_cases E:ρ.i 1<1
 ·have u:J.ok ρ J4:=one (oE E)
  exact⟨false,tJ 97 J4 false (by kernel_rfl) u,tJ 105 J4 false (by kernel_rfl) u,fun h=>by cases h⟩
 by_cases h3:4<ρ.i 1
 ·have u:J.ok ρ J5:=one (oE h3)
  exact⟨false,tJ 97 J5 false (by kernel_rfl) u,tJ 105 J5 false (by kernel_rfl) u,fun h=>by cases h⟩
 have u:J.ok ρ gy:=J.aw (cN h0) (J.aw (cN A) (J.bq ρ))
 have go:∀(n:Nat) (j:Bool) (e e':BE),ρ.i 1=n->ρ.b 10=j->1<=n->n<=4->aS (cU []) 97 (fu n j) gy = .ret (.sc (.b e))->aS (cU []) 105 (fu n j) gy = .ret (.sc (.b e'))->e.I ρ=e'.I ρ->(e'.I ρ=true->∀c∈qy n,c.I ρ=true) ->
   ∃b:Bool,Cy 97 (X.af ρ [.agg (iT 0)]) (.sc (.bool b))/\Cy 105 (X.af ρ [.agg (iT 0)]) (.sc (.bool b))/\(b=true->1<=ρ.i 1/\ρ.i 1<=4/\∀k:Nat,(k:Int)<ρ.i 1->0<=ρ.i (2+2*k)/\ρ.i (2+2*k)<=3):=fun n j e e' hn M g1 g2 q1 q2 q3 q4=>by
  have bp:=eG (kc ρ) (List.forall_mem_nil _) u (show(aS (cU []) 97 (fu n j) gy).aq ρ=some _ by rw[q1];rfl)
  have bj:=eG (kc ρ) (List.forall_mem_nil _) u (show(aS (cU []) 105 (fu n j) gy).aq ρ=some _ by rw[q2];rfl)
  have ed:X.af ρ [.agg (iT 0)]=X.af ρ (fu n j):=by rw[SG,hn,M];rfl
  refine⟨e'.I ρ,?_,?_,fun h=>⟨by omega,by omega,fun k u => ?_⟩⟩
  ·rw[ed,<-q3];exact bp
  ·rw[ed];exact bj
  ·have h:=q4 h
   have u:k∈List.range n:=List.mem_range.2 (by omega)
   have m1:=h _ (List.mem_flatMap.2 ⟨k,u,List.mem_cons_self⟩)
   have m2:=h _ (List.mem_flatMap.2 ⟨k,u,List.mem_cons_of_mem _ List.mem_cons_self⟩)
   have m1:¬ρ.i (2+2*k)<0:=yC m1
   have m2:¬3<ρ.i (2+2*k):=yC m2
   omega
 have hn:ρ.i 1=1\/ρ.i 1=2\/ρ.i 1=3\/ρ.i 1=4:=by omega
 cases M:ρ.b 10<;>rcases hn with hn | hn | hn | hn
 ·exact go 1 false _ _ hn M (by omega) (by omega) apq ao5 (atn ρ) (adq ρ)
 ·exact go 2 false _ _ hn M (by omega) (by omega) aps ao7 (atp ρ) (ads ρ)
 ·exact go 3 false _ _ hn M (by omega) (by omega) apu ao9 (atr ρ) (adu ρ)
 ·exact go 4 false _ _ hn M (by omega) (by omega) apw apb (att ρ) (adw ρ)
 ·exact go 1 true _ _ hn M (by omega) (by omega) apr ao6 (ato ρ) (adr ρ)
 ·exact go 2 true _ _ hn M (by omega) (by omega) apt ao8 (atq ρ) (adt ρ)
 ·exact go 3 true _ _ hn M (by omega) (by omega) apv apa (ats ρ) (adv ρ)
 ·exact go 4 true _ _ hn M (by omega) (by omega) apx apc (atu ρ) (adx ρ)
theorem DJ (ρ:aa):∃g,j8 1 ((gV 0).I ρ) g:=by
 obtain⟨b,A,E,h3⟩:=aqT ρ
 refine⟨fun _=>if b=true then 1 else 0,⟨fun f hf n h => ?_,fun j => ?_,fun Z => ?_⟩⟩
 ·have e:I3 1 (fun _=>if b=true then 1 else 0) = .sc (.bool b):=by cases b<;>rfl
  rw[e]
  simp only[eM,List.mem_cons,List.not_mem_nil,or_false]at hf
  rcases hf with rfl | rfl
  ·exact A.2 n h
  ·exact E.2 n h
 ·simp only[jn];split<;>omega
 ·have hb:b=true:=by cases b<;>simp_all
  obtain⟨g1,g2,g3⟩:=h3 hb
  have q:∀k:Nat,k<4->vI ((gV 0).I ρ) (2+2*k)=ρ.i (2+2*k):=fun k u=>by
   rcases(show k=0\/k=1\/k=2\/k=3 by omega)with rfl | rfl | rfl | rfl<;>rfl
  refine⟨g1,g2,fun k u => ?_⟩
  have u:(k:Int)<ρ.i 1:=u
  rw[q k (by omega)]
  exact g3 k u
theorem Ip (f:Nat) (hf:f∈eM 1):c9 Tryz.prog (De f):=⟨px f (by simp only[eM,List.mem_cons,List.not_mem_nil,or_false]at hf;rcases hf with rfl | rfl<;>decide),fun ρ n h _=>by
 obtain⟨g,Z⟩:=DJ ρ
 exact(gT Z).qK f hf n h⟩
end Go.Proofs.YtpdfmnhgocpkcaaGreat
namespace Go.Proofs.YtpdfmnhgocpkcaaGreat
open Go Go.Proofs.Aw Go.Proofs.Xw
set_option maxRecDepth 100000
structure pb (cs:List AV) (D:List (List AV)) (ρ:aa):Prop where
 ah:aA 10 (ob cs D) ρ
 i0:0<=ρ.i 10
 i1:ρ.i 10<=D.length
structure hM (D:List (List AV)):Prop where
 h0:D≠[]
 l:D.length<=1000000
 r:∀e∈D,pc e
theorem pb.rows {cs:List AV} {D:List (List AV)} (hs:hM D) {ρ:aa} (h:pb cs D ρ):bN ρ 20 (.len 0) 0=D:=by
 rw[<-aeO (cs:=cs) hs.r]
 have O:ρ.len 0=(ob cs D).len 0:=(h.ah.len 0 (by decide)).symm
 have H:ρ.ct 0=(ob cs D).ct 0:=(h.ah.ct 0 (by decide)).symm
 unfold bN
 simp only[U.I,O,H]
theorem pb.len {cs:List AV} {D:List (List AV)} {ρ:aa} (h:pb cs D ρ):ρ.len 0=D.length:=(h.ah.len 0 (by decide)).symm
theorem W6:∀(e:List AV),(∀(i:Nat) (v:AV),e[i]? = some v->ca (fun _=>false) v=true)->a4 (fun _=>false) e=true
 | [],_=>rfl
 | v::e,h=>by simp only[a4,h 0 v rfl,W6 e fun i x hx=>h (i+1) x (by simpa using hx),Bool.and_self]
theorem pc.nm {e:List AV} (h:pc e):a4 (fun _=>false) e=true:=W6 e fun i v R=>by
 obtain⟨v',A,E,_⟩:=h.get (k:=i) (by
  have:=(List.getElem?_eq_some_iff.1 R).1
  rw[h.l]at this;exact this)
 rw[R]at A;cases A;exact E
theorem hM.nm {D:List (List AV)} (hs:hM D):cw (fun _=>false) D=true:=by
 have:∀D:List (List AV),(∀e∈D,pc e)->cw (fun _=>false) D=true:=fun D=>by
  induction D with
  | nil=>intro _;rfl
  | cons e D ih=>intro h;simp only[cw,(h e List.mem_cons_self).nm,ih fun x hx=>h x (List.mem_cons_of_mem _ hx),Bool.and_self]
 exact this D hs.r
theorem hM.G9 {D:List (List AV)} (hs:hM D):a4 (fun _=>false) D.flatten=true:=rH hs.nm
theorem Lr {cs:List AV} {D:List (List AV)} (hs:hM D) {ρ:aa} (h:pb cs D ρ):∀k∈Lh,cy Tryz.prog ρ k:=List.forall_mem_cons.2 ⟨⟨by kernel_rfl,by
 have hr:=h.rows hs
 have O:=h.len
 have e1:X.af ρ [.slv (0,0) 20 (.lit 0) (.len 0) true]=[.sl (0,0) 20 0 D.length true]:=by
  show [AV.sl (0,0) 20 0 ((ρ.len 0:Int)).toNat true]=_
  rw[O];rfl
 have e2:(X.slv (1,0) 20 (.lit 0) (.len 0) true).I ρ = .sl (1,0) 20 0 D.length true:=by
  show AV.sl (1,0) 20 0 ((ρ.len 0:Int)).toNat true=_
  rw[O];rfl
 have e3:bn ρ [((0,0),some [.tk 20 (.len 0) 0 []]),((1,0),some [.tk 20 (.len 0) 0 []])]=[((0,0),some D.flatten),((1,0),some D.flatten)]:=by
  show [((0,0),some (bN ρ 20 (.len 0) 0++[]).flatten),((1,0),some (bN ρ 20 (.len 0) 0++[]).flatten)]=_
  rw[hr,List.append_nil]
 have e4:aK ρ [((0,0),[.tk 20 (.len 0) 0 []])]=gj D:=by
  show [((0,0),(bN ρ 20 (.len 0) 0++[]).flatten)]=_
  rw[hr,List.append_nil];rfl
 show CY Tryz.prog 1 47 (X.af ρ [.slv (0,0) 20 (.lit 0) (.len 0) true]) (aK ρ [((0,0),[.tk 20 (.len 0) 0 []])]) ((X.slv (1,0) 20 (.lit 0) (.len 0) true).I ρ) (bn ρ [((0,0),some [.tk 20 (.len 0) 0 []]),((1,0),some [.tk 20 (.len 0) 0 []])])
 rw[e1,e2,e3,e4]
 have:=hs.l
 exact ad5 (fn:=Tryz.f47) (ty:=59) (e:=69) Tryz.func47 rfl rfl rfl (by kernel_rfl) (by kernel_rfl) hs.h0 (fun j r M=>(hs.r r (List.mem_of_getElem? M)).l) hs.G9 (by rw[show c' Tryz.prog 69=192 by kernel_rfl];omega) (by omega)⟩,List.forall_mem_nil _⟩
theorem ae0 {cs:List AV} {D:List (List AV)} (hs:hM D) {ρ:aa} (h:pb cs D ρ) (aT:ρ.i 10<D.length):∀p∈AU,cj Tryz.prog p.1=true/\∀n h,CY Tryz.prog n p.1 (X.af ρ p.2.1) h (p.2.2.I ρ) []:=by
 have h0:=h.i0
 have M:(ρ.i 10).toNat<D.length:=by omega
 have hr:=hs.r _ (List.getElem_mem M)
 have H:ρ.ct 0=(ob cs D).ct 0:=(h.ah.ct 0 (by decide)).symm
 have cQ:∀k v,D[(ρ.i 10).toNat][k]? = some v->(X.cQ 0 k (.var 10)).I ρ=v:=fun k v R=>by
  show(ρ.ct 0 k (ρ.i 10).toNat).1=v
  rw[H]
  exact TT hs.r (List.getElem?_eq_getElem M) R
 refine List.forall_mem_cons.2 ⟨⟨by kernel_rfl,fun n hp => ?_⟩,List.forall_mem_cons.2 ⟨⟨by kernel_rfl,fun n hp => ?_⟩,List.forall_mem_nil _⟩⟩
 ·obtain⟨v,A,ss,E,h3,h4⟩:=hr.t 3 (.r 1 [.s]) rfl
  have e:=cQ 3 v A
  show CY Tryz.prog n 48 [(X.cQ 0 3 (.var 10)).I ρ] hp ((X.cQ 0 3 (.var 10)).I ρ) []
  rw[e,E]
  exact ad3 h4 h3 n hp
 ·obtain⟨v,A,ss,E,h3,h4⟩:=hr.t 10 (.r 22 fy) rfl
  have e:=cQ 10 v A
  show CY Tryz.prog n 49 [(X.cQ 0 10 (.var 10)).I ρ] hp ((X.cQ 0 10 (.var 10)).I ρ) []
  rw[e,E]
  exact ad4 h4 h3 n hp
theorem Ld {cs:List AV} {D:List (List AV)} (hs:hM D) {ρ:aa} (h:pb cs D ρ):J.ok ρ AQ:=by
 have q1:=h.len;have q2:=h.i0;have q3:=h.i1;have q4:=hs.l
 have q5:1<=D.length:=List.length_pos_iff.2 hs.h0
 exact J.aw (cN (show ¬ρ.i 10<0 by omega)) (J.aw (cN (show ¬(ρ.len 0:Int)<ρ.i 10 by omega)) (J.aw (cN (show ¬(1000000:Int)<ρ.len 0 by omega)) (J.aw (cN (show ¬(ρ.len 0:Int)<1 by omega)) (J.bq ρ))))
theorem aeX (o:Bool) {cs:List AV} {D:List (List AV)} (hs:hM D):∃ar,aA 10 (ob cs D) ar/\pb cs D ar/\b8 Tryz.prog ar Tryz.f16.ntmps sK (AR o):=by
 have l5:aA 10 (ob cs D) (Lj.ap (ob cs D)):=Bind.bC (by kernel_rfl) _
 refine rz (P:=Tryz.prog) (N:=Tryz.f16.ntmps) (body:=sK) (k0:=2) (n:=10) (S0:=(E' o)) (ρ:=ob cs D) (aeS o) (fun _=>(xJ o)) (AR o) ⟨rfl,rfl,rfl⟩ (fun _ G=>pb cs D G) (pb cs D) (fun G=>D.length-(G.i 10).toNat) (fun i G hR => ?_)
  ⟨0,Lj.ap (ob cs D),l5,⟨l5,Int.le_refl _,show(0:Int)<=D.length by omega⟩,fun ac _ bM=>lL bM (aeW o) _⟩
 have q1:=hR.len;have q2:=hR.i0;have q3:=hR.i1;have q4:=hs.l
 by_cases aT:G.i 10<D.length
 ·right
  have H:cf Tryz.prog G (u5 AU).c:=uQ (ae0 hs hR aT) (fun _ _ _=>a5.nil _ _ _ _) (Lr hs hR) (List.forall_mem_nil _) (List.forall_mem_nil _)
  have e1:AP.I G=G.i 10+1:=(show AP.I G=IntKind.i64.wrap (G.i 10+1)from rfl).trans (cp _ (by omega) (by omega))
  have u:J.ok G Le:=J.aw (oE (show G.i 10<(G.len 0:Int)by omega)) (J.aw (cN (by rw[e1];show ¬_<(0:Int);omega)) (J.aw (cN (by rw[e1];show ¬(G.len 0:Int)<_;omega)) (Ld hs hR)))
  have Z:=(aeV o)
  unfold TR at Z
  split at Z
  ·rename_i s bJ
   have fK:=arB (P:=Tryz.prog) (ρ:=G) (N:=Tryz.f16.ntmps) (body:=sK) (k0:=2) (S:=(xJ o)) (nQ:=(xJ o)) mixed dj (ft (c:=u5 AU) H (List.forall_mem_nil _) 12) (a5.nil _ _ _ _) TW u rfl (s:=s) (by
    show((Ln o) AU Le).aq G=_
    rw[bJ];rfl) Z
   have ah:aA 10 G (La.ap G):=Bind.bC (by kernel_rfl) _
   have e10:(La.ap G).i 10=G.i 10+1:=e1
   exact⟨0,_,fK,⟨hR.ah.trans ah,by omega,by omega⟩,by omega,ah⟩
  ·cases Z
 ·left
  refine⟨hR,?_⟩
  have H:cf Tryz.prog G (u5 []).c:=uQ (List.forall_mem_nil _) (fun _ _ _=>a5.nil _ _ _ _) (Lr hs hR) (List.forall_mem_nil _) (List.forall_mem_nil _)
  have u:J.ok G Lc:=J.aw (cN (show ¬G.i 10<(G.len 0:Int)by omega)) (Ld hs hR)
  rcases ij mixed dj (ft (c:=u5 []) H (List.forall_mem_nil _) 12) (a5.nil _ _ _ _) TW u (aeU o)with h | ⟨j,C,_,A,_⟩
  ·exact h
  ·simp at A
noncomputable def Li (o:Bool) (g:Nat):List bo:=if Nat.beq g 16=true then [(AR o)]else []
noncomputable def Fb (o:Bool):cr:=⟨uP [] (Li o) Lh [] [],[],[]⟩
def Lq:X := .slv (1,0) 20 (.lit 0) (.len 0) true
def aeM (o:Bool):aN:=[((0,0),some (u4 o)),((0,1),some [.tk 20 (.len 0) 0 []]),((1,0),some [.tk 20 (.len 0) 0 []])]
def qM:aN->aN->Bool
 | [],[]=>true
 | (m,some x)::a,(m',some y)::b=>cC m m'&&(X.fc x y&&qM a b)
 | _,_=>false
theorem Tn:∀{a b:aN},qM a b=true->a=b
 | [],[],_=>rfl
 | (m,some x)::a,(m',some y)::b,h=>by
  simp only[qM,Bool.and_eq_true]at h
  rw[eB h.1,X.gv _ _ h.2.1,Tn h.2.2]
 | [],_::_,h=>by simp[qM]at h
 | (_,some _)::_,[],h=>by simp[qM]at h
 | (_,none)::_,[],h=>by simp[qM]at h
 | (_,none)::_,_::_,h=>by simp[qM]at h
 | (_,some _)::_,(_,none)::_,h=>by simp[qM]at h
def VK (o:Bool):T (X×aN)->Bool
 | .ret (r,d)=>X.beq r Lq&&qM d (aeM o)
 | _=>false
theorem aeZ (o:Bool):(VK o) (fH (Fb o) 16 [.ptr (0,0) [] 0] (Lf o) AQ)=true:=by cases o<;>kernel_rfl
theorem aeY (o:Bool) {ρ:aa} (h:b8 Tryz.prog ρ Tryz.f16.ntmps sK (AR o)):∀g i,eS g gA=some i->a5 Tryz.prog ρ i.ntmps ((Li o) g) i.body:=fun g i hi=>by
 unfold Li
 split
 ·rename_i hf
  have hf:=Nat.eq_of_beq_eq_true hf
  subst hf
  have g0:j6 Tryz.prog 16 i:=oc (16,i) (k8 _ _ (k7 hi))
  refine pN g0 Tryz.func16 ?_
  exact lE (c:=Tryz.f16.body.getD .skip) [0] (by cases o<;>kernel_rfl) (List.forall_mem_cons.2 ⟨lD (L:=(AR o)) (c:=sK) (by cases o<;>kernel_rfl) h,List.forall_mem_nil _⟩)
 ·exact a5.nil _ _ _ _
theorem aeT (o:Bool) {cs:List AV} (Mf:cs.length=42) (e7:∀(k:Nat) (c:AV),cs[k]? = some c->if u9 o k=true then c = .top else ca (fun _=>false) c=true/\c.one=true) {D:List (List AV)} (hs:hM D):CY Tryz.prog 1 16 [.ptr (0,0) 0] [((0,0),cs++[.sl (0,1) 20 0 D.length true]),((0,1),D.flatten)] (.ro 20 D false) [((0,0),some (cs++[.sl (0,1) 20 0 D.length true])),((0,1),some D.flatten)]:=by
 obtain⟨ar,ch,hI,hL⟩:=aeX o (cs:=cs) hs
 have H:cf Tryz.prog ar (Fb o).c:=uQ (List.forall_mem_nil _) ((aeY o) hL) (Lr hs hI) (List.forall_mem_nil _) (List.forall_mem_nil _)
 have hr:=(aeZ o)
 unfold VK at hr
 split at hr
 ·rename_i r d bJ
  simp only[Bool.and_eq_true]at hr
  have A:=X.beq_eq _ _ hr.1
  have E:=Tn hr.2
  subst A E
  have g:=(uL (c:=(Fb o)) H (List.forall_mem_nil _) (Ld hs hI) (show(fH (Fb o) 16 [.ptr (0,0) [] 0] (Lf o) AQ).aq ar=some _ by rw[bJ];rfl)).2
  have re:=hI.rows hs
  have hlen:=hI.len
  have ecs:X.af ar (Lp o)=cs:=by
   apply List.ext_getElem?
   intro k
   rw[X.uX]
   unfold Lp
   by_cases u:k<42
   ·rw[List.getElem?_map,List.getElem?_range u,Option.map_some,Option.map_some,List.getElem?_eq_getElem (by omega)]
    have hm:=e7 k cs[k] (List.getElem?_eq_getElem (by omega))
    congr 1
    split at hm
    ·rename_i h
     rw[if_pos h,hm];rfl
    ·rename_i h
     rw[if_neg h]
     show(ar.ct 5 k 0).1=_
     rw[<-ch.ct 5 (by decide)]
     show((if(5:Nat)=0 then se (((D[0]?).bind (·[k]?)).getD (.sc (.bool false)))else se ((cs[k]?).getD (.sc (.bool false)))).1)=_
     rw[if_neg (by decide),List.getElem?_eq_getElem (by omega),Option.getD_some,IS hm.1 hm.2]
   ·rw[List.getElem?_eq_none (by rw[List.length_map,List.length_range];omega),List.getElem?_eq_none (by omega)];rfl
  have n8:X.af ar (u4 o)=cs++[.sl (0,1) 20 0 D.length true]:=by
   unfold u4
   rw[X.gf,ecs]
   show cs++[AV.sl (0,1) 20 0 ((ar.len 0:Int)).toNat true]=_
   rw[hlen];rfl
  have K0:aB ar [.tk 20 (.len 0) 0 []]=D.flatten:=by
   show(bN ar 20 (.len 0) 0++[]).flatten=_
   rw[re,List.append_nil]
  have eCo:aB ar (u4 o)=cs++[.sl (0,1) 20 0 D.length true]:=by rw[cR (by cases o<;>kernel_rfl)];exact n8
  have aeC:Lq.I ar = .sl (1,0) 20 0 D.length true:=by
   show AV.sl (1,0) 20 0 ((ar.len 0:Int)).toNat true=_
   rw[hlen];rfl
  have g:CY Tryz.prog 1 16 [.ptr (0,0) 0] [((0,0),aB ar (u4 o)),((0,1),aB ar [.tk 20 (.len 0) 0 []])] (Lq.I ar) [((0,0),some (aB ar (u4 o))),((0,1),some (aB ar [.tk 20 (.len 0) 0 []])),((1,0),some (aB ar [.tk 20 (.len 0) 0 []]))]:=g
  rw[eCo,K0,aeC]at g
  have hw:∀(j:Nat) (r:List AV),D[j]? = some r->r.length=20:=fun j r M=>(hs.r r (List.mem_of_getElem? M)).l
  have q:=abD (r' := .ro 20 D false) (fun m hm ay => ?_) ?_ g
  ·exact q
  ·simp only[List.map_cons,List.map_nil,List.mem_cons,List.not_mem_nil,or_false]at hm
   rcases hm with rfl | rfl | rfl
   ·simp[aE,dO]
   ·simp[aE,dO]
   ·exact absurd rfl ay
  ·refine .inl (.inl (.inr ⟨(1,0),20,0,D.length,true,D,rfl,by decide,?_,hs.nm,rfl⟩))
   have e:aE (([((0,0),some (cs++[AV.sl (0,1) 20 0 D.length true])),((0,1),some D.flatten),((1,0),some D.flatten)]:Dl).filter fun q=>q.1.1==1) []=[((1,0),D.flatten)]:=rfl
   rw[e]
   simp only[ez,ae,if_true,Option.bind_some]
   rw[if_pos ⟨trivial,by rw[gY _ hw];omega⟩,List.drop_zero,Ay _ _ hw (Nat.le_refl _),List.take_of_length_le (Nat.le_refl _)]
 ·cases hr
end Go.Proofs.YtpdfmnhgocpkcaaGreat
namespace Go.Proofs.Xw
open Go Go.Proofs.Aw
def lU (c:AV) (Y:Value):AV:=match c with
 | .top => .top
 | _ => .sc Y
theorem asF {C:Ctx} (c:AV) (Y:Value):ak C (lU c Y) Y:=by
 unfold lU
 split
 ·simp only[ak]
 ·show Y=Y;rfl
theorem asE {C C':Ctx} (O:C.le C') {c:AV} {Y u':Value} (h:ak C c Y) (k:ak C' (lU c Y) u'):ak C' c u':=by
 unfold lU at k
 split at k
 ·simp only[ak]
 ·have k:u'=Y:=k
  rw[k];exact ak.mono O _ _ h
theorem abE {P:Program} {n:Nat} {f:FuncId} {args:List AV} {h:Hp} {r:AV} {d:Dl} {m:Nm} {cs t t':List AV} (hm:ae h m=some (cs++t)) (hd:ae (aE d h) m=some (cs++t'))
  (aR:∀us:List Value,us.length=cs.length->(∀(j:Nat) (c:AV) (Y:Value),cs[j]? = some c->us[j]? = some Y->c.one=true->Y.oneCell'=true)->∃(A:Hp) (d1:Dl),(∀q,q≠m->ae A q=ae h q)/\ae A m=some (List.zipWith lU cs us++t)/\d1.map (·.1)=d.map (·.1)/\(∀q,q≠m->ae (aE d1 A) q=ae (aE d h) q)/\ae (aE d1 A) m=some (List.zipWith lU cs us++t')/\CY P n f args A r d1):CY P n f args h r d:=by
 intro C vs W hL hn
 obtain⟨arr,ty,ha,ho⟩:=W.obj m _ hm
 have key:∀j (M:j<cs.length),∃Y,arr[C.bs m+j]? = some Y/\ak C cs[j] Y:=fun j M=>ho j cs[j] (by rw[List.getElem?_append_left M,List.getElem?_eq_getElem M])
 let us:List Value:=(List.range cs.length).map fun j=>(arr[C.bs m+j]?).getD undef
 have fL:us.length=cs.length:=by simp[us]
 have hu:∀j (M:j<cs.length),us[j]? = some ((arr[C.bs m+j]?).getD undef):=fun j M=>by
  show((List.range cs.length).map _)[j]? = _
  rw[List.getElem?_map,List.getElem?_range M];rfl
 have hz:(List.zipWith lU cs us).length=cs.length:=by rw[List.length_zipWith,fL,Nat.min_self]
 have VB:∀j (M:j<cs.length),(List.zipWith lU cs us)[j]? = some (lU cs[j] ((arr[C.bs m+j]?).getD undef)):=fun j M=>by
  rw[List.getElem?_zipWith,List.getElem?_eq_getElem M,hu j M]
 obtain⟨A,d1,e1,e2,e3,e4,iV,H⟩:=aR us fL fun j c Y Mh Vr A=>by
  have M:j<cs.length:=(List.getElem?_eq_some_iff.1 Mh).1
  obtain⟨v,k1,k2⟩:=key j M
  rw[hu j M,k1]at Vr
  rw[List.getElem?_eq_getElem M]at Mh
  cases Vr;cases Mh
  exact CM k2 A
 have some1:∀q,(ae A q).isSome=(ae h q).isSome:=fun q=>by
  by_cases hq:q=m
  ·subst hq;rw[e2,hm];rfl
  ·rw[e1 q hq]
 have hh1:c6 C A:=by
  refine⟨fun q=>by rw[W.live,some1],fun q c Z => ?_,W.inj,W.mt,W.kn⟩
  by_cases hq:q=m
  ·subst hq
   rw[e2]at Z;cases Z
   refine⟨arr,ty,ha,fun j c M => ?_⟩
   by_cases aT:j<cs.length
   ·rw[List.getElem?_append_left (by rw[hz];exact aT),VB j aT]at M
    cases M
    obtain⟨Y,A,_⟩:=key j aT
    refine⟨Y,A,?_⟩
    rw[A];exact asF _ _
   ·refine ho j c ?_
    rw[List.getElem?_append_right (by rw[hz];omega),hz]at M
    rw[List.getElem?_append_right (by omega)]
    exact M
  ·rw[e1 q hq]at Z;exact W.obj q c Z
 refine(H C vs hh1 hL hn).mono ?_
 rintro e w' ⟨Y,C',F,hw,hp⟩
 refine⟨Y,C',F,hw,hp.le,hp.kn,⟨fun q => ?_,fun q c Z => ?_,hp.heap.inj,hp.heap.mt,hp.heap.kn⟩,hp.val,fun b hb hq=>hp.same b hb fun q h2=>hq q (by rw[<-e3];exact h2),hp.mt,hp.os,hp.tape,hp.output,fun q hq => ?_,fun q hq=>hp.names q (by rw[e3];exact hq)⟩
 ·rw[hp.heap.live q]
  by_cases hq:q=m
  ·subst hq;rw[iV,hd];rfl
  ·rw[e4 q hq]
 ·by_cases hq:q=m
  ·subst hq
   rw[hd]at Z;cases Z
   obtain⟨arr',ty',dG,d3⟩:=hp.heap.obj q _ iV
   refine⟨arr',ty',dG,fun j c M => ?_⟩
   by_cases aT:j<cs.length
   ·rw[List.getElem?_append_left aT,List.getElem?_eq_getElem aT]at M
    cases M
    obtain⟨u',g1,g2⟩:=d3 j _ (by rw[List.getElem?_append_left (by rw[hz];exact aT),VB j aT])
    obtain⟨v,k1,k2⟩:=key j aT
    refine⟨u',g1,?_⟩
    rw[k1]at g2
    exact asE hp.le k2 g2
   ·refine d3 j c ?_
    rw[List.getElem?_append_right (by omega)]at M
    rw[List.getElem?_append_right (by rw[hz];omega),hz];exact M
  ·rw[<-e4 q hq]at Z;exact hp.heap.obj q c Z
 ·rcases hp.lM q hq with h | h | ⟨m0,A,E,h3⟩
  ·exact .inl h
  ·exact .inr (.inl h)
  ·exact .inr (.inr ⟨m0,by rw[<-e3];exact A,E,h3⟩)
theorem OJ {p:Nm->Bool}:∀(a b:List AV),a4 p (a++b)=(a4 p a&&a4 p b)
 | [],b=>by simp only[List.nil_append,a4,Bool.true_and]
 | x::a,b=>by simp only[List.cons_append,a4,OJ a b,Bool.and_assoc]
theorem W7 {p:Nm->Bool}:∀{l:List AV},(∀c∈l,c = .top\/∃Y:Value,c = .sc Y)->a4 p l=true
 | [],_=>rfl
 | c::l,h=>by
  have O:=W7 (p:=p) fun x hx=>h x (List.mem_cons_of_mem _ hx)
  rcases h c List.mem_cons_self with rfl | ⟨Y,rfl⟩<;>simp only[a4,ca,O,Bool.and_self]
theorem Yj (f:Nm->Nm):∀{l:List AV},(∀c∈l,c = .top\/∃Y:Value,c = .sc Y)->bu f l=l
 | [],_=>rfl
 | c::l,h=>by
  have O:=Yj f fun x hx=>h x (List.mem_cons_of_mem _ hx)
  rcases h c List.mem_cons_self with rfl | ⟨Y,rfl⟩<;>simp only[bu,aW,O]
theorem abF {P:Program} {n:Nat} {f:FuncId} {args:List AV} {h h':Hp} {r:AV} {d:Dl} (hs:∀m,(ae h m).isSome=(ae h' m).isSome) (a0:∀m cs bi,ae h m=some cs->ae h' m=some bi->bQ bi cs) (af7:∀m,m∉d.map (·.1)->ae h m=ae h' m) (H:CY P n f args h' r d):CY P n f args h r d:=by
 intro C vs W hL hn
 have agn:c6 C h':=by
  refine⟨fun m=>by rw[W.live,hs],fun m bi Z => ?_,W.inj,W.mt,W.kn⟩
  obtain⟨cs,aI⟩:∃cs,ae h m=some cs:=Option.isSome_iff_exists.1 (by rw[hs,Z];rfl)
  obtain⟨arr,ty,ha,ho⟩:=W.obj m cs aI
  refine⟨arr,ty,ha,fun j c M => ?_⟩
  obtain⟨y,hy,O⟩:=(a0 m cs bi aI Z).2 j c M
  obtain⟨Y,hu,a'⟩:=ho j y hy
  exact⟨Y,hu,O C Y a'⟩
 refine(H C vs agn hL hn).mono ?_
 rintro e w' ⟨Y,C',F,hw,hp⟩
 have TG:∀m,ae (aE d h) m=ae (aE d h') m:=fun m=>by
  rcases na m d h with⟨_,A⟩ | ⟨A,E⟩
  ·exact A h'
  ·rw[E,gC d h' m A,af7 m A]
 exact⟨Y,C',F,hw,hp.le,hp.kn,⟨fun m=>by rw[TG];exact hp.heap.live m,fun m cs Z=>by rw[TG]at Z;exact hp.heap.obj m cs Z,hp.heap.inj,hp.heap.mt,hp.heap.kn⟩,hp.val,hp.same,hp.mt,hp.os,hp.tape,hp.output,hp.lM,hp.names⟩
end Go.Proofs.Xw
namespace Go.Proofs.YtpdfmnhgocpkcaaGreat
open Go Go.Proofs.Aw Go.Proofs.Xw
set_option maxRecDepth 100000
theorem aeR {h:Hp} {m m':Nm} {ds:List AV} {ao:List (List AV)} (hs:hM ao) (o:Bool) (O:ds.length=42) (ho:∀(k:Nat) (c:AV),ds[k]? = some c->if u9 o k=true then c = .top else ∃Y:Value,c = .sc Y/\Y.oneCell'=true) (ay:m≠m') {sl:List AV} (MM:sl=[.sl m' 20 0 ao.length true]) (A:ae h m=some (ds++sl)) (E:ae h m'=some ao.flatten) (n:Nat) :
  CY Tryz.prog n 16 [.ptr m 0] h (.ro 20 ao false) [(m,some (ds++sl)),(m',some ao.flatten)]:=by
 subst MM
 intro C vs W hL hn
 have nm:∀q,(ae h q).isSome=true->q.1≠n:=fun q hq e=>hn q.2 (by rw[<-e];exact W.kn q ((W.live q).2 hq))
 have n1:=nm m (by rw[A];rfl)
 have n2:=nm m' (by rw[E];rfl)
 have ts:∀c∈ds,c = .top\/∃Y:Value,c = .sc Y:=fun c H=>by
  obtain⟨k,u⟩:=List.getElem?_of_mem H
  have:=ho k c u
  split at this
  ·exact .inl this
  ·obtain⟨Y,e,_⟩:=this;exact .inr ⟨Y,e⟩
 have WP:∀p,a4 p ds=true:=fun p=>W7 ts
 have Ya:∀f,bu f ds=ds:=fun f=>Yj f ts
 have q:=aeT o (cs:=ds) O (fun k c u=>by
  have:=ho k c u
  split at this
  ·rename_i h;rw[if_pos h];exact this
  ·rename_i h
   rw[if_neg h]
   obtain⟨Y,e,A⟩:=this
   subst e
   exact⟨rfl,A⟩) hs
 let aF:Nm->Nm:=fun k=>if k=(0,0)then m else if k=(0,1)then m' else k
 let cE:Nm->Nm:=fun k=>if k=m then(0,0)else if k=m' then(0,1)else(1,k.2)
 let hs:Hp:=[(m,ds++[.sl m' 20 0 ao.length true]),(m',ao.flatten)]
 have AX:aF (0,0)=m:=if_pos rfl
 have f1:aF (0,1)=m':=by show(if((0,1):Nm)=(0,0)then m else _)=m';rw[if_neg (by decide),if_pos rfl]
 have c0:cE m=(0,0):=if_pos rfl
 have c1:cE m'=(0,1):=by show(if m'=m then _ else _)=_;rw[if_neg (fun e=>ay e.symm),if_pos rfl]
 have AB:∀k,cE (n,k)=(1,k):=fun k=>by
  show(if(n,k)=m then _ else _)=_
  rw[if_neg (fun e=>n1 (by rw[<-e])),if_neg (fun e=>n2 (by rw[<-e]))]
 have gs:∀k cs,ae hs k=some cs->(k=m/\cs=ds++[.sl m' 20 0 ao.length true])\/(k=m'/\cs=ao.flatten):=fun k cs Z=>by
  simp only[hs,ae]at Z
  split at Z
  ·rename_i e;cases Z;exact .inl ⟨e.symm,rfl⟩
  ·split at Z
   ·rename_i e;cases Z;exact .inr ⟨e.symm,rfl⟩
   ·cases Z
 have lc:∀k cs,ae [((0,0),ds++[AV.sl (0,1) 20 0 ao.length true]),((0,1),ao.flatten)] k=some cs->(k=(0,0)/\cs=ds++[.sl (0,1) 20 0 ao.length true])\/(k=(0,1)/\cs=ao.flatten):=fun k cs Z=>by
  simp only[ae]at Z
  split at Z
  ·rename_i e;cases Z;exact .inl ⟨e.symm,rfl⟩
  ·split at Z
   ·rename_i e;cases Z;exact .inr ⟨e.symm,rfl⟩
   ·cases Z
 have hm:ae hs m=some (ds++[.sl m' 20 0 ao.length true]):=by simp only[hs,ae,if_true]
 have a1:ae hs m'=some ao.flatten:=by simp only[hs,ae];rw[if_neg ay];simp only[if_true]
 have GT:∀f:Nm->Nm,bu f ao.flatten=ao.flatten:=fun f=>lN f _ ‹hM ao›.G9
 refine RN (hs:=hs) aF cE q rfl (by show _=[AV.ptr (aF (0,0)) 0];rw[AX]) (fun k cs Z => ?_) (fun k u => ?_) (fun k k' u aJ F => ?_) (fun k cs Z => ?_) (fun k u => ?_) (fun k u => ?_) ?_ ?_ (fun k cs Z hp => ?_) (fun j _=>by rw[AB];exact Nat.le_refl _) (fun i j _ _ F => ?_) C vs W hL hn
 ·rcases lc k cs Z with⟨rfl,rfl⟩ | ⟨rfl,rfl⟩
  ·refine⟨by decide,by rw[OJ,WP];rfl,?_⟩
   rw[AX,hm,HY,Ya]
   show _=some (ds++[AV.sl (aF (0,1)) 20 0 ao.length true])
   rw[f1]
  ·exact⟨by decide,pX (p:=fun _=>false) (fun _ h=>by cases h) _ ‹hM ao›.G9,by rw[f1,a1,GT]⟩
 ·obtain⟨cs,aI⟩:=Option.isSome_iff_exists.1 u
  rcases gs k cs aI with⟨rfl,_⟩ | ⟨rfl,_⟩
  ·rw[c0];exact⟨rfl,AX⟩
  ·rw[c1];exact⟨rfl,f1⟩
 ·obtain⟨cs,aI⟩:=Option.isSome_iff_exists.1 u
  obtain⟨bi,qW⟩:=Option.isSome_iff_exists.1 aJ
  rcases lc k cs aI with⟨rfl,_⟩ | ⟨rfl,_⟩<;>rcases lc k' bi qW with⟨rfl,_⟩ | ⟨rfl,_⟩
  ·rfl
  ·rw[AX,f1]at F;exact absurd F ay
  ·rw[AX,f1]at F;exact absurd F.symm ay
  ·rfl
 ·rcases gs k cs Z with⟨rfl,rfl⟩ | ⟨rfl,rfl⟩
  ·exact A
  ·exact E
 ·right
  simp only[List.map_cons,List.map_nil,List.mem_cons,List.not_mem_nil,or_false]at u
  rcases u with rfl | rfl
  ·rw[hm];rfl
  ·rw[a1];rfl
 ·obtain⟨cs,aI⟩:=Option.isSome_iff_exists.1 u
  rcases gs k cs aI with⟨rfl,_⟩ | ⟨rfl,_⟩<;>simp
 ·show cw _ ao=true
  exact OI (p:=fun _=>false) (fun _ h=>by cases h) _ ‹hM ao›.nm
 ·show AV.ro 20 ao false = .ro 20 (dJ cE ao) false
  rw[p9 cE ao ‹hM ao›.nm]
 ·have FU:k=m\/k=m':=by
   simp only[eg,Bool.or_eq_true,beq_iff_eq]at hp
   rcases hp with hp | hp
   ·exfalso
    have u:(ae h k).isSome=true:=by
     rcases na k [(m,some (ds++[AV.sl m' 20 0 ao.length true])),(m',some ao.flatten)] h with⟨g,_⟩ | ⟨_,g⟩
     ·simp only[List.map_cons,List.map_nil,List.mem_cons,List.not_mem_nil,or_false]at g
      rcases g with rfl | rfl
      ·exact absurd hp n1
      ·exact absurd hp n2
     ·rw[<-g,Z];rfl
    exact nm k u hp
   ·obtain⟨cs,aI⟩:=Option.isSome_iff_exists.1 hp
    rcases gs k cs aI with⟨e,_⟩ | ⟨e,_⟩
    ·exact .inl e
    ·exact .inr e
  have aow:eg n hs m'=true:=by simp only[eg,a1,Option.isSome_some,Bool.or_true]
  rcases FU with rfl | rfl
  ·have e:ae (aE [(k,some (ds++[AV.sl m' 20 0 ao.length true])),(m',some ao.flatten)] h) k=some (ds++[AV.sl m' 20 0 ao.length true]):=by
    simp only[aE,dO];rw[if_neg (fun e=>ay e.symm)];simp only[if_true]
   rw[e]at Z;cases Z
   refine⟨by rw[OJ,WP];simp only[a4,ca,aow,Bool.and_self],?_⟩
   rw[c0,HY,Ya]
   show _=some (ds++[AV.sl (cE m') 20 0 ao.length true])
   rw[c1];rfl
  ·have e:ae (aE [(m,some (ds++[AV.sl k 20 0 ao.length true])),(k,some ao.flatten)] h) k=some ao.flatten:=by
    simp only[aE,dO,if_true]
   rw[e]at Z;cases Z
   exact⟨pX (p:=fun _=>false) (fun _ h=>by cases h) _ ‹hM ao›.G9,by rw[c1,GT];rfl⟩
 ·rw[AB,AB]at F
  exact congrArg Prod.snd F
theorem TV {h:Hp} {m m':Nm} {cs fl:List AV} {ao:List (List AV)} (hs:hM ao) (o:Bool) (O:cs.length=42) (ho:∀(k:Nat) (c:AV),cs[k]? = some c->if u9 o k=true then c = .top else c.one=true) (ay:m≠m') (A:ae h m=some (cs++[.sl m' 20 0 ao.length true])) (E:ae h m'=some fl) (a0:bQ ao.flatten fl) (n:Nat) :
  CY Tryz.prog n 16 [.ptr m 0] h (.ro 20 ao false) [(m,some (cs++[.sl m' 20 0 ao.length true])),(m',some ao.flatten)]:=by
 have gd:∀(x:List AV) (h:Hp),ae (aE [(m,some x),(m',some ao.flatten)] h) m=some x:=fun x h=>by
  simp only[aE,dO];rw[if_neg (fun e=>ay e.symm)];simp only[if_true]
 have avX:∀(x:List AV) (h:Hp),ae (aE [(m,some x),(m',some ao.flatten)] h) m'=some ao.flatten:=fun x h=>by
  simp only[aE,dO,if_true]
 refine abE (m:=m) (cs:=cs) (t:=[.sl m' 20 0 ao.length true]) (t':=[.sl m' 20 0 ao.length true]) A (gd _ h) fun us hu gG => ?_
 let ds:=List.zipWith lU cs us
 have hz:ds.length=42:=by show(List.zipWith lU cs us).length=42;rw[List.length_zipWith,hu,Nat.min_self,O]
 have jE:∀(k:Nat) (c:AV),ds[k]? = some c->if u9 o k=true then c = .top else ∃Y:Value,c = .sc Y/\Y.oneCell'=true:=fun k c u=>by
  have av4:k<42:=by
   have:=(List.getElem?_eq_some_iff.1 u).1
   omega
  have H:cs[k]? = some cs[k]:=List.getElem?_eq_getElem (by omega)
  have R:us[k]? = some us[k]:=List.getElem?_eq_getElem (by omega)
  have u:(List.zipWith lU cs us)[k]? = some c:=u
  rw[List.getElem?_zipWith,H,R]at u
  have u:lU cs[k] us[k]=c:=Option.some.inj u
  have q:=ho k _ H
  split at q
  ·rename_i h
   rw[if_pos h,<-u,q];rfl
  ·rename_i h
   rw[if_neg h]
   refine⟨us[k],?_,gG k _ _ H R q⟩
   rw[<-u]
   unfold lU
   split
   ·rename_i e;rw[e]at q;cases q
   ·rfl
 let pi:Hp:=g9 (g9 h m' ao.flatten) m (ds++[.sl m' 20 0 ao.length true])
 have hm:ae (g9 h m (ds++[.sl m' 20 0 ao.length true])) m=some (ds++[.sl m' 20 0 ao.length true]):=by simp only[dO,if_true]
 refine⟨g9 h m (ds++[.sl m' 20 0 ao.length true]),[(m,some (ds++[.sl m' 20 0 ao.length true])),(m',some ao.flatten)],fun q hq=>by rw[dO,if_neg (fun e=>hq e.symm)],hm,rfl,fun q hq => ?_,gd _ _,?_⟩
 ·simp only[aE,dO]
  split
  ·rfl
  ·rw[if_neg (fun e=>hq e.symm),if_neg (fun e=>hq e.symm),if_neg (fun e=>hq e.symm)]
 ·have dI:ae pi m=some (ds++[.sl m' 20 0 ao.length true]):=by show ae (g9 _ m _) m=_;simp only[dO,if_true]
  have dW:ae pi m'=some ao.flatten:=by show ae (g9 (g9 h m' _) m _) m'=_;rw[dO,if_neg ay,dO];simp only[if_true]
  have d3:ae (g9 h m (ds++[.sl m' 20 0 ao.length true])) m'=some fl:=by rw[dO,if_neg ay];exact E
  have ME:∀q,q≠m->q≠m'->ae (g9 h m (ds++[.sl m' 20 0 ao.length true])) q=ae pi q:=fun q hq h2=>by
   show _=ae (g9 (g9 h m' _) m _) q
   rw[dO,if_neg (fun e=>hq e.symm),dO,if_neg (fun e=>hq e.symm),dO,if_neg (fun e=>h2 e.symm)]
  refine abF (h':=pi) (fun q => ?_) (fun q a b ha hb => ?_) (fun q hq => ?_) (aeR hs o hz jE ay rfl dI dW n)
  ·by_cases e:q=m
   ·subst e;rw[hm,dI]
   ·by_cases e':q=m'
    ·subst e';rw[d3,dW];rfl
    ·rw[ME q e e']
  ·by_cases e:q=m
   ·subst e;rw[hm]at ha;rw[dI]at hb;cases ha;cases hb;exact bQ.refl _
   ·by_cases e':q=m'
    ·subst e';rw[d3]at ha;rw[dW]at hb;cases ha;cases hb;exact a0
    ·rw[ME q e e',hb]at ha;cases ha;exact bQ.refl _
  ·simp only[List.map_cons,List.map_nil,List.mem_cons,List.not_mem_nil,or_false,not_or]at hq
   exact ME q hq.1 hq.2
end Go.Proofs.YtpdfmnhgocpkcaaGreat
namespace Go.Proofs.Xw
open Go Go.Proofs.Aw
theorem Ge {l:List X} (h:2<=l.length):b0 l=false:=by
 unfold b0
 split
 ·simp at h
 ·simp at h
 ·rfl
theorem bQ.flat:∀{a b:List (List AV)},a.length=b.length->(∀(j:Nat) (x y:List AV),a[j]? = some x->b[j]? = some y->bQ x y)->bQ a.flatten b.flatten
 | [],[],_,_=>bQ.refl _
 | [],_::_,h,_=>by cases h
 | _::_,[],h,_=>by cases h
 | x::a,y::b,h,k=>by
  simp only[List.flatten_cons]
  exact bQ.app (k 0 x y rfl rfl) (bQ.flat (by simpa using h) fun j x y hx hy=>k (j+1) x y (by simpa using hx) (by simpa using hy))
end Go.Proofs.Xw
namespace Go.Proofs.YtpdfmnhgocpkcaaGreat
open Go Go.Proofs.Aw Go.Proofs.Xw
set_option maxRecDepth 100000
def AS (D:List (List X)):U:=mkAdd (.len 460) (.lit D.length)
def m5 (B:J) (D:List (List X)):List (List X):=D.map (iG B jR)
def VS:X->Bool
 | .top=>true
 | _=>false
def sL (o:Bool) (cs:List X):Bool:=Nat.beq cs.length 42&&(List.range 42).all fun k=>match cs[k]? with
 | some x=>if u9 o k=true then VS x else x.one
 | none=>false
theorem TS {ρ:aa} {o:Bool} {cs:List X} (h:sL o cs=true):(X.af ρ cs).length=42/\∀(k:Nat) (c:AV),(X.af ρ cs)[k]? = some c->if u9 o k=true then c = .top else c.one=true:=by
 simp only[sL,Bool.and_eq_true,List.all_eq_true]at h
 have O:=Nat.eq_of_beq_eq_true h.1
 refine⟨by rw[X.gg];exact O,fun k c u => ?_⟩
 rw[X.uX]at u
 obtain⟨x,hx,rfl⟩:=Option.map_eq_some_iff.1 u
 have u:k<42:=by
  have:=(List.getElem?_eq_some_iff.1 hx).1
  omega
 have q:=h.2 k (List.mem_range.2 u)
 rw[hx]at q
 simp only at q
 split at q
 ·rename_i ht
  rw[if_pos ht]
  unfold VS at q
  split at q
  ·rfl
  ·cases q
 ·rename_i ht
  rw[if_neg ht];exact X.one_den ρ x q
def TP (B:J) (cs:List X) (D:List (List X)):Bool:=(sL false cs||sL true cs)&&((Nat.blt 0 D.length||nD B (.lt (.len 460) (.lit 1),false))&&(Nat.ble D.length 1000&&(nD B (.lt (.lit 1000) (.len 460),false)&&(m5 B D).all fun e=>Nat.beq e.length 20&&sg B iE e)))
def Lo (B:J) (args:List X) (h:av):Option (X×aN):=match args with
 | [.ptr m [] 0]=>match bl h m with
  | some c=>match c.drop 42 with
   | [.slv m' z off n own]=>match bl h m' with
    | some [.tk z' n' t D]=>if(!(cC m m')&&(Nat.beq z 20&&(off.beq (.lit 0)&&(n.beq (AS D)&&(own&&(Nat.beq z' 20&&(n'.beq (.len 460)&&(Nat.beq t 460&&TP B (c.take 42) D))))))))=true then
      some (.tq 20 (.len 460) 460 (m5 B D) false,[(m,some c),(m',some [.tk 20 (.len 460) 460 (m5 B D)])])else none
    | _=>none
   | [.sl m' z off n own]=>match bl h m' with
    | some o=>if(!(cC m m')&&(Nat.beq z 20&&(Nat.beq off 0&&(Nat.beq n 1&&(own&&((sL false (c.take 42)||sL true (c.take 42))&&(Nat.beq o.length 20&&(Nat.beq (iG B jR o).length 20&&sg B iE (iG B jR o)))))))))=true then
      some (.ro 20 [iG B jR o] false,[(m,some c),(m',some (iG B jR o))])else none
    | none=>none
   | _=>none
  | none=>none
 | _=>none
theorem aeN (B:J) (D:List (List X)):(m5 B D).length=D.length:=by simp[m5]
theorem TU {ρ:aa} {B:J} (u:J.ok ρ B) {r:List X} (hq:(Nat.beq r.length 20&&sg B iE r)=true):pc (X.af ρ r):=by
 rw[Bool.and_eq_true]at hq
 refine⟨by rw[X.gg];exact Nat.eq_of_beq_eq_true hq.1,fun k t sV => ?_⟩
 obtain⟨x,hx,ht⟩:=QT hq.2 sV
 exact⟨x.I ρ,by rw[X.uX,hx];rfl,aac u ht⟩
theorem aeP {ρ:aa} {B:J} (u:J.ok ρ B) (hT:eP 460 iE ρ) {D:List (List X)} (h:((m5 B D).all fun e=>Nat.beq e.length 20&&sg B iE e)=true):∀e∈bN ρ 20 (.len 460) 460++X.a7 ρ (m5 B D),pc e:=by
 intro e F
 rcases List.mem_append.1 F with F | F
 ·unfold bN at F
  obtain⟨j,M,rfl⟩:=List.mem_map.1 F
  have M:j<ρ.len 460:=by
   have:=List.mem_range.1 M
   have e:((U.len 460).I ρ).toNat=ρ.len 460:=Int.toNat_natCast _
   omega
  refine⟨by simp,fun k t sV => ?_⟩
  have agp:k<20:=by
   have:=(List.getElem?_eq_some_iff.1 sV).1
   rw[V4]at this;exact this
  refine⟨_,?_,hT j k t M sV⟩
  rw[List.getElem?_map,List.getElem?_range agp];rfl
 ·rw[X.eH]at F
  obtain⟨r,hr,rfl⟩:=List.mem_map.1 F
  exact TU u (List.all_eq_true.1 h r hr)
theorem aeQ {ρ:aa} {B:J} (u:J.ok ρ B) (hT:eP 460 iE ρ) {args:List X} {h:av} {r:X} {d:aN} (hq:Lo B args h=some (r,d)) (n:Nat):CY Tryz.prog n 16 (X.af ρ args) (aK ρ h) (r.I ρ) (bn ρ d):=by
 unfold Lo at hq
 split at hq
 ·rename_i m
  split at hq
  ·rename_i c H
   split at hq
   ·rename_i m' z off av6 own Mi
    split at hq
    ·rename_i z' n' t D dH
     split at hq
     ·rename_i Bt
      cases hq
      simp only[TP,Bool.and_eq_true,Bool.not_eq_true']at Bt
      obtain⟨c1,c2,c3,dE,c5,t9,c7,In,IR,h3,h4,h5,h6⟩:=Bt
      have c2:=Nat.eq_of_beq_eq_true c2;have c3:=U.beq_eq _ _ c3;have dE:=U.beq_eq _ _ dE;have t9:=Nat.eq_of_beq_eq_true t9;have c7:=U.beq_eq _ _ c7;have In:=Nat.eq_of_beq_eq_true In
      subst c2 c3 dE c5 t9 c7 In
      have ay:m≠m':=fun e=>by rw[e]at c1;simp[cC]at c1
      have h3:0<ρ.len 460+D.length:=by
       rcases Bool.or_eq_true_iff.1 h3 with h | h
       ·have:0<D.length:=by simpa [Nat.blt_eq]using h
        omega
       ·have:¬(ρ.len 460:Int)<1:=of_decide_eq_false (rZ u h)
        omega
      have h4:=Nat.le_of_ble_eq_true h4
      have h5:¬(1000:Int)<(ρ.len 460:Int):=of_decide_eq_false (rZ u h5)
      let ao:List (List AV):=bN ρ 20 (.len 460) 460++X.a7 ρ (m5 B D)
      have hT0:(bN ρ 20 (.len 460) 460).length=ρ.len 460:=by rw[zj];exact Int.toNat_natCast _
      have hE:(X.a7 ρ (m5 B D)).length=D.length:=by rw[X.eH,List.length_map,aeN]
      have hR:ao.length=ρ.len 460+D.length:=by show(bN ρ 20 (.len 460) 460++X.a7 ρ (m5 B D)).length=_;rw[List.length_append,hT0,hE]
      have hs:hM ao:=⟨fun e=>by have:=congrArg List.length e;rw[hR]at this;simp only[List.length_nil]at this;omega,by omega,aeP u hT h6⟩
      have ho:∃o,sL o (c.take 42)=true:=by
       rcases Bool.or_eq_true_iff.1 IR with h | h
       ·exact⟨_,h⟩
       ·exact⟨_,h⟩
      obtain⟨o,ho⟩:=ho
      obtain⟨O,ho⟩:=TS (ρ:=ρ) ho
      have qO:c=c.take 42++[.slv m' 20 (.lit 0) (AS D) true]:=by rw[<-Mi,List.take_append_drop]
      have hn:((AS D).I ρ).toNat=ao.length:=by
       unfold AS
       rw[fo,hR]
       show(((ρ.len 460:Int)+(D.length:Int))).toNat=_
       omega
      have n8:aB ρ c=X.af ρ (c.take 42)++[.sl m' 20 0 ao.length true]:=by
       have l2:2<=c.length:=by
        have:=congrArg List.length qO
        rw[X.gg]at O
        rw[List.length_append,O]at this
        omega
       rw[cR (Ge l2)]
       conv=>lhs;rw[qO]
       rw[X.gf]
       show X.af ρ (c.take 42)++[AV.sl m' 20 0 ((AS D).I ρ).toNat true]=_
       rw[hn]
      have g1:ae (aK ρ h) m=some (X.af ρ (c.take 42)++[.sl m' 20 0 ao.length true]):=by rw[cL,H,Option.map_some,n8]
      have g2:ae (aK ρ h) m'=some (bN ρ 20 (.len 460) 460++X.a7 ρ D).flatten:=by rw[cL,dH];rfl
      have a0:bQ ao.flatten (bN ρ 20 (.len 460) 460++X.a7 ρ D).flatten:=by
       show bQ (bN ρ 20 (.len 460) 460++X.a7 ρ (m5 B D)).flatten _
       rw[List.flatten_append,List.flatten_append]
       refine bQ.app (bQ.refl _) (bQ.flat (by rw[hE,X.eH,List.length_map]) fun j x y hx hy => ?_)
       rw[X.xx]at hx hy
       unfold m5 at hx
       rw[List.getElem?_map]at hx
       obtain⟨r,hr,rfl⟩:=Option.map_eq_some_iff.1 hy
       rw[hr]at hx
       cases hx
       exact CE u jR r
      have q:=TV hs o O ho ay g1 g2 a0 n
      show CY Tryz.prog n 16 [.ptr m 0] (aK ρ h) (.ro 20 ao false) [(m,some (aB ρ c)),(m',some ao.flatten)]
      rw[n8]
      exact q
     ·cases hq
    ·cases hq
   ·rename_i m' z off n own Mi
    split at hq
    ·rename_i o dH
     split at hq
     ·rename_i Bt
      cases hq
      simp only[Bool.and_eq_true,Bool.not_eq_true']at Bt
      obtain⟨c1,c2,c3,dE,c5,IR,h4,h5⟩:=Bt
      have c2:=Nat.eq_of_beq_eq_true c2;have c3:=Nat.eq_of_beq_eq_true c3;have dE:=Nat.eq_of_beq_eq_true dE;have h4:=Nat.eq_of_beq_eq_true h4
      have h6:=Nat.eq_of_beq_eq_true h5.1
      subst c2 c3 dE c5
      have ay:m≠m':=fun e=>by rw[e]at c1;simp[cC]at c1
      have hs:hM [X.af ρ (iG B jR o)]:=⟨by simp,by simp,fun e F=>by
       rw[List.mem_singleton]at F
       subst F
       exact TU u (by rw[Bool.and_eq_true];exact h5)⟩
      have ho:∃o,sL o (c.take 42)=true:=by
       rcases Bool.or_eq_true_iff.1 IR with h | h
       ·exact⟨_,h⟩
       ·exact⟨_,h⟩
      obtain⟨b,ho⟩:=ho
      obtain⟨O,ho⟩:=TS (ρ:=ρ) ho
      have qO:c=c.take 42++[.sl m' 20 0 1 true]:=by rw[<-Mi,List.take_append_drop]
      have n8:aB ρ c=X.af ρ (c.take 42)++[.sl m' 20 0 1 true]:=by
       have l2:2<=c.length:=by
        have:=congrArg List.length qO
        rw[X.gg]at O
        rw[List.length_append,O]at this
        omega
       rw[cR (Ge l2)]
       conv=>lhs;rw[qO]
       rw[X.gf]
       rfl
      have K0:aB ρ (iG B jR o)=X.af ρ (iG B jR o):=cR (Ge (by omega))
      have g1:ae (aK ρ h) m=some (X.af ρ (c.take 42)++[.sl m' 20 0 1 true]):=by rw[cL,H,Option.map_some,n8]
      have g2:ae (aK ρ h) m'=some (X.af ρ o):=by rw[cL,dH,Option.map_some,cR (Ge (by omega))]
      have q:=TV hs b O ho ay g1 g2 (by
       show bQ (X.af ρ (iG B jR o)++[]) _
       rw[List.append_nil]
       exact CE u jR o) n
      show CY Tryz.prog n 16 [.ptr m 0] (aK ρ h) (.ro 20 [X.af ρ (iG B jR o)] false) [(m,some (aB ρ c)),(m',some (aB ρ (iG B jR o)))]
      rw[n8,K0]
      have e:[X.af ρ (iG B jR o)].flatten=X.af ρ (iG B jR o):=by simp
      rw[e]at q
      exact q
     ·cases hq
    ·cases hq
   ·cases hq
  ·cases hq
 ·cases hq
end Go.Proofs.YtpdfmnhgocpkcaaGreat
namespace Go.Proofs.YtpdfmnhgocpkcaaGreat
open Go Go.Proofs.Aw Go.Proofs.Xw
set_option maxRecDepth 100000
def Lb (call:bI):bI:=fun n f args h B=>if Nat.beq f 16=true then(match Lo B args h with
  | some p => .ret p
  | none=>call n f args h B)else call n f args h B
theorem aeL {ρ:aa} (hT:eP 460 iE ρ) {call:bI} (H:dk Tryz.prog ρ call):dk Tryz.prog ρ (Lb call):=fun n f args h B r d u hq=>by
 unfold Lb at hq
 split at hq
 ·rename_i hf
  have hf:=Nat.eq_of_beq_eq_true hf
  subst hf
  split at hq
  ·rename_i p hp
   obtain⟨r',gx⟩:=p
   cases hq
   exact⟨by kernel_rfl,aeQ u hT hp n⟩
  ·exact H n 16 args h B r d u hq
 ·exact H n f args h B r d u hq
def AF (c:jr) (call:bI):List Nat->bI
 | []=>fun n f args h B=>if Nat.beq f 91=true then call n f (CD B args) h B else call n f args h B
 | g::gs=>fun n f args h B=>if Nat.beq f g=true then vf c (AF c call gs) n f args h B else call n f args h B
theorem Tc {ρ:aa} {c:jr} (vd:cf Tryz.prog ρ c) {call:bI} (H:dk Tryz.prog ρ call):∀gs,dk Tryz.prog ρ (AF c call gs)
 | []=>fun n f args h B r d u hq=>by
  unfold AF at hq
  split at hq
  ·have:=H n f _ h B r d u hq
   rw[OQ u]at this
   exact this
  ·exact H n f args h B r d u hq
 | g::gs=>fun n f args h B r d u hq=>by
  unfold AF at hq
  split at hq
  ·exact Bw vd (Tc vd H gs) u hq
  ·exact H n f args h B r d u hq
def JY (call : bI) (c : cr) (f : Nat) (args : List X) (B : J) : T X := if X.lJ args = true then (tI c.c call f args B).map (·.1) else .fail ["args"]
theorem adl {ρ:aa} {call:bI} {c:cr} (H:cf Tryz.prog ρ c.c) (aO:dk Tryz.prog ρ call) {f:Nat} {args:List X} {B:J} {r:X} (u:J.ok ρ B) (h:(JY call c f args B).aq ρ=some r):cj Tryz.prog f=true/\∀n h,CY Tryz.prog n f (X.af ρ args) h (r.I ρ) []:=by
 unfold JY at h
 split at h
 ·rename_i ha
  obtain⟨p,A,rfl⟩:=T.jk _ h
  obtain⟨r,d⟩:=p
  have hd:d=[]:=by
   unfold tI at A
   split at A
   ·obtain⟨_,z,_,_,h4⟩:=T.cZ _ u A
    split at h4
    ·cases h4;rfl
    ·cases h4
   ·cases A
  subst hd
  exact⟨(CV (n:=0) (h:=[]) H aO ha u A).1,fun n hp=>(CV H aO ha u A).2⟩
 ·cases h
def Ad (c:cr):Nat->List X->J->T X:=JY (fun n f args h B=>if Nat.beq f 26=true then AF c.c (eT c 12) [26,56] n f args h B else Lb (eT c 12) n f args h B) c
theorem adh {ρ:aa} {c:cr} (H:cf Tryz.prog ρ c.c) (hs:∀s∈c.sm,c9 Tryz.prog s) (hT:eP 460 iE ρ) {f:Nat} {args:List X} {B:J} {r:X} (u:J.ok ρ B) (h:(Ad c f args B).aq ρ=some r):cj Tryz.prog f=true/\∀n h,CY Tryz.prog n f (X.af ρ args) h (r.I ρ) []:=by
 refine adl H (fun n f args h B r d u hq => ?_) u h
 split at hq
 ·exact Tc H (ft H hs 12) _ n f args h B r d u hq
 ·exact aeL hT (ft H hs 12) n f args h B r d u hq
def z3:J->T X->Bool
 | B,.ret (.sc (.b e))=>nD B (e,true)
 | _,_=>false
end Go.Proofs.YtpdfmnhgocpkcaaGreat
