/- Parts of the proof, one behind the other. -/
import Derived.Test.YtpdfmnhgocpkcaaGreatTK3
import Derived.Test.YtpdfmnhgocpkcaaGreatAwK2
namespace Go.Proofs.YtpdfmnhgocpkcaaGreat
open Go Go.Proofs.Aw Go.Proofs.Xw
set_option maxRecDepth 100000
theorem aje {P:Program} {ty e:TypeId} {z:Nat} (hs:bE P ty=some (e,z)) {D:List (List AV)} (h0:D≠[]):gX P [] .eql ty (.ro z D false) (.sc (.slice none 0 0))=some (.sc (.bool false)):=by
 unfold gX
 rw[J7 (fun k i h=>by cases h)]
 cases D with
 | nil=>exact absurd rfl h0
 | cons e D=>simp only[kO,hs,mE]
theorem SR {P:Program} {f:FuncId} {fn:Func} {ty e:TypeId} {z:Nat} (hf:P.funcs[f]? = some fn) (hb:fn.body=some (uR ty)) (hr:fn.results.toList=[.tmp 2]) (hN:fn.ntmps=8) (hs:bE P ty=some (e,z)) (hz:nL P e=some z)
  {D:List (List AV)} (h0:D≠[]) (hn:cw (fun _=>false) D=true) (O:D.length*c' P e<=140737488355328) (hm:D.length<=9223372036854775807) (n:Nat) (h:Hp):CY P n f [.ro z D false] h (.ro z D false) []:=by
 have hA:ca (fun _=>false) (.ro z D false)=true:=hn
 refine Jx hf hb (by rw[hN];show 1<=8;decide) (by simp only[a4,hA,Bool.and_self]) hA (fun ac hE _ _ => ?_) n h
 rw[hr]
 exact SO (b:=false) (by rw[hE,hN]) hs hz (aje hs h0) (fun h=>by cases h) fun _=>⟨D,by simp only[ez,if_true],O,hm,rfl⟩
def gj (D:List (List AV)):Hp:=[((0,0),D.flatten)]
theorem ad2 {P:Program} {ac:Env} {ty e:TypeId} {z:Nat} (hN:ac.N=8) (hs:bE P ty=some (e,z)) (hz:nL P e=some z) {D:List (List AV)} (h0:D≠[]) (hw:∀(j:Nat) (r:List AV),D[j]? = some r->r.length=z) (hn:a4 (fun _=>false) D.flatten=true) (O:D.length*c' P e<=140737488355328) (hm:D.length<=9223372036854775807) :
  AW P ac (uR ty) (RT P [.tmp 2] 1 (fun _=>(7,0)) (gj D) (aE [((0,0),some D.flatten),((1,0),some D.flatten)] (gj D)) (.sl (1,0) z 0 D.length true)) ⟨gN 0 [.sl (0,0) z 0 D.length true],gj D,2⟩:=by
 unfold uR
 refine o_ fun K hK=>ux [] (by rw[hN];rfl) ?_
 unfold Kp
 rw[j4]
 refine hK _ ?_
 refine o_ fun K hK=>o_ fun K1 L2=>ux [] (by rw[hN];rfl) ?_
 unfold Kq
 rw[j4]
 show iM P [] _ _ K1 _ _ _
 rw[j4]
 have e0:gX P (gj D) .eql ty (.sl (0,0) z 0 D.length true) (.sc (.slice none 0 0))=some (.sc (.bool false)):=by
  unfold gX
  rw[J7 (fun k i h=>by cases h)]
  simp only[kO,hs,gj,ae,if_true,Option.isSome_some,mE]
 show lH P _ _ (da (gX P (gj D) .eql ty (.sl (0,0) z 0 D.length true) (.sc (.slice none 0 0)))) _
 rw[e0]
 refine L2 _ (D8 (b:=false) rfl (fun hb=>by cases hb) (fun _ => ?_))
 refine Jv (hK _ ?_)
 refine o_ fun K2 Bm=>ux [7] (by rw[hN];rfl) ?_
 unfold Kr
 rw[j4]
 have e1:nZ P 5 false ty 0 []=some (.ro z [] true,[]):=by
  unfold nZ
  rw[hs]
  simp only[hz,ld]
  rw[if_pos ⟨trivial,by omega,rfl,trivial⟩]
  rfl
 show lH P _ _ (lC (nZ P 5 false ty 0 [])) _
 rw[e1]
 show iM P [7] _ _ K2 _ _ _
 rw[j4]
 show iM P [7] _ _ K2 _ _ _
 rw[j4]
 have e2:nX P 7 (gj D) true ty ty (.ro z [] true) (.sl (0,0) z 0 D.length true)=some (.sl (7,0) z 0 D.length true,[((7,0),some D.flatten)]):=by
  unfold nX
  rw[hs]
  have ee:ez (gj D) z (.sl (0,0) z 0 D.length true)=some D:=by
   simp only[ez,gj,ae,if_true,Option.bind_some]
   rw[if_pos ⟨trivial,by rw[gY _ hw];omega⟩,List.drop_zero,Ay _ _ hw (Nat.le_refl _),List.take_of_length_le (Nat.le_refl _)]
  simp only[hz,ee,and_self,if_true,ju,jv,nW]
  rw[if_pos ⟨by simpa using O,by simpa using hm,fun _=>h0⟩]
  simp
 show lH P _ _ (lC (nX P 7 (gj D) true ty ty (.ro z [] true) (.sl (0,0) z 0 D.length true))) _
 rw[e2]
 show iM P [7] _ _ K2 _ _ _
 rw[j4]
 refine Bm _ (D9 ⟨.inl rfl,?_,fun m cs u hp => ?_⟩)
 ·rfl
 ·have e3:∀m,ae (aE [((0,0),some D.flatten),((1,0),some D.flatten)] (gj D)) m=if m=(1,0)then some D.flatten else if m=(0,0)then some D.flatten else none:=fun m=>by
   simp only[aE,dO,gj,ae]
   by_cases A:m=(1,0)
   ·subst A;simp
   ·by_cases E:m=(0,0)
    ·subst E;simp
    ·simp[A,E,Ne.symm A,Ne.symm E]
  rw[e3]at u
  by_cases A:m=(1,0)
  ·subst A
   rw[if_pos rfl]at u
   cases u
   rw[lN _ _ hn]
   show ae (aE [((7,0),some D.flatten)] (gj D)) (7,0)=_
   simp[aE,dO]
  ·rw[if_neg A]at u
   by_cases E:m=(0,0)
   ·subst E
    rw[if_pos rfl]at u
    cases u
    rw[lN _ _ hn]
    show ae (aE [((7,0),some D.flatten)] (gj D)) (0,0)=_
    simp[aE,dO,gj,ae]
   ·rw[if_neg E]at u;cases u
theorem ad5 {P:Program} {f:FuncId} {fn:Func} {ty e:TypeId} {z:Nat} (hf:P.funcs[f]? = some fn) (hb:fn.body=some (uR ty)) (hr:fn.results.toList=[.tmp 2]) (hN:fn.ntmps=8) (hs:bE P ty=some (e,z)) (hz:nL P e=some z)
  {D:List (List AV)} (h0:D≠[]) (hw:∀(j:Nat) (r:List AV),D[j]? = some r->r.length=z) (hn:a4 (fun _=>false) D.flatten=true) (O:D.length*c' P e<=140737488355328) (hm:D.length<=9223372036854775807):CY P 1 f [.sl (0,0) z 0 D.length true] (gj D) (.sl (1,0) z 0 D.length true) [((0,0),some D.flatten),((1,0),some D.flatten)]:=by
 have nmono:∀(p:Nm->Bool) (l:List AV),a4 (fun _=>false) l=true->a4 p l=true:=fun p l h=>pX (p:=fun _=>false) (q:=p) (fun m hm=>by cases hm) l h
 have lc:∀m,ae (gj D) m=if m=(0,0)then some D.flatten else none:=fun m=>by
  by_cases E:m=(0,0)
  ·subst E;simp[gj,ae]
  ·simp[gj,ae,E,Ne.symm E]
 have g1:∀m,ae (aE [((0,0),some D.flatten),((1,0),some D.flatten)] (gj D)) m=if m=(1,0)then some D.flatten else if m=(0,0)then some D.flatten else none:=fun m=>by
  simp only[aE,dO]
  by_cases A:m=(1,0)
  ·subst A;simp
  ·by_cases E:m=(0,0)
   ·subst E;simp
   ·simp[A,E,Ne.symm A,Ne.symm E,lc]
 have one:∀k,(ae (aE [((0,0),some D.flatten),((1,0),some D.flatten)] (gj D)) (1,k)).isSome=true->k=0:=fun k h=>by
  rw[g1]at h
  by_cases u:k=0
  ·exact u
  ·rw[if_neg (by simp[u]),if_neg (by simp)]at h;cases h
 refine RO (fun _=>(7,0)) hf hb (by rw[hN];show 1<=8;decide) (fun m cs h=>h) (fun m cs h => ?_) rfl (fun m hm => ?_) (fun m hm => ?_) rfl (fun m cs hm hp => ?_) (fun k u=>by show 1<7;decide) (fun j k M u _=>by rw[one j M,one k u]) (fun ac hE=>by
  rw[hr]
  exact ad2 (by rw[hE,hN]) hs hz h0 hw hn O hm)
 ·rw[lc]at h
  split at h
  ·rename_i e;subst e;cases h
   exact⟨by decide,nmono _ _ hn⟩
  ·cases h
 ·simp only[List.map_cons,List.map_nil,List.mem_cons,List.not_mem_nil,or_false]at hm
  rcases hm with rfl | rfl
  ·exact .inr (by rw[lc];rfl)
  ·exact .inl rfl
 ·rw[lc]at hm
  split at hm
  ·rename_i e;subst e;simp
  ·cases hm
 ·rw[g1]at hm
  split at hm
  ·cases hm;exact nmono _ _ hn
  ·split at hm
   ·cases hm;exact nmono _ _ hn
   ·cases hm
end Go.Proofs.YtpdfmnhgocpkcaaGreat
namespace Go.Proofs.Xw
open Go Go.Proofs.Aw
theorem arB {P:Program} {ρ:aa} {N:Nat} {body:Code} {ti:Nat->Option TI} {call:bI} {ms:List Nat} {bP:List bo} {fuel k0 n:Nat} {S S' nQ:XS} {s:XS} (hm:P.follows .mixedOrders=true) (bb:eO.ok P ti)
  (aO:dk P ρ call) (lw:a5 P ρ N bP body) (d8:dp N body=true) {aQ:J} (u:J.ok ρ aQ) (hd:S.I ρ=S'.I ρ) {ks:List Nat}
  (rf:((cz ti call ms k0 bP fuel body aQ S').map (eu ks)).aq ρ=some (.normal,s)) {β:Bind} {nm:List (Nm×Nm)} (a2:gp k0 n β nm nQ s=true):ei P N body k0 S nQ ρ (β.ap ρ):=by
 intro ac hE bM
 obtain⟨p,hq,F⟩:=T.jk _ rf
 rw[hd]
 have g:=kf (ac:=ac) hm bb aO bM body aQ _ p.1 p.2 u (by rw[hE];exact d8) (by rw[hE];exact lw) hq
 have q1:=congrArg Prod.fst F
 have q2:=congrArg Prod.snd F
 simp only at q1 q2
 refine dB (fun e' s' W=>⟨?_,?_⟩) g
 ·rw[W.1,show p.1=XE.normal from q1.symm]
 ·have i:=fx W.2 (zt ks ρ p)
  rw[<-q2]at i
  exact vH i (lL bM a2 ρ)
end Go.Proofs.Xw
namespace Go.Proofs.YtpdfmnhgocpkcaaGreat
open Go Go.Proofs.Aw Go.Proofs.Xw
set_option maxRecDepth 100000
def u9 (o:Bool) (k:Nat):Bool:=o&&((Nat.ble 19 k&&Nat.blt k 27)||Nat.ble 40 k)
def Lp (o:Bool):List X:=(List.range 42).map fun k=>if u9 o k=true then X.top else .cQ 5 k (.lit 0)
def u4 (o:Bool):List X:=Lp o++[.slv (0,1) 20 (.lit 0) (.len 0) true]
def Lf (o:Bool):av:=[((0,0),(u4 o)),((0,1),[.tk 20 (.len 0) 0 []])]
def Lh:List GK:=[⟨47,[.slv (0,0) 20 (.lit 0) (.len 0) true],[((0,0),[.tk 20 (.len 0) 0 []])],.slv (1,0) 20 (.lit 0) (.len 0) true,[((0,0),some [.tk 20 (.len 0) 0 []]),((1,0),some [.tk 20 (.len 0) 0 []])]⟩]
def AU:List (Nat×List X×X):=[(48,[.cQ 0 3 (.var 10)],.cQ 0 3 (.var 10)),(49,[.cQ 0 10 (.var 10)],.cQ 0 10 (.var 10))]
def oa:X := .slv (7,0) 20 (.lit 0) (.len 0) true
def Ff (i:X):bf:=[(12,i),(11,.sc (.i .i64 (.len 0))),(10,.top),(3,oa),(9,.top),(8,.top),(7,.top),(6,.top),(5,.top),(2,.top),(0,.ptr (0,0) [] 0)]
def Lg (o:Bool):av:=(Lf o)++[((7,0),[.tk 20 (.len 0) 0 []])]
def E' (o:Bool):XS:=⟨Ff (xn 0),(Lg o),12⟩
def xJ (o:Bool):XS:=⟨Ff (xi 10),(Lg o),12⟩
def TQ (o:Bool):XS:=⟨Ff (xi 10),(Lg o),60⟩
noncomputable def sK:Code:=(ef (Tryz.f16.body.getD .skip))[0]?.getD .skip
def AQ:J:=[(.lt (.var 10) (.lit 0),false),(.lt (.len 0) (.var 10),false),(.lt (.lit 1000000) (.len 0),false),(.lt (.len 0) (.lit 1),false)]
def AP:U := .op .add .i64 (.var 10) (.lit 1)
def Le:J:=(.lt (.var 10) (.len 0),true)::(.lt AP (.lit 0),false)::(.lt (.len 0) AP,false)::AQ
def Lc:J:=(.lt (.var 10) (.len 0),false)::AQ
noncomputable def u5 (ks:List (Nat×List X×X)):cr:=⟨uP ks (fun _=>[]) Lh [] [],[],[]⟩
noncomputable def Ln (o:Bool) (ks:List (Nat×List X×X)) (B:J):T (XE×XS):=(cz (u5 ks).c.ti (eT (u5 ks) 12) (((u5 ks).c.hV 16).elim [] (·.ms)) 2 [] 1000 sK B (xJ o)).map (eu ((Ff (xi 10)).map (·.1)))
def La:Bind:=⟨[(10,AP)],[],[],[]⟩
def TR (o:Bool):T (XE×XS)->Bool
 | .ret (.normal,s)=>gp 2 10 La [] (xJ o) s
 | _=>false
theorem aeV (o:Bool):(TR o) ((Ln o) AU Le)=true:=by cases o<;>kernel_rfl
theorem aeU (o:Bool):dX 2 10 10 [] (0,[]) 0 [] (TQ o) (.exit 0) Lc ((Ln o) [] Lc)=true:=by cases o<;>kernel_rfl
theorem TW:dp Tryz.f16.ntmps sK=true:=by kernel_rfl
noncomputable def AR (o:Bool):bo:=⟨(dF sK).getD 0,2,10,(E' o),gJ,[],.ret (.exit 0,(TQ o))⟩
theorem aeS (o:Bool):(E' o).au 10=true:=by cases o<;>kernel_rfl
def Lj:Bind:=⟨[(10,.lit 0)],[],[],[]⟩
theorem aeW (o:Bool):gp 2 10 Lj [] (xJ o) (E' o)=true:=by cases o<;>kernel_rfl
structure pc (e:List AV):Prop where
 l:e.length=20
 t:∀(k:Nat) (t:Tk),iE[k]? = some t->∃v,e[k]? = some v/\t.Ae v
theorem V4:iE.length=20:=rfl
theorem Ey:∀{ks:List Kd} {e:List AV},k5 ks e->a4 (fun _=>false) e=true
 | [],e,h=>by
  have h:e=[]:=h
  subst h;rfl
 | .i _::ks,e,⟨v,r,A,E⟩=>by subst A;simp only[a4,ca,Ey E,Bool.and_self]
 | .b::ks,e,⟨v,r,A,E⟩=>by subst A;simp only[a4,ca,Ey E,Bool.and_self]
 | .s::ks,e,⟨v,r,A,E⟩=>by subst A;simp only[a4,ca,Ey E,Bool.and_self]
theorem Ex {ks:List Kd}:∀{D:List (List AV)},(∀e∈D,k5 ks e)->cw (fun _=>false) D=true
 | [],_=>rfl
 | e::D,h=>by simp only[cw,Ey (h e List.mem_cons_self),Ex fun x hx=>h x (List.mem_cons_of_mem _ hx),Bool.and_self]
theorem asr {t:Tk} {v:AV} (h:t.Ae v):ca (fun _=>false) v=true/\v.one=true:=by
 cases t with
 | f k =>
  cases k with
  | i K=>obtain⟨x,r,A,E⟩:=h;cases A;exact⟨rfl,rfl⟩
  | b=>obtain⟨x,r,A,E⟩:=h;cases A;exact⟨rfl,rfl⟩
  | s=>obtain⟨x,r,A,E⟩:=h;cases A;exact⟨rfl,rfl⟩
 | r z ks =>
  obtain⟨D,rfl,_,E⟩:=h
  exact⟨Ex E,rfl⟩
theorem pc.get {e:List AV} (h:pc e) {k:Nat} (u:k<20):∃v,e[k]? = some v/\ca (fun _=>false) v=true/\v.one=true:=by
 obtain⟨v,A,E⟩:=h.t k _ (List.getElem?_eq_getElem (by rw[V4];exact u))
 exact⟨v,A,asr E⟩
noncomputable def ob (cs:List AV) (D:List (List AV)):aa:=⟨fun _=>0,fun _=>false,fun _=>⟨#[]⟩,fun _=>D.length,fun _ _ _=>0,fun _ _ _=>false,fun _ _ _=>⟨#[]⟩,fun l k j=>if l=0 then se (((D[j]?).bind (·[k]?)).getD (.sc (.bool false)))else se ((cs[k]?).getD (.sc (.bool false)))⟩
theorem TT {cs:List AV} {D:List (List AV)} (h:∀e∈D,pc e) {j k:Nat} {e:List AV} {v:AV} (F:D[j]? = some e) (R:e[k]? = some v):((ob cs D).ct 0 k j).1=v:=by
 have hr:=h e (List.mem_of_getElem? F)
 have u:k<20:=by
  have:=(List.getElem?_eq_some_iff.1 R).1
  rw[hr.l]at this;exact this
 obtain⟨v',A,E,h3⟩:=hr.get u
 rw[R]at A;cases A
 show(if(0:Nat)=0 then se (((D[j]?).bind (·[k]?)).getD (.sc (.bool false)))else se ((cs[k]?).getD (.sc (.bool false)))).1=v
 rw[if_pos rfl,F,Option.bind_some,R,Option.getD_some,IS E h3]
theorem aeO {cs:List AV} {D:List (List AV)} (h:∀e∈D,pc e):bN (ob cs D) 20 (.len 0) 0=D:=by
 apply List.ext_getElem?
 intro j
 by_cases M:j<D.length
 ·rw[PM (by show(j:Int)<(D.length:Int);omega),List.getElem?_eq_getElem M]
  congr 1
  have hr:=h D[j] (List.getElem_mem M)
  apply List.ext_getElem?
  intro k
  by_cases u:k<20
  ·obtain⟨v,A,_⟩:=hr.get u
   rw[List.getElem?_map,List.getElem?_range u,A,Option.map_some,TT h (List.getElem?_eq_getElem M) A]
  ·rw[List.getElem?_eq_none (by rw[List.length_map,List.length_range];omega),List.getElem?_eq_none (by rw[hr.l];omega)]
 ·rw[List.getElem?_eq_none (by rw[zj];show((D.length:Int)).toNat<=j;omega),List.getElem?_eq_none (by omega)]
theorem ad3 {ss:List (List AV)} (h:∀e∈ss,k5 [.s] e) (O:ss.length<=1000) (n:Nat) (hp:Hp):CY Tryz.prog n 48 [.ro 1 ss false] hp (.ro 1 ss false) []:=by
 cases hs:ss with
 | nil=>exact SL.2 false n hp
 | cons a b =>
  rw[<-hs]
  exact SR (fn:=Tryz.f48) (ty:=25) (e:=9) Tryz.func48 rfl rfl rfl (by kernel_rfl) (by kernel_rfl) (by rw[hs];exact List.cons_ne_nil _ _) (Ex h) (by rw[show c' Tryz.prog 9=16 by kernel_rfl];omega) (by omega) n hp
theorem ad4 {ss:List (List AV)} (h:∀e∈ss,k5 fy e) (O:ss.length<=1000) (n:Nat) (hp:Hp):CY Tryz.prog n 49 [.ro 22 ss false] hp (.ro 22 ss false) []:=by
 cases hs:ss with
 | nil=>exact SM.2 false n hp
 | cons a b =>
  rw[<-hs]
  exact SR (fn:=Tryz.f49) (ty:=67) (e:=74) Tryz.func49 rfl rfl rfl (by kernel_rfl) (by kernel_rfl) (by rw[hs];exact List.cons_ne_nil _ _) (Ex h) (by rw[show c' Tryz.prog 74=200 by kernel_rfl];omega) (by omega) n hp
end Go.Proofs.YtpdfmnhgocpkcaaGreat
