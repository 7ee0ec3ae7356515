/- Parts of the proof, one behind the other. -/
import Derived.Test.YtpdfmnhgocpkcaaGreatTM33
import Derived.Test.YtpdfmnhgocpkcaaGreatTM31
import Derived.Test.YtpdfmnhgocpkcaaGreatTM15
import Derived.Test.YtpdfmnhgocpkcaaGreatTM29
import Derived.Test.YtpdfmnhgocpkcaaGreatXwM4
namespace Go.Proofs.YtpdfmnhgocpkcaaGreat
open Go Go.Proofs.Aw Go.Proofs.Xw
set_option maxRecDepth 100000
theorem ahj {ρ:aa} (ag:Bool) (hT:TI ρ) (dp:ρ.i 443=1):∃F,az 600 ρ F/\∀k∈sy ag,c' Tryz.prog F k:=by
 obtain⟨F,ah,h⟩:=Yv ag hT dp
 exact⟨F,ah.le (by decide),List.forall_mem_cons.2 ⟨h 0 (by decide),List.forall_mem_cons.2 ⟨h 1 (by decide),List.forall_mem_nil _⟩⟩⟩
noncomputable def XK (ρ:aa) (cut:Nat->Int) (td:List Nat):aa:={ ρ with i:=fun k=>if 600<=k then cut (k-600)else ρ.i k,len:=fun k=>if k=610 then td.length else ρ.len k,ci:=fun l k j=>if l=610 then((td[j]?.getD 0:Nat):Int)else ρ.ci l k j }
theorem aoZ (ρ:aa) (cut:Nat->Int) (td:List Nat):uj ρ (XK ρ cut td) cut td where
 ah:=⟨fun k u=>by show _=if _ then _ else _;rw[if_neg (by omega)],fun _ _=>rfl,fun _ _=>rfl,fun k u=>by show _=if _ then _ else _;rw[if_neg (by omega)],fun l M=>by funext k j;show _=if _ then _ else _;rw[if_neg (by omega)],fun _ _=>rfl,fun _ _=>rfl,fun _ _=>rfl⟩
 dM:=fun k u=>by
  show(if _ then _ else _)=_
  rw[if_pos (by omega),Nat.add_sub_cancel_left]
 pw:=by
  show(if 610=610 then td.length else ρ.len 610)=_
  rw[if_pos rfl]
 ce:=fun r v h=>by
  show(if 610=610 then((td[r]?.getD 0:Nat):Int)else ρ.ci 610 0 r)=_
  rw[if_pos rfl,h]
  rfl
theorem uj.bq {ρ F aw:aa} {cut:Nat->Int} {td:List Nat} (h:uj ρ F cut td) (ah:az 625 F aw):uj ρ aw cut td :=
 ⟨h.ah.trans (ah.le (by decide)),fun k u=>by rw[<-ah.i (600+k) (by omega)];exact h.dM k u,by rw[<-ah.len 610 (by decide)];exact h.pw,fun r v R=>by rw[<-ah.ci 610 (by decide)];exact h.ce r v R⟩
theorem asr {ρ:aa} {m v:Nat} (h:v∈bO ρ m):v<m:=by
 unfold bO at h
 exact List.mem_range.1 (List.mem_filter.1 h).1
theorem ahi (hS:∀s∈h2,c4 Tryz.prog s) (ρ:aa) (ag:Bool) (M:J.ok ρ dh) (hT:TI ρ) (dp:ρ.i 443=1) (hb:(bV 47).I ρ=ag) (hu:ag=true->(BE.eq (.uf 2 0 dq) (.lit 1)).I ρ=true):∃F,az 600 ρ F/\((F.len 610=0/\∀k∈sx ag++[iH ag false,ib ag false],c' Tryz.prog F k)\/(1<=F.len 610/\wR F/\∀k∈[iH ag true,ib ag true],c' Tryz.prog F k)):=by
 obtain⟨b3,jS,iN,UD⟩:=asy hS ag M hT dp hb hu
 have Uy:∀{F:aa},uj ρ F (fun k=>ia (bK ρ ag) k (ρ.len 470)) (bO b3 (ρ.len 470))->c' Tryz.prog F (ib ag (!(bO b3 (ρ.len 470)).isEmpty)):=fun h=>ar6 hS ag M hT dp hb hu jS iN h
 have tl:=aoZ ρ (fun k=>ia (bK ρ ag) k (ρ.len 470)) (bO b3 (ρ.len 470))
 generalize XK ρ (fun k=>ia (bK ρ ag) k (ρ.len 470)) (bO b3 (ρ.len 470))=Rr at tl
 cases hq:(bO b3 (ρ.len 470)).isEmpty with
 | true =>
  obtain⟨F,ah,h⟩:=Yv ag (hT.bq tl.ah) (by rw[<-tl.ah.i 443 (by decide)];exact dp)
  have Hx:=tl.bq ah
  have A:=UD F Hx
  have E:=Uy Hx
  rw[hq]at A E
  refine⟨F,Hx.ah,.inl ⟨by rw[Hx.pw,List.isEmpty_iff.1 hq];rfl,?_⟩⟩
  exact List.forall_mem_cons.2 ⟨h 2 (by decide),List.forall_mem_cons.2 ⟨h 3 (by decide),List.forall_mem_cons.2 ⟨A,List.forall_mem_cons.2 ⟨E,List.forall_mem_nil _⟩⟩⟩⟩
 | false =>
  have A:=UD Rr tl
  have E:=Uy tl
  rw[hq]at A E
  have l1:1<=(bO b3 (ρ.len 470)).length:=by
   cases R:bO b3 (ρ.len 470)with
   | nil=>rw[R]at hq;cases hq
   | cons _ _=>simp
  have l4:Rr.len 470=ρ.len 470:=(tl.ah.len 470 (by decide)).symm
  refine⟨Rr,tl.ah,.inr ⟨by rw[tl.pw];exact l1,⟨?_,fun j O => ?_⟩,List.forall_mem_cons.2 ⟨A,List.forall_mem_cons.2 ⟨E,List.forall_mem_nil _⟩⟩⟩⟩
  ·have:=QB b3 (ρ.len 470)
   have:=hT.n6
   rw[tl.pw];omega
  ·rw[tl.pw]at O
   obtain⟨v,R⟩:∃v,(bO b3 (ρ.len 470))[j]? = some v:=⟨_,List.getElem?_eq_getElem O⟩
   have hm:=asr (List.mem_of_getElem? R)
   rw[tl.ce j v R,l4]
   omega
theorem adF (hS:∀s∈h2,c4 Tryz.prog s):rQ:=⟨ajd,fun _ ag _ hT dp _ _=>ahj ag hT dp,fun ρ ag M hT dp hb hu=>ahi hS ρ ag M hT dp hb hu⟩
end Go.Proofs.YtpdfmnhgocpkcaaGreat
namespace Go.Proofs.YtpdfmnhgocpkcaaGreat
open Go Go.Proofs.Aw Go.Proofs.Xw
set_option maxRecDepth 100000
theorem arf {ρ:aa} (hS:o1 ρ) (hz:∀j,ρ.len 2<=j->ρ.ci 2 1002 j=0) (at2:ρ.len 460=0):Cy 7 (X.af ρ kQ) (.sc (.bool true)):=by
 obtain⟨b,hm,hb⟩:=aiv hS
 have hT:d' 460 fc ρ:=fun j k t O=>by omega
 cases b with
 | true=>exact Nn (J0 hm fun _ _ _=>a1.nil _ _ _ _) hT (J.bt ρ) aon
 | false =>
  obtain⟨A,E⟩:=hb rfl
  have hK:Key ρ:=fun j=>by
   by_cases O:j<ρ.len 2
   ·exact⟨(hS.k j).1,E j O⟩
   ·rw[hz j (by omega)];decide
  have ex:J.ok ρ [(.lt (.lit 250) (.len 2),false)]:=J.av (b_ (a := .lit 250) (b := .len 2) (show ¬(250:Int)<ρ.len 2 by omega)) (J.bt ρ)
  refine aom (fun B h u=>Nn (J0 hm fun _ _ _=>a1.nil _ _ _ _) hT u h) Xy _ aoo ex fun hp => ?_
  have M:J.ok ρ dh:=by
   have Dk:=o9 hp 9 rfl
   have v43:=l_ hp 10 rfl
   have Dj:=o9 hp 8 rfl
   have Dk:0<=ρ.i 4:=Dk
   have v43:ρ.i 4<ρ.i 3:=of_decide_eq_true v43
   have Dj:ρ.i 3<=4:=Dj
   exact J.av (l_ hp 1 rfl) (J.av (l_ hp 2 rfl) (J.av (l_ hp 3 rfl) (J.av (l_ hp 4 rfl) (J.av (l_ hp 9 rfl) (J.av (b_ (a := .lit 3) (b := .var 4) (show ¬(3:Int)<ρ.i 4 by omega)) ex)))))
  have FD:J.ok ρ VP:=J.av (l_ hp 0 rfl) (eg M (J.av (l_ hp 5 rfl) (J.av (l_ hp 6 rfl) (J.av (l_ hp 7 rfl) (J.av (l_ hp 8 rfl) (J.av (l_ hp 10 rfl) (J.bt ρ)))))))
  obtain⟨i,ao,ah,hI,hL⟩:=loop ⟨agv,Ih,Q1⟩ (adF Ih) hK M
  have e1:X.af ao [fS]=X.af ρ [fS]:=(X.fZ ah [fS] (by kernel_rfl)).symm
  have e2:X.af ao kQ=X.af ρ kQ:=(X.fZ ah kQ (by kernel_rfl)).symm
  have hmf:Cy 11 (X.af ao [fS]) (.sc (.bool false)):=by rw[e1];exact hm
  have agn:J.ok ao (Pd i):=by
   unfold Pd
   split
   ·rename_i C hC;exact hI.AH C hC
   ·exact J.bt ao
  have n4:J.ok ao (lW i):=by
   obtain⟨g1,g2⟩:=Fu hI
   refine eg ?_ (eg (gP ah (by kernel_rfl) FD) agn)
   split
   ·exact J.bt ao
   ·rename_i ax
    have hi:1<=i:=by
     rcases Nat.eq_zero_or_pos i with h | h
     ·subst h;exact absurd rfl ax
     ·exact h
    have q1:=g2 hi
    have q2:=g1.bm
    have q3:=g1.bl
    exact J.av (b_ (a := .lit 300) (b := .len 460) (show ¬(300:Int)<ao.len 460 by omega)) (J.bt ao)
  have:=arS hmf hI.ty hI.lt hL n4
  rw[e2]at this
  exact this
end Go.Proofs.YtpdfmnhgocpkcaaGreat
namespace Go.Proofs.Xw
open Go Go.Proofs.Aw Go.ChangeShapes Go.WideShapes
theorem NK.get {ak:World}:∀{ks:List Nk} {ds:List Value},NK ak ks ds->∀{k:Nat} {x:Nk},ks[k]? = some x->∃v,ds[k]? = some v/\match x with | .f kd=>BP kd v | .r z _ kk=>Fits ak (.sl kk) v/\m_ (some v)<=maxLen/\z=kk.length
 | [],_,_,k,x,h=>by simp at h
 | .f kd::ks,ds,⟨v,r,e,R,hr⟩,k,x,h=>by
  subst e
  cases k with
  | zero=>simp only[List.getElem?_cons_zero,Option.some.injEq]at h;subst h;exact⟨v,rfl,R⟩
  | succ k=>simpa using NK.get hr (k:=k) (x:=x) (by simpa using h)
 | .r z S kk::ks,ds,⟨v,r,e,R,hr⟩,k,x,h=>by
  subst e
  cases k with
  | zero=>simp only[List.getElem?_cons_zero,Option.some.injEq]at h;subst h;exact⟨v,rfl,R⟩
  | succ k=>simpa using NK.get hr (k:=k) (x:=x) (by simpa using h)
end Go.Proofs.Xw
namespace Go.Proofs.YtpdfmnhgocpkcaaGreat
open Go Go.Proofs.Aw Go.Proofs.Xw Go.ChangeShapes Go.WideShapes
set_option maxRecDepth 100000
abbrev nS (L:Nat):Nat:=64*(L+1)+2
def oi (S:Nat):List Nk:=pr.set 2 (.r 1 S [.s])
def scS (L:Nat):X := .rn 79 (.len L) L (oi (nS L)) false
structure wM (R0:aa) (L:Nat) (ρ:aa):Prop where
 len:ρ.len 2=R0.len L
 ci:∀k j,ρ.ci 2 k j=if j<R0.len L then R0.ci L k j else 0
 cb:∀k j,ρ.cb 2 k j=R0.cb L k j
 cs:∀k j,ρ.cs 2 k j=if j<R0.len L/\k<79 then R0.cs L k j else⟨#[]⟩
 n:∀j,ρ.cs 194 0 j=if j / df<R0.len L/\((j % df:Nat):Int)<R0.ci L 1002 (j / df)then R0.cs (nS L) 0 j else⟨#[]⟩
structure ui (R0:aa) (L:Nat):Prop where
 o:∀j,j<R0.len L->R0.ci L 2 j=((j*df:Nat):Int)
 k:∀j,j<R0.len L->0<=R0.ci L 1002 j/\R0.ci L 1002 j<=140737488355327
 l:R0.len L<=140737488355327
 s:∀j k,j<R0.len L->k<79->(R0.cs L k j).size<=140737488355327
 n:∀j,j / df<R0.len L->((j % df:Nat):Int)<R0.ci L 1002 (j / df)->(R0.cs (nS L) 0 j).size<=140737488355327
variable {L:Nat}
theorem aqX {R0 ρ:aa} (h:wM R0 L ρ) (o:ui R0 L):o1 ρ:=by
 refine⟨by rw[h.len];exact o.l,fun j => ?_,fun k j => ?_,fun j => ?_⟩
 ·rw[h.ci]
  split
  ·rename_i O;exact o.k j O
  ·decide
 ·rw[h.cs]
  split
  ·rename_i O;exact o.s j k O.1 O.2
  ·decide
 ·rw[h.n]
  split
  ·rename_i O;exact o.n j O.1 O.2
  ·decide
theorem aqY {R0 ρ:aa} (h:wM R0 L ρ):∀j,ρ.len 2<=j->ρ.ci 2 1002 j=0:=fun j O=>by
 rw[h.ci,if_neg (by rw[h.len]at O;omega)]
theorem aeS {j e:Nat} (G:e<df):(e+j*df) / df=j/\(e+j*df) % df=e:=by
 have mW:0<df:=by decide
 exact⟨by rw[Nat.add_mul_div_right _ _ mW,Nat.div_eq_of_lt G,Nat.zero_add],by rw[Nat.add_mul_mod_self_right,Nat.mod_eq_of_lt G]⟩
theorem aqV {R0 ρ:aa} (h:wM R0 L ρ) (o:ui R0 L) {j:Nat} (O:j<R0.len L):oI ρ 194 [.s] (ρ.ci 2 2 j) (ρ.ci 2 1002 j)=oI R0 (nS L) [.s] (R0.ci L 2 j) (R0.ci L 1002 j):=by
 have c1:ρ.ci 2 2 j=R0.ci L 2 j:=by rw[h.ci,if_pos O]
 have c2:ρ.ci 2 1002 j=R0.ci L 1002 j:=by rw[h.ci,if_pos O]
 rw[c1,c2]
 unfold oI
 refine List.map_congr_left fun e G => ?_
 have G:e<(R0.ci L 1002 j).toNat:=List.mem_range.1 G
 obtain⟨k1,k2⟩:=o.k j O
 have hf:e<df:=by
  have:df=9223372036854775808:=rfl
  omega
 have ho:=o.o j O
 have ul:((e:Int)+R0.ci L 2 j).toNat=e+j*df:=by rw[ho,<-Int.natCast_add,Int.toNat_natCast]
 obtain⟨f1,gr⟩:=aeS (j:=j) hf
 rw[ul]
 have hp:=h.n (e+j*df)
 rw[f1,gr,if_pos ⟨O,by omega⟩]at hp
 simp only[bH,hp]
theorem P0 {R0 ρ:aa} (h:wM R0 L ρ) (o:ui R0 L) {j:Nat} (O:j<R0.len L):dL ρ 2 0 pr j=dL R0 L 0 (oi (nS L)) j:=by
 have ci:∀k,ρ.ci 2 k j=R0.ci L k j:=fun k=>by rw[h.ci,if_pos O]
 have cs:∀k,k<79->ρ.cs 2 k j=R0.cs L k j:=fun k u=>by rw[h.cs,if_pos ⟨O,u⟩]
 have u:=aqV h o O
 rw[ci,ci]at u
 have s3:=cs 3 (by decide);have s38:=cs 38 (by decide);have s39:=cs 39 (by decide);have s53:=cs 53 (by decide);have s54:=cs 54 (by decide)
 simp only[oi,pr,List.set,kI,yj,yk,dL,r4,Nat.reduceAdd,u,s3,s38,s39,s53,s54,ci,h.cb]
theorem aqU {R0 ρ:aa} (h:wM R0 L ρ) (o:ui R0 L):fS.I ρ=(scS L).I R0:=by
 show AV.ro 79 (fQ ρ (.len 2) 2 pr) false=AV.ro 79 (fQ R0 (.len L) L (oi (nS L))) false
 congr 1
 unfold fQ
 have e1:((U.len 2).I ρ).toNat=R0.len L:=by show((ρ.len 2:Int)).toNat=_;rw[h.len];exact Int.toNat_natCast _
 have e2:((U.len L).I R0).toNat=R0.len L:=Int.toNat_natCast _
 rw[e1,e2]
 exact List.map_congr_left fun j O=>P0 h o (List.mem_range.1 O)
def isStr:Option Nk->Bool
 | some (.f .s)=>true
 | _=>false
theorem arw:((List.range 79).all fun k => !isStr pr[k]? || (Nat.beq k 3||(Nat.beq k 38||(Nat.beq k 39||(Nat.beq k 53||Nat.beq k 54)))))=true:=by kernel_rfl
theorem VI (S:Nat):(oi S).length=79:=by unfold oi;rw[List.length_set];rfl
theorem agV (k S:Nat):isStr (oi S)[k]? = isStr pr[k]? := by
 unfold oi
 rw[List.getElem?_set]
 split
 ·rename_i h;subst h;rfl
 ·rfl
theorem HD:reachBytes<=140737488355327:=by decide
theorem acs {ak:World} {n:Nat} {ds:List Value} (h:g' Tryz.prog ak n 51 ds) {k:Nat} (u:k=3\/k=38\/k=39\/k=53\/k=54) {s:ByteArray} (hs:ds[k]? = some (.string s)):s.size<=140737488355327:=by
 have one:∀(m:Nat) (l:List Value),g' Tryz.prog ak m 9 l->l=[.string s]->s.size<=140737488355327:=fun m l M e=>Nat.le_trans (YY M (by kernel_rfl) s e) HD
 have z1:∀(l:List Value) (o:Nat),l[o]? = some (.string s)->(l.drop o).take 1=[.string s]:=fun l o ho=>by
  obtain⟨aQ,G⟩:=List.getElem?_eq_some_iff.1 ho
  rw[List.drop_eq_getElem_cons aQ,G];rfl
 have sub:∀(o z i:Nat),i<z->((ds.drop o).take z)[i]? = ds[o+i]? := fun o z i hi=>by rw[List.getElem?_take,if_pos hi,List.getElem?_drop]
 rcases u with rfl | rfl | rfl | rfl | rfl
 ·obtain⟨m1,A⟩:=lF h (i:=1) (t':=27) (o:=1) (z:=4) (by kernel_rfl)
  obtain⟨m2,E⟩:=lF A (i:=2) (t':=9) (o:=2) (z:=1) (by kernel_rfl)
  exact one m2 _ E (z1 _ 2 (by rw[sub 1 4 2 (by decide)];exact hs))
 ·obtain⟨m1,A⟩:=lF h (i:=2) (t':=49) (o:=5) (z:=74) (by kernel_rfl)
  obtain⟨m2,E⟩:=lF A (i:=9) (t':=45) (o:=27) (z:=20) (by kernel_rfl)
  obtain⟨sY,h3⟩:=lF E (i:=2) (t':=9) (o:=6) (z:=1) (by kernel_rfl)
  refine one sY _ h3 (z1 _ 6 ?_)
  rw[List.getElem?_take,if_pos (by decide),List.getElem?_drop,sub 5 74 33 (by decide)];exact hs
 ·obtain⟨m1,A⟩:=lF h (i:=2) (t':=49) (o:=5) (z:=74) (by kernel_rfl)
  obtain⟨m2,E⟩:=lF A (i:=9) (t':=45) (o:=27) (z:=20) (by kernel_rfl)
  obtain⟨sY,h3⟩:=lF E (i:=3) (t':=9) (o:=7) (z:=1) (by kernel_rfl)
  refine one sY _ h3 (z1 _ 7 ?_)
  rw[List.getElem?_take,if_pos (by decide),List.getElem?_drop,sub 5 74 34 (by decide)];exact hs
 ·obtain⟨m1,A⟩:=lF h (i:=2) (t':=49) (o:=5) (z:=74) (by kernel_rfl)
  obtain⟨m2,E⟩:=lF A (i:=11) (t':=9) (o:=48) (z:=1) (by kernel_rfl)
  exact one m2 _ E (z1 _ 48 (by rw[sub 5 74 48 (by decide)];exact hs))
 ·obtain⟨m1,A⟩:=lF h (i:=2) (t':=49) (o:=5) (z:=74) (by kernel_rfl)
  obtain⟨m2,E⟩:=lF A (i:=12) (t':=9) (o:=49) (z:=1) (by kernel_rfl)
  exact one m2 _ E (z1 _ 49 (by rw[sub 5 74 49 (by decide)];exact hs))
theorem RQ {ak:World} {n:Nat} {ds:List Value} (h:g' Tryz.prog ak n 51 ds) {v:Value} (R:ds[2]? = some v):∃m,g' Tryz.prog ak m 25 [v]:=by
 obtain⟨m1,A⟩:=lF h (i:=1) (t':=27) (o:=1) (z:=4) (by kernel_rfl)
 obtain⟨m2,E⟩:=lF A (i:=1) (t':=25) (o:=1) (z:=1) (by kernel_rfl)
 refine⟨m2,?_⟩
 have e:(((ds.drop 1).take 4).drop 1).take 1=[v]:=by
  have ho:((ds.drop 1).take 4)[1]? = some v:=by rw[List.getElem?_take,if_pos (by decide),List.getElem?_drop];exact R
  obtain⟨aQ,G⟩:=List.getElem?_eq_some_iff.1 ho
  rw[List.drop_eq_getElem_cons aQ,G];rfl
 rw[e]at E
 exact E
theorem aqW {ak:World} {cells vs:List Value} {zs:List Nat} {nz:Nat->Nat} {v:Value} (hL:L<64) (R:vs[L]? = some v) (hz:zs[L]? = some 79) (hnz:nz (nS L)=1) (hf:rR ak (.sn (oi (nS L))) v) {n:Nat} (hs:g' Tryz.prog ak n 24 v.cells.toList):ui (cz ak cells vs zs nz) L:=by
 obtain⟨_,ab,len,cap,rfl,_,qI⟩:=hf
 obtain⟨m,Mv⟩:=PW hs (e:=51) (by kernel_rfl)
 have hlen:(cz ak cells vs zs nz).len L=len:=by show m_ vs[L]? = len;rw[R];rfl
 have row:∀j,j<len->∃ds v2 m',NK ak (oi (nS L)) ds/\(∀k,k<79->eJ ak vs zs L k j=ds[k]?)/\g' Tryz.prog ak m' 51 ds/\ds[2]? = some v2/\Fits ak (.sl [.s]) v2/\len<=140737488355327:=fun j O=>by
  obtain⟨a,rfl,_,hr⟩:=qI (by omega)
  obtain⟨ds,hn,H⟩:=hr j O
  rw[VI]at H
  obtain⟨hw,i6⟩:=Mv a len cap rfl
  have mY:Tryz.prog.cellsOf 51=79:=by kernel_rfl
  rw[mY]at i6
  have hb:Tryz.prog.bytesOf 51≥1:=by rw[show Tryz.prog.bytesOf 51=de Tryz.prog 51 from rfl];rw[show de Tryz.prog 51=680 by kernel_rfl];decide
  obtain⟨v2,E,h3,_⟩:=NK.get hn (k:=2) (x := .r 1 (nS L) [.s]) rfl
  refine⟨ds,v2,m,hn,fun k u => ?_,i6 j O ds (by rw[NK.length hn];rfl) H,E,h3,?_⟩
  ·rw[<-H k u]
   simp only[eJ,R,hz]
  ·have:=HD
   have h5:len*1<=len*Tryz.prog.bytesOf 51:=Nat.mul_le_mul_left _ hb
   omega
 have hci:∀j k,k<79->(cz ak cells vs zs nz).ci L k j=G5 j (eJ ak vs zs L k j):=fun j k u=>by simp only[cz];rw[if_pos hL,if_pos (by omega)]
 have mc:∀j,(cz ak cells vs zs nz).ci L 1002 j=((m_ (eJ ak vs zs L 2 j):Nat):Int):=fun j=>by simp only[cz];rw[if_pos hL,if_neg (by decide)]
 refine⟨fun j O => ?_,fun j O => ?_,?_,fun j k O u => ?_,fun p hp G => ?_⟩
 ·rw[hlen]at O
  obtain⟨ds,v2,m',hn,H,x1,E,⟨_,DI,l2,c2,rfl,_⟩,_⟩:=row j O
  rw[hci j 2 (by decide),H 2 (by decide),E]
  rfl
 ·rw[hlen]at O
  obtain⟨ds,v2,m',hn,H,x1,E,⟨_,DI,l2,c2,rfl,_,hA⟩,_⟩:=row j O
  rw[mc,H 2 (by decide),E]
  show 0<=(l2:Int)/\(l2:Int)<=140737488355327
  rcases Nat.eq_zero_or_pos l2 with h0 | h0
  ·subst h0;decide
  ·obtain⟨bl,rfl,_⟩:=hA h0
   obtain⟨m2,u⟩:=RQ x1 E
   obtain⟨sY,u⟩:=PW u (e:=9) (by kernel_rfl)
   have h5:=(u bl l2 c2 rfl).1
   rw[show Tryz.prog.bytesOf 9=de Tryz.prog 9 from rfl,show de Tryz.prog 9=16 by kernel_rfl]at h5
   have:=HD
   omega
 ·rw[hlen]
  rcases Nat.eq_zero_or_pos len with h0 | h0
  ·omega
  ·obtain⟨_,_,_,_,_,_,_,_,h⟩:=row 0 h0
   exact h
 ·rw[hlen]at O
  obtain⟨ds,v2,m',hn,H,x1,_⟩:=row j O
  have e:(cz ak cells vs zs nz).cs L k j=rG ds[k]? := by
   rw[<-H k u]
   simp only[cz]
   rw[if_pos hL]
  rw[e]
  obtain⟨x,hx⟩:∃x,(oi (nS L))[k]? = some x:=⟨_,List.getElem?_eq_getElem (by rw[VI];exact u)⟩
  obtain⟨Y,hu,FC⟩:=NK.get hn hx
  rw[hu]
  have eP:=List.all_eq_true.1 arw k (List.mem_range.2 u)
  rw[<-agV k (nS L),hx]at eP
  cases x with
  | f kd =>
   cases kd with
   | i K=>obtain⟨q,rfl,_⟩:=FC;show(⟨#[]⟩:ByteArray).size<=_;decide
   | b=>obtain⟨q,rfl⟩:=FC;show(⟨#[]⟩:ByteArray).size<=_;decide
   | s =>
    obtain⟨s,rfl,_⟩:=FC
    simp only[isStr,Bool.not_true,Bool.false_or,Bool.or_eq_true]at eP
    refine acs x1 (k:=k) ?_ hu
    rcases eP with h | h | h | h | h
    ·exact .inl (Nat.eq_of_beq_eq_true h)
    ·exact .inr (.inl (Nat.eq_of_beq_eq_true h))
    ·exact .inr (.inr (.inl (Nat.eq_of_beq_eq_true h)))
    ·exact .inr (.inr (.inr (.inl (Nat.eq_of_beq_eq_true h))))
    ·exact .inr (.inr (.inr (.inr (Nat.eq_of_beq_eq_true h))))
  | r z S kk =>
   obtain⟨⟨_,DI,l2,c2,rfl,_⟩,_⟩:=FC
   show(⟨#[]⟩:ByteArray).size<=_;decide
 ·rw[hlen]at hp
  obtain⟨ds,v2,m',hn,H,x1,E,⟨_,DI,l2,c2,rfl,_,hA⟩,_⟩:=row _ hp
  have hr:eJ ak vs zs L 2 (p / df)=some (.slice DI l2 c2):=by rw[H 2 (by decide),E]
  rw[mc,hr]at G
  have xS:((p % df:Nat):Int)<(l2:Int):=G
  have Bf:p % df<l2:=Int.ofNat_lt.1 xS
  obtain⟨bl,rfl,_,hM⟩:=hA (Nat.lt_of_le_of_lt (Nat.zero_le _) Bf)
  obtain⟨cs,⟨Y,r,rfl,⟨s,rfl,_⟩,qH⟩,mY⟩:=hM _ Bf
  have qH:r=[]:=qH
  subst qH
  have h0:=mY 0 (by decide)
  simp only[List.length_cons,List.length_nil,List.getElem?_cons_zero]at h0
  have e:(cz ak cells vs zs nz).cs (nS L) 0 p=s:=by
   simp only[cz]
   rw[if_neg (show ¬64*(L+1)+2<64 by omega)]
   have:s_ ak vs zs nz (nS L) 0 p=some (.string s):=by
    simp only[s_]
    rw[show nS L / 64-1=L from(show(64*(L+1)+2) / 64-1=L by omega),show nS L % 64=2 from(show(64*(L+1)+2) % 64=2 by omega),hr]
    simp only[hnz]
    exact h0
   rw[this];rfl
  rw[e]
  obtain⟨m2,u⟩:=RQ x1 E
  obtain⟨sY,u⟩:=PW u (e:=9) (by kernel_rfl)
  have h5:=(u bl l2 c2 rfl).2 _ Bf [.string s] (by rw[show Tryz.prog.cellsOf 9=1 by kernel_rfl];rfl) (fun k aO=>by
   rw[show Tryz.prog.cellsOf 9=1 by kernel_rfl]at aO ⊢
   obtain rfl:k=0:=by omega
   exact h0)
  exact Nat.le_trans (YY h5 (by kernel_rfl) s rfl) HD
end Go.Proofs.YtpdfmnhgocpkcaaGreat
namespace Go.Proofs.YtpdfmnhgocpkcaaGreat
open Go Go.Proofs.Aw Go.Proofs.Xw Go.ChangeShapes Go.WideShapes
set_option maxRecDepth 100000
def BQ (n:Nat):List Kd:=List.replicate n (.i .i64)
def kdM:List Kd:=BQ 24++[.b]++BQ 8++[.s,.s,.b]++BQ 11++[.b,.s,.s,.b,.b]++BQ 22
def kJ:List gJ:=[.flat (BQ 4) true,.flat [.i .i64] false,.sn pr,.flat kdM true,.flat [.i .i64] false,.flat [.i .i64] false]
def HB (_:Nat):Nat:=1
def yH:List X:=vi 5 24++[xb 29]++vi 30 8++[xs 38,xs 39,xb 40]++vi 41 11++[xb 52,xs 53,xs 54,xb 55,xb 56]++vi 57 22
def Pl:List X:=[.agg (vi 0 4),xi 4,fS,.agg yH,xi 79,xi 80]
theorem api:kG 0 0 kJ=Pl:=by kernel_rfl
theorem apj:Ic Tryz.prog 0 Tryz.f7.params.toList kJ:=⟨by kernel_rfl,by kernel_rfl,by kernel_rfl,by kernel_rfl,by kernel_rfl,by kernel_rfl,trivial⟩
def rp (aI:aa):aa where
 i k:=if k<5 then aI.i k else if k=5 then aI.i 79 else if k=6 then aI.i 80 else aI.i (k-5)
 b k:=aI.b (k-5)
 s k:=aI.s (k-5)
 len l:=if l=2 then aI.len 2 else 0
 ci l k j:=if l=2 then(if j<aI.len 2 then aI.ci 2 k j else 0)else 0
 cb l k j:=aI.cb l k j
 cs l k j:=if l=2 then(if j<aI.len 2/\k<79 then aI.cs 2 k j else⟨#[]⟩)else if j / df<aI.len 2/\((j % df:Nat):Int)<aI.ci 2 1002 (j / df)then aI.cs 194 0 j else⟨#[]⟩
 ct:=kz
theorem Pm (aI:aa):wM aI 2 (rp aI):=⟨rfl,fun _ _=>rfl,fun _ _=>rfl,fun _ _=>rfl,fun _=>rfl⟩
theorem apg {aI:aa} (o:ui aI 2):X.af (rp aI) kQ=X.af aI Pl:=by
 have e1:X.af (rp aI) kQ=[X.I (rp aI) (.agg Gq),X.I (rp aI) (xi 4),fS.I (rp aI),X.I (rp aI) (.agg Wl),X.I (rp aI) (xi 5),X.I (rp aI) (xi 6)]:=rfl
 have e2:X.af aI Pl=[X.I aI (.agg (vi 0 4)),X.I aI (xi 4),fS.I aI,X.I aI (.agg yH),X.I aI (xi 79),X.I aI (xi 80)]:=rfl
 rw[e1,e2,aqU (Pm aI) o]
 rfl
theorem arh (ak:World) (vs:List Value) (M:kJ.length=vs.length) (hf:∀(i:Nat) (sh:gJ) (v:Value),kJ[i]? = some sh->vs[i]? = some v->rR ak sh v) (_atV:Jn Tryz.prog Tryz.f7.params.toList vs) (hb:DY Tryz.prog ak Tryz.f7.params.toList vs):CY Tryz.prog 0 7 (X.af (cz ak (mC kJ vs) vs (kJ.map rD) HB) (kG 0 0 kJ)) [] (.sc (.bool true)) []:=by
 rw[api]
 match vs,M with
 | [PP,v1,v2,Dj,Dk,aag],_ =>
  obtain⟨n,hn⟩:=hb 2 24 v2 (by kernel_rfl) rfl
  have o:ui (cz ak (mC kJ [PP,v1,v2,Dj,Dk,aag]) [PP,v1,v2,Dj,Dk,aag] (kJ.map rD) HB) 2:=aqW (v:=v2) (by decide) rfl rfl rfl (hf 2 (.sn pr) v2 rfl rfl) hn
  rw[<-apg o]
  exact(arf (aqX (Pm _) o) (aqY (Pm _)) rfl).2 0 []
end Go.Proofs.YtpdfmnhgocpkcaaGreat
