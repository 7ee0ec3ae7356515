/- Parts of the proof, one behind the other. -/
import Derived.Test.YtpdfmnhgocpkcaaGreatTM32
import Derived.Test.YtpdfmnhgocpkcaaGreatTM30
import Derived.Test.YtpdfmnhgocpkcaaGreatTM14
import Derived.Test.YtpdfmnhgocpkcaaGreatTM28
import Derived.Test.YtpdfmnhgocpkcaaGreatXwM4
namespace Go.Proofs.YtpdfmnhgocpkcaaGreat
open Go Go.Proofs.Aw Go.Proofs.Xw
set_option maxRecDepth 100000
theorem ahj {ρ:aa} (ag:Bool) (hT:TI ρ) (dq:ρ.i 443=1):∃F,az 600 ρ F/\∀k∈sx ag,c' Tryz.prog F k:=by
 obtain⟨F,ah,h⟩:=Yy ag hT dq
 exact⟨F,ah.le (by decide),List.forall_mem_cons.2 ⟨h 0 (by decide),List.forall_mem_cons.2 ⟨h 1 (by decide),List.forall_mem_nil _⟩⟩⟩
noncomputable def XN (ρ:aa) (cut:Nat->Int) (td:List Nat):aa:={ ρ with i:=fun k=>if 600<=k then cut (k-600)else ρ.i k,len:=fun k=>if k=610 then td.length else ρ.len k,ci:=fun l k j=>if l=610 then((td[j]?.getD 0:Nat):Int)else ρ.ci l k j }
theorem apu (ρ:aa) (cut:Nat->Int) (td:List Nat):ui ρ (XN ρ cut td) cut td where
 ah:=⟨fun k u=>by show _=if _ then _ else _;rw[if_neg (by omega)],fun _ _=>rfl,fun _ _=>rfl,fun k u=>by show _=if _ then _ else _;rw[if_neg (by omega)],fun l M=>by funext k j;show _=if _ then _ else _;rw[if_neg (by omega)],fun _ _=>rfl,fun _ _=>rfl,fun _ _=>rfl⟩
 dM:=fun k u=>by
  show(if _ then _ else _)=_
  rw[if_pos (by omega),Nat.add_sub_cancel_left]
 pv:=by
  show(if 610=610 then td.length else ρ.len 610)=_
  rw[if_pos rfl]
 ce:=fun r v h=>by
  show(if 610=610 then((td[r]?.getD 0:Nat):Int)else ρ.ci 610 0 r)=_
  rw[if_pos rfl,h]
  rfl
theorem ui.bt {ρ F ax:aa} {cut:Nat->Int} {td:List Nat} (h:ui ρ F cut td) (ah:az 625 F ax):ui ρ ax cut td :=
 ⟨h.ah.trans (ah.le (by decide)),fun k u=>by rw[<-ah.i (600+k) (by omega)];exact h.dM k u,by rw[<-ah.len 610 (by decide)];exact h.pv,fun r v R=>by rw[<-ah.ci 610 (by decide)];exact h.ce r v R⟩
theorem asU {ρ:aa} {m v:Nat} (h:v∈bO ρ m):v<m:=by
 unfold bO at h
 exact List.mem_range.1 (List.mem_filter.1 h).1
theorem ahi (hS:∀s∈h2,c4 Tryz.prog s) (ρ:aa) (ag:Bool) (M:J.ok ρ dh) (hT:TI ρ) (dq:ρ.i 443=1) (hb:(bU 47).I ρ=ag) (hu:ag=true->(BE.eq (.uf 2 0 dr) (.lit 1)).I ρ=true):∃F,az 600 ρ F/\((F.len 610=0/\∀k∈sw ag++[iI ag false,ic ag false],c' Tryz.prog F k)\/(1<=F.len 610/\wR F/\∀k∈[iI ag true,ic ag true],c' Tryz.prog F k)):=by
 obtain⟨b5,jR,iP,UH⟩:=as1 hS ag M hT dq hb hu
 have UB:∀{F:aa},ui ρ F (fun k=>ia (bK ρ ag) k (ρ.len 470)) (bO b5 (ρ.len 470))->c' Tryz.prog F (ic ag (!(bO b5 (ρ.len 470)).isEmpty)):=fun h=>asB hS ag M hT dq hb hu jR iP h
 have tl:=apu ρ (fun k=>ia (bK ρ ag) k (ρ.len 470)) (bO b5 (ρ.len 470))
 generalize XN ρ (fun k=>ia (bK ρ ag) k (ρ.len 470)) (bO b5 (ρ.len 470))=Rs at tl
 cases hq:(bO b5 (ρ.len 470)).isEmpty with
 | true =>
  obtain⟨F,ah,h⟩:=Yy ag (hT.bt tl.ah) (by rw[<-tl.ah.i 443 (by decide)];exact dq)
  have Hx:=tl.bt ah
  have A:=UH F Hx
  have E:=UB Hx
  rw[hq]at A E
  refine⟨F,Hx.ah,.inl ⟨by rw[Hx.pv,List.isEmpty_iff.1 hq];rfl,?_⟩⟩
  exact List.forall_mem_cons.2 ⟨h 2 (by decide),List.forall_mem_cons.2 ⟨h 3 (by decide),List.forall_mem_cons.2 ⟨A,List.forall_mem_cons.2 ⟨E,List.forall_mem_nil _⟩⟩⟩⟩
 | false =>
  have A:=UH Rs tl
  have E:=UB tl
  rw[hq]at A E
  have l1:1<=(bO b5 (ρ.len 470)).length:=by
   cases R:bO b5 (ρ.len 470)with
   | nil=>rw[R]at hq;cases hq
   | cons _ _=>simp
  have l4:Rs.len 470=ρ.len 470:=(tl.ah.len 470 (by decide)).symm
  refine⟨Rs,tl.ah,.inr ⟨by rw[tl.pv];exact l1,⟨?_,fun j O => ?_⟩,List.forall_mem_cons.2 ⟨A,List.forall_mem_cons.2 ⟨E,List.forall_mem_nil _⟩⟩⟩⟩
  ·have:=QC b5 (ρ.len 470)
   have:=hT.n6
   rw[tl.pv];omega
  ·rw[tl.pv]at O
   obtain⟨v,R⟩:∃v,(bO b5 (ρ.len 470))[j]? = some v:=⟨_,List.getElem?_eq_getElem O⟩
   have hm:=asU (List.mem_of_getElem? R)
   rw[tl.ce j v R,l4]
   omega
theorem adI (hS:∀s∈h2,c4 Tryz.prog s):rP:=⟨aja,fun _ ag _ hT dq _ _=>ahj ag hT dq,fun ρ ag M hT dq hb hu=>ahi hS ρ ag M hT dq hb hu⟩
end Go.Proofs.YtpdfmnhgocpkcaaGreat
namespace Go.Proofs.YtpdfmnhgocpkcaaGreat
open Go Go.Proofs.Aw Go.Proofs.Xw
set_option maxRecDepth 100000
theorem arL {ρ:aa} (hS:o3 ρ) (hz:∀j,ρ.len 2<=j->ρ.ci 2 1002 j=0) (auq:ρ.len 460=0):Cy 6 (X.af ρ kQ) (.sc (.bool true)):=by
 obtain⟨b,hm,hb⟩:=air hS
 have hT:dX 460 eY ρ:=fun j k t O=>by omega
 cases b with
 | true=>exact No (J1 hm fun _ _ _=>a1.nil _ _ _ _) hT (J.bq ρ) aoR
 | false =>
  obtain⟨A,E⟩:=hb rfl
  have hK:Key ρ:=fun j=>by
   by_cases O:j<ρ.len 2
   ·exact⟨(hS.k j).1,E j O⟩
   ·rw[hz j (by omega)];decide
  have eN:J.ok ρ [(.lt (.lit 250) (.len 2),false)]:=J.av (b' (a := .lit 250) (b := .len 2) (show ¬(250:Int)<ρ.len 2 by omega)) (J.bq ρ)
  refine aoQ (fun B h u=>No (J1 hm fun _ _ _=>a1.nil _ _ _ _) hT u h) XB _ aoS eN fun hp => ?_
  have M:J.ok ρ dh:=by
   have aaj:=mS hp 8 rfl
   have v43:=j1 hp 9 rfl
   have v3:=mS hp 7 rfl
   have aaj:0<=ρ.i 4:=aaj
   have v43:ρ.i 4<ρ.i 3:=of_decide_eq_true v43
   have v3:ρ.i 3<=4:=v3
   exact J.av (j1 hp 0 rfl) (J.av (j1 hp 1 rfl) (J.av (j1 hp 2 rfl) (J.av (j1 hp 3 rfl) (J.av (j1 hp 8 rfl) (J.av (b' (a := .lit 3) (b := .var 4) (show ¬(3:Int)<ρ.i 4 by omega)) eN)))))
  have FA:J.ok ρ VS:=J.av (j1 hp 10 rfl) (J.av (j1 hp 11 rfl) (dY M (J.av (j1 hp 4 rfl) (J.av (j1 hp 5 rfl) (J.av (j1 hp 6 rfl) (J.av (j1 hp 7 rfl) (J.av (j1 hp 9 rfl) (J.bq ρ))))))))
  obtain⟨i,am,ah,hI,hL⟩:=loop ⟨agv,Ig,Q2⟩ (adI Ig) hK M (mS hp 10 rfl) (of_decide_eq_true (j1 hp 11 rfl))
  have e1:X.af am [fw]=X.af ρ [fw]:=(X.fZ ah [fw] (by kernel_rfl)).symm
  have e2:X.af am kQ=X.af ρ kQ:=(X.fZ ah kQ (by kernel_rfl)).symm
  have hmf:Cy 11 (X.af am [fw]) (.sc (.bool false)):=by rw[e1];exact hm
  have agn:J.ok am (Pd i):=by
   unfold Pd
   split
   ·rename_i C hC;exact hI.xz C hC
   ·exact J.bq am
  have n8:J.ok am (lW i):=by
   obtain⟨g1,g2⟩:=Fs hI
   refine dY ?_ (dY (gR ah (by kernel_rfl) FA) agn)
   split
   ·exact J.bq am
   ·rename_i ay
    have hi:1<=i:=by
     rcases Nat.eq_zero_or_pos i with h | h
     ·subst h;exact absurd rfl ay
     ·exact h
    have q1:=g2 hi
    have q2:=g1.bm
    have q3:=g1.bl
    exact J.av (b' (a := .lit 300) (b := .len 460) (show ¬(300:Int)<am.len 460 by omega)) (J.bq am)
  have:=asn hmf hI.ty hI.lt hL n8
  rw[e2]at this
  exact this
end Go.Proofs.YtpdfmnhgocpkcaaGreat
namespace Go.Proofs.Xw
open Go Go.Proofs.Aw Go.ChangeShapes Go.WideShapes
theorem NK.get {ak:World}:∀{ks:List Nk} {ds:List Value},NK ak ks ds->∀{k:Nat} {x:Nk},ks[k]? = some x->∃v,ds[k]? = some v/\match x with | .f kd=>BS kd v | .r z _ kk=>Fits ak (.sl kk) v/\nb (some v)<=maxLen/\z=kk.length
 | [],_,_,k,x,h=>by simp at h
 | .f kd::ks,ds,⟨v,r,e,R,hr⟩,k,x,h=>by
  subst e
  cases k with
  | zero=>simp only[List.getElem?_cons_zero,Option.some.injEq]at h;subst h;exact⟨v,rfl,R⟩
  | succ k=>simpa using NK.get hr (k:=k) (x:=x) (by simpa using h)
 | .r z S kk::ks,ds,⟨v,r,e,R,hr⟩,k,x,h=>by
  subst e
  cases k with
  | zero=>simp only[List.getElem?_cons_zero,Option.some.injEq]at h;subst h;exact⟨v,rfl,R⟩
  | succ k=>simpa using NK.get hr (k:=k) (x:=x) (by simpa using h)
end Go.Proofs.Xw
namespace Go.Proofs.YtpdfmnhgocpkcaaGreat
open Go Go.Proofs.Aw Go.Proofs.Xw Go.ChangeShapes Go.WideShapes
set_option maxRecDepth 100000
abbrev nS (L:Nat):Nat:=64*(L+1)+2
def mj (S:Nat):List Nk:=sU.set 2 (.r 1 S [.s])
def P0 (L:Nat):X := .rn 79 (.len L) L (mj (nS L)) false
structure wM (R0:aa) (L:Nat) (ρ:aa):Prop where
 len:ρ.len 2=R0.len L
 ci:∀k j,ρ.ci 2 k j=if j<R0.len L then R0.ci L k j else 0
 cb:∀k j,ρ.cb 2 k j=R0.cb L k j
 cs:∀k j,ρ.cs 2 k j=if j<R0.len L/\k<79 then R0.cs L k j else⟨#[]⟩
 n:∀j,ρ.cs 194 0 j=if j / df<R0.len L/\((j % df:Nat):Int)<R0.ci L 1002 (j / df)then R0.cs (nS L) 0 j else⟨#[]⟩
structure uh (R0:aa) (L:Nat):Prop where
 o:∀j,j<R0.len L->R0.ci L 2 j=((j*df:Nat):Int)
 k:∀j,j<R0.len L->0<=R0.ci L 1002 j/\R0.ci L 1002 j<=140737488355327
 l:R0.len L<=140737488355327
 s:∀j k,j<R0.len L->k<79->(R0.cs L k j).size<=140737488355327
 n:∀j,j / df<R0.len L->((j % df:Nat):Int)<R0.ci L 1002 (j / df)->(R0.cs (nS L) 0 j).size<=140737488355327
variable {L:Nat}
theorem aru {R0 ρ:aa} (h:wM R0 L ρ) (o:uh R0 L):o3 ρ:=by
 refine⟨by rw[h.len];exact o.l,fun j => ?_,fun k j => ?_,fun j => ?_⟩
 ·rw[h.ci]
  split
  ·rename_i O;exact o.k j O
  ·decide
 ·rw[h.cs]
  split
  ·rename_i O;exact o.s j k O.1 O.2
  ·decide
 ·rw[h.n]
  split
  ·rename_i O;exact o.n j O.1 O.2
  ·decide
theorem arv {R0 ρ:aa} (h:wM R0 L ρ):∀j,ρ.len 2<=j->ρ.ci 2 1002 j=0:=fun j O=>by
 rw[h.ci,if_neg (by rw[h.len]at O;omega)]
theorem aeT {j e:Nat} (G:e<df):(e+j*df) / df=j/\(e+j*df) % df=e:=by
 have mX:0<df:=by decide
 exact⟨by rw[Nat.add_mul_div_right _ _ mX,Nat.div_eq_of_lt G,Nat.zero_add],by rw[Nat.add_mul_mod_self_right,Nat.mod_eq_of_lt G]⟩
theorem ars {R0 ρ:aa} (h:wM R0 L ρ) (o:uh R0 L) {j:Nat} (O:j<R0.len L):oJ ρ 194 [.s] (ρ.ci 2 2 j) (ρ.ci 2 1002 j)=oJ R0 (nS L) [.s] (R0.ci L 2 j) (R0.ci L 1002 j):=by
 have c1:ρ.ci 2 2 j=R0.ci L 2 j:=by rw[h.ci,if_pos O]
 have c2:ρ.ci 2 1002 j=R0.ci L 1002 j:=by rw[h.ci,if_pos O]
 rw[c1,c2]
 unfold oJ
 refine List.map_congr_left fun e G => ?_
 have G:e<(R0.ci L 1002 j).toNat:=List.mem_range.1 G
 obtain⟨k1,k2⟩:=o.k j O
 have hf:e<df:=by
  have:df=9223372036854775808:=rfl
  omega
 have ho:=o.o j O
 have t9:((e:Int)+R0.ci L 2 j).toNat=e+j*df:=by rw[ho,<-Int.natCast_add,Int.toNat_natCast]
 obtain⟨f1,gu⟩:=aeT (j:=j) hf
 rw[t9]
 have hp:=h.n (e+j*df)
 rw[f1,gu,if_pos ⟨O,by omega⟩]at hp
 simp only[bH,hp]
theorem P1 {R0 ρ:aa} (h:wM R0 L ρ) (o:uh R0 L) {j:Nat} (O:j<R0.len L):dL ρ 2 0 sU j=dL R0 L 0 (mj (nS L)) j:=by
 have ci:∀k,ρ.ci 2 k j=R0.ci L k j:=fun k=>by rw[h.ci,if_pos O]
 have cs:∀k,k<79->ρ.cs 2 k j=R0.cs L k j:=fun k u=>by rw[h.cs,if_pos ⟨O,u⟩]
 have u:=ars h o O
 rw[ci,ci]at u
 have s3:=cs 3 (by decide);have s38:=cs 38 (by decide);have s39:=cs 39 (by decide);have s53:=cs 53 (by decide);have s54:=cs 54 (by decide)
 simp only[mj,sU,List.set,kI,yj,yk,dL,rZ,Nat.reduceAdd,u,s3,s38,s39,s53,s54,ci,h.cb]
theorem arq {R0 ρ:aa} (h:wM R0 L ρ) (o:uh R0 L):fw.I ρ=(P0 L).I R0:=by
 show AV.ro 79 (fS ρ (.len 2) 2 sU) false=AV.ro 79 (fS R0 (.len L) L (mj (nS L))) false
 congr 1
 unfold fS
 have e1:((U.len 2).I ρ).toNat=R0.len L:=by show((ρ.len 2:Int)).toNat=_;rw[h.len];exact Int.toNat_natCast _
 have e2:((U.len L).I R0).toNat=R0.len L:=Int.toNat_natCast _
 rw[e1,e2]
 exact List.map_congr_left fun j O=>P1 h o (List.mem_range.1 O)
def isStr:Option Nk->Bool
 | some (.f .s)=>true
 | _=>false
theorem arY:((List.range 79).all fun k => !isStr sU[k]? || (Nat.beq k 3||(Nat.beq k 38||(Nat.beq k 39||(Nat.beq k 53||Nat.beq k 54)))))=true:=by kernel_rfl
theorem VL (S:Nat):(mj S).length=79:=by unfold mj;rw[List.length_set];rfl
theorem agV (k S:Nat):isStr (mj S)[k]? = isStr sU[k]? := by
 unfold mj
 rw[List.getElem?_set]
 split
 ·rename_i h;subst h;rfl
 ·rfl
theorem HC:reachBytes<=140737488355327:=by decide
theorem acv {ak:World} {n:Nat} {ds:List Value} (h:hg Tryz.prog ak n 51 ds) {k:Nat} (u:k=3\/k=38\/k=39\/k=53\/k=54) {s:ByteArray} (hs:ds[k]? = some (.string s)):s.size<=140737488355327:=by
 have one:∀(m:Nat) (l:List Value),hg Tryz.prog ak m 9 l->l=[.string s]->s.size<=140737488355327:=fun m l M e=>Nat.le_trans (Y1 M (by kernel_rfl) s e) HC
 have z2:∀(l:List Value) (o:Nat),l[o]? = some (.string s)->(l.drop o).take 1=[.string s]:=fun l o ho=>by
  obtain⟨aQ,G⟩:=List.getElem?_eq_some_iff.1 ho
  rw[List.drop_eq_getElem_cons aQ,G];rfl
 have sub:∀(o z i:Nat),i<z->((ds.drop o).take z)[i]? = ds[o+i]? := fun o z i hi=>by rw[List.getElem?_take,if_pos hi,List.getElem?_drop]
 rcases u with rfl | rfl | rfl | rfl | rfl
 ·obtain⟨m1,A⟩:=lF h (i:=1) (t':=27) (o:=1) (z:=4) (by kernel_rfl)
  obtain⟨m2,E⟩:=lF A (i:=2) (t':=9) (o:=2) (z:=1) (by kernel_rfl)
  exact one m2 _ E (z2 _ 2 (by rw[sub 1 4 2 (by decide)];exact hs))
 ·obtain⟨m1,A⟩:=lF h (i:=2) (t':=49) (o:=5) (z:=74) (by kernel_rfl)
  obtain⟨m2,E⟩:=lF A (i:=9) (t':=45) (o:=27) (z:=20) (by kernel_rfl)
  obtain⟨sY,h3⟩:=lF E (i:=2) (t':=9) (o:=6) (z:=1) (by kernel_rfl)
  refine one sY _ h3 (z2 _ 6 ?_)
  rw[List.getElem?_take,if_pos (by decide),List.getElem?_drop,sub 5 74 33 (by decide)];exact hs
 ·obtain⟨m1,A⟩:=lF h (i:=2) (t':=49) (o:=5) (z:=74) (by kernel_rfl)
  obtain⟨m2,E⟩:=lF A (i:=9) (t':=45) (o:=27) (z:=20) (by kernel_rfl)
  obtain⟨sY,h3⟩:=lF E (i:=3) (t':=9) (o:=7) (z:=1) (by kernel_rfl)
  refine one sY _ h3 (z2 _ 7 ?_)
  rw[List.getElem?_take,if_pos (by decide),List.getElem?_drop,sub 5 74 34 (by decide)];exact hs
 ·obtain⟨m1,A⟩:=lF h (i:=2) (t':=49) (o:=5) (z:=74) (by kernel_rfl)
  obtain⟨m2,E⟩:=lF A (i:=11) (t':=9) (o:=48) (z:=1) (by kernel_rfl)
  exact one m2 _ E (z2 _ 48 (by rw[sub 5 74 48 (by decide)];exact hs))
 ·obtain⟨m1,A⟩:=lF h (i:=2) (t':=49) (o:=5) (z:=74) (by kernel_rfl)
  obtain⟨m2,E⟩:=lF A (i:=12) (t':=9) (o:=49) (z:=1) (by kernel_rfl)
  exact one m2 _ E (z2 _ 49 (by rw[sub 5 74 49 (by decide)];exact hs))
theorem RS {ak:World} {n:Nat} {ds:List Value} (h:hg Tryz.prog ak n 51 ds) {v:Value} (R:ds[2]? = some v):∃m,hg Tryz.prog ak m 25 [v]:=by
 obtain⟨m1,A⟩:=lF h (i:=1) (t':=27) (o:=1) (z:=4) (by kernel_rfl)
 obtain⟨m2,E⟩:=lF A (i:=1) (t':=25) (o:=1) (z:=1) (by kernel_rfl)
 refine⟨m2,?_⟩
 have e:(((ds.drop 1).take 4).drop 1).take 1=[v]:=by
  have ho:((ds.drop 1).take 4)[1]? = some v:=by rw[List.getElem?_take,if_pos (by decide),List.getElem?_drop];exact R
  obtain⟨aQ,G⟩:=List.getElem?_eq_some_iff.1 ho
  rw[List.drop_eq_getElem_cons aQ,G];rfl
 rw[e]at E
 exact E
theorem art {ak:World} {cells vs:List Value} {zs:List Nat} {nz:Nat->Nat} {v:Value} (hL:L<64) (R:vs[L]? = some v) (hz:zs[L]? = some 79) (hnz:nz (nS L)=1) (hf:rQ ak (.sn (mj (nS L))) v) {n:Nat} (hs:hg Tryz.prog ak n 24 v.cells.toList):uh (cy ak cells vs zs nz) L:=by
 obtain⟨_,ab,len,cap,rfl,_,qI⟩:=hf
 obtain⟨m,Mw⟩:=PW hs (e:=51) (by kernel_rfl)
 have hlen:(cy ak cells vs zs nz).len L=len:=by show nb vs[L]? = len;rw[R];rfl
 have row:∀j,j<len->∃ds v2 m',NK ak (mj (nS L)) ds/\(∀k,k<79->eI ak vs zs L k j=ds[k]?)/\hg Tryz.prog ak m' 51 ds/\ds[2]? = some v2/\Fits ak (.sl [.s]) v2/\len<=140737488355327:=fun j O=>by
  obtain⟨a,rfl,_,hr⟩:=qI (by omega)
  obtain⟨ds,hn,H⟩:=hr j O
  rw[VL]at H
  obtain⟨hw,i5⟩:=Mw a len cap rfl
  have mZ:Tryz.prog.cellsOf 51=79:=by kernel_rfl
  rw[mZ]at i5
  have hb:Tryz.prog.bytesOf 51≥1:=by rw[show Tryz.prog.bytesOf 51=de Tryz.prog 51 from rfl];rw[show de Tryz.prog 51=680 by kernel_rfl];decide
  obtain⟨v2,E,h3,_⟩:=NK.get hn (k:=2) (x := .r 1 (nS L) [.s]) rfl
  refine⟨ds,v2,m,hn,fun k u => ?_,i5 j O ds (by rw[NK.length hn];rfl) H,E,h3,?_⟩
  ·rw[<-H k u]
   simp only[eI,R,hz]
  ·have:=HC
   have h5:len*1<=len*Tryz.prog.bytesOf 51:=Nat.mul_le_mul_left _ hb
   omega
 have hci:∀j k,k<79->(cy ak cells vs zs nz).ci L k j=G4 j (eI ak vs zs L k j):=fun j k u=>by simp only[cy];rw[if_pos hL,if_pos (by omega)]
 have mb:∀j,(cy ak cells vs zs nz).ci L 1002 j=((nb (eI ak vs zs L 2 j):Nat):Int):=fun j=>by simp only[cy];rw[if_pos hL,if_neg (by decide)]
 refine⟨fun j O => ?_,fun j O => ?_,?_,fun j k O u => ?_,fun p hp G => ?_⟩
 ·rw[hlen]at O
  obtain⟨ds,v2,m',hn,H,x1,E,⟨_,DI,l2,c2,rfl,_⟩,_⟩:=row j O
  rw[hci j 2 (by decide),H 2 (by decide),E]
  rfl
 ·rw[hlen]at O
  obtain⟨ds,v2,m',hn,H,x1,E,⟨_,DI,l2,c2,rfl,_,hA⟩,_⟩:=row j O
  rw[mb,H 2 (by decide),E]
  show 0<=(l2:Int)/\(l2:Int)<=140737488355327
  rcases Nat.eq_zero_or_pos l2 with h0 | h0
  ·subst h0;decide
  ·obtain⟨bl,rfl,_⟩:=hA h0
   obtain⟨m2,u⟩:=RS x1 E
   obtain⟨sY,u⟩:=PW u (e:=9) (by kernel_rfl)
   have h5:=(u bl l2 c2 rfl).1
   rw[show Tryz.prog.bytesOf 9=de Tryz.prog 9 from rfl,show de Tryz.prog 9=16 by kernel_rfl]at h5
   have:=HC
   omega
 ·rw[hlen]
  rcases Nat.eq_zero_or_pos len with h0 | h0
  ·omega
  ·obtain⟨_,_,_,_,_,_,_,_,h⟩:=row 0 h0
   exact h
 ·rw[hlen]at O
  obtain⟨ds,v2,m',hn,H,x1,_⟩:=row j O
  have e:(cy ak cells vs zs nz).cs L k j=rF ds[k]? := by
   rw[<-H k u]
   simp only[cy]
   rw[if_pos hL]
  rw[e]
  obtain⟨x,hx⟩:∃x,(mj (nS L))[k]? = some x:=⟨_,List.getElem?_eq_getElem (by rw[VL];exact u)⟩
  obtain⟨Y,hu,Fz⟩:=NK.get hn hx
  rw[hu]
  have eP:=List.all_eq_true.1 arY k (List.mem_range.2 u)
  rw[<-agV k (nS L),hx]at eP
  cases x with
  | f kd =>
   cases kd with
   | i K=>obtain⟨q,rfl,_⟩:=Fz;show(⟨#[]⟩:ByteArray).size<=_;decide
   | b=>obtain⟨q,rfl⟩:=Fz;show(⟨#[]⟩:ByteArray).size<=_;decide
   | s =>
    obtain⟨s,rfl,_⟩:=Fz
    simp only[isStr,Bool.not_true,Bool.false_or,Bool.or_eq_true]at eP
    refine acv x1 (k:=k) ?_ hu
    rcases eP with h | h | h | h | h
    ·exact .inl (Nat.eq_of_beq_eq_true h)
    ·exact .inr (.inl (Nat.eq_of_beq_eq_true h))
    ·exact .inr (.inr (.inl (Nat.eq_of_beq_eq_true h)))
    ·exact .inr (.inr (.inr (.inl (Nat.eq_of_beq_eq_true h))))
    ·exact .inr (.inr (.inr (.inr (Nat.eq_of_beq_eq_true h))))
  | r z S kk =>
   obtain⟨⟨_,DI,l2,c2,rfl,_⟩,_⟩:=Fz
   show(⟨#[]⟩:ByteArray).size<=_;decide
 ·rw[hlen]at hp
  obtain⟨ds,v2,m',hn,H,x1,E,⟨_,DI,l2,c2,rfl,_,hA⟩,_⟩:=row _ hp
  have hr:eI ak vs zs L 2 (p / df)=some (.slice DI l2 c2):=by rw[H 2 (by decide),E]
  rw[mb,hr]at G
  have xS:((p % df:Nat):Int)<(l2:Int):=G
  have Bi:p % df<l2:=Int.ofNat_lt.1 xS
  obtain⟨bl,rfl,_,hM⟩:=hA (Nat.lt_of_le_of_lt (Nat.zero_le _) Bi)
  obtain⟨cs,⟨Y,r,rfl,⟨s,rfl,_⟩,qH⟩,mZ⟩:=hM _ Bi
  have qH:r=[]:=qH
  subst qH
  have h0:=mZ 0 (by decide)
  simp only[List.length_cons,List.length_nil,List.getElem?_cons_zero]at h0
  have e:(cy ak cells vs zs nz).cs (nS L) 0 p=s:=by
   simp only[cy]
   rw[if_neg (show ¬64*(L+1)+2<64 by omega)]
   have:s_ ak vs zs nz (nS L) 0 p=some (.string s):=by
    simp only[s_]
    rw[show nS L / 64-1=L from(show(64*(L+1)+2) / 64-1=L by omega),show nS L % 64=2 from(show(64*(L+1)+2) % 64=2 by omega),hr]
    simp only[hnz]
    exact h0
   rw[this];rfl
  rw[e]
  obtain⟨m2,u⟩:=RS x1 E
  obtain⟨sY,u⟩:=PW u (e:=9) (by kernel_rfl)
  have h5:=(u bl l2 c2 rfl).2 _ Bi [.string s] (by rw[show Tryz.prog.cellsOf 9=1 by kernel_rfl];rfl) (fun k aM=>by
   rw[show Tryz.prog.cellsOf 9=1 by kernel_rfl]at aM ⊢
   obtain rfl:k=0:=by omega
   exact h0)
  exact Nat.le_trans (Y1 h5 (by kernel_rfl) s rfl) HC
end Go.Proofs.YtpdfmnhgocpkcaaGreat
namespace Go.Proofs.YtpdfmnhgocpkcaaGreat
open Go Go.Proofs.Aw Go.Proofs.Xw Go.ChangeShapes Go.WideShapes
set_option maxRecDepth 100000
def kdN (n:Nat):List Kd:=List.replicate n (.i .i64)
def kJ:List gK:=[.flat (kdN 4) true,.flat [.i .i64] false,.flat [.i .i64] false,.sn (mj 258)]
def HA (_:Nat):Nat:=1
def Pl:List X:=[.agg (vi 0 4),xi 4,xi 5,P0 3]
theorem apN:kG 0 0 kJ=Pl:=by kernel_rfl
theorem apO:Ib Tryz.prog 0 Tryz.f6.params.toList kJ:=⟨by kernel_rfl,by kernel_rfl,by kernel_rfl,by kernel_rfl,trivial⟩
def v9 (aF:aa):aa where
 i:=aF.i
 b:=aF.b
 s:=aF.s
 len l:=if l=2 then aF.len 3 else 0
 ci l k j:=if l=2 then(if j<aF.len 3 then aF.ci 3 k j else 0)else 0
 cb _ k j:=aF.cb 3 k j
 cs l k j:=if l=2 then(if j<aF.len 3/\k<79 then aF.cs 3 k j else⟨#[]⟩)else if j / df<aF.len 3/\((j % df:Nat):Int)<aF.ci 3 1002 (j / df)then aF.cs (nS 3) 0 j else⟨#[]⟩
 ct:=kz
theorem Pm (aF:aa):wM aF 3 (v9 aF):=⟨rfl,fun _ _=>rfl,fun _ _=>rfl,fun _ _=>rfl,fun _=>rfl⟩
theorem apL {aF:aa} (o:uh aF 3):X.af (v9 aF) kQ=X.af aF Pl:=by
 have e1:X.af (v9 aF) kQ=[X.I (v9 aF) (.agg Gn),X.I (v9 aF) (xi 4),X.I (v9 aF) (xi 5),fw.I (v9 aF)]:=rfl
 have e2:X.af aF Pl=[X.I aF (.agg (vi 0 4)),X.I aF (xi 4),X.I aF (xi 5),(P0 3).I aF]:=rfl
 rw[e1,e2,arq (Pm aF) o]
 rfl
theorem aoK (ak:World) (vs:List Value) (M:kJ.length=vs.length) (hf:∀(i:Nat) (sh:gK) (v:Value),kJ[i]? = some sh->vs[i]? = some v->rQ ak sh v) (_hs:Jm Tryz.prog Tryz.f6.params.toList vs) (hb:DX Tryz.prog ak Tryz.f6.params.toList vs):CY Tryz.prog 0 6 (X.af (cy ak (mC kJ vs) vs (kJ.map rC) HA) (kG 0 0 kJ)) [] (.sc (.bool true)) []:=by
 rw[apN]
 match vs,M with
 | [PP,v1,v2,v3],_ =>
  obtain⟨n,hn⟩:=hb 3 24 v3 (by kernel_rfl) rfl
  have o:uh (cy ak (mC kJ [PP,v1,v2,v3]) [PP,v1,v2,v3] (kJ.map rC) HA) 3:=art (v:=v3) (by decide) rfl rfl rfl (hf 3 (.sn (mj 258)) v3 rfl rfl) hn
  rw[<-apL o]
  exact(arL (aru (Pm _) o) (arv (Pm _)) rfl).2 0 []
end Go.Proofs.YtpdfmnhgocpkcaaGreat
