/- Parts of the proof, one behind the other. -/
import Derived.Test.YtpdfmnhgocpkcaaGreatTM34
import Derived.Test.YtpdfmnhgocpkcaaGreatTM32
import Derived.Test.YtpdfmnhgocpkcaaGreatTM15
import Derived.Test.YtpdfmnhgocpkcaaGreatTM16
import Derived.Test.YtpdfmnhgocpkcaaGreatTM30
import Derived.Test.YtpdfmnhgocpkcaaGreatXwM4
namespace Go.Proofs.YtpdfmnhgocpkcaaGreat
open Go Go.Proofs.Aw Go.Proofs.Xw
set_option maxRecDepth 100000
theorem bV7 {J:Rho} (has:Bool) (hT:TI J) (h43:J.i 443=1):∃J',Agree 600 J J'/\∀k∈gR2 has,iG Tryz.prog J' k:=by
 obtain⟨J',ag,h⟩:=aP6 has hT h43
 exact⟨J',ag.le (by decide),List.forall_mem_cons.2 ⟨h 0 (by decide),List.forall_mem_cons.2 ⟨h 1 (by decide),List.forall_mem_nil _⟩⟩⟩
noncomputable def bB0 (J:Rho) (cut:Nat->Int) (td:List Nat):Rho:={ J with i:=fun k=>if 600<=k then cut (k-600)else J.i k,len:=fun k=>if k=610 then td.length else J.len k,ci:=fun l k j=>if l=610 then((td[j]?.getD 0:Nat):Int)else J.ci l k j }
theorem aA3 (J:Rho) (cut:Nat->Int) (td:List Nat):TurnL J (bB0 J cut td) cut td where
 ag:=⟨fun k hk=>by show _=if _ then _ else _;rw[if_neg (by omega)],fun _ _=>rfl,fun _ _=>rfl,fun k hk=>by show _=if _ then _ else _;rw[if_neg (by omega)],fun l hl=>by funext k j;show _=if _ then _ else _;rw[if_neg (by omega)],fun _ _=>rfl,fun _ _=>rfl,fun _ _=>rfl⟩
 cu:=fun k hk=>by
  show(if _ then _ else _)=_
  rw[if_pos (by omega),Nat.add_sub_cancel_left]
 ln:=by
  show(if 610=610 then td.length else J.len 610)=_
  rw[if_pos rfl]
 ce:=fun r v h=>by
  show(if 610=610 then((td[r]?.getD 0:Nat):Int)else J.ci 610 0 r)=_
  rw[if_pos rfl,h]
  rfl
theorem TurnL.agree {J J' J2:Rho} {cut:Nat->Int} {td:List Nat} (h:TurnL J J' cut td) (ag:Agree 625 J' J2):TurnL J J2 cut td :=
 ⟨h.ag.trans (ag.le (by decide)),fun k hk=>by rw[<-ag.i (600+k) (by omega)];exact h.cu k hk,by rw[<-ag.len 610 (by decide)];exact h.ln,fun r v hv=>by rw[<-ag.ci 610 (by decide)];exact h.ce r v hv⟩
theorem VK {J:Rho} {m v:Nat} (h:v∈bF J m):v<m:=by
 unfold bF at h
 exact List.mem_range.1 (List.mem_filter.1 h).1
theorem bV8 (hS:∀s∈JM,iF Tryz.prog s) (J:Rho) (has:Bool) (hl:Facts.ok J rQ) (hT:TI J) (h43:J.i 443=1) (hb:(bM 47).den J=has) (hu:has=true->(BE.eq (.uf 2 0 alN) (.lit 1)).den J=true):∃J',Agree 600 J J'/\((J'.len 610=0/\∀k∈gR1 has++[OI has false,MG has false],iG Tryz.prog J' k)\/(1<=J'.len 610/\TurnI J'/\∀k∈[OI has true,MG has true],iG Tryz.prog J' k)):=by
 obtain⟨Ja,aa,hcut,hTu⟩:=bv5 hS has hl hT h43 hb hu
 have hDt:∀{J':Rho},TurnL J J' (fun k=>cutV (dS J has) k (J.len 470)) (bF Ja (J.len 470))->iG Tryz.prog J' (MG has (!(bF Ja (J.len 470)).isEmpty)):=fun h=>bw7 hS has hl hT h43 hb hu aa hcut h
 have tl:=aA3 J (fun k=>cutV (dS J has) k (J.len 470)) (bF Ja (J.len 470))
 generalize bB0 J (fun k=>cutV (dS J has) k (J.len 470)) (bF Ja (J.len 470))=Jt at tl
 cases hq:(bF Ja (J.len 470)).isEmpty with
 | true =>
  obtain⟨J',ag,h⟩:=aP6 has (hT.agree tl.ag) (by rw[<-tl.ag.i 443 (by decide)];exact h43)
  have tl2:=tl.agree ag
  have h1:=hTu J' tl2
  have h2:=hDt tl2
  rw[hq]at h1 h2
  refine⟨J',tl2.ag,.inl ⟨by rw[tl2.ln,List.isEmpty_iff.1 hq];rfl,?_⟩⟩
  exact List.forall_mem_cons.2 ⟨h 2 (by decide),List.forall_mem_cons.2 ⟨h 3 (by decide),List.forall_mem_cons.2 ⟨h1,List.forall_mem_cons.2 ⟨h2,List.forall_mem_nil _⟩⟩⟩⟩
 | false =>
  have h1:=hTu Jt tl
  have h2:=hDt tl
  rw[hq]at h1 h2
  have l1:1<=(bF Ja (J.len 470)).length:=by
   cases hv:bF Ja (J.len 470)with
   | nil=>rw[hv]at hq;cases hq
   | cons _ _=>simp
  have l4:Jt.len 470=J.len 470:=(tl.ag.len 470 (by decide)).symm
  refine⟨Jt,tl.ag,.inr ⟨by rw[tl.ln];exact l1,⟨?_,fun j hj => ?_⟩,List.forall_mem_cons.2 ⟨h1,List.forall_mem_cons.2 ⟨h2,List.forall_mem_nil _⟩⟩⟩⟩
  ·have:=Ae Ja (J.len 470)
   have:=hT.n6
   rw[tl.ln];omega
  ·rw[tl.ln]at hj
   obtain⟨v,hv⟩:∃v,(bF Ja (J.len 470))[j]? = some v:=⟨_,List.getElem?_eq_getElem hj⟩
   have hm:=VK (List.mem_of_getElem? hv)
   rw[tl.ce j v hv,l4]
   omega
theorem bl6 (hS:∀s∈JM,iF Tryz.prog s):Con:=⟨bR4,fun _ has _ hT h43 _ _=>bV7 has hT h43,fun J has hl hT h43 hb hu=>bV8 hS J has hl hT h43 hb hu⟩
end Go.Proofs.YtpdfmnhgocpkcaaGreat
namespace Go.Proofs.YtpdfmnhgocpkcaaGreat
open Go Go.Proofs.Aw Go.Proofs.Xw
set_option maxRecDepth 100000
theorem bA8 {J:Rho} (hS:Str J) (hz:∀j,J.len 2<=j->J.ci 2 1002 j=0) (h460:J.len 460=0):Cy 5 (X.denL J Vt) (.sc (.bool true)):=by
 obtain⟨b,hm,hb⟩:=bT4 hS
 have hT:BD 460 ktE J:=fun j k t hj=>by omega
 cases b with
 | true=>exact af9 (RI hm fun _ _ _=>LpsOk.nil _ _ _ _) hT (Facts.ok_nil J) ZZ
 | false =>
  obtain⟨h1,h2⟩:=hb rfl
  have hK:Key J:=fun j=>by
   by_cases hj:j<J.len 2
   ·exact⟨(hS.k j).1,h2 j hj⟩
   ·rw[hz j (by omega)];decide
  have hk0:Facts.ok J [(.lt (.lit 250) (.len 2),false)]:=Facts.ok_cons (nH (a := .lit 250) (b := .len 2) (show ¬(250:Int)<J.len 2 by omega)) (Facts.ok_nil J)
  refine bD0 (fun Φ h hk=>af9 (RI hm fun _ _ _=>LpsOk.nil _ _ _ _) hT hk h) bD2 _ a95 hk0 fun hp => ?_
  have hl:Facts.ok J rQ:=by
   have v4:=G7 hp 10 rfl
   have v43:=zK hp 11 rfl
   have v3:=G7 hp 9 rfl
   have v4:0<=J.i 4:=v4
   have v43:J.i 4<J.i 3:=of_decide_eq_true v43
   have v3:J.i 3<=4:=v3
   exact Facts.ok_cons (zK hp 2 rfl) (Facts.ok_cons (zK hp 3 rfl) (Facts.ok_cons (zK hp 4 rfl) (Facts.ok_cons (zK hp 5 rfl) (Facts.ok_cons (zK hp 10 rfl) (Facts.ok_cons (nH (a := .lit 3) (b := .var 4) (show ¬(3:Int)<J.i 4 by omega)) hk0)))))
  have hla:Facts.ok J laF:=Facts.ok_cons (zK hp 0 rfl) (Facts.ok_cons (zK hp 1 rfl) (aY hl (Facts.ok_cons (zK hp 6 rfl) (Facts.ok_cons (zK hp 7 rfl) (Facts.ok_cons (zK hp 8 rfl) (Facts.ok_cons (zK hp 9 rfl) (Facts.ok_cons (zK hp 11 rfl) (Facts.ok_nil J))))))))
  obtain⟨i,Jf,ag,hI,hL⟩:=loop ⟨bg5,JL,MI⟩ (bl6 JL) hK hl
  have e1:X.denL Jf [scX]=X.denL J [scX]:=(X.belL_den ag [scX] (by kernel_rfl)).symm
  have e2:X.denL Jf Vt=X.denL J Vt:=(X.belL_den ag Vt (by kernel_rfl)).symm
  have hmf:Cy 11 (X.denL Jf [scX]) (.sc (.bool false)):=by rw[e1];exact hm
  have hpsi:Facts.ok Jf (a18 i):=by
   unfold a18
   split
   ·rename_i C hC;exact hI.fa C hC
   ·exact Facts.ok_nil Jf
  have hbs:Facts.ok Jf (wY i):=by
   obtain⟨g1,g2⟩:=DR hI
   refine aY ?_ (aY (bG ag (by kernel_rfl) hla) hpsi)
   split
   ·exact Facts.ok_nil Jf
   ·rename_i hne
    have hi:1<=i:=by
     rcases Nat.eq_zero_or_pos i with h | h
     ·subst h;exact absurd rfl hne
     ·exact h
    have q1:=g2 hi
    have q2:=g1.a1
    have q3:=g1.a2
    exact Facts.ok_cons (nH (a := .lit 300) (b := .len 460) (show ¬(300:Int)<Jf.len 460 by omega)) (Facts.ok_nil Jf)
  have:=aW3 hmf hI.ty hI.lt hL hbs
  rw[e2]at this
  exact this
end Go.Proofs.YtpdfmnhgocpkcaaGreat
namespace Go.Proofs.Xw
open Go Go.Proofs.Aw Go.ChangeShapes Go.WideShapes
theorem NK.get {W:World}:∀{ks:List Nk} {ds:List Value},NK W ks ds->∀{k:Nat} {x:Nk},ks[k]? = some x->∃v,ds[k]? = some v/\match x with | .f kd=>kOk kd v | .r z _ kk=>Fits W (.sl kk) v/\CU (some v)<=maxLen/\z=kk.length
 | [],_,_,k,x,h=>by simp at h
 | .f kd::ks,ds,⟨v,r,e,hv,hr⟩,k,x,h=>by
  subst e
  cases k with
  | zero=>simp only[List.getElem?_cons_zero,Option.some.injEq]at h;subst h;exact⟨v,rfl,hv⟩
  | succ k=>simpa using NK.get hr (k:=k) (x:=x) (by simpa using h)
 | .r z S kk::ks,ds,⟨v,r,e,hv,hr⟩,k,x,h=>by
  subst e
  cases k with
  | zero=>simp only[List.getElem?_cons_zero,Option.some.injEq]at h;subst h;exact⟨v,rfl,hv⟩
  | succ k=>simpa using NK.get hr (k:=k) (x:=x) (by simpa using h)
end Go.Proofs.Xw
namespace Go.Proofs.YtpdfmnhgocpkcaaGreat
open Go Go.Proofs.Aw Go.Proofs.Xw Go.ChangeShapes Go.WideShapes
set_option maxRecDepth 100000
structure ScR (R0 J:Rho):Prop where
 len:J.len 2=R0.len 2
 ci:∀k j,J.ci 2 k j=if j<R0.len 2 then R0.ci 2 k j else 0
 cb:∀k j,J.cb 2 k j=R0.cb 2 k j
 cs:∀k j,J.cs 2 k j=if j<R0.len 2/\k<79 then R0.cs 2 k j else⟨#[]⟩
 n:∀j,J.cs 194 0 j=if j / iV<R0.len 2/\((j % iV:Nat):Int)<R0.ci 2 1002 (j / iV)then R0.cs 194 0 j else⟨#[]⟩
structure ScO (R0:Rho):Prop where
 o:∀j,j<R0.len 2->R0.ci 2 2 j=((j*iV:Nat):Int)
 k:∀j,j<R0.len 2->0<=R0.ci 2 1002 j/\R0.ci 2 1002 j<=140737488355327
 l:R0.len 2<=140737488355327
 s:∀j k,j<R0.len 2->k<79->(R0.cs 2 k j).size<=140737488355327
 n:∀j,j / iV<R0.len 2->((j % iV:Nat):Int)<R0.ci 2 1002 (j / iV)->(R0.cs 194 0 j).size<=140737488355327
theorem aX8 {R0 J:Rho} (h:ScR R0 J) (o:ScO R0):Str J:=by
 refine⟨by rw[h.len];exact o.l,fun j => ?_,fun k j => ?_,fun j => ?_⟩
 ·rw[h.ci]
  split
  ·rename_i hj;exact o.k j hj
  ·decide
 ·rw[h.cs]
  split
  ·rename_i hj;exact o.s j k hj.1 hj.2
  ·decide
 ·rw[h.n]
  split
  ·rename_i hj;exact o.n j hj.1 hj.2
  ·decide
theorem ci4 {R0 J:Rho} (h:ScR R0 J):∀j,J.len 2<=j->J.ci 2 1002 j=0:=fun j hj=>by
 rw[h.ci,if_neg (by rw[h.len]at hj;omega)]
theorem bi8 {j e:Nat} (he:e<iV):(e+j*iV) / iV=j/\(e+j*iV) % iV=e:=by
 have hM:0<iV:=by decide
 exact⟨by rw[Nat.add_mul_div_right _ _ hM,Nat.div_eq_of_lt he,Nat.zero_add],by rw[Nat.add_mul_mod_self_right,Nat.mod_eq_of_lt he]⟩
theorem ay5 {R0 J:Rho} (h:ScR R0 J) (o:ScO R0) {j:Nat} (hj:j<R0.len 2):uu J 194 [.s] (J.ci 2 2 j) (J.ci 2 1002 j)=uu R0 194 [.s] (R0.ci 2 2 j) (R0.ci 2 1002 j):=by
 have c1:J.ci 2 2 j=R0.ci 2 2 j:=by rw[h.ci,if_pos hj]
 have c2:J.ci 2 1002 j=R0.ci 2 1002 j:=by rw[h.ci,if_pos hj]
 rw[c1,c2]
 unfold uu
 refine List.map_congr_left fun e he => ?_
 have he:e<(R0.ci 2 1002 j).toNat:=List.mem_range.1 he
 obtain⟨k1,k2⟩:=o.k j hj
 have hf:e<iV:=by
  have:iV=9223372036854775808:=rfl
  omega
 have ho:=o.o j hj
 have ei:((e:Int)+R0.ci 2 2 j).toNat=e+j*iV:=by rw[ho,<-Int.natCast_add,Int.toNat_natCast]
 obtain⟨f1,f2⟩:=bi8 (j:=j) hf
 rw[ei]
 have hp:=h.n (e+j*iV)
 rw[f1,f2,if_pos ⟨hj,by omega⟩]at hp
 simp only[aW,hp]
theorem Es {R0 J:Rho} (h:ScR R0 J) (o:ScO R0) {j:Nat} (hj:j<R0.len 2):dQ J 2 0 kaA j=dQ R0 2 0 kaA j:=by
 have ci:∀k,J.ci 2 k j=R0.ci 2 k j:=fun k=>by rw[h.ci,if_pos hj]
 have cs:∀k,k<79->J.cs 2 k j=R0.cs 2 k j:=fun k hk=>by rw[h.cs,if_pos ⟨hj,hk⟩]
 have hk:=ay5 h o hj
 rw[ci,ci]at hk
 have s3:=cs 3 (by decide);have s38:=cs 38 (by decide);have s39:=cs 39 (by decide);have s53:=cs 53 (by decide);have s54:=cs 54 (by decide)
 simp only[kaA,kI,kB,kS,dQ,ve,Nat.reduceAdd,hk,s3,s38,s39,s53,s54,ci,h.cb]
theorem aX9 {R0 J:Rho} (h:ScR R0 J) (o:ScO R0):scX.den J=scX.den R0:=by
 show AV.ro 79 (jB J (.len 2) 2 kaA) false=AV.ro 79 (jB R0 (.len 2) 2 kaA) false
 congr 1
 unfold jB
 have e1:((IE.len 2).den J).toNat=R0.len 2:=by show((J.len 2:Int)).toNat=_;rw[h.len];exact Int.toNat_natCast _
 have e2:((IE.len 2).den R0).toNat=R0.len 2:=Int.toNat_natCast _
 rw[e1,e2]
 exact List.map_congr_left fun j hj=>Es h o (List.mem_range.1 hj)
def isStr:Option Nk->Bool
 | some (.f .s)=>true
 | _=>false
theorem aX4:((List.range 79).all fun k => !isStr kaA[k]? || (Nat.beq k 3||(Nat.beq k 38||(Nat.beq k 39||(Nat.beq k 53||Nat.beq k 54)))))=true:=by kernel_rfl
theorem UR:kaA.length=79:=rfl
theorem yX:reachBytes<=140737488355327:=by decide
theorem aM1 {W:World} {n:Nat} {ds:List Value} (h:L6 Tryz.prog W n 51 ds) {k:Nat} (hk:k=3\/k=38\/k=39\/k=53\/k=54) {s:ByteArray} (hs:ds[k]? = some (.string s)):s.size<=140737488355327:=by
 have one:∀(m:Nat) (l:List Value),L6 Tryz.prog W m 9 l->l=[.string s]->s.size<=140737488355327:=fun m l hl e=>Nat.le_trans (TR hl (by kernel_rfl) s e) yX
 have at1:∀(l:List Value) (o:Nat),l[o]? = some (.string s)->(l.drop o).take 1=[.string s]:=fun l o ho=>by
  obtain⟨hlt,he⟩:=List.getElem?_eq_some_iff.1 ho
  rw[List.drop_eq_getElem_cons hlt,he];rfl
 have sub:∀(o z i:Nat),i<z->((ds.drop o).take z)[i]? = ds[o+i]? := fun o z i hi=>by rw[List.getElem?_take,if_pos hi,List.getElem?_drop]
 rcases hk with rfl | rfl | rfl | rfl | rfl
 ·obtain⟨m1,h1⟩:=jo h (i:=1) (t':=27) (o:=1) (z:=4) (by kernel_rfl)
  obtain⟨m2,h2⟩:=jo h1 (i:=2) (t':=9) (o:=2) (z:=1) (by kernel_rfl)
  exact one m2 _ h2 (at1 _ 2 (by rw[sub 1 4 2 (by decide)];exact hs))
 ·obtain⟨m1,h1⟩:=jo h (i:=2) (t':=49) (o:=5) (z:=74) (by kernel_rfl)
  obtain⟨m2,h2⟩:=jo h1 (i:=9) (t':=45) (o:=27) (z:=20) (by kernel_rfl)
  obtain⟨m3,h3⟩:=jo h2 (i:=2) (t':=9) (o:=6) (z:=1) (by kernel_rfl)
  refine one m3 _ h3 (at1 _ 6 ?_)
  rw[List.getElem?_take,if_pos (by decide),List.getElem?_drop,sub 5 74 33 (by decide)];exact hs
 ·obtain⟨m1,h1⟩:=jo h (i:=2) (t':=49) (o:=5) (z:=74) (by kernel_rfl)
  obtain⟨m2,h2⟩:=jo h1 (i:=9) (t':=45) (o:=27) (z:=20) (by kernel_rfl)
  obtain⟨m3,h3⟩:=jo h2 (i:=3) (t':=9) (o:=7) (z:=1) (by kernel_rfl)
  refine one m3 _ h3 (at1 _ 7 ?_)
  rw[List.getElem?_take,if_pos (by decide),List.getElem?_drop,sub 5 74 34 (by decide)];exact hs
 ·obtain⟨m1,h1⟩:=jo h (i:=2) (t':=49) (o:=5) (z:=74) (by kernel_rfl)
  obtain⟨m2,h2⟩:=jo h1 (i:=11) (t':=9) (o:=48) (z:=1) (by kernel_rfl)
  exact one m2 _ h2 (at1 _ 48 (by rw[sub 5 74 48 (by decide)];exact hs))
 ·obtain⟨m1,h1⟩:=jo h (i:=2) (t':=49) (o:=5) (z:=74) (by kernel_rfl)
  obtain⟨m2,h2⟩:=jo h1 (i:=12) (t':=9) (o:=49) (z:=1) (by kernel_rfl)
  exact one m2 _ h2 (at1 _ 49 (by rw[sub 5 74 49 (by decide)];exact hs))
theorem Px {W:World} {n:Nat} {ds:List Value} (h:L6 Tryz.prog W n 51 ds) {v:Value} (hv:ds[2]? = some v):∃m,L6 Tryz.prog W m 25 [v]:=by
 obtain⟨m1,h1⟩:=jo h (i:=1) (t':=27) (o:=1) (z:=4) (by kernel_rfl)
 obtain⟨m2,h2⟩:=jo h1 (i:=1) (t':=25) (o:=1) (z:=1) (by kernel_rfl)
 refine⟨m2,?_⟩
 have e:(((ds.drop 1).take 4).drop 1).take 1=[v]:=by
  have ho:((ds.drop 1).take 4)[1]? = some v:=by rw[List.getElem?_take,if_pos (by decide),List.getElem?_drop];exact hv
  obtain⟨hlt,he⟩:=List.getElem?_eq_some_iff.1 ho
  rw[List.drop_eq_getElem_cons hlt,he];rfl
 rw[e]at h2
 exact h2
theorem by9 {W:World} {cells vs:List Value} {zs:List Nat} {nz:Nat->Nat} {v:Value} (hv:vs[2]? = some v) (hz:zs[2]? = some 79) (hnz:nz 194=1) (hf:CJ W (.sn kaA) v) {n:Nat} (hs:L6 Tryz.prog W n 24 v.cells.toList):ScO (gQ W cells vs zs nz):=by
 obtain⟨_,A,len,cap,rfl,_,hrows⟩:=hf
 obtain⟨m,hsl⟩:=Ql hs (e:=51) (by kernel_rfl)
 have hlen:(gQ W cells vs zs nz).len 2=len:=by show CU vs[2]? = len;rw[hv];rfl
 have row:∀j,j<len->∃ds v2 m',NK W kaA ds/\(∀k,k<79->rowCell W vs zs 2 k j=ds[k]?)/\L6 Tryz.prog W m' 51 ds/\ds[2]? = some v2/\Fits W (.sl [.s]) v2/\len<=140737488355327:=fun j hj=>by
  obtain⟨a,rfl,_,hr⟩:=hrows (by omega)
  obtain⟨ds,hn,hc⟩:=hr j hj
  rw[UR]at hc
  obtain⟨hw,hds⟩:=hsl a len cap rfl
  have hcell:Tryz.prog.cellsOf 51=79:=by kernel_rfl
  rw[hcell]at hds
  have hb:Tryz.prog.bytesOf 51≥1:=by rw[show Tryz.prog.bytesOf 51=dA Tryz.prog 51 from rfl];rw[show dA Tryz.prog 51=680 by kernel_rfl];decide
  obtain⟨v2,h2,h3,_⟩:=NK.get hn (k:=2) (x := .r 1 194 [.s]) rfl
  refine⟨ds,v2,m,hn,fun k hk => ?_,hds j hj ds (by rw[NK.length hn];rfl) hc,h2,h3,?_⟩
  ·rw[<-hc k hk]
   simp only[rowCell,hv,hz]
  ·have:=yX
   have h5:len*1<=len*Tryz.prog.bytesOf 51:=Nat.mul_le_mul_left _ hb
   omega
 have hci:∀j k,k<79->(gQ W cells vs zs nz).ci 2 k j=aD0 j (rowCell W vs zs 2 k j):=fun j k hk=>by simp only[gQ];rw[if_pos (by decide),if_pos (by omega)]
 have hcl:∀j,(gQ W cells vs zs nz).ci 2 1002 j=((CU (rowCell W vs zs 2 2 j):Nat):Int):=fun j=>by simp only[gQ];rw[if_pos (by decide),if_neg (by decide)]
 refine⟨fun j hj => ?_,fun j hj => ?_,?_,fun j k hj hk => ?_,fun p hp he => ?_⟩
 ·rw[hlen]at hj
  obtain⟨ds,v2,m',hn,hc,hsb,h2,⟨_,A2,l2,c2,rfl,_⟩,_⟩:=row j hj
  rw[hci j 2 (by decide),hc 2 (by decide),h2]
  rfl
 ·rw[hlen]at hj
  obtain⟨ds,v2,m',hn,hc,hsb,h2,⟨_,A2,l2,c2,rfl,_,hA⟩,_⟩:=row j hj
  rw[hcl,hc 2 (by decide),h2]
  show 0<=(l2:Int)/\(l2:Int)<=140737488355327
  rcases Nat.eq_zero_or_pos l2 with h0 | h0
  ·subst h0;decide
  ·obtain⟨a2,rfl,_⟩:=hA h0
   obtain⟨m2,hk⟩:=Px hsb h2
   obtain⟨m3,hk⟩:=Ql hk (e:=9) (by kernel_rfl)
   have h5:=(hk a2 l2 c2 rfl).1
   rw[show Tryz.prog.bytesOf 9=dA Tryz.prog 9 from rfl,show dA Tryz.prog 9=16 by kernel_rfl]at h5
   have:=yX
   omega
 ·rw[hlen]
  rcases Nat.eq_zero_or_pos len with h0 | h0
  ·omega
  ·obtain⟨_,_,_,_,_,_,_,_,h⟩:=row 0 h0
   exact h
 ·rw[hlen]at hj
  obtain⟨ds,v2,m',hn,hc,hsb,_⟩:=row j hj
  have e:(gQ W cells vs zs nz).cs 2 k j=JJ ds[k]? := by
   rw[<-hc k hk]
   simp only[gQ]
   rw[if_pos (by decide)]
  rw[e]
  obtain⟨x,hx⟩:∃x,kaA[k]? = some x:=⟨_,List.getElem?_eq_getElem (by rw[UR];exact hk)⟩
  obtain⟨u,hu,hku⟩:=NK.get hn hx
  rw[hu]
  have hst:=List.all_eq_true.1 aX4 k (List.mem_range.2 hk)
  rw[hx]at hst
  cases x with
  | f kd =>
   cases kd with
   | i K=>obtain⟨q,rfl,_⟩:=hku;show(⟨#[]⟩:ByteArray).size<=_;decide
   | b=>obtain⟨q,rfl⟩:=hku;show(⟨#[]⟩:ByteArray).size<=_;decide
   | s =>
    obtain⟨s,rfl,_⟩:=hku
    simp only[isStr,Bool.not_true,Bool.false_or,Bool.or_eq_true]at hst
    refine aM1 hsb (k:=k) ?_ hu
    rcases hst with h | h | h | h | h
    ·exact .inl (Nat.eq_of_beq_eq_true h)
    ·exact .inr (.inl (Nat.eq_of_beq_eq_true h))
    ·exact .inr (.inr (.inl (Nat.eq_of_beq_eq_true h)))
    ·exact .inr (.inr (.inr (.inl (Nat.eq_of_beq_eq_true h))))
    ·exact .inr (.inr (.inr (.inr (Nat.eq_of_beq_eq_true h))))
  | r z S kk =>
   obtain⟨⟨_,A2,l2,c2,rfl,_⟩,_⟩:=hku
   show(⟨#[]⟩:ByteArray).size<=_;decide
 ·rw[hlen]at hp
  obtain⟨ds,v2,m',hn,hc,hsb,h2,⟨_,A2,l2,c2,rfl,_,hA⟩,_⟩:=row _ hp
  have hr:rowCell W vs zs 2 2 (p / iV)=some (.slice A2 l2 c2):=by rw[hc 2 (by decide),h2]
  rw[hcl,hr]at he
  have he1:((p % iV:Nat):Int)<(l2:Int):=he
  have he2:p % iV<l2:=Int.ofNat_lt.1 he1
  obtain⟨a2,rfl,_,hrow⟩:=hA (Nat.lt_of_le_of_lt (Nat.zero_le _) he2)
  obtain⟨cs,⟨u,r,rfl,⟨s,rfl,_⟩,hr0⟩,hcell⟩:=hrow _ he2
  have hr0:r=[]:=hr0
  subst hr0
  have h0:=hcell 0 (by decide)
  simp only[List.length_cons,List.length_nil,List.getElem?_cons_zero]at h0
  have e:(gQ W cells vs zs nz).cs 194 0 p=s:=by
   simp only[gQ]
   rw[if_neg (by decide)]
   have:mZ W vs zs nz 194 0 p=some (.string s):=by
    simp only[mZ]
    rw[show 194 / 64-1=2 from rfl,show 194 % 64=2 from rfl,hr]
    simp only[hnz]
    exact h0
   rw[this];rfl
  rw[e]
  obtain⟨m2,hk⟩:=Px hsb h2
  obtain⟨m3,hk⟩:=Ql hk (e:=9) (by kernel_rfl)
  have h5:=(hk a2 l2 c2 rfl).2 _ he2 [.string s] (by rw[show Tryz.prog.cellsOf 9=1 by kernel_rfl];rfl) (fun k hk'=>by
   rw[show Tryz.prog.cellsOf 9=1 by kernel_rfl]at hk' ⊢
   obtain rfl:k=0:=by omega
   exact h0)
  exact Nat.le_trans (TR h5 (by kernel_rfl) s rfl) yX
end Go.Proofs.YtpdfmnhgocpkcaaGreat
namespace Go.Proofs.YtpdfmnhgocpkcaaGreat
open Go Go.Proofs.Aw Go.Proofs.Xw Go.ChangeShapes Go.WideShapes
set_option maxRecDepth 100000
def kdN (n:Nat):List Kd:=List.replicate n (.i .i64)
def rdSh:List Sh2:=[.flat (kdN 4) true,.flat [.i .i64] false,.sn kaA,.flat [.s] false,.flat (kdN 10++[.b]++kdN 2) true,.flat (kdN 6++[.s,.s,.b]++kdN 11) true,.flat [.b] false]
def aA0 (_:Nat):Nat:=1
def rdA:List X:=[.agg (vi 0 4),xi 4,scX,xs 5,.agg (vi 6 10++[xb 16]++vi 17 2),.agg (vi 19 6++[xs 25,xs 26,xb 27]++vi 28 11),xb 39]
theorem az8:oQ 0 0 rdSh=rdA:=by kernel_rfl
theorem az7:ay3 Tryz.prog 0 Tryz.f5.params.toList rdSh:=⟨by kernel_rfl,by kernel_rfl,by kernel_rfl,by kernel_rfl,by kernel_rfl,by kernel_rfl,by kernel_rfl,trivial⟩
def rdR (R:Rho):Rho where
 i k:=if k<5 then R.i k else if k<15 then R.i (k+1)else if k<23 then R.i (k+2)else R.i (k+5)
 b k:=if k=0 then R.b 16 else if k=1 then R.b 27 else R.b 39
 s k:=if k=0 then R.s 5 else if k=1 then R.s 25 else R.s 26
 len l:=if l=2 then R.len 2 else 0
 ci l k j:=if l=2 then(if j<R.len 2 then R.ci 2 k j else 0)else 0
 cb l k j:=R.cb l k j
 cs l k j:=if l=2 then(if j<R.len 2/\k<79 then R.cs 2 k j else⟨#[]⟩)else if j / iV<R.len 2/\((j % iV:Nat):Int)<R.ci 2 1002 (j / iV)then R.cs 194 0 j else⟨#[]⟩
 ct:=UB
theorem ZU (R:Rho):ScR R (rdR R):=⟨rfl,fun _ _=>rfl,fun _ _=>rfl,fun _ _=>rfl,fun _=>rfl⟩
theorem aZ8 {R:Rho} (o:ScO R):X.denL (rdR R) Vt=X.denL R rdA:=by
 have e1:X.denL (rdR R) Vt=[X.den (rdR R) (.agg ly),X.den (rdR R) (xi 4),scX.den (rdR R),X.den (rdR R) (xs 0),X.den (rdR R) (.agg (cfZ 5 0)),X.den (rdR R) (enY 17 1 1),X.den (rdR R) (xb 2)]:=rfl
 have e2:X.denL R rdA=[X.den R (.agg (vi 0 4)),X.den R (xi 4),scX.den R,X.den R (xs 5),X.den R (.agg (vi 6 10++[xb 16]++vi 17 2)),X.den R (.agg (vi 19 6++[xs 25,xs 26,xb 27]++vi 28 11)),X.den R (xb 39)]:=rfl
 rw[e1,e2,aX9 (ZU R) o]
 rfl
theorem aZ7 (W:World) (vs:List Value) (hl:rdSh.length=vs.length) (hf:∀(i:Nat) (sh:Sh2) (v:Value),rdSh[i]? = some sh->vs[i]? = some v->CJ W sh v) (_hs:Short Tryz.prog Tryz.f5.params.toList vs) (hb:SBs Tryz.prog W Tryz.f5.params.toList vs):CY Tryz.prog 0 5 (X.denL (gQ W (lW rdSh vs) vs (rdSh.map JP) aA0) (oQ 0 0 rdSh)) [] (.sc (.bool true)) []:=by
 rw[az8]
 match vs,hl with
 | [v0,v1,v2,v3,v4,v5,v6],_ =>
  obtain⟨n,hn⟩:=hb 2 24 v2 (by kernel_rfl) rfl
  have o:ScO (gQ W (lW rdSh [v0,v1,v2,v3,v4,v5,v6]) [v0,v1,v2,v3,v4,v5,v6] (rdSh.map JP) aA0):=by9 (v:=v2) rfl rfl rfl (hf 2 (.sn kaA) v2 rfl rfl) hn
  rw[<-aZ8 o]
  exact(bA8 (aX8 (ZU _) o) (ci4 (ZU _)) rfl).2 0 []
end Go.Proofs.YtpdfmnhgocpkcaaGreat
