/- Parts of the proof, one behind the other. -/
import Derived.Test.YtpdfmnhgocpkcaaGreatTK43
import Derived.Test.YtpdfmnhgocpkcaaGreatTK41
import Derived.Test.YtpdfmnhgocpkcaaGreatTK7
import Derived.Test.YtpdfmnhgocpkcaaGreatTK25
import Derived.Test.YtpdfmnhgocpkcaaGreatXwK4
import Derived.Test.YtpdfmnhgocpkcaaGreatTK39
namespace Go.Proofs.YtpdfmnhgocpkcaaGreat
open Go Go.Proofs.Aw Go.Proofs.Xw
set_option maxRecDepth 100000
theorem ahz {ρ:aa} (ag:Bool) (hT:TI ρ) (dv:ρ.i 443=1):∃G,aA 600 ρ G/\∀k∈sP ag,cy Tryz.prog G k:=by
 obtain⟨G,ah,h⟩:=YR ag hT dv
 exact⟨G,ah.le (by decide),List.forall_mem_cons.2 ⟨h 0 (by decide),List.forall_mem_cons.2 ⟨h 1 (by decide),List.forall_mem_nil _⟩⟩⟩
noncomputable def X7 (ρ:aa) (cut:Nat->Int) (td:List Nat):aa:={ ρ with i:=fun k=>if 600<=k then cut (k-600)else ρ.i k,len:=fun k=>if k=610 then td.length else ρ.len k,ci:=fun l k j=>if l=610 then((td[j]?.getD 0:Nat):Int)else ρ.ci l k j }
theorem apg (ρ:aa) (cut:Nat->Int) (td:List Nat):uE ρ (X7 ρ cut td) cut td where
 ah:=⟨fun k u=>by show _=if _ then _ else _;rw[if_neg (by omega)],fun _ _=>rfl,fun _ _=>rfl,fun k u=>by show _=if _ then _ else _;rw[if_neg (by omega)],fun l O=>by funext k j;show _=if _ then _ else _;rw[if_neg (by omega)],fun _ _=>rfl,fun _ _=>rfl,fun _ _=>rfl⟩
 dT:=fun k u=>by
  show(if _ then _ else _)=_
  rw[if_pos (by omega),Nat.add_sub_cancel_left]
 pK:=by
  show(if 610=610 then td.length else ρ.len 610)=_
  rw[if_pos rfl]
 ce:=fun r v h=>by
  show(if 610=610 then((td[r]?.getD 0:Nat):Int)else ρ.ci 610 0 r)=_
  rw[if_pos rfl,h]
  rfl
theorem uE.bC {ρ G ax:aa} {cut:Nat->Int} {td:List Nat} (h:uE ρ G cut td) (ah:aA 625 G ax):uE ρ ax cut td :=
 ⟨h.ah.trans (ah.le (by decide)),fun k u=>by rw[<-ah.i (600+k) (by omega)];exact h.dT k u,by rw[<-ah.len 610 (by decide)];exact h.pK,fun r v R=>by rw[<-ah.ci 610 (by decide)];exact h.ce r v R⟩
theorem asD {ρ:aa} {m v:Nat} (h:v∈bS ρ m):v<m:=by
 unfold bS at h
 exact List.mem_range.1 (List.mem_filter.1 h).1
theorem ahy (hS:∀s∈hj,c9 Tryz.prog s) (ρ:aa) (ag:Bool) (O:J.ok ρ di) (hT:TI ρ) (dv:ρ.i 443=1) (hb:(bV 47).I ρ=ag) (hu:ag=true->(BE.eq (.uf 2 0 dw) (.lit 1)).I ρ=true):∃G,aA 600 ρ G/\((G.len 610=0/\∀k∈sO ag++[iX ag false,ix ag false],cy Tryz.prog G k)\/(1<=G.len 610/\w9 G/\∀k∈[iX ag true,ix ag true],cy Tryz.prog G k)):=by
 obtain⟨b7,j9,i4,UQ⟩:=asK hS ag O hT dv hb hu
 have UL:∀{G:aa},uE ρ G (fun k=>iv (bK ρ ag) k (ρ.len 470)) (bS b7 (ρ.len 470))->cy Tryz.prog G (ix ag (!(bS b7 (ρ.len 470)).isEmpty)):=fun h=>asj hS ag O hT dv hb hu j9 i4 h
 have tl:=apg ρ (fun k=>iv (bK ρ ag) k (ρ.len 470)) (bS b7 (ρ.len 470))
 generalize X7 ρ (fun k=>iv (bK ρ ag) k (ρ.len 470)) (bS b7 (ρ.len 470))=RD at tl
 cases hq:(bS b7 (ρ.len 470)).isEmpty with
 | true =>
  obtain⟨G,ah,h⟩:=YR ag (hT.bC tl.ah) (by rw[<-tl.ah.i 443 (by decide)];exact dv)
  have Hx:=tl.bC ah
  have A:=UQ G Hx
  have E:=UL Hx
  rw[hq]at A E
  refine⟨G,Hx.ah,.inl ⟨by rw[Hx.pK,List.isEmpty_iff.1 hq];rfl,?_⟩⟩
  exact List.forall_mem_cons.2 ⟨h 2 (by decide),List.forall_mem_cons.2 ⟨h 3 (by decide),List.forall_mem_cons.2 ⟨A,List.forall_mem_cons.2 ⟨E,List.forall_mem_nil _⟩⟩⟩⟩
 | false =>
  have A:=UQ RD tl
  have E:=UL tl
  rw[hq]at A E
  have l1:1<=(bS b7 (ρ.len 470)).length:=by
   cases R:bS b7 (ρ.len 470)with
   | nil=>rw[R]at hq;cases hq
   | cons _ _=>simp
  have l4:RD.len 470=ρ.len 470:=(tl.ah.len 470 (by decide)).symm
  refine⟨RD,tl.ah,.inr ⟨by rw[tl.pK];exact l1,⟨?_,fun j M => ?_⟩,List.forall_mem_cons.2 ⟨A,List.forall_mem_cons.2 ⟨E,List.forall_mem_nil _⟩⟩⟩⟩
  ·have:=QM b7 (ρ.len 470)
   have:=hT.n6
   rw[tl.pK];omega
  ·rw[tl.pK]at M
   obtain⟨v,R⟩:∃v,(bS b7 (ρ.len 470))[j]? = some v:=⟨_,List.getElem?_eq_getElem M⟩
   have hm:=asD (List.mem_of_getElem? R)
   rw[tl.ce j v R,l4]
   omega
theorem SV (hS:∀s∈hj,c9 Tryz.prog s):sk:=⟨ajr,fun _ ag _ hT dv _ _=>ahz ag hT dv,fun ρ ag O hT dv hb hu=>ahy hS ρ ag O hT dv hb hu⟩
end Go.Proofs.YtpdfmnhgocpkcaaGreat
namespace Go.Proofs.Xw
open Go Go.Proofs.Aw Go.ChangeShapes Go.WideShapes
theorem NK.get {aj:World}:∀{ks:List Nk} {ds:List Value},NK aj ks ds->∀{k:Nat} {x:Nk},ks[k]? = some x->∃v,ds[k]? = some v/\match x with | .f kd=>B6 kd v | .r z _ kk=>Fits aj (.sl kk) v/\mB (some v)<=maxLen/\z=kk.length
 | [],_,_,k,x,h=>by simp at h
 | .f kd::ks,ds,⟨v,r,e,R,hr⟩,k,x,h=>by
  subst e
  cases k with
  | zero=>simp only[List.getElem?_cons_zero,Option.some.injEq]at h;subst h;exact⟨v,rfl,R⟩
  | succ k=>simpa using NK.get hr (k:=k) (x:=x) (by simpa using h)
 | .r z S kk::ks,ds,⟨v,r,e,R,hr⟩,k,x,h=>by
  subst e
  cases k with
  | zero=>simp only[List.getElem?_cons_zero,Option.some.injEq]at h;subst h;exact⟨v,rfl,R⟩
  | succ k=>simpa using NK.get hr (k:=k) (x:=x) (by simpa using h)
end Go.Proofs.Xw
namespace Go.Proofs.YtpdfmnhgocpkcaaGreat
open Go Go.Proofs.Aw Go.Proofs.Xw Go.ChangeShapes Go.WideShapes
set_option maxRecDepth 100000
abbrev nS (L:Nat):Nat:=64*(L+1)+2
def ow (S:Nat):List Nk:=hc.set 2 (.r 1 S [.s])
def Zn (L:Nat):X := .rn 79 (.len L) L (ow (nS L)) false
structure RW (R0:aa) (L:Nat) (ρ:aa):Prop where
 len:ρ.len 2=R0.len L
 ci:∀k j,ρ.ci 2 k j=if j<R0.len L then R0.ci L k j else 0
 cb:∀k j,ρ.cb 2 k j=R0.cb L k j
 cs:∀k j,ρ.cs 2 k j=if j<R0.len L/\k<79 then R0.cs L k j else⟨#[]⟩
 n:∀j,ρ.cs 194 0 j=if j / bX<R0.len L/\((j % bX:Nat):Int)<R0.ci L 1002 (j / bX)then R0.cs (nS L) 0 j else⟨#[]⟩
structure uD (R0:aa) (L:Nat):Prop where
 o:∀j,j<R0.len L->R0.ci L 2 j=((j*bX:Nat):Int)
 k:∀j,j<R0.len L->0<=R0.ci L 1002 j/\R0.ci L 1002 j<=140737488355327
 l:R0.len L<=140737488355327
 s:∀j k,j<R0.len L->k<79->(R0.cs L k j).size<=140737488355327
 n:∀j,j / bX<R0.len L->((j % bX:Nat):Int)<R0.ci L 1002 (j / bX)->(R0.cs (nS L) 0 j).size<=140737488355327
variable {L:Nat}
structure z1 (R0:aa) (L:Nat) (ρ:aa):Prop where
 len:ρ.len 2=R0.len L
 ci:∀k j,j<R0.len L->ρ.ci 2 k j=R0.ci L k j
 cb:∀k j,j<R0.len L->ρ.cb 2 k j=R0.cb L k j
 cs:∀k j,j<R0.len L->k<79->ρ.cs 2 k j=R0.cs L k j
 n:∀j,j / bX<R0.len L->((j % bX:Nat):Int)<R0.ci L 1002 (j / bX)->ρ.cs 194 0 j=R0.cs (nS L) 0 j
theorem RW.q {R0 ρ:aa} (h:RW R0 L ρ):z1 R0 L ρ:=⟨h.len,fun k j M=>by rw[h.ci,if_pos M],fun k j _=>h.cb k j,fun k j M u=>by rw[h.cs,if_pos ⟨M,u⟩],fun j A E=>by rw[h.n,if_pos ⟨A,E⟩]⟩
theorem T2 {j e:Nat} (F:e<bX):(e+j*bX) / bX=j/\(e+j*bX) % bX=e:=by
 have m9:0<bX:=by decide
 exact⟨by rw[Nat.add_mul_div_right _ _ m9,Nat.div_eq_of_lt F,Nat.zero_add],by rw[Nat.add_mul_mod_self_right,Nat.mod_eq_of_lt F]⟩
theorem arc {R0 ρ:aa} (h:z1 R0 L ρ) (o:uD R0 L) {j:Nat} (M:j<R0.len L):j0 ρ 194 [.s] (ρ.ci 2 2 j) (ρ.ci 2 1002 j)=j0 R0 (nS L) [.s] (R0.ci L 2 j) (R0.ci L 1002 j):=by
 have c1:ρ.ci 2 2 j=R0.ci L 2 j:=h.ci 2 j M
 have c2:ρ.ci 2 1002 j=R0.ci L 1002 j:=h.ci 1002 j M
 rw[c1,c2]
 unfold j0
 refine List.map_congr_left fun e F => ?_
 have F:e<(R0.ci L 1002 j).toNat:=List.mem_range.1 F
 obtain⟨k1,k2⟩:=o.k j M
 have hf:e<bX:=by
  have:bX=9223372036854775808:=rfl
  omega
 have ho:=o.o j M
 have qP:((e:Int)+R0.ci L 2 j).toNat=e+j*bX:=by rw[ho,<-Int.natCast_add,Int.toNat_natCast]
 obtain⟨f1,f2⟩:=T2 (j:=j) hf
 rw[qP]
 have hp:=h.n (e+j*bX) (by rw[f1];exact M) (by rw[f1,f2];omega)
 simp only[bR,hp]
theorem P' {R0 ρ:aa} (h:z1 R0 L ρ) (o:uD R0 L) {j:Nat} (M:j<R0.len L):dx ρ 2 0 hc j=dx R0 L 0 (ow (nS L)) j:=by
 have ci:∀k,ρ.ci 2 k j=R0.ci L k j:=fun k=>h.ci k j M
 have cs:∀k,k<79->ρ.cs 2 k j=R0.cs L k j:=fun k u=>h.cs k j M u
 have cb:∀k,ρ.cb 2 k j=R0.cb L k j:=fun k=>h.cb k j M
 have u:=arc h o M
 rw[ci,ci]at u
 have s3:=cs 3 (by decide);have s38:=cs 38 (by decide);have s39:=cs 39 (by decide);have s53:=cs 53 (by decide);have s54:=cs 54 (by decide)
 simp only[ow,hc,List.set,kI,vP,th,dx,qB,Nat.reduceAdd,u,s3,s38,s39,s53,s54,ci,cb]
theorem arb {R0 ρ:aa} (h:z1 R0 L ρ) (o:uD R0 L):fX.I ρ=(Zn L).I R0:=by
 show AV.ro 79 (fW ρ (.len 2) 2 hc) false=AV.ro 79 (fW R0 (.len L) L (ow (nS L))) false
 congr 1
 unfold fW
 have e1:((U.len 2).I ρ).toNat=R0.len L:=by show((ρ.len 2:Int)).toNat=_;rw[h.len];exact Int.toNat_natCast _
 have e2:((U.len L).I R0).toNat=R0.len L:=Int.toNat_natCast _
 rw[e1,e2]
 exact List.map_congr_left fun j M=>P' h o (List.mem_range.1 M)
def isStr:Option Nk->Bool
 | some (.f .s)=>true
 | _=>false
theorem arK:((List.range 79).all fun k => !isStr hc[k]? || (Nat.beq k 3||(Nat.beq k 38||(Nat.beq k 39||(Nat.beq k 53||Nat.beq k 54)))))=true:=by kernel_rfl
theorem VZ (S:Nat):(ow S).length=79:=by unfold ow;rw[List.length_set];rfl
theorem ahb (k S:Nat):isStr (ow S)[k]? = isStr hc[k]? := by
 unfold ow
 rw[List.getElem?_set]
 split
 ·rename_i h;subst h;rfl
 ·rfl
theorem wB:reachBytes<=140737488355327:=by decide
theorem acP {aj:World} {n:Nat} {ds:List Value} (h:gr Tryz.prog aj n 51 ds) {k:Nat} (u:k=3\/k=38\/k=39\/k=53\/k=54) {s:ByteArray} (hs:ds[k]? = some (.string s)):s.size<=140737488355327:=by
 have one:∀(m:Nat) (l:List Value),gr Tryz.prog aj m 9 l->l=[.string s]->s.size<=140737488355327:=fun m l O e=>Nat.le_trans (Iu O (by kernel_rfl) s e) wB
 have st:∀(l:List Value) (o:Nat),l[o]? = some (.string s)->(l.drop o).take 1=[.string s]:=fun l o ho=>by
  obtain⟨aT,F⟩:=List.getElem?_eq_some_iff.1 ho
  rw[List.drop_eq_getElem_cons aT,F];rfl
 have sub:∀(o z i:Nat),i<z->((ds.drop o).take z)[i]? = ds[o+i]? := fun o z i hi=>by rw[List.getElem?_take,if_pos hi,List.getElem?_drop]
 rcases u with rfl | rfl | rfl | rfl | rfl
 ·obtain⟨m1,A⟩:=j1 h (i:=1) (t':=27) (o:=1) (z:=4) (by kernel_rfl)
  obtain⟨m2,E⟩:=j1 A (i:=2) (t':=9) (o:=2) (z:=1) (by kernel_rfl)
  exact one m2 _ E (st _ 2 (by rw[sub 1 4 2 (by decide)];exact hs))
 ·obtain⟨m1,A⟩:=j1 h (i:=2) (t':=49) (o:=5) (z:=74) (by kernel_rfl)
  obtain⟨m2,E⟩:=j1 A (i:=9) (t':=45) (o:=27) (z:=20) (by kernel_rfl)
  obtain⟨rt,h3⟩:=j1 E (i:=2) (t':=9) (o:=6) (z:=1) (by kernel_rfl)
  refine one rt _ h3 (st _ 6 ?_)
  rw[List.getElem?_take,if_pos (by decide),List.getElem?_drop,sub 5 74 33 (by decide)];exact hs
 ·obtain⟨m1,A⟩:=j1 h (i:=2) (t':=49) (o:=5) (z:=74) (by kernel_rfl)
  obtain⟨m2,E⟩:=j1 A (i:=9) (t':=45) (o:=27) (z:=20) (by kernel_rfl)
  obtain⟨rt,h3⟩:=j1 E (i:=3) (t':=9) (o:=7) (z:=1) (by kernel_rfl)
  refine one rt _ h3 (st _ 7 ?_)
  rw[List.getElem?_take,if_pos (by decide),List.getElem?_drop,sub 5 74 34 (by decide)];exact hs
 ·obtain⟨m1,A⟩:=j1 h (i:=2) (t':=49) (o:=5) (z:=74) (by kernel_rfl)
  obtain⟨m2,E⟩:=j1 A (i:=11) (t':=9) (o:=48) (z:=1) (by kernel_rfl)
  exact one m2 _ E (st _ 48 (by rw[sub 5 74 48 (by decide)];exact hs))
 ·obtain⟨m1,A⟩:=j1 h (i:=2) (t':=49) (o:=5) (z:=74) (by kernel_rfl)
  obtain⟨m2,E⟩:=j1 A (i:=12) (t':=9) (o:=49) (z:=1) (by kernel_rfl)
  exact one m2 _ E (st _ 49 (by rw[sub 5 74 49 (by decide)];exact hs))
theorem R4 {aj:World} {n:Nat} {ds:List Value} (h:gr Tryz.prog aj n 51 ds) {v:Value} (R:ds[2]? = some v):∃m,gr Tryz.prog aj m 25 [v]:=by
 obtain⟨m1,A⟩:=j1 h (i:=1) (t':=27) (o:=1) (z:=4) (by kernel_rfl)
 obtain⟨m2,E⟩:=j1 A (i:=1) (t':=25) (o:=1) (z:=1) (by kernel_rfl)
 refine⟨m2,?_⟩
 have e:(((ds.drop 1).take 4).drop 1).take 1=[v]:=by
  have ho:((ds.drop 1).take 4)[1]? = some v:=by rw[List.getElem?_take,if_pos (by decide),List.getElem?_drop];exact R
  obtain⟨aT,F⟩:=List.getElem?_eq_some_iff.1 ho
  rw[List.drop_eq_getElem_cons aT,F];rfl
 rw[e]at E
 exact E
theorem ard {aj:World} {cells vs:List Value} {zs:List Nat} {nz:Nat->Nat} {v:Value} (hL:L<64) (R:vs[L]? = some v) (hz:zs[L]? = some 79) (MA:nz (nS L)=1) (hf:qt aj (.sn (ow (nS L))) v) {n:Nat} (hs:gr Tryz.prog aj n 24 v.cells.toList):uD (b_ aj cells vs zs nz) L:=by
 obtain⟨_,ab,len,cap,rfl,_,re⟩:=hf
 obtain⟨m,MM⟩:=It hs (e:=51) (by kernel_rfl)
 have hlen:(b_ aj cells vs zs nz).len L=len:=by show mB vs[L]? = len;rw[R];rfl
 have row:∀j,j<len->∃ds v2 m',NK aj (ow (nS L)) ds/\(∀k,k<79->d' aj vs zs L k j=ds[k]?)/\gr Tryz.prog aj m' 51 ds/\ds[2]? = some v2/\Fits aj (.sl [.s]) v2/\len<=140737488355327:=fun j M=>by
  obtain⟨a,rfl,_,hr⟩:=re (by omega)
  obtain⟨ds,hn,H⟩:=hr j M
  rw[VZ]at H
  obtain⟨hw,jE⟩:=MM a len cap rfl
  have lu:Tryz.prog.cellsOf 51=79:=by kernel_rfl
  rw[lu]at jE
  have hb:Tryz.prog.bytesOf 51≥1:=by rw[show Tryz.prog.bytesOf 51=c' Tryz.prog 51 from rfl];rw[show c' Tryz.prog 51=680 by kernel_rfl];decide
  obtain⟨v2,E,h3,_⟩:=NK.get hn (k:=2) (x := .r 1 (nS L) [.s]) rfl
  refine⟨ds,v2,m,hn,fun k u => ?_,jE j M ds (by rw[NK.length hn];rfl) H,E,h3,?_⟩
  ·rw[<-H k u]
   simp only[d',R,hz]
  ·have:=wB
   have h5:len*1<=len*Tryz.prog.bytesOf 51:=Nat.mul_le_mul_left _ hb
   omega
 have hci:∀j k,k<79->(b_ aj cells vs zs nz).ci L k j=Hq j (d' aj vs zs L k j):=fun j k u=>by simp only[b_];rw[if_pos hL,if_pos (by omega)]
 have md:∀j,(b_ aj cells vs zs nz).ci L 1002 j=((mB (d' aj vs zs L 2 j):Nat):Int):=fun j=>by simp only[b_];rw[if_pos hL,if_neg (by decide)]
 refine⟨fun j M => ?_,fun j M => ?_,?_,fun j k M u => ?_,fun p hp F => ?_⟩
 ·rw[hlen]at M
  obtain⟨ds,v2,m',hn,H,x',E,⟨_,A2,l2,c2,rfl,_⟩,_⟩:=row j M
  rw[hci j 2 (by decide),H 2 (by decide),E]
  rfl
 ·rw[hlen]at M
  obtain⟨ds,v2,m',hn,H,x',E,⟨_,A2,l2,c2,rfl,_,hA⟩,_⟩:=row j M
  rw[md,H 2 (by decide),E]
  show 0<=(l2:Int)/\(l2:Int)<=140737488355327
  rcases Nat.eq_zero_or_pos l2 with h0 | h0
  ·subst h0;decide
  ·obtain⟨bj,rfl,_⟩:=hA h0
   obtain⟨m2,u⟩:=R4 x' E
   obtain⟨rt,u⟩:=It u (e:=9) (by kernel_rfl)
   have h5:=(u bj l2 c2 rfl).1
   rw[show Tryz.prog.bytesOf 9=c' Tryz.prog 9 from rfl,show c' Tryz.prog 9=16 by kernel_rfl]at h5
   have:=wB
   omega
 ·rw[hlen]
  rcases Nat.eq_zero_or_pos len with h0 | h0
  ·omega
  ·obtain⟨_,_,_,_,_,_,_,_,h⟩:=row 0 h0
   exact h
 ·rw[hlen]at M
  obtain⟨ds,v2,m',hn,H,x',_⟩:=row j M
  have e:(b_ aj cells vs zs nz).cs L k j=r8 ds[k]? := by
   rw[<-H k u]
   simp only[b_]
   rw[if_pos hL]
  rw[e]
  obtain⟨x,hx⟩:∃x,(ow (nS L))[k]? = some x:=⟨_,List.getElem?_eq_getElem (by rw[VZ];exact u)⟩
  obtain⟨Y,hu,x8⟩:=NK.get hn hx
  rw[hu]
  have fK:=List.all_eq_true.1 arK k (List.mem_range.2 u)
  rw[<-ahb k (nS L),hx]at fK
  cases x with
  | f kd =>
   cases kd with
   | i K=>obtain⟨q,rfl,_⟩:=x8;show(⟨#[]⟩:ByteArray).size<=_;decide
   | b=>obtain⟨q,rfl⟩:=x8;show(⟨#[]⟩:ByteArray).size<=_;decide
   | s =>
    obtain⟨s,rfl,_⟩:=x8
    simp only[isStr,Bool.not_true,Bool.false_or,Bool.or_eq_true]at fK
    refine acP x' (k:=k) ?_ hu
    rcases fK with h | h | h | h | h
    ·exact .inl (Nat.eq_of_beq_eq_true h)
    ·exact .inr (.inl (Nat.eq_of_beq_eq_true h))
    ·exact .inr (.inr (.inl (Nat.eq_of_beq_eq_true h)))
    ·exact .inr (.inr (.inr (.inl (Nat.eq_of_beq_eq_true h))))
    ·exact .inr (.inr (.inr (.inr (Nat.eq_of_beq_eq_true h))))
  | r z S kk =>
   obtain⟨⟨_,A2,l2,c2,rfl,_⟩,_⟩:=x8
   show(⟨#[]⟩:ByteArray).size<=_;decide
 ·rw[hlen]at hp
  obtain⟨ds,v2,m',hn,H,x',E,⟨_,A2,l2,c2,rfl,_,hA⟩,_⟩:=row _ hp
  have hr:d' aj vs zs L 2 (p / bX)=some (.slice A2 l2 c2):=by rw[H 2 (by decide),E]
  rw[md,hr]at F
  have x2:((p % bX:Nat):Int)<(l2:Int):=F
  have Bv:p % bX<l2:=Int.ofNat_lt.1 x2
  obtain⟨bj,rfl,_,gH⟩:=hA (Nat.lt_of_le_of_lt (Nat.zero_le _) Bv)
  obtain⟨cs,⟨Y,r,rfl,⟨s,rfl,_⟩,mp⟩,lu⟩:=gH _ Bv
  have mp:r=[]:=mp
  subst mp
  have h0:=lu 0 (by decide)
  simp only[List.length_cons,List.length_nil,List.getElem?_cons_zero]at h0
  have e:(b_ aj cells vs zs nz).cs (nS L) 0 p=s:=by
   simp only[b_]
   rw[if_neg (show ¬64*(L+1)+2<64 by omega)]
   have:pS aj vs zs nz (nS L) 0 p=some (.string s):=by
    simp only[pS]
    rw[show nS L / 64-1=L from(show(64*(L+1)+2) / 64-1=L by omega),show nS L % 64=2 from(show(64*(L+1)+2) % 64=2 by omega),hr]
    simp only[MA]
    exact h0
   rw[this];rfl
  rw[e]
  obtain⟨m2,u⟩:=R4 x' E
  obtain⟨rt,u⟩:=It u (e:=9) (by kernel_rfl)
  have h5:=(u bj l2 c2 rfl).2 _ Bv [.string s] (by rw[show Tryz.prog.cellsOf 9=1 by kernel_rfl];rfl) (fun k aJ=>by
   rw[show Tryz.prog.cellsOf 9=1 by kernel_rfl]at aJ ⊢
   obtain rfl:k=0:=by omega
   exact h0)
  exact Nat.le_trans (Iu h5 (by kernel_rfl) s rfl) wB
end Go.Proofs.YtpdfmnhgocpkcaaGreat
namespace Go.Proofs.YtpdfmnhgocpkcaaGreat
open Go Go.Proofs.Aw Go.Proofs.Xw Go.ChangeShapes Go.WideShapes
set_option maxRecDepth 100000
structure JH (ρ:aa):Prop where
 ci:∀k,k=0\/(5<=k/\k<79)->ρ.ci 2 k (ρ.len 2)=0
 cb:∀k,ρ.cb 2 k (ρ.len 2)=false
 cs:∀k,5<=k->ρ.cs 2 k (ρ.len 2)=⟨#[]⟩
def xj:List Nk:=[kI,.r 1 257 [.s],th,kI]
structure zW (ao:aa):Prop where
 o:ao.ci 3 1 0=0
 k:0<=ao.ci 3 1001 0/\ao.ci 3 1001 0<=140737488355327
 v:(ao.cs 3 2 0).size<=140737488355327
 n:∀e:Nat,(e:Int)<ao.ci 3 1001 0->(ao.cs 257 0 e).size<=140737488355327
def fp (ao:aa) (fi:Nat->Int) (ff:Nat->Bool):aa where
 i:=fi
 b:=ff
 s:=ao.s
 len l:=if l=2 then ao.len 2 else 0
 ci l k j:=if l=2 then(if j<ao.len 2 then ao.ci 2 k j else if j=ao.len 2 then(if k=1 then ao.ci 3 0 0 else if k=2 then((ao.len 2*bX:Nat):Int)else if k=1002 then ao.ci 3 1001 0 else if k=4 then ao.ci 3 3 0 else 0)else 0)else 0
 cb _ k j:=if j<ao.len 2 then ao.cb 2 k j else false
 cs l k j:=if l=2 then(if j<ao.len 2 then(if k<79 then ao.cs 2 k j else⟨#[]⟩)else if j=ao.len 2/\k=3 then ao.cs 3 2 0 else⟨#[]⟩)else if j / bX<ao.len 2 then(if((j % bX:Nat):Int)<ao.ci 2 1002 (j / bX)then ao.cs 194 0 j else⟨#[]⟩)else if j / bX=ao.len 2/\((j % bX:Nat):Int)<ao.ci 3 1001 0 then ao.cs 257 0 (j % bX)else⟨#[]⟩
 ct:=kN
section
variable {ao:aa} {fi:Nat->Int} {ff:Nat->Bool}
theorem Ab (k j:Nat):(fp ao fi ff).ci 2 k j=if j<ao.len 2 then ao.ci 2 k j else if j=ao.len 2 then(if k=1 then ao.ci 3 0 0 else if k=2 then((ao.len 2*bX:Nat):Int)else if k=1002 then ao.ci 3 1001 0 else if k=4 then ao.ci 3 3 0 else 0)else 0:=rfl
theorem Ev (k j:Nat):(fp ao fi ff).cs 2 k j=if j<ao.len 2 then(if k<79 then ao.cs 2 k j else⟨#[]⟩)else if j=ao.len 2/\k=3 then ao.cs 3 2 0 else⟨#[]⟩:=rfl
theorem JX (j:Nat):(fp ao fi ff).cs 194 0 j=if j / bX<ao.len 2 then(if((j % bX:Nat):Int)<ao.ci 2 1002 (j / bX)then ao.cs 194 0 j else⟨#[]⟩)else if j / bX=ao.len 2/\((j % bX:Nat):Int)<ao.ci 3 1001 0 then ao.cs 257 0 (j % bX)else⟨#[]⟩:=rfl
theorem adb:z1 ao 2 (fp ao fi ff):=⟨rfl,fun k j h=>by rw[Ab,if_pos h],fun k j h=>by show(if j<ao.len 2 then ao.cb 2 k j else false)=_;rw[if_pos h],fun k j h u=>by rw[Ev,if_pos h,if_pos u],fun j A E=>by rw[JX,if_pos A,if_pos E]⟩
theorem ade (o:uD ao 2) (a:zW ao):nP (fp ao fi ff):=by
 have e0:(⟨#[]⟩:ByteArray).size<=140737488355327:=by decide
 refine⟨o.l,fun j => ?_,fun k j => ?_,fun j => ?_⟩
 ·rw[Ab]
  split
  ·rename_i M;exact o.k j M
  ·split
   ·rw[if_neg (by decide),if_neg (by decide),if_pos rfl];exact a.k
   ·decide
 ·rw[Ev]
  split
  ·rename_i M
   split
   ·rename_i u;exact o.s j k M u
   ·exact e0
  ·split
   ·exact a.v
   ·exact e0
 ·rw[JX]
  split
  ·rename_i M
   split
   ·rename_i u;exact o.n j M u
   ·exact e0
  ·split
   ·rename_i M;exact a.n _ M.2
   ·exact e0
theorem adf (j:Nat) (M:(fp ao fi ff).len 2<j):(fp ao fi ff).ci 2 1002 j=0:=by
 have M:ao.len 2<j:=M
 rw[Ab,if_neg (by omega),if_neg (by omega)]
theorem ac6:JH (fp ao fi ff):=by
 have e:(fp ao fi ff).len 2=ao.len 2:=rfl
 refine⟨fun k u => ?_,fun k => ?_,fun k u => ?_⟩
 ·rw[e,Ab,if_neg (Nat.lt_irrefl _),if_pos rfl,if_neg (by omega),if_neg (by omega),if_neg (by omega),if_neg (by omega)]
 ·rw[e]
  show(if ao.len 2<ao.len 2 then ao.cb 2 k (ao.len 2)else false)=false
  rw[if_neg (Nat.lt_irrefl _)]
 ·rw[e,Ev,if_neg (Nat.lt_irrefl _),if_neg (by omega)]
theorem ac8 (a:zW ao):X.af (fp ao fi ff) (((iu 2 (.len 2) 0 hc).drop 1).take 4)=X.af ao (iu 3 (.lit 0) 0 xj):=by
 rw[X.xy,X.qL,qD,qD,show((U.len 2).I (fp ao fi ff)).toNat=ao.len 2 from Int.toNat_natCast _,show((U.lit 0).I ao).toNat=0 from rfl]
 have c:∀k,(fp ao fi ff).ci 2 k (ao.len 2)=if k=1 then ao.ci 3 0 0 else if k=2 then((ao.len 2*bX:Nat):Int)else if k=1002 then ao.ci 3 1001 0 else if k=4 then ao.ci 3 3 0 else 0:=fun k=>by rw[Ab,if_neg (Nat.lt_irrefl _),if_pos rfl]
 have u:j0 (fp ao fi ff) 194 [.s] ((fp ao fi ff).ci 2 2 (ao.len 2)) ((fp ao fi ff).ci 2 1002 (ao.len 2))=j0 ao 257 [.s] (ao.ci 3 1 0) (ao.ci 3 1001 0):=by
  rw[c,c,if_neg (by decide),if_pos rfl,if_neg (by decide),if_neg (by decide),if_pos rfl,a.o]
  unfold j0
  refine List.map_congr_left fun e F => ?_
  have F:e<(ao.ci 3 1001 0).toNat:=List.mem_range.1 F
  obtain⟨k1,k2⟩:=a.k
  have hf:e<bX:=by
   have:bX=9223372036854775808:=rfl
   omega
  obtain⟨f1,f2⟩:=T2 (j:=ao.len 2) hf
  have qP:((e:Int)+((ao.len 2*bX:Nat):Int)).toNat=e+ao.len 2*bX:=by rw[<-Int.natCast_add,Int.toNat_natCast]
  have e0:((e:Int)+0).toNat=e:=by omega
  rw[qP,e0]
  have hp:(fp ao fi ff).cs 194 0 (e+ao.len 2*bX)=ao.cs 257 0 e:=by
   rw[JX,f1,f2,if_neg (Nat.lt_irrefl _),if_pos ⟨rfl,by omega⟩]
  simp only[bR,hp]
 have s3:(fp ao fi ff).cs 2 3 (ao.len 2)=ao.cs 3 2 0:=by rw[Ev,if_neg (Nat.lt_irrefl _),if_pos ⟨rfl,rfl⟩]
 show [AV.sc (.int .i64 ((fp ao fi ff).ci 2 1 (ao.len 2))),AV.ro 1 (j0 (fp ao fi ff) 194 [.s] ((fp ao fi ff).ci 2 2 (ao.len 2)) ((fp ao fi ff).ci 2 1002 (ao.len 2))) false,AV.sc (.string ((fp ao fi ff).cs 2 3 (ao.len 2))),AV.sc (.int .i64 ((fp ao fi ff).ci 2 4 (ao.len 2)))]=[AV.sc (.int .i64 (ao.ci 3 0 0)),AV.ro 1 (j0 ao 257 [.s] (ao.ci 3 1 0) (ao.ci 3 1001 0)) false,AV.sc (.string (ao.cs 3 2 0)),AV.sc (.int .i64 (ao.ci 3 3 0))]
 rw[u,s3,c 1,c 4]
 rfl
end
theorem ada {aj:World} {cells vs:List Value} {zs:List Nat} {nz:Nat->Nat} {v:Value} (R:vs[3]? = some v) (hz:zs[3]? = some 4) (MA:nz 257=1) (hf:qt aj (.ah xj) v) {n:Nat} (hs:gr Tryz.prog aj n 27 v.cells.toList):zW (b_ aj cells vs zs nz):=by
 obtain⟨cs,rfl,hn⟩:=hf
 have hr:∀k,d' aj vs zs 3 k 0=cs.toList[k]? := fun k=>by simp only[d',R,hz,Array.getElem?_toList]
 have hs:gr Tryz.prog aj n 27 cs.toList:=hs
 obtain⟨v1,A,h3,h4,_⟩:=NK.get hn (k:=1) (x := .r 1 257 [.s]) rfl
 obtain⟨v2,E,s2,rfl,_⟩:=NK.get hn (k:=2) (x := .f .s) rfl
 obtain⟨_,A2,l2,c2,rfl,_,hA⟩:=h3
 have st:∀(l:List Value) (o:Nat) (Y:Value),l[o]? = some Y->(l.drop o).take 1=[Y]:=fun l o Y ho=>by
  obtain⟨aT,F⟩:=List.getElem?_eq_some_iff.1 ho
  rw[List.drop_eq_getElem_cons aT,F];rfl
 obtain⟨m1,g1⟩:=j1 hs (i:=1) (t':=25) (o:=1) (z:=1) (by kernel_rfl)
 rw[st _ _ _ A]at g1
 obtain⟨m2,g2⟩:=It g1 (e:=9) (by kernel_rfl)
 obtain⟨rt,g3⟩:=j1 hs (i:=2) (t':=9) (o:=2) (z:=1) (by kernel_rfl)
 rw[st _ _ _ E]at g3
 have c1001:(b_ aj cells vs zs nz).ci 3 1001 0=(l2:Int):=by
  simp only[b_]
  rw[if_pos (by decide),if_neg (by decide),hr,A]
  rfl
 refine⟨?_,?_,?_,fun e F => ?_⟩
 ·simp only[b_]
  rw[if_pos (by decide),if_pos (by decide),hr,A]
  rfl
 ·rw[c1001]
  rcases Nat.eq_zero_or_pos l2 with h0 | h0
  ·subst h0;decide
  ·obtain⟨bj,rfl,_⟩:=hA h0
   have h5:=(g2 bj l2 c2 rfl).1
   rw[show Tryz.prog.bytesOf 9=c' Tryz.prog 9 from rfl,show c' Tryz.prog 9=16 by kernel_rfl]at h5
   have:=wB
   omega
 ·have:(b_ aj cells vs zs nz).cs 3 2 0=s2:=by
   simp only[b_]
   rw[if_pos (by decide),hr,E]
   rfl
  rw[this]
  exact Nat.le_trans (Iu g3 (by kernel_rfl) s2 rfl) wB
 ·rw[c1001]at F
  have F:e<l2:=Int.ofNat_lt.1 F
  obtain⟨bj,rfl,_,gH⟩:=hA (Nat.lt_of_le_of_lt (Nat.zero_le _) F)
  obtain⟨ds,⟨Y,r,rfl,⟨s,rfl,_⟩,mp⟩,lu⟩:=gH _ F
  have mp:r=[]:=mp
  subst mp
  have h0:=lu 0 (by decide)
  simp only[List.length_cons,List.length_nil,List.getElem?_cons_zero]at h0
  have U4:e<bX:=by
   have hm:mB (some (Value.slice (some bj) l2 c2))<=maxLen:=h4
   have hm:l2<=maxLen:=hm
   have e1:maxLen=9223372036854775807:=rfl
   have e2:bX=9223372036854775808:=rfl
   omega
  have:(b_ aj cells vs zs nz).cs 257 0 e=s:=by
   simp only[b_]
   rw[if_neg (by decide)]
   have:pS aj vs zs nz 257 0 e=some (.string s):=by
    simp only[pS]
    rw[show 257 / 64-1=3 from rfl,show 257 % 64=1 from rfl,Nat.div_eq_of_lt U4,hr,A]
    simp only[MA,Nat.mod_eq_of_lt U4]
    exact h0
   rw[this];rfl
  rw[this]
  have h5:=(g2 bj l2 c2 rfl).2 _ F [.string s] (by rw[show Tryz.prog.cellsOf 9=1 by kernel_rfl];rfl) (fun k aJ=>by
   rw[show Tryz.prog.cellsOf 9=1 by kernel_rfl]at aJ ⊢
   obtain rfl:k=0:=by omega
   exact h0)
  exact Nat.le_trans (Iu h5 (by kernel_rfl) s rfl) wB
end Go.Proofs.YtpdfmnhgocpkcaaGreat
namespace Go.Proofs.YtpdfmnhgocpkcaaGreat
open Go Go.Proofs.Aw Go.Proofs.Xw
set_option maxRecDepth 100000
def y7 (ρ:aa):aa:={ ρ with i:=fun k=>if k=700 then ρ.len 2 else ρ.i k }
theorem apn (ρ:aa):aA 700 ρ (y7 ρ) where
 i k u:=by
  show ρ.i k=if k=700 then(ρ.len 2:Int)else ρ.i k
  rw[if_neg (by omega)]
 b _ _:=rfl
 s _ _:=rfl
 len _ _:=rfl
 ci _ _:=rfl
 cb _ _:=rfl
 cs _ _:=rfl
 ct _ _:=rfl
theorem acO {ρ:aa} (h:JH ρ):X.af (y7 ρ) [oM]=X.af ρ [uG]:=by
 show [AV.ro 79 [X.af (y7 ρ) (iu 2 (.var 700) 0 hc)] true]=[AV.ro 79 [X.af ρ (xn 0::((mK.drop 1).take 4++Ju))] true]
 have e:X.af (y7 ρ) (iu 2 (.var 700) 0 hc)=X.af ρ (xn 0::((mK.drop 1).take 4++Ju)):=by
  rw[qD]
  have e0:((U.var 700).I (y7 ρ)).toNat=ρ.len 2:=Int.toNat_natCast _
  have e1:X.af ρ ((mK.drop 1).take 4)=((dx ρ 2 0 hc (ρ.len 2)).drop 1).take 4:=by
   unfold mK
   rw[X.xy,X.qL,qD,show((U.len 2).I ρ).toNat=ρ.len 2 from Int.toNat_natCast _]
  rw[e0]
  show dx ρ 2 0 hc (ρ.len 2)=X.I ρ (xn 0)::X.af ρ ((mK.drop 1).take 4++Ju)
  rw[X.gf,e1]
  have c0:=h.ci 0 (.inl rfl)
  have c5:∀k,5<=k->k<79->ρ.ci 2 k (ρ.len 2)=0:=fun k A E=>h.ci k (.inr ⟨A,E⟩)
  simp only[hc,kI,vP,th,dx,qB,Nat.reduceAdd,c0,h.cb,c5 5 (by decide) (by decide),c5 6 (by decide) (by decide),c5 7 (by decide) (by decide),c5 8 (by decide) (by decide),c5 9 (by decide) (by decide),c5 10 (by decide) (by decide),c5 11 (by decide) (by decide),c5 12 (by decide) (by decide),c5 13 (by decide) (by decide),c5 14 (by decide) (by decide),c5 15 (by decide) (by decide),c5 16 (by decide) (by decide),c5 17 (by decide) (by decide),c5 18 (by decide) (by decide),c5 19 (by decide) (by decide),c5 20 (by decide) (by decide),c5 21 (by decide) (by decide),c5 22 (by decide) (by decide),c5 23 (by decide) (by decide),c5 24 (by decide) (by decide),c5 25 (by decide) (by decide),c5 26 (by decide) (by decide),c5 27 (by decide) (by decide),c5 28 (by decide) (by decide),c5 30 (by decide) (by decide),c5 31 (by decide) (by decide),c5 32 (by decide) (by decide),c5 33 (by decide) (by decide),c5 34 (by decide) (by decide),c5 35 (by decide) (by decide),c5 36 (by decide) (by decide),c5 37 (by decide) (by decide),c5 41 (by decide) (by decide),c5 42 (by decide) (by decide),c5 43 (by decide) (by decide),c5 44 (by decide) (by decide),c5 45 (by decide) (by decide),c5 46 (by decide) (by decide),c5 47 (by decide) (by decide),c5 48 (by decide) (by decide),c5 49 (by decide) (by decide),c5 50 (by decide) (by decide),c5 51 (by decide) (by decide),c5 57 (by decide) (by decide),c5 58 (by decide) (by decide),c5 59 (by decide) (by decide),c5 60 (by decide) (by decide),c5 61 (by decide) (by decide),c5 62 (by decide) (by decide),c5 63 (by decide) (by decide),c5 64 (by decide) (by decide),c5 65 (by decide) (by decide),c5 66 (by decide) (by decide),c5 67 (by decide) (by decide),c5 68 (by decide) (by decide),c5 69 (by decide) (by decide),c5 70 (by decide) (by decide),c5 71 (by decide) (by decide),c5 72 (by decide) (by decide),c5 73 (by decide) (by decide),c5 74 (by decide) (by decide),c5 75 (by decide) (by decide),c5 76 (by decide) (by decide),c5 77 (by decide) (by decide),c5 78 (by decide) (by decide),h.cs 38 (by decide),h.cs 39 (by decide),h.cs 53 (by decide),h.cs 54 (by decide)]
  rfl
 rw[e]
theorem adG:((List.range 10).all fun i=>(aY i).all fun p=>p.1.au 600)=true:=by kernel_rfl
theorem ac7 {ρ:aa} (hS:nP ρ) (hz:∀j,ρ.len 2<j->ρ.ci 2 1002 j=0) (h0:JH ρ) (av1:ρ.len 460=0):Cy 9 (X.af ρ ka) (.sc (.bool true)):=by
 obtain⟨b,hm,hb⟩:=aiH hS
 obtain⟨b2,dW,hX⟩:=aiP (hS.bC (apn ρ) (by decide))
 rw[acO h0]at dW
 have hT:eP 460 iE ρ:=fun j k t M=>by omega
 have hN:∀f i,eS f gA=some i->a5 Tryz.prog ρ i.ntmps ([]:List bo) i.body:=fun _ _ _=>a5.nil _ _ _ _
 have hG:∀k∈([]:List GK),cy Tryz.prog ρ k:=List.forall_mem_nil _
 cases b with
 | true =>
  cases b2 with
  | true=>exact B' (As hm dW hN hG) hT (J.bq ρ) aoD
  | false=>exact B' (As hm dW hN hG) hT (J.bq ρ) aoC
 | false =>
  cases b2 with
  | true=>exact B' (As hm dW hN hG) hT (J.bq ρ) aoE
  | false =>
   obtain⟨A,E⟩:=hb rfl
   have h3:ρ.ci 2 1002 (ρ.len 2)<=250:=by
    have:=hX rfl
    unfold jQ at this
    rw[show((y7 ρ).i 700).toNat=ρ.len 2 from Int.toNat_natCast _]at this
    exact this
   have hK:Key ρ:=fun j=>by
    by_cases M:j<ρ.len 2
    ·exact⟨(hS.k j).1,E j M⟩
    ·by_cases gE:j=ρ.len 2
     ·subst gE;exact⟨(hS.k _).1,h3⟩
     ·rw[hz j (by omega)];decide
   have eV:J.ok ρ [(.lt (.lit 250) (.len 2),false)]:=J.aw (cN (a := .lit 250) (b := .len 2) (show ¬(250:Int)<ρ.len 2 by omega)) (J.bq ρ)
   refine aoB (fun B h u=>B' (As hm dW hN hG) hT u h) XV _ aoF eV fun hp => ?_
   have O:J.ok ρ di:=by
    have v4:=pq hp 8 rfl
    have v43:=m6 hp 9 rfl
    have v3:=pq hp 7 rfl
    have v4:0<=ρ.i 4:=v4
    have v43:ρ.i 4<ρ.i 3:=of_decide_eq_true v43
    have v3:ρ.i 3<=4:=v3
    exact J.aw (m6 hp 0 rfl) (J.aw (m6 hp 1 rfl) (J.aw (m6 hp 2 rfl) (J.aw (m6 hp 3 rfl) (J.aw (m6 hp 8 rfl) (J.aw (cN (a := .lit 3) (b := .var 4) (show ¬(3:Int)<ρ.i 4 by omega)) eV)))))
   have FV:J.ok ρ V7:=dZ O (J.aw (m6 hp 4 rfl) (J.aw (m6 hp 5 rfl) (J.aw (m6 hp 6 rfl) (J.aw (m6 hp 7 rfl) (J.aw (m6 hp 9 rfl) (J.bq ρ))))))
   obtain⟨i,ar,ah,hI,F,hL⟩:=loop ⟨agL,Di,aaO⟩ (SV Di) hK O
   obtain⟨G,t6,_,H⟩:=JZ (SV Di) hK hI
   have mR:aA 400 ρ G:=ah.trans (t6.le (by decide))
   have e1:X.af G [fX]=X.af ρ [fX]:=(X.fI mR [fX] (by kernel_rfl)).symm
   have e2:X.af G ka=X.af ρ ka:=(X.fI mR ka (by kernel_rfl)).symm
   have e3:X.af G [uG]=X.af ρ [uG]:=(X.fI mR [uG] (by kernel_rfl)).symm
   obtain⟨g1,g2⟩:=FM hI
   have afJ:ar.i 400=ar.len 2:=by
    have rx:=g1.mQ;have q1:=g1.bp
    have F:¬ar.i 400<(ar.len 2:Int):=of_decide_eq_false F
    omega
   have is:eP 460 iE G:=fun j k t M aJ=>by
    have:=hI.ty j k t (by rw[t6.len 460 (by decide)];exact M) aJ
    rw[t6.ct 460 (by decide)]at this
    exact this
   have a:At G i:=⟨by rw[e1];exact hm,by rw[e3];exact dW,is,ahR t6 hI.lt afJ hL⟩
   have od:J.ok ar (aY i):=by
    refine dZ ?_ (dZ (gz ah (by kernel_rfl) FV) (dZ (Yz hK hI.ah) ?_))
    ·split
     ·exact J.bq ar
     ·rename_i ay
      have hi:1<=i:=by
       rcases Nat.eq_zero_or_pos i with h | h
       ·subst h;exact absurd rfl ay
       ·exact h
      have q1:=g2 hi
      have q2:=g1.bp
      have q3:=g1.bj
      exact J.aw (cN (a := .lit 300) (b := .len 460) (show ¬(300:Int)<ar.len 460 by omega)) (J.bq ar)
    ·unfold X2
     split
     ·rename_i C hC;exact hI.AY C hC
     ·exact J.bq ar
   have:=ar6 a hI.lt (gz t6 (List.all_eq_true.1 adG i (List.mem_range.2 hI.lt)) od) H
   rw[e2]at this
   exact this
end Go.Proofs.YtpdfmnhgocpkcaaGreat
namespace Go.Proofs.YtpdfmnhgocpkcaaGreat
open Go Go.Proofs.Aw Go.Proofs.Xw Go.ChangeShapes Go.WideShapes
set_option maxRecDepth 100000
def Nz (n:Nat):List Kd:=List.replicate n (.i .i64)
def jh:List gS:=[.flat (Nz 4) true,.flat [.i .i64] false,.sn hc,.ah xj,.flat (Nz 10++[.b]++Nz 2) true]
def CX (_:Nat):Nat:=1
def Pz:List X:=[.agg (vi 0 4),xi 4,fX,.agg (iu 3 (.lit 0) 0 xj),.agg (vi 5 10++[xb 15]++vi 16 2)]
theorem apC:jg 0 0 jh=Pz:=by kernel_rfl
theorem apD:Iz Tryz.prog 0 Tryz.f9.params.toList jh:=⟨by kernel_rfl,by kernel_rfl,by kernel_rfl,by kernel_rfl,by kernel_rfl,trivial⟩
def tL (ao:aa):aa:=fp ao (fun k=>if k<15 then ao.i k else ao.i (k+1)) fun _=>ao.b 15
theorem apA {ao:aa} (o:uD ao 2) (a:zW ao):X.af (tL ao) ka=X.af ao Pz:=by
 have e1:X.af (tL ao) ka=[X.I (tL ao) (.agg GN),X.I (tL ao) (xi 4),fX.I (tL ao),AV.agg (X.af (tL ao) (((iu 2 (.len 2) 0 hc).drop 1).take 4)),X.I (tL ao) (.agg (SH 5 0))]:=rfl
 have e2:X.af ao Pz=[X.I ao (.agg (vi 0 4)),X.I ao (xi 4),(Zn 2).I ao,AV.agg (X.af ao (iu 3 (.lit 0) 0 xj)),X.I ao (.agg (vi 5 10++[xb 15]++vi 16 2))]:=rfl
 unfold tL at e1 ⊢
 rw[e1,e2,arb adb o,ac8 a]
 rfl
theorem ac9 (aj:World) (vs:List Value) (O:jh.length=vs.length) (hf:∀(i:Nat) (sh:gS) (v:Value),jh[i]? = some sh->vs[i]? = some v->qt aj sh v) (_hs:JI Tryz.prog Tryz.f9.params.toList vs) (hb:Ei Tryz.prog aj Tryz.f9.params.toList vs):CY Tryz.prog 0 9 (X.af (b_ aj (jW jh vs) vs (jh.map oZ) CX) (jg 0 0 jh)) [] (.sc (.bool true)) []:=by
 rw[apC]
 match vs,O with
 | [Do,v1,v2,v3,v4],_ =>
  obtain⟨n,hn⟩:=hb 2 24 v2 (by kernel_rfl) rfl
  obtain⟨m,hm⟩:=hb 3 27 v3 (by kernel_rfl) rfl
  have o:uD (b_ aj (jW jh [Do,v1,v2,v3,v4]) [Do,v1,v2,v3,v4] (jh.map oZ) CX) 2:=ard (v:=v2) (by decide) rfl rfl rfl (hf 2 (.sn hc) v2 rfl rfl) hn
  have a:zW (b_ aj (jW jh [Do,v1,v2,v3,v4]) [Do,v1,v2,v3,v4] (jh.map oZ) CX):=ada (v:=v3) rfl rfl rfl (hf 3 (.ah xj) v3 rfl rfl) hm
  rw[<-apA o a]
  exact(ac7 (ade o a) adf ac6 rfl).2 0 []
end Go.Proofs.YtpdfmnhgocpkcaaGreat
