/- Parts of the proof, one behind the other. -/
import Derived.Test.YtpdfmnhgocpkcaaGreatTK3
import Derived.Test.YtpdfmnhgocpkcaaGreatTK6
namespace Go.Proofs.YtpdfmnhgocpkcaaGreat
open Go Go.Proofs.Aw Go.Proofs.Xw
set_option maxRecDepth 100000
def su (j:Nat):AL:=(List.range 6).foldr (fun k r => .i (.cl 472 (2+k) (.lit j)) r) (.s (.cl 472 8 (.lit j)) (.s (.cl 472 9 (.lit j)) (.b (.cl 472 10 (.lit j)) ((List.range 11).foldr (fun k r => .i (.cl 472 (11+k) (.lit j)) r) .nil))))
theorem ru (k:Nat) (h:k<9):405+k∈jM:=by
 rcases(show k=0\/k=1\/k=2\/k=3\/k=4\/k=5\/k=6\/k=7\/k=8 by omega)with rfl | rfl | rfl | rfl | rfl | rfl | rfl | rfl | rfl<;>decide
theorem yy (k:Nat) (h:k<9):405+k∈my:=List.mem_append_left _ (ru k h)
structure TI (ρ:aa):Prop where
 n1:1<=ρ.len 470
 n6:ρ.len 470<=6
 ky:∀j:Nat,j<ρ.len 470->1<=(ρ.cs 470 0 j).size/\(ρ.cs 470 0 j).size<=16
 wg:0<=ρ.i 440
 r1:1<=ρ.i 443
 rn:ρ.i 440+ρ.i 443=ρ.len 474
 dT:∀k:Nat,k<9->0<=ρ.i (405+k)
 l6:ρ.len 474<=6
 td:∀j:Nat,j<ρ.len 474->0<=ρ.ci 474 0 j/\ρ.ci 474 0 j<ρ.len 470
 z4:∀j:Nat,j<ρ.len 470->ρ.cb 472 1 j=true->UF 2 ((su j).I ρ) 0=1
theorem xK {ρ:aa} {a b:U} (h:a.I ρ<b.I ρ) {B:J} (u:J.ok ρ B):J.ok ρ ((.lt a b,true)::B):=J.aw (decide_eq_true h) u
theorem fF {ρ:aa} {a b:U} (h:b.I ρ<=a.I ρ) {B:J} (u:J.ok ρ B):J.ok ρ ((.lt a b,false)::B):=J.aw (decide_eq_false (by omega)) u
theorem TI.tr {ρ:aa} (h:TI ρ):J.ok ρ o6:=by
 have q1:=h.n1;have q2:=h.n6;have q3:=h.wg;have q4:=h.r1;have q5:=h.rn;have q6:=h.l6
 unfold o6
 exact fF (by show(1:Int)<=ρ.len 470;omega) (fF (by show(ρ.len 470:Int)<=6;omega) (fF (by show ρ.i 440+ρ.i 443<=(ρ.len 474:Int);omega) (fF (by show(0:Int)<=ρ.i 440;omega) (fF (by show ρ.i 440<=5;omega) (xK (by show ρ.i 440<(ρ.len 474:Int);omega) (fF (by show(1:Int)<=ρ.i 443;omega) (fF (by show ρ.i 443<=6;omega) (J.bq ρ))))))))
theorem TI.key {ρ:aa} (h:TI ρ) {e:U} {j:Nat} (F:e.I ρ=ρ.ci 474 0 j) (M:j<ρ.len 474):J.ok ρ (kH e):=by
 obtain⟨A,E⟩:=h.td j M
 have h3:=(h.ky (ρ.ci 474 0 j).toNat (by omega)).2
 unfold kH
 refine fF (by rw[F];exact A) (xK (by rw[F];exact E) (fF ?_ (J.bq ρ)))
 show((ρ.cs 470 0 (e.I ρ).toNat).size:Int)<=16
 rw[F];omega
theorem TI.V1 {ρ:aa} (h:TI ρ):J.ok ρ (kH hv):=by
 have q3:=h.wg;have q4:=h.r1;have q5:=h.rn
 exact h.key (j:=(ρ.i 440).toNat) rfl (by omega)
theorem TI.aht {ρ:aa} (h:TI ρ) (E:2<=ρ.i 443):J.ok ρ (kH uj):=by
 have q3:=h.wg;have q5:=h.rn
 refine h.key (j:=(ρ.i 440).toNat+1) ?_ (by omega)
 show ρ.ci 474 0 ((mkAdd (.var 440) (.lit 1)).I ρ).toNat=_
 rw[fo]
 have:((U.var 440).I ρ+(U.lit 1).I ρ).toNat=(ρ.i 440).toNat+1:=by show(ρ.i 440+1).toNat=_;omega
 rw[this]
theorem R8 {G:aa} {j:Nat} {l:List AV} (hi:∀k,G.ci 472 k j=aH l[k]?) (hb:∀k,G.cb 472 k j=dS l[k]?) (hs:∀k,G.cs 472 k j=cellS l[k]?) :
  (su j).I G=[.int .i64 (aH l[2]?),.int .i64 (aH l[3]?),.int .i64 (aH l[4]?),.int .i64 (aH l[5]?),.int .i64 (aH l[6]?),.int .i64 (aH l[7]?),.string (cellS l[8]?),.string (cellS l[9]?),.bool (dS l[10]?),.int .i64 (aH l[11]?),.int .i64 (aH l[12]?),.int .i64 (aH l[13]?),.int .i64 (aH l[14]?),.int .i64 (aH l[15]?),.int .i64 (aH l[16]?),.int .i64 (aH l[17]?),.int .i64 (aH l[18]?),.int .i64 (aH l[19]?),.int .i64 (aH l[20]?),.int .i64 (aH l[21]?)]:=by
 simp only[<-hi,<-hb,<-hs]
 rfl
theorem R_ {ρ G:aa} {j:Nat} (hi:∀k,G.ci 472 k j=aH ((RL.var 472 gl).row ρ j)[k]?) (hb:∀k,G.cb 472 k j=dS ((RL.var 472 gl).row ρ j)[k]?) (hs:∀k,G.cs 472 k j=cellS ((RL.var 472 gl).row ρ j)[k]?):G.cb 472 1 j=ρ.cb 472 1 j/\(su j).I G=(su j).I ρ:=by
 refine⟨hb 1,?_⟩
 rw[R8 hi hb hs]
 rfl
theorem TI.tj {ρ G:aa} {fr:Nat} {ki:List Nat} (oj:∀k,k<9->405+k∈ki) (h:TI ρ) (a:gR (iP fr ki) ρ G):TI G:=by
 obtain⟨_,⟨k1,k2⟩,_,k4⟩:=a
 have e0:=k1 440 List.mem_cons_self
 have e1:=k1 443 (List.mem_cons_of_mem _ List.mem_cons_self)
 obtain⟨l0,c0,_,s0⟩:=k2 470 List.mem_cons_self
 obtain⟨l4,dE,_,_⟩:=k2 474 (List.mem_cons_of_mem _ List.mem_cons_self)
 obtain⟨_,ci,cb,cs⟩:=k4 _ List.mem_cons_self
 refine⟨by rw[l0];exact h.n1,by rw[l0];exact h.n6,fun j M => ?_,by rw[e0];exact h.wg,by rw[e1];exact h.r1,by rw[e0,e1,l4];exact h.rn,fun k u=>by rw[k1 _ (List.mem_cons_of_mem _ (List.mem_cons_of_mem _ (oj k u)))];exact h.dT k u,by rw[l4];exact h.l6,fun j M => ?_,fun j M hb => ?_⟩
 ·rw[s0];exact h.ky j (by omega)
 ·rw[dE,l0];exact h.td j (by omega)
 ·obtain⟨g1,g2⟩:=R_ (fun k=>ci k j) (fun k=>cb k j) (fun k=>cs k j)
  rw[g2]
  exact h.z4 j (by omega) (by rw[<-g1];exact hb)
theorem R' {ρ G:aa} {ag:Bool} (hf:J.ok ρ (qU ag)) (ahq:Nat) (_h0:hv.I ρ=ahq) {j:Nat} (h:ρ.cb 472 1 j=true->UF 2 ((su j).I ρ) 0=1) (hi:∀k,G.ci 472 k j=aH ((cc ag).row ρ j)[k]?) (hb:∀k,G.cb 472 k j=dS ((cc ag).row ρ j)[k]?) (hs:∀k,G.cs 472 k j=cellS ((cc ag).row ρ j)[k]?)
  (hq:G.cb 472 1 j=true):UF 2 ((su j).I G) 0=1:=by
 by_cases M:(j:Int)=hv.I ρ
 ·have e:(cc ag).row ρ j=cd ρ (mV ag):=by
   show(if(j:Int)=hv.I ρ then cd ρ (mV ag)else(RL.var 472 gl).row ρ j)=_
   rw[if_pos M]
  rw[e]at hi hb hs
  cases ag with
  | false =>
   have A:(bV 47).I ρ=false:=hf _ List.mem_cons_self
   have E:G.cb 472 1 j=(bV 47).I ρ:=hb 1
   rw[E,A]at hq;cases hq
  | true =>
   have A:(BE.eq (.uf 2 0 dw) (.lit 1)).I ρ=true:=hf _ List.mem_cons_self
   have A:UF 2 (dw.I ρ) 0=1:=by simpa [BE.I,U.I]using A
   rw[R8 hi hb hs]
   exact A
 ·have e:(cc ag).row ρ j=(RL.var 472 gl).row ρ j:=by
   show(if(j:Int)=hv.I ρ then cd ρ (mV ag)else(RL.var 472 gl).row ρ j)=_
   rw[if_neg M]
  rw[e]at hi hb hs
  obtain⟨g1,g2⟩:=R_ hi hb hs
  rw[g2]
  exact h (by rw[<-g1];exact hq)
theorem TI.more {ρ G:aa} {fr:Nat} {ki:List Nat} {ag:Bool} (oj:∀k,k<9->405+k∈ki) (h:TI ρ) (a:gR (qw fr ki ag) ρ G):TI G:=by
 obtain⟨k0,⟨k1,k2⟩,k3,k4⟩:=a
 have E:¬ρ.i 443<2:=of_decide_eq_false (k0 _ List.mem_cons_self)
 have hf:J.ok ρ (qU ag):=fun p hp=>k0 p (List.mem_cons_of_mem _ hp)
 have e0:G.i 440=ρ.i 440+1:=k3 _ List.mem_cons_self
 have e1:G.i 443=ρ.i 443-1:=k3 _ (List.mem_cons_of_mem _ List.mem_cons_self)
 obtain⟨l0,c0,_,s0⟩:=k2 470 List.mem_cons_self
 obtain⟨l4,dE,_,_⟩:=k2 474 (List.mem_cons_of_mem _ List.mem_cons_self)
 obtain⟨_,ci,cb,cs⟩:=k4 _ List.mem_cons_self
 have q3:=h.wg;have q4:=h.r1;have q5:=h.rn
 obtain⟨t1,t2⟩:=h.td (ρ.i 440).toNat (by omega)
 refine⟨by rw[l0];exact h.n1,by rw[l0];exact h.n6,fun j M => ?_,by omega,by omega,by omega,fun k u=>by rw[k1 _ (oj k u)];exact h.dT k u,by rw[l4];exact h.l6,fun j M => ?_,fun j M hb => ?_⟩
 ·rw[s0];exact h.ky j (by omega)
 ·rw[dE,l0];exact h.td j (by omega)
 ·refine R' hf (hv.I ρ).toNat ?_ (h.z4 j (by omega)) (fun k=>ci k j) (fun k=>cb k j) (fun k=>cs k j) hb
  have:hv.I ρ=ρ.ci 474 0 (ρ.i 440).toNat:=rfl
  omega
theorem TI.IX {ρ G:aa} {ag:Bool} (h:TI ρ) (h6:ρ.len 610<=6) (hd:∀j:Nat,j<ρ.len 610->0<=ρ.ci 610 0 j/\ρ.ci 610 0 j<ρ.len 470) (a:gR (xc ag) ρ G):TI G:=by
 obtain⟨k0,⟨k1,k2⟩,k3,k4⟩:=a
 have A:¬(ρ.len 610:Int)<1:=of_decide_eq_false (k0 _ List.mem_cons_self)
 have hf:J.ok ρ (qU ag):=fun p hp=>k0 p (List.mem_cons_of_mem _ hp)
 have e0:G.i 440=0:=k3 _ List.mem_cons_self
 have e1:G.i 443=ρ.len 610:=k3 _ (List.mem_cons_of_mem _ List.mem_cons_self)
 obtain⟨l0,c0,_,s0⟩:=k2 470 List.mem_cons_self
 obtain⟨l4,dE,_,_⟩:=k4 _ List.mem_cons_self
 obtain⟨_,ci,cb,cs⟩:=k4 _ (List.mem_cons_of_mem _ List.mem_cons_self)
 have l4:G.len 474=ρ.len 610:=by rw[l4];exact Int.toNat_natCast _
 have dE:∀j,G.ci 474 0 j=ρ.ci 610 0 j:=fun j=>dE 0 j
 have q3:=h.wg;have q4:=h.r1;have q5:=h.rn
 obtain⟨t1,t2⟩:=h.td (ρ.i 440).toNat (by omega)
 refine⟨by rw[l0];exact h.n1,by rw[l0];exact h.n6,fun j M => ?_,by omega,by omega,by omega,fun k u=>by rw[k1 _ (ru k u)];exact h.dT k u,by omega,fun j M => ?_,fun j M hb => ?_⟩
 ·rw[s0];exact h.ky j (by omega)
 ·rw[dE,l0];exact hd j (by omega)
 ·refine R' hf (hv.I ρ).toNat ?_ (h.z4 j (by omega)) (fun k=>ci k j) (fun k=>cb k j) (fun k=>cs k j) hb
  have:hv.I ρ=ρ.ci 474 0 (ρ.i 440).toNat:=rfl
  omega
theorem TI.first {ρ G:aa} {fr:Nat} (h6:ρ.len 621<=6) (u:∀j:Nat,j<ρ.len 621->1<=(ρ.cs 194 0 ((j:Int)+(U.cl 2 2 (.var 400)).I ρ).toNat).size/\(ρ.cs 194 0 ((j:Int)+(U.cl 2 2 (.var 400)).I ρ).toNat).size<=16) (hd:∀j:Nat,j<ρ.len 621->ρ.ci 620 0 j=j) (a':∀k:Nat,k<9->0<=ρ.i (405+k)) (a:gR (xa fr) ρ G):TI G:=by
 obtain⟨k0,⟨k1,_⟩,k3,k4⟩:=a
 have A:¬(ρ.len 621:Int)<1:=of_decide_eq_false (k0 _ List.mem_cons_self)
 have e0:G.i 440=0:=k3 _ List.mem_cons_self
 have e1:G.i 443=ρ.len 621:=k3 _ (List.mem_cons_of_mem _ List.mem_cons_self)
 obtain⟨l0,_,_,s0⟩:=k4 _ List.mem_cons_self
 obtain⟨_,_,cb,_⟩:=k4 _ (List.mem_cons_of_mem _ List.mem_cons_self)
 obtain⟨l4,dE,_,_⟩:=k4 _ (List.mem_cons_of_mem _ (List.mem_cons_of_mem _ List.mem_cons_self))
 have l0:G.len 470=ρ.len 621:=by rw[l0];exact Int.toNat_natCast _
 have l4:G.len 474=ρ.len 621:=by rw[l4];exact Int.toNat_natCast _
 have s0:∀j:Nat,G.cs 470 0 j=ρ.cs 194 0 ((j:Int)+(U.cl 2 2 (.var 400)).I ρ).toNat:=fun j=>s0 0 j
 refine⟨by omega,by omega,fun j M => ?_,by omega,by omega,by omega,fun k u=>by rw[k1 _ (ru k u)];exact a' k u,by omega,fun j M => ?_,fun j M hb => ?_⟩
 ·rw[s0];exact u j (by omega)
 ·have dE:=dE 0 j
  by_cases h0:(j:Int)=(U.lit 0).I ρ
  ·have e:zw.row ρ j=cd ρ [eo (.lit 0)]:=by
    show(if(j:Int)=(U.lit 0).I ρ then cd ρ [eo (.lit 0)]else(RL.var 620 [.i .i64]).row ρ j)=_
    rw[if_pos h0]
   rw[e]at dE
   have dE:G.ci 474 0 j=0:=dE
   omega
  ·have e:zw.row ρ j=(RL.var 620 [.i .i64]).row ρ j:=by
    show(if(j:Int)=(U.lit 0).I ρ then cd ρ [eo (.lit 0)]else(RL.var 620 [.i .i64]).row ρ j)=_
    rw[if_neg h0]
   rw[e]at dE
   have dE:G.ci 474 0 j=ρ.ci 620 0 j:=dE
   have:=hd j (by omega)
   omega
 ·have cb:G.cb 472 1 j=false:=cb 1 j
  rw[cb]at hb;cases hb
end Go.Proofs.YtpdfmnhgocpkcaaGreat
namespace Go.Proofs.YtpdfmnhgocpkcaaGreat
open Go Go.Proofs.Aw Go.Proofs.Xw
set_option maxRecDepth 100000
def wF:J:=[(.lt (.lit 6) bm,false),(.lt bm (.lit 1),false),(.lt (.lit 16) (.cm (.cl 194 0 (.cl 2 2 (.var 400)))),false),(.eq bm (.len 621),true),(.lt (.len 621) (.lit 1),false),(.lt (.lit 6) (.len 621),false)]
def sC:DT := .br (.seq lV (.lit ⟨#[]⟩)) (.br (bD (.var 402) 1099511627776) .leaf .leaf) .leaf
def uH:J:=(.lt (.len 610) (.lit 1),false)::kH (.cl 610 0 (.lit 0))
theorem gz {n:Nat} {ρ G:aa} (h:aA n ρ G) {B:J} (hb:(B.all fun p=>p.1.au n)=true) (u:J.ok ρ B):J.ok G B:=fun p hp=>by
 rw[<-BE.aP h p.1 (List.all_eq_true.1 hb p hp)]
 exact u p hp
structure qv (ρ:aa):Prop where
 l6:ρ.len 621<=6
 ky:∀j:Nat,j<ρ.len 621->1<=(ρ.cs 194 0 ((j:Int)+(U.cl 2 2 (.var 400)).I ρ).toNat).size/\(ρ.cs 194 0 ((j:Int)+(U.cl 2 2 (.var 400)).I ρ).toNat).size<=16
 td:∀j:Nat,j<ρ.len 621->ρ.ci 620 0 j=j
 dT:∀k:Nat,k<9->0<=ρ.i (405+k)
structure w9 (ρ:aa):Prop where
 l6:ρ.len 610<=6
 td:∀j:Nat,j<ρ.len 610->0<=ρ.ci 610 0 j/\ρ.ci 610 0 j<ρ.len 470
structure sk:Prop where
 ajq:∀ρ:aa,J.ok ρ di->0<=bm.I ρ->bm.I ρ<=250->∃G,aA 600 ρ G/\G.len 610=0/\((J.ok G wF/\qv G/\∀k∈dy false++dy true,cy Tryz.prog G k)\/(G.len 621=0/\∀k∈cW false++cW true,cy Tryz.prog G k))
 l2:∀(ρ:aa) (ag:Bool),J.ok ρ di->TI ρ->ρ.i 443=1->(bV 47).I ρ=ag->(ag=true->(BE.eq (.uf 2 0 dw) (.lit 1)).I ρ=true)->∃G,aA 600 ρ G/\∀k∈sP ag,cy Tryz.prog G k
 l1:∀(ρ:aa) (ag:Bool),J.ok ρ di->TI ρ->ρ.i 443=1->(bV 47).I ρ=ag->(ag=true->(BE.eq (.uf 2 0 dw) (.lit 1)).I ρ=true)->∃G,aA 600 ρ G/\((G.len 610=0/\∀k∈sO ag++[iX ag false,ix ag false],cy Tryz.prog G k)\/(1<=G.len 610/\w9 G/\∀k∈[iX ag true,ix ag true],cy Tryz.prog G k))
def Key (al:aa):Prop:=∀j:Nat,0<=al.ci 2 1002 j/\al.ci 2 1002 j<=250
theorem m6 {ρ:aa} {B:J} (h:J.ok ρ B) (k:Nat) {c:BE} {v:Bool} (Z:B[k]? = some (c,v)):c.I ρ=v:=h _ (List.mem_of_getElem? Z)
theorem pq {ρ:aa} {B:J} (h:J.ok ρ B) (k:Nat) {a b:U} (Z:B[k]? = some (.lt a b,false)):b.I ρ<=a.I ρ:=by
 have:¬a.I ρ<b.I ρ:=of_decide_eq_false (m6 h k Z)
 omega
structure Hd (ρ:aa):Prop where
 mQ:0<=ρ.i 400
 bp:ρ.i 400<=ρ.len 2
 bj:(ρ.len 2:Int)<=250
theorem agb {ρ:aa} (h:J.ok ρ FI):Hd ρ:=⟨pq h 7 rfl,pq h 8 rfl,pq h 6 rfl⟩
theorem agc {ρ:aa} (h:J.ok ρ og):Hd ρ/\(ρ.len 460:Int)<=ρ.i 400:=⟨⟨pq h 7 rfl,pq h 8 rfl,pq h 6 rfl⟩,pq h 15 rfl⟩
theorem Sb {ρ:aa} {a b:J} (h:J.ok ρ (a++b)):J.ok ρ a:=fun p hp=>h p (List.mem_append_left _ hp)
theorem agS {ρ:aa} (h:Hd ρ):i1.I ρ=ρ.i 400+1:=by
 have q1:=h.mQ;have q2:=h.bp;have q3:=h.bj
 exact(show i1.I ρ=IntKind.i64.wrap (ρ.i 400+1)from rfl).trans (cp _ (by omega) (by omega))
theorem TI.bC {ρ G:aa} (ah:aA 600 ρ G) (h:TI ρ):TI G:=by
 have l0:=ah.len 470 (by decide);have l4:=ah.len 474 (by decide);have dE:=ah.ci 474 (by decide);have s0:=ah.cs 470 (by decide)
 have e0:=ah.i 440 (by decide);have e1:=ah.i 443 (by decide);have b2:=ah.cb 472 (by decide)
 have iw:∀j,(su j).I G=(su j).I ρ:=fun j=>by
  show [_,_,_,_,_,_,_,_,_,_,_,_,_,_,_,_,_,_,_,_]=_
  simp only[U.I,TE.I,BE.I,<-ah.ci 472 (by decide),<-ah.cs 472 (by decide),<-ah.cb 472 (by decide)]
  rfl
 exact⟨by rw[<-l0];exact h.n1,by rw[<-l0];exact h.n6,fun j M=>by rw[<-s0];exact h.ky j (by omega),by rw[<-e0];exact h.wg,by rw[<-e1];exact h.r1,by rw[<-e0,<-e1,<-l4];exact h.rn,fun k u=>by rw[<-ah.i (405+k) (by omega)];exact h.dT k u,by rw[<-l4];exact h.l6,
  fun j M=>by rw[<-dE,<-l0];exact h.td j (by omega),fun j M hb=>by rw[iw];exact h.z4 j (by omega) (by rw[b2];exact hb)⟩
theorem Vh {ρ:aa} (h:TI ρ) (H:(BE.eq (.var 443) (.lit 1)).I ρ=false):J.ok ρ pF.2:=by
 have A:=h.r1
 have E:¬ρ.i 443=1:=fun W=>by
  have H:(ρ.i 443==1)=false:=H
  rw[W]at H;cases H
 exact fF (by show(2:Int)<=ρ.i 443;omega) (J.bq ρ)
theorem Vi {ρ:aa} (h:TI ρ) (H:(BE.eq (.var 443) (.lit 1)).I ρ=false):J.ok ρ (kH uj):=by
 have A:=h.r1
 have E:¬ρ.i 443=1:=fun W=>by
  have H:(ρ.i 443==1)=false:=H
  rw[W]at H;cases H
 exact h.aht (by omega)
theorem HA {ρ:aa} (H:(BE.eq (.var 443) (.lit 1)).I ρ=true):ρ.i 443=1:=by
 have H:(ρ.i 443==1)=true:=H
 exact eq_of_beq H
theorem BH {P:BE×Bool->Bool} {a b:J} (h:((a++b).all P)=true):a.all P=true/\b.all P=true:=by rwa[List.all_append,Bool.and_eq_true]at h
theorem UW {ρ:aa} {ag:Bool} (A:(bV 47).I ρ=ag) (E:ag=true->(BE.eq (.uf 2 0 dw) (.lit 1)).I ρ=true) {B:J} (u:J.ok ρ B) :
  J.ok ρ (if ag=true then(.eq (.uf 2 0 dw) (.lit 1),true)::(bV 47,true)::B else(bV 47,false)::B):=by
 cases ag with
 | true=>exact J.aw (E rfl) (J.aw A u)
 | false=>exact J.aw A u
theorem Sy {ρ:aa} {bx:Prop} {aU:J} (u:J.ok ρ aU) (bad:J.ok ρ ((.eq (.uf 2 0 dw) (.lit 1),false)::(bV 47,true)::aU)->bx) (go:∀ag,(bV 47).I ρ=ag->(ag=true->(BE.eq (.uf 2 0 dw) (.lit 1)).I ρ=true)->bx):bx:=by
 rcases k_ (bV 47) ρ with h | h
 ·rcases k_ (.eq (.uf 2 0 dw) (.lit 1)) ρ with E | E
  ·exact go true h fun _=>E
  ·exact bad (J.aw E (J.aw h u))
 ·exact go false h fun E=>by cases E
theorem acQ {ρ:aa} (A:1<=ρ.len 610) (hT:TI ρ) (h:w9 ρ):J.ok ρ uH:=by
 obtain⟨t1,t2⟩:=h.td 0 (by omega)
 have h3:=(hT.ky (ρ.ci 610 0 0).toNat (by omega)).2
 exact fF (by show(1:Int)<=ρ.len 610;omega) (fF (show(U.lit 0).I ρ<=(U.cl 610 0 (.lit 0)).I ρ from t1) (xK (show(U.cl 610 0 (.lit 0)).I ρ<(U.len 470).I ρ from t2) (fF (by show((ρ.cs 470 0 (ρ.ci 610 0 0).toNat).size:Int)<=16;omega) (J.bq ρ))))
end Go.Proofs.YtpdfmnhgocpkcaaGreat
namespace Go.Proofs.YtpdfmnhgocpkcaaGreat
open Go Go.Proofs.Aw Go.Proofs.Xw
set_option maxRecDepth 100000
def ka:List X:=[.agg GN,xi 4,fX,Sg,.agg (SH 5 0)]
def ksT (b b2:Bool):List (Nat×List X×X):=[(10,[],xl true),(11,[fX],xl b),(11,[uG],xl b2)]
noncomputable def GI (i:Nat):Nat->List bo:=fun f=>if Nat.beq f 9=true then [B_ i]else []
noncomputable def uO (b b2:Bool) (lp:Nat->List bo) (kh:List GK):cr:=⟨uP (ksT b b2) lp kh cls [41],hj,49::FO⟩
noncomputable def mL (kh:List GK) (i:Nat) (B:J):Bool:=z3 B (Ad (uO false false (GI i) kh) 9 ka B)
def X2 (i:Nat):J:=match hU[i]? with
 | some C=>C.b6
 | none=>[]
def aY (i:Nat):J:=(if Nat.beq i 0=true then []else [(.lt (.lit 300) (.len 460),false)])++(V7++(PI++X2 i))
def mT:AL:=eQ 5 10 (.b (.var 0) (.i (.var 15) (.i (.var 16) .nil)))
def gZ (k:Nat):U := .var (5+k)
def rgZ:U := .uf 0 0 (.s B8 (.i (.var 1) .nil))
def LZ:Nat->U×U
 | 0=>(rgZ,.var 401)
 | _=>(.lit 0,cA 4)
def s9 (g:Nat):AL := .i (LZ g).2 (.i (.var 4) .nil)
def rP (g k:Nat):AL := .i (LZ g).2 (.i (LZ g).1 (.i (gZ (2+2*k)) .nil))
def Cw (g n:Nat):U := .uf 8 0 (.i (.uf 5 0 (s9 g)) (.i (.uf 5 1 (s9 g)) ((List.range n).foldr (fun k r => .i (.uf 4 0 (rP g k)) (.i (.uf 4 1 (rP g k)) r)) .nil)))
def LF (g k:Nat):U := .uf 6 0 (.i (.uf 5 0 (s9 g)) (.i (.uf 5 1 (s9 g)) (.i (.uf 4 0 (rP g k)) (.i (.uf 4 1 (rP g k)) .nil))))
def BW (g n:Nat):BE×J:=(.lit true,[(iy (Cw g n) (n-1:Int),false)])
def nk (g n j:Nat):BE×J:=(ai (Cw g n) j,((List.range n).filter fun i => !Nat.beq i j).map fun i=>(.lt (LF g i) (LF g j),false))
def M0:BE×J:=(.seq lV (.lit ⟨#[]⟩),[(iy (.cm lV) 32,false),(.seq (.lit ⟨#[]⟩) lV,true)])
def F8 (g:Nat):Hyp:=[BW g 1,BW g 2,BW g 3,BW g 4,nk g 1 0,nk g 2 0,nk g 2 1,nk g 3 0,nk g 3 1,nk g 3 2,nk g 4 0,nk g 4 1,nk g 4 2,nk g 4 3]
def gI:Hyp:=[M0,yg mT gZ,nj mT gZ 1,nj mT gZ 2,nj mT gZ 3,nj mT gZ 4,F7]++(F8 0++F8 1)
def WT (g n:Nat):Nat->Nat->DT
 | 0,j => .ir (11+14*g+n*(n-1) / 2+j) .leaf .leaf
 | m+1,j => .br (bD (Cw g n) (j+1)) (.ir (11+14*g+n*(n-1) / 2+j) .leaf .leaf) (WT g n m (j+1))
def Sx (g n:Nat):DT := .ir (1+n) (.ir (6+14*g+n) (WT g n (n-1) 0) .leaf) .leaf
def O6 (d:PT):PT := .br (bD (cA 1002) 1) pL (.br (iy (cA 1002) 1) pL (.br (bD (.cm B8) 1) pL (.br (iy (.cm B8) 16) pL d)))
def CN (d:PT):PT := .br (bD (.var 402) 1099511627776) d pL
def I4 (d:PT):PT := .br (.seq lV (.lit ⟨#[]⟩)) (.hy 0 d) pL
def M' (d:PT):PT := .br (.eq (.uf 1 0 mT) (.lit 1)) (.hy 1 d) pL
def Kk (g:Nat):PT :=
 let n:=fun n=>PT.br (.var 0) (.lf (Sx g n)) (.lf (Sx g n))
 M' (.br (bD (gZ 1) 2) (n 1) (.br (bD (gZ 1) 3) (n 2) (.br (bD (gZ 1) 4) (n 3) (n 4))))
def aiC:PT := .br (bD (cA 1002) 1) (I4 (.br (bD (cA 4) 0) pL (.br (.lt (cA 4) (.var 0)) (.hy 6 (CN (Kk 1))) pL))) pL
def a6:PT := .br (ai (cA 1) 4) .ho (.br (ai (cA 1) 1) (O6 (.br (iy (.cm lV) 32) pL (CN (M' pL)))) (.br (ai (cA 1) 2) (O6 (I4 (CN (M' pL)))) (.br (ai (cA 1) 3) (O6 (I4 (CN (Kk 0)))) (.br (ai (cA 1) 5) aiC (.lf yO)))))
def eh:PT:=I4 (CN (Kk 0))
noncomputable def aV (kh:List GK) (t:PT) (B:J) (i k:Nat):Bool:=match(t.parts gI B)[k]? with
 | some p=>lI p.1&&p.1.ok gI (mL kh i) p.2
 | none=>true
def rM (kh:List GK) (t:PT) (B:J) (i:Nat):Nat->Prop
 | 0=>True
 | n+1=>rM kh t B i n/\aV kh t B i n=true
def dK (i:Nat):J:=(ai (cA 1) 4,true)::aY i
def fh:List GK:=dy false++dy true
def XV:J:=[(bD (.var 0) 1,false),(iy (.var 0) 3,false),(bD (.var 1) 1,false),(iy (.var 1) 3,false),(bD (.var 2) 1,false),(iy (.var 2) 4,false),(bD (.var 3) 1,false),(iy (.var 3) 4,false),(bD (.var 4) 0,false),(.lt (.var 4) (.var 3),true)]
noncomputable def yZ (b b2:Bool) (B:J):Bool:=z3 B (Ad (uO b b2 (fun _=>[]) []) 9 ka B)
noncomputable def HK:J->J->Bool
 | [],_=>true
 | (c,v)::r,B=>yZ false false ((c,!v)::B)&&HK r ((c,v)::B)
end Go.Proofs.YtpdfmnhgocpkcaaGreat
