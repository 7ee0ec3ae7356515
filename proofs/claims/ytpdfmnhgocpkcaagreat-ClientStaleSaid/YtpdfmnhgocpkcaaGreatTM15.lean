/- Parts of the proof, one behind the other. -/
import Derived.Test.YtpdfmnhgocpkcaaGreatTM9
import Derived.Test.YtpdfmnhgocpkcaaGreatTM14
import Derived.Test.YtpdfmnhgocpkcaaGreatTM3
import Derived.Test.YtpdfmnhgocpkcaaGreatTM8
import Derived.Test.YtpdfmnhgocpkcaaGreatTM7
import Derived.Test.YtpdfmnhgocpkcaaGreatTM4
import Derived.Test.YtpdfmnhgocpkcaaGreatTM6
namespace Go.Proofs.YtpdfmnhgocpkcaaGreat
open Go Go.Proofs.Aw Go.Proofs.Xw Go.Proofs.Sr
set_option maxRecDepth 100000
theorem aol {ρ:aa} (h:O8.I ρ=true):(ρ.s 0).size<9223372036854775808/\1<=ρ.i 1/\ρ.i 1<=3:=by
 obtain⟨A,E⟩:=ll h
 have A:¬(1000000:Int)<(ρ.s 0).size:=yw A
 have E:=km E
 exact⟨by omega,E.1,E.2⟩
theorem as4 {ρ:aa} (h:O8.I ρ=true):∃g,jR 0 (RP.I ρ) g:=by
 obtain⟨A,E,h3⟩:=aol h
 have b:=aq0 (ρ.i 1) (pt (ρ.s 0)) ⟨E,h3⟩
 refine⟨fun _=>sec (ρ.i 1) (pt (ρ.s 0)),⟨fun f hf n hp => ?_,fun j => ?_,trivial⟩⟩
 ·simp only[eK,List.mem_cons,List.not_mem_nil,or_false]at hf
  rcases hf with rfl | rfl
  ·exact(aj0 _ A _ ⟨E,h3⟩).2 n hp
  ·exact(aj6 _ A _ ⟨E,h3⟩).2 n hp
 ·simp only[jf];omega
theorem YS (f:Nat) (hf:f∈eK 0):c4 Tryz.prog (PR f):=⟨pd f (by simp only[eK,List.mem_cons,List.not_mem_nil,or_false]at hf;rcases hf with rfl | rfl<;>decide),fun ρ n h hp=>by
 obtain⟨g,Z⟩:=as4 hp
 exact(iz Z).qp f hf n h⟩
theorem Ih:∀s∈h2,c4 Tryz.prog s:=by
 intro s hs
 simp only[h2,List.map_cons,List.map_nil,List.mem_append,List.mem_cons,List.not_mem_nil,or_false]at hs
 rcases hs with(rfl | rfl | rfl | rfl | rfl | rfl | rfl | rfl | rfl | rfl | rfl | rfl | rfl | rfl | rfl | rfl | rfl | rfl | rfl | rfl) | (rfl | rfl | rfl | rfl) | (rfl | rfl | rfl | rfl)
 ·exact YS 33 (by decide)
 ·exact YS 104 (by decide)
 ·exact H7 97 (by decide)
 ·exact H7 105 (by decide)
 ·exact YU 28 (by decide)
 ·exact YU 81 (by decide)
 ·exact YT 24 (by decide)
 ·exact YT 114 (by decide)
 ·exact Gv _ List.mem_cons_self
 ·exact Gv _ (List.mem_cons_of_mem _ List.mem_cons_self)
 ·exact YR 36 (by decide)
 ·exact YR 108 (by decide)
 ·exact YO 34 (by decide)
 ·exact YO 110 (by decide)
 ·exact H4 35 (by decide)
 ·exact H4 135 (by decide)
 ·exact YN 27 (by decide)
 ·exact YN 77 (by decide)
 ·exact YP 94 (by decide)
 ·exact YP 107 (by decide)
 ·exact tH 92 1 (by decide) (by omega)
 ·exact tH 92 2 (by decide) (by omega)
 ·exact tH 92 3 (by decide) (by omega)
 ·exact tH 92 4 (by decide) (by omega)
 ·exact tH 109 1 (by decide) (by omega)
 ·exact tH 109 2 (by decide) (by omega)
 ·exact tH 109 3 (by decide) (by omega)
 ·exact tH 109 4 (by decide) (by omega)
end Go.Proofs.YtpdfmnhgocpkcaaGreat
namespace Go.Proofs.YtpdfmnhgocpkcaaGreat
open Go Go.Proofs.Aw Go.Proofs.Xw
set_option maxRecDepth 100000
def hfA:List Nat:=[48,124,30050,30052,30061,30122,30116,20051,20074,12,13,18,47,98,130,16,17,40,26,43,21,44,95,115,88,76,10073,10089,10090,10057,10019,10032,10020,10022,10025,10106,10080,10119,10118,10121,10103]
noncomputable def Jr:cr:=⟨bd [] (fun _=>[]),h2,hfA⟩
theorem acr:iw (aM Jr 10 [] []) (.ret (xl true))=true:=by kernel_rfl
theorem acq:Cy 10 [] (.sc (.bool true)):=by
 have e:=p8 acr
 let ρ:aa:=⟨fun _=>0,fun _=>false,fun _=>⟨#[]⟩,fun _=>0,fun _ _ _=>0,fun _ _ _=>false,fun _ _ _=>⟨#[]⟩,kz⟩
 exact ec (ρ:=ρ) (c:=Jr) (kW (List.forall_mem_nil _)) Ih (J.bt ρ) (show(aM Jr 10 [] []).aq ρ=some (xl true)by rw[e];rfl)
end Go.Proofs.YtpdfmnhgocpkcaaGreat
namespace Go.Proofs.YtpdfmnhgocpkcaaGreat
open Go Go.Proofs.Aw Go.Proofs.Xw
set_option maxRecDepth 100000
theorem vL (ρ:aa):J.ok ρ []:=J.bt ρ
theorem Gp {ρ:aa} {a b:U} (h:(BE.not (.lt a b)).I ρ=true):b.I ρ<=a.I ρ:=by have:=yw h;omega
theorem V6 {ρ:aa} {a b:U} (h:(BE.lt a b).I ρ=true):a.I ρ<b.I ρ:=of_decide_eq_true h
theorem mT {ρ:aa} {a b:U} (h:b.I ρ<=a.I ρ) {B:J} (u:J.ok ρ B):J.ok ρ ((.lt a b,false)::B):=J.av (b_ (by omega)) u
theorem Ue {ρ:aa} {a b:U} (h:a.I ρ<b.I ρ) {B:J} (u:J.ok ρ B):J.ok ρ ((.lt a b,true)::B):=J.av (mr h) u
noncomputable def Pj (ρ:aa):aa:={ ρ with i:=fun k=>(gM k).I ρ,b:=fun _=>(bV 24).I ρ }
theorem apf (ρ:aa):(h9 0).I (Pj ρ)=mI.I ρ:=rfl
theorem Sn {ρ:aa} (h:(BE.eq (.uf 1 0 mI) (.lit 1)).I ρ=true):1<=(gM 1).I ρ/\(gM 1).I ρ<=4/\∀k:Nat,(k:Int)<(gM 1).I ρ->0<=(gM (2+2*k)).I ρ/\(gM (2+2*k)).I ρ<=3:=by
 have h:=l8 h
 rw[<-apf]at h
 obtain⟨g,Z⟩:=IK (Pj ρ)
 obtain⟨b1,b2,dr⟩:=(iz Z).tg h
 refine⟨b1,b2,fun k u => ?_⟩
 have E:(gM 1).I ρ<=4:=b2
 have:=dr k u
 have q:vI ((h9 0).I (Pj ρ)) (2+2*k)=(gM (2+2*k)).I ρ:=by
  rcases(show k=0\/k=1\/k=2\/k=3 by omega)with rfl | rfl | rfl | rfl<;>rfl
 rw[q]at this
 exact this
theorem afw (ρ:aa) (h:(MH mI gM).1.I ρ=true):J.ok ρ (MH mI gM).2:=by
 obtain⟨A,E,h3⟩:=Sn h
 have h4:=h3 0 (by show(0:Int)<_;omega)
 exact mT (show(U.lit 1).I ρ<=_ from A) (mT (show _<=(U.lit 4).I ρ from E) (mT (show(U.lit 0).I ρ<=_ from h4.1) (mT (show _<=(U.lit 3).I ρ from h4.2) (vL ρ))))
theorem eqD {ρ:aa} {a:U} {n:Int} (h:(BE.eq a (.lit n)).I ρ=true):a.I ρ=n:=by
 have h:(a.I ρ==n)=true:=h
 exact eq_of_beq h
theorem Fi (ρ:aa) (n:Nat) (h:(x8 mI gM n).1.I ρ=true):J.ok ρ (x8 mI gM n).2:=by
 obtain⟨ha,hb⟩:=ll h
 obtain⟨_,_,h3⟩:=Sn ha
 have hn:=eqD hb
 intro p hp
 obtain⟨k,u,hp⟩:=List.mem_flatMap.1 hp
 have u:=List.mem_range.1 u
 have h4:=h3 k (by omega)
 rcases List.mem_cons.1 hp with rfl | hp
 ·exact b_ (by have:=h4.1;show ¬(gM (2+2*k)).I ρ<0;omega)
 ·rcases List.mem_cons.1 hp with rfl | hp
  ·exact b_ (by have:=h4.2;show ¬3<(gM (2+2*k)).I ρ;omega)
  ·cases hp
theorem aiR {n:Nat} (hn:n=1\/n=2\/n=3\/n=4) (vs:List Value) (w:Nat->Int) (R:vs=(fA 0 (2*n+2) .nil).I { (⟨fun _=>0,fun _=>false,fun _=>⟨#[]⟩,fun _=>0,fun _ _ _=>0,fun _ _ _=>false,fun _ _ _=>⟨#[]⟩,kz⟩:aa)with i:=w }) (hb:∀k,k<2*n+2 -> -16384<=w k/\w k<=16384):UF 8 vs 0<=(n:Int)-1:=by
 obtain⟨g,Z⟩:=aae (ρ:={ (⟨fun _=>0,fun _=>false,fun _=>⟨#[]⟩,fun _=>0,fun _ _ _=>0,fun _ _ _=>false,fun _ _ _=>⟨#[]⟩,kz⟩:aa)with i:=w }) hn hb
 have h:=(iz Z).tg
 rw[<-R]at h
 obtain⟨h,_⟩:=h
 have M:vs.length=2*n+2:=by rw[R];exact Js _ hn
 rw[M]at h
 omega
theorem mX (fP:U) {n:Nat} (hn:n=1\/n=2\/n=3\/n=4) (ρ:aa):J.ok ρ (mj fP n).2:=by
 refine mT ?_ (vL ρ)
 show(s9 fP n).I ρ<=(n:Int)-1
 have fg:∀vs j,-16384<=UF 4 vs j/\UF 4 vs j<=16384:=fun vs j=>DZ 4 vs j
 have R6:∀vs j,-16384<=UF 5 vs j/\UF 5 vs j<=16384:=fun vs j=>DZ 5 vs j
 let hA:AL := .i (.var 401) (.i (.var 4) .nil)
 let Or:Nat->AL:=fun k => .i (.var 401) (.i fP (.i (gM (2+2*k)) .nil))
 let w:Nat->Int:=fun k=>if k=0 then UF 5 (hA.I ρ) 0 else if k=1 then UF 5 (hA.I ρ) 1 else UF 4 ((Or (k / 2-1)).I ρ) (k % 2)
 refine aiR hn _ w ?_ fun k _ => ?_
 ·rcases hn with rfl | rfl | rfl | rfl<;>rfl
 ·show -16384<=(if k=0 then UF 5 (hA.I ρ) 0 else if k=1 then UF 5 (hA.I ρ) 1 else UF 4 ((Or (k / 2-1)).I ρ) (k % 2))/\(if k=0 then UF 5 (hA.I ρ) 0 else if k=1 then UF 5 (hA.I ρ) 1 else UF 4 ((Or (k / 2-1)).I ρ) (k % 2))<=16384
  split
  ·exact R6 _ _
  ·split
   ·exact R6 _ _
   ·exact fg _ _
theorem afD (ρ:aa) (h:ML.1.I ρ=true):J.ok ρ ML.2:=by
 refine mT ?_ (vL ρ)
 have h:((wz.I ρ).toList==(⟨#[]⟩:ByteArray).toList)=true:=h
 have h:=eq_of_beq h
 show((wz.I ρ).size:Int)<=32
 generalize wz.I ρ=s at h
 have E:s.data.toList=[]:=by rw[ByteArray.toList_eq,ByteArray.toList_eq]at h;exact h
 have h3:s.size=0:=by
  show s.data.size=0
  rw[<-Array.length_toList,E];rfl
 omega
theorem upD (ρ:aa) (k:Nat):(up k).I ρ=IntKind.i64.wrap (ρ.i k+1):=rfl
theorem afA (ρ:aa) (h:MK.1.I ρ=true):J.ok ρ MK.2:=by
 obtain⟨A,E⟩:=ll h
 obtain⟨E,h3⟩:=ll E
 obtain⟨E,h4⟩:=ll E
 have bl:ρ.i 431<ρ.i 1:=V6 E
 have D0:0<=ρ.i 431:=Gp h4
 have gK:ρ.i 1<=3:=Gp h3
 have e:(up 431).I ρ=ρ.i 431+1:=by rw[upD];exact ca _ (by omega) (by omega)
 have bm:¬(up 431).I ρ=ρ.i 1:=fun W=>by
  have A:(!((up 431).I ρ==ρ.i 1))=true:=A
  rw[W]at A;simp at A
 have em:(mkAdd (.var 431) (.lit 1)).I ρ=ρ.i 431+1:=by rw[fe];rfl
 exact Ue (by rw[e];show _<ρ.i 1;omega) (mT (by rw[e];show _<=(2:Int);omega) (Ue (by rw[em];show _<ρ.i 1;omega) (mT (by rw[em];show _<=(2:Int);omega) (mT (by rw[em];show(0:Int)<=_;omega) (vL ρ)))))
theorem afz (ρ:aa) (h:MJ.1.I ρ=true):J.ok ρ MJ.2:=by
 have h:((up 431).I ρ==ρ.i 1)=true:=h
 exact mT (by rw[eq_of_beq h];exact Int.le_refl _) (vL ρ)
theorem afx (ρ:aa) (h:MI.1.I ρ=true):J.ok ρ MI.2:=by
 obtain⟨A,E⟩:=ll h
 have bm:(cA 4).I ρ<ρ.i 0:=V6 A
 have bl:ρ.i 0<=3:=Gp E
 exact mT (by show(cA 4).I ρ<=2;omega) (vL ρ)
theorem afC (ρ:aa) (h:pn.1.I ρ=true):J.ok ρ pn.2:=by
 obtain⟨A,E⟩:=ll h
 have bl:1<=ρ.i 443:=Gp E
 have bm:¬ρ.i 443=1:=fun W=>by
  have A:(!(ρ.i 443==1))=true:=A
  rw[W]at A;simp at A
 exact mT (by show(2:Int)<=ρ.i 443;omega) (vL ρ)
theorem agv:ud a':=by
 intro p hp ρ h
 simp only[a',hyps,List.cons_append,List.nil_append,List.mem_cons,List.not_mem_nil,or_false]at hp
 rcases hp with rfl | rfl | rfl | rfl | rfl | rfl | rfl | rfl | rfl | rfl | rfl | rfl | rfl | rfl | rfl | rfl | rfl | rfl | rfl | rfl | rfl | rfl
 ·exact afD ρ h
 ·exact afw ρ h
 ·exact Fi ρ 1 h
 ·exact Fi ρ 2 h
 ·exact Fi ρ 3 h
 ·exact Fi ρ 4 h
 ·exact afA ρ h
 ·exact afz ρ h
 ·exact mX _ (by omega) ρ
 ·exact mX _ (by omega) ρ
 ·exact mX _ (by omega) ρ
 ·exact mX _ (by omega) ρ
 ·exact mX _ (by omega) ρ
 ·exact mX _ (by omega) ρ
 ·exact mX _ (by omega) ρ
 ·exact mX _ (by omega) ρ
 ·exact afx ρ h
 ·exact mX _ (by omega) ρ
 ·exact mX _ (by omega) ρ
 ·exact mX _ (by omega) ρ
 ·exact mX _ (by omega) ρ
 ·exact afC ρ h
end Go.Proofs.YtpdfmnhgocpkcaaGreat
namespace Go.Proofs.YtpdfmnhgocpkcaaGreat
open Go Go.Proofs.Aw Go.Proofs.Xw
set_option maxRecDepth 100000
def rU (j:Nat):AL:=(List.range 6).foldr (fun k r => .i (.cl 472 (2+k) (.lit j)) r) (.s (.cl 472 8 (.lit j)) (.s (.cl 472 9 (.lit j)) (.b (.cl 472 10 (.lit j)) ((List.range 11).foldr (fun k r => .i (.cl 472 (11+k) (.lit j)) r) .nil))))
theorem qS (k:Nat) (h:k<9):405+k∈jz:=by
 rcases(show k=0\/k=1\/k=2\/k=3\/k=4\/k=5\/k=6\/k=7\/k=8 by omega)with rfl | rfl | rfl | rfl | rfl | rfl | rfl | rfl | rfl<;>decide
theorem yo (k:Nat) (h:k<9):405+k∈mm:=List.mem_append_left _ (qS k h)
structure TI (ρ:aa):Prop where
 n1:1<=ρ.len 470
 n6:ρ.len 470<=6
 ky:∀j:Nat,j<ρ.len 470->1<=(ρ.cs 470 0 j).size/\(ρ.cs 470 0 j).size<=16
 vR:0<=ρ.i 440
 r1:1<=ρ.i 443
 rn:ρ.i 440+ρ.i 443=ρ.len 474
 dM:∀k:Nat,k<9->0<=ρ.i (405+k)
 l6:ρ.len 474<=6
 td:∀j:Nat,j<ρ.len 474->0<=ρ.ci 474 0 j/\ρ.ci 474 0 j<ρ.len 470
 zS:∀j:Nat,j<ρ.len 470->ρ.cb 472 1 j=true->UF 2 ((rU j).I ρ) 0=1
theorem xz {ρ:aa} {a b:U} (h:a.I ρ<b.I ρ) {B:J} (u:J.ok ρ B):J.ok ρ ((.lt a b,true)::B):=J.av (decide_eq_true h) u
theorem fF {ρ:aa} {a b:U} (h:b.I ρ<=a.I ρ) {B:J} (u:J.ok ρ B):J.ok ρ ((.lt a b,false)::B):=J.av (decide_eq_false (by omega)) u
theorem TI.tr {ρ:aa} (h:TI ρ):J.ok ρ oS:=by
 have q1:=h.n1;have q2:=h.n6;have q3:=h.vR;have q4:=h.r1;have q5:=h.rn;have q6:=h.l6
 unfold oS
 exact fF (by show(1:Int)<=ρ.len 470;omega) (fF (by show(ρ.len 470:Int)<=6;omega) (fF (by show ρ.i 440+ρ.i 443<=(ρ.len 474:Int);omega) (fF (by show(0:Int)<=ρ.i 440;omega) (fF (by show ρ.i 440<=5;omega) (xz (by show ρ.i 440<(ρ.len 474:Int);omega) (fF (by show(1:Int)<=ρ.i 443;omega) (fF (by show ρ.i 443<=6;omega) (J.bt ρ))))))))
theorem TI.key {ρ:aa} (h:TI ρ) {e:U} {j:Nat} (G:e.I ρ=ρ.ci 474 0 j) (O:j<ρ.len 474):J.ok ρ (ko e):=by
 obtain⟨A,E⟩:=h.td j O
 have h3:=(h.ky (ρ.ci 474 0 j).toNat (by omega)).2
 unfold ko
 refine fF (by rw[G];exact A) (xz (by rw[G];exact E) (fF ?_ (J.bt ρ)))
 show((ρ.cs 470 0 (e.I ρ).toNat).size:Int)<=16
 rw[G];omega
theorem TI.VK {ρ:aa} (h:TI ρ):J.ok ρ (ko gZ):=by
 have q3:=h.vR;have q4:=h.r1;have q5:=h.rn
 exact h.key (j:=(ρ.i 440).toNat) rfl (by omega)
theorem TI.ahd {ρ:aa} (h:TI ρ) (E:2<=ρ.i 443):J.ok ρ (ko tR):=by
 have q3:=h.vR;have q5:=h.rn
 refine h.key (j:=(ρ.i 440).toNat+1) ?_ (by omega)
 show ρ.ci 474 0 ((mkAdd (.var 440) (.lit 1)).I ρ).toNat=_
 rw[fe]
 have:((U.var 440).I ρ+(U.lit 1).I ρ).toNat=(ρ.i 440).toNat+1:=by show(ρ.i 440+1).toNat=_;omega
 rw[this]
theorem RU {F:aa} {j:Nat} {l:List AV} (hi:∀k,F.ci 472 k j=aG l[k]?) (hb:∀k,F.cb 472 k j=dK l[k]?) (hs:∀k,F.cs 472 k j=cellS l[k]?) :
  (rU j).I F=[.int .i64 (aG l[2]?),.int .i64 (aG l[3]?),.int .i64 (aG l[4]?),.int .i64 (aG l[5]?),.int .i64 (aG l[6]?),.int .i64 (aG l[7]?),.string (cellS l[8]?),.string (cellS l[9]?),.bool (dK l[10]?),.int .i64 (aG l[11]?),.int .i64 (aG l[12]?),.int .i64 (aG l[13]?),.int .i64 (aG l[14]?),.int .i64 (aG l[15]?),.int .i64 (aG l[16]?),.int .i64 (aG l[17]?),.int .i64 (aG l[18]?),.int .i64 (aG l[19]?),.int .i64 (aG l[20]?),.int .i64 (aG l[21]?)]:=by
 simp only[<-hi,<-hb,<-hs]
 rfl
theorem RW {ρ F:aa} {j:Nat} (hi:∀k,F.ci 472 k j=aG ((RL.var 472 gh).row ρ j)[k]?) (hb:∀k,F.cb 472 k j=dK ((RL.var 472 gh).row ρ j)[k]?) (hs:∀k,F.cs 472 k j=cellS ((RL.var 472 gh).row ρ j)[k]?):F.cb 472 1 j=ρ.cb 472 1 j/\(rU j).I F=(rU j).I ρ:=by
 refine⟨hb 1,?_⟩
 rw[RU hi hb hs]
 rfl
theorem TI.sV {ρ F:aa} {fr:Nat} {ki:List Nat} (n_:∀k,k<9->405+k∈ki) (h:TI ρ) (a:gH (iA fr ki) ρ F):TI F:=by
 obtain⟨_,⟨k1,k2⟩,_,k4⟩:=a
 have e0:=k1 440 List.mem_cons_self
 have e1:=k1 443 (List.mem_cons_of_mem _ List.mem_cons_self)
 obtain⟨l0,c0,_,s0⟩:=k2 470 List.mem_cons_self
 obtain⟨l4,dx,_,_⟩:=k2 474 (List.mem_cons_of_mem _ List.mem_cons_self)
 obtain⟨_,ci,cb,cs⟩:=k4 _ List.mem_cons_self
 refine⟨by rw[l0];exact h.n1,by rw[l0];exact h.n6,fun j O => ?_,by rw[e0];exact h.vR,by rw[e1];exact h.r1,by rw[e0,e1,l4];exact h.rn,fun k u=>by rw[k1 _ (List.mem_cons_of_mem _ (List.mem_cons_of_mem _ (n_ k u)))];exact h.dM k u,by rw[l4];exact h.l6,fun j O => ?_,fun j O hb => ?_⟩
 ·rw[s0];exact h.ky j (by omega)
 ·rw[dx,l0];exact h.td j (by omega)
 ·obtain⟨g1,g2⟩:=RW (fun k=>ci k j) (fun k=>cb k j) (fun k=>cs k j)
  rw[g2]
  exact h.zS j (by omega) (by rw[<-g1];exact hb)
theorem RX {ρ F:aa} {ag:Bool} (hf:J.ok ρ (qw ag)) (aha:Nat) (_atT:gZ.I ρ=aha) {j:Nat} (h:ρ.cb 472 1 j=true->UF 2 ((rU j).I ρ) 0=1) (hi:∀k,F.ci 472 k j=aG ((b9 ag).row ρ j)[k]?) (hb:∀k,F.cb 472 k j=dK ((b9 ag).row ρ j)[k]?) (hs:∀k,F.cs 472 k j=cellS ((b9 ag).row ρ j)[k]?)
  (hq:F.cb 472 1 j=true):UF 2 ((rU j).I F) 0=1:=by
 by_cases O:(j:Int)=gZ.I ρ
 ·have e:(b9 ag).row ρ j=b' ρ (mK ag):=by
   show(if(j:Int)=gZ.I ρ then b' ρ (mK ag)else(RL.var 472 gh).row ρ j)=_
   rw[if_pos O]
  rw[e]at hi hb hs
  cases ag with
  | false =>
   have A:(bV 47).I ρ=false:=hf _ List.mem_cons_self
   have E:F.cb 472 1 j=(bV 47).I ρ:=hb 1
   rw[E,A]at hq;cases hq
  | true =>
   have A:(BE.eq (.uf 2 0 dq) (.lit 1)).I ρ=true:=hf _ List.mem_cons_self
   have A:UF 2 (dq.I ρ) 0=1:=by simpa [BE.I,U.I]using A
   rw[RU hi hb hs]
   exact A
 ·have e:(b9 ag).row ρ j=(RL.var 472 gh).row ρ j:=by
   show(if(j:Int)=gZ.I ρ then b' ρ (mK ag)else(RL.var 472 gh).row ρ j)=_
   rw[if_neg O]
  rw[e]at hi hb hs
  obtain⟨g1,g2⟩:=RW hi hb hs
  rw[g2]
  exact h (by rw[<-g1];exact hq)
theorem TI.more {ρ F:aa} {fr:Nat} {ki:List Nat} {ag:Bool} (n_:∀k,k<9->405+k∈ki) (h:TI ρ) (a:gH (qd fr ki ag) ρ F):TI F:=by
 obtain⟨k0,⟨k1,k2⟩,k3,k4⟩:=a
 have E:¬ρ.i 443<2:=of_decide_eq_false (k0 _ List.mem_cons_self)
 have hf:J.ok ρ (qw ag):=fun p hp=>k0 p (List.mem_cons_of_mem _ hp)
 have e0:F.i 440=ρ.i 440+1:=k3 _ List.mem_cons_self
 have e1:F.i 443=ρ.i 443-1:=k3 _ (List.mem_cons_of_mem _ List.mem_cons_self)
 obtain⟨l0,c0,_,s0⟩:=k2 470 List.mem_cons_self
 obtain⟨l4,dx,_,_⟩:=k2 474 (List.mem_cons_of_mem _ List.mem_cons_self)
 obtain⟨_,ci,cb,cs⟩:=k4 _ List.mem_cons_self
 have q3:=h.vR;have q4:=h.r1;have q5:=h.rn
 obtain⟨t1,t2⟩:=h.td (ρ.i 440).toNat (by omega)
 refine⟨by rw[l0];exact h.n1,by rw[l0];exact h.n6,fun j O => ?_,by omega,by omega,by omega,fun k u=>by rw[k1 _ (n_ k u)];exact h.dM k u,by rw[l4];exact h.l6,fun j O => ?_,fun j O hb => ?_⟩
 ·rw[s0];exact h.ky j (by omega)
 ·rw[dx,l0];exact h.td j (by omega)
 ·refine RX hf (gZ.I ρ).toNat ?_ (h.zS j (by omega)) (fun k=>ci k j) (fun k=>cb k j) (fun k=>cs k j) hb
  have:gZ.I ρ=ρ.ci 474 0 (ρ.i 440).toNat:=rfl
  omega
theorem TI.ID {ρ F:aa} {ag:Bool} (h:TI ρ) (h6:ρ.len 610<=6) (hd:∀j:Nat,j<ρ.len 610->0<=ρ.ci 610 0 j/\ρ.ci 610 0 j<ρ.len 470) (a:gH (wU ag) ρ F):TI F:=by
 obtain⟨k0,⟨k1,k2⟩,k3,k4⟩:=a
 have A:¬(ρ.len 610:Int)<1:=of_decide_eq_false (k0 _ List.mem_cons_self)
 have hf:J.ok ρ (qw ag):=fun p hp=>k0 p (List.mem_cons_of_mem _ hp)
 have e0:F.i 440=0:=k3 _ List.mem_cons_self
 have e1:F.i 443=ρ.len 610:=k3 _ (List.mem_cons_of_mem _ List.mem_cons_self)
 obtain⟨l0,c0,_,s0⟩:=k2 470 List.mem_cons_self
 obtain⟨l4,dx,_,_⟩:=k4 _ List.mem_cons_self
 obtain⟨_,ci,cb,cs⟩:=k4 _ (List.mem_cons_of_mem _ List.mem_cons_self)
 have l4:F.len 474=ρ.len 610:=by rw[l4];exact Int.toNat_natCast _
 have dx:∀j,F.ci 474 0 j=ρ.ci 610 0 j:=fun j=>dx 0 j
 have q3:=h.vR;have q4:=h.r1;have q5:=h.rn
 obtain⟨t1,t2⟩:=h.td (ρ.i 440).toNat (by omega)
 refine⟨by rw[l0];exact h.n1,by rw[l0];exact h.n6,fun j O => ?_,by omega,by omega,by omega,fun k u=>by rw[k1 _ (qS k u)];exact h.dM k u,by omega,fun j O => ?_,fun j O hb => ?_⟩
 ·rw[s0];exact h.ky j (by omega)
 ·rw[dx,l0];exact hd j (by omega)
 ·refine RX hf (gZ.I ρ).toNat ?_ (h.zS j (by omega)) (fun k=>ci k j) (fun k=>cb k j) (fun k=>cs k j) hb
  have:gZ.I ρ=ρ.ci 474 0 (ρ.i 440).toNat:=rfl
  omega
theorem TI.first {ρ F:aa} {fr:Nat} (h6:ρ.len 621<=6) (u:∀j:Nat,j<ρ.len 621->1<=(ρ.cs 194 0 ((j:Int)+(U.cl 2 2 (.var 400)).I ρ).toNat).size/\(ρ.cs 194 0 ((j:Int)+(U.cl 2 2 (.var 400)).I ρ).toNat).size<=16) (hd:∀j:Nat,j<ρ.len 621->ρ.ci 620 0 j=j) (a9:∀k:Nat,k<9->0<=ρ.i (405+k)) (a:gH (wT fr) ρ F):TI F:=by
 obtain⟨k0,⟨k1,_⟩,k3,k4⟩:=a
 have A:¬(ρ.len 621:Int)<1:=of_decide_eq_false (k0 _ List.mem_cons_self)
 have e0:F.i 440=0:=k3 _ List.mem_cons_self
 have e1:F.i 443=ρ.len 621:=k3 _ (List.mem_cons_of_mem _ List.mem_cons_self)
 obtain⟨l0,_,_,s0⟩:=k4 _ List.mem_cons_self
 obtain⟨_,_,cb,_⟩:=k4 _ (List.mem_cons_of_mem _ List.mem_cons_self)
 obtain⟨l4,dx,_,_⟩:=k4 _ (List.mem_cons_of_mem _ (List.mem_cons_of_mem _ List.mem_cons_self))
 have l0:F.len 470=ρ.len 621:=by rw[l0];exact Int.toNat_natCast _
 have l4:F.len 474=ρ.len 621:=by rw[l4];exact Int.toNat_natCast _
 have s0:∀j:Nat,F.cs 470 0 j=ρ.cs 194 0 ((j:Int)+(U.cl 2 2 (.var 400)).I ρ).toNat:=fun j=>s0 0 j
 refine⟨by omega,by omega,fun j O => ?_,by omega,by omega,by omega,fun k u=>by rw[k1 _ (qS k u)];exact a9 k u,by omega,fun j O => ?_,fun j O hb => ?_⟩
 ·rw[s0];exact u j (by omega)
 ·have dx:=dx 0 j
  by_cases h0:(j:Int)=(U.lit 0).I ρ
  ·have e:zn.row ρ j=b' ρ [eb (.lit 0)]:=by
    show(if(j:Int)=(U.lit 0).I ρ then b' ρ [eb (.lit 0)]else(RL.var 620 [.i .i64]).row ρ j)=_
    rw[if_pos h0]
   rw[e]at dx
   have dx:F.ci 474 0 j=0:=dx
   omega
  ·have e:zn.row ρ j=(RL.var 620 [.i .i64]).row ρ j:=by
    show(if(j:Int)=(U.lit 0).I ρ then b' ρ [eb (.lit 0)]else(RL.var 620 [.i .i64]).row ρ j)=_
    rw[if_neg h0]
   rw[e]at dx
   have dx:F.ci 474 0 j=ρ.ci 620 0 j:=dx
   have:=hd j (by omega)
   omega
 ·have cb:F.cb 472 1 j=false:=cb 1 j
  rw[cb]at hb;cases hb
end Go.Proofs.YtpdfmnhgocpkcaaGreat
namespace Go.Proofs.YtpdfmnhgocpkcaaGreat
open Go Go.Proofs.Aw Go.Proofs.Xw
set_option maxRecDepth 100000
def wF:J:=[(.lt (.lit 6) bh,false),(.lt bh (.lit 1),false),(.lt (.lit 16) (.ch (.cl 194 0 (.cl 2 2 (.var 400)))),false),(.eq bh (.len 621),true),(.lt (.len 621) (.lit 1),false),(.lt (.lit 6) (.len 621),false)]
def r8:DT := .br (.seq wz (.lit ⟨#[]⟩)) (.br (bT (.var 402) 1099511627776) .leaf .leaf) .leaf
def uk:J:=(.lt (.len 610) (.lit 1),false)::ko (.cl 610 0 (.lit 0))
theorem gP {n:Nat} {ρ F:aa} (h:az n ρ F) {B:J} (hb:(B.all fun p=>p.1.ar n)=true) (u:J.ok ρ B):J.ok F B:=fun p hp=>by
 rw[<-BE.aT h p.1 (List.all_eq_true.1 hb p hp)]
 exact u p hp
structure ue (ρ:aa):Prop where
 l6:ρ.len 621<=6
 ky:∀j:Nat,j<ρ.len 621->1<=(ρ.cs 194 0 ((j:Int)+(U.cl 2 2 (.var 400)).I ρ).toNat).size/\(ρ.cs 194 0 ((j:Int)+(U.cl 2 2 (.var 400)).I ρ).toNat).size<=16
 td:∀j:Nat,j<ρ.len 621->ρ.ci 620 0 j=j
 dM:∀k:Nat,k<9->0<=ρ.i (405+k)
structure wR (ρ:aa):Prop where
 l6:ρ.len 610<=6
 td:∀j:Nat,j<ρ.len 610->0<=ρ.ci 610 0 j/\ρ.ci 610 0 j<ρ.len 470
structure rQ:Prop where
 ajc:∀ρ:aa,J.ok ρ dh->0<=bh.I ρ->bh.I ρ<=250->∃F,az 600 ρ F/\F.len 610=0/\((J.ok F wF/\ue F/\∀k∈ei false++ei true,c' Tryz.prog F k)\/(F.len 621=0/\∀k∈dS false++dS true,c' Tryz.prog F k))
 l2:∀(ρ:aa) (ag:Bool),J.ok ρ dh->TI ρ->ρ.i 443=1->(bV 47).I ρ=ag->(ag=true->(BE.eq (.uf 2 0 dq) (.lit 1)).I ρ=true)->∃F,az 600 ρ F/\∀k∈sy ag,c' Tryz.prog F k
 l1:∀(ρ:aa) (ag:Bool),J.ok ρ dh->TI ρ->ρ.i 443=1->(bV 47).I ρ=ag->(ag=true->(BE.eq (.uf 2 0 dq) (.lit 1)).I ρ=true)->∃F,az 600 ρ F/\((F.len 610=0/\∀k∈sx ag++[iH ag false,ib ag false],c' Tryz.prog F k)\/(1<=F.len 610/\wR F/\∀k∈[iH ag true,ib ag true],c' Tryz.prog F k))
def Key (am:aa):Prop:=∀j:Nat,0<=am.ci 2 1002 j/\am.ci 2 1002 j<=250
theorem l_ {ρ:aa} {B:J} (h:J.ok ρ B) (k:Nat) {c:BE} {v:Bool} (Z:B[k]? = some (c,v)):c.I ρ=v:=h _ (List.mem_of_getElem? Z)
theorem o9 {ρ:aa} {B:J} (h:J.ok ρ B) (k:Nat) {a b:U} (Z:B[k]? = some (.lt a b,false)):b.I ρ<=a.I ρ:=by
 have:¬a.I ρ<b.I ρ:=of_decide_eq_false (l_ h k Z)
 omega
structure Hd (ρ:aa):Prop where
 nI:0<=ρ.i 400
 bm:ρ.i 400<=ρ.len 2
 bl:(ρ.len 2:Int)<=250
theorem afT {ρ:aa} (h:J.ok ρ Fq):Hd ρ:=⟨o9 h 7 rfl,o9 h 8 rfl,o9 h 6 rfl⟩
theorem afU {ρ:aa} (h:J.ok ρ n7):Hd ρ/\(ρ.len 460:Int)<=ρ.i 400:=⟨⟨o9 h 7 rfl,o9 h 8 rfl,o9 h 6 rfl⟩,o9 h 15 rfl⟩
theorem RZ {ρ:aa} {a b:J} (h:J.ok ρ (a++b)):J.ok ρ a:=fun p hp=>h p (List.mem_append_left _ hp)
theorem agC {ρ:aa} (h:Hd ρ):i1.I ρ=ρ.i 400+1:=by
 have q1:=h.nI;have q2:=h.bm;have q3:=h.bl
 exact(show i1.I ρ=IntKind.i64.wrap (ρ.i 400+1)from rfl).trans (ca _ (by omega) (by omega))
theorem TI.bq {ρ F:aa} (ah:az 600 ρ F) (h:TI ρ):TI F:=by
 have l0:=ah.len 470 (by decide);have l4:=ah.len 474 (by decide);have dx:=ah.ci 474 (by decide);have s0:=ah.cs 470 (by decide)
 have e0:=ah.i 440 (by decide);have e1:=ah.i 443 (by decide);have b2:=ah.cb 472 (by decide)
 have i3:∀j,(rU j).I F=(rU j).I ρ:=fun j=>by
  show [_,_,_,_,_,_,_,_,_,_,_,_,_,_,_,_,_,_,_,_]=_
  simp only[U.I,TE.I,BE.I,<-ah.ci 472 (by decide),<-ah.cs 472 (by decide),<-ah.cb 472 (by decide)]
  rfl
 exact⟨by rw[<-l0];exact h.n1,by rw[<-l0];exact h.n6,fun j O=>by rw[<-s0];exact h.ky j (by omega),by rw[<-e0];exact h.vR,by rw[<-e1];exact h.r1,by rw[<-e0,<-e1,<-l4];exact h.rn,fun k u=>by rw[<-ah.i (405+k) (by omega)];exact h.dM k u,by rw[<-l4];exact h.l6,
  fun j O=>by rw[<-dx,<-l0];exact h.td j (by omega),fun j O hb=>by rw[i3];exact h.zS j (by omega) (by rw[b2];exact hb)⟩
theorem U5 {ρ:aa} (h:TI ρ) (H:(BE.eq (.var 443) (.lit 1)).I ρ=false):J.ok ρ pn.2:=by
 have A:=h.r1
 have E:¬ρ.i 443=1:=fun W=>by
  have H:(ρ.i 443==1)=false:=H
  rw[W]at H;cases H
 exact fF (by show(2:Int)<=ρ.i 443;omega) (J.bt ρ)
theorem U6 {ρ:aa} (h:TI ρ) (H:(BE.eq (.var 443) (.lit 1)).I ρ=false):J.ok ρ (ko tR):=by
 have A:=h.r1
 have E:¬ρ.i 443=1:=fun W=>by
  have H:(ρ.i 443==1)=false:=H
  rw[W]at H;cases H
 exact h.ahd (by omega)
theorem Hc {ρ:aa} (H:(BE.eq (.var 443) (.lit 1)).I ρ=true):ρ.i 443=1:=by
 have H:(ρ.i 443==1)=true:=H
 exact eq_of_beq H
theorem Bp {P:BE×Bool->Bool} {a b:J} (h:((a++b).all P)=true):a.all P=true/\b.all P=true:=by rwa[List.all_append,Bool.and_eq_true]at h
theorem UI {ρ:aa} {ag:Bool} (A:(bV 47).I ρ=ag) (E:ag=true->(BE.eq (.uf 2 0 dq) (.lit 1)).I ρ=true) {B:J} (u:J.ok ρ B) :
  J.ok ρ (if ag=true then(.eq (.uf 2 0 dq) (.lit 1),true)::(bV 47,true)::B else(bV 47,false)::B):=by
 cases ag with
 | true=>exact J.av (E rfl) (J.av A u)
 | false=>exact J.av A u
theorem Sb {ρ:aa} {bx:Prop} {aU:J} (u:J.ok ρ aU) (bad:J.ok ρ ((.eq (.uf 2 0 dq) (.lit 1),false)::(bV 47,true)::aU)->bx) (go:∀ag,(bV 47).I ρ=ag->(ag=true->(BE.eq (.uf 2 0 dq) (.lit 1)).I ρ=true)->bx):bx:=by
 rcases kV (bV 47) ρ with h | h
 ·rcases kV (.eq (.uf 2 0 dq) (.lit 1)) ρ with E | E
  ·exact go true h fun _=>E
  ·exact bad (J.av E (J.av h u))
 ·exact go false h fun E=>by cases E
theorem acu {ρ:aa} (A:1<=ρ.len 610) (hT:TI ρ) (h:wR ρ):J.ok ρ uk:=by
 obtain⟨t1,t2⟩:=h.td 0 (by omega)
 have h3:=(hT.ky (ρ.ci 610 0 0).toNat (by omega)).2
 exact fF (by show(1:Int)<=ρ.len 610;omega) (fF (show(U.lit 0).I ρ<=(U.cl 610 0 (.lit 0)).I ρ from t1) (xz (show(U.cl 610 0 (.lit 0)).I ρ<(U.len 470).I ρ from t2) (fF (by show((ρ.cs 470 0 (ρ.ci 610 0 0).toNat).size:Int)<=16;omega) (J.bt ρ))))
end Go.Proofs.YtpdfmnhgocpkcaaGreat
namespace Go.Proofs.YtpdfmnhgocpkcaaGreat
open Go Go.Proofs.Aw Go.Proofs.Xw
set_option maxRecDepth 100000
theorem acx {ρ:aa} {B:J} (u:J.ok ρ B) {t:T X} (h:zR B t=true):∃e:BE,t = .ret (.sc (.b e))/\e.I ρ=true:=by
 unfold zR at h
 split at h
 ·rename_i e
  exact⟨e,rfl,rA u h⟩
 ·cases h
theorem J0 {ρ:aa} {b:Bool} {lp:Nat->List bj} (hm:Cy 11 (X.af ρ [fS]) (.sc (.bool b))) (M:∀f i,eC f gb=some i->a1 Tryz.prog ρ i.ntmps (lp f) i.body):b4 Tryz.prog ρ (uz b lp).c :=
 r6 (List.forall_mem_cons.2 ⟨acq,List.forall_mem_cons.2 ⟨hm,List.forall_mem_nil _⟩⟩) M (List.forall_mem_nil _) J9 (List.forall_mem_cons.2 ⟨Q1,List.forall_mem_nil _⟩)
theorem Nn {ρ:aa} {b:Bool} {lp:Nat->List bj} (H:b4 Tryz.prog ρ (uz b lp).c) (hT:d' 460 fc ρ) {B:J} (u:J.ok ρ B) (h:zR B (wZ (uz b lp) 7 kQ B)=true):Cy 7 (X.af ρ kQ) (.sc (.bool true)):=by
 obtain⟨e,A,E⟩:=acx u h
 have g:=acM (c:=uz b lp) H Ih hT u (show(wZ (uz b lp) 7 kQ B).aq ρ=some (.sc (.b e))by rw[A];rfl)
 have ee:X.I ρ (.sc (.b e)) = .sc (.bool true):=by show AV.sc (.bool (e.I ρ))=_;rw[E]
 rw[ee]at g
 exact g
theorem ah0 {ρ:aa} {i:Nat} (h:bY Tryz.prog ρ Tryz.f7.ntmps lS (yp i)):∀g k,eC g gb=some k->a1 Tryz.prog ρ k.ntmps (Gl i g) k.body:=fun g k Z=>by
 unfold Gl
 split
 ·rename_i hf
  have hf:=Nat.eq_of_beq_eq_true hf
  subst hf
  have gc:ji Tryz.prog 7 k:=mS (7,k) (jW _ _ (jV Z))
  refine ou gc Tryz.func7 ?_
  refine kv (c:=Tryz.f7.body.getD .skip) [0] ?_ (List.forall_mem_cons.2 ⟨ku (L:=yp i) (c:=lS) ?_ h,List.forall_mem_nil _⟩)
  ·rfl
  ·rfl
 ·exact a1.nil _ _ _ _
theorem agu:ud []:=fun p hp=>by cases hp
theorem aqD {ρ:aa} (hm:Cy 11 (X.af ρ [fS]) (.sc (.bool false))) (hT:d' 460 fc ρ) {i:Nat} (hL:bY Tryz.prog ρ Tryz.f7.ntmps lS (yp i)) {B:J} (h:ny i B=true) (u:J.ok ρ B):Cy 7 (X.af ρ kQ) (.sc (.bool true)) :=
 Nn (b:=false) (lp:=Gl i) (J0 hm (ah0 hL)) hT u h
theorem arS {ρ:aa} (hm:Cy 11 (X.af ρ [fS]) (.sc (.bool false))) (hT:d' 460 fc ρ) {i:Nat} (hi:i<10) (hL:bY Tryz.prog ρ Tryz.f7.ntmps lS (yp i)) (u:J.ok ρ (lW i)):Cy 7 (X.af ρ kQ) (.sc (.bool true)):=by
 have hr:∀d,lv d=true->DT.ok [] (ny i) d (lW i)=true->Cy 7 (X.af ρ kQ) (.sc (.bool true)):=fun d hn h=>by
  obtain⟨aS,q1,q2⟩:=Xd agu hn h u
  exact aqD hm hT hL q2 q1
 clear hL
 rcases(show i=0\/i=1\/i=2\/i=3\/i=4\/i=5\/i=6\/i=7\/i=8\/i=9 by omega)with h | h | h | h | h | h | h | h | h | h<;>subst h
 ·exact hr .leaf rfl zt0
 ·exact hr .leaf rfl zt1
 ·exact hr jK rfl zt2
 ·exact hr jK rfl zt3
 ·exact hr jK rfl zt4
 ·exact hr jK rfl zt5
 ·exact hr jK rfl zt6
 ·exact hr jK rfl zt7
 ·exact hr jK rfl zt8
 ·exact hr jK rfl zt9
theorem aom {ρ:aa} {bx:Prop} (run:∀B,Hn false B=true->J.ok ρ B->bx) (l:J):∀(B:J),Ho l B=true->J.ok ρ B->(J.ok ρ l->bx)->bx:=by
 induction l with
 | nil=>exact fun _ _ _ k=>k (J.bt ρ)
 | cons p r ih =>
  intro B h u k
  have h':(Hn false ((p.1,!p.2)::B)&&Ho r ((p.1,p.2)::B))=true:=h
  obtain⟨A,E⟩:=Bool.and_eq_true_iff.1 h'
  by_cases H:p.1.I ρ=p.2
  ·exact ih _ E (J.av H u) fun hr=>k (J.av H hr)
  ·refine run _ A (J.av ?_ u)
   revert H
   generalize p.1.I ρ=Y
   generalize p.2=v
   cases Y<;>cases v<;>decide
end Go.Proofs.YtpdfmnhgocpkcaaGreat
namespace Go.Proofs.YtpdfmnhgocpkcaaGreat
open Go Go.Proofs.Aw Go.Proofs.Xw
set_option maxRecDepth 100000
structure o1 (ρ:aa):Prop where
 l:ρ.len 2<=140737488355327
 k:∀j,0<=ρ.ci 2 1002 j/\ρ.ci 2 1002 j<=140737488355327
 s:∀k j,(ρ.cs 2 k j).size<=140737488355327
 n:∀j,(ρ.cs 194 0 j).size<=140737488355327
def nf:U := .cl 2 1002 (.var 700)
def vG (k:Nat):U := .ch (.cl 2 k (.var 700))
def muS:U := .op .add .i64 (.op .add .i64 (.op .add .i64 (.op .add .i64 (vG 3) (vG 53)) (vG 54)) (vG 38)) (vG 39)
def vE:U := .op .add .i64 (.var 702) (.op .quo .i64 muS (.lit 60))
def Od (i n:X):ba:=[(6,i),(3,n)]++((List.range 29).map fun k=>(51-k,X.top))++[(5,.ptr (17,0) [] 0),(22,.top),(21,.top),(20,.top),(19,.top),(16,.top),(15,.top),(14,.top),(13,.top),(12,.top),(11,.top),(10,.top),(9,.top),(4,xi 700),(8,.top),(7,.top),(2,.top),(0,fS)]
def Ob:au:=[((17,0),uy 2 (.var 700) 0 pr)]
def Gx:XS:=⟨Od (xn 0) (.sc (.i .i64 vE)),Ob,50⟩
def yA:XS:=⟨Od (xi 704) (xi 703),Ob,50⟩
def NV:XS:=⟨Od (xi 704) (xi 703),Ob,90⟩
noncomputable def yz:Code:=(dP (Tryz.f11.body.getD .skip))[1]?.getD .skip
noncomputable def oz:Code:=(dP (Tryz.f11.body.getD .skip))[0]?.getD .skip
def miE:U := .ch (.cl 194 0 (.op .cV .i64 (.var 704) (.cl 2 2 (.var 700))))
def B6:U := .op .add .i64 (.var 703) (.op .add .i64 (.lit 1) (.op .quo .i64 miE (.lit 60)))
def mi1:U := .op .add .i64 (.var 704) (.lit 1)
def Gw:J:=[(.lt (.var 704) (.lit 0),false),(.lt nf (.var 704),false),(.lt (.lit 140737488355327) nf,false),(.lt nf (.lit 0),false),(.lt (.var 703) (.lit 0),false),(.lt (.lit 100000000000000) (.var 703),false)]
def miG:J:=(.lt (.lit 250) (.var 703),false)::(.lt (.var 704) nf,true)::Gw
def Wc:J:=(.lt (.lit 250) (.var 703),true)::Gw
def Wd:J:=(.lt (.lit 250) (.var 703),false)::(.lt (.var 704) nf,false)::Gw
noncomputable def mv:cr:=⟨bd [] (fun _=>[]),[],[]⟩
noncomputable def NW (B:J):T (XE×XS):=(ck mv.c.ti (eD mv 12) ((mv.c.hv 11).elim [] (·.ms)) 0 [] 1000 yz B yA).map (dV (yA.t.map (·.1)))
def G6 (n:Nat) (β:Bind) (S:XS):T (XE×XS)->Bool
 | .ret (.normal,s)=>rf 0 n β [] [] S s
 | _=>false
def yy:Bind:=⟨[(703,B6),(704,mi1)],[],[],[]⟩
theorem aie:G6 703 yy yA (NW miG)=true:=by kernel_rfl
theorem aic:dB 0 703 704 [] (0,[]) 0 [] NV (.exit 2) Wc (NW Wc)=true:=by kernel_rfl
theorem aid:dB 0 703 704 [] (0,[]) 0 [] NV (.exit 2) Wd (NW Wd)=true:=by kernel_rfl
theorem NX:da Tryz.f11.ntmps yz=true:=by kernel_rfl
noncomputable def B5:bj:=⟨(dt yz).getD 0,0,703,Gx,gz,[],.ret (.exit 2,NV)⟩
def NU:Bind:=⟨[(703,vE),(704,.lit 0)],[],[],[]⟩
theorem aif:rf 0 703 NU [] [] yA Gx=true:=by kernel_rfl
theorem aib:Gx.ar 703=true:=by kernel_rfl
def Oc (i n:X):ba:=[(4,i),(3,n),(8,.top),(7,.top),(2,.top),(0,fS)]
def GG:XS:=⟨Oc (xn 0) (.sc (.i .i64 (.len 2))),[],5⟩
def oy:XS:=⟨Oc (xi 700) (xi 702),[],5⟩
def Oe:XS:=⟨Oc (xi 700) (xi 702),[],20⟩
def mu1:U := .op .add .i64 (.var 700) (.lit 1)
def GF:J:=[(.lt (.var 700) (.lit 0),false),(.lt (.len 2) (.var 700),false),(.lt (.lit 140737488355327) (.len 2),false),(.lt (.var 702) (.lit 0),false),(.lt (.lit 200000000000000) (.var 702),false),(.lt nf (.lit 0),false),(.lt (.lit 140737488355327) nf,false)]++[3,38,39,53,54].map fun k=>(.lt (.lit 140737488355327) (vG k),false)
def muG:J:=(.lt (.var 700) (.len 2),true)::(.lt (.lit 250) (.var 702),false)::GF
def Wr:J:=(.lt (.lit 250) (.var 702),true)::GF
def Ws:J:=(.lt (.lit 250) (.var 702),false)::(.lt (.var 700) (.len 2),false)::GF
noncomputable def ait (B:J):T (XE×XS):=(ck mv.c.ti (eD mv 12) ((mv.c.hv 11).elim [] (·.ms)) 0 [B5] 1000 oz B oy).map (dV (oy.t.map (·.1)))
noncomputable def Wv (B:J):T (XE×XS):=(ck mv.c.ti (eD mv 12) ((mv.c.hv 11).elim [] (·.ms)) 0 [] 1000 oz B oy).map (dV (oy.t.map (·.1)))
def vF:Bind:=⟨[(700,mu1),(702,.var 703)],[],[],[]⟩
theorem aiy:G6 700 vF oy (ait muG)=true:=by kernel_rfl
theorem aiw:dB 0 700 700 [] (0,[]) 0 [] Oe (.exit 0) Wr (Wv Wr)=true:=by kernel_rfl
theorem aix:dB 0 700 700 [] (0,[]) 0 [] Oe (.exit 0) Ws (Wv Ws)=true:=by kernel_rfl
theorem Of:da Tryz.f11.ntmps oz=true:=by kernel_rfl
noncomputable def Ca:bj:=⟨(dt oz).getD 0,0,700,GG,gz,[],.ret (.exit 0,Oe)⟩
def Oa:Bind:=⟨[(700,.lit 0),(702,.len 2)],[],[],[]⟩
theorem aiz:rf 0 700 Oa [] [] oy GG=true:=by kernel_rfl
theorem aiu:GG.ar 700=true:=by kernel_rfl
theorem ais:oy.ar 703=true:=by kernel_rfl
noncomputable def N' (g:Nat):List bj:=if Nat.beq g 11=true then [Ca]else []
noncomputable def N9:cr:=⟨bd [] N',[],[]⟩
def Wu:J:=[(.lt (.lit 140737488355327) (.len 2),false)]
def Vx:T X->Bool
 | .ret x=>X.beq x (.sc (.b (.lt (.lit 250) (.var 702))))
 | _=>false
theorem aiC:Vx (aM N9 11 [fS] Wu)=true:=by kernel_rfl
end Go.Proofs.YtpdfmnhgocpkcaaGreat
namespace Go.Proofs.YtpdfmnhgocpkcaaGreat
open Go Go.Proofs.Aw Go.Proofs.Xw
set_option maxRecDepth 100000
theorem Zw {a:Int} (h:0<=a):a.tdiv 60=a / 60:=Int.tdiv_eq_ediv_of_nonneg h
theorem Wp {ρ:aa} (hs:∀k,(ρ.cs 2 k (ρ.i 700).toNat).size<=140737488355327) (h0:0<=ρ.i 702) (A:ρ.i 702<=250):ρ.i 702<=vE.I ρ/\vE.I ρ<=20000000000000:=by
 have s3:=hs 3;have s4:=hs 53;have auc:=hs 54;have YK:=hs 38;have YL:=hs 39
 have e:vE.I ρ=IntKind.i64.wrap (ρ.i 702+IntKind.i64.wrap ((IntKind.i64.wrap (IntKind.i64.wrap (IntKind.i64.wrap (IntKind.i64.wrap (((ρ.cs 2 3 (ρ.i 700).toNat).size:Int)+((ρ.cs 2 53 (ρ.i 700).toNat).size:Int))+((ρ.cs 2 54 (ρ.i 700).toNat).size:Int))+((ρ.cs 2 38 (ρ.i 700).toNat).size:Int))+((ρ.cs 2 39 (ρ.i 700).toNat).size:Int))).tdiv 60)):=rfl
 rw[e]
 generalize (ρ.cs 2 3 (ρ.i 700).toNat).size=a at *
 generalize (ρ.cs 2 53 (ρ.i 700).toNat).size=b at *
 generalize (ρ.cs 2 54 (ρ.i 700).toNat).size=c at *
 generalize (ρ.cs 2 38 (ρ.i 700).toNat).size=d at *
 generalize (ρ.cs 2 39 (ρ.i 700).toNat).size=f at *
 rw[ca ((a:Int)+b) (by omega) (by omega),ca ((a:Int)+b+c) (by omega) (by omega),ca ((a:Int)+b+c+d) (by omega) (by omega),ca ((a:Int)+b+c+d+f) (by omega) (by omega),Zw (by omega)]
 rw[ca (((a:Int)+b+c+d+f) / 60) (by omega) (by omega),ca _ (by omega) (by omega)]
 omega
theorem aia {ρ:aa} (hs:∀j,(ρ.cs 194 0 j).size<=140737488355327) (h0:0<=ρ.i 703) (A:ρ.i 703<=250):ρ.i 703+1<=B6.I ρ/\B6.I ρ<=20000000000000:=by
 have s3:=hs (ρ.i 704+ρ.ci 2 2 (ρ.i 700).toNat).toNat
 have e:B6.I ρ=IntKind.i64.wrap (ρ.i 703+IntKind.i64.wrap (1+IntKind.i64.wrap (((ρ.cs 194 0 (ρ.i 704+ρ.ci 2 2 (ρ.i 700).toNat).toNat).size:Int).tdiv 60))):=rfl
 rw[e]
 generalize (ρ.cs 194 0 (ρ.i 704+ρ.ci 2 2 (ρ.i 700).toNat).toNat).size=a at *
 rw[Zw (by omega),ca ((a:Int) / 60) (by omega) (by omega),ca (1+(a:Int) / 60) (by omega) (by omega),ca _ (by omega) (by omega)]
 omega
theorem o1.bq {ρ F:aa} {n:Nat} (ah:az n ρ F) (hn:195<=n) (h:o1 ρ):o1 F :=
 ⟨by rw[<-ah.len 2 (by omega)];exact h.l,fun j=>by rw[<-ah.ci 2 (by omega)];exact h.k j,fun k j=>by rw[<-ah.cs 2 (by omega)];exact h.s k j,fun j=>by rw[<-ah.cs 194 (by omega)];exact h.n j⟩
def lx (ρ:aa):Int:=ρ.ci 2 1002 (ρ.i 700).toNat
structure DV (am ρ:aa):Prop where
 ah:az 703 am ρ
 k0:0<=ρ.i 704
 k1:ρ.i 704<=lx am
 n0:am.i 702+ρ.i 704<=ρ.i 703
 n1:ρ.i 703<=100000000000000
theorem Wt {am ρ:aa} (h:az 703 am ρ):nf.I ρ=lx am:=by
 show ρ.ci 2 1002 (ρ.i 700).toNat=_
 rw[<-h.ci 2 (by decide),<-h.i 700 (by decide)];rfl
theorem ah9 {am ρ:aa} (hS:o1 am) (h0:0<=am.i 702) (h:DV am ρ):J.ok ρ Gw:=by
 have q1:=h.k0;have q2:=h.k1;have q3:=h.n0;have q4:=h.n1
 obtain⟨q5,q6⟩:=hS.k (am.i 700).toNat
 have e:=Wt h.ah
 have q5:0<=lx am:=q5
 have q6:lx am<=140737488355327:=q6
 exact J.av (b_ (show ¬ρ.i 704<0 by omega)) (J.av (b_ (by rw[e];show ¬lx am<ρ.i 704;omega)) (J.av (b_ (by rw[e];show ¬(140737488355327:Int)<lx am;omega)) (J.av (b_ (by rw[e];show ¬lx am<0;omega)) (J.av (b_ (show ¬ρ.i 703<0 by omega)) (J.av (b_ (show ¬(100000000000000:Int)<ρ.i 703 by omega)) (J.bt ρ))))))
theorem Xf {P:Program} {ρ:aa} {N:Nat} {body:Code} {ti:Nat->Option Go.Proofs.Xw.TI} {call:bC} {ms:List Nat} {bN:List bj} {fuel n:Nat} {S lO:XS} {B:J} {ks:List Nat} {β:Bind} (hm:P.follows .mixedOrders=true) (a_:eM.ok P ti) (aP:cX P ρ call) (lh:a1 P ρ N bN body) (d6:da N body=true) (u:J.ok ρ B)
  (h:G6 n β lO ((ck ti call ms 0 bN fuel body B S).map (dV ks))=true):ep P N body 0 S lO ρ (β.cD [] ρ):=by
 generalize hr:(ck ti call ms 0 bN fuel body B S).map (dV ks)=t at h
 unfold G6 at h
 split at h
 ·rename_i s
  exact arl hm a_ aP lh d6 u rfl (s:=s) (by rw[hr];rfl) h
 ·cases h
theorem aih {am:aa} (hS:o1 am) (h0:0<=am.i 702) (E:am.i 702<=250):∃ao,az 703 am ao/\(DV am ao/\(250<ao.i 703\/lx am<=ao.i 704))/\bY Tryz.prog ao Tryz.f11.ntmps yz B5:=by
 have he:az 703 am (NU.cD [] am):=Bind.um (by kernel_rfl) (by kernel_rfl) _
 have aP:∀F,cX Tryz.prog F (eD mv 12):=fun F=>eU (c:=mv) (kW (List.forall_mem_nil _)) (List.forall_mem_nil _) 12
 obtain⟨q5,q6⟩:=hS.k (am.i 700).toNat
 have q5:0<=lx am:=q5
 have q6:lx am<=140737488355327:=q6
 refine ot (P:=Tryz.prog) (N:=Tryz.f11.ntmps) (body:=yz) (k0:=0) (n:=703) (S0:=Gx) (ρ:=am) aib (fun _=>yA) B5 ⟨rfl,rfl,rfl⟩ (fun _ F=>DV am F) (fun F=>DV am F/\(250<F.i 703\/lx am<=F.i 704)) (fun F=>(lx am-F.i 704).toNat) (fun i F hR => ?_)
  ⟨0,NU.cD [] am,he,⟨he,Int.le_refl _,q5,?_,?_⟩,fun ac _ bI=>Cp bI aif _⟩
 ·have q1:=hR.k0;have q2:=hR.k1;have q3:=hR.n0;have q4:=hR.n1
  have j3:=ah9 hS h0 hR
  have e:=Wt hR.ah
  by_cases hn:250<F.i 703
  ·left
   refine⟨⟨hR,.inl hn⟩,?_⟩
   rcases gC mixed cR (aP F) (a1.nil _ _ _ _) NX (J.av (mr (a := .lit 250) (b := .var 703) hn) j3) aic with h | ⟨j,C,_,A,_⟩
   ·exact h
   ·simp at A
  ·by_cases u:F.i 704<lx am
   ·right
    have hs:=hS.bq hR.ah (by decide)
    obtain⟨b1,b2⟩:=aia hs.n (by omega) (by omega)
    have eP:=Xf (β:=yy) (n:=703) (lO:=yA) mixed cR (aP F) (a1.nil _ _ _ _) NX (J.av (b_ (a := .lit 250) (b := .var 703) hn) (J.av (mr (by rw[e];exact u)) j3)) aie
    have ah:az 703 F (yy.cD [] F):=Bind.um (by kernel_rfl) (by kernel_rfl) _
    have e3:(yy.cD [] F).i 703=B6.I F:=rfl
    have e4:(yy.cD [] F).i 704=F.i 704+1:=(show(yy.cD [] F).i 704=IntKind.i64.wrap (F.i 704+1)from rfl).trans (ca _ (by omega) (by omega))
    exact⟨0,_,eP,⟨hR.ah.trans ah,by omega,by omega,by omega,by omega⟩,by omega,ah⟩
   ·left
    refine⟨⟨hR,.inr (by omega)⟩,?_⟩
    rcases gC mixed cR (aP F) (a1.nil _ _ _ _) NX (J.av (b_ (a := .lit 250) (b := .var 703) hn) (J.av (b_ (by rw[e];exact u)) j3)) aid with h | ⟨j,C,_,A,_⟩
    ·exact h
    ·simp at A
 ·have:=(Wp (ρ:=am) (fun k=>hS.s k _) h0 E).1
  show am.i 702+0<=vE.I am
  omega
 ·have:=(Wp (ρ:=am) (fun k=>hS.s k _) h0 E).2
  show vE.I am<=_
  omega
structure zO (am ρ:aa):Prop where
 ah:az 700 am ρ
 i0:0<=ρ.i 700
 i1:ρ.i 700<=am.len 2
 n0:(am.len 2:Int)<=ρ.i 702
 n1:ρ.i 702<=200000000000000
 kk:ρ.i 702<=250->∀j:Nat,(j:Int)<ρ.i 700->am.ci 2 1002 j<=250
theorem N_ {am ρ:aa} (hS:o1 am) (h:zO am ρ):J.ok ρ GF:=by
 have q1:=h.i0;have q2:=h.i1;have q3:=h.n0;have q4:=h.n1
 have hs:=hS.bq h.ah (by decide)
 have q5:=hs.l
 have l2:ρ.len 2=am.len 2:=(h.ah.len 2 (by decide)).symm
 obtain⟨q6,q7⟩:=hs.k (ρ.i 700).toNat
 have q6:0<=nf.I ρ:=q6
 have q7:nf.I ρ<=140737488355327:=q7
 have fs:∀k,¬(U.lit 140737488355327).I ρ<(vG k).I ρ:=fun k=>by
  have:=hs.s k (ρ.i 700).toNat
  show ¬(140737488355327:Int)<((ρ.cs 2 k (ρ.i 700).toNat).size:Int)
  omega
 exact J.av (b_ (show ¬ρ.i 700<0 by omega)) (J.av (b_ (show ¬(ρ.len 2:Int)<ρ.i 700 by omega)) (J.av (b_ (show ¬(140737488355327:Int)<ρ.len 2 by omega)) (J.av (b_ (show ¬ρ.i 702<0 by omega)) (J.av (b_ (show ¬(200000000000000:Int)<ρ.i 702 by omega)) (J.av (b_ (show ¬nf.I ρ<0 by omega)) (J.av (b_ (show ¬(140737488355327:Int)<nf.I ρ by omega))
  (J.av (b_ (fs 3)) (J.av (b_ (fs 38)) (J.av (b_ (fs 39)) (J.av (b_ (fs 53)) (J.av (b_ (fs 54)) (J.bt ρ))))))))))))
theorem aiA {am:aa} (hS:o1 am):∃ao,az 700 am ao/\(zO am ao/\(250<ao.i 702\/(am.len 2:Int)<=ao.i 700))/\bY Tryz.prog ao Tryz.f11.ntmps oz Ca:=by
 have he:az 700 am (Oa.cD [] am):=Bind.um (by kernel_rfl) (by kernel_rfl) _
 have aP:∀F,cX Tryz.prog F (eD mv 12):=fun F=>eU (c:=mv) (kW (List.forall_mem_nil _)) (List.forall_mem_nil _) 12
 have M:=hS.l
 refine ot (P:=Tryz.prog) (N:=Tryz.f11.ntmps) (body:=oz) (k0:=0) (n:=700) (S0:=GG) (ρ:=am) aiu (fun _=>oy) Ca ⟨rfl,rfl,rfl⟩ (fun _ F=>zO am F) (fun F=>zO am F/\(250<F.i 702\/(am.len 2:Int)<=F.i 700)) (fun F=>((am.len 2:Int)-F.i 700).toNat) (fun i F hR => ?_)
  ⟨0,Oa.cD [] am,he,⟨he,Int.le_refl _,show(0:Int)<=am.len 2 by omega,Int.le_refl _,show(am.len 2:Int)<=_ by omega,fun _ j O => ?_⟩,fun ac _ bI=>Cp bI aiz _⟩
 ·have q1:=hR.i0;have q2:=hR.i1;have q3:=hR.n0;have q4:=hR.n1
  have l2:F.len 2=am.len 2:=(hR.ah.len 2 (by decide)).symm
  have hs:=hS.bq hR.ah (by decide)
  by_cases hn:250<F.i 702
  ·left
   refine⟨⟨hR,.inl hn⟩,?_⟩
   rcases gC mixed cR (aP F) (a1.nil _ _ _ _) Of (J.av (mr (a := .lit 250) (b := .var 702) hn) (N_ hS hR)) aiw with h | ⟨j,C,_,A,_⟩
   ·exact h
   ·simp at A
  ·by_cases u:F.i 700<am.len 2
   ·right
    obtain⟨bQ,bm,⟨hI,G⟩,hL⟩:=aih hs (by omega) (by omega)
    have kj:=hs.bq bm (by decide)
    have xJ:zO am bQ:=⟨hR.ah.trans (bm.le (by decide)),by rw[<-bm.i 700 (by decide)];exact q1,by rw[<-bm.i 700 (by decide)];exact q2,by rw[<-bm.i 702 (by decide)];exact q3,by rw[<-bm.i 702 (by decide)];exact q4,by rw[<-bm.i 702 (by decide),<-bm.i 700 (by decide)];exact hR.kk⟩
    have l1:bQ.len 2=am.len 2:=(xJ.ah.len 2 (by decide)).symm
    have se:bQ.i 700=F.i 700:=(bm.i 700 (by decide)).symm
    have e72:bQ.i 702=F.i 702:=(bm.i 702 (by decide)).symm
    have u7:a1 Tryz.prog bQ Tryz.f11.ntmps [B5] oz:=kv (c:=oz) [0] (by kernel_rfl) (List.forall_mem_cons.2 ⟨ku (L:=B5) (c:=yz) (by kernel_rfl) hL,List.forall_mem_nil _⟩)
    have eP:=Xf (β:=vF) (n:=700) (lO:=oy) mixed cR (aP bQ) u7 Of (J.av (mr (a := .var 700) (b := .len 2) (show bQ.i 700<(bQ.len 2:Int)by omega)) (J.av (b_ (a := .lit 250) (b := .var 702) (show ¬(250:Int)<bQ.i 702 by omega)) (N_ hS xJ))) aiy
    have ah:az 700 bQ (vF.cD [] bQ):=Bind.um (by kernel_rfl) (by kernel_rfl) _
    have e3:(vF.cD [] bQ).i 702=bQ.i 703:=rfl
    have e4:(vF.cD [] bQ).i 700=bQ.i 700+1:=(show(vF.cD [] bQ).i 700=IntKind.i64.wrap (bQ.i 700+1)from rfl).trans (ca _ (by omega) (by omega))
    have p1:=hI.k0;have p2:=hI.k1;have GE:=hI.n0;have aub:=hI.n1
    have agp:ep Tryz.prog Tryz.f11.ntmps oz 0 oy oy F (vF.cD [] bQ):=fun ac hE bI=>by
     rw[XS.aT bm _ ais]
     exact eP ac hE bI
    refine⟨0,_,agp,⟨xJ.ah.trans ah,by omega,by omega,by omega,by omega,fun h j O => ?_⟩,by omega,(bm.le (by decide)).trans ah⟩
    by_cases hG:(j:Int)<F.i 700
    ·exact hR.kk (by omega) j hG
    ·have iF:lx F=am.ci 2 1002 j:=by
      show F.ci 2 1002 (F.i 700).toNat=_
      rw[<-hR.ah.ci 2 (by decide),show(F.i 700).toNat=j by omega]
     rcases G with G | G<;>omega
   ·left
    refine⟨⟨hR,.inr (by omega)⟩,?_⟩
    rcases gC mixed cR (aP F) (a1.nil _ _ _ _) Of (J.av (b_ (a := .lit 250) (b := .var 702) hn) (J.av (b_ (a := .var 700) (b := .len 2) (show ¬F.i 700<(F.len 2:Int)by omega)) (N_ hS hR))) aix with h | ⟨j,C,_,A,_⟩
    ·exact h
    ·simp at A
 ·have O:(j:Int)<0:=O
  omega
theorem aiB {ρ:aa} (h:bY Tryz.prog ρ Tryz.f11.ntmps oz Ca):∀g i,eC g gb=some i->a1 Tryz.prog ρ i.ntmps (N' g) i.body:=fun g i hi=>by
 unfold N'
 split
 ·rename_i hf
  have hf:=Nat.eq_of_beq_eq_true hf
  subst hf
  have gc:ji Tryz.prog 11 i:=mS (11,i) (jW _ _ (jV hi))
  refine ou gc Tryz.func11 ?_
  exact kv (c:=Tryz.f11.body.getD .skip) [0] (by kernel_rfl) (List.forall_mem_cons.2 ⟨ku (L:=Ca) (c:=oz) (by kernel_rfl) h,List.forall_mem_nil _⟩)
 ·exact a1.nil _ _ _ _
theorem aiv {ρ:aa} (hS:o1 ρ):∃b:Bool,Cy 11 (X.af ρ [fS]) (.sc (.bool b))/\(b=false->ρ.len 2<=250/\∀j,j<ρ.len 2->ρ.ci 2 1002 j<=250):=by
 obtain⟨ao,ah,⟨hI,G⟩,hL⟩:=aiA hS
 have hr:=aiC
 unfold Vx at hr
 split at hr
 ·rename_i x bD
  have:=X.beq_eq _ _ hr
  subst this
  have hs:=hS.bq ah (by decide)
  have M:=hs.l
  have g:=ec (c:=N9) (hj (List.forall_mem_nil _) (aiB hL)) (List.forall_mem_nil _) (J.av (b_ (a := .lit 140737488355327) (b := .len 2) (show ¬(140737488355327:Int)<ao.len 2 by omega)) (J.bt ao)) (show(aM N9 11 [fS] Wu).aq ao=some _ by rw[bD];rfl)
  have e1:X.af ao [fS]=X.af ρ [fS]:=(X.fZ ah [fS] (by kernel_rfl)).symm
  rw[e1]at g
  refine⟨decide (250<ao.i 702),g,fun h => ?_⟩
  have h:=of_decide_eq_false h
  have v0:=hI.n0
  refine⟨by omega,fun j O=>hI.kk (by omega) j ?_⟩
  rcases G with G | G<;>omega
 ·cases hr
end Go.Proofs.YtpdfmnhgocpkcaaGreat
