/- Parts of the proof, one behind the other. -/
import Derived.Test.YtpdfmnhgocpkcaaGreatTM8
import Derived.Test.YtpdfmnhgocpkcaaGreatTM13
import Derived.Test.YtpdfmnhgocpkcaaGreatTM3
import Derived.Test.YtpdfmnhgocpkcaaGreatTM7
import Derived.Test.YtpdfmnhgocpkcaaGreatTM6
import Derived.Test.YtpdfmnhgocpkcaaGreatTM5
namespace Go.Proofs.YtpdfmnhgocpkcaaGreat
open Go Go.Proofs.Aw Go.Proofs.Xw Go.Proofs.Sr
set_option maxRecDepth 100000
theorem aoP {ρ:aa} (h:O8.I ρ=true):(ρ.s 0).size<9223372036854775808/\1<=ρ.i 1/\ρ.i 1<=3:=by
 obtain⟨A,E⟩:=ll h
 have A:¬(1000000:Int)<(ρ.s 0).size:=yw A
 have E:=km E
 exact⟨by omega,E.1,E.2⟩
theorem atx {ρ:aa} (h:O8.I ρ=true):∃g,jQ 0 (RR.I ρ) g:=by
 obtain⟨A,E,h3⟩:=aoP h
 have b:=arw (ρ.i 1) (pt (ρ.s 0)) ⟨E,h3⟩
 refine⟨fun _=>sec (ρ.i 1) (pt (ρ.s 0)),⟨fun f hf n hp => ?_,fun j => ?_,trivial⟩⟩
 ·simp only[eJ,List.mem_cons,List.not_mem_nil,or_false]at hf
  rcases hf with rfl | rfl
  ·exact(ajX _ A _ ⟨E,h3⟩).2 n hp
  ·exact(aj3 _ A _ ⟨E,h3⟩).2 n hp
 ·simp only[jg];omega
theorem YV (f:Nat) (hf:f∈eJ 0):c4 Tryz.prog (PR f):=⟨pd f (by simp only[eJ,List.mem_cons,List.not_mem_nil,or_false]at hf;rcases hf with rfl | rfl<;>decide),fun ρ n h hp=>by
 obtain⟨g,Z⟩:=atx hp
 exact(iz Z).qo f hf n h⟩
theorem Ig:∀s∈h2,c4 Tryz.prog s:=by
 intro s hs
 simp only[h2,List.map_cons,List.map_nil,List.mem_append,List.mem_cons,List.not_mem_nil,or_false]at hs
 rcases hs with(rfl | rfl | rfl | rfl | rfl | rfl | rfl | rfl | rfl | rfl | rfl | rfl | rfl | rfl | rfl | rfl | rfl | rfl | rfl | rfl) | (rfl | rfl | rfl | rfl) | (rfl | rfl | rfl | rfl)
 ·exact YV 33 (by decide)
 ·exact YV 104 (by decide)
 ·exact H6 97 (by decide)
 ·exact H6 105 (by decide)
 ·exact YX 28 (by decide)
 ·exact YX 81 (by decide)
 ·exact YW 24 (by decide)
 ·exact YW 114 (by decide)
 ·exact Gt _ List.mem_cons_self
 ·exact Gt _ (List.mem_cons_of_mem _ List.mem_cons_self)
 ·exact YU 36 (by decide)
 ·exact YU 108 (by decide)
 ·exact YR 34 (by decide)
 ·exact YR 110 (by decide)
 ·exact H3 35 (by decide)
 ·exact H3 135 (by decide)
 ·exact YQ 27 (by decide)
 ·exact YQ 77 (by decide)
 ·exact YS 94 (by decide)
 ·exact YS 107 (by decide)
 ·exact tH 92 1 (by decide) (by omega)
 ·exact tH 92 2 (by decide) (by omega)
 ·exact tH 92 3 (by decide) (by omega)
 ·exact tH 92 4 (by decide) (by omega)
 ·exact tH 109 1 (by decide) (by omega)
 ·exact tH 109 2 (by decide) (by omega)
 ·exact tH 109 3 (by decide) (by omega)
 ·exact tH 109 4 (by decide) (by omega)
end Go.Proofs.YtpdfmnhgocpkcaaGreat
namespace Go.Proofs.YtpdfmnhgocpkcaaGreat
open Go Go.Proofs.Aw Go.Proofs.Xw
set_option maxRecDepth 100000
def hfA:List Nat:=[48,124,30050,30052,30061,30122,30116,20051,20074,12,13,18,47,98,130,16,17,40,26,43,21,44,95,115,88,76,10073,10089,10090,10057,10019,10032,10020,10022,10025,10106,10080,10119,10118,10121,10103]
noncomputable def Jq:cj:=⟨bd [] (fun _=>[]),h2,hfA⟩
theorem acu:iw (aN Jq 10 [] []) (.ret (xl true))=true:=by kernel_rfl
theorem acs:Cy 10 [] (.sc (.bool true)):=by
 have e:=p6 acu
 let ρ:aa:=⟨fun _=>0,fun _=>false,fun _=>⟨#[]⟩,fun _=>0,fun _ _ _=>0,fun _ _ _=>false,fun _ _ _=>⟨#[]⟩,kz⟩
 exact ef (ρ:=ρ) (c:=Jq) (kW (List.forall_mem_nil _)) Ig (J.bq ρ) (show(aN Jq 10 [] []).aq ρ=some (xl true)by rw[e];rfl)
end Go.Proofs.YtpdfmnhgocpkcaaGreat
namespace Go.Proofs.YtpdfmnhgocpkcaaGreat
open Go Go.Proofs.Aw Go.Proofs.Xw
set_option maxRecDepth 100000
theorem vJ (ρ:aa):J.ok ρ []:=J.bq ρ
theorem Gm {ρ:aa} {a b:U} (h:(BE.not (.lt a b)).I ρ=true):b.I ρ<=a.I ρ:=by have:=yw h;omega
theorem V_ {ρ:aa} {a b:U} (h:(BE.lt a b).I ρ=true):a.I ρ<b.I ρ:=of_decide_eq_true h
theorem mU {ρ:aa} {a b:U} (h:b.I ρ<=a.I ρ) {B:J} (u:J.ok ρ B):J.ok ρ ((.lt a b,false)::B):=J.av (b' (by omega)) u
theorem Ug {ρ:aa} {a b:U} (h:a.I ρ<b.I ρ) {B:J} (u:J.ok ρ B):J.ok ρ ((.lt a b,true)::B):=J.av (mr h) u
noncomputable def Pj (ρ:aa):aa:={ ρ with i:=fun k=>(gM k).I ρ,b:=fun _=>(bU 24).I ρ }
theorem apK (ρ:aa):(h9 0).I (Pj ρ)=mI.I ρ:=rfl
theorem Sp {ρ:aa} (h:(BE.eq (.uf 1 0 mI) (.lit 1)).I ρ=true):1<=(gM 1).I ρ/\(gM 1).I ρ<=4/\∀k:Nat,(k:Int)<(gM 1).I ρ->0<=(gM (2+2*k)).I ρ/\(gM (2+2*k)).I ρ<=3:=by
 have h:=l8 h
 rw[<-apK]at h
 obtain⟨g,Z⟩:=IJ (Pj ρ)
 obtain⟨b1,b2,dt⟩:=(iz Z).tg h
 refine⟨b1,b2,fun k u => ?_⟩
 have E:(gM 1).I ρ<=4:=b2
 have:=dt k u
 have q:vI ((h9 0).I (Pj ρ)) (2+2*k)=(gM (2+2*k)).I ρ:=by
  rcases(show k=0\/k=1\/k=2\/k=3 by omega)with rfl | rfl | rfl | rfl<;>rfl
 rw[q]at this
 exact this
theorem afw (ρ:aa) (h:(MI mI gM).1.I ρ=true):J.ok ρ (MI mI gM).2:=by
 obtain⟨A,E,h3⟩:=Sp h
 have h4:=h3 0 (by show(0:Int)<_;omega)
 exact mU (show(U.lit 1).I ρ<=_ from A) (mU (show _<=(U.lit 4).I ρ from E) (mU (show(U.lit 0).I ρ<=_ from h4.1) (mU (show _<=(U.lit 3).I ρ from h4.2) (vJ ρ))))
theorem eqD {ρ:aa} {a:U} {n:Int} (h:(BE.eq a (.lit n)).I ρ=true):a.I ρ=n:=by
 have h:(a.I ρ==n)=true:=h
 exact eq_of_beq h
theorem Ff (ρ:aa) (n:Nat) (h:(x8 mI gM n).1.I ρ=true):J.ok ρ (x8 mI gM n).2:=by
 obtain⟨ha,hb⟩:=ll h
 obtain⟨_,_,h3⟩:=Sp ha
 have hn:=eqD hb
 intro p hp
 obtain⟨k,u,hp⟩:=List.mem_flatMap.1 hp
 have u:=List.mem_range.1 u
 have h4:=h3 k (by omega)
 rcases List.mem_cons.1 hp with rfl | hp
 ·exact b' (by have:=h4.1;show ¬(gM (2+2*k)).I ρ<0;omega)
 ·rcases List.mem_cons.1 hp with rfl | hp
  ·exact b' (by have:=h4.2;show ¬3<(gM (2+2*k)).I ρ;omega)
  ·cases hp
theorem aiO {n:Nat} (hn:n=1\/n=2\/n=3\/n=4) (vs:List Value) (w:Nat->Int) (R:vs=(fB 0 (2*n+2) .nil).I { (⟨fun _=>0,fun _=>false,fun _=>⟨#[]⟩,fun _=>0,fun _ _ _=>0,fun _ _ _=>false,fun _ _ _=>⟨#[]⟩,kz⟩:aa)with i:=w }) (hb:∀k,k<2*n+2 -> -16384<=w k/\w k<=16384):UF 8 vs 0<=(n:Int)-1:=by
 obtain⟨g,Z⟩:=aah (ρ:={ (⟨fun _=>0,fun _=>false,fun _=>⟨#[]⟩,fun _=>0,fun _ _ _=>0,fun _ _ _=>false,fun _ _ _=>⟨#[]⟩,kz⟩:aa)with i:=w }) hn hb
 have h:=(iz Z).tg
 rw[<-R]at h
 obtain⟨h,_⟩:=h
 have M:vs.length=2*n+2:=by rw[R];exact Jr _ hn
 rw[M]at h
 omega
theorem mY (fQ:U) {n:Nat} (hn:n=1\/n=2\/n=3\/n=4) (ρ:aa):J.ok ρ (mi fQ n).2:=by
 refine mU ?_ (vJ ρ)
 show(s9 fQ n).I ρ<=(n:Int)-1
 have fg:∀vs j,-16384<=UF 4 vs j/\UF 4 vs j<=16384:=fun vs j=>DY 4 vs j
 have R7:∀vs j,-16384<=UF 5 vs j/\UF 5 vs j<=16384:=fun vs j=>DY 5 vs j
 let hA:AL := .i (.var 401) (.i (.var 4) .nil)
 let Or:Nat->AL:=fun k => .i (.var 401) (.i fQ (.i (gM (2+2*k)) .nil))
 let w:Nat->Int:=fun k=>if k=0 then UF 5 (hA.I ρ) 0 else if k=1 then UF 5 (hA.I ρ) 1 else UF 4 ((Or (k / 2-1)).I ρ) (k % 2)
 refine aiO hn _ w ?_ fun k _ => ?_
 ·rcases hn with rfl | rfl | rfl | rfl<;>rfl
 ·show -16384<=(if k=0 then UF 5 (hA.I ρ) 0 else if k=1 then UF 5 (hA.I ρ) 1 else UF 4 ((Or (k / 2-1)).I ρ) (k % 2))/\(if k=0 then UF 5 (hA.I ρ) 0 else if k=1 then UF 5 (hA.I ρ) 1 else UF 4 ((Or (k / 2-1)).I ρ) (k % 2))<=16384
  split
  ·exact R7 _ _
  ·split
   ·exact R7 _ _
   ·exact fg _ _
theorem afD (ρ:aa) (h:MM.1.I ρ=true):J.ok ρ MM.2:=by
 refine mU ?_ (vJ ρ)
 have h:((wz.I ρ).toList==(⟨#[]⟩:ByteArray).toList)=true:=h
 have h:=eq_of_beq h
 show((wz.I ρ).size:Int)<=32
 generalize wz.I ρ=s at h
 have E:s.data.toList=[]:=by rw[ByteArray.toList_eq,ByteArray.toList_eq]at h;exact h
 have h3:s.size=0:=by
  show s.data.size=0
  rw[<-Array.length_toList,E];rfl
 omega
theorem upD (ρ:aa) (k:Nat):(up k).I ρ=IntKind.i64.wrap (ρ.i k+1):=rfl
theorem afA (ρ:aa) (h:ML.1.I ρ=true):J.ok ρ ML.2:=by
 obtain⟨A,E⟩:=ll h
 obtain⟨E,h3⟩:=ll E
 obtain⟨E,h4⟩:=ll E
 have bl:ρ.i 431<ρ.i 1:=V_ E
 have DZ:0<=ρ.i 431:=Gm h4
 have gL:ρ.i 1<=3:=Gm h3
 have e:(up 431).I ρ=ρ.i 431+1:=by rw[upD];exact cc _ (by omega) (by omega)
 have bm:¬(up 431).I ρ=ρ.i 1:=fun W=>by
  have A:(!((up 431).I ρ==ρ.i 1))=true:=A
  rw[W]at A;simp at A
 have em:(mkAdd (.var 431) (.lit 1)).I ρ=ρ.i 431+1:=by rw[fe];rfl
 exact Ug (by rw[e];show _<ρ.i 1;omega) (mU (by rw[e];show _<=(2:Int);omega) (Ug (by rw[em];show _<ρ.i 1;omega) (mU (by rw[em];show _<=(2:Int);omega) (mU (by rw[em];show(0:Int)<=_;omega) (vJ ρ)))))
theorem afz (ρ:aa) (h:MK.1.I ρ=true):J.ok ρ MK.2:=by
 have h:((up 431).I ρ==ρ.i 1)=true:=h
 exact mU (by rw[eq_of_beq h];exact Int.le_refl _) (vJ ρ)
theorem afx (ρ:aa) (h:MJ.1.I ρ=true):J.ok ρ MJ.2:=by
 obtain⟨A,E⟩:=ll h
 have bm:(cA 4).I ρ<ρ.i 0:=V_ A
 have bl:ρ.i 0<=3:=Gm E
 exact mU (by show(cA 4).I ρ<=2;omega) (vJ ρ)
theorem afC (ρ:aa) (h:pn.1.I ρ=true):J.ok ρ pn.2:=by
 obtain⟨A,E⟩:=ll h
 have bl:1<=ρ.i 443:=Gm E
 have bm:¬ρ.i 443=1:=fun W=>by
  have A:(!(ρ.i 443==1))=true:=A
  rw[W]at A;simp at A
 exact mU (by show(2:Int)<=ρ.i 443;omega) (vJ ρ)
theorem agv:uc a':=by
 intro p hp ρ h
 simp only[a',hyps,List.cons_append,List.nil_append,List.mem_cons,List.not_mem_nil,or_false]at hp
 rcases hp with rfl | rfl | rfl | rfl | rfl | rfl | rfl | rfl | rfl | rfl | rfl | rfl | rfl | rfl | rfl | rfl | rfl | rfl | rfl | rfl | rfl | rfl
 ·exact afD ρ h
 ·exact afw ρ h
 ·exact Ff ρ 1 h
 ·exact Ff ρ 2 h
 ·exact Ff ρ 3 h
 ·exact Ff ρ 4 h
 ·exact afA ρ h
 ·exact afz ρ h
 ·exact mY _ (by omega) ρ
 ·exact mY _ (by omega) ρ
 ·exact mY _ (by omega) ρ
 ·exact mY _ (by omega) ρ
 ·exact mY _ (by omega) ρ
 ·exact mY _ (by omega) ρ
 ·exact mY _ (by omega) ρ
 ·exact mY _ (by omega) ρ
 ·exact afx ρ h
 ·exact mY _ (by omega) ρ
 ·exact mY _ (by omega) ρ
 ·exact mY _ (by omega) ρ
 ·exact mY _ (by omega) ρ
 ·exact afC ρ h
end Go.Proofs.YtpdfmnhgocpkcaaGreat
namespace Go.Proofs.YtpdfmnhgocpkcaaGreat
open Go Go.Proofs.Aw Go.Proofs.Xw
set_option maxRecDepth 100000
def rT (j:Nat):AL:=(List.range 6).foldr (fun k r => .i (.cl 472 (2+k) (.lit j)) r) (.s (.cl 472 8 (.lit j)) (.s (.cl 472 9 (.lit j)) (.b (.cl 472 10 (.lit j)) ((List.range 11).foldr (fun k r => .i (.cl 472 (11+k) (.lit j)) r) .nil))))
theorem qS (k:Nat) (h:k<9):405+k∈jA:=by
 rcases(show k=0\/k=1\/k=2\/k=3\/k=4\/k=5\/k=6\/k=7\/k=8 by omega)with rfl | rfl | rfl | rfl | rfl | rfl | rfl | rfl | rfl<;>decide
theorem yo (k:Nat) (h:k<9):405+k∈mm:=List.mem_append_left _ (qS k h)
structure TI (ρ:aa):Prop where
 n1:1<=ρ.len 470
 n6:ρ.len 470<=6
 ky:∀j:Nat,j<ρ.len 470->1<=(ρ.cs 470 0 j).size/\(ρ.cs 470 0 j).size<=16
 vP:0<=ρ.i 440
 r1:1<=ρ.i 443
 rn:ρ.i 440+ρ.i 443=ρ.len 474
 dM:∀k:Nat,k<9->0<=ρ.i (405+k)
 l6:ρ.len 474<=6
 td:∀j:Nat,j<ρ.len 474->0<=ρ.ci 474 0 j/\ρ.ci 474 0 j<ρ.len 470
 zS:∀j:Nat,j<ρ.len 470->ρ.cb 472 1 j=true->UF 2 ((rT j).I ρ) 0=1
theorem xy {ρ:aa} {a b:U} (h:a.I ρ<b.I ρ) {B:J} (u:J.ok ρ B):J.ok ρ ((.lt a b,true)::B):=J.av (decide_eq_true h) u
theorem fF {ρ:aa} {a b:U} (h:b.I ρ<=a.I ρ) {B:J} (u:J.ok ρ B):J.ok ρ ((.lt a b,false)::B):=J.av (decide_eq_false (by omega)) u
theorem TI.tr {ρ:aa} (h:TI ρ):J.ok ρ oU:=by
 have q1:=h.n1;have q2:=h.n6;have q3:=h.vP;have q4:=h.r1;have q5:=h.rn;have q6:=h.l6
 unfold oU
 exact fF (by show(1:Int)<=ρ.len 470;omega) (fF (by show(ρ.len 470:Int)<=6;omega) (fF (by show ρ.i 440+ρ.i 443<=(ρ.len 474:Int);omega) (fF (by show(0:Int)<=ρ.i 440;omega) (fF (by show ρ.i 440<=5;omega) (xy (by show ρ.i 440<(ρ.len 474:Int);omega) (fF (by show(1:Int)<=ρ.i 443;omega) (fF (by show ρ.i 443<=6;omega) (J.bq ρ))))))))
theorem TI.key {ρ:aa} (h:TI ρ) {e:U} {j:Nat} (G:e.I ρ=ρ.ci 474 0 j) (O:j<ρ.len 474):J.ok ρ (ko e):=by
 obtain⟨A,E⟩:=h.td j O
 have h3:=(h.ky (ρ.ci 474 0 j).toNat (by omega)).2
 unfold ko
 refine fF (by rw[G];exact A) (xy (by rw[G];exact E) (fF ?_ (J.bq ρ)))
 show((ρ.cs 470 0 (e.I ρ).toNat).size:Int)<=16
 rw[G];omega
theorem TI.VN {ρ:aa} (h:TI ρ):J.ok ρ (ko g8):=by
 have q3:=h.vP;have q4:=h.r1;have q5:=h.rn
 exact h.key (j:=(ρ.i 440).toNat) rfl (by omega)
theorem TI.ahd {ρ:aa} (h:TI ρ) (E:2<=ρ.i 443):J.ok ρ (ko tQ):=by
 have q3:=h.vP;have q5:=h.rn
 refine h.key (j:=(ρ.i 440).toNat+1) ?_ (by omega)
 show ρ.ci 474 0 ((mkAdd (.var 440) (.lit 1)).I ρ).toNat=_
 rw[fe]
 have:((U.var 440).I ρ+(U.lit 1).I ρ).toNat=(ρ.i 440).toNat+1:=by show(ρ.i 440+1).toNat=_;omega
 rw[this]
theorem RW {F:aa} {j:Nat} {l:List AV} (hi:∀k,F.ci 472 k j=aH l[k]?) (hb:∀k,F.cb 472 k j=dK l[k]?) (hs:∀k,F.cs 472 k j=cellS l[k]?) :
  (rT j).I F=[.int .i64 (aH l[2]?),.int .i64 (aH l[3]?),.int .i64 (aH l[4]?),.int .i64 (aH l[5]?),.int .i64 (aH l[6]?),.int .i64 (aH l[7]?),.string (cellS l[8]?),.string (cellS l[9]?),.bool (dK l[10]?),.int .i64 (aH l[11]?),.int .i64 (aH l[12]?),.int .i64 (aH l[13]?),.int .i64 (aH l[14]?),.int .i64 (aH l[15]?),.int .i64 (aH l[16]?),.int .i64 (aH l[17]?),.int .i64 (aH l[18]?),.int .i64 (aH l[19]?),.int .i64 (aH l[20]?),.int .i64 (aH l[21]?)]:=by
 simp only[<-hi,<-hb,<-hs]
 rfl
theorem RY {ρ F:aa} {j:Nat} (hi:∀k,F.ci 472 k j=aH ((RL.var 472 gh).row ρ j)[k]?) (hb:∀k,F.cb 472 k j=dK ((RL.var 472 gh).row ρ j)[k]?) (hs:∀k,F.cs 472 k j=cellS ((RL.var 472 gh).row ρ j)[k]?):F.cb 472 1 j=ρ.cb 472 1 j/\(rT j).I F=(rT j).I ρ:=by
 refine⟨hb 1,?_⟩
 rw[RW hi hb hs]
 rfl
theorem TI.sV {ρ F:aa} {fr:Nat} {ki:List Nat} (ob:∀k,k<9->405+k∈ki) (h:TI ρ) (a:gI (iB fr ki) ρ F):TI F:=by
 obtain⟨_,⟨k1,k2⟩,_,k4⟩:=a
 have e0:=k1 440 List.mem_cons_self
 have e1:=k1 443 (List.mem_cons_of_mem _ List.mem_cons_self)
 obtain⟨l0,c0,_,s0⟩:=k2 470 List.mem_cons_self
 obtain⟨l4,dy,_,_⟩:=k2 474 (List.mem_cons_of_mem _ List.mem_cons_self)
 obtain⟨_,ci,cb,cs⟩:=k4 _ List.mem_cons_self
 refine⟨by rw[l0];exact h.n1,by rw[l0];exact h.n6,fun j O => ?_,by rw[e0];exact h.vP,by rw[e1];exact h.r1,by rw[e0,e1,l4];exact h.rn,fun k u=>by rw[k1 _ (List.mem_cons_of_mem _ (List.mem_cons_of_mem _ (ob k u)))];exact h.dM k u,by rw[l4];exact h.l6,fun j O => ?_,fun j O hb => ?_⟩
 ·rw[s0];exact h.ky j (by omega)
 ·rw[dy,l0];exact h.td j (by omega)
 ·obtain⟨g1,g2⟩:=RY (fun k=>ci k j) (fun k=>cb k j) (fun k=>cs k j)
  rw[g2]
  exact h.zS j (by omega) (by rw[<-g1];exact hb)
theorem RZ {ρ F:aa} {ag:Bool} (hf:J.ok ρ (qw ag)) (aha:Nat) (_h0:g8.I ρ=aha) {j:Nat} (h:ρ.cb 472 1 j=true->UF 2 ((rT j).I ρ) 0=1) (hi:∀k,F.ci 472 k j=aH ((b9 ag).row ρ j)[k]?) (hb:∀k,F.cb 472 k j=dK ((b9 ag).row ρ j)[k]?) (hs:∀k,F.cs 472 k j=cellS ((b9 ag).row ρ j)[k]?)
  (hq:F.cb 472 1 j=true):UF 2 ((rT j).I F) 0=1:=by
 by_cases O:(j:Int)=g8.I ρ
 ·have e:(b9 ag).row ρ j=ca ρ (mK ag):=by
   show(if(j:Int)=g8.I ρ then ca ρ (mK ag)else(RL.var 472 gh).row ρ j)=_
   rw[if_pos O]
  rw[e]at hi hb hs
  cases ag with
  | false =>
   have A:(bU 47).I ρ=false:=hf _ List.mem_cons_self
   have E:F.cb 472 1 j=(bU 47).I ρ:=hb 1
   rw[E,A]at hq;cases hq
  | true =>
   have A:(BE.eq (.uf 2 0 dr) (.lit 1)).I ρ=true:=hf _ List.mem_cons_self
   have A:UF 2 (dr.I ρ) 0=1:=by simpa [BE.I,U.I]using A
   rw[RW hi hb hs]
   exact A
 ·have e:(b9 ag).row ρ j=(RL.var 472 gh).row ρ j:=by
   show(if(j:Int)=g8.I ρ then ca ρ (mK ag)else(RL.var 472 gh).row ρ j)=_
   rw[if_neg O]
  rw[e]at hi hb hs
  obtain⟨g1,g2⟩:=RY hi hb hs
  rw[g2]
  exact h (by rw[<-g1];exact hq)
theorem TI.more {ρ F:aa} {fr:Nat} {ki:List Nat} {ag:Bool} (ob:∀k,k<9->405+k∈ki) (h:TI ρ) (a:gI (qc fr ki ag) ρ F):TI F:=by
 obtain⟨k0,⟨k1,k2⟩,k3,k4⟩:=a
 have E:¬ρ.i 443<2:=of_decide_eq_false (k0 _ List.mem_cons_self)
 have hf:J.ok ρ (qw ag):=fun p hp=>k0 p (List.mem_cons_of_mem _ hp)
 have e0:F.i 440=ρ.i 440+1:=k3 _ List.mem_cons_self
 have e1:F.i 443=ρ.i 443-1:=k3 _ (List.mem_cons_of_mem _ List.mem_cons_self)
 obtain⟨l0,c0,_,s0⟩:=k2 470 List.mem_cons_self
 obtain⟨l4,dy,_,_⟩:=k2 474 (List.mem_cons_of_mem _ List.mem_cons_self)
 obtain⟨_,ci,cb,cs⟩:=k4 _ List.mem_cons_self
 have q3:=h.vP;have q4:=h.r1;have q5:=h.rn
 obtain⟨t1,t2⟩:=h.td (ρ.i 440).toNat (by omega)
 refine⟨by rw[l0];exact h.n1,by rw[l0];exact h.n6,fun j O => ?_,by omega,by omega,by omega,fun k u=>by rw[k1 _ (ob k u)];exact h.dM k u,by rw[l4];exact h.l6,fun j O => ?_,fun j O hb => ?_⟩
 ·rw[s0];exact h.ky j (by omega)
 ·rw[dy,l0];exact h.td j (by omega)
 ·refine RZ hf (g8.I ρ).toNat ?_ (h.zS j (by omega)) (fun k=>ci k j) (fun k=>cb k j) (fun k=>cs k j) hb
  have:g8.I ρ=ρ.ci 474 0 (ρ.i 440).toNat:=rfl
  omega
theorem TI.IC {ρ F:aa} {ag:Bool} (h:TI ρ) (h6:ρ.len 610<=6) (hd:∀j:Nat,j<ρ.len 610->0<=ρ.ci 610 0 j/\ρ.ci 610 0 j<ρ.len 470) (a:gI (wU ag) ρ F):TI F:=by
 obtain⟨k0,⟨k1,k2⟩,k3,k4⟩:=a
 have A:¬(ρ.len 610:Int)<1:=of_decide_eq_false (k0 _ List.mem_cons_self)
 have hf:J.ok ρ (qw ag):=fun p hp=>k0 p (List.mem_cons_of_mem _ hp)
 have e0:F.i 440=0:=k3 _ List.mem_cons_self
 have e1:F.i 443=ρ.len 610:=k3 _ (List.mem_cons_of_mem _ List.mem_cons_self)
 obtain⟨l0,c0,_,s0⟩:=k2 470 List.mem_cons_self
 obtain⟨l4,dy,_,_⟩:=k4 _ List.mem_cons_self
 obtain⟨_,ci,cb,cs⟩:=k4 _ (List.mem_cons_of_mem _ List.mem_cons_self)
 have l4:F.len 474=ρ.len 610:=by rw[l4];exact Int.toNat_natCast _
 have dy:∀j,F.ci 474 0 j=ρ.ci 610 0 j:=fun j=>dy 0 j
 have q3:=h.vP;have q4:=h.r1;have q5:=h.rn
 obtain⟨t1,t2⟩:=h.td (ρ.i 440).toNat (by omega)
 refine⟨by rw[l0];exact h.n1,by rw[l0];exact h.n6,fun j O => ?_,by omega,by omega,by omega,fun k u=>by rw[k1 _ (qS k u)];exact h.dM k u,by omega,fun j O => ?_,fun j O hb => ?_⟩
 ·rw[s0];exact h.ky j (by omega)
 ·rw[dy,l0];exact hd j (by omega)
 ·refine RZ hf (g8.I ρ).toNat ?_ (h.zS j (by omega)) (fun k=>ci k j) (fun k=>cb k j) (fun k=>cs k j) hb
  have:g8.I ρ=ρ.ci 474 0 (ρ.i 440).toNat:=rfl
  omega
theorem TI.first {ρ F:aa} {fr:Nat} (h6:ρ.len 621<=6) (u:∀j:Nat,j<ρ.len 621->1<=(ρ.cs 194 0 ((j:Int)+(U.cl 2 2 (.var 400)).I ρ).toNat).size/\(ρ.cs 194 0 ((j:Int)+(U.cl 2 2 (.var 400)).I ρ).toNat).size<=16) (hd:∀j:Nat,j<ρ.len 621->ρ.ci 620 0 j=j) (a9:∀k:Nat,k<9->0<=ρ.i (405+k)) (a:gI (wT fr) ρ F):TI F:=by
 obtain⟨k0,⟨k1,_⟩,k3,k4⟩:=a
 have A:¬(ρ.len 621:Int)<1:=of_decide_eq_false (k0 _ List.mem_cons_self)
 have e0:F.i 440=0:=k3 _ List.mem_cons_self
 have e1:F.i 443=ρ.len 621:=k3 _ (List.mem_cons_of_mem _ List.mem_cons_self)
 obtain⟨l0,_,_,s0⟩:=k4 _ List.mem_cons_self
 obtain⟨_,_,cb,_⟩:=k4 _ (List.mem_cons_of_mem _ List.mem_cons_self)
 obtain⟨l4,dy,_,_⟩:=k4 _ (List.mem_cons_of_mem _ (List.mem_cons_of_mem _ List.mem_cons_self))
 have l0:F.len 470=ρ.len 621:=by rw[l0];exact Int.toNat_natCast _
 have l4:F.len 474=ρ.len 621:=by rw[l4];exact Int.toNat_natCast _
 have s0:∀j:Nat,F.cs 470 0 j=ρ.cs 194 0 ((j:Int)+(U.cl 2 2 (.var 400)).I ρ).toNat:=fun j=>s0 0 j
 refine⟨by omega,by omega,fun j O => ?_,by omega,by omega,by omega,fun k u=>by rw[k1 _ (qS k u)];exact a9 k u,by omega,fun j O => ?_,fun j O hb => ?_⟩
 ·rw[s0];exact u j (by omega)
 ·have dy:=dy 0 j
  by_cases h0:(j:Int)=(U.lit 0).I ρ
  ·have e:zm.row ρ j=ca ρ [ec (.lit 0)]:=by
    show(if(j:Int)=(U.lit 0).I ρ then ca ρ [ec (.lit 0)]else(RL.var 620 [.i .i64]).row ρ j)=_
    rw[if_pos h0]
   rw[e]at dy
   have dy:F.ci 474 0 j=0:=dy
   omega
  ·have e:zm.row ρ j=(RL.var 620 [.i .i64]).row ρ j:=by
    show(if(j:Int)=(U.lit 0).I ρ then ca ρ [ec (.lit 0)]else(RL.var 620 [.i .i64]).row ρ j)=_
    rw[if_neg h0]
   rw[e]at dy
   have dy:F.ci 474 0 j=ρ.ci 620 0 j:=dy
   have:=hd j (by omega)
   omega
 ·have cb:F.cb 472 1 j=false:=cb 1 j
  rw[cb]at hb;cases hb
end Go.Proofs.YtpdfmnhgocpkcaaGreat
namespace Go.Proofs.YtpdfmnhgocpkcaaGreat
open Go Go.Proofs.Aw Go.Proofs.Xw
set_option maxRecDepth 100000
def wF:J:=[(.lt (.lit 6) bj,false),(.lt bj (.lit 1),false),(.lt (.lit 16) (.cB (.cl 194 0 (.cl 2 2 (.var 400)))),false),(.eq bj (.len 621),true),(.lt (.len 621) (.lit 1),false),(.lt (.lit 6) (.len 621),false)]
def r7:DT := .br (.seq wz (.lit ⟨#[]⟩)) (.br (bQ (.var 402) 1099511627776) .leaf .leaf) .leaf
def uj:J:=(.lt (.len 610) (.lit 1),false)::ko (.cl 610 0 (.lit 0))
theorem gR {n:Nat} {ρ F:aa} (h:az n ρ F) {B:J} (hb:(B.all fun p=>p.1.ar n)=true) (u:J.ok ρ B):J.ok F B:=fun p hp=>by
 rw[<-BE.aT h p.1 (List.all_eq_true.1 hb p hp)]
 exact u p hp
structure ud (ρ:aa):Prop where
 l6:ρ.len 621<=6
 ky:∀j:Nat,j<ρ.len 621->1<=(ρ.cs 194 0 ((j:Int)+(U.cl 2 2 (.var 400)).I ρ).toNat).size/\(ρ.cs 194 0 ((j:Int)+(U.cl 2 2 (.var 400)).I ρ).toNat).size<=16
 td:∀j:Nat,j<ρ.len 621->ρ.ci 620 0 j=j
 dM:∀k:Nat,k<9->0<=ρ.i (405+k)
structure wR (ρ:aa):Prop where
 l6:ρ.len 610<=6
 td:∀j:Nat,j<ρ.len 610->0<=ρ.ci 610 0 j/\ρ.ci 610 0 j<ρ.len 470
structure rP:Prop where
 ai9:∀ρ:aa,J.ok ρ dh->0<=bj.I ρ->bj.I ρ<=250->∃F,az 600 ρ F/\F.len 610=0/\((J.ok F wF/\ud F/\∀k∈ei false++ei true,c' Tryz.prog F k)\/(F.len 621=0/\∀k∈dS false++dS true,c' Tryz.prog F k))
 l2:∀(ρ:aa) (ag:Bool),J.ok ρ dh->TI ρ->ρ.i 443=1->(bU 47).I ρ=ag->(ag=true->(BE.eq (.uf 2 0 dr) (.lit 1)).I ρ=true)->∃F,az 600 ρ F/\∀k∈sx ag,c' Tryz.prog F k
 l1:∀(ρ:aa) (ag:Bool),J.ok ρ dh->TI ρ->ρ.i 443=1->(bU 47).I ρ=ag->(ag=true->(BE.eq (.uf 2 0 dr) (.lit 1)).I ρ=true)->∃F,az 600 ρ F/\((F.len 610=0/\∀k∈sw ag++[iI ag false,ic ag false],c' Tryz.prog F k)\/(1<=F.len 610/\wR F/\∀k∈[iI ag true,ic ag true],c' Tryz.prog F k))
def Key (al:aa):Prop:=∀j:Nat,0<=al.ci 2 1002 j/\al.ci 2 1002 j<=250
theorem j1 {ρ:aa} {B:J} (h:J.ok ρ B) (k:Nat) {c:BE} {v:Bool} (Z:B[k]? = some (c,v)):c.I ρ=v:=h _ (List.mem_of_getElem? Z)
theorem mS {ρ:aa} {B:J} (h:J.ok ρ B) (k:Nat) {a b:U} (Z:B[k]? = some (.lt a b,false)):b.I ρ<=a.I ρ:=by
 have:¬a.I ρ<b.I ρ:=of_decide_eq_false (j1 h k Z)
 omega
structure Hd (ρ:aa):Prop where
 nL:0<=ρ.i 400
 bm:ρ.i 400<=ρ.len 2
 bl:(ρ.len 2:Int)<=250
theorem afT {ρ:aa} (h:J.ok ρ Fm):Hd ρ:=⟨mS h 7 rfl,mS h 8 rfl,mS h 6 rfl⟩
theorem afU {ρ:aa} (h:J.ok ρ m3):Hd ρ/\(ρ.len 460:Int)<=ρ.i 400:=⟨⟨mS h 7 rfl,mS h 8 rfl,mS h 6 rfl⟩,mS h 15 rfl⟩
theorem JB {ρ:aa} {a b:J} (h:J.ok ρ (a++b)):J.ok ρ a:=fun p hp=>h p (List.mem_append_left _ hp)
theorem agC {ρ:aa} (h:Hd ρ):i1.I ρ=ρ.i 400+1:=by
 have q1:=h.nL;have q2:=h.bm;have q3:=h.bl
 exact(show i1.I ρ=IntKind.i64.wrap (ρ.i 400+1)from rfl).trans (cc _ (by omega) (by omega))
theorem TI.bt {ρ F:aa} (ah:az 600 ρ F) (h:TI ρ):TI F:=by
 have l0:=ah.len 470 (by decide);have l4:=ah.len 474 (by decide);have dy:=ah.ci 474 (by decide);have s0:=ah.cs 470 (by decide)
 have e0:=ah.i 440 (by decide);have e1:=ah.i 443 (by decide);have b2:=ah.cb 472 (by decide)
 have ib:∀j,(rT j).I F=(rT j).I ρ:=fun j=>by
  show [_,_,_,_,_,_,_,_,_,_,_,_,_,_,_,_,_,_,_,_]=_
  simp only[U.I,TE.I,BE.I,<-ah.ci 472 (by decide),<-ah.cs 472 (by decide),<-ah.cb 472 (by decide)]
  rfl
 exact⟨by rw[<-l0];exact h.n1,by rw[<-l0];exact h.n6,fun j O=>by rw[<-s0];exact h.ky j (by omega),by rw[<-e0];exact h.vP,by rw[<-e1];exact h.r1,by rw[<-e0,<-e1,<-l4];exact h.rn,fun k u=>by rw[<-ah.i (405+k) (by omega)];exact h.dM k u,by rw[<-l4];exact h.l6,
  fun j O=>by rw[<-dy,<-l0];exact h.td j (by omega),fun j O hb=>by rw[ib];exact h.zS j (by omega) (by rw[b2];exact hb)⟩
theorem U8 {ρ:aa} (h:TI ρ) (H:(BE.eq (.var 443) (.lit 1)).I ρ=false):J.ok ρ pn.2:=by
 have A:=h.r1
 have E:¬ρ.i 443=1:=fun W=>by
  have H:(ρ.i 443==1)=false:=H
  rw[W]at H;cases H
 exact fF (by show(2:Int)<=ρ.i 443;omega) (J.bq ρ)
theorem U9 {ρ:aa} (h:TI ρ) (H:(BE.eq (.var 443) (.lit 1)).I ρ=false):J.ok ρ (ko tQ):=by
 have A:=h.r1
 have E:¬ρ.i 443=1:=fun W=>by
  have H:(ρ.i 443==1)=false:=H
  rw[W]at H;cases H
 exact h.ahd (by omega)
theorem Hb {ρ:aa} (H:(BE.eq (.var 443) (.lit 1)).I ρ=true):ρ.i 443=1:=by
 have H:(ρ.i 443==1)=true:=H
 exact eq_of_beq H
theorem Bs {P:BE×Bool->Bool} {a b:J} (h:((a++b).all P)=true):a.all P=true/\b.all P=true:=by rwa[List.all_append,Bool.and_eq_true]at h
theorem UL {ρ:aa} {ag:Bool} (A:(bU 47).I ρ=ag) (E:ag=true->(BE.eq (.uf 2 0 dr) (.lit 1)).I ρ=true) {B:J} (u:J.ok ρ B) :
  J.ok ρ (if ag=true then(.eq (.uf 2 0 dr) (.lit 1),true)::(bU 47,true)::B else(bU 47,false)::B):=by
 cases ag with
 | true=>exact J.av (E rfl) (J.av A u)
 | false=>exact J.av A u
theorem Sd {ρ:aa} {bx:Prop} {aU:J} (u:J.ok ρ aU) (bad:J.ok ρ ((.eq (.uf 2 0 dr) (.lit 1),false)::(bU 47,true)::aU)->bx) (go:∀ag,(bU 47).I ρ=ag->(ag=true->(BE.eq (.uf 2 0 dr) (.lit 1)).I ρ=true)->bx):bx:=by
 rcases kV (bU 47) ρ with h | h
 ·rcases kV (.eq (.uf 2 0 dr) (.lit 1)) ρ with E | E
  ·exact go true h fun _=>E
  ·exact bad (J.av E (J.av h u))
 ·exact go false h fun E=>by cases E
theorem acw {ρ:aa} (A:1<=ρ.len 610) (hT:TI ρ) (h:wR ρ):J.ok ρ uj:=by
 obtain⟨t1,t2⟩:=h.td 0 (by omega)
 have h3:=(hT.ky (ρ.ci 610 0 0).toNat (by omega)).2
 exact fF (by show(1:Int)<=ρ.len 610;omega) (fF (show(U.lit 0).I ρ<=(U.cl 610 0 (.lit 0)).I ρ from t1) (xy (show(U.cl 610 0 (.lit 0)).I ρ<(U.len 470).I ρ from t2) (fF (by show((ρ.cs 470 0 (ρ.ci 610 0 0).toNat).size:Int)<=16;omega) (J.bq ρ))))
end Go.Proofs.YtpdfmnhgocpkcaaGreat
namespace Go.Proofs.YtpdfmnhgocpkcaaGreat
open Go Go.Proofs.Aw Go.Proofs.Xw
set_option maxRecDepth 100000
theorem acz {ρ:aa} {B:J} (u:J.ok ρ B) {t:T X} (h:zR B t=true):∃e:BE,t = .ret (.sc (.b e))/\e.I ρ=true:=by
 unfold zR at h
 split at h
 ·rename_i e
  exact⟨e,rfl,rz u h⟩
 ·cases h
theorem J1 {ρ:aa} {b:Bool} {lp:Nat->List bf} (hm:Cy 11 (X.af ρ [fw]) (.sc (.bool b))) (M:∀f i,eB f gb=some i->a1 Tryz.prog ρ i.ntmps (lp f) i.body):bZ Tryz.prog ρ (uy b lp).c :=
 r5 (List.forall_mem_cons.2 ⟨acs,List.forall_mem_cons.2 ⟨hm,List.forall_mem_nil _⟩⟩) M (List.forall_mem_nil _) J_ (List.forall_mem_cons.2 ⟨Q2,List.forall_mem_nil _⟩)
theorem No {ρ:aa} {b:Bool} {lp:Nat->List bf} (H:bZ Tryz.prog ρ (uy b lp).c) (hT:dX 460 eY ρ) {B:J} (u:J.ok ρ B) (h:zR B (z1 (uy b lp) 6 kQ B)=true):Cy 6 (X.af ρ kQ) (.sc (.bool true)):=by
 obtain⟨e,A,E⟩:=acz u h
 have g:=acO (c:=uy b lp) H Ig hT u (show(z1 (uy b lp) 6 kQ B).aq ρ=some (.sc (.b e))by rw[A];rfl)
 have ee:X.I ρ (.sc (.b e)) = .sc (.bool true):=by show AV.sc (.bool (e.I ρ))=_;rw[E]
 rw[ee]at g
 exact g
theorem ah0 {ρ:aa} {i:Nat} (h:bW Tryz.prog ρ Tryz.f6.ntmps lS (yp i)):∀g k,eB g gb=some k->a1 Tryz.prog ρ k.ntmps (Gj i g) k.body:=fun g k Z=>by
 unfold Gj
 split
 ·rename_i hf
  have hf:=Nat.eq_of_beq_eq_true hf
  subst hf
  have gc:jk Tryz.prog 6 k:=mT (6,k) (jV _ _ (jU Z))
  refine ov gc Tryz.func6 ?_
  refine kv (c:=Tryz.f6.body.getD .skip) [0] ?_ (List.forall_mem_cons.2 ⟨ku (L:=yp i) (c:=lS) ?_ h,List.forall_mem_nil _⟩)
  ·rfl
  ·rfl
 ·exact a1.nil _ _ _ _
theorem agu:uc []:=fun p hp=>by cases hp
theorem aq7 {ρ:aa} (hm:Cy 11 (X.af ρ [fw]) (.sc (.bool false))) (hT:dX 460 eY ρ) {i:Nat} (hL:bW Tryz.prog ρ Tryz.f6.ntmps lS (yp i)) {B:J} (h:nB i B=true) (u:J.ok ρ B):Cy 6 (X.af ρ kQ) (.sc (.bool true)) :=
 No (b:=false) (lp:=Gj i) (J1 hm (ah0 hL)) hT u h
theorem asn {ρ:aa} (hm:Cy 11 (X.af ρ [fw]) (.sc (.bool false))) (hT:dX 460 eY ρ) {i:Nat} (hi:i<10) (hL:bW Tryz.prog ρ Tryz.f6.ntmps lS (yp i)) (u:J.ok ρ (lW i)):Cy 6 (X.af ρ kQ) (.sc (.bool true)):=by
 have hr:∀d,lv d=true->DT.ok [] (nB i) d (lW i)=true->Cy 6 (X.af ρ kQ) (.sc (.bool true)):=fun d hn h=>by
  obtain⟨aS,q1,q2⟩:=Xg agu hn h u
  exact aq7 hm hT hL q2 q1
 clear hL
 rcases(show i=0\/i=1\/i=2\/i=3\/i=4\/i=5\/i=6\/i=7\/i=8\/i=9 by omega)with h | h | h | h | h | h | h | h | h | h<;>subst h
 ·exact hr .leaf rfl zt0
 ·exact hr .leaf rfl zt1
 ·exact hr .leaf rfl zt2
 ·exact hr .leaf rfl zt3
 ·exact hr .leaf rfl zt4
 ·exact hr .leaf rfl zt5
 ·exact hr .leaf rfl zt6
 ·exact hr .leaf rfl zt7
 ·exact hr .leaf rfl zt8
 ·exact hr .leaf rfl zt9
theorem aoQ {ρ:aa} {bx:Prop} (run:∀B,Hm false B=true->J.ok ρ B->bx) (l:J):∀(B:J),Hn l B=true->J.ok ρ B->(J.ok ρ l->bx)->bx:=by
 induction l with
 | nil=>exact fun _ _ _ k=>k (J.bq ρ)
 | cons p r ih =>
  intro B h u k
  have h':(Hm false ((p.1,!p.2)::B)&&Hn r ((p.1,p.2)::B))=true:=h
  obtain⟨A,E⟩:=Bool.and_eq_true_iff.1 h'
  by_cases H:p.1.I ρ=p.2
  ·exact ih _ E (J.av H u) fun hr=>k (J.av H hr)
  ·refine run _ A (J.av ?_ u)
   revert H
   generalize p.1.I ρ=Y
   generalize p.2=v
   cases Y<;>cases v<;>decide
end Go.Proofs.YtpdfmnhgocpkcaaGreat
namespace Go.Proofs.YtpdfmnhgocpkcaaGreat
open Go Go.Proofs.Aw Go.Proofs.Xw
set_option maxRecDepth 100000
structure o3 (ρ:aa):Prop where
 l:ρ.len 2<=140737488355327
 k:∀j,0<=ρ.ci 2 1002 j/\ρ.ci 2 1002 j<=140737488355327
 s:∀k j,(ρ.cs 2 k j).size<=140737488355327
 n:∀j,(ρ.cs 194 0 j).size<=140737488355327
def nh:U := .cl 2 1002 (.var 700)
def vE (k:Nat):U := .cB (.cl 2 k (.var 700))
def muS:U := .op .add .i64 (.op .add .i64 (.op .add .i64 (.op .add .i64 (vE 3) (vE 53)) (vE 54)) (vE 38)) (vE 39)
def vC (e:U):U := .op .add .i64 e (.op .quo .i64 muS (.lit 60))
def muI:X->X
 | .ro _ _ _=>xn 0
 | _=>xi 700
def Od (s i n:X):ba:=[(6,i),(3,n)]++((List.range 29).map fun k=>(51-k,X.top))++[(5,.ptr (17,0) [] 0),(22,.top),(21,.top),(20,.top),(19,.top),(16,.top),(15,.top),(14,.top),(13,.top),(12,.top),(11,.top),(10,.top),(9,.top),(4,muI s),(8,.top),(7,.top),(2,.top),(0,s)]
def Ob:au:=[((17,0),ux 2 (.var 700) 0 sU)]
def Gv (s:X) (e:U):XS:=⟨Od s (xn 0) (.sc (.i .i64 (vC e))),Ob,50⟩
def yA (s:X):XS:=⟨Od s (xi 704) (xi 703),Ob,50⟩
def NV (s:X):XS:=⟨Od s (xi 704) (xi 703),Ob,90⟩
noncomputable def yz:Code:=(dP (Tryz.f11.body.getD .skip))[1]?.getD .skip
noncomputable def oC:Code:=(dP (Tryz.f11.body.getD .skip))[0]?.getD .skip
def miE:U := .cB (.cl 194 0 (.op .cW .i64 (.var 704) (.cl 2 2 (.var 700))))
def B8:U := .op .add .i64 (.var 703) (.op .add .i64 (.lit 1) (.op .quo .i64 miE (.lit 60)))
def mi1:U := .op .add .i64 (.var 704) (.lit 1)
def Gu:J:=[(.lt (.var 704) (.lit 0),false),(.lt nh (.var 704),false),(.lt (.lit 140737488355327) nh,false),(.lt nh (.lit 0),false),(.lt (.var 703) (.lit 0),false),(.lt (.lit 100000000000000) (.var 703),false)]
def miG:J:=(.lt (.lit 250) (.var 703),false)::(.lt (.var 704) nh,true)::Gu
def Wg:J:=(.lt (.lit 250) (.var 703),true)::Gu
def Wh:J:=(.lt (.lit 250) (.var 703),false)::(.lt (.var 704) nh,false)::Gu
noncomputable def mv:cj:=⟨bd [] (fun _=>[]),[],[]⟩
noncomputable def NW (s:X) (B:J):T (XE×XS):=(ck mv.c.ti (eC mv 12) ((mv.c.hD 11).elim [] (·.ms)) 0 [] 1000 yz B (yA s)).map (dV ((yA s).t.map (·.1)))
def G5 (n:Nat) (β:Bind) (S:XS):T (XE×XS)->Bool
 | .ret (.normal,s)=>rf 0 n β [] [] S s
 | _=>false
def yy:Bind:=⟨[(703,B8),(704,mi1)],[],[],[]⟩
def NU (e:U):Bind:=⟨[(703,vC e),(704,.lit 0)],[],[],[]⟩
structure RH (s:X) (e:U):Prop where
 go:G5 703 yy (yA s) (NW s miG)=true
 ib:dC 0 703 704 [] (0,[]) 0 [] (NV s) (.exit 2) Wg (NW s Wg)=true
 qs:dC 0 703 704 [] (0,[]) 0 [] (NV s) (.exit 2) Wh (NW s Wh)=true
 cp:rf 0 703 (NU e) [] [] (yA s) (Gv s e)=true
 ar:(Gv s e).ar 703=true
theorem NX:da Tryz.f11.ntmps yz=true:=by kernel_rfl
noncomputable def B7 (s:X) (e:U):bf:=⟨(du yz).getD 0,0,703,Gv s e,gj,[],.ret (.exit 2,NV s)⟩
theorem aib:RH fw (.var 702):=⟨by kernel_rfl,by kernel_rfl,by kernel_rfl,by kernel_rfl,by kernel_rfl⟩
def Oc (i n:X):ba:=[(4,i),(3,n),(8,.top),(7,.top),(2,.top),(0,fw)]
def GD:XS:=⟨Oc (xn 0) (.sc (.i .i64 (.len 2))),[],5⟩
def oz:XS:=⟨Oc (xi 700) (xi 702),[],5⟩
def Oe:XS:=⟨Oc (xi 700) (xi 702),[],20⟩
def mu1:U := .op .add .i64 (.var 700) (.lit 1)
def GC:J:=[(.lt (.var 700) (.lit 0),false),(.lt (.len 2) (.var 700),false),(.lt (.lit 140737488355327) (.len 2),false),(.lt (.var 702) (.lit 0),false),(.lt (.lit 200000000000000) (.var 702),false),(.lt nh (.lit 0),false),(.lt (.lit 140737488355327) nh,false)]++[3,38,39,53,54].map fun k=>(.lt (.lit 140737488355327) (vE k),false)
def muG:J:=(.lt (.var 700) (.len 2),true)::(.lt (.lit 250) (.var 702),false)::GC
def Wt:J:=(.lt (.lit 250) (.var 702),true)::GC
def Wu:J:=(.lt (.lit 250) (.var 702),false)::(.lt (.var 700) (.len 2),false)::GC
noncomputable def aip (B:J):T (XE×XS):=(ck mv.c.ti (eC mv 12) ((mv.c.hD 11).elim [] (·.ms)) 0 [B7 fw (.var 702)] 1000 oC B oz).map (dV (oz.t.map (·.1)))
noncomputable def Wx (B:J):T (XE×XS):=(ck mv.c.ti (eC mv 12) ((mv.c.hD 11).elim [] (·.ms)) 0 [] 1000 oC B oz).map (dV (oz.t.map (·.1)))
def vD:Bind:=⟨[(700,mu1),(702,.var 703)],[],[],[]⟩
theorem aiu:G5 700 vD oz (aip muG)=true:=by kernel_rfl
theorem ais:dC 0 700 700 [] (0,[]) 0 [] Oe (.exit 0) Wt (Wx Wt)=true:=by kernel_rfl
theorem ait:dC 0 700 700 [] (0,[]) 0 [] Oe (.exit 0) Wu (Wx Wu)=true:=by kernel_rfl
theorem Of:da Tryz.f11.ntmps oC=true:=by kernel_rfl
noncomputable def Cd:bf:=⟨(du oC).getD 0,0,700,GD,gj,[],.ret (.exit 0,Oe)⟩
def Oa:Bind:=⟨[(700,.lit 0),(702,.len 2)],[],[],[]⟩
theorem aiv:rf 0 700 Oa [] [] oz GD=true:=by kernel_rfl
theorem aiq:GD.ar 700=true:=by kernel_rfl
theorem aio:oz.ar 703=true:=by kernel_rfl
noncomputable def N' (g:Nat):List bf:=if Nat.beq g 11=true then [Cd]else []
noncomputable def N9:cj:=⟨bd [] N',[],[]⟩
def Ww:J:=[(.lt (.lit 140737488355327) (.len 2),false)]
def VA:T X->Bool
 | .ret x=>X.beq x (.sc (.b (.lt (.lit 250) (.var 702))))
 | _=>false
theorem aiy:VA (aN N9 11 [fw] Ww)=true:=by kernel_rfl
end Go.Proofs.YtpdfmnhgocpkcaaGreat
namespace Go.Proofs.YtpdfmnhgocpkcaaGreat
open Go Go.Proofs.Aw Go.Proofs.Xw
set_option maxRecDepth 100000
theorem Zz {a:Int} (h:0<=a):a.tdiv 60=a / 60:=Int.tdiv_eq_ediv_of_nonneg h
theorem Ws {ρ:aa} {e:U} (hs:∀k,(ρ.cs 2 k (ρ.i 700).toNat).size<=140737488355327) (h0:0<=e.I ρ) (A:e.I ρ<=250):e.I ρ<=(vC e).I ρ/\(vC e).I ρ<=20000000000000:=by
 have s3:=hs 3;have s4:=hs 53;have auA:=hs 54;have YN:=hs 38;have YO:=hs 39
 have q:(vC e).I ρ=IntKind.i64.wrap (e.I ρ+IntKind.i64.wrap ((IntKind.i64.wrap (IntKind.i64.wrap (IntKind.i64.wrap (IntKind.i64.wrap (((ρ.cs 2 3 (ρ.i 700).toNat).size:Int)+((ρ.cs 2 53 (ρ.i 700).toNat).size:Int))+((ρ.cs 2 54 (ρ.i 700).toNat).size:Int))+((ρ.cs 2 38 (ρ.i 700).toNat).size:Int))+((ρ.cs 2 39 (ρ.i 700).toNat).size:Int))).tdiv 60)):=rfl
 rw[q]
 generalize e.I ρ=e at *
 generalize (ρ.cs 2 3 (ρ.i 700).toNat).size=a at *
 generalize (ρ.cs 2 53 (ρ.i 700).toNat).size=b at *
 generalize (ρ.cs 2 54 (ρ.i 700).toNat).size=c at *
 generalize (ρ.cs 2 38 (ρ.i 700).toNat).size=d at *
 generalize (ρ.cs 2 39 (ρ.i 700).toNat).size=f at *
 rw[cc ((a:Int)+b) (by omega) (by omega),cc ((a:Int)+b+c) (by omega) (by omega),cc ((a:Int)+b+c+d) (by omega) (by omega),cc ((a:Int)+b+c+d+f) (by omega) (by omega),Zz (by omega)]
 rw[cc (((a:Int)+b+c+d+f) / 60) (by omega) (by omega),cc _ (by omega) (by omega)]
 omega
theorem aia {ρ:aa} (hs:∀j,(ρ.cs 194 0 j).size<=140737488355327) (h0:0<=ρ.i 703) (A:ρ.i 703<=250):ρ.i 703+1<=B8.I ρ/\B8.I ρ<=20000000000000:=by
 have s3:=hs (ρ.i 704+ρ.ci 2 2 (ρ.i 700).toNat).toNat
 have e:B8.I ρ=IntKind.i64.wrap (ρ.i 703+IntKind.i64.wrap (1+IntKind.i64.wrap (((ρ.cs 194 0 (ρ.i 704+ρ.ci 2 2 (ρ.i 700).toNat).toNat).size:Int).tdiv 60))):=rfl
 rw[e]
 generalize (ρ.cs 194 0 (ρ.i 704+ρ.ci 2 2 (ρ.i 700).toNat).toNat).size=a at *
 rw[Zz (by omega),cc ((a:Int) / 60) (by omega) (by omega),cc (1+(a:Int) / 60) (by omega) (by omega),cc _ (by omega) (by omega)]
 omega
theorem o3.bt {ρ F:aa} {n:Nat} (ah:az n ρ F) (hn:195<=n) (h:o3 ρ):o3 F :=
 ⟨by rw[<-ah.len 2 (by omega)];exact h.l,fun j=>by rw[<-ah.ci 2 (by omega)];exact h.k j,fun k j=>by rw[<-ah.cs 2 (by omega)];exact h.s k j,fun j=>by rw[<-ah.cs 194 (by omega)];exact h.n j⟩
def lx (ρ:aa):Int:=ρ.ci 2 1002 (ρ.i 700).toNat
structure zN (n:Int) (al ρ:aa):Prop where
 ah:az 703 al ρ
 k0:0<=ρ.i 704
 k1:ρ.i 704<=lx al
 n0:n+ρ.i 704<=ρ.i 703
 n1:ρ.i 703<=100000000000000
theorem Wv {al ρ:aa} (h:az 703 al ρ):nh.I ρ=lx al:=by
 show ρ.ci 2 1002 (ρ.i 700).toNat=_
 rw[<-h.ci 2 (by decide),<-h.i 700 (by decide)];rfl
theorem ah9 {n:Int} {al ρ:aa} (hS:o3 al) (h0:0<=n) (h:zN n al ρ):J.ok ρ Gu:=by
 have q1:=h.k0;have q2:=h.k1;have q3:=h.n0;have q4:=h.n1
 obtain⟨q5,q6⟩:=hS.k (al.i 700).toNat
 have e:=Wv h.ah
 have q5:0<=lx al:=q5
 have q6:lx al<=140737488355327:=q6
 exact J.av (b' (show ¬ρ.i 704<0 by omega)) (J.av (b' (by rw[e];show ¬lx al<ρ.i 704;omega)) (J.av (b' (by rw[e];show ¬(140737488355327:Int)<lx al;omega)) (J.av (b' (by rw[e];show ¬lx al<0;omega)) (J.av (b' (show ¬ρ.i 703<0 by omega)) (J.av (b' (show ¬(100000000000000:Int)<ρ.i 703 by omega)) (J.bq ρ))))))
theorem Xi {P:Program} {ρ:aa} {N:Nat} {body:Code} {ti:Nat->Option Go.Proofs.Xw.TI} {call:bB} {ms:List Nat} {bN:List bf} {fuel n:Nat} {S lO:XS} {B:J} {ks:List Nat} {β:Bind} (hm:P.follows .mixedOrders=true) (a_:eL.ok P ti) (aP:cS P ρ call) (lh:a1 P ρ N bN body) (d7:da N body=true) (u:J.ok ρ B)
  (h:G5 n β lO ((ck ti call ms 0 bN fuel body B S).map (dV ks))=true):ea P N body 0 S lO ρ (β.cD [] ρ):=by
 generalize hr:(ck ti call ms 0 bN fuel body B S).map (dV ks)=t at h
 unfold G5 at h
 split at h
 ·rename_i s
  exact arP hm a_ aP lh d7 u rfl (s:=s) (by rw[hr];rfl) h
 ·cases h
theorem aic {s:X} {e:U} (aF:RH s e) {al:aa} (hS:o3 al) (h0:0<=e.I al) (E:e.I al<=250):∃am,az 703 al am/\(zN (e.I al) al am/\(250<am.i 703\/lx al<=am.i 704))/\bW Tryz.prog am Tryz.f11.ntmps yz (B7 s e):=by
 have he:az 703 al ((NU e).cD [] al):=Bind.uk (by kernel_rfl) (by kernel_rfl) _
 have aP:∀F,cS Tryz.prog F (eC mv 12):=fun F=>eU (c:=mv) (kW (List.forall_mem_nil _)) (List.forall_mem_nil _) 12
 obtain⟨q5,q6⟩:=hS.k (al.i 700).toNat
 have q5:0<=lx al:=q5
 have q6:lx al<=140737488355327:=q6
 refine ou (P:=Tryz.prog) (N:=Tryz.f11.ntmps) (body:=yz) (k0:=0) (n:=703) (S0:=Gv s e) (ρ:=al) aF.ar (fun _=>yA s) (B7 s e) ⟨rfl,rfl,rfl⟩ (fun _ F=>zN (e.I al) al F) (fun F=>zN (e.I al) al F/\(250<F.i 703\/lx al<=F.i 704)) (fun F=>(lx al-F.i 704).toNat) (fun i F hR => ?_)
  ⟨0,(NU e).cD [] al,he,⟨he,Int.le_refl _,q5,?_,?_⟩,fun ac _ bI=>Cr bI aF.cp _⟩
 ·have q1:=hR.k0;have q2:=hR.k1;have q3:=hR.n0;have q4:=hR.n1
  have j3:=ah9 hS h0 hR
  have ek:=Wv hR.ah
  by_cases hn:250<F.i 703
  ·left
   refine⟨⟨hR,.inl hn⟩,?_⟩
   rcases gD mixed cR (aP F) (a1.nil _ _ _ _) NX (J.av (mr (a := .lit 250) (b := .var 703) hn) j3) aF.ib with h | ⟨j,C,_,A,_⟩
   ·exact h
   ·simp at A
  ·by_cases u:F.i 704<lx al
   ·right
    have hs:=hS.bt hR.ah (by decide)
    obtain⟨b1,b2⟩:=aia hs.n (by omega) (by omega)
    have eP:=Xi (β:=yy) (n:=703) (lO:=yA s) mixed cR (aP F) (a1.nil _ _ _ _) NX (J.av (b' (a := .lit 250) (b := .var 703) hn) (J.av (mr (by rw[ek];exact u)) j3)) aF.go
    have ah:az 703 F (yy.cD [] F):=Bind.uk (by kernel_rfl) (by kernel_rfl) _
    have e3:(yy.cD [] F).i 703=B8.I F:=rfl
    have e4:(yy.cD [] F).i 704=F.i 704+1:=(show(yy.cD [] F).i 704=IntKind.i64.wrap (F.i 704+1)from rfl).trans (cc _ (by omega) (by omega))
    exact⟨0,_,eP,⟨hR.ah.trans ah,by omega,by omega,by omega,by omega⟩,by omega,ah⟩
   ·left
    refine⟨⟨hR,.inr (by omega)⟩,?_⟩
    rcases gD mixed cR (aP F) (a1.nil _ _ _ _) NX (J.av (b' (a := .lit 250) (b := .var 703) hn) (J.av (b' (by rw[ek];exact u)) j3)) aF.qs with h | ⟨j,C,_,A,_⟩
    ·exact h
    ·simp at A
 ·have:=(Ws (ρ:=al) (fun k=>hS.s k _) h0 E).1
  show e.I al+0<=(vC e).I al
  omega
 ·have:=(Ws (ρ:=al) (fun k=>hS.s k _) h0 E).2
  show(vC e).I al<=_
  omega
structure zO (al ρ:aa):Prop where
 ah:az 700 al ρ
 i0:0<=ρ.i 700
 i1:ρ.i 700<=al.len 2
 n0:(al.len 2:Int)<=ρ.i 702
 n1:ρ.i 702<=200000000000000
 kk:ρ.i 702<=250->∀j:Nat,(j:Int)<ρ.i 700->al.ci 2 1002 j<=250
theorem N_ {al ρ:aa} (hS:o3 al) (h:zO al ρ):J.ok ρ GC:=by
 have q1:=h.i0;have q2:=h.i1;have q3:=h.n0;have q4:=h.n1
 have hs:=hS.bt h.ah (by decide)
 have q5:=hs.l
 have l2:ρ.len 2=al.len 2:=(h.ah.len 2 (by decide)).symm
 obtain⟨q6,q7⟩:=hs.k (ρ.i 700).toNat
 have q6:0<=nh.I ρ:=q6
 have q7:nh.I ρ<=140737488355327:=q7
 have fs:∀k,¬(U.lit 140737488355327).I ρ<(vE k).I ρ:=fun k=>by
  have:=hs.s k (ρ.i 700).toNat
  show ¬(140737488355327:Int)<((ρ.cs 2 k (ρ.i 700).toNat).size:Int)
  omega
 exact J.av (b' (show ¬ρ.i 700<0 by omega)) (J.av (b' (show ¬(ρ.len 2:Int)<ρ.i 700 by omega)) (J.av (b' (show ¬(140737488355327:Int)<ρ.len 2 by omega)) (J.av (b' (show ¬ρ.i 702<0 by omega)) (J.av (b' (show ¬(200000000000000:Int)<ρ.i 702 by omega)) (J.av (b' (show ¬nh.I ρ<0 by omega)) (J.av (b' (show ¬(140737488355327:Int)<nh.I ρ by omega))
  (J.av (b' (fs 3)) (J.av (b' (fs 38)) (J.av (b' (fs 39)) (J.av (b' (fs 53)) (J.av (b' (fs 54)) (J.bq ρ))))))))))))
theorem aiw {al:aa} (hS:o3 al):∃am,az 700 al am/\(zO al am/\(250<am.i 702\/(al.len 2:Int)<=am.i 700))/\bW Tryz.prog am Tryz.f11.ntmps oC Cd:=by
 have he:az 700 al (Oa.cD [] al):=Bind.uk (by kernel_rfl) (by kernel_rfl) _
 have aP:∀F,cS Tryz.prog F (eC mv 12):=fun F=>eU (c:=mv) (kW (List.forall_mem_nil _)) (List.forall_mem_nil _) 12
 have M:=hS.l
 refine ou (P:=Tryz.prog) (N:=Tryz.f11.ntmps) (body:=oC) (k0:=0) (n:=700) (S0:=GD) (ρ:=al) aiq (fun _=>oz) Cd ⟨rfl,rfl,rfl⟩ (fun _ F=>zO al F) (fun F=>zO al F/\(250<F.i 702\/(al.len 2:Int)<=F.i 700)) (fun F=>((al.len 2:Int)-F.i 700).toNat) (fun i F hR => ?_)
  ⟨0,Oa.cD [] al,he,⟨he,Int.le_refl _,show(0:Int)<=al.len 2 by omega,Int.le_refl _,show(al.len 2:Int)<=_ by omega,fun _ j O => ?_⟩,fun ac _ bI=>Cr bI aiv _⟩
 ·have q1:=hR.i0;have q2:=hR.i1;have q3:=hR.n0;have q4:=hR.n1
  have l2:F.len 2=al.len 2:=(hR.ah.len 2 (by decide)).symm
  have hs:=hS.bt hR.ah (by decide)
  by_cases hn:250<F.i 702
  ·left
   refine⟨⟨hR,.inl hn⟩,?_⟩
   rcases gD mixed cR (aP F) (a1.nil _ _ _ _) Of (J.av (mr (a := .lit 250) (b := .var 702) hn) (N_ hS hR)) ais with h | ⟨j,C,_,A,_⟩
   ·exact h
   ·simp at A
  ·by_cases u:F.i 700<al.len 2
   ·right
    obtain⟨bP,bm,⟨hI,G⟩,hL⟩:=aic aib hs (show 0<=F.i 702 by omega) (show F.i 702<=250 by omega)
    have hI:zN (F.i 702) F bP:=hI
    have kj:=hs.bt bm (by decide)
    have xJ:zO al bP:=⟨hR.ah.trans (bm.le (by decide)),by rw[<-bm.i 700 (by decide)];exact q1,by rw[<-bm.i 700 (by decide)];exact q2,by rw[<-bm.i 702 (by decide)];exact q3,by rw[<-bm.i 702 (by decide)];exact q4,by rw[<-bm.i 702 (by decide),<-bm.i 700 (by decide)];exact hR.kk⟩
    have l1:bP.len 2=al.len 2:=(xJ.ah.len 2 (by decide)).symm
    have sd:bP.i 700=F.i 700:=(bm.i 700 (by decide)).symm
    have e72:bP.i 702=F.i 702:=(bm.i 702 (by decide)).symm
    have u5:a1 Tryz.prog bP Tryz.f11.ntmps [B7 fw (.var 702)] oC:=kv (c:=oC) [0] (by kernel_rfl) (List.forall_mem_cons.2 ⟨ku (L:=B7 fw (.var 702)) (c:=yz) (by kernel_rfl) hL,List.forall_mem_nil _⟩)
    have eP:=Xi (β:=vD) (n:=700) (lO:=oz) mixed cR (aP bP) u5 Of (J.av (mr (a := .var 700) (b := .len 2) (show bP.i 700<(bP.len 2:Int)by omega)) (J.av (b' (a := .lit 250) (b := .var 702) (show ¬(250:Int)<bP.i 702 by omega)) (N_ hS xJ))) aiu
    have ah:az 700 bP (vD.cD [] bP):=Bind.uk (by kernel_rfl) (by kernel_rfl) _
    have e3:(vD.cD [] bP).i 702=bP.i 703:=rfl
    have e4:(vD.cD [] bP).i 700=bP.i 700+1:=(show(vD.cD [] bP).i 700=IntKind.i64.wrap (bP.i 700+1)from rfl).trans (cc _ (by omega) (by omega))
    have p1:=hI.k0;have p2:=hI.k1;have GE:=hI.n0;have auz:=hI.n1
    have agp:ea Tryz.prog Tryz.f11.ntmps oC 0 oz oz F (vD.cD [] bP):=fun ac hE bI=>by
     rw[XS.aT bm _ aio]
     exact eP ac hE bI
    refine⟨0,_,agp,⟨xJ.ah.trans ah,by omega,by omega,by omega,by omega,fun h j O => ?_⟩,by omega,(bm.le (by decide)).trans ah⟩
    by_cases gy:(j:Int)<F.i 700
    ·exact hR.kk (by omega) j gy
    ·have iG:lx F=al.ci 2 1002 j:=by
      show F.ci 2 1002 (F.i 700).toNat=_
      rw[<-hR.ah.ci 2 (by decide),show(F.i 700).toNat=j by omega]
     rcases G with G | G<;>omega
   ·left
    refine⟨⟨hR,.inr (by omega)⟩,?_⟩
    rcases gD mixed cR (aP F) (a1.nil _ _ _ _) Of (J.av (b' (a := .lit 250) (b := .var 702) hn) (J.av (b' (a := .var 700) (b := .len 2) (show ¬F.i 700<(F.len 2:Int)by omega)) (N_ hS hR))) ait with h | ⟨j,C,_,A,_⟩
    ·exact h
    ·simp at A
 ·have O:(j:Int)<0:=O
  omega
theorem aix {ρ:aa} (h:bW Tryz.prog ρ Tryz.f11.ntmps oC Cd):∀g i,eB g gb=some i->a1 Tryz.prog ρ i.ntmps (N' g) i.body:=fun g i hi=>by
 unfold N'
 split
 ·rename_i hf
  have hf:=Nat.eq_of_beq_eq_true hf
  subst hf
  have gc:jk Tryz.prog 11 i:=mT (11,i) (jV _ _ (jU hi))
  refine ov gc Tryz.func11 ?_
  exact kv (c:=Tryz.f11.body.getD .skip) [0] (by kernel_rfl) (List.forall_mem_cons.2 ⟨ku (L:=Cd) (c:=oC) (by kernel_rfl) h,List.forall_mem_nil _⟩)
 ·exact a1.nil _ _ _ _
theorem air {ρ:aa} (hS:o3 ρ):∃b:Bool,Cy 11 (X.af ρ [fw]) (.sc (.bool b))/\(b=false->ρ.len 2<=250/\∀j,j<ρ.len 2->ρ.ci 2 1002 j<=250):=by
 obtain⟨am,ah,⟨hI,G⟩,hL⟩:=aiw hS
 have hr:=aiy
 unfold VA at hr
 split at hr
 ·rename_i x bD
  have:=X.beq_eq _ _ hr
  subst this
  have hs:=hS.bt ah (by decide)
  have M:=hs.l
  have g:=ef (c:=N9) (hl (List.forall_mem_nil _) (aix hL)) (List.forall_mem_nil _) (J.av (b' (a := .lit 140737488355327) (b := .len 2) (show ¬(140737488355327:Int)<am.len 2 by omega)) (J.bq am)) (show(aN N9 11 [fw] Ww).aq am=some _ by rw[bD];rfl)
  have e1:X.af am [fw]=X.af ρ [fw]:=(X.fZ ah [fw] (by kernel_rfl)).symm
  rw[e1]at g
  refine⟨decide (250<am.i 702),g,fun h => ?_⟩
  have h:=of_decide_eq_false h
  have v0:=hI.n0
  refine⟨by omega,fun j O=>hI.kk (by omega) j ?_⟩
  rcases G with G | G<;>omega
 ·cases hr
end Go.Proofs.YtpdfmnhgocpkcaaGreat
