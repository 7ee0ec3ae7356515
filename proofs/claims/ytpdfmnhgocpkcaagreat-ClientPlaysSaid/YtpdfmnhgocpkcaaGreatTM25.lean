/- Parts of the proof, one behind the other. -/
import Derived.Test.YtpdfmnhgocpkcaaGreatTM15
import Derived.Test.YtpdfmnhgocpkcaaGreatTM16
import Derived.Test.YtpdfmnhgocpkcaaGreatTM17
import Derived.Test.YtpdfmnhgocpkcaaGreatTM18
import Derived.Test.YtpdfmnhgocpkcaaGreatTM19
import Derived.Test.YtpdfmnhgocpkcaaGreatTM20
import Derived.Test.YtpdfmnhgocpkcaaGreatTM21
import Derived.Test.YtpdfmnhgocpkcaaGreatTM22
import Derived.Test.YtpdfmnhgocpkcaaGreatTM23
import Derived.Test.YtpdfmnhgocpkcaaGreatTM24
namespace Go.Proofs.YtpdfmnhgocpkcaaGreat
open Go Go.Proofs.Aw Go.Proofs.Xw
set_option maxRecDepth 100000
def lk (i:Nat):J:=(ai (cA 1) 4,true)::(ai (cA 0) 1,true)::a5 i
theorem tt (ad:dW) {ρ:aa} {bx:Prop} {i n:Nat} (hu:kE i n) (hn:((dR true i).parts a' (a5 i)).length=n) (hw:(dR true i).wf a' (a5 i)=true) (hz:(dR true i).qb=[]) (ho:(dR true i).sN a' (a5 i)=[lk i]) (u:J.ok ρ (a5 i)) (fU:cO ρ i->bx) (ht:J.ok ρ (lk i)->bx):bx:=by
 rcases XP ad hu hn hw (fun bS h=>by rw[hz]at h;cases h) u with h | ⟨q,hq,hf⟩
 ·exact fU h
 ·rw[ho,List.mem_singleton]at hq
  subst hq
  exact ht hf
theorem XQ (ad:dW) {ρ:aa} {bx:Prop} {i n:Nat} {RD RE:J} (hu:kE i n) (hn:((dR true i).parts a' (a5 i)).length=n) (hw:(dR true i).wf a' (a5 i)=true) (hz:(dR true i).qb=[pn.2,ko tQ,pn.2,ko tQ]) (ho:(dR true i).sN a' (a5 i)=[lk i,RD,RE]) (u:J.ok ρ (a5 i)) (fU:cO ρ i->bx) (ht:J.ok ρ (lk i)->bx) (E:J.ok ρ RD->bx) (dB:pH.I ρ=false->J.ok ρ pn.2) (fo:pH.I ρ=false->J.ok ρ (ko tQ)) (h5:J.ok ρ RE->bx):bx:=by
 rcases XP ad hu hn hw (fun bS h=>by
  rw[hz]at h
  simp only[List.mem_cons,List.not_mem_nil,or_false]at h
  rcases h with rfl | rfl | rfl | rfl
  ·exact dB
  ·exact fo
  ·exact dB
  ·exact fo) u with h | ⟨q,hq,hf⟩
 ·exact fU h
 ·rw[ho]at hq
  simp only[List.mem_cons,List.not_mem_nil,or_false]at hq
  rcases hq with rfl | rfl | rfl
  ·exact ht hf
  ·exact E hf
  ·exact h5 hf
theorem rd0 (ad:dW) {ρ:aa} {bx:Prop} (u:J.ok ρ (a5 0)) (fU:cO ρ 0->bx) (ht:J.ok ρ (lk 0)->bx):bx:=tt ad apZ apP ap9 rfl rfl u fU ht
theorem ex0 (ad:dW) {ρ:aa} (u:J.ok ρ (ga 0)):cO ρ 0:=part ad [] (List.forall_mem_nil _) rfl aqj u
theorem rd1 (ad:dW) {ρ:aa} {bx:Prop} (u:J.ok ρ (a5 1)) (fU:cO ρ 1->bx) (ht:J.ok ρ (lk 1)->bx):bx:=tt ad ap0 apQ aqa rfl rfl u fU ht
theorem ex1 (ad:dW) {ρ:aa} (u:J.ok ρ (ga 1)):cO ρ 1:=part ad [] (List.forall_mem_nil _) rfl aqk u
theorem rd2 (ad:dW) {ρ:aa} {bx:Prop} (u:J.ok ρ (a5 2)) (fU:cO ρ 2->bx) (ht:J.ok ρ (lk 2)->bx):bx:=tt ad ap1 apR aqb rfl rfl u fU ht
theorem ex2 (ad:dW) {ρ:aa} (u:J.ok ρ (ga 2)):cO ρ 2:=part ad [] (List.forall_mem_nil _) rfl aql u
theorem rd3 (ad:dW) {ρ:aa} {bx:Prop} (u:J.ok ρ (a5 3)) (fU:cO ρ 3->bx) (ht:J.ok ρ (lk 3)->bx):bx:=tt ad ap2 apS aqc rfl rfl u fU ht
theorem ex3 (ad:dW) {ρ:aa} (u:J.ok ρ (ga 3)):cO ρ 3:=part ad [] (List.forall_mem_nil _) rfl aqm u
theorem rd4 (ad:dW) {ρ:aa} {bx:Prop} (u:J.ok ρ (a5 4)) (fU:cO ρ 4->bx) (ht:J.ok ρ (lk 4)->bx):bx:=tt ad ap3 apT aqd rfl rfl u fU ht
theorem ex4 (ad:dW) {ρ:aa} (u:J.ok ρ (ga 4)):cO ρ 4:=part ad [] (List.forall_mem_nil _) rfl aqn u
theorem rd5 (ad:dW) {ρ:aa} {bx:Prop} (u:J.ok ρ (a5 5)) (fU:cO ρ 5->bx) (ht:J.ok ρ (lk 5)->bx):bx:=tt ad ap4 apU aqe rfl rfl u fU ht
theorem ex5 (ad:dW) {ρ:aa} (u:J.ok ρ (ga 5)):cO ρ 5:=part ad [] (List.forall_mem_nil _) rfl aqo u
theorem rd6 (ad:dW) {ρ:aa} {bx:Prop} (u:J.ok ρ (a5 6)) (fU:cO ρ 6->bx) (ht:J.ok ρ (lk 6)->bx):bx:=tt ad ap5 apV aqf rfl rfl u fU ht
theorem ex6 (ad:dW) {ρ:aa} (u:J.ok ρ (ga 6)):cO ρ 6:=part ad [] (List.forall_mem_nil _) rfl aqp u
theorem rd7 (ad:dW) {ρ:aa} {bx:Prop} (u:J.ok ρ (a5 7)) (fU:cO ρ 7->bx) (ht:J.ok ρ (lk 7)->bx) (E:J.ok ρ ((.eq (.var 443) (.lit 1),true)::(ai (cM 73) 0,true)::(ai (cM 73) 60,false)::(ai (cM 73) 92,false)::(ai (cM 0) 6,true)::(ai (cM 0) 4,false)::(.eq (cM 13) (.var 403),true)::(.eq (cM 12) (.var 402),true)::(ai (cA 0) 2,true)::(ai (cA 0) 1,false)::a5 7)->bx) (dB:pH.I ρ=false->J.ok ρ pn.2) (fo:pH.I ρ=false->J.ok ρ (ko tQ)) (h5:J.ok ρ ((.eq (.var 443) (.lit 1),true)::(ai (cM 73) 0,true)::(ai (cM 73) 60,false)::(ai (cM 73) 92,false)::(ai (cM 0) 6,true)::(ai (cM 0) 4,false)::(ai (cA 0) 5,true)::(ai (cA 0) 4,false)::(ai (cA 0) 3,false)::(ai (cA 0) 2,false)::(ai (cA 0) 1,false)::a5 7)->bx):bx :=
 XQ ad ap6 apW aqg rfl rfl u fU ht E dB fo h5
theorem ex7 (ad:dW) {ρ:aa} (u:J.ok ρ (ga 7)):cO ρ 7:=part ad [] (List.forall_mem_nil _) rfl aqq u
theorem rd8 (ad:dW) {ρ:aa} {bx:Prop} (u:J.ok ρ (a5 8)) (fU:cO ρ 8->bx) (ht:J.ok ρ (lk 8)->bx):bx:=tt ad ap7 apX aqh rfl rfl u fU ht
theorem ex8 (ad:dW) {ρ:aa} (u:J.ok ρ (ga 8)):cO ρ 8:=part ad [] (List.forall_mem_nil _) rfl aqr u
theorem rd9 (ad:dW) {ρ:aa} {bx:Prop} (u:J.ok ρ (a5 9)) (fU:cO ρ 9->bx) (ht:J.ok ρ (lk 9)->bx) (E:J.ok ρ ((.eq (.var 443) (.lit 1),true)::(ai (cM 73) 0,true)::(ai (cM 73) 60,false)::(ai (cM 73) 92,false)::(ai (cM 0) 6,true)::(ai (cM 0) 4,false)::(.eq (cM 13) (.var 403),true)::(.eq (cM 12) (.var 402),true)::(ai (cA 0) 2,true)::(ai (cA 0) 1,false)::a5 9)->bx) (dB:pH.I ρ=false->J.ok ρ pn.2) (fo:pH.I ρ=false->J.ok ρ (ko tQ)) (h5:J.ok ρ ((.eq (.var 443) (.lit 1),true)::(ai (cM 73) 0,true)::(ai (cM 73) 60,false)::(ai (cM 73) 92,false)::(ai (cM 0) 6,true)::(ai (cM 0) 4,false)::(ai (cA 0) 5,true)::(ai (cA 0) 4,false)::(ai (cA 0) 3,false)::(ai (cA 0) 2,false)::(ai (cA 0) 1,false)::a5 9)->bx):bx :=
 XQ ad ap8 apY aqi rfl rfl u fU ht E dB fo h5
theorem ex9 (ad:dW) {ρ:aa} (u:J.ok ρ (ga 9)):cO ρ 9:=part ad [] (List.forall_mem_nil _) rfl aqs u
end Go.Proofs.YtpdfmnhgocpkcaaGreat
