/- Parts of the proof, one behind the other. -/
import Derived.Test.YtpdfmnhgocpkcaaGreatTK26
import Derived.Test.YtpdfmnhgocpkcaaGreatTK27
import Derived.Test.YtpdfmnhgocpkcaaGreatTK28
import Derived.Test.YtpdfmnhgocpkcaaGreatTK29
import Derived.Test.YtpdfmnhgocpkcaaGreatTK30
import Derived.Test.YtpdfmnhgocpkcaaGreatTK31
import Derived.Test.YtpdfmnhgocpkcaaGreatTK32
import Derived.Test.YtpdfmnhgocpkcaaGreatTK33
import Derived.Test.YtpdfmnhgocpkcaaGreatTK34
import Derived.Test.YtpdfmnhgocpkcaaGreatTK35
namespace Go.Proofs.YtpdfmnhgocpkcaaGreat
open Go Go.Proofs.Aw Go.Proofs.Xw
set_option maxRecDepth 100000
def ly (i:Nat):J:=(ai (cA 1) 4,true)::(ai (cA 0) 1,true)::a8 i
theorem tN (ad:ea) {ρ:aa} {bx:Prop} {i n:Nat} (hu:kT i n) (hn:((dY false i).parts bc (a8 i)).length=n) (hw:(dY false i).wf bc (a8 i)=true) (hz:(dY false i).pe=[]) (ho:(dY false i).ra bc (a8 i)=[ly i]) (u:J.ok ρ (a8 i)) (fZ:cV ρ i->bx) (ht:J.ok ρ (ly i)->bx):bx:=by
 rcases X_ ad hu hn hw (fun b6 h=>by rw[hz]at h;cases h) u with h | ⟨q,hq,hf⟩
 ·exact fZ h
 ·rw[ho,List.mem_singleton]at hq
  subst hq
  exact ht hf
theorem X' (ad:ea) {ρ:aa} {bx:Prop} {i n:Nat} {RP RQ:J} (hu:kT i n) (hn:((dY false i).parts bc (a8 i)).length=n) (hw:(dY false i).wf bc (a8 i)=true) (hz:(dY false i).pe=[pF.2,kH uj,pF.2,kH uj]) (ho:(dY false i).ra bc (a8 i)=[ly i,RP,RQ]) (u:J.ok ρ (a8 i)) (fZ:cV ρ i->bx) (ht:J.ok ρ (ly i)->bx) (E:J.ok ρ RP->bx) (dI:p3.I ρ=false->J.ok ρ pF.2) (dW:p3.I ρ=false->J.ok ρ (kH uj)) (h5:J.ok ρ RQ->bx):bx:=by
 rcases X_ ad hu hn hw (fun b6 h=>by
  rw[hz]at h
  simp only[List.mem_cons,List.not_mem_nil,or_false]at h
  rcases h with rfl | rfl | rfl | rfl
  ·exact dI
  ·exact dW
  ·exact dI
  ·exact dW) u with h | ⟨q,hq,hf⟩
 ·exact fZ h
 ·rw[ho]at hq
  simp only[List.mem_cons,List.not_mem_nil,or_false]at hq
  rcases hq with rfl | rfl | rfl
  ·exact ht hf
  ·exact E hf
  ·exact h5 hf
theorem rd0 (ad:ea) {ρ:aa} {bx:Prop} (u:J.ok ρ (a8 0)) (fZ:cV ρ 0->bx) (ht:J.ok ρ (ly 0)->bx):bx:=tN ad apO apE apY rfl rfl u fZ ht
theorem ex0 (ad:ea) {ρ:aa} (u:J.ok ρ (gh 0)):cV ρ 0:=part ad [] (List.forall_mem_nil _) rfl ap8 u
theorem rd1 (ad:ea) {ρ:aa} {bx:Prop} (u:J.ok ρ (a8 1)) (fZ:cV ρ 1->bx) (ht:J.ok ρ (ly 1)->bx):bx:=tN ad apP apF apZ rfl rfl u fZ ht
theorem ex1 (ad:ea) {ρ:aa} (u:J.ok ρ (gh 1)):cV ρ 1:=part ad [] (List.forall_mem_nil _) rfl ap9 u
theorem rd2 (ad:ea) {ρ:aa} {bx:Prop} (u:J.ok ρ (a8 2)) (fZ:cV ρ 2->bx) (ht:J.ok ρ (ly 2)->bx):bx:=tN ad apQ apG ap0 rfl rfl u fZ ht
theorem ex2 (ad:ea) {ρ:aa} (u:J.ok ρ (gh 2)):cV ρ 2:=part ad [] (List.forall_mem_nil _) rfl aqa u
theorem rd3 (ad:ea) {ρ:aa} {bx:Prop} (u:J.ok ρ (a8 3)) (fZ:cV ρ 3->bx) (ht:J.ok ρ (ly 3)->bx):bx:=tN ad apR apH ap1 rfl rfl u fZ ht
theorem ex3 (ad:ea) {ρ:aa} (u:J.ok ρ (gh 3)):cV ρ 3:=part ad [] (List.forall_mem_nil _) rfl aqb u
theorem rd4 (ad:ea) {ρ:aa} {bx:Prop} (u:J.ok ρ (a8 4)) (fZ:cV ρ 4->bx) (ht:J.ok ρ (ly 4)->bx):bx:=tN ad apS apI ap2 rfl rfl u fZ ht
theorem ex4 (ad:ea) {ρ:aa} (u:J.ok ρ (gh 4)):cV ρ 4:=part ad [] (List.forall_mem_nil _) rfl aqc u
theorem rd5 (ad:ea) {ρ:aa} {bx:Prop} (u:J.ok ρ (a8 5)) (fZ:cV ρ 5->bx) (ht:J.ok ρ (ly 5)->bx):bx:=tN ad apT apJ ap3 rfl rfl u fZ ht
theorem ex5 (ad:ea) {ρ:aa} (u:J.ok ρ (gh 5)):cV ρ 5:=part ad [] (List.forall_mem_nil _) rfl aqd u
theorem rd6 (ad:ea) {ρ:aa} {bx:Prop} (u:J.ok ρ (a8 6)) (fZ:cV ρ 6->bx) (ht:J.ok ρ (ly 6)->bx):bx:=tN ad apU apK ap4 rfl rfl u fZ ht
theorem ex6 (ad:ea) {ρ:aa} (u:J.ok ρ (gh 6)):cV ρ 6:=part ad [] (List.forall_mem_nil _) rfl aqe u
theorem rd7 (ad:ea) {ρ:aa} {bx:Prop} (u:J.ok ρ (a8 7)) (fZ:cV ρ 7->bx) (ht:J.ok ρ (ly 7)->bx) (E:J.ok ρ ((.eq (.var 443) (.lit 1),true)::(ai (cM 73) 0,true)::(ai (cM 73) 60,false)::(ai (cM 73) 92,false)::(ai (cM 0) 6,true)::(ai (cM 0) 4,false)::(.eq (cM 13) (.var 403),true)::(.eq (cM 12) (.var 402),true)::(ai (cA 0) 2,true)::(ai (cA 0) 1,false)::a8 7)->bx) (dI:p3.I ρ=false->J.ok ρ pF.2) (dW:p3.I ρ=false->J.ok ρ (kH uj)) (h5:J.ok ρ ((.eq (.var 443) (.lit 1),true)::(ai (cM 73) 0,true)::(ai (cM 73) 60,false)::(ai (cM 73) 92,false)::(ai (cM 0) 6,true)::(ai (cM 0) 4,false)::(ai (cA 0) 5,true)::(ai (cA 0) 4,false)::(ai (cA 0) 3,false)::(ai (cA 0) 2,false)::(ai (cA 0) 1,false)::a8 7)->bx):bx :=
 X' ad apV apL ap5 rfl rfl u fZ ht E dI dW h5
theorem ex7 (ad:ea) {ρ:aa} (u:J.ok ρ (gh 7)):cV ρ 7:=part ad [] (List.forall_mem_nil _) rfl aqf u
theorem rd8 (ad:ea) {ρ:aa} {bx:Prop} (u:J.ok ρ (a8 8)) (fZ:cV ρ 8->bx) (ht:J.ok ρ (ly 8)->bx):bx:=tN ad apW apM ap6 rfl rfl u fZ ht
theorem ex8 (ad:ea) {ρ:aa} (u:J.ok ρ (gh 8)):cV ρ 8:=part ad [] (List.forall_mem_nil _) rfl aqg u
theorem rd9 (ad:ea) {ρ:aa} {bx:Prop} (u:J.ok ρ (a8 9)) (fZ:cV ρ 9->bx) (ht:J.ok ρ (ly 9)->bx) (E:J.ok ρ ((.eq (.var 443) (.lit 1),true)::(ai (cM 73) 0,true)::(ai (cM 73) 60,false)::(ai (cM 73) 92,false)::(ai (cM 0) 6,true)::(ai (cM 0) 4,false)::(.eq (cM 13) (.var 403),true)::(.eq (cM 12) (.var 402),true)::(ai (cA 0) 2,true)::(ai (cA 0) 1,false)::a8 9)->bx) (dI:p3.I ρ=false->J.ok ρ pF.2) (dW:p3.I ρ=false->J.ok ρ (kH uj)) (h5:J.ok ρ ((.eq (.var 443) (.lit 1),true)::(ai (cM 73) 0,true)::(ai (cM 73) 60,false)::(ai (cM 73) 92,false)::(ai (cM 0) 6,true)::(ai (cM 0) 4,false)::(ai (cA 0) 5,true)::(ai (cA 0) 4,false)::(ai (cA 0) 3,false)::(ai (cA 0) 2,false)::(ai (cA 0) 1,false)::a8 9)->bx):bx :=
 X' ad apX apN ap7 rfl rfl u fZ ht E dI dW h5
theorem ex9 (ad:ea) {ρ:aa} (u:J.ok ρ (gh 9)):cV ρ 9:=part ad [] (List.forall_mem_nil _) rfl aqh u
end Go.Proofs.YtpdfmnhgocpkcaaGreat
