/- Parts of the proof, one behind the other. -/
import Derived.Test.YtpdfmnhgocpkcaaGreatTM17
import Derived.Test.YtpdfmnhgocpkcaaGreatTM18
import Derived.Test.YtpdfmnhgocpkcaaGreatTM19
import Derived.Test.YtpdfmnhgocpkcaaGreatTM20
import Derived.Test.YtpdfmnhgocpkcaaGreatTM21
import Derived.Test.YtpdfmnhgocpkcaaGreatTM22
import Derived.Test.YtpdfmnhgocpkcaaGreatTM23
import Derived.Test.YtpdfmnhgocpkcaaGreatTM24
import Derived.Test.YtpdfmnhgocpkcaaGreatTM25
import Derived.Test.YtpdfmnhgocpkcaaGreatTM26
namespace Go.Proofs.YtpdfmnhgocpkcaaGreat
open Go Go.Proofs.Aw Go.Proofs.Xw
set_option maxRecDepth 100000
def UY (i:Nat):Facts:=(aJ (cA 1) 4,true)::(aJ (cA 0) 1,true)::gz i
theorem rdZ (B:Bas) {J:Rho} {G:Prop} {i n:Nat} (hu:BR i n) (hn:((fP i).parts bH (gz i)).length=n) (hw:(fP i).wf bH (gz i)=true) (hz:(fP i).ads=[]) (ho:(fP i).hos bH (gz i)=[UY i]) (hk:Facts.ok J (gz i)) (toG:qE J i->G) (ht:Facts.ok J (UY i)->G):G:=by
 rcases rdP B hu hn hw (fun Ψ h=>by rw[hz]at h;cases h) hk with h | ⟨q,hq,hf⟩
 ·exact toG h
 ·rw[ho,List.mem_singleton]at hq
  subst hq
  exact ht hf
theorem rdY (B:Bas) {J:Rho} {G:Prop} {i n:Nat} {F2 F5:Facts} (hu:BR i n) (hn:((fP i).parts bH (gz i)).length=n) (hw:(fP i).wf bH (gz i)=true) (hz:(fP i).ads=[G6.2,xN BJ,G6.2,xN BJ]) (ho:(fP i).hos bH (gz i)=[UY i,F2,F5]) (hk:Facts.ok J (gz i)) (toG:qE J i->G) (ht:Facts.ok J (UY i)->G) (h2:Facts.ok J F2->G) (hm1:oneL.den J=false->Facts.ok J G6.2) (hm2:oneL.den J=false->Facts.ok J (xN BJ)) (h5:Facts.ok J F5->G):G:=by
 rcases rdP B hu hn hw (fun Ψ h=>by
  rw[hz]at h
  simp only[List.mem_cons,List.not_mem_nil,or_false]at h
  rcases h with rfl | rfl | rfl | rfl
  ·exact hm1
  ·exact hm2
  ·exact hm1
  ·exact hm2) hk with h | ⟨q,hq,hf⟩
 ·exact toG h
 ·rw[ho]at hq
  simp only[List.mem_cons,List.not_mem_nil,or_false]at hq
  rcases hq with rfl | rfl | rfl
  ·exact ht hf
  ·exact h2 hf
  ·exact h5 hf
theorem rd0 (B:Bas) {J:Rho} {G:Prop} (hk:Facts.ok J (gz 0)) (toG:qE J 0->G) (ht:Facts.ok J (UY 0)->G):G:=rdZ B u0 n0 w0 rfl rfl hk toG ht
theorem ex0 (B:Bas) {J:Rho} (hk:Facts.ok J (GM 0)):qE J 0:=part B [] (List.forall_mem_nil _) rfl x0 hk
theorem rd1 (B:Bas) {J:Rho} {G:Prop} (hk:Facts.ok J (gz 1)) (toG:qE J 1->G) (ht:Facts.ok J (UY 1)->G):G:=rdZ B u1 n1 w1 rfl rfl hk toG ht
theorem ex1 (B:Bas) {J:Rho} (hk:Facts.ok J (GM 1)):qE J 1:=part B [] (List.forall_mem_nil _) rfl x1 hk
theorem rd2 (B:Bas) {J:Rho} {G:Prop} (hk:Facts.ok J (gz 2)) (toG:qE J 2->G) (ht:Facts.ok J (UY 2)->G):G:=rdZ B u2 n2 w2 rfl rfl hk toG ht
theorem ex2 (B:Bas) {J:Rho} (hk:Facts.ok J (GM 2)):qE J 2:=part B [] (List.forall_mem_nil _) rfl x2 hk
theorem rd3 (B:Bas) {J:Rho} {G:Prop} (hk:Facts.ok J (gz 3)) (toG:qE J 3->G) (ht:Facts.ok J (UY 3)->G):G:=rdZ B u3 n3 w3 rfl rfl hk toG ht
theorem ex3 (B:Bas) {J:Rho} (hk:Facts.ok J (GM 3)):qE J 3:=part B [] (List.forall_mem_nil _) rfl x3 hk
theorem rd4 (B:Bas) {J:Rho} {G:Prop} (hk:Facts.ok J (gz 4)) (toG:qE J 4->G) (ht:Facts.ok J (UY 4)->G):G:=rdZ B u4 n4 w4 rfl rfl hk toG ht
theorem ex4 (B:Bas) {J:Rho} (hk:Facts.ok J (GM 4)):qE J 4:=part B [] (List.forall_mem_nil _) rfl x4 hk
theorem rd5 (B:Bas) {J:Rho} {G:Prop} (hk:Facts.ok J (gz 5)) (toG:qE J 5->G) (ht:Facts.ok J (UY 5)->G):G:=rdZ B u5 n5 w5 rfl rfl hk toG ht
theorem ex5 (B:Bas) {J:Rho} (hk:Facts.ok J (GM 5)):qE J 5:=part B [] (List.forall_mem_nil _) rfl x5 hk
theorem rd6 (B:Bas) {J:Rho} {G:Prop} (hk:Facts.ok J (gz 6)) (toG:qE J 6->G) (ht:Facts.ok J (UY 6)->G):G:=rdZ B u6 n6q w6 rfl rfl hk toG ht
theorem ex6 (B:Bas) {J:Rho} (hk:Facts.ok J (GM 6)):qE J 6:=part B [] (List.forall_mem_nil _) rfl x6 hk
theorem rd7 (B:Bas) {J:Rho} {G:Prop} (hk:Facts.ok J (gz 7)) (toG:qE J 7->G) (ht:Facts.ok J (UY 7)->G) (h2:Facts.ok J ((.eq (.var 443) (.lit 1),true)::(aJ (cM 73) 0,true)::(aJ (cM 73) 60,false)::(aJ (cM 73) 92,false)::(aJ (cM 0) 6,true)::(aJ (cM 0) 4,false)::(.eq (cM 13) (.var 403),true)::(.eq (cM 12) (.var 402),true)::(aJ (cA 0) 2,true)::(aJ (cA 0) 1,false)::gz 7)->G) (hm1:oneL.den J=false->Facts.ok J G6.2) (hm2:oneL.den J=false->Facts.ok J (xN BJ)) (h5:Facts.ok J ((.eq (.var 443) (.lit 1),true)::(aJ (cM 73) 0,true)::(aJ (cM 73) 60,false)::(aJ (cM 73) 92,false)::(aJ (cM 0) 6,true)::(aJ (cM 0) 4,false)::(aJ (cA 0) 5,true)::(aJ (cA 0) 4,false)::(aJ (cA 0) 3,false)::(aJ (cA 0) 2,false)::(aJ (cA 0) 1,false)::gz 7)->G):G :=
 rdY B u7 n7 w7 rfl rfl hk toG ht h2 hm1 hm2 h5
theorem ex7 (B:Bas) {J:Rho} (hk:Facts.ok J (GM 7)):qE J 7:=part B [] (List.forall_mem_nil _) rfl x7 hk
theorem rd8 (B:Bas) {J:Rho} {G:Prop} (hk:Facts.ok J (gz 8)) (toG:qE J 8->G) (ht:Facts.ok J (UY 8)->G):G:=rdZ B u8 n8 w8 rfl rfl hk toG ht
theorem ex8 (B:Bas) {J:Rho} (hk:Facts.ok J (GM 8)):qE J 8:=part B [] (List.forall_mem_nil _) rfl x8 hk
theorem rd9 (B:Bas) {J:Rho} {G:Prop} (hk:Facts.ok J (gz 9)) (toG:qE J 9->G) (ht:Facts.ok J (UY 9)->G) (h2:Facts.ok J ((.eq (.var 443) (.lit 1),true)::(aJ (cM 73) 0,true)::(aJ (cM 73) 60,false)::(aJ (cM 73) 92,false)::(aJ (cM 0) 6,true)::(aJ (cM 0) 4,false)::(.eq (cM 13) (.var 403),true)::(.eq (cM 12) (.var 402),true)::(aJ (cA 0) 2,true)::(aJ (cA 0) 1,false)::gz 9)->G) (hm1:oneL.den J=false->Facts.ok J G6.2) (hm2:oneL.den J=false->Facts.ok J (xN BJ)) (h5:Facts.ok J ((.eq (.var 443) (.lit 1),true)::(aJ (cM 73) 0,true)::(aJ (cM 73) 60,false)::(aJ (cM 73) 92,false)::(aJ (cM 0) 6,true)::(aJ (cM 0) 4,false)::(aJ (cA 0) 5,true)::(aJ (cA 0) 4,false)::(aJ (cA 0) 3,false)::(aJ (cA 0) 2,false)::(aJ (cA 0) 1,false)::gz 9)->G):G :=
 rdY B u9 n9 w9 rfl rfl hk toG ht h2 hm1 hm2 h5
theorem ex9 (B:Bas) {J:Rho} (hk:Facts.ok J (GM 9)):qE J 9:=part B [] (List.forall_mem_nil _) rfl x9 hk
end Go.Proofs.YtpdfmnhgocpkcaaGreat
