/- Parts of the proof, one behind the other. -/
import Derived.Test.YtpdfmnhgocpkcaaGreatTK2
import Derived.Test.YtpdfmnhgocpkcaaGreatXwK3
import Derived.Test.YtpdfmnhgocpkcaaGreatXwK4
namespace Go.Proofs.YtpdfmnhgocpkcaaGreat
open Go Go.Proofs.Aw Go.Proofs.Xw
set_option maxRecDepth 100000
def Kp (ty : TypeId) : List Oper := [⟨some 2, .assign (.const (.slice none 0 0)), ty, "slices.go:355", #[], none⟩]
def Kq (ty : TypeId) : List Oper := [⟨some 3, .move (.tmp 0), ty, "slices.go:357", #[], none⟩, ⟨some 4, .binOp .eql ty (.tmp 3) (.const (.slice none 0 0)) ty, 4, "slices.go:357", #[⟨0, .data⟩], none⟩]
def SN (ty : TypeId) : List Oper := [⟨some 2, .assign (.const (.slice none 0 0)), ty, "slices.go:358", #[], none⟩]
def Kr (ty : TypeId) : List Oper := [⟨some 5, .buildSlice ty 0 #[], ty, "slices.go:362", #[], none⟩, ⟨some 6, .move (.tmp 0), ty, "slices.go:362", #[], none⟩,
 ⟨some 7, .call ⟨.builtin .append, #[.tmp 5, .tmp 6], #[ty, ty]⟩, ty, "slices.go:362", #[⟨0, .data⟩, ⟨1, .data⟩], none⟩,
 ⟨some 2, .assign (.tmp 7), ty, "slices.go:362", #[⟨2, .data⟩, ⟨2, .chain⟩, ⟨0, .phase⟩, ⟨1, .phase⟩, ⟨2, .phase⟩], none⟩]
def uR (ty:TypeId):Code :=
 .seq (.region 0 (Kp ty).toArray false) (.seq (.seq (.region 1 (Kq ty).toArray false) (.cond (.tmp 4) (.seq (.region 2 (SN ty).toArray false) .ret) .skip)) (.seq (.region 3 (Kr ty).toArray false) .ret))
theorem SO {P:Program} {ac:Env} {ty e:TypeId} {z:Nat} {v r:AV} {b:Bool} (hN:ac.N=8) (hs:bE P ty=some (e,z)) (hz:nL P e=some z) (hn:gX P [] .eql ty v (.sc (.slice none 0 0))=some (.sc (.bool b)))
  (A:b=true->r = .sc (.slice none 0 0)) (E:b=false->∃fs,ez [] z v=some fs/\fs.length*c' P e<=140737488355328/\fs.length<=9223372036854775807/\r = .ro z fs false) :
  AW P ac (uR ty) (Eg P [.tmp 2] r) ⟨gN 0 [v],[],0⟩:=by
 unfold uR
 refine o_ fun K hK=>ux [] (by rw[hN];rfl) ?_
 unfold Kp
 rw[j4]
 refine hK _ ?_
 refine o_ fun K hK=>o_ fun K1 L2=>ux [] (by rw[hN];rfl) ?_
 unfold Kq
 rw[j4]
 show iM P [] _ _ K1 _ _ _
 rw[j4]
 show lH P _ _ (da (gX P [] .eql ty v (.sc (.slice none 0 0)))) _
 rw[hn]
 refine L2 _ (D8 (b:=b) rfl (fun hb => ?_) (fun hb => ?_))
 ·refine o_ fun K2 Bm=>ux [] (by rw[hN];rfl) ?_
  unfold SN
  rw[j4]
  refine Bm _ (D9 ?_)
  refine⟨.inl rfl,?_⟩
  rw[A hb]
  rfl
 ·refine Jv (hK _ ?_)
  obtain⟨fs,g1,g2,g3,g4⟩:=E hb
  refine o_ fun K2 Bm=>ux [] (by rw[hN];rfl) ?_
  unfold Kr
  rw[j4]
  have e1:nZ P 3 false ty 0 []=some (.ro z [] true,[]):=by
   unfold nZ
   rw[hs]
   simp only[hz,ld]
   rw[if_pos ⟨trivial,by omega,rfl,trivial⟩]
   rfl
  show lH P _ _ (lC (nZ P 3 false ty 0 [])) _
  rw[e1]
  show iM P [] _ _ K2 _ _ _
  rw[j4]
  show iM P [] _ _ K2 _ _ _
  rw[j4]
  have e2:nX P 5 [] false ty ty (.ro z [] true) v=some (.ro z fs false,[]):=by
   unfold nX
   rw[hs]
   simp only[hz,g1,and_self,if_true,ju,jv,nW]
   rw[if_pos ⟨by simpa using g2,by simpa using g3,fun h=>nomatch h⟩]
   rfl
  show lH P _ _ (lC (nX P 5 [] false ty ty (.ro z [] true) v)) _
  rw[e2]
  show iM P [] _ _ K2 _ _ _
  rw[j4]
  refine Bm _ (D9 ⟨.inl rfl,?_⟩)
  rw[g4]
  rfl
theorem J7 {P:Program} {ty:TypeId} {v:AV} (h:∀k i,v ≠ .sc (.int k i)):gw P .eql ty v (.sc (.slice none 0 0))=none:=by
 unfold gw
 split<;>simp_all
theorem SP {P:Program} {f:FuncId} {fn:Func} {ty e:TypeId} {z:Nat} (hf:P.funcs[f]? = some fn) (hb:fn.body=some (uR ty)) (hr:fn.results.toList=[.tmp 2]) (hN:fn.ntmps=8) (hB:cj P f=true) (hs:bE P ty=some (e,z)) (hz:nL P e=some z):uz P (f,z):=by
 refine⟨hB,fun full n h => ?_⟩
 have run:∀(ab:Option Addr) (cap:Nat) (r:AV),ca (fun _=>false) r=true->(ab.isNone=true->r = .sc (.slice none 0 0))->(ab.isNone=false->r = .ro z [] false)->CY P n f [.sc (.slice ab 0 cap)] h r []:=fun ab cap r mo A E =>
  Jx hf hb (by rw[hN];show 1<=8;decide) rfl mo (fun ac hE _ _=>by
   rw[hr]
   refine SO (b:=ab.isNone) (by rw[hE,hN]) hs hz ?_ A fun hb=>⟨[],rfl,by simp,by simp,E hb⟩
   unfold gX
   rw[J7 (fun k i h=>by cases h)]
   simp only[kO,hs,mE]) n h
 intro C vs W hL hn
 obtain⟨Y,us,rfl,hu,fL⟩:=hL
 simp only[aD]at fL
 subst fL
 obtain⟨ab,cap,rfl,A,E,_⟩:=iU.1 hu
 have UO:aD C [.sc (.slice ab 0 cap)] [.slice ab 0 cap]:=⟨_,_,rfl,rfl,rfl⟩
 cases ab with
 | none =>
  refine(run none cap (.sc (.slice none 0 0)) rfl (fun _=>rfl) (fun h=>by cases h) C _ W UO hn).mono ?_
  rintro e' w' ⟨Y,C',h3,h4,hp⟩
  have R:Y = .slice none 0 0:=hp.val
  exact⟨Y,C',h3,h4,{ hp with val:=iU.2 ⟨none,0,R,Nat.le_refl _,fun h=>(nomatch h),fun h=>absurd rfl h⟩ }⟩
 | some a=>exact run (some a) cap (.ro z [] false) rfl (fun h=>by cases h) (fun _=>rfl) C _ W UO hn
theorem SL:uz Tryz.prog (48,1):=SP (fn:=Tryz.f48) (ty:=25) (e:=9) Tryz.func48 rfl rfl rfl (by kernel_rfl) (by kernel_rfl) (by kernel_rfl)
theorem SM:uz Tryz.prog (49,22):=SP (fn:=Tryz.f49) (ty:=67) (e:=74) Tryz.func49 rfl rfl rfl (by kernel_rfl) (by kernel_rfl) (by kernel_rfl)
def cls:List (Nat×Nat):=[(48,1),(49,22)]
theorem Ks:∀k∈cls,uz Tryz.prog k:=List.forall_mem_cons.2 ⟨SL,List.forall_mem_cons.2 ⟨SM,List.forall_mem_nil _⟩⟩
end Go.Proofs.YtpdfmnhgocpkcaaGreat
namespace Go.Proofs.YtpdfmnhgocpkcaaGreat
open Go Go.Proofs.Aw Go.Proofs.Xw
set_option maxRecDepth 100000
def xi (v:Nat):X := .sc (.i .i64 (.var v))
def xb (v:Nat):X := .sc (.b (.var v))
def xs (v:Nat):X := .sc (.s (.var v))
def xl (b:Bool):X := .sc (.b (.lit b))
def xn (n:Int):X := .sc (.i .i64 (.lit n))
def vi (k n:Nat):List X:=(List.range n).map fun j=>xi (k+j)
def eQ (k n:Nat) (r:AL):AL:=(List.range n).foldr (fun j r => .i (.var (k+j)) r) r
def gV (k:Nat):AL:=eQ k 10 (.b (.var (k+10)) (.i (.var (k+11)) (.i (.var (k+12)) .nil)))
def iT (k:Nat):List X:=vi k 10++[xb (k+10)]++vi (k+11) 2
def kZ (k:Nat):AL:=eQ k 6 (.s (.var (k+6)) (.s (.var (k+7)) (.b (.var (k+8)) (eQ (k+9) 11 .nil))))
def qQ (k:Nat):List X:=vi k 6++[xs (k+6),xs (k+7),xb (k+8)]++vi (k+9) 11
def tG (a b:Nat):X := .sc (.c (.var a) (.lit false) (.var b) (.lit false))
def zC (k j:Nat) (a:AL):X := .sc (.i .i64 (.uf k j a))
def aaw (k:Nat) (a:AL):X := .sc (.b (.eq (.uf k 0 a) (.lit 1)))
def aax (k:Nat) (a:AL):X := .sc (.c (.uf k 0 a) (.lit false) (.uf k 1 a) (.lit false))
def jb (e:U) (lo hi:Int):BE := .and (.not (.lt e (.lit lo))) (.not (.lt (.lit hi) e))
def R3:AL := .s (.var 0) (.i (.var 1) .nil)
def Pl:BE := .and (.not (.lt (.lit 1000000) (.cm (.var 0)))) (jb (.var 1) 1 3)
def P5 (f:Nat):Sm:=⟨f,[xs 0,xi 1],zC 0 0 R3,Pl⟩
def De (f:Nat):Sm:=⟨f,[.agg (iT 0)],aaw 1 (gV 0),.lit true⟩
def P7 (f:Nat):Sm:=⟨f,[.agg (qQ 0)],aaw 2 (kZ 0),.lit true⟩
def P6 (f:Nat):Sm:=⟨f,[.ro 20 [qQ 0] false],.agg ((List.range 9).map fun j=>zC 3 j (kZ 0)),.eq (.uf 2 0 (kZ 0)) (.lit 1)⟩
def GR:X := .agg ((List.range 9).map fun j => .sc (.i .i64 (.op .max .i64 (.op .max .i64 (.lit 0) (.var j)) (.var (9+j)))))
def Im:Sm:=⟨29,[.ro 9 [vi 0 9,vi 9 9] false],GR,.lit true⟩
def Ir:Sm:=⟨113,[.agg (vi 0 9),.agg (vi 9 9)],GR,.lit true⟩
def P4 (f:Nat):Sm:=⟨f,[xi 0,xi 1,xi 2],aax 4 (eQ 0 3 .nil),.and (jb (.var 0) 0 2) (.and (jb (.var 1) 0 2) (jb (.var 2) 0 3))⟩
def P1 (f:Nat):Sm:=⟨f,[xi 0,xi 1],aax 5 (eQ 0 2 .nil),.and (jb (.var 0) 0 2) (jb (.var 1) 0 3)⟩
def Dd (f:Nat):Sm:=⟨f,[tG 0 1,tG 2 3],zC 6 0 (eQ 0 4 .nil),.and (jb (.var 0) (-16384) 16384) (.and (jb (.var 1) (-16384) 16384) (.and (jb (.var 2) (-16384) 16384) (jb (.var 3) (-16384) 16384)))⟩
def Il (f:Nat):Sm:=⟨f,[.agg (iT 0)],.sc (.i .i64 (.ite (.eq (.uf 1 0 (gV 0)) (.lit 1)) (.var 2) (.lit (-1)))),.lit true⟩
def P2 (f:Nat):Sm:=⟨f,[.agg (iT 0)],zC 7 0 (gV 0),.lit true⟩
def XW (n:Nat):BE:=(List.range (2*n+2)).foldr (fun k b => .and (jb (.var k) (-16384) 16384) b) (.lit true)
def P3 (f n:Nat):Sm:=⟨f,[tG 0 1,.ro 1 ((List.range n).map fun k=>[tG (2*k+2) (2*k+3)]) false],zC 8 0 (eQ 0 (2*n+2) .nil),XW n⟩
def hj:List Sm:=[P5 33,P5 104,De 97,De 105,P7 28,P7 81,P6 24,P6 114,Im,Ir,P4 36,P4 108,P1 34,P1 110,Dd 35,Dd 135,Il 27,Il 77,P2 94,P2 107]++([1,2,3,4].map (P3 92)++[1,2,3,4].map (P3 109))
end Go.Proofs.YtpdfmnhgocpkcaaGreat
namespace Go.Proofs.YtpdfmnhgocpkcaaGreat
open Go Go.Proofs.Aw Go.Proofs.Xw
set_option maxRecDepth 100000
def kI:Nk := .f (.i .i64)
def th:Nk := .f .s
def vP:Nk := .f .b
def hc:List Nk:=[kI,kI,.r 1 194 [.s],th,kI,kI,kI,kI,kI,kI,kI,kI,kI,kI,kI,kI,kI,kI,kI,kI,kI,kI,kI,kI,kI,kI,kI,kI,kI,vP,kI,kI,kI,kI,kI,kI,kI,kI,th,th,vP,kI,kI,kI,kI,kI,kI,kI,kI,kI,kI,kI,vP,th,th,vP,vP,kI,kI,kI,kI,kI,kI,kI,kI,kI,kI,kI,kI,kI,kI,kI,kI,kI,kI,kI,kI,kI,kI]
def fX:X := .rn 79 (.len 2) 2 hc false
noncomputable def NV:Nat->List bo:=fun f=>if Nat.beq f 14=true then [BU ((dF (((ef (Tryz.f14.body.getD .skip))[0]?).getD .skip)).getD 0) 13 36]else []
def GN:List X:=vi 0 4
def cq (e:Nm):X := .slv e 20 (.lit 0) (.len 460) true
def ll:List X:=[.tk 20 (.len 460) 460 []]
def QO (n:Nat):List X:=List.replicate n .top
def W1:X := .k (.pointer none)
def Sz (busy asked:Bool) (ks fV tx:X) (ev:X):List X :=
 GN++[xi 4,xi 401,xi 402]++[xi 403,xi 404]++vi 405 9++[xl busy]++(if busy=true then [xi 414,ks,xs 450,xi 415,xi 416,xi 417,xl asked,xb 441]else QO 8)++iT 418++(if busy=true then [fV,tx]else [.top,.top])++[ev]
def Ta (busy asked:Bool) (ks at_ tx:X) (ev:X):List X :=
 GN++[xi 4,xi 401,xi 402,xi 404]++vi 405 9++[xl busy]++(if busy=true then [xi 414,ks,xs 450,xi 415,tx,at_]else QO 6)++[xi 403]++(if busy=true then [xi 416,xi 417,xl asked,xb 441]else QO 4)++iT 418++[ev,.top]
def hp (p q e:Nat) (busy asked:Bool) (ahr kd fV at_ tx ty:X) (h:av):av:=[((p,0),Sz busy asked ahr fV tx (cq (e,0))),((e,0),ll),((q,0),Ta busy asked kd at_ ty (cq (e,1))),((e,1),ll)]++h
def Gm:X := .rl 1 (.len 470) (.var 470 [.s]) false
def rgX:X:=zC 0 0 (.s (.cl 470 0 (.lit 0)) (.i (.var 1) .nil))
def ar3 (p q sc are arj:Nat) (r:bf):bf:=[(sc,.ptr (p,0) [] 0),(are,.ptr (q,0) [] 0),(arj,xi 400)]++r
def di:J:=[(.lt (.var 0) (.lit 1),false),(.lt (.lit 3) (.var 0),false),(.lt (.var 1) (.lit 1),false),(.lt (.lit 3) (.var 1),false),(.lt (.var 4) (.lit 0),false),(.lt (.lit 3) (.var 4),false),(.lt (.lit 250) (.len 2),false)]
def og:J:=di++[(.lt (.var 400) (.lit 0),false),(.lt (.len 2) (.var 400),false),(.lt (.var 401) (.lit 0),false),(.lt (.var 401) (.var 0),true),(.lt (.lit 2) (.var 401),false),(.lt (.var 404) (.lit 0),false),(.lt (.var 402) (.lit 0),false),(.lt (.lit 1099511627776) (.var 402),false),(.lt (.var 400) (.len 460),false),(.lt (.len 460) (.lit 1),false)]
def Gp:J:=[(.lt (.var 414) (.lit 1),false),(.lt (.lit 3) (.var 414),false),(.eq (.len 470) (.lit 1),true),(.lt (.lit 16) (.cm (.cl 470 0 (.lit 0))),false)]
def aq9 (p q e:Nat) (t:bf):XS:=⟨t,hp p q e false false .top .top .top .top .top .top [],e+1⟩
def Y9 (asked:Bool) (p q e:Nat) (t:bf):XS:=⟨t,hp p q e true asked Gm Gm rgX .top W1 .top [],e+1⟩
def i1:U := .op .add .i64 (.var 400) (.lit 1)
def hyR:BE×J:=(.and (.lt (.var 400) (.len 2)) (.and (.not (.lt (.lit 250) (.len 2))) (.and (.not (.lt (.var 400) (.lit 0))) (.not (.lt (.var 400) (.len 460))))),
 [(.lt i1 (.lit 0),false),(.lt (.len 2) i1,false),(.lt i1 (.len 460),false),(.lt i1 (mkAdd (.len 460) (.lit 1)),false),(.lt i1 (.lit 1),false),(.lt (.lit 300) (.len 460),false)])
def jR:List Nat:=[0,0,0,1,0,0,0,0,0,0,22,0,0,0,0,0,0,0,0,0]
end Go.Proofs.YtpdfmnhgocpkcaaGreat
namespace Go.Proofs.YtpdfmnhgocpkcaaGreat
open Go Go.Proofs.Aw Go.Proofs.Xw
set_option maxRecDepth 100000
def cA (k:Nat):U := .cl 2 k (.var 400)
def cM (k:Nat):U := .cl 2 (5+k) (.var 400)
def bV (k:Nat):BE := .cl 2 (5+k) (.var 400)
def ai (e:U) (n:Int):BE := .eq e (.lit n)
def bD (e:U) (n:Int):BE := .lt e (.lit n)
def iy (e:U) (n:Int):BE := .lt (.lit n) e
def B8:TE := .cl 194 0 (.cl 2 2 (.var 400))
def lV:TE := .cl 2 3 (.var 400)
def up (k:Nat):U := .op .add .i64 (.var k) (.lit 1)
def mS:AL:=(List.range 10).foldr (fun j r => .i (cM (14+j)) r) (.b (bV 24) (.i (cM 25) (.i (cM 26) .nil)))
def dw:AL:=(List.range 6).foldr (fun j r => .i (cM (27+j)) r) (.s (.cl 2 38 (.var 400)) (.s (.cl 2 39 (.var 400)) (.b (bV 35) ((List.range 11).foldr (fun j r => .i (cM (36+j)) r) .nil))))
def MZ:BE×J:=(.seq lV (.lit ⟨#[]⟩),[(iy (.cm lV) 32,false)])
def yg (a:AL) (g:Nat->U):BE×J:=(.eq (.uf 1 0 a) (.lit 1),[(bD (g 1) 1,false),(iy (g 1) 4,false),(bD (g 2) 0,false),(iy (g 2) 3,false)])
def nj (a:AL) (g:Nat->U) (n:Nat):BE×J:=(.and (.eq (.uf 1 0 a) (.lit 1)) (ai (g 1) n),(List.range n).flatMap fun k=>[(bD (g (2+2*k)) 0,false),(iy (g (2+2*k)) 3,false)])
def MY:BE×J:=(.and (.not (.eq (up 431) (.var 1))) (.and (.and (.lt (.var 431) (.var 1)) (.not (.lt (.var 431) (.lit 0)))) (.not (.lt (.lit 3) (.var 1)))),[(.lt (up 431) (.var 1),true),(.lt (.lit 2) (up 431),false),(.lt (mkAdd (.var 431) (.lit 1)) (.var 1),true),(.lt (.lit 2) (mkAdd (.var 431) (.lit 1)),false),(.lt (mkAdd (.var 431) (.lit 1)) (.lit 0),false)])
def MX:BE×J:=(.eq (up 431) (.var 1),[(.lt (up 431) (.var 1),false)])
def hyE:BE×J:=(.and (.lt (.var 400) (.len 2)) (.and (.not (.lt (.lit 250) (.len 2))) (.not (.lt (.var 400) (.lit 0)))),[(.lt i1 (.lit 0),false),(.lt (.len 2) i1,false),(.lt i1 (.lit 1),false)])
def F7:BE×J:=(.and (.lt (cA 4) (.var 0)) (.not (.lt (.lit 3) (.var 0))),[(.lt (.lit 2) (cA 4),false)])
def gM:Nat->U:=fun k=>cM (14+k)
def wM:List (BE×Bool)->DT->DT
 | [],d=>d
 | (c,true)::r,d => .br c (wM r d) .leaf
 | (c,false)::r,d => .br c .leaf (wM r d)
def O7:DT := .br (bD (.var 402) 1099511627776) .leaf .leaf
def CL:List (BE×Bool):=[(bD (cA 1002) 1,false),(iy (cA 1002) 1,false),(bD (.cm B8) 1,false),(iy (.cm B8) 16,false)]
def asa:DT := .br (bD (up 417) 24) (.br (bD (up 416) 2) .leaf .leaf) .leaf
def tB (fV:U) (n:Nat):U :=
 let h:AL := .i (.var 401) (.i (.var 4) .nil)
 let p:Nat->AL:=fun k => .i (.var 401) (.i fV (.i (gM (2+2*k)) .nil))
 .uf 8 0 (.i (.uf 5 0 h) (.i (.uf 5 1 h) ((List.range n).foldr (fun k r => .i (.uf 4 0 (p k)) (.i (.uf 4 1 (p k)) r)) .nil)))
def G5 (fV:U):Nat->DT
 | 1 => .leaf
 | 2 => .br (bD (tB fV 2) 1) .leaf .leaf
 | 3 => .br (bD (tB fV 3) 1) .leaf (.br (bD (tB fV 3) 2) .leaf .leaf)
 | _ => .br (bD (tB fV 4) 1) .leaf (.br (bD (tB fV 4) 2) .leaf (.br (bD (tB fV 4) 3) .leaf .leaf))
def mv (fV:U) (n:Nat):BE×J:=(.lit true,[(iy (tB fV n) (n-1:Int),false)])
def byN (n:U) (f:Nat->DT):DT := .br (bD n 2) (f 1) (.br (bD n 3) (f 2) (.br (bD n 4) (f 3) (f 4)))
def getD (fV:U) (x:Nat):DT:=byN (gM 1) fun n => .ir (1+n) (.ir (x+n) (.br (bV 24) (G5 fV n) (G5 fV n)) .leaf) .leaf
def zf:U := .uf 0 0 (.s (.cl 470 0 (.lit 0)) (.i (.var 1) .nil))
def Re (d:DT):DT := .br (.eq (.uf 2 0 dw) (.lit 1)) d .leaf
def aev:DT := .br (bD (.var 414) 3) (wM [(ai (cM 73) 0,true),(bV 47,true)] (Re (.br (bD (.var 414) 2) .leaf .leaf))) .leaf
def ahU (fV:U):DT := .br (.var 441) .leaf (wM [(ai (cM 1) 1,true),(.eq (cM 2) (.var 401),true),(.eq (cM 3) fV,true),(.eq (cM 4) (.uf 7 0 (gV 418)),true)] .leaf)
def Oz:DT := .ir 7 .leaf (.ir 6 .leaf .leaf)
def hyps:Hyp:=[MZ,yg mS gM,nj mS gM 1,nj mS gM 2,nj mS gM 3,nj mS gM 4,MY,MX,mv zf 1,mv zf 2,mv zf 3,mv zf 4,mv (.var 431) 1,mv (.var 431) 2,mv (.var 431) 3,mv (.var 431) 4,F7]
def Zb (asked:Bool) (p q e:Nat) (t:bf):XS:=⟨t,hp p q e true asked (.ro 1 [] false) (.ro 1 [] false) (xi 431) (xi 431) W1 .top [],e+1⟩
def aq8 (p q e:Nat) (t:bf):XS:=⟨t,[((p,0),Sz false false .top .top .top (.k (.slice none 0 0))),((q,0),Ta false false .top .top .top (.k (.slice none 0 0)))],e+1⟩
def G4:J:=[(.lt (.var 431) (.lit 0),false),(.lt (.var 431) (.var 1),true),(.lt (.lit 2) (.var 431),false),(.eq (.var 414) (.lit 5),true)]
def FI:J:=di++[(.lt (.var 400) (.lit 0),false),(.lt (.len 2) (.var 400),false),(.lt (.var 401) (.lit 0),false),(.lt (.var 401) (.var 0),true),(.lt (.lit 2) (.var 401),false),(.lt (.var 404) (.lit 0),false),(.lt (.var 402) (.lit 0),false),(.lt (.lit 1099511627776) (.var 402),false)]
def ad7 (p q e:Nat) (t:bf):List dq:=[⟨aq8 p q e t,FI,[]⟩,⟨aq9 p q e t,og,[]⟩,⟨Y9 false p q e t,og++Gp,[]⟩,⟨Y9 true p q e t,og++Gp,[]⟩,
 ⟨Zb false p q e t,og++G4,[]⟩,⟨Zb true p q e t,og++G4,[]⟩]
def PI:J:=[(bD (cA 1002) 0,false),(iy (cA 1002) 250,false)]
end Go.Proofs.YtpdfmnhgocpkcaaGreat
namespace Go.Proofs.YtpdfmnhgocpkcaaGreat
open Go Go.Proofs.Aw Go.Proofs.Xw
set_option maxRecDepth 100000
def gl:List Kd:=[.i .i64,.b,.i .i64,.i .i64,.i .i64,.i .i64,.i .i64,.i .i64,.s,.s,.b,.i .i64,.i .i64,.i .i64,.i .i64,.i .i64,.i .i64,.i .i64,.i .i64,.i .i64,.i .i64,.i .i64,.i .i64,.i .i64,.i .i64]
def aZ (m:Nm) (z:Nat) (n:U):X := .slv m z (.lit 0) n true
def ar4 (e a rd dT:Nat):av:=[((e,a),vi 405 9++vi dT 9++[xi 1,aZ (e,a+1) 1 (.len 470),aZ (e,a+2) 25 (.len 470),.slv (e,a+3) 1 (.var 440) (.var 443) true,xn rd,xn 0]),
 ((e,a+1),[.rows 1 (.len 470) (.var 470 [.s])]),((e,a+2),[.rows 25 (.len 470) (.var 472 gl)]),((e,a+3),[.rows 1 (.len 474) (.var 474 [.i .i64])])]
def ar2 (e a rd dT:Nat):av:=[((e,a),[xi 1,aZ (e,a+1) 1 (.len 470),aZ (e,a+2) 25 (.len 470),.slv (e,a+3) 1 (.var 440) (.var 443) true,xn rd]++vi dT 9++[xl false,xn 0]),
 ((e,a+1),[.rows 1 (.len 470) (.var 470 [.s])]),((e,a+2),[.rows 25 (.len 470) (.var 472 gl)]),((e,a+3),[.rows 1 (.len 474) (.var 474 [.i .i64])])]
def hv:U := .cl 474 0 (.var 440)
def uj:U := .cl 474 0 (mkAdd (.var 440) (.lit 1))
def wK:U := .uf 0 0 (.s (.cl 470 0 hv) (.i (.var 1) .nil))
def rtX:X := .sc (.i .i64 wK)
def Iq (rd dT:Nat) (asked:Bool) (p q e:Nat) (t:bf):XS:=⟨t,hp p q e true asked Gm Gm rtX .top (.ptr (e,2) [] 0) (.ptr (e,6) [] 0) (ar4 e 2 rd dT++ar2 e 6 rd dT),e+1⟩
def ui:J:=[(.eq (.var 414) (.lit 4),true),(.lt (.var 443) (.lit 1),false)]
def o6:J:=[(.lt (.len 470) (.lit 1),false),(.lt (.lit 6) (.len 470),false),(.lt (.len 474) (.op .cY .i64 (.var 440) (.var 443)),false),(.lt (.var 440) (.lit 0),false),(.lt (.lit 5) (.var 440),false),(.lt (.var 440) (.len 474),true),(.lt (.var 443) (.lit 1),false),(.lt (.lit 6) (.var 443),false)]
def kH (j:U):J:=[(.lt j (.lit 0),false),(.lt j (.len 470),true),(.lt (.lit 16) (.cm (.cl 470 0 j)),false)]
def pF:BE×J:=(.and (.not (.eq (.var 443) (.lit 1))) (.not (.lt (.var 443) (.lit 1))),[(.lt (.var 443) (.lit 2),false)])
def bc:Hyp:=hyps++[mv wK 1,mv wK 2,mv wK 3,mv wK 4,pF]
def eo (e:U):Sc := .i .i64 e
def mV (ag:Bool):List Sc:=[eo (.lit 0),.b (bV 47)]++(if ag=true then(List.range 6).map (fun k=>eo (cM (27+k)))++[.s (.cl 2 38 (.var 400)),.s (.cl 2 39 (.var 400)),.b (bV 35)]++(List.range 11).map (fun k=>eo (cM (36+k)))
 else List.replicate 6 (eo (.lit 0))++[.s (.lit ⟨#[]⟩),.s (.lit ⟨#[]⟩),.b (.lit false)]++List.replicate 11 (eo (.lit 0)))++[eo (cM 70),eo (cM 71),eo (cM 72)]
def cc (ag:Bool):RL := .eN hv (mV ag) (.var 472 gl)
def fy:List Kd:=[.s,.b]++List.replicate 6 (.i .i64)++[.s,.s,.b]++List.replicate 11 (.i .i64)
def C_:X := .rl 22 (.len 470) (.var 630 fy) false
def Gr:X := .rl 1 (.len 470) (.var 470 [.s]) false
def QA:X := .rl 1 (.op .fT .i64 (.var 443) (.lit 1)) (.drop (.op .cY .i64 (.var 440) (.lit 1)) (.var 474 [.i .i64])) false
def LW (ag:Bool) (rd dT:Nat):av:=[((0,0),vi 405 9++vi dT 9++[xi 1,aZ (0,1) 1 (.len 470),aZ (0,2) 25 (.len 470),.slv (0,3) 1 (.op .cY .i64 (.var 440) (.lit 1)) (.op .fT .i64 (.var 443) (.lit 1)) true,xn rd,xn 0]),
 ((0,1),[.rows 1 (.len 470) (.var 470 [.s])]),((0,2),[.rows 25 (.len 470) (cc ag)]),((0,3),[.rows 1 (.len 474) (.var 474 [.i .i64])])]
def Uo (ag:Bool) (rd dT:Nat):av:=[((0,0),[xi 1,aZ (0,1) 1 (.len 470),aZ (0,2) 25 (.len 470),.slv (0,3) 1 (.op .cY .i64 (.var 440) (.lit 1)) (.op .fT .i64 (.var 443) (.lit 1)) true,xn rd]++vi dT 9++[xl true,xn 0]),
 ((0,1),[.rows 1 (.len 470) (.var 470 [.s])]),((0,2),[.rows 25 (.len 470) (cc ag)]),((0,3),[.rows 1 (.len 474) (.var 474 [.i .i64])])]
def sP (ag:Bool):List GK:=[⟨122,[.ptr (0,0) [] 0],LW ag 2 500,C_,lz (LW ag 2 500)⟩,⟨116,[.ptr (0,0) [] 0],Uo ag 2 500,C_,lz (Uo ag 2 500)⟩]
def d4 (t k a o:List X):aN:=[((0,0),some t),((0,1),some k),((0,2),some a),((0,3),some o)]
def fD (again:Bool):X:=if again=true then .slv (1,0) 1 (.lit 0) (.len 610) true else .slv (0,3) 1 (.op .cY .i64 (.var 440) (.lit 1)) (.op .fT .i64 (.var 443) (.lit 1)) true
def n6 (again:Bool):aN:=if again=true then [((1,0),some [.rows 1 (.len 610) (.var 610 [.i .i64])])]else []
def kR:List X:=[.rows 1 (.len 470) (.var 470 [.s])]
def oR:List X:=[.rows 1 (.len 474) (.var 474 [.i .i64])]
def iX (ag again:Bool):GK:=⟨120,[.ptr (0,0) [] 0],LW ag 1 405,.tup [],
 [((0,0),some (vi 405 9++vi 600 9++[xi 1,aZ (0,1) 1 (.len 470),aZ (0,2) 25 (.len 470),fD again,xn (if again=true then 2 else 1),xn 0])),((0,1),some kR),((0,2),some [.rows 25 (.len 470) (cc ag)]),((0,3),if again=true then none else some oR)]++n6 again⟩
def vc:av:=[((0,0),[xi 1,aZ (0,1) 1 (.len 470),aZ (0,2) 25 (.len 470),.slv (0,3) 1 (.var 440) (.var 443) true,xn 1]++vi 405 9++[xl false,xn 0]),
 ((0,1),kR),((0,2),[.rows 25 (.len 470) (.var 472 gl)]),((0,3),oR)]
def ix (ag again:Bool):GK:=⟨115,[.ptr (0,0) [] 0,.agg ((mV ag).map .sc)],vc,xn 0,
 d4 ([xi 1,aZ (0,1) 1 (.len 470),aZ (0,2) 25 (.len 470),(if again=true then fD true else .k (.slice none 0 0)),xn (if again=true then 2 else 1)]++vi 600 9++[xl (!again),xn 0]) kR [.rows 25 (.len 470) (cc ag)] oR++n6 again⟩
def Us (ag:Bool):av:=[((0,0),vi 405 9++vi 600 9++[xi 1,aZ (0,1) 1 (.len 470),aZ (0,2) 25 (.len 470),fD false,xn 1,xn 0]),((0,1),kR),((0,2),[.rows 25 (.len 470) (cc ag)]),((0,3),oR)]
def Uq (ag:Bool):av:=[((0,0),[xi 1,aZ (0,1) 1 (.len 470),aZ (0,2) 25 (.len 470),.k (.slice none 0 0),xn 1]++vi 600 9++[xl true,xn 0]),((0,1),kR),((0,2),[.rows 25 (.len 470) (cc ag)])]
def sO (ag:Bool):List GK:=[⟨122,[.ptr (0,0) [] 0],Us ag,C_,lz (Us ag)⟩,⟨116,[.ptr (0,0) [] 0],Uq ag,C_,lz (Uq ag)⟩]
def bm:U := .cl 2 1002 (.var 400)
def oy:RL := .drop (.cl 2 2 (.var 400)) (.var 194 [.s])
def z5:RL := .one ([eo (.lit 0),.b (.lit false)]++List.replicate 6 (eo (.lit 0))++[.s (.lit ⟨#[]⟩),.s (.lit ⟨#[]⟩),.b (.lit false)]++List.replicate 14 (eo (.lit 0)))
def zw:RL := .eN (.lit 0) [eo (.lit 0)] (.var 620 [.i .i64])
def Hi:aN:=[((1,1),some [.rows 1 bm oy]),((1,2),some [.rows 25 bm z5]),((1,3),some [.rows 1 bm zw])]
def dy (w:Bool):List GK:=[⟨51,[.agg (vi 405 9),xi 1,.rl 1 bm oy w],[],.tup [.ptr (1,0) [] 0,xn 0],((1,0),some (vi 405 9++vi 405 9++[xi 1,aZ (1,1) 1 bm,aZ (1,2) 25 bm,aZ (1,3) 1 bm,xn 1,xn 0]))::Hi⟩,
 ⟨74,[.agg (vi 405 9),xi 1,.rl 1 bm oy w],[],.tup [.ptr (1,0) [] 0,xn 0],((1,0),some ([xi 1,aZ (1,1) 1 bm,aZ (1,2) 25 bm,aZ (1,3) 1 bm,xn 1]++vi 405 9++[xl false,xn 0]))::Hi⟩]
def cW (w:Bool):List GK:=[⟨51,[.agg (vi 405 9),xi 1,.rl 1 bm oy w],[],.tup [.top,xn 1],[]⟩,⟨74,[.agg (vi 405 9),xi 1,.rl 1 bm oy w],[],.tup [.k (.pointer none),xn 1],[]⟩]
def jM:List Nat:=[405,406,407,408,409,410,411,412,413]
def my:List Nat:=jM++[500,501,502,503,504,505,506,507,508]
def qU (ag:Bool):J:=if ag=true then [(.eq (.uf 2 0 dw) (.lit 1),true)]else [(bV 47,false)]
def xa (fr:Nat):Alt:=⟨fr,jM,[],[(440,.lit 0),(443,.len 621)],[(470,.len 621,oy),(472,.len 621,z5),(474,.len 621,zw)],[(.lt (.len 621) (.lit 1),false)]⟩
def iP (fr:Nat) (ki:List Nat):Alt:=⟨fr,440::443::ki,[470,474],[],[(472,.len 470,.var 472 gl)],[]⟩
def qw (fr:Nat) (ki:List Nat) (ag:Bool):Alt:=⟨fr,ki,[470,474],[(440,.op .cY .i64 (.var 440) (.lit 1)),(443,.op .fT .i64 (.var 443) (.lit 1))],[(472,.len 470,cc ag)],(.lt (.var 443) (.lit 2),false)::qU ag⟩
def xc (ag:Bool):Alt:=⟨7,jM,[470],(440,.lit 0)::(443,.len 610)::(List.range 9).map (fun k=>(500+k,.var (600+k))),[(474,.len 610,.var 610 [.i .i64]),(472,.len 470,cc ag)],(.lt (.len 610) (.lit 1),false)::qU ag⟩
def ad6 (p q e:Nat) (t:bf):List dq:=[⟨Iq 1 405 false p q e t,og++ui,[xa 0,xa 1,iP 6 jM,iP 7 jM,qw 7 jM false,qw 7 jM true]⟩,⟨Iq 1 405 true p q e t,og++ui,[iP 6 jM,iP 7 jM]⟩,
 ⟨Iq 2 500 false p q e t,og++ui,[iP 8 my,iP 9 my,qw 9 my false,qw 9 my true,xc false,xc true]⟩,⟨Iq 2 500 true p q e t,og++ui,[iP 8 my,iP 9 my]⟩]
def iE:List Tk:=[.f (.i .i64),.f (.i .i64),.f (.i .i64),.r 1 [.s],.f .s,.f (.i .i64),.f (.i .i64),.f .b,.f .b,.f (.i .i64),.r 22 fy]++List.replicate 9 (.f (.i .i64))
def lI:DT->Bool
 | .leaf=>true
 | .hole _=>false
 | .br _ a b=>lI a&&lI b
 | .ir _ a b=>lI a&&lI b
theorem rE {aR:Hyp}:∀(d:DT) (B:J),lI d=true->d.lx aR B=[]
 | .leaf,_,_=>rfl
 | .hole _,_,h=>by cases h
 | .br c a b,B,h=>by
  simp only[lI,Bool.and_eq_true]at h
  simp only[DT.lx]
  split
  ·exact rE a _ h.1
  ·exact rE b _ h.2
  ·rw[rE a _ h.1,rE b _ h.2];rfl
 | .ir k a b,B,h=>by
  simp only[lI,Bool.and_eq_true]at h
  simp only[DT.lx]
  split
  ·split
   ·exact rE a _ h.1
   ·exact rE b _ h.2
   ·rw[rE a _ h.1,rE b _ h.2];rfl
  ·rfl
theorem OY {aR:Hyp} (hH:sq aR) {ke:J->Bool} {ρ:aa} {d:DT} {B:J} (hn:lI d=true) (h:d.ok aR ke B=true) (u:J.ok ρ B):∃aQ,J.ok ρ aQ/\ke aQ=true:=by
 rcases DT.rN hH d B h u with g | ⟨p,hp,_⟩
 ·exact g
 ·rw[rE d B hn]at hp;cases hp
theorem k_ (c:BE) (ρ:aa):c.I ρ=true\/c.I ρ=false:=by cases c.I ρ<;>simp
end Go.Proofs.YtpdfmnhgocpkcaaGreat
namespace Go.Proofs.YtpdfmnhgocpkcaaGreat
open Go Go.Proofs.Aw Go.Proofs.Xw
set_option maxRecDepth 100000
inductive PT where
 | lf (d:DT)
 | br (c:BE) (a b:PT)
 | ho
 | hy (k:Nat) (a:PT)
 | eE (b6:J) (a:PT)
def vB (aR:Hyp) (k:Nat):BE×J:=(aR[k]?).getD (.lit false,[])
def PT.parts (aR:Hyp):PT->J->List (DT×J)
 | .lf d,B=>[(d,B)]
 | .br c a b,B=>a.parts aR ((c,true)::B)++b.parts aR ((c,false)::B)
 | .ho,_=>[]
 | .hy k a,B=>a.parts aR ((vB aR k).2++B)
 | .eE b6 a,B=>a.parts aR (b6++B)
def PT.ra (aR:Hyp):PT->J->List J
 | .lf _,_=>[]
 | .br c a b,B=>a.ra aR ((c,true)::B)++b.ra aR ((c,false)::B)
 | .ho,B=>[B]
 | .hy k a,B=>a.ra aR ((vB aR k).2++B)
 | .eE b6 a,B=>a.ra aR (b6++B)
def p3:BE := .eq (.var 443) (.lit 1)
def PT.wf (aR:Hyp):PT->J->Bool
 | .lf _,_=>true
 | .br c a b,B=>a.wf aR ((c,true)::B)&&b.wf aR ((c,false)::B)
 | .ho,_=>true
 | .hy k a,B=>nD B ((vB aR k).1,true)&&a.wf aR ((vB aR k).2++B)
 | .eE b6 a,B=>nD B (p3,false)&&a.wf aR (b6++B)
def PT.pe:PT->List J
 | .lf _ | .ho=>[]
 | .br _ a b=>a.pe++b.pe
 | .hy _ a=>a.pe
 | .eE b6 a=>b6::a.pe
theorem agK {aR:Hyp} (hH:sq aR) {k:Nat} {ρ:aa} (h:(vB aR k).1.I ρ=true):J.ok ρ (vB aR k).2:=by
 unfold vB at h ⊢
 cases F:aR[k]? with
 | none=>exact J.bq ρ
 | some p =>
  rw[F]at h
  exact hH p (List.mem_of_getElem? F) ρ h
theorem PT.aq {aR:Hyp} (hH:sq aR) {ρ:aa}:∀(t:PT) (B:J),(∀b6∈t.pe,p3.I ρ=false->J.ok ρ b6)->t.wf aR B=true->J.ok ρ B->(∃p∈t.parts aR B,J.ok ρ p.2)\/∃q∈t.ra aR B,J.ok ρ q
 | .lf d,B,_,_,u => .inl ⟨_,List.mem_cons_self,u⟩
 | .ho,B,_,_,u => .inr ⟨_,List.mem_cons_self,u⟩
 | .br c a b,B,hA,hw,u=>by
  simp only[PT.wf,Bool.and_eq_true]at hw
  simp only[PT.pe,List.mem_append]at hA
  rcases k_ c ρ with h | h
  ·rcases PT.aq hH a _ (fun b6 hp=>hA b6 (.inl hp)) hw.1 (J.aw h u)with⟨p,A,E⟩ | ⟨q,A,E⟩
   ·exact .inl ⟨p,List.mem_append_left _ A,E⟩
   ·exact .inr ⟨q,List.mem_append_left _ A,E⟩
  ·rcases PT.aq hH b _ (fun b6 hp=>hA b6 (.inr hp)) hw.2 (J.aw h u)with⟨p,A,E⟩ | ⟨q,A,E⟩
   ·exact .inl ⟨p,List.mem_append_right _ A,E⟩
   ·exact .inr ⟨q,List.mem_append_right _ A,E⟩
 | .hy k a,B,hA,hw,u=>by
  simp only[PT.wf,Bool.and_eq_true]at hw
  exact PT.aq hH a _ hA hw.2 (dZ (agK hH (rZ u hw.1)) u)
 | .eE b6 a,B,hA,hw,u=>by
  simp only[PT.wf,Bool.and_eq_true]at hw
  exact PT.aq hH a _ (fun avU hp=>hA avU (List.mem_cons_of_mem _ hp)) hw.2 (dZ (hA b6 List.mem_cons_self (rZ u hw.1)) u)
def pL:PT := .lf .leaf
def V2 (ask han afX tick:PT):PT := .br (ai (cA 0) 1) ask (.br (ai (cA 0) 2) han (.br (ai (cA 0) 3) tick (.br (ai (cA 0) 4) pL (.br (ai (cA 0) 5) afX pL))))
def ais (d:PT):PT := .br (.eq (cM 12) (.var 402)) (.br (.eq (cM 13) (.var 403)) d pL) pL
def HQ:DT := .br (bD (.var 414) 2) .leaf .leaf
def afq (sp:Bool) (x:Nat) (puts:Bool) (goal:U):PT :=
 let g:=fun n =>
  let f:=fun d=>PT.lf (.ir (1+n) (.ir (x+n) d .leaf) .leaf)
  if sp=true then PT.br (bV 24) (f (G5 goal n)) (f (G5 goal n))else f (.br (bV 24) .leaf .leaf)
 let gt:=PT.br (bD (gM 1) 2) (g 1) (.br (bD (gM 1) 3) (g 2) (.br (bD (gM 1) 4) (g 3) (g 4)))
 .br (.eq (.uf 1 0 mS) (.lit 1)) (.hy 1 (if puts=true then .br (bD (.var 414) 3) (.lf HQ) gt else gt)) pL
def L1 (sp:Bool) (x:Nat) (puts:Bool) (goal:U):PT := .br (ai (cM 0) 2) (.br (.eq (cM 10) goal) (afq sp x puts goal) pL) pL
def yO:DT := .br (bD (cA 1002) 1) .leaf .leaf
def adi:PT :=
 let one:=PT.lf (wM CL (.ir 0 O7 .leaf))
 .br (ai (cA 1) 4) .ho (.br (ai (cA 1) 1) (.lf (wM (CL++[(iy (.cm lV) 32,false)]) O7)) (.br (ai (cA 1) 2) one (.br (ai (cA 1) 3) one (.br (ai (cA 1) 5) (.lf (.br (bD (cA 1002) 1) (.ir 0 (wM [(bD (cA 4) 0,false),(.lt (cA 4) (.var 0),true)] (.ir 16 O7 .leaf)) .leaf) .leaf)) (.lf yO)))))
def adg:PT := .br (ai (cA 1) 4) .ho (.lf yO)
def QN (aqk:U) (ok:PT):PT := .br (ai (cM 73) 92) (.lf (ahU aqk)) (.br (ai (cM 73) 60) pL (.br (ai (cM 73) 0) ok pL))
def wrP:PT := .lf (.br (bV 47) (Re .leaf) .leaf)
def b1P:PT := .br (ai (cM 0) 4) (.lf aev) (.br (ai (cM 0) 6) (.br (bD (.var 414) 3) (.lf HQ) (QN zf wrP)) pL)
def m1P:PT := .br (ai (cM 0) 4) pL (.br (ai (cM 0) 6) (QN (.var 431) (.lf (.br (bV 47) (Re Oz) Oz))) pL)
def ZJ:PT := .br (ai (cM 0) 4) pL (.br (ai (cM 0) 6) (QN wK (.br p3 .ho (.eE pF.2 (.eE (kH uj) wrP)))) pL)
def VE:PT:=V2 adi pL pL pL
def uN (h:PT):PT:=V2 adg (ais h) h (.lf asa)
def dY (sp:Bool):Nat->PT
 | 0=>VE
 | 1=>VE
 | 2=>uN (L1 sp 7 true zf)
 | 3=>uN b1P
 | 4=>uN (L1 sp 11 false (.var 431))
 | 5=>uN m1P
 | 7=>uN ZJ
 | 9=>uN ZJ
 | _=>uN (L1 sp 16 false wK)
end Go.Proofs.YtpdfmnhgocpkcaaGreat
namespace Go.Proofs.Xw
open Go Go.Proofs.Aw
theorem jZ {P:Program} {ρ:aa} {N:Nat} {body:Code} {ti:Nat->Option TI} {call:bI} {ms:List Nat} {bP:List bo} {fuel k0 n aC:Nat} {nz:List Nat} {kt:Nat×List Tk} {i:Nat} {cs:List dq} {S So:XS} {B:J} (hm:P.follows .mixedOrders=true) (bb:eO.ok P ti)
  (aO:dk P ρ call) (lw:a5 P ρ N bP body) (d8:dp N body=true) (u:J.ok ρ B) {ks:List Nat}
  (bJ:dX k0 n aC nz kt i cs So .normal B ((cz ti call ms k0 bP fuel body B S).map (eu ks))=true) :
  ∃(j:Nat) (C:dq) (G:aa),cs[j]? = some C/\ei P N body k0 S C.S ρ G/\J.ok G C.b6/\G.i aC=IntKind.i64.wrap (ρ.i aC+1)/\aA n ρ G/\(eP kt.1 kt.2 ρ->eP kt.1 kt.2 G)/\(C.dm=[]\/∃a∈C.dm,a.fr=i/\gR a ρ G):=by
 obtain⟨e,s,aQ,A,E,h3⟩:=wo _ _ bJ u
 obtain⟨p,hq,F⟩:=T.jk _ A
 have q1:e=p.1:=congrArg Prod.fst F
 have q2:s=(eu ks p).2:=congrArg Prod.snd F
 rcases h3 with⟨hn,hf⟩ | ⟨hx,hn,hf⟩
 ·obtain⟨j,C,g1,g2⟩:=LJ hf
  simp only[Fm,Bool.and_eq_true]at g2
  obtain⟨g2,gt,g3,g4,g5⟩:=g2
  generalize F0:OG C.S (s.gK aQ nz)=nm at g2 gt g3 g4 g5
  generalize kD:(s.gK aQ nz).zK nm C.S.h=s1 at g2 gt g3 g4 g5
  generalize agP:ql nm s1.h C.S.h=D7 at g2 gt g3 g4 g5
  generalize agM:J9 n nm D7 C.S s1=β at g2 gt g3 g4 g5
  have Z:=g2
  simp only[rL,Bool.and_eq_true]at Z
  refine⟨j,C,β.cI D7 ρ,g1,fun ac hE bM => ?_,Zp E g3,?_,Bind.uI Z.2.1 Z.1 ρ,fun ht => ?_,?_⟩
  ·have g:=kf (ac:=ac) hm bb aO bM body B _ p.1 p.2 u (by rw[hE];exact d8) (by rw[hE];exact lw) hq
   refine dB (fun e' s' W=>⟨?_,?_⟩) g
   ·rw[W.1,<-q1,hn]
   ·have i:=fx W.2 (zt ks ρ p)
    rw[<-q2]at i
    have l:=(XS.Rc ρ nm C.S.h (s.gK aQ nz)).trans (XS.Xe E nz s)
    rw[kD]at l
    exact vH (fx i l) (CK bM g2 ρ)
  ·unfold Ng at g4
   split at g4
   ·rename_i e' hI
    have:=U.beq_eq _ _ g4
    subst this
    show(match bh aC β.i with | some e=>e.I ρ | none=>ρ.i aC)=_
    rw[hI]
    simp only[U.I,a_.I]
   ·cases g4
  ·rw[Bool.or_eq_true]at gt
   rcases gt with gt | gt
   ·have:=List.isEmpty_iff.1 gt
    intro j k t _ aJ
    rw[this]at aJ
    simp at aJ
   ·exact aab E gt ht
  ·rw[Bool.or_eq_true]at g5
   rcases g5 with g5 | g5
   ·left;exact List.isEmpty_iff.1 g5
   ·right
    obtain⟨a,ha,g6⟩:=List.any_eq_true.1 g5
    simp only[Bool.and_eq_true]at g6
    exact⟨a,ha,Nat.eq_of_beq_eq_true g6.1,Alt.Ua E g6.2.1 g6.2.2⟩
 ·exact absurd hx hn
theorem Wj {P:Program} {N:Nat} {body:Code} {k0 n:Nat} {S0:XS} (hS:S0.au n=true) (Ss:Nat->XS) (L:Nat->bo) (hL:∀i,(L i).k0=k0/\(L i).S=S0/\(L i).init=gJ) (ao Q:Nat->aa->Prop) (dr:aa->Nat)
  (hR:∀i ρ,ao i ρ->(Q i ρ/\js P N body k0 (Ss i) (L i).out ρ)\/∃i' G,ei P N body k0 (Ss i) (Ss i') ρ G/\ao i' G/\dr G<dr ρ/\aA n ρ G)
  {ρ:aa} (h0:∃i al,aA n ρ al/\ao i al/\∀ac:Aw.Env,ac.N=N->(∀m,ac.c0.kn m->m.1<k0)->dL ac (S0.I ρ) ((Ss i).I al)):∃i ar,aA n ρ ar/\ao i ar/\Q i ar/\b8 P ar N body (L i):=by
 have key:∀(k:Nat) (i:Nat) (ρ:aa),dr ρ<=k->ao i ρ->∃i' ar,aA n ρ ar/\ao i' ar/\Q i' ar/\∀ac:Aw.Env,ac.N=N->(∀m,ac.c0.kn m->m.1<k0)->∃m,j3 P ac body (fun e V=>∃e' s,(L i').out.aq ar=some (e',s)/\e=e'.to/\dL ac V (s.I ar)) m ((Ss i).I ρ):=by
  have fin:∀i ρ,js P N body k0 (Ss i) (L i).out ρ->∀ac:Aw.Env,ac.N=N->(∀m,ac.c0.kn m->m.1<k0)->∃m,j3 P ac body (fun e V=>∃e' s,(L i).out.aq ρ=some (e',s)/\e=e'.to/\dL ac V (s.I ρ)) m ((Ss i).I ρ):=fun i ρ h ac hE hb=>by
   refine⟨1,dB (fun e V hq => ?_) (h ac hE hb)⟩
   obtain⟨e',s,A,E,rfl,h4⟩:=hq
   cases e' with
   | normal=>exact absurd rfl A
   | exit j=>exact⟨_,s,E,rfl,h4⟩
   | ret=>exact⟨_,s,E,rfl,h4⟩
  intro k
  induction k with
  | zero =>
   intro i ρ u hr
   rcases hR i ρ hr with⟨hq,h⟩ | ⟨i',G,_,_,h,_⟩
   ·exact⟨i,ρ,aA.refl _ _,hr,hq,fin i ρ h⟩
   ·omega
  | succ k ih =>
   intro i ρ u hr
   rcases hR i ρ hr with⟨hq,h⟩ | ⟨i',G,A,E,h3,h5⟩
   ·exact⟨i,ρ,aA.refl _ _,hr,hq,fin i ρ h⟩
   ·obtain⟨j,ar,g2,Bk,g3,g4⟩:=ih i' G (by omega) E
    refine⟨j,ar,h5.trans g2,Bk,g3,fun ac hE hb => ?_⟩
    obtain⟨m,g5⟩:=g4 ac hE hb
    refine⟨m+1,dB (fun e V hq => ?_) (A ac hE hb)⟩
    obtain⟨rfl,hi⟩:=hq
    cases m with
    | zero=>exact g5.elim
    | succ m=>exact qs hi g5
 obtain⟨i,al,mQ,hr,himp⟩:=h0
 obtain⟨j,ar,g2,Bk,g3,g4⟩:=key (dr al) i al (Nat.le_refl _) hr
 refine⟨j,ar,mQ.trans g2,Bk,g3,fun ac hE hb => ?_⟩
 obtain⟨e1,e2,e3⟩:=hL j
 rw[e2,e3,W8,<-XS.aP (mQ.trans g2) S0 hS]
 rw[e1]at hb
 obtain⟨m,g5⟩:=g4 ac hE hb
 exact qs (himp ac hE hb) (D_ m g5)
theorem rz {P:Program} {N:Nat} {body:Code} {k0 n:Nat} {S0:XS} (hS:S0.au n=true) (Ss:Nat->XS) (L:bo) (hL:L.k0=k0/\L.S=S0/\L.init=gJ) (ao:Nat->aa->Prop) (Q:aa->Prop) (dr:aa->Nat)
  (hR:∀i ρ,ao i ρ->(Q ρ/\js P N body k0 (Ss i) L.out ρ)\/∃i' G,ei P N body k0 (Ss i) (Ss i') ρ G/\ao i' G/\dr G<dr ρ/\aA n ρ G)
  {ρ:aa} (h0:∃i al,aA n ρ al/\ao i al/\∀ac:Aw.Env,ac.N=N->(∀m,ac.c0.kn m->m.1<k0)->dL ac (S0.I ρ) ((Ss i).I al)):∃ar,aA n ρ ar/\Q ar/\b8 P ar N body L:=by
 obtain⟨_,ar,A,_,E,h3⟩:=Wj hS Ss (fun _=>L) (fun _=>hL) ao (fun _=>Q) dr hR h0
 exact⟨ar,A,E,h3⟩
end Go.Proofs.Xw
namespace Go.Proofs.YtpdfmnhgocpkcaaGreat
open Go Go.Proofs.Aw Go.Proofs.Xw
set_option maxRecDepth 100000
def FO:List Nat:=[48,124,30050,30052,30061,30122,30116,20051,20074,12,13,18,47,98,130,16,17,40,26,43,21,44,95,115,88,76,10073,10089,10090,10057,10019,10032,10020,10022,10025,10106,10080,10119,10118,10121,10103]
def pn:X := .sc (.s (.lit ⟨#[]⟩))
def SH (k b:Nat):List X:=vi k 10++[xb b]++vi (k+10) 2
def mK:List X:=iu 2 (.len 2) 0 hc
def Sg:X := .agg ((mK.drop 1).take 4)
def Ju:List X:=List.replicate 24 (xn 0)++[xl false]++List.replicate 8 (xn 0)++[pn,pn,xl false]++List.replicate 11 (xn 0)++[xl false,pn,pn,xl false,xl false]++List.replicate 22 (xn 0)
def uG:X := .ro 79 [xn 0::((mK.drop 1).take 4++Ju)] true
def V7:J:=[]++di++[(.lt (.var 2) (.lit 1),false),(.lt (.lit 4) (.var 2),false),(.lt (.var 3) (.lit 1),false),(.lt (.lit 4) (.var 3),false),(.lt (.var 4) (.var 3),true)]
noncomputable def kb:Code:=(ef (Tryz.f9.body.getD .skip))[0]?.getD .skip
def rq:Nat:=33
def ZR:bf:=ar3 16 24 11 13 15 [(47,.top),(46,.top),(14,.top),(45,.top),(44,.top),(40,.top),(43,.top),(42,.top),(41,.top),(12,.top),(39,.top),(38,.top),(34,.top),(37,.top),(36,.top),(35,.top),(33,.top),(32,.top),(31,.top),(30,.top),(29,.top),(28,.top),(27,.top),(26,.top),(25,.top),(24,.top),(10,.top),(9,(.ptr (2,0) [] 0)),(8,(.ptr (1,0) [] 0)),(5,(.ptr (0,0) [] 0)),(0,(.agg [xi 0,xi 1,xi 2,xi 3])),(1,xi 4),(2,fX),(3,(.agg [(.sc (.i .i64 (.cl 2 1 (.len 2)))),(.rl 1 (.cl 2 1002 (.len 2)) (.drop (.cl 2 2 (.len 2)) (.var 194 [.s])) false),(.sc (.s (.cl 2 3 (.len 2)))),(.sc (.i .i64 (.cl 2 4 (.len 2))))])),(4,(.agg [xi 5,xi 6,xi 7,xi 8,xi 9,xi 10,xi 11,xi 12,xi 13,xi 14,xb 0,xi 15,xi 16]))]
def hL:av:=[((0,0),[xi 0,xi 1,xi 2,xi 3]),((1,0),[(.sc (.i .i64 (.cl 2 1 (.len 2)))),(.rl 1 (.cl 2 1002 (.len 2)) (.drop (.cl 2 2 (.len 2)) (.var 194 [.s])) false),(.sc (.s (.cl 2 3 (.len 2)))),(.sc (.i .i64 (.cl 2 4 (.len 2))))]),((2,0),[xi 5,xi 6,xi 7,xi 8,xi 9,xi 10,xi 11,xi 12,xi 13,xi 14,xb 0,xi 15,xi 16])]
def adH (C:dq):dq:=⟨⟨C.S.t,C.S.h++hL,C.S.nx⟩,C.b6,C.dm⟩
def hU:List dq:=(ad7 16 24 33 ZR++ad6 16 24 33 ZR).map adH
noncomputable def Au (kh:List GK):jr:=uP [] NV kh cls [41]
noncomputable def rnL (kh:List GK) (B:J) (S:XS):T (XE×XS):=(cz (Au kh).ti (eT ⟨Au kh,hj,FO⟩ 12) [] rq [] 1000 kb B S).map (eu (S.t.map (·.1)))
def AK:BE×Bool:=(.lt (.var 400) (.len 2),false)
def oO (S:XS):XS:=⟨S.t,S.h,90⟩
noncomputable def bW (kh:List GK) (i:Nat) (B:J):Bool:=match hU[i]? with
 | some C=>dX rq 400 400 jR (460,iE) i hU (oO C.S) (if nD B AK=true then .exit 0 else .normal) B (rnL kh B C.S)
 | none=>false
def FJ (i:Nat):J:=(match hU[i]? with | some C=>C.b6 | none=>[])++(PI++(if Nat.ble 6 i=true then o6++kH hv else []))
def a8 (i:Nat):J:=(.lt (.var 400) (.len 2),true)::((if Nat.beq i 0=true then hyE.2 else hyR.2)++FJ i)
def gh (i:Nat):J:=(.lt (.var 400) (.len 2),false)::FJ i
def cV (ρ:aa) (i:Nat):Prop:=∃C,hU[i]? = some C/\((AK.1.I ρ=false/\js Tryz.prog Tryz.f9.ntmps kb rq C.S (.ret (.exit 0,oO C.S)) ρ)\/∃(j:Nat) (bO:dq) (G:aa),hU[j]? = some bO/\ei Tryz.prog Tryz.f9.ntmps kb rq C.S bO.S ρ G/\J.ok G bO.b6/\G.i 400=IntKind.i64.wrap (ρ.i 400+1)/\aA 400 ρ G/\(eP 460 iE ρ->eP 460 iE G)/\(bO.dm=[]\/∃a∈bO.dm,a.fr=i/\gR a ρ G))
def Ss (i:Nat):XS:=match hU[i]? with
 | some C=>C.S
 | none=>⟨[],[],0⟩
theorem RX {i:Nat} {C:dq} (h:hU[i]? = some C):Ss i=C.S:=by unfold Ss;rw[h]
structure ea:Prop where
 hyp:sq bc
 sm:∀s∈hj,c9 Tryz.prog s
 ln:pa Tryz.prog 41
theorem aif (ρ:aa) (f:Nat) (N:Nat) (c:Code):a5 Tryz.prog ρ N (NV f) c:=fun dD _ L h=>by
 unfold NV at h
 split at h
 ·unfold jO at h
  split at h
  ·simp[BU,bo.R,jO]at h
  ·cases h
 ·simp[jO]at h
theorem adY (ad:ea) {ρ:aa} {kh:List GK} (hG:∀k∈kh,cy Tryz.prog ρ k):cf Tryz.prog ρ (Au kh):=uQ (List.forall_mem_nil _) (fun f _ _=>aif ρ f _ _) hG Ks (List.forall_mem_cons.2 ⟨ad.ln,List.forall_mem_nil _⟩)
theorem part (ad:ea) {ρ:aa} {i:Nat} (kh:List GK) (hG:∀k∈kh,cy Tryz.prog ρ k) {d:DT} {B:J} (hn:lI d=true) (h:d.ok bc (bW kh i) B=true) (u:J.ok ρ B):cV ρ i:=by
 obtain⟨aQ,A,E⟩:=OY ad.hyp hn h u
 unfold bW at E
 split at E
 ·rename_i C hC
  have H:=adY ad hG
  split at E
  ·rename_i F
   exact⟨C,hC,(ij H.mixed H.ti (ft (c:=⟨Au kh,hj,FO⟩) H ad.sm 12) (a5.nil _ _ _ _) (by kernel_rfl) A E).imp_left fun h=>⟨rZ A F,h⟩⟩
  ·exact⟨C,hC,.inr (jZ H.mixed H.ti (ft (c:=⟨Au kh,hj,FO⟩) H ad.sm 12) (a5.nil _ _ _ _) (by kernel_rfl) A E)⟩
 ·cases E
noncomputable def az (i k:Nat):Bool:=match((dY false i).parts bc (a8 i))[k]? with
 | some p=>lI p.1&&p.1.ok bc (bW [] i) p.2
 | none=>true
def kT (i:Nat):Nat->Prop
 | 0=>True
 | n+1=>kT i n/\az i n=true
theorem XF {i k:Nat}:∀{n:Nat},kT i n->k<n->az i k=true
 | 0,_,h=>by omega
 | n+1,h,u=>by
  by_cases e:k=n
  ·rw[e];exact h.2
  ·exact XF h.1 (by omega)
theorem X_ (ad:ea) {ρ:aa} {i n:Nat} (hu:kT i n) (hn:((dY false i).parts bc (a8 i)).length=n) (hw:(dY false i).wf bc (a8 i)=true) (hA:∀b6∈(dY false i).pe,p3.I ρ=false->J.ok ρ b6) (u:J.ok ρ (a8 i)):cV ρ i\/∃q∈(dY false i).ra bc (a8 i),J.ok ρ q:=by
 rcases PT.aq ad.hyp _ _ hA hw u with⟨p,A,E⟩ | h
 ·left
  obtain⟨k,aJ⟩:=List.getElem?_of_mem A
  have h3:=XF hu (k:=k) (by rw[<-hn];exact(List.getElem?_eq_some_iff.1 aJ).1)
  unfold az at h3
  rw[aJ]at h3
  simp only[Bool.and_eq_true]at h3
  exact part ad [] (List.forall_mem_nil _) h3.1 h3.2 E
 ·exact .inr h
end Go.Proofs.YtpdfmnhgocpkcaaGreat
namespace Go.Proofs.YtpdfmnhgocpkcaaGreat
open Go Go.Proofs.Aw Go.Proofs.Xw
abbrev bZ:X := .sc (.i .i64 (.lit 0))
abbrev abf:List X:=[(.sc (.i .i64 (.cl 2 1 (.len 2)))),(.rl 1 (.cl 2 1002 (.len 2)) (.drop (.cl 2 2 (.len 2)) (.var 194 [.s])) false),(.sc (.s (.cl 2 3 (.len 2)))),(.sc (.i .i64 (.cl 2 4 (.len 2))))]
abbrev abg:List X:=[(xi 5),(xi 6),(xi 7),(xi 8),(xi 9),(xi 10),(xi 11),(xi 12),(xi 13),(xi 14),(xb 0),(xi 15),(xi 16)]
abbrev ur:X := .sc (.b (.lit false))
abbrev DV:X := .k (.slice none 0 0)
set_option maxRecDepth 100000
def sA:XS:=⟨([(15,bZ),(47,.top),(46,.top),(14,.top),(13,(.ptr (24,0) [] 0))]++[(45,.top),(44,.top),(40,.top),(43,.top),(42,.top),(41,.top),(12,.top)]++[(11,(.ptr (16,0) [] 0))]++[(39,.top),(38,.top),(34,.top),(37,.top),(36,.top),(35,.top),(33,.top),(32,.top),(31,.top),(30,.top),(29,.top),(28,.top),(27,.top),(26,.top),(25,.top),(24,.top),(10,.top)]++[(9,(.ptr (2,0) [] 0)),(8,(.ptr (1,0) [] 0)),(5,(.ptr (0,0) [] 0)),(0,(.agg [(xi 0),(xi 1),(xi 2),(xi 3)])),(1,(xi 4)),(2,fX),(3,(.agg abf)),(4,(.agg abg))]),[((0,0),[(xi 0),(xi 1),(xi 2),(xi 3)]),((1,0),abf),((2,0),abg),((16,0),[(xi 0),(xi 1),(xi 2),(xi 3),(xi 4),bZ,bZ,bZ,bZ,bZ,bZ,bZ,bZ,bZ,bZ,bZ,bZ,bZ,ur,bZ,DV,(.sc (.s (.lit ⟨#[]⟩))),bZ,bZ,bZ,ur,ur,bZ,bZ,bZ,bZ,bZ,bZ,bZ,bZ,bZ,bZ,ur,bZ,bZ,bZ,(.k (.pointer none)),DV]),((24,0),[(xi 0),(xi 1),(xi 2),(xi 3),(xi 4),bZ,bZ,bZ,bZ,bZ,bZ,bZ,bZ,bZ,bZ,bZ,bZ,ur,bZ,DV,(.sc (.s (.lit ⟨#[]⟩))),bZ,(.k (.pointer none)),bZ,bZ,bZ,bZ,ur,ur,bZ,bZ,bZ,bZ,bZ,bZ,bZ,bZ,bZ,bZ,ur,bZ,bZ,DV,DV])],33⟩
noncomputable def V6 (i:Nat):bo:=⟨(dF kb).getD 0,0,400,sA,gJ,[],.ret (.exit 0,oO (Ss i))⟩
def oW:List X:=((iu 2 (.var 400) 0 hc).drop 1).take 4
def CO (S:XS):XS:=⟨S.t.map fun p=>if Nat.beq p.1 3=true then(p.1,.agg oW)else p,S.h.map fun q=>if cC q.1 (1,0)=true then(q.1,oW)else q,90⟩
noncomputable def B_ (i:Nat):bo:=⟨(dF kb).getD 0,0,400,sA,gJ,[],.ret (.exit 0,CO (Ss i))⟩
end Go.Proofs.YtpdfmnhgocpkcaaGreat
