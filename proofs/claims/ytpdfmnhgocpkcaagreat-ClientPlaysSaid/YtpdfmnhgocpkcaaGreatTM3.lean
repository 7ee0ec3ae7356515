/- Parts of the proof, one behind the other. -/
import Derived.Test.YtpdfmnhgocpkcaaGreatTM2
import Derived.Test.YtpdfmnhgocpkcaaGreatXwM3
import Derived.Test.YtpdfmnhgocpkcaaGreatXwM4
import Derived.Test.YtpdfmnhgocpkcaaGreatAwM2
namespace Go.Proofs.YtpdfmnhgocpkcaaGreat
open Go Go.Proofs.Aw Go.Proofs.Xw
set_option maxRecDepth 100000
def J7 (ty : TypeId) : List Oper := [⟨some 2, .assign (.const (.slice none 0 0)), ty, "slices.go:355", #[], none⟩]
def J8 (ty : TypeId) : List Oper := [⟨some 3, .move (.tmp 0), ty, "slices.go:357", #[], none⟩, ⟨some 4, .binOp .eql ty (.tmp 3) (.const (.slice none 0 0)) ty, 4, "slices.go:357", #[⟨0, .data⟩], none⟩]
def Sv (ty : TypeId) : List Oper := [⟨some 2, .assign (.const (.slice none 0 0)), ty, "slices.go:358", #[], none⟩]
def J9 (ty : TypeId) : List Oper := [⟨some 5, .buildSlice ty 0 #[], ty, "slices.go:362", #[], none⟩, ⟨some 6, .move (.tmp 0), ty, "slices.go:362", #[], none⟩,
 ⟨some 7, .call ⟨.builtin .append, #[.tmp 5, .tmp 6], #[ty, ty]⟩, ty, "slices.go:362", #[⟨0, .data⟩, ⟨1, .data⟩], none⟩,
 ⟨some 2, .assign (.tmp 7), ty, "slices.go:362", #[⟨2, .data⟩, ⟨2, .chain⟩, ⟨0, .phase⟩, ⟨1, .phase⟩, ⟨2, .phase⟩], none⟩]
def uz (ty:TypeId):Code :=
 .seq (.region 0 (J7 ty).toArray false) (.seq (.seq (.region 1 (J8 ty).toArray false) (.cond (.tmp 4) (.seq (.region 2 (Sv ty).toArray false) .ret) .skip)) (.seq (.region 3 (J9 ty).toArray false) .ret))
theorem Sx {P:Program} {ac:Env} {ty e:TypeId} {z:Nat} {v r:AV} {b:Bool} (hN:ac.N=8) (hs:bE P ty=some (e,z)) (hz:nH P e=some z) (hn:gP P [] .eql ty v (.sc (.slice none 0 0))=some (.sc (.bool b)))
  (A:b=true->r = .sc (.slice none 0 0)) (E:b=false->∃fs,er [] z v=some fs/\fs.length*de P e<=140737488355328/\fs.length<=9223372036854775807/\r = .ro z fs false) :
  AW P ac (uz ty) (DV P [.tmp 2] r) ⟨gE 0 [v],[],0⟩:=by
 unfold uz
 refine oZ fun K hK=>tZ [] (by rw[hN];rfl) ?_
 unfold J7
 rw[jN]
 refine hK _ ?_
 refine oZ fun K hK=>oZ fun K1 LL=>tZ [] (by rw[hN];rfl) ?_
 unfold J8
 rw[jN]
 show iy P [] _ _ K1 _ _ _
 rw[jN]
 show lu P _ _ (c6 (gP P [] .eql ty v (.sc (.slice none 0 0)))) _
 rw[hn]
 refine LL _ (DJ (b:=b) rfl (fun hb => ?_) (fun hb => ?_))
 ·refine oZ fun K2 A9=>tZ [] (by rw[hN];rfl) ?_
  unfold Sv
  rw[jN]
  refine A9 _ (DK ?_)
  refine⟨.inl rfl,?_⟩
  rw[A hb]
  rfl
 ·refine Ja (hK _ ?_)
  obtain⟨fs,g1,g2,g3,g4⟩:=E hb
  refine oZ fun K2 A9=>tZ [] (by rw[hN];rfl) ?_
  unfold J9
  rw[jN]
  have e1:nV P 3 false ty 0 []=some (.ro z [] true,[]):=by
   unfold nV
   rw[hs]
   simp only[hz,kX]
   rw[if_pos ⟨trivial,by omega,rfl,trivial⟩]
   rfl
  show lu P _ _ (lq (nV P 3 false ty 0 [])) _
  rw[e1]
  show iy P [] _ _ K2 _ _ _
  rw[jN]
  show iy P [] _ _ K2 _ _ _
  rw[jN]
  have e2:nQ P 5 [] false ty ty (.ro z [] true) v=some (.ro z fs false,[]):=by
   unfold nQ
   rw[hs]
   simp only[hz,g1,and_self,if_true,jm,jn,nP]
   rw[if_pos ⟨by simpa using g2,by simpa using g3,fun h=>nomatch h⟩]
   rfl
  show lu P _ _ (lq (nQ P 5 [] false ty ty (.ro z [] true) v)) _
  rw[e2]
  show iy P [] _ _ K2 _ _ _
  rw[jN]
  refine A9 _ (DK ⟨.inl rfl,?_⟩)
  rw[g4]
  rfl
theorem JL {P:Program} {ty:TypeId} {v:AV} (h:∀k i,v ≠ .sc (.int k i)):gp P .eql ty v (.sc (.slice none 0 0))=none:=by
 unfold gp
 split<;>simp_all
theorem Sy {P:Program} {f:FuncId} {fn:Func} {ty e:TypeId} {z:Nat} (hf:P.funcs[f]? = some fn) (hb:fn.body=some (uz ty)) (hr:fn.results.toList=[.tmp 2]) (hN:fn.ntmps=8) (hB:b_ P f=true) (hs:bE P ty=some (e,z)) (hz:nH P e=some z):ua P (f,z):=by
 refine⟨hB,fun full n h => ?_⟩
 have run:∀(ab:Option Addr) (cap:Nat) (r:AV),b8 (fun _=>false) r=true->(ab.isNone=true->r = .sc (.slice none 0 0))->(ab.isNone=false->r = .ro z [] false)->CY P n f [.sc (.slice ab 0 cap)] h r []:=fun ab cap r mf A E =>
  Jd hf hb (by rw[hN];show 1<=8;decide) rfl mf (fun ac hE _ _=>by
   rw[hr]
   refine Sx (b:=ab.isNone) (by rw[hE,hN]) hs hz ?_ A fun hb=>⟨[],rfl,by simp,by simp,E hb⟩
   unfold gP
   rw[JL (fun k i h=>by cases h)]
   simp only[kA,hs,mw]) n h
 intro C vs W hL hn
 obtain⟨Y,us,rfl,hu,fH⟩:=hL
 simp only[aC]at fH
 subst fH
 obtain⟨ab,cap,rfl,A,E,_⟩:=hv.1 hu
 have UE:aC C [.sc (.slice ab 0 cap)] [.slice ab 0 cap]:=⟨_,_,rfl,rfl,rfl⟩
 cases ab with
 | none =>
  refine(run none cap (.sc (.slice none 0 0)) rfl (fun _=>rfl) (fun h=>by cases h) C _ W UE hn).mono ?_
  rintro e' w' ⟨Y,C',h3,h4,hp⟩
  have R:Y = .slice none 0 0:=hp.val
  exact⟨Y,C',h3,h4,{ hp with val:=hv.2 ⟨none,0,R,Nat.le_refl _,fun h=>(nomatch h),fun h=>absurd rfl h⟩ }⟩
 | some a=>exact run (some a) cap (.ro z [] false) rfl (fun h=>by cases h) (fun _=>rfl) C _ W UE hn
theorem Sq:ua Tryz.prog (48,1):=Sy (fn:=Tryz.f48) (ty:=25) (e:=9) Tryz.func48 rfl rfl rfl (by kernel_rfl) (by kernel_rfl) (by kernel_rfl)
theorem Su:ua Tryz.prog (49,22):=Sy (fn:=Tryz.f49) (ty:=67) (e:=74) Tryz.func49 rfl rfl rfl (by kernel_rfl) (by kernel_rfl) (by kernel_rfl)
def cls:List (Nat×Nat):=[(48,1),(49,22)]
theorem J_:∀k∈cls,ua Tryz.prog k:=List.forall_mem_cons.2 ⟨Sq,List.forall_mem_cons.2 ⟨Su,List.forall_mem_nil _⟩⟩
end Go.Proofs.YtpdfmnhgocpkcaaGreat
namespace Go.Proofs.YtpdfmnhgocpkcaaGreat
open Go Go.Proofs.Aw Go.Proofs.Xw
set_option maxRecDepth 100000
def xi (v:Nat):X := .sc (.i .i64 (.var v))
def xb (v:Nat):X := .sc (.b (.var v))
def xs (v:Nat):X := .sc (.s (.var v))
def xl (b:Bool):X := .sc (.b (.lit b))
def xn (n:Int):X := .sc (.i .i64 (.lit n))
def vi (k n:Nat):List X:=(List.range n).map fun j=>xi (k+j)
def fB (k n:Nat) (r:AL):AL:=(List.range n).foldr (fun j r => .i (.var (k+j)) r) r
def h9 (k:Nat):AL:=fB k 10 (.b (.var (k+10)) (.i (.var (k+11)) (.i (.var (k+12)) .nil)))
def iF (k:Nat):List X:=vi k 10++[xb (k+10)]++vi (k+11) 2
def kP (k:Nat):AL:=fB k 6 (.s (.var (k+6)) (.s (.var (k+7)) (.b (.var (k+8)) (fB (k+9) 11 .nil))))
def qt (k:Nat):List X:=vi k 6++[xs (k+6),xs (k+7),xb (k+8)]++vi (k+9) 11
def tf (a b:Nat):X := .sc (.c (.var a) (.lit false) (.var b) (.lit false))
def zt (k j:Nat) (a:AL):X := .sc (.i .i64 (.uf k j a))
def aad (k:Nat) (a:AL):X := .sc (.b (.eq (.uf k 0 a) (.lit 1)))
def aae (k:Nat) (a:AL):X := .sc (.c (.uf k 0 a) (.lit false) (.uf k 1 a) (.lit false))
def iX (e:U) (lo hi:Int):BE := .and (.not (.lt e (.lit lo))) (.not (.lt (.lit hi) e))
def RR:AL := .s (.var 0) (.i (.var 1) .nil)
def O8:BE := .and (.not (.lt (.lit 1000000) (.cB (.var 0)))) (iX (.var 1) 1 3)
def PR (f:Nat):Sm:=⟨f,[xs 0,xi 1],zt 0 0 RR,O8⟩
def CQ (f:Nat):Sm:=⟨f,[.agg (iF 0)],aad 1 (h9 0),.lit true⟩
def PU (f:Nat):Sm:=⟨f,[.agg (qt 0)],aad 2 (kP 0),.lit true⟩
def PS (f:Nat):Sm:=⟨f,[.ro 20 [qt 0] false],.agg ((List.range 9).map fun j=>zt 3 j (kP 0)),.eq (.uf 2 0 (kP 0)) (.lit 1)⟩
def Gs:X := .agg ((List.range 9).map fun j => .sc (.i .i64 (.op .max .i64 (.op .max .i64 (.lit 0) (.var j)) (.var (9+j)))))
def H5:Sm:=⟨29,[.ro 9 [vi 0 9,vi 9 9] false],Gs,.lit true⟩
def H8:Sm:=⟨113,[.agg (vi 0 9),.agg (vi 9 9)],Gs,.lit true⟩
def PQ (f:Nat):Sm:=⟨f,[xi 0,xi 1,xi 2],aae 4 (fB 0 3 .nil),.and (iX (.var 0) 0 2) (.and (iX (.var 1) 0 2) (iX (.var 2) 0 3))⟩
def PM (f:Nat):Sm:=⟨f,[xi 0,xi 1],aae 5 (fB 0 2 .nil),.and (iX (.var 0) 0 2) (iX (.var 1) 0 3)⟩
def CP (f:Nat):Sm:=⟨f,[tf 0 1,tf 2 3],zt 6 0 (fB 0 4 .nil),.and (iX (.var 0) (-16384) 16384) (.and (iX (.var 1) (-16384) 16384) (.and (iX (.var 2) (-16384) 16384) (iX (.var 3) (-16384) 16384)))⟩
def H4 (f:Nat):Sm:=⟨f,[.agg (iF 0)],.sc (.i .i64 (.ite (.eq (.uf 1 0 (h9 0)) (.lit 1)) (.var 2) (.lit (-1)))),.lit true⟩
def PN (f:Nat):Sm:=⟨f,[.agg (iF 0)],zt 7 0 (h9 0),.lit true⟩
def XC (n:Nat):BE:=(List.range (2*n+2)).foldr (fun k b => .and (iX (.var k) (-16384) 16384) b) (.lit true)
def PO (f n:Nat):Sm:=⟨f,[tf 0 1,.ro 1 ((List.range n).map fun k=>[tf (2*k+2) (2*k+3)]) false],zt 8 0 (fB 0 (2*n+2) .nil),XC n⟩
def h2:List Sm:=[PR 33,PR 104,CQ 97,CQ 105,PU 28,PU 81,PS 24,PS 114,H5,H8,PQ 36,PQ 108,PM 34,PM 110,CP 35,CP 135,H4 27,H4 77,PN 94,PN 107]++([1,2,3,4].map (PO 92)++[1,2,3,4].map (PO 109))
end Go.Proofs.YtpdfmnhgocpkcaaGreat
namespace Go.Proofs.YtpdfmnhgocpkcaaGreat
open Go Go.Proofs.Aw Go.Proofs.Xw
set_option maxRecDepth 100000
def kI:Nk := .f (.i .i64)
def yk:Nk := .f .s
def yj:Nk := .f .b
def sU:List Nk:=[kI,kI,.r 1 194 [.s],yk,kI,kI,kI,kI,kI,kI,kI,kI,kI,kI,kI,kI,kI,kI,kI,kI,kI,kI,kI,kI,kI,kI,kI,kI,kI,yj,kI,kI,kI,kI,kI,kI,kI,kI,yk,yk,yj,kI,kI,kI,kI,kI,kI,kI,kI,kI,kI,kI,yj,yk,yk,yj,yj,kI,kI,kI,kI,kI,kI,kI,kI,kI,kI,kI,kI,kI,kI,kI,kI,kI,kI,kI,kI,kI,kI]
def fw:X := .rn 79 (.len 2) 2 sU false
noncomputable def NL:Nat->List bf:=fun f=>if Nat.beq f 14=true then [BH ((du (((dP (Tryz.f14.body.getD .skip))[0]?).getD .skip)).getD 0) 13 36]else []
def Gn:List X:=vi 0 4
def cm (e:Nm):X := .slv e 20 (.lit 0) (.len 460) true
def k6:List X:=[.tk 20 (.len 460) 460 []]
def QE (n:Nat):List X:=List.replicate n .top
def WJ:X := .k (.pointer none)
def Se (busy asked:Bool) (ks fQ tx:X) (ev:X):List X :=
 Gn++[xi 4,xi 401,xi 402]++[xi 403,xi 404]++vi 405 9++[xl busy]++(if busy=true then [xi 414,ks,xs 450,xi 415,xi 416,xi 417,xl asked,xb 441]else QE 8)++iF 418++(if busy=true then [fQ,tx]else [.top,.top])++[ev]
def SS (busy asked:Bool) (ks at_ tx:X) (ev:X):List X :=
 Gn++[xi 4,xi 401,xi 402,xi 404]++vi 405 9++[xl busy]++(if busy=true then [xi 414,ks,xs 450,xi 415,tx,at_]else QE 6)++[xi 403]++(if busy=true then [xi 416,xi 417,xl asked,xb 441]else QE 4)++iF 418++[ev,.top]
def hp (p q e:Nat) (busy asked:Bool) (ahb kd fQ at_ tx ty:X) (h:au):au:=[((p,0),Se busy asked ahb fQ tx (cm (e,0))),((e,0),k6),((q,0),SS busy asked kd at_ ty (cm (e,1))),((e,1),k6)]++h
def F1:X := .rl 1 (.len 470) (.var 470 [.s]) false
def rgX:X:=zt 0 0 (.s (.cl 470 0 (.lit 0)) (.i (.var 1) .nil))
def asj (p q sc arm arz:Nat) (r:ba):ba:=[(sc,.ptr (p,0) [] 0),(arm,.ptr (q,0) [] 0),(arz,xi 400)]++r
def dh:J:=[(.lt (.var 0) (.lit 1),false),(.lt (.lit 3) (.var 0),false),(.lt (.var 1) (.lit 1),false),(.lt (.lit 3) (.var 1),false),(.lt (.var 4) (.lit 0),false),(.lt (.lit 3) (.var 4),false),(.lt (.lit 250) (.len 2),false)]
def m3:J:=dh++[(.lt (.var 400) (.lit 0),false),(.lt (.len 2) (.var 400),false),(.lt (.var 401) (.lit 0),false),(.lt (.var 401) (.var 0),true),(.lt (.lit 2) (.var 401),false),(.lt (.var 404) (.lit 0),false),(.lt (.var 402) (.lit 0),false),(.lt (.lit 1099511627776) (.var 402),false),(.lt (.var 400) (.len 460),false),(.lt (.len 460) (.lit 1),false)]
def F2:J:=[(.lt (.var 414) (.lit 1),false),(.lt (.lit 3) (.var 414),false),(.eq (.len 470) (.lit 1),true),(.lt (.lit 16) (.cB (.cl 470 0 (.lit 0))),false)]
def arn (p q e:Nat) (t:ba):XS:=⟨t,hp p q e false false .top .top .top .top .top .top [],e+1⟩
def YP (asked:Bool) (p q e:Nat) (t:ba):XS:=⟨t,hp p q e true asked F1 F1 rgX .top WJ .top [],e+1⟩
def i1:U := .op .add .i64 (.var 400) (.lit 1)
def hyR:BE×J:=(.and (.lt (.var 400) (.len 2)) (.and (.not (.lt (.lit 250) (.len 2))) (.and (.not (.lt (.var 400) (.lit 0))) (.not (.lt (.var 400) (.len 460))))),
 [(.lt i1 (.lit 0),false),(.lt (.len 2) i1,false),(.lt i1 (.len 460),false),(.lt i1 (mkAdd (.len 460) (.lit 1)),false),(.lt i1 (.lit 1),false),(.lt (.lit 300) (.len 460),false)])
def jb:List Nat:=[0,0,0,1,0,0,0,0,0,0,22,0,0,0,0,0,0,0,0,0]
end Go.Proofs.YtpdfmnhgocpkcaaGreat
namespace Go.Proofs.YtpdfmnhgocpkcaaGreat
open Go Go.Proofs.Aw Go.Proofs.Xw
set_option maxRecDepth 100000
def cA (k:Nat):U := .cl 2 k (.var 400)
def cM (k:Nat):U := .cl 2 (5+k) (.var 400)
def bU (k:Nat):BE := .cl 2 (5+k) (.var 400)
def ai (e:U) (n:Int):BE := .eq e (.lit n)
def bQ (e:U) (n:Int):BE := .lt e (.lit n)
def ma (e:U) (n:Int):BE := .lt (.lit n) e
def VQ:TE := .cl 194 0 (.cl 2 2 (.var 400))
def wz:TE := .cl 2 3 (.var 400)
def up (k:Nat):U := .op .add .i64 (.var k) (.lit 1)
def mI:AL:=(List.range 10).foldr (fun j r => .i (cM (14+j)) r) (.b (bU 24) (.i (cM 25) (.i (cM 26) .nil)))
def dr:AL:=(List.range 6).foldr (fun j r => .i (cM (27+j)) r) (.s (.cl 2 38 (.var 400)) (.s (.cl 2 39 (.var 400)) (.b (bU 35) ((List.range 11).foldr (fun j r => .i (cM (36+j)) r) .nil))))
def MM:BE×J:=(.seq wz (.lit ⟨#[]⟩),[(ma (.cB wz) 32,false)])
def MI (a:AL) (g:Nat->U):BE×J:=(.eq (.uf 1 0 a) (.lit 1),[(bQ (g 1) 1,false),(ma (g 1) 4,false),(bQ (g 2) 0,false),(ma (g 2) 3,false)])
def x8 (a:AL) (g:Nat->U) (n:Nat):BE×J:=(.and (.eq (.uf 1 0 a) (.lit 1)) (ai (g 1) n),(List.range n).flatMap fun k=>[(bQ (g (2+2*k)) 0,false),(ma (g (2+2*k)) 3,false)])
def ML:BE×J:=(.and (.not (.eq (up 431) (.var 1))) (.and (.and (.lt (.var 431) (.var 1)) (.not (.lt (.var 431) (.lit 0)))) (.not (.lt (.lit 3) (.var 1)))),[(.lt (up 431) (.var 1),true),(.lt (.lit 2) (up 431),false),(.lt (mkAdd (.var 431) (.lit 1)) (.var 1),true),(.lt (.lit 2) (mkAdd (.var 431) (.lit 1)),false),(.lt (mkAdd (.var 431) (.lit 1)) (.lit 0),false)])
def MK:BE×J:=(.eq (up 431) (.var 1),[(.lt (up 431) (.var 1),false)])
def hyE:BE×J:=(.and (.lt (.var 400) (.len 2)) (.and (.not (.lt (.lit 250) (.len 2))) (.not (.lt (.var 400) (.lit 0)))),[(.lt i1 (.lit 0),false),(.lt (.len 2) i1,false),(.lt i1 (.lit 1),false)])
def MJ:BE×J:=(.and (.lt (cA 4) (.var 0)) (.not (.lt (.lit 3) (.var 0))),[(.lt (.lit 2) (cA 4),false)])
def gM:Nat->U:=fun k=>cM (14+k)
def wm:List (BE×Bool)->DT->DT
 | [],d=>d
 | (c,true)::r,d => .br c (wm r d) .leaf
 | (c,false)::r,d => .br c .leaf (wm r d)
def OU:DT := .br (bQ (.var 402) 1099511627776) .leaf .leaf
def Cs:List (BE×Bool):=[(bQ (cA 1002) 1,false),(ma (cA 1002) 1,false),(bQ (.cB VQ) 1,false),(ma (.cB VQ) 16,false)]
def asr:DT := .br (bQ (up 417) 24) (.br (bQ (up 416) 2) .leaf .leaf) .leaf
def s9 (fQ:U) (n:Nat):U :=
 let h:AL := .i (.var 401) (.i (.var 4) .nil)
 let p:Nat->AL:=fun k => .i (.var 401) (.i fQ (.i (gM (2+2*k)) .nil))
 .uf 8 0 (.i (.uf 5 0 h) (.i (.uf 5 1 h) ((List.range n).foldr (fun k r => .i (.uf 4 0 (p k)) (.i (.uf 4 1 (p k)) r)) .nil)))
def GH (fQ:U):Nat->DT
 | 1 => .leaf
 | 2 => .br (bQ (s9 fQ 2) 1) .leaf .leaf
 | 3 => .br (bQ (s9 fQ 3) 1) .leaf (.br (bQ (s9 fQ 3) 2) .leaf .leaf)
 | _ => .br (bQ (s9 fQ 4) 1) .leaf (.br (bQ (s9 fQ 4) 2) .leaf (.br (bQ (s9 fQ 4) 3) .leaf .leaf))
def mi (fQ:U) (n:Nat):BE×J:=(.lit true,[(ma (s9 fQ n) (n-1:Int),false)])
def byN (n:U) (f:Nat->DT):DT := .br (bQ n 2) (f 1) (.br (bQ n 3) (f 2) (.br (bQ n 4) (f 3) (f 4)))
def getD (fQ:U) (x:Nat):DT:=byN (gM 1) fun n => .kT (1+n) (.kT (x+n) (.br (bU 24) (GH fQ n) (GH fQ n)) .leaf) .leaf
def y8:U := .uf 0 0 (.s (.cl 470 0 (.lit 0)) (.i (.var 1) .nil))
def Q3 (d:DT):DT := .br (.eq (.uf 2 0 dr) (.lit 1)) d .leaf
def ad3:DT := .br (bQ (.var 414) 3) (wm [(ai (cM 73) 0,true),(bU 47,true)] (Q3 (.br (bQ (.var 414) 2) .leaf .leaf))) .leaf
def ahD (fQ:U):DT := .br (.var 441) .leaf (wm [(ai (cM 1) 1,true),(.eq (cM 2) (.var 401),true),(.eq (cM 3) fQ,true),(.eq (cM 4) (.uf 7 0 (h9 418)),true)] .leaf)
def Ol:DT := .kT 7 .leaf (.kT 6 .leaf .leaf)
def hyps:Hyp:=[MM,MI mI gM,x8 mI gM 1,x8 mI gM 2,x8 mI gM 3,x8 mI gM 4,ML,MK,mi y8 1,mi y8 2,mi y8 3,mi y8 4,mi (.var 431) 1,mi (.var 431) 2,mi (.var 431) 3,mi (.var 431) 4,MJ]
def YT (asked:Bool) (p q e:Nat) (t:ba):XS:=⟨t,hp p q e true asked (.ro 1 [] false) (.ro 1 [] false) (xi 431) (xi 431) WJ .top [],e+1⟩
def arl (p q e:Nat) (t:ba):XS:=⟨t,[((p,0),Se false false .top .top .top (.k (.slice none 0 0))),((q,0),SS false false .top .top .top (.k (.slice none 0 0)))],e+1⟩
def GG:J:=[(.lt (.var 431) (.lit 0),false),(.lt (.var 431) (.var 1),true),(.lt (.lit 2) (.var 431),false),(.eq (.var 414) (.lit 5),true)]
def Fm:J:=dh++[(.lt (.var 400) (.lit 0),false),(.lt (.len 2) (.var 400),false),(.lt (.var 401) (.lit 0),false),(.lt (.var 401) (.var 0),true),(.lt (.lit 2) (.var 401),false),(.lt (.var 404) (.lit 0),false),(.lt (.var 402) (.lit 0),false),(.lt (.lit 1099511627776) (.var 402),false)]
def adE (p q e:Nat) (t:ba):List dm:=[⟨arl p q e t,Fm,[]⟩,⟨arn p q e t,m3,[]⟩,⟨YP false p q e t,m3++F2,[]⟩,⟨YP true p q e t,m3++F2,[]⟩,
 ⟨YT false p q e t,m3++GG,[]⟩,⟨YT true p q e t,m3++GG,[]⟩]
def Yc:J:=[(bQ (cA 1002) 0,false),(ma (cA 1002) 250,false)]
end Go.Proofs.YtpdfmnhgocpkcaaGreat
namespace Go.Proofs.YtpdfmnhgocpkcaaGreat
open Go Go.Proofs.Aw Go.Proofs.Xw
set_option maxRecDepth 100000
def gh:List Kd:=[.i .i64,.b,.i .i64,.i .i64,.i .i64,.i .i64,.i .i64,.i .i64,.s,.s,.b,.i .i64,.i .i64,.i .i64,.i .i64,.i .i64,.i .i64,.i .i64,.i .i64,.i .i64,.i .i64,.i .i64,.i .i64,.i .i64,.i .i64]
def aY (m:Nm) (z:Nat) (n:U):X := .slv m z (.lit 0) n true
def asl (e a rd dM:Nat):au:=[((e,a),vi 405 9++vi dM 9++[xi 1,aY (e,a+1) 1 (.len 470),aY (e,a+2) 25 (.len 470),.slv (e,a+3) 1 (.var 440) (.var 443) true,xn rd,xn 0]),
 ((e,a+1),[.rows 1 (.len 470) (.var 470 [.s])]),((e,a+2),[.rows 25 (.len 470) (.var 472 gh)]),((e,a+3),[.rows 1 (.len 474) (.var 474 [.i .i64])])]
def asi (e a rd dM:Nat):au:=[((e,a),[xi 1,aY (e,a+1) 1 (.len 470),aY (e,a+2) 25 (.len 470),.slv (e,a+3) 1 (.var 440) (.var 443) true,xn rd]++vi dM 9++[xl false,xn 0]),
 ((e,a+1),[.rows 1 (.len 470) (.var 470 [.s])]),((e,a+2),[.rows 25 (.len 470) (.var 472 gh)]),((e,a+3),[.rows 1 (.len 474) (.var 474 [.i .i64])])]
def g8:U := .cl 474 0 (.var 440)
def tQ:U := .cl 474 0 (mkAdd (.var 440) (.lit 1))
def wj:U := .uf 0 0 (.s (.cl 470 0 g8) (.i (.var 1) .nil))
def rtX:X := .sc (.i .i64 wj)
def H7 (rd dM:Nat) (asked:Bool) (p q e:Nat) (t:ba):XS:=⟨t,hp p q e true asked F1 F1 rtX .top (.ptr (e,2) [] 0) (.ptr (e,6) [] 0) (asl e 2 rd dM++asi e 6 rd dM),e+1⟩
def nC:J:=[(.eq (.var 414) (.lit 4),true),(.lt (.var 443) (.lit 1),false)]
def oU:J:=[(.lt (.len 470) (.lit 1),false),(.lt (.lit 6) (.len 470),false),(.lt (.len 474) (.op .cW .i64 (.var 440) (.var 443)),false),(.lt (.var 440) (.lit 0),false),(.lt (.lit 5) (.var 440),false),(.lt (.var 440) (.len 474),true),(.lt (.var 443) (.lit 1),false),(.lt (.lit 6) (.var 443),false)]
def ko (j:U):J:=[(.lt j (.lit 0),false),(.lt j (.len 470),true),(.lt (.lit 16) (.cB (.cl 470 0 j)),false)]
def pn:BE×J:=(.and (.not (.eq (.var 443) (.lit 1))) (.not (.lt (.var 443) (.lit 1))),[(.lt (.var 443) (.lit 2),false)])
def a':Hyp:=hyps++[mi wj 1,mi wj 2,mi wj 3,mi wj 4,pn]
def ec (e:U):Sc := .i .i64 e
def mK (ag:Bool):List Sc:=[ec (.lit 0),.b (bU 47)]++(if ag=true then(List.range 6).map (fun k=>ec (cM (27+k)))++[.s (.cl 2 38 (.var 400)),.s (.cl 2 39 (.var 400)),.b (bU 35)]++(List.range 11).map (fun k=>ec (cM (36+k)))
 else List.replicate 6 (ec (.lit 0))++[.s (.lit ⟨#[]⟩),.s (.lit ⟨#[]⟩),.b (.lit false)]++List.replicate 11 (ec (.lit 0)))++[ec (cM 70),ec (cM 71),ec (cM 72)]
def b9 (ag:Bool):RL := .eK g8 (mK ag) (.var 472 gh)
def fc:List Kd:=[.s,.b]++List.replicate 6 (.i .i64)++[.s,.s,.b]++List.replicate 11 (.i .i64)
def CL:X := .rl 22 (.len 470) (.var 630 fc) false
def F4:X := .rl 1 (.len 470) (.var 470 [.s]) false
def Qr:X := .rl 1 (.op .fO .i64 (.var 443) (.lit 1)) (.drop (.op .cW .i64 (.var 440) (.lit 1)) (.var 474 [.i .i64])) false
def LG (ag:Bool) (rd dM:Nat):au:=[((0,0),vi 405 9++vi dM 9++[xi 1,aY (0,1) 1 (.len 470),aY (0,2) 25 (.len 470),.slv (0,3) 1 (.op .cW .i64 (.var 440) (.lit 1)) (.op .fO .i64 (.var 443) (.lit 1)) true,xn rd,xn 0]),
 ((0,1),[.rows 1 (.len 470) (.var 470 [.s])]),((0,2),[.rows 25 (.len 470) (b9 ag)]),((0,3),[.rows 1 (.len 474) (.var 474 [.i .i64])])]
def Ue (ag:Bool) (rd dM:Nat):au:=[((0,0),[xi 1,aY (0,1) 1 (.len 470),aY (0,2) 25 (.len 470),.slv (0,3) 1 (.op .cW .i64 (.var 440) (.lit 1)) (.op .fO .i64 (.var 443) (.lit 1)) true,xn rd]++vi dM 9++[xl true,xn 0]),
 ((0,1),[.rows 1 (.len 470) (.var 470 [.s])]),((0,2),[.rows 25 (.len 470) (b9 ag)]),((0,3),[.rows 1 (.len 474) (.var 474 [.i .i64])])]
def sx (ag:Bool):List GK:=[⟨122,[.ptr (0,0) [] 0],LG ag 2 500,CL,ln (LG ag 2 500)⟩,⟨116,[.ptr (0,0) [] 0],Ue ag 2 500,CL,ln (Ue ag 2 500)⟩]
def d4 (t k a o:List X):aL:=[((0,0),some t),((0,1),some k),((0,2),some a),((0,3),some o)]
def fy (again:Bool):X:=if again=true then .slv (1,0) 1 (.lit 0) (.len 610) true else .slv (0,3) 1 (.op .cW .i64 (.var 440) (.lit 1)) (.op .fO .i64 (.var 443) (.lit 1)) true
def n6 (again:Bool):aL:=if again=true then [((1,0),some [.rows 1 (.len 610) (.var 610 [.i .i64])])]else []
def kR:List X:=[.rows 1 (.len 470) (.var 470 [.s])]
def oR:List X:=[.rows 1 (.len 474) (.var 474 [.i .i64])]
def iI (ag again:Bool):GK:=⟨120,[.ptr (0,0) [] 0],LG ag 1 405,.tup [],
 [((0,0),some (vi 405 9++vi 600 9++[xi 1,aY (0,1) 1 (.len 470),aY (0,2) 25 (.len 470),fy again,xn (if again=true then 2 else 1),xn 0])),((0,1),some kR),((0,2),some [.rows 25 (.len 470) (b9 ag)]),((0,3),if again=true then none else some oR)]++n6 again⟩
def uU:au:=[((0,0),[xi 1,aY (0,1) 1 (.len 470),aY (0,2) 25 (.len 470),.slv (0,3) 1 (.var 440) (.var 443) true,xn 1]++vi 405 9++[xl false,xn 0]),
 ((0,1),kR),((0,2),[.rows 25 (.len 470) (.var 472 gh)]),((0,3),oR)]
def ic (ag again:Bool):GK:=⟨115,[.ptr (0,0) [] 0,.agg ((mK ag).map .sc)],uU,xn 0,
 d4 ([xi 1,aY (0,1) 1 (.len 470),aY (0,2) 25 (.len 470),(if again=true then fy true else .k (.slice none 0 0)),xn (if again=true then 2 else 1)]++vi 600 9++[xl (!again),xn 0]) kR [.rows 25 (.len 470) (b9 ag)] oR++n6 again⟩
def Uh (ag:Bool):au:=[((0,0),vi 405 9++vi 600 9++[xi 1,aY (0,1) 1 (.len 470),aY (0,2) 25 (.len 470),fy false,xn 1,xn 0]),((0,1),kR),((0,2),[.rows 25 (.len 470) (b9 ag)]),((0,3),oR)]
def Uf (ag:Bool):au:=[((0,0),[xi 1,aY (0,1) 1 (.len 470),aY (0,2) 25 (.len 470),.k (.slice none 0 0),xn 1]++vi 600 9++[xl true,xn 0]),((0,1),kR),((0,2),[.rows 25 (.len 470) (b9 ag)])]
def sw (ag:Bool):List GK:=[⟨122,[.ptr (0,0) [] 0],Uh ag,CL,ln (Uh ag)⟩,⟨116,[.ptr (0,0) [] 0],Uf ag,CL,ln (Uf ag)⟩]
def bj:U := .cl 2 1002 (.var 400)
def oo:RL := .drop (.cl 2 2 (.var 400)) (.var 194 [.s])
def zT:RL := .one ([ec (.lit 0),.b (.lit false)]++List.replicate 6 (ec (.lit 0))++[.s (.lit ⟨#[]⟩),.s (.lit ⟨#[]⟩),.b (.lit false)]++List.replicate 14 (ec (.lit 0)))
def zm:RL := .eK (.lit 0) [ec (.lit 0)] (.var 620 [.i .i64])
def GX:aL:=[((1,1),some [.rows 1 bj oo]),((1,2),some [.rows 25 bj zT]),((1,3),some [.rows 1 bj zm])]
def ei (w:Bool):List GK:=[⟨51,[.agg (vi 405 9),xi 1,.rl 1 bj oo w],[],.tup [.ptr (1,0) [] 0,xn 0],((1,0),some (vi 405 9++vi 405 9++[xi 1,aY (1,1) 1 bj,aY (1,2) 25 bj,aY (1,3) 1 bj,xn 1,xn 0]))::GX⟩,
 ⟨74,[.agg (vi 405 9),xi 1,.rl 1 bj oo w],[],.tup [.ptr (1,0) [] 0,xn 0],((1,0),some ([xi 1,aY (1,1) 1 bj,aY (1,2) 25 bj,aY (1,3) 1 bj,xn 1]++vi 405 9++[xl false,xn 0]))::GX⟩]
def dS (w:Bool):List GK:=[⟨51,[.agg (vi 405 9),xi 1,.rl 1 bj oo w],[],.tup [.top,xn 1],[]⟩,⟨74,[.agg (vi 405 9),xi 1,.rl 1 bj oo w],[],.tup [.k (.pointer none),xn 1],[]⟩]
def jA:List Nat:=[405,406,407,408,409,410,411,412,413]
def mm:List Nat:=jA++[500,501,502,503,504,505,506,507,508]
def qw (ag:Bool):J:=if ag=true then [(.eq (.uf 2 0 dr) (.lit 1),true)]else [(bU 47,false)]
def wT (fr:Nat):Alt:=⟨fr,jA,[],[(440,.lit 0),(443,.len 621)],[(470,.len 621,oo),(472,.len 621,zT),(474,.len 621,zm)],[(.lt (.len 621) (.lit 1),false)]⟩
def iB (fr:Nat) (ki:List Nat):Alt:=⟨fr,440::443::ki,[470,474],[],[(472,.len 470,.var 472 gh)],[]⟩
def qc (fr:Nat) (ki:List Nat) (ag:Bool):Alt:=⟨fr,ki,[470,474],[(440,.op .cW .i64 (.var 440) (.lit 1)),(443,.op .fO .i64 (.var 443) (.lit 1))],[(472,.len 470,b9 ag)],(.lt (.var 443) (.lit 2),false)::qw ag⟩
def wU (ag:Bool):Alt:=⟨7,jA,[470],(440,.lit 0)::(443,.len 610)::(List.range 9).map (fun k=>(500+k,.var (600+k))),[(474,.len 610,.var 610 [.i .i64]),(472,.len 470,b9 ag)],(.lt (.len 610) (.lit 1),false)::qw ag⟩
def adD (p q e:Nat) (t:ba):List dm:=[⟨H7 1 405 false p q e t,m3++nC,[wT 0,wT 1,iB 6 jA,iB 7 jA,qc 7 jA false,qc 7 jA true]⟩,⟨H7 1 405 true p q e t,m3++nC,[iB 6 jA,iB 7 jA]⟩,
 ⟨H7 2 500 false p q e t,m3++nC,[iB 8 mm,iB 9 mm,qc 9 mm false,qc 9 mm true,wU false,wU true]⟩,⟨H7 2 500 true p q e t,m3++nC,[iB 8 mm,iB 9 mm]⟩]
def eY:List Tk:=[.f (.i .i64),.f (.i .i64),.f (.i .i64),.r 1 [.s],.f .s,.f (.i .i64),.f (.i .i64),.f .b,.f .b,.f (.i .i64),.r 22 fc]++List.replicate 9 (.f (.i .i64))
def lv:DT->Bool
 | .leaf=>true
 | .hole _=>false
 | .br _ a b=>lv a&&lv b
 | .kT _ a b=>lv a&&lv b
theorem q8 {aR:Hyp}:∀(d:DT) (B:J),lv d=true->d.lj aR B=[]
 | .leaf,_,_=>rfl
 | .hole _,_,h=>by cases h
 | .br c a b,B,h=>by
  simp only[lv,Bool.and_eq_true]at h
  simp only[DT.lj]
  split
  ·exact q8 a _ h.1
  ·exact q8 b _ h.2
  ·rw[q8 a _ h.1,q8 b _ h.2];rfl
 | .kT k a b,B,h=>by
  simp only[lv,Bool.and_eq_true]at h
  simp only[DT.lj]
  split
  ·split
   ·exact q8 a _ h.1
   ·exact q8 b _ h.2
   ·rw[q8 a _ h.1,q8 b _ h.2];rfl
  ·rfl
theorem Xg {aR:Hyp} (hH:uc aR) {jX:J->Bool} {ρ:aa} {d:DT} {B:J} (hn:lv d=true) (h:d.ok aR jX B=true) (u:J.ok ρ B):∃aS,J.ok ρ aS/\jX aS=true:=by
 rcases DT.rh hH d B h u with g | ⟨p,hp,_⟩
 ·exact g
 ·rw[q8 d B hn]at hp;cases hp
theorem kV (c:BE) (ρ:aa):c.I ρ=true\/c.I ρ=false:=by cases c.I ρ<;>simp
end Go.Proofs.YtpdfmnhgocpkcaaGreat
namespace Go.Proofs.YtpdfmnhgocpkcaaGreat
open Go Go.Proofs.Aw Go.Proofs.Xw
set_option maxRecDepth 100000
theorem aiX {P:Program} {ty e:TypeId} {z:Nat} (hs:bE P ty=some (e,z)) {D:List (List AV)} (h0:D≠[]):gP P [] .eql ty (.ro z D false) (.sc (.slice none 0 0))=some (.sc (.bool false)):=by
 unfold gP
 rw[JL (fun k i h=>by cases h)]
 cases D with
 | nil=>exact absurd rfl h0
 | cons e D=>simp only[kA,hs,mw]
theorem SA {P:Program} {f:FuncId} {fn:Func} {ty e:TypeId} {z:Nat} (hf:P.funcs[f]? = some fn) (hb:fn.body=some (uz ty)) (hr:fn.results.toList=[.tmp 2]) (hN:fn.ntmps=8) (hs:bE P ty=some (e,z)) (hz:nH P e=some z)
  {D:List (List AV)} (h0:D≠[]) (hn:cq (fun _=>false) D=true) (M:D.length*de P e<=140737488355328) (hm:D.length<=9223372036854775807) (n:Nat) (h:Hp):CY P n f [.ro z D false] h (.ro z D false) []:=by
 have hA:b8 (fun _=>false) (.ro z D false)=true:=hn
 refine Jd hf hb (by rw[hN];show 1<=8;decide) (by simp only[a4,hA,Bool.and_self]) hA (fun ac hE _ _ => ?_) n h
 rw[hr]
 exact Sx (b:=false) (by rw[hE,hN]) hs hz (aiX hs h0) (fun h=>by cases h) fun _=>⟨D,by simp only[er,if_true],M,hm,rfl⟩
def gf (D:List (List AV)):Hp:=[((0,0),D.flatten)]
theorem adz {P:Program} {ac:Env} {ty e:TypeId} {z:Nat} (hN:ac.N=8) (hs:bE P ty=some (e,z)) (hz:nH P e=some z) {D:List (List AV)} (h0:D≠[]) (hw:∀(j:Nat) (r:List AV),D[j]? = some r->r.length=z) (hn:a4 (fun _=>false) D.flatten=true) (M:D.length*de P e<=140737488355328) (hm:D.length<=9223372036854775807) :
  AW P ac (uz ty) (RI P [.tmp 2] 1 (fun _=>(7,0)) (gf D) (aD [((0,0),some D.flatten),((1,0),some D.flatten)] (gf D)) (.sl (1,0) z 0 D.length true)) ⟨gE 0 [.sl (0,0) z 0 D.length true],gf D,2⟩:=by
 unfold uz
 refine oZ fun K hK=>tZ [] (by rw[hN];rfl) ?_
 unfold J7
 rw[jN]
 refine hK _ ?_
 refine oZ fun K hK=>oZ fun K1 LL=>tZ [] (by rw[hN];rfl) ?_
 unfold J8
 rw[jN]
 show iy P [] _ _ K1 _ _ _
 rw[jN]
 have e0:gP P (gf D) .eql ty (.sl (0,0) z 0 D.length true) (.sc (.slice none 0 0))=some (.sc (.bool false)):=by
  unfold gP
  rw[JL (fun k i h=>by cases h)]
  simp only[kA,hs,gf,ae,if_true,Option.isSome_some,mw]
 show lu P _ _ (c6 (gP P (gf D) .eql ty (.sl (0,0) z 0 D.length true) (.sc (.slice none 0 0)))) _
 rw[e0]
 refine LL _ (DJ (b:=false) rfl (fun hb=>by cases hb) (fun _ => ?_))
 refine Ja (hK _ ?_)
 refine oZ fun K2 A9=>tZ [7] (by rw[hN];rfl) ?_
 unfold J9
 rw[jN]
 have e1:nV P 5 false ty 0 []=some (.ro z [] true,[]):=by
  unfold nV
  rw[hs]
  simp only[hz,kX]
  rw[if_pos ⟨trivial,by omega,rfl,trivial⟩]
  rfl
 show lu P _ _ (lq (nV P 5 false ty 0 [])) _
 rw[e1]
 show iy P [7] _ _ K2 _ _ _
 rw[jN]
 show iy P [7] _ _ K2 _ _ _
 rw[jN]
 have e2:nQ P 7 (gf D) true ty ty (.ro z [] true) (.sl (0,0) z 0 D.length true)=some (.sl (7,0) z 0 D.length true,[((7,0),some D.flatten)]):=by
  unfold nQ
  rw[hs]
  have ee:er (gf D) z (.sl (0,0) z 0 D.length true)=some D:=by
   simp only[er,gf,ae,if_true,Option.bind_some]
   rw[if_pos ⟨trivial,by rw[gS _ hw];omega⟩,List.drop_zero,Ah _ _ hw (Nat.le_refl _),List.take_of_length_le (Nat.le_refl _)]
  simp only[hz,ee,and_self,if_true,jm,jn,nP]
  rw[if_pos ⟨by simpa using M,by simpa using hm,fun _=>h0⟩]
  simp
 show lu P _ _ (lq (nQ P 7 (gf D) true ty ty (.ro z [] true) (.sl (0,0) z 0 D.length true))) _
 rw[e2]
 show iy P [7] _ _ K2 _ _ _
 rw[jN]
 refine A9 _ (DK ⟨.inl rfl,?_,fun m cs u hp => ?_⟩)
 ·rfl
 ·have e3:∀m,ae (aD [((0,0),some D.flatten),((1,0),some D.flatten)] (gf D)) m=if m=(1,0)then some D.flatten else if m=(0,0)then some D.flatten else none:=fun m=>by
   simp only[aD,dI,gf,ae]
   by_cases A:m=(1,0)
   ·subst A;simp
   ·by_cases E:m=(0,0)
    ·subst E;simp
    ·simp[A,E,Ne.symm A,Ne.symm E]
  rw[e3]at u
  by_cases A:m=(1,0)
  ·subst A
   rw[if_pos rfl]at u
   cases u
   rw[lB _ _ hn]
   show ae (aD [((7,0),some D.flatten)] (gf D)) (7,0)=_
   simp[aD,dI]
  ·rw[if_neg A]at u
   by_cases E:m=(0,0)
   ·subst E
    rw[if_pos rfl]at u
    cases u
    rw[lB _ _ hn]
    show ae (aD [((7,0),some D.flatten)] (gf D)) (0,0)=_
    simp[aD,dI,gf,ae]
   ·rw[if_neg E]at u;cases u
theorem adC {P:Program} {f:FuncId} {fn:Func} {ty e:TypeId} {z:Nat} (hf:P.funcs[f]? = some fn) (hb:fn.body=some (uz ty)) (hr:fn.results.toList=[.tmp 2]) (hN:fn.ntmps=8) (hs:bE P ty=some (e,z)) (hz:nH P e=some z)
  {D:List (List AV)} (h0:D≠[]) (hw:∀(j:Nat) (r:List AV),D[j]? = some r->r.length=z) (hn:a4 (fun _=>false) D.flatten=true) (M:D.length*de P e<=140737488355328) (hm:D.length<=9223372036854775807):CY P 1 f [.sl (0,0) z 0 D.length true] (gf D) (.sl (1,0) z 0 D.length true) [((0,0),some D.flatten),((1,0),some D.flatten)]:=by
 have nmono:∀(p:Nm->Bool) (l:List AV),a4 (fun _=>false) l=true->a4 p l=true:=fun p l h=>pD (p:=fun _=>false) (q:=p) (fun m hm=>by cases hm) l h
 have k9:∀m,ae (gf D) m=if m=(0,0)then some D.flatten else none:=fun m=>by
  by_cases E:m=(0,0)
  ·subst E;simp[gf,ae]
  ·simp[gf,ae,E,Ne.symm E]
 have g1:∀m,ae (aD [((0,0),some D.flatten),((1,0),some D.flatten)] (gf D)) m=if m=(1,0)then some D.flatten else if m=(0,0)then some D.flatten else none:=fun m=>by
  simp only[aD,dI]
  by_cases A:m=(1,0)
  ·subst A;simp
  ·by_cases E:m=(0,0)
   ·subst E;simp
   ·simp[A,E,Ne.symm A,Ne.symm E,k9]
 have one:∀k,(ae (aD [((0,0),some D.flatten),((1,0),some D.flatten)] (gf D)) (1,k)).isSome=true->k=0:=fun k h=>by
  rw[g1]at h
  by_cases u:k=0
  ·exact u
  ·rw[if_neg (by simp[u]),if_neg (by simp)]at h;cases h
 refine RB (fun _=>(7,0)) hf hb (by rw[hN];show 1<=8;decide) (fun m cs h=>h) (fun m cs h => ?_) rfl (fun m hm => ?_) (fun m hm => ?_) rfl (fun m cs hm hp => ?_) (fun k u=>by show 1<7;decide) (fun j k O u _=>by rw[one j O,one k u]) (fun ac hE=>by
  rw[hr]
  exact adz (by rw[hE,hN]) hs hz h0 hw hn M hm)
 ·rw[k9]at h
  split at h
  ·rename_i e;subst e;cases h
   exact⟨by decide,nmono _ _ hn⟩
  ·cases h
 ·simp only[List.map_cons,List.map_nil,List.mem_cons,List.not_mem_nil,or_false]at hm
  rcases hm with rfl | rfl
  ·exact .inr (by rw[k9];rfl)
  ·exact .inl rfl
 ·rw[k9]at hm
  split at hm
  ·rename_i e;subst e;simp
  ·cases hm
 ·rw[g1]at hm
  split at hm
  ·cases hm;exact nmono _ _ hn
  ·split at hm
   ·cases hm;exact nmono _ _ hn
   ·cases hm
end Go.Proofs.YtpdfmnhgocpkcaaGreat
namespace Go.Proofs.Xw
open Go Go.Proofs.Aw
theorem kL {P:Program} {ρ:aa} {N:Nat} {body:Code} {ti:Nat->Option TI} {call:bB} {ms:List Nat} {bN:List bf} {fuel k0 n aB:Nat} {nz:List Nat} {kt:Nat×List Tk} {i:Nat} {cs:List dm} {S So:XS} {B:J} (hm:P.follows .mixedOrders=true) (a_:eL.ok P ti)
  (aP:cS P ρ call) (lh:a1 P ρ N bN body) (d7:da N body=true) (u:J.ok ρ B) {ks:List Nat}
  (bD:dC k0 n aB nz kt i cs So .normal B ((ck ti call ms k0 bN fuel body B S).map (dV ks))=true) :
  ∃(j:Nat) (C:dm) (F:aa),cs[j]? = some C/\ea P N body k0 S C.S ρ F/\J.ok F C.bS/\F.i aB=IntKind.i64.wrap (ρ.i aB+1)/\az n ρ F/\(dX kt.1 kt.2 ρ->dX kt.1 kt.2 F)/\(C.di=[]\/∃a∈C.di,a.fr=i/\gI a ρ F):=by
 obtain⟨e,s,aS,A,E,h3⟩:=vV _ _ bD u
 obtain⟨p,hq,G⟩:=T.je _ A
 have q1:e=p.1:=congrArg Prod.fst G
 have q2:s=(dV ks p).2:=congrArg Prod.snd G
 rcases h3 with⟨hn,hf⟩ | ⟨hx,hn,hf⟩
 ·obtain⟨j,C,g1,g2⟩:=Lr hf
  simp only[E4,Bool.and_eq_true]at g2
  obtain⟨g2,gt,g3,g4,g5⟩:=g2
  generalize FF:Ov C.S (s.gB aS nz)=nm at g2 gt g3 g4 g5
  generalize kj:(s.gB aS nz).zA nm C.S.h=s1 at g2 gt g3 g4 g5
  generalize agz:p0 nm s1.h C.S.h=DH at g2 gt g3 g4 g5
  generalize agw:JN n nm DH C.S s1=β at g2 gt g3 g4 g5
  have Z:=g2
  simp only[rf,Bool.and_eq_true]at Z
  refine⟨j,C,β.cD DH ρ,g1,fun ac hE bI => ?_,Y7 E g3,?_,Bind.uk Z.2.1 Z.1 ρ,fun ht => ?_,?_⟩
  ·have g:=jY (ac:=ac) hm a_ aP bI body B _ p.1 p.2 u (by rw[hE];exact d7) (by rw[hE];exact lh) hq
   refine dE (fun e' s' W=>⟨?_,?_⟩) g
   ·rw[W.1,<-q1,hn]
   ·have i:=fp W.2 (zk ks ρ p)
    rw[<-q2]at i
    have l:=(XS.Q1 ρ nm C.S.h (s.gB aS nz)).trans (XS.WZ E nz s)
    rw[kj]at l
    exact vn (fp i l) (Cr bI g2 ρ)
  ·unfold M2 at g4
   split at g4
   ·rename_i e' hI
    have:=U.beq_eq _ _ g4
    subst this
    show(match be aB β.i with | some e=>e.I ρ | none=>ρ.i aB)=_
    rw[hI]
    simp only[U.I,a7.I]
   ·cases g4
  ·rw[Bool.or_eq_true]at gt
   rcases gt with gt | gt
   ·have:=List.isEmpty_iff.1 gt
    intro j k t _ aM
    rw[this]at aM
    simp at aM
   ·exact ZU E gt ht
  ·rw[Bool.or_eq_true]at g5
   rcases g5 with g5 | g5
   ·left;exact List.isEmpty_iff.1 g5
   ·right
    obtain⟨a,ha,g6⟩:=List.any_eq_true.1 g5
    simp only[Bool.and_eq_true]at g6
    exact⟨a,ha,Nat.eq_of_beq_eq_true g6.1,Alt.T2 E g6.2.1 g6.2.2⟩
 ·exact absurd hx hn
theorem ahV {P:Program} {N:Nat} {body:Code} {k0 n:Nat} {S0:XS} (hS:S0.ar n=true) (Ss:Nat->XS) (L:Nat->bf) (hL:∀i,(L i).k0=k0/\(L i).S=S0/\(L i).init=gj) (aF Q:Nat->aa->Prop) (dl:aa->Nat)
  (hR:∀i ρ,aF i ρ->(Q i ρ/\jj P N body k0 (Ss i) (L i).out ρ)\/∃i' F,ea P N body k0 (Ss i) (Ss i') ρ F/\aF i' F/\dl F<dl ρ/\az n ρ F)
  {ρ:aa} (h0:∃i al,az n ρ al/\aF i al/\∀ac:Aw.Env,ac.N=N->(∀m,ac.c0.kn m->m.1<k0)->dF ac (S0.I ρ) ((Ss i).I al)):∃i am,az n ρ am/\aF i am/\Q i am/\bW P am N body (L i):=by
 have key:∀(k:Nat) (i:Nat) (ρ:aa),dl ρ<=k->aF i ρ->∃i' am,az n ρ am/\aF i' am/\Q i' am/\∀ac:Aw.Env,ac.N=N->(∀m,ac.c0.kn m->m.1<k0)->∃m,jM P ac body (fun e V=>∃e' s,(L i').out.aq am=some (e',s)/\e=e'.to/\dF ac V (s.I am)) m ((Ss i).I ρ):=by
  have fin:∀i ρ,jj P N body k0 (Ss i) (L i).out ρ->∀ac:Aw.Env,ac.N=N->(∀m,ac.c0.kn m->m.1<k0)->∃m,jM P ac body (fun e V=>∃e' s,(L i).out.aq ρ=some (e',s)/\e=e'.to/\dF ac V (s.I ρ)) m ((Ss i).I ρ):=fun i ρ h ac hE hb=>by
   refine⟨1,dE (fun e V hq => ?_) (h ac hE hb)⟩
   obtain⟨e',s,A,E,rfl,h4⟩:=hq
   cases e' with
   | normal=>exact absurd rfl A
   | exit j=>exact⟨_,s,E,rfl,h4⟩
   | ret=>exact⟨_,s,E,rfl,h4⟩
  intro k
  induction k with
  | zero =>
   intro i ρ u hr
   rcases hR i ρ hr with⟨hq,h⟩ | ⟨i',F,_,_,h,_⟩
   ·exact⟨i,ρ,az.refl _ _,hr,hq,fin i ρ h⟩
   ·omega
  | succ k ih =>
   intro i ρ u hr
   rcases hR i ρ hr with⟨hq,h⟩ | ⟨i',F,A,E,h3,h5⟩
   ·exact⟨i,ρ,az.refl _ _,hr,hq,fin i ρ h⟩
   ·obtain⟨j,am,g2,A6,g3,g4⟩:=ih i' F (by omega) E
    refine⟨j,am,h5.trans g2,A6,g3,fun ac hE hb => ?_⟩
    obtain⟨m,g5⟩:=g4 ac hE hb
    refine⟨m+1,dE (fun e V hq => ?_) (A ac hE hb)⟩
    obtain⟨rfl,hi⟩:=hq
    cases m with
    | zero=>exact g5.elim
    | succ m=>exact p_ hi g5
 obtain⟨i,al,nL,hr,himp⟩:=h0
 obtain⟨j,am,g2,A6,g3,g4⟩:=key (dl al) i al (Nat.le_refl _) hr
 refine⟨j,am,nL.trans g2,A6,g3,fun ac hE hb => ?_⟩
 obtain⟨e1,e2,e3⟩:=hL j
 rw[e2,e3,WR,<-XS.aT (nL.trans g2) S0 hS]
 rw[e1]at hb
 obtain⟨m,g5⟩:=g4 ac hE hb
 exact p_ (himp ac hE hb) (DL m g5)
theorem ou {P:Program} {N:Nat} {body:Code} {k0 n:Nat} {S0:XS} (hS:S0.ar n=true) (Ss:Nat->XS) (L:bf) (hL:L.k0=k0/\L.S=S0/\L.init=gj) (aF:Nat->aa->Prop) (Q:aa->Prop) (dl:aa->Nat)
  (hR:∀i ρ,aF i ρ->(Q ρ/\jj P N body k0 (Ss i) L.out ρ)\/∃i' F,ea P N body k0 (Ss i) (Ss i') ρ F/\aF i' F/\dl F<dl ρ/\az n ρ F)
  {ρ:aa} (h0:∃i al,az n ρ al/\aF i al/\∀ac:Aw.Env,ac.N=N->(∀m,ac.c0.kn m->m.1<k0)->dF ac (S0.I ρ) ((Ss i).I al)):∃am,az n ρ am/\Q am/\bW P am N body L:=by
 obtain⟨_,am,A,_,E,h3⟩:=ahV hS Ss (fun _=>L) (fun _=>hL) aF (fun _=>Q) dl hR h0
 exact⟨am,A,E,h3⟩
end Go.Proofs.Xw
namespace Go.Proofs.Xw
open Go Go.Proofs.Aw
theorem Qe {P:Program} {ρ:aa} {N:Nat} {body:Code} {ti:Nat->Option TI} {call:bB} {ms:List Nat} {bN:List bf} {fuel k0 n:Nat} {S S' lO:XS} {s:XS} (hm:P.follows .mixedOrders=true) (a_:eL.ok P ti)
  (aP:cS P ρ call) (lh:a1 P ρ N bN body) (d7:da N body=true) {aS:J} (u:J.ok ρ aS) (hd:S.I ρ=S'.I ρ) {ks:List Nat}
  (qJ:((ck ti call ms k0 bN fuel body aS S').map (dV ks)).aq ρ=some (.normal,s)) {β:Bind} {nm:List (Nm×Nm)} (a2:ff k0 n β nm lO s=true):ea P N body k0 S lO ρ (β.ap ρ):=by
 intro ac hE bI
 obtain⟨p,hq,G⟩:=T.je _ qJ
 rw[hd]
 have g:=jY (ac:=ac) hm a_ aP bI body aS _ p.1 p.2 u (by rw[hE];exact d7) (by rw[hE];exact lh) hq
 have q1:=congrArg Prod.fst G
 have q2:=congrArg Prod.snd G
 simp only at q1 q2
 refine dE (fun e' s' W=>⟨?_,?_⟩) g
 ·rw[W.1,show p.1=XE.normal from q1.symm]
 ·have i:=fp W.2 (zk ks ρ p)
  rw[<-q2]at i
  exact vn i (jF bI a2 ρ)
end Go.Proofs.Xw
namespace Go.Proofs.YtpdfmnhgocpkcaaGreat
open Go Go.Proofs.Aw Go.Proofs.Xw
set_option maxRecDepth 100000
def uR (o:Bool) (k:Nat):Bool:=o&&((Nat.ble 19 k&&Nat.blt k 27)||Nat.ble 40 k)
def Lb (o:Bool):List X:=(List.range 42).map fun k=>if uR o k=true then X.top else .cJ 5 k (.lit 0)
def uM (o:Bool):List X:=Lb o++[.slv (0,1) 20 (.lit 0) (.len 0) true]
def KZ (o:Bool):au:=[((0,0),(uM o)),((0,1),[.tk 20 (.len 0) 0 []])]
def K3:List GK:=[⟨47,[.slv (0,0) 20 (.lit 0) (.len 0) true],[((0,0),[.tk 20 (.len 0) 0 []])],.slv (1,0) 20 (.lit 0) (.len 0) true,[((0,0),some [.tk 20 (.len 0) 0 []]),((1,0),some [.tk 20 (.len 0) 0 []])]⟩]
def AJ:List (Nat×List X×X):=[(48,[.cJ 0 3 (.var 10)],.cJ 0 3 (.var 10)),(49,[.cJ 0 10 (.var 10)],.cJ 0 10 (.var 10))]
def n7:X := .slv (7,0) 20 (.lit 0) (.len 0) true
def EY (i:X):ba:=[(12,i),(11,.sc (.i .i64 (.len 0))),(10,.top),(3,n7),(9,.top),(8,.top),(7,.top),(6,.top),(5,.top),(2,.top),(0,.ptr (0,0) [] 0)]
def K0 (o:Bool):au:=(KZ o)++[((7,0),[.tk 20 (.len 0) 0 []])]
def ET (o:Bool):XS:=⟨EY (xn 0),(K0 o),12⟩
def xr (o:Bool):XS:=⟨EY (xi 10),(K0 o),12⟩
def TG (o:Bool):XS:=⟨EY (xi 10),(K0 o),60⟩
noncomputable def so:Code:=(dP (Tryz.f16.body.getD .skip))[0]?.getD .skip
def uO:J:=[(.lt (.var 10) (.lit 0),false),(.lt (.len 0) (.var 10),false),(.lt (.lit 1000000) (.len 0),false),(.lt (.len 0) (.lit 1),false)]
def uL:U := .op .add .i64 (.var 10) (.lit 1)
def xx:J:=(.lt (.var 10) (.len 0),true)::(.lt uL (.lit 0),false)::(.lt (.len 0) uL,false)::uO
def xv:J:=(.lt (.var 10) (.len 0),false)::uO
noncomputable def uN (ks:List (Nat×List X×X)):cj:=⟨r4 ks (fun _=>[]) K3 [] [],[],[]⟩
noncomputable def K' (o:Bool) (ks:List (Nat×List X×X)) (B:J):T (XE×XS):=(ck (uN ks).c.ti (eC (uN ks) 12) (((uN ks).c.hD 16).elim [] (·.ms)) 2 [] 1000 so B (xr o)).map (dV ((EY (xi 10)).map (·.1)))
def xu:Bind:=⟨[(10,uL)],[],[],[]⟩
def TH (o:Bool):T (XE×XS)->Bool
 | .ret (.normal,s)=>ff 2 10 xu [] (xr o) s
 | _=>false
theorem aeC (o:Bool):(TH o) ((K' o) AJ xx)=true:=by cases o<;>kernel_rfl
theorem aeB (o:Bool):dC 2 10 10 [] (0,[]) 0 [] (TG o) (.exit 0) xv ((K' o) [] xv)=true:=by cases o<;>kernel_rfl
theorem TM:da Tryz.f16.ntmps so=true:=by kernel_rfl
noncomputable def AE (o:Bool):bf:=⟨(du so).getD 0,2,10,(ET o),gj,[],.ret (.exit 0,(TG o))⟩
theorem aez (o:Bool):(ET o).ar 10=true:=by cases o<;>kernel_rfl
def AG:Bind:=⟨[(10,.lit 0)],[],[],[]⟩
theorem aeD (o:Bool):ff 2 10 AG [] (xr o) (ET o)=true:=by cases o<;>kernel_rfl
structure mG (e:List AV):Prop where
 l:e.length=20
 t:∀(k:Nat) (t:Tk),eY[k]? = some t->∃v,e[k]? = some v/\t.uu v
theorem Nj:eY.length=20:=rfl
theorem Ea:∀{ks:List Kd} {e:List AV},jT ks e->a4 (fun _=>false) e=true
 | [],e,h=>by
  have h:e=[]:=h
  subst h;rfl
 | .i _::ks,e,⟨v,r,A,E⟩=>by subst A;simp only[a4,b8,Ea E,Bool.and_self]
 | .b::ks,e,⟨v,r,A,E⟩=>by subst A;simp only[a4,b8,Ea E,Bool.and_self]
 | .s::ks,e,⟨v,r,A,E⟩=>by subst A;simp only[a4,b8,Ea E,Bool.and_self]
theorem D_ {ks:List Kd}:∀{D:List (List AV)},(∀e∈D,jT ks e)->cq (fun _=>false) D=true
 | [],_=>rfl
 | e::D,h=>by simp only[cq,Ea (h e List.mem_cons_self),D_ fun x hx=>h x (List.mem_cons_of_mem _ hx),Bool.and_self]
theorem asI {t:Tk} {v:AV} (h:t.uu v):b8 (fun _=>false) v=true/\v.one=true:=by
 cases t with
 | f k =>
  cases k with
  | i K=>obtain⟨x,r,A,E⟩:=h;cases A;exact⟨rfl,rfl⟩
  | b=>obtain⟨x,r,A,E⟩:=h;cases A;exact⟨rfl,rfl⟩
  | s=>obtain⟨x,r,A,E⟩:=h;cases A;exact⟨rfl,rfl⟩
 | r z ks =>
  obtain⟨D,rfl,_,E⟩:=h
  exact⟨D_ E,rfl⟩
theorem mG.get {e:List AV} (h:mG e) {k:Nat} (u:k<20):∃v,e[k]? = some v/\b8 (fun _=>false) v=true/\v.one=true:=by
 obtain⟨v,A,E⟩:=h.t k _ (List.getElem?_eq_getElem (by rw[Nj];exact u))
 exact⟨v,A,asI E⟩
noncomputable def iH (cs:List AV) (D:List (List AV)):aa:=⟨fun _=>0,fun _=>false,fun _=>⟨#[]⟩,fun _=>D.length,fun _ _ _=>0,fun _ _ _=>false,fun _ _ _=>⟨#[]⟩,fun l k j=>if l=0 then rL (((D[j]?).bind (·[k]?)).getD (.sc (.bool false)))else rL ((cs[k]?).getD (.sc (.bool false)))⟩
theorem K9 {cs:List AV} {D:List (List AV)} (h:∀e∈D,mG e) {j k:Nat} {e:List AV} {v:AV} (G:D[j]? = some e) (R:e[k]? = some v):((iH cs D).ct 0 k j).1=v:=by
 have hr:=h e (List.mem_of_getElem? G)
 have u:k<20:=by
  have:=(List.getElem?_eq_some_iff.1 R).1
  rw[hr.l]at this;exact this
 obtain⟨v',A,E,h3⟩:=hr.get u
 rw[R]at A;cases A
 show(if(0:Nat)=0 then rL (((D[j]?).bind (·[k]?)).getD (.sc (.bool false)))else rL ((cs[k]?).getD (.sc (.bool false)))).1=v
 rw[if_pos rfl,G,Option.bind_some,R,Option.getD_some,Ix E h3]
theorem aew {cs:List AV} {D:List (List AV)} (h:∀e∈D,mG e):bC (iH cs D) 20 (.len 0) 0=D:=by
 apply List.ext_getElem?
 intro j
 by_cases O:j<D.length
 ·rw[Pz (by show(j:Int)<(D.length:Int);omega),List.getElem?_eq_getElem O]
  congr 1
  have hr:=h D[j] (List.getElem_mem O)
  apply List.ext_getElem?
  intro k
  by_cases u:k<20
  ·obtain⟨v,A,_⟩:=hr.get u
   rw[List.getElem?_map,List.getElem?_range u,A,Option.map_some,K9 h (List.getElem?_eq_getElem O) A]
  ·rw[List.getElem?_eq_none (by rw[List.length_map,List.length_range];omega),List.getElem?_eq_none (by rw[hr.l];omega)]
 ·rw[List.getElem?_eq_none (by rw[we];show((D.length:Int)).toNat<=j;omega),List.getElem?_eq_none (by omega)]
theorem adA {ss:List (List AV)} (h:∀e∈ss,jT [.s] e) (M:ss.length<=1000) (n:Nat) (hp:Hp):CY Tryz.prog n 48 [.ro 1 ss false] hp (.ro 1 ss false) []:=by
 cases hs:ss with
 | nil=>exact Sq.2 false n hp
 | cons a b =>
  rw[<-hs]
  exact SA (fn:=Tryz.f48) (ty:=25) (e:=9) Tryz.func48 rfl rfl rfl (by kernel_rfl) (by kernel_rfl) (by rw[hs];exact List.cons_ne_nil _ _) (D_ h) (by rw[show de Tryz.prog 9=16 by kernel_rfl];omega) (by omega) n hp
theorem adB {ss:List (List AV)} (h:∀e∈ss,jT fc e) (M:ss.length<=1000) (n:Nat) (hp:Hp):CY Tryz.prog n 49 [.ro 22 ss false] hp (.ro 22 ss false) []:=by
 cases hs:ss with
 | nil=>exact Su.2 false n hp
 | cons a b =>
  rw[<-hs]
  exact SA (fn:=Tryz.f49) (ty:=67) (e:=74) Tryz.func49 rfl rfl rfl (by kernel_rfl) (by kernel_rfl) (by rw[hs];exact List.cons_ne_nil _ _) (D_ h) (by rw[show de Tryz.prog 74=200 by kernel_rfl];omega) (by omega) n hp
end Go.Proofs.YtpdfmnhgocpkcaaGreat
