/- Parts of the proof, one behind the other. -/
import Derived.Test.YtpdfmnhgocpkcaaGreatTM2
import Derived.Test.YtpdfmnhgocpkcaaGreatXwM3
import Derived.Test.YtpdfmnhgocpkcaaGreatXwM4
import Derived.Test.YtpdfmnhgocpkcaaGreatAwM2
namespace Go.Proofs.YtpdfmnhgocpkcaaGreat
open Go Go.Proofs.Aw Go.Proofs.Xw
set_option maxRecDepth 100000
def J6 (ty : TypeId) : List Oper := [⟨some 2, .assign (.const (.slice none 0 0)), ty, "slices.go:355", #[], none⟩]
def J7 (ty : TypeId) : List Oper := [⟨some 3, .move (.tmp 0), ty, "slices.go:357", #[], none⟩, ⟨some 4, .binOp .eql ty (.tmp 3) (.const (.slice none 0 0)) ty, 4, "slices.go:357", #[⟨0, .data⟩], none⟩]
def Su (ty : TypeId) : List Oper := [⟨some 2, .assign (.const (.slice none 0 0)), ty, "slices.go:358", #[], none⟩]
def J8 (ty : TypeId) : List Oper := [⟨some 5, .buildSlice ty 0 #[], ty, "slices.go:362", #[], none⟩, ⟨some 6, .move (.tmp 0), ty, "slices.go:362", #[], none⟩,
 ⟨some 7, .call ⟨.builtin .append, #[.tmp 5, .tmp 6], #[ty, ty]⟩, ty, "slices.go:362", #[⟨0, .data⟩, ⟨1, .data⟩], none⟩,
 ⟨some 2, .assign (.tmp 7), ty, "slices.go:362", #[⟨2, .data⟩, ⟨2, .chain⟩, ⟨0, .phase⟩, ⟨1, .phase⟩, ⟨2, .phase⟩], none⟩]
def uA (ty:TypeId):Code :=
 .seq (.region 0 (J6 ty).toArray false) (.seq (.seq (.region 1 (J7 ty).toArray false) (.cond (.tmp 4) (.seq (.region 2 (Su ty).toArray false) .ret) .skip)) (.seq (.region 3 (J8 ty).toArray false) .ret))
theorem Sv {P:Program} {ac:Env} {ty e:TypeId} {z:Nat} {v r:AV} {b:Bool} (hN:ac.N=8) (hs:bE P ty=some (e,z)) (hz:nE P e=some z) (hn:gO P [] .eql ty v (.sc (.slice none 0 0))=some (.sc (.bool b)))
  (A:b=true->r = .sc (.slice none 0 0)) (E:b=false->∃fs,et [] z v=some fs/\fs.length*de P e<=140737488355328/\fs.length<=9223372036854775807/\r = .ro z fs false) :
  AW P ac (uA ty) (DW P [.tmp 2] r) ⟨gD 0 [v],[],0⟩:=by
 unfold uA
 refine oY fun K hK=>t_ [] (by rw[hN];rfl) ?_
 unfold J6
 rw[jN]
 refine hK _ ?_
 refine oY fun K hK=>oY fun K1 LK=>t_ [] (by rw[hN];rfl) ?_
 unfold J7
 rw[jN]
 show iy P [] _ _ K1 _ _ _
 rw[jN]
 show lu P _ _ (c6 (gO P [] .eql ty v (.sc (.slice none 0 0)))) _
 rw[hn]
 refine LK _ (DJ (b:=b) rfl (fun hb => ?_) (fun hb => ?_))
 ·refine oY fun K2 A6=>t_ [] (by rw[hN];rfl) ?_
  unfold Su
  rw[jN]
  refine A6 _ (DK ?_)
  refine⟨.inl rfl,?_⟩
  rw[A hb]
  rfl
 ·refine Jb (hK _ ?_)
  obtain⟨fs,g1,g2,g3,g4⟩:=E hb
  refine oY fun K2 A6=>t_ [] (by rw[hN];rfl) ?_
  unfold J8
  rw[jN]
  have e1:nR P 3 false ty 0 []=some (.ro z [] true,[]):=by
   unfold nR
   rw[hs]
   simp only[hz,kX]
   rw[if_pos ⟨trivial,by omega,rfl,trivial⟩]
   rfl
  show lu P _ _ (lq (nR P 3 false ty 0 [])) _
  rw[e1]
  show iy P [] _ _ K2 _ _ _
  rw[jN]
  show iy P [] _ _ K2 _ _ _
  rw[jN]
  have e2:nN P 5 [] false ty ty (.ro z [] true) v=some (.ro z fs false,[]):=by
   unfold nN
   rw[hs]
   simp only[hz,g1,and_self,if_true,jk,jl,nM]
   rw[if_pos ⟨by simpa using g2,by simpa using g3,fun h=>nomatch h⟩]
   rfl
  show lu P _ _ (lq (nN P 5 [] false ty ty (.ro z [] true) v)) _
  rw[e2]
  show iy P [] _ _ K2 _ _ _
  rw[jN]
  refine A6 _ (DK ⟨.inl rfl,?_⟩)
  rw[g4]
  rfl
theorem JK {P:Program} {ty:TypeId} {v:AV} (h:∀k i,v ≠ .sc (.int k i)):gn P .eql ty v (.sc (.slice none 0 0))=none:=by
 unfold gn
 split<;>simp_all
theorem Sx {P:Program} {f:FuncId} {fn:Func} {ty e:TypeId} {z:Nat} (hf:P.funcs[f]? = some fn) (hb:fn.body=some (uA ty)) (hr:fn.results.toList=[.tmp 2]) (hN:fn.ntmps=8) (hB:cf P f=true) (hs:bE P ty=some (e,z)) (hz:nE P e=some z):ub P (f,z):=by
 refine⟨hB,fun full n h => ?_⟩
 have run:∀(ab:Option Addr) (cap:Nat) (r:AV),b8 (fun _=>false) r=true->(ab.isNone=true->r = .sc (.slice none 0 0))->(ab.isNone=false->r = .ro z [] false)->CY P n f [.sc (.slice ab 0 cap)] h r []:=fun ab cap r mg A E =>
  Je hf hb (by rw[hN];show 1<=8;decide) rfl mg (fun ac hE _ _=>by
   rw[hr]
   refine Sv (b:=ab.isNone) (by rw[hE,hN]) hs hz ?_ A fun hb=>⟨[],rfl,by simp,by simp,E hb⟩
   unfold gO
   rw[JK (fun k i h=>by cases h)]
   simp only[kA,hs,mw]) n h
 intro C vs W hL hn
 obtain⟨Y,us,rfl,hu,fG⟩:=hL
 simp only[aC]at fG
 subst fG
 obtain⟨ab,cap,rfl,A,E,_⟩:=hk.1 hu
 have UB:aC C [.sc (.slice ab 0 cap)] [.slice ab 0 cap]:=⟨_,_,rfl,rfl,rfl⟩
 cases ab with
 | none =>
  refine(run none cap (.sc (.slice none 0 0)) rfl (fun _=>rfl) (fun h=>by cases h) C _ W UB hn).mono ?_
  rintro e' w' ⟨Y,C',h3,h4,hp⟩
  have R:Y = .slice none 0 0:=hp.val
  exact⟨Y,C',h3,h4,{ hp with val:=hk.2 ⟨none,0,R,Nat.le_refl _,fun h=>(nomatch h),fun h=>absurd rfl h⟩ }⟩
 | some a=>exact run (some a) cap (.ro z [] false) rfl (fun h=>by cases h) (fun _=>rfl) C _ W UB hn
theorem Sp:ub Tryz.prog (48,1):=Sx (fn:=Tryz.f48) (ty:=25) (e:=9) Tryz.func48 rfl rfl rfl (by kernel_rfl) (by kernel_rfl) (by kernel_rfl)
theorem Sq:ub Tryz.prog (49,22):=Sx (fn:=Tryz.f49) (ty:=67) (e:=74) Tryz.func49 rfl rfl rfl (by kernel_rfl) (by kernel_rfl) (by kernel_rfl)
def cls:List (Nat×Nat):=[(48,1),(49,22)]
theorem J9:∀k∈cls,ub Tryz.prog k:=List.forall_mem_cons.2 ⟨Sp,List.forall_mem_cons.2 ⟨Sq,List.forall_mem_nil _⟩⟩
end Go.Proofs.YtpdfmnhgocpkcaaGreat
namespace Go.Proofs.YtpdfmnhgocpkcaaGreat
open Go Go.Proofs.Aw Go.Proofs.Xw
set_option maxRecDepth 100000
def xi (v:Nat):X := .sc (.i .i64 (.var v))
def xb (v:Nat):X := .sc (.b (.var v))
def xs (v:Nat):X := .sc (.s (.var v))
def xl (b:Bool):X := .sc (.b (.lit b))
def xn (n:Int):X := .sc (.i .i64 (.lit n))
def vi (k n:Nat):List X:=(List.range n).map fun j=>xi (k+j)
def fA (k n:Nat) (r:AL):AL:=(List.range n).foldr (fun j r => .i (.var (k+j)) r) r
def h9 (k:Nat):AL:=fA k 10 (.b (.var (k+10)) (.i (.var (k+11)) (.i (.var (k+12)) .nil)))
def iE (k:Nat):List X:=vi k 10++[xb (k+10)]++vi (k+11) 2
def kP (k:Nat):AL:=fA k 6 (.s (.var (k+6)) (.s (.var (k+7)) (.b (.var (k+8)) (fA (k+9) 11 .nil))))
def qt (k:Nat):List X:=vi k 6++[xs (k+6),xs (k+7),xb (k+8)]++vi (k+9) 11
def tf (a b:Nat):X := .sc (.c (.var a) (.lit false) (.var b) (.lit false))
def zu (k j:Nat) (a:AL):X := .sc (.i .i64 (.uf k j a))
def aaa (k:Nat) (a:AL):X := .sc (.b (.eq (.uf k 0 a) (.lit 1)))
def aab (k:Nat) (a:AL):X := .sc (.c (.uf k 0 a) (.lit false) (.uf k 1 a) (.lit false))
def iW (e:U) (lo hi:Int):BE := .and (.not (.lt e (.lit lo))) (.not (.lt (.lit hi) e))
def RP:AL := .s (.var 0) (.i (.var 1) .nil)
def O8:BE := .and (.not (.lt (.lit 1000000) (.ch (.var 0)))) (iW (.var 1) 1 3)
def PR (f:Nat):Sm:=⟨f,[xs 0,xi 1],zu 0 0 RP,O8⟩
def CO (f:Nat):Sm:=⟨f,[.agg (iE 0)],aaa 1 (h9 0),.lit true⟩
def PU (f:Nat):Sm:=⟨f,[.agg (qt 0)],aaa 2 (kP 0),.lit true⟩
def PS (f:Nat):Sm:=⟨f,[.ro 20 [qt 0] false],.agg ((List.range 9).map fun j=>zu 3 j (kP 0)),.eq (.uf 2 0 (kP 0)) (.lit 1)⟩
def Gu:X := .agg ((List.range 9).map fun j => .sc (.i .i64 (.op .max .i64 (.op .max .i64 (.lit 0) (.var j)) (.var (9+j)))))
def H6:Sm:=⟨29,[.ro 9 [vi 0 9,vi 9 9] false],Gu,.lit true⟩
def H9:Sm:=⟨113,[.agg (vi 0 9),.agg (vi 9 9)],Gu,.lit true⟩
def PQ (f:Nat):Sm:=⟨f,[xi 0,xi 1,xi 2],aab 4 (fA 0 3 .nil),.and (iW (.var 0) 0 2) (.and (iW (.var 1) 0 2) (iW (.var 2) 0 3))⟩
def PM (f:Nat):Sm:=⟨f,[xi 0,xi 1],aab 5 (fA 0 2 .nil),.and (iW (.var 0) 0 2) (iW (.var 1) 0 3)⟩
def CN (f:Nat):Sm:=⟨f,[tf 0 1,tf 2 3],zu 6 0 (fA 0 4 .nil),.and (iW (.var 0) (-16384) 16384) (.and (iW (.var 1) (-16384) 16384) (.and (iW (.var 2) (-16384) 16384) (iW (.var 3) (-16384) 16384)))⟩
def H5 (f:Nat):Sm:=⟨f,[.agg (iE 0)],.sc (.i .i64 (.ite (.eq (.uf 1 0 (h9 0)) (.lit 1)) (.var 2) (.lit (-1)))),.lit true⟩
def PN (f:Nat):Sm:=⟨f,[.agg (iE 0)],zu 7 0 (h9 0),.lit true⟩
def Xz (n:Nat):BE:=(List.range (2*n+2)).foldr (fun k b => .and (iW (.var k) (-16384) 16384) b) (.lit true)
def PO (f n:Nat):Sm:=⟨f,[tf 0 1,.ro 1 ((List.range n).map fun k=>[tf (2*k+2) (2*k+3)]) false],zu 8 0 (fA 0 (2*n+2) .nil),Xz n⟩
def h2:List Sm:=[PR 33,PR 104,CO 97,CO 105,PU 28,PU 81,PS 24,PS 114,H6,H9,PQ 36,PQ 108,PM 34,PM 110,CN 35,CN 135,H5 27,H5 77,PN 94,PN 107]++([1,2,3,4].map (PO 92)++[1,2,3,4].map (PO 109))
end Go.Proofs.YtpdfmnhgocpkcaaGreat
namespace Go.Proofs.YtpdfmnhgocpkcaaGreat
open Go Go.Proofs.Aw Go.Proofs.Xw
set_option maxRecDepth 100000
def kI:Nk := .f (.i .i64)
def yk:Nk := .f .s
def yj:Nk := .f .b
def pr:List Nk:=[kI,kI,.r 1 194 [.s],yk,kI,kI,kI,kI,kI,kI,kI,kI,kI,kI,kI,kI,kI,kI,kI,kI,kI,kI,kI,kI,kI,kI,kI,kI,kI,yj,kI,kI,kI,kI,kI,kI,kI,kI,yk,yk,yj,kI,kI,kI,kI,kI,kI,kI,kI,kI,kI,kI,yj,yk,yk,yj,yj,kI,kI,kI,kI,kI,kI,kI,kI,kI,kI,kI,kI,kI,kI,kI,kI,kI,kI,kI,kI,kI,kI]
def fS:X := .rn 79 (.len 2) 2 pr false
noncomputable def NL:Nat->List bj:=fun f=>if Nat.beq f 14=true then [BD ((dt (((dP (Tryz.f14.body.getD .skip))[0]?).getD .skip)).getD 0) 13 36]else []
def Gq:List X:=vi 0 4
def cm (e:Nm):X := .slv e 20 (.lit 0) (.len 460) true
def k6:List X:=[.tk 20 (.len 460) 460 []]
def QD (n:Nat):List X:=List.replicate n .top
def WG:X := .k (.pointer none)
def Sd (busy asked:Bool) (ks fP tx:X) (ev:X):List X :=
 Gq++[xi 4,xi 401,xi 402]++[xi 403,xi 404]++vi 405 9++[xl busy]++(if busy=true then [xi 414,ks,xs 450,xi 415,xi 416,xi 417,xl asked,xb 441]else QD 8)++iE 418++(if busy=true then [fP,tx]else [.top,.top])++[ev]
def SQ (busy asked:Bool) (ks at_ tx:X) (ev:X):List X :=
 Gq++[xi 4,xi 401,xi 402,xi 404]++vi 405 9++[xl busy]++(if busy=true then [xi 414,ks,xs 450,xi 415,tx,at_]else QD 6)++[xi 403]++(if busy=true then [xi 416,xi 417,xl asked,xb 441]else QD 4)++iE 418++[ev,.top]
def hp (p q e:Nat) (busy asked:Bool) (ahb kd fP at_ tx ty:X) (h:au):au:=[((p,0),Sd busy asked ahb fP tx (cm (e,0))),((e,0),k6),((q,0),SQ busy asked kd at_ ty (cm (e,1))),((e,1),k6)]++h
def F4:X := .rl 1 (.len 470) (.var 470 [.s]) false
def rgX:X:=zu 0 0 (.s (.cl 470 0 (.lit 0)) (.i (.var 1) .nil))
def arP (p q sc aqZ aq3:Nat) (r:ba):ba:=[(sc,.ptr (p,0) [] 0),(aqZ,.ptr (q,0) [] 0),(aq3,xi 400)]++r
def dh:J:=[(.lt (.var 0) (.lit 1),false),(.lt (.lit 3) (.var 0),false),(.lt (.var 1) (.lit 1),false),(.lt (.lit 3) (.var 1),false),(.lt (.var 4) (.lit 0),false),(.lt (.lit 3) (.var 4),false),(.lt (.lit 250) (.len 2),false)]
def n7:J:=dh++[(.lt (.var 400) (.lit 0),false),(.lt (.len 2) (.var 400),false),(.lt (.var 401) (.lit 0),false),(.lt (.var 401) (.var 0),true),(.lt (.lit 2) (.var 401),false),(.lt (.var 404) (.lit 0),false),(.lt (.var 402) (.lit 0),false),(.lt (.lit 1099511627776) (.var 402),false),(.lt (.var 400) (.len 460),false),(.lt (.len 460) (.lit 1),false)]
def F5:J:=[(.lt (.var 414) (.lit 1),false),(.lt (.lit 3) (.var 414),false),(.eq (.len 470) (.lit 1),true),(.lt (.lit 16) (.ch (.cl 470 0 (.lit 0))),false)]
def aqR (p q e:Nat) (t:ba):XS:=⟨t,hp p q e false false .top .top .top .top .top .top [],e+1⟩
def YM (asked:Bool) (p q e:Nat) (t:ba):XS:=⟨t,hp p q e true asked F4 F4 rgX .top WG .top [],e+1⟩
def i1:U := .op .add .i64 (.var 400) (.lit 1)
def hyR:BE×J:=(.and (.lt (.var 400) (.len 2)) (.and (.not (.lt (.lit 250) (.len 2))) (.and (.not (.lt (.var 400) (.lit 0))) (.not (.lt (.var 400) (.len 460))))),
 [(.lt i1 (.lit 0),false),(.lt (.len 2) i1,false),(.lt i1 (.len 460),false),(.lt i1 (mkAdd (.len 460) (.lit 1)),false),(.lt i1 (.lit 1),false),(.lt (.lit 300) (.len 460),false)])
def ja:List Nat:=[0,0,0,1,0,0,0,0,0,0,22,0,0,0,0,0,0,0,0,0]
end Go.Proofs.YtpdfmnhgocpkcaaGreat
namespace Go.Proofs.YtpdfmnhgocpkcaaGreat
open Go Go.Proofs.Aw Go.Proofs.Xw
set_option maxRecDepth 100000
def cA (k:Nat):U := .cl 2 k (.var 400)
def cM (k:Nat):U := .cl 2 (5+k) (.var 400)
def bV (k:Nat):BE := .cl 2 (5+k) (.var 400)
def ai (e:U) (n:Int):BE := .eq e (.lit n)
def bT (e:U) (n:Int):BE := .lt e (.lit n)
def mb (e:U) (n:Int):BE := .lt (.lit n) e
def VN:TE := .cl 194 0 (.cl 2 2 (.var 400))
def wz:TE := .cl 2 3 (.var 400)
def up (k:Nat):U := .op .add .i64 (.var k) (.lit 1)
def mI:AL:=(List.range 10).foldr (fun j r => .i (cM (14+j)) r) (.b (bV 24) (.i (cM 25) (.i (cM 26) .nil)))
def dq:AL:=(List.range 6).foldr (fun j r => .i (cM (27+j)) r) (.s (.cl 2 38 (.var 400)) (.s (.cl 2 39 (.var 400)) (.b (bV 35) ((List.range 11).foldr (fun j r => .i (cM (36+j)) r) .nil))))
def ML:BE×J:=(.seq wz (.lit ⟨#[]⟩),[(mb (.ch wz) 32,false)])
def MH (a:AL) (g:Nat->U):BE×J:=(.eq (.uf 1 0 a) (.lit 1),[(bT (g 1) 1,false),(mb (g 1) 4,false),(bT (g 2) 0,false),(mb (g 2) 3,false)])
def x8 (a:AL) (g:Nat->U) (n:Nat):BE×J:=(.and (.eq (.uf 1 0 a) (.lit 1)) (ai (g 1) n),(List.range n).flatMap fun k=>[(bT (g (2+2*k)) 0,false),(mb (g (2+2*k)) 3,false)])
def MK:BE×J:=(.and (.not (.eq (up 431) (.var 1))) (.and (.and (.lt (.var 431) (.var 1)) (.not (.lt (.var 431) (.lit 0)))) (.not (.lt (.lit 3) (.var 1)))),[(.lt (up 431) (.var 1),true),(.lt (.lit 2) (up 431),false),(.lt (mkAdd (.var 431) (.lit 1)) (.var 1),true),(.lt (.lit 2) (mkAdd (.var 431) (.lit 1)),false),(.lt (mkAdd (.var 431) (.lit 1)) (.lit 0),false)])
def MJ:BE×J:=(.eq (up 431) (.var 1),[(.lt (up 431) (.var 1),false)])
def hyE:BE×J:=(.and (.lt (.var 400) (.len 2)) (.and (.not (.lt (.lit 250) (.len 2))) (.not (.lt (.var 400) (.lit 0)))),[(.lt i1 (.lit 0),false),(.lt (.len 2) i1,false),(.lt i1 (.lit 1),false)])
def MI:BE×J:=(.and (.lt (cA 4) (.var 0)) (.not (.lt (.lit 3) (.var 0))),[(.lt (.lit 2) (cA 4),false)])
def gM:Nat->U:=fun k=>cM (14+k)
def wm:List (BE×Bool)->DT->DT
 | [],d=>d
 | (c,true)::r,d => .br c (wm r d) .leaf
 | (c,false)::r,d => .br c .leaf (wm r d)
def OU:DT := .br (bT (.var 402) 1099511627776) .leaf .leaf
def Cq:List (BE×Bool):=[(bT (cA 1002) 1,false),(mb (cA 1002) 1,false),(bT (.ch VN) 1,false),(mb (.ch VN) 16,false)]
def arW:DT := .br (bT (up 417) 24) (.br (bT (up 416) 2) .leaf .leaf) .leaf
def s9 (fP:U) (n:Nat):U :=
 let h:AL := .i (.var 401) (.i (.var 4) .nil)
 let p:Nat->AL:=fun k => .i (.var 401) (.i fP (.i (gM (2+2*k)) .nil))
 .uf 8 0 (.i (.uf 5 0 h) (.i (.uf 5 1 h) ((List.range n).foldr (fun k r => .i (.uf 4 0 (p k)) (.i (.uf 4 1 (p k)) r)) .nil)))
def Oj (fP:U):Nat->DT
 | 1 => .leaf
 | 2 => .br (bT (s9 fP 2) 1) .leaf .leaf
 | 3 => .br (bT (s9 fP 3) 1) .leaf (.br (bT (s9 fP 3) 2) .leaf .leaf)
 | _ => .br (bT (s9 fP 4) 1) .leaf (.br (bT (s9 fP 4) 2) .leaf (.br (bT (s9 fP 4) 3) .leaf .leaf))
def mj (fP:U) (n:Nat):BE×J:=(.lit true,[(mb (s9 fP n) (n-1:Int),false)])
def byN (n:U) (f:Nat->DT):DT := .br (bT n 2) (f 1) (.br (bT n 3) (f 2) (.br (bT n 4) (f 3) (f 4)))
def getD (fP:U) (x:Nat):DT:=byN (gM 1) fun n => .kT (1+n) (.kT (x+n) (.br (bV 24) (Oj fP n) (Oj fP n)) .leaf) .leaf
def y9:U := .uf 0 0 (.s (.cl 470 0 (.lit 0)) (.i (.var 1) .nil))
def Q2 (d:DT):DT := .br (.eq (.uf 2 0 dq) (.lit 1)) d .leaf
def ad2:DT := .br (bT (.var 414) 3) (wm [(ai (cM 73) 0,true),(bV 47,true)] (Q2 (.br (bT (.var 414) 2) .leaf .leaf))) .leaf
def ahD (fP:U):DT := .br (.var 441) .leaf (wm [(ai (cM 1) 1,true),(.eq (cM 2) (.var 401),true),(.eq (cM 3) fP,true),(.eq (cM 4) (.uf 7 0 (h9 418)),true)] .leaf)
def Ol:DT := .kT 7 .leaf (.kT 6 .leaf .leaf)
def hyps:Hyp:=[ML,MH mI gM,x8 mI gM 1,x8 mI gM 2,x8 mI gM 3,x8 mI gM 4,MK,MJ,mj y9 1,mj y9 2,mj y9 3,mj y9 4,mj (.var 431) 1,mj (.var 431) 2,mj (.var 431) 3,mj (.var 431) 4,MI]
def YQ (asked:Bool) (p q e:Nat) (t:ba):XS:=⟨t,hp p q e true asked (.ro 1 [] false) (.ro 1 [] false) (xi 431) (xi 431) WG .top [],e+1⟩
def aqQ (p q e:Nat) (t:ba):XS:=⟨t,[((p,0),Sd false false .top .top .top (.k (.slice none 0 0))),((q,0),SQ false false .top .top .top (.k (.slice none 0 0)))],e+1⟩
def GI:J:=[(.lt (.var 431) (.lit 0),false),(.lt (.var 431) (.var 1),true),(.lt (.lit 2) (.var 431),false),(.eq (.var 414) (.lit 5),true)]
def Fq:J:=dh++[(.lt (.var 400) (.lit 0),false),(.lt (.len 2) (.var 400),false),(.lt (.var 401) (.lit 0),false),(.lt (.var 401) (.var 0),true),(.lt (.lit 2) (.var 401),false),(.lt (.var 404) (.lit 0),false),(.lt (.var 402) (.lit 0),false),(.lt (.lit 1099511627776) (.var 402),false)]
def adC (p q e:Nat) (t:ba):List dm:=[⟨aqQ p q e t,Fq,[]⟩,⟨aqR p q e t,n7,[]⟩,⟨YM false p q e t,n7++F5,[]⟩,⟨YM true p q e t,n7++F5,[]⟩,
 ⟨YQ false p q e t,n7++GI,[]⟩,⟨YQ true p q e t,n7++GI,[]⟩]
def X':J:=[(bT (cA 1002) 0,false),(mb (cA 1002) 250,false)]
end Go.Proofs.YtpdfmnhgocpkcaaGreat
namespace Go.Proofs.YtpdfmnhgocpkcaaGreat
open Go Go.Proofs.Aw Go.Proofs.Xw
set_option maxRecDepth 100000
def gh:List Kd:=[.i .i64,.b,.i .i64,.i .i64,.i .i64,.i .i64,.i .i64,.i .i64,.s,.s,.b,.i .i64,.i .i64,.i .i64,.i .i64,.i .i64,.i .i64,.i .i64,.i .i64,.i .i64,.i .i64,.i .i64,.i .i64,.i .i64,.i .i64]
def aY (m:Nm) (z:Nat) (n:U):X := .slv m z (.lit 0) n true
def arQ (e a rd dM:Nat):au:=[((e,a),vi 405 9++vi dM 9++[xi 1,aY (e,a+1) 1 (.len 470),aY (e,a+2) 25 (.len 470),.slv (e,a+3) 1 (.var 440) (.var 443) true,xn rd,xn 0]),
 ((e,a+1),[.rows 1 (.len 470) (.var 470 [.s])]),((e,a+2),[.rows 25 (.len 470) (.var 472 gh)]),((e,a+3),[.rows 1 (.len 474) (.var 474 [.i .i64])])]
def arO (e a rd dM:Nat):au:=[((e,a),[xi 1,aY (e,a+1) 1 (.len 470),aY (e,a+2) 25 (.len 470),.slv (e,a+3) 1 (.var 440) (.var 443) true,xn rd]++vi dM 9++[xl false,xn 0]),
 ((e,a+1),[.rows 1 (.len 470) (.var 470 [.s])]),((e,a+2),[.rows 25 (.len 470) (.var 472 gh)]),((e,a+3),[.rows 1 (.len 474) (.var 474 [.i .i64])])]
def gZ:U := .cl 474 0 (.var 440)
def tR:U := .cl 474 0 (mkAdd (.var 440) (.lit 1))
def wj:U := .uf 0 0 (.s (.cl 470 0 gZ) (.i (.var 1) .nil))
def rtX:X := .sc (.i .i64 wj)
def H8 (rd dM:Nat) (asked:Bool) (p q e:Nat) (t:ba):XS:=⟨t,hp p q e true asked F4 F4 rtX .top (.ptr (e,2) [] 0) (.ptr (e,6) [] 0) (arQ e 2 rd dM++arO e 6 rd dM),e+1⟩
def tQ:J:=[(.eq (.var 414) (.lit 4),true),(.lt (.var 443) (.lit 1),false)]
def oS:J:=[(.lt (.len 470) (.lit 1),false),(.lt (.lit 6) (.len 470),false),(.lt (.len 474) (.op .cV .i64 (.var 440) (.var 443)),false),(.lt (.var 440) (.lit 0),false),(.lt (.lit 5) (.var 440),false),(.lt (.var 440) (.len 474),true),(.lt (.var 443) (.lit 1),false),(.lt (.lit 6) (.var 443),false)]
def ko (j:U):J:=[(.lt j (.lit 0),false),(.lt j (.len 470),true),(.lt (.lit 16) (.ch (.cl 470 0 j)),false)]
def pn:BE×J:=(.and (.not (.eq (.var 443) (.lit 1))) (.not (.lt (.var 443) (.lit 1))),[(.lt (.var 443) (.lit 2),false)])
def a':Hyp:=hyps++[mj wj 1,mj wj 2,mj wj 3,mj wj 4,pn]
def eb (e:U):Sc := .i .i64 e
def mK (ag:Bool):List Sc:=[eb (.lit 0),.b (bV 47)]++(if ag=true then(List.range 6).map (fun k=>eb (cM (27+k)))++[.s (.cl 2 38 (.var 400)),.s (.cl 2 39 (.var 400)),.b (bV 35)]++(List.range 11).map (fun k=>eb (cM (36+k)))
 else List.replicate 6 (eb (.lit 0))++[.s (.lit ⟨#[]⟩),.s (.lit ⟨#[]⟩),.b (.lit false)]++List.replicate 11 (eb (.lit 0)))++[eb (cM 70),eb (cM 71),eb (cM 72)]
def b9 (ag:Bool):RL := .eL gZ (mK ag) (.var 472 gh)
def fb:List Kd:=[.s,.b]++List.replicate 6 (.i .i64)++[.s,.s,.b]++List.replicate 11 (.i .i64)
def CJ:X := .rl 22 (.len 470) (.var 630 fb) false
def F7:X := .rl 1 (.len 470) (.var 470 [.s]) false
def Qq:X := .rl 1 (.op .fN .i64 (.var 443) (.lit 1)) (.drop (.op .cV .i64 (.var 440) (.lit 1)) (.var 474 [.i .i64])) false
def LF (ag:Bool) (rd dM:Nat):au:=[((0,0),vi 405 9++vi dM 9++[xi 1,aY (0,1) 1 (.len 470),aY (0,2) 25 (.len 470),.slv (0,3) 1 (.op .cV .i64 (.var 440) (.lit 1)) (.op .fN .i64 (.var 443) (.lit 1)) true,xn rd,xn 0]),
 ((0,1),[.rows 1 (.len 470) (.var 470 [.s])]),((0,2),[.rows 25 (.len 470) (b9 ag)]),((0,3),[.rows 1 (.len 474) (.var 474 [.i .i64])])]
def Uc (ag:Bool) (rd dM:Nat):au:=[((0,0),[xi 1,aY (0,1) 1 (.len 470),aY (0,2) 25 (.len 470),.slv (0,3) 1 (.op .cV .i64 (.var 440) (.lit 1)) (.op .fN .i64 (.var 443) (.lit 1)) true,xn rd]++vi dM 9++[xl true,xn 0]),
 ((0,1),[.rows 1 (.len 470) (.var 470 [.s])]),((0,2),[.rows 25 (.len 470) (b9 ag)]),((0,3),[.rows 1 (.len 474) (.var 474 [.i .i64])])]
def sy (ag:Bool):List GK:=[⟨122,[.ptr (0,0) [] 0],LF ag 2 500,CJ,ln (LF ag 2 500)⟩,⟨116,[.ptr (0,0) [] 0],Uc ag 2 500,CJ,ln (Uc ag 2 500)⟩]
def d4 (t k a o:List X):aL:=[((0,0),some t),((0,1),some k),((0,2),some a),((0,3),some o)]
def fx (again:Bool):X:=if again=true then .slv (1,0) 1 (.lit 0) (.len 610) true else .slv (0,3) 1 (.op .cV .i64 (.var 440) (.lit 1)) (.op .fN .i64 (.var 443) (.lit 1)) true
def n6 (again:Bool):aL:=if again=true then [((1,0),some [.rows 1 (.len 610) (.var 610 [.i .i64])])]else []
def kR:List X:=[.rows 1 (.len 470) (.var 470 [.s])]
def oR:List X:=[.rows 1 (.len 474) (.var 474 [.i .i64])]
def iH (ag again:Bool):GK:=⟨120,[.ptr (0,0) [] 0],LF ag 1 405,.tup [],
 [((0,0),some (vi 405 9++vi 600 9++[xi 1,aY (0,1) 1 (.len 470),aY (0,2) 25 (.len 470),fx again,xn (if again=true then 2 else 1),xn 0])),((0,1),some kR),((0,2),some [.rows 25 (.len 470) (b9 ag)]),((0,3),if again=true then none else some oR)]++n6 again⟩
def uV:au:=[((0,0),[xi 1,aY (0,1) 1 (.len 470),aY (0,2) 25 (.len 470),.slv (0,3) 1 (.var 440) (.var 443) true,xn 1]++vi 405 9++[xl false,xn 0]),
 ((0,1),kR),((0,2),[.rows 25 (.len 470) (.var 472 gh)]),((0,3),oR)]
def ib (ag again:Bool):GK:=⟨115,[.ptr (0,0) [] 0,.agg ((mK ag).map .sc)],uV,xn 0,
 d4 ([xi 1,aY (0,1) 1 (.len 470),aY (0,2) 25 (.len 470),(if again=true then fx true else .k (.slice none 0 0)),xn (if again=true then 2 else 1)]++vi 600 9++[xl (!again),xn 0]) kR [.rows 25 (.len 470) (b9 ag)] oR++n6 again⟩
def Uf (ag:Bool):au:=[((0,0),vi 405 9++vi 600 9++[xi 1,aY (0,1) 1 (.len 470),aY (0,2) 25 (.len 470),fx false,xn 1,xn 0]),((0,1),kR),((0,2),[.rows 25 (.len 470) (b9 ag)]),((0,3),oR)]
def Ud (ag:Bool):au:=[((0,0),[xi 1,aY (0,1) 1 (.len 470),aY (0,2) 25 (.len 470),.k (.slice none 0 0),xn 1]++vi 600 9++[xl true,xn 0]),((0,1),kR),((0,2),[.rows 25 (.len 470) (b9 ag)])]
def sx (ag:Bool):List GK:=[⟨122,[.ptr (0,0) [] 0],Uf ag,CJ,ln (Uf ag)⟩,⟨116,[.ptr (0,0) [] 0],Ud ag,CJ,ln (Ud ag)⟩]
def bh:U := .cl 2 1002 (.var 400)
def om:RL := .drop (.cl 2 2 (.var 400)) (.var 194 [.s])
def zT:RL := .one ([eb (.lit 0),.b (.lit false)]++List.replicate 6 (eb (.lit 0))++[.s (.lit ⟨#[]⟩),.s (.lit ⟨#[]⟩),.b (.lit false)]++List.replicate 14 (eb (.lit 0)))
def zn:RL := .eL (.lit 0) [eb (.lit 0)] (.var 620 [.i .i64])
def GY:aL:=[((1,1),some [.rows 1 bh om]),((1,2),some [.rows 25 bh zT]),((1,3),some [.rows 1 bh zn])]
def ei (w:Bool):List GK:=[⟨51,[.agg (vi 405 9),xi 1,.rl 1 bh om w],[],.tup [.ptr (1,0) [] 0,xn 0],((1,0),some (vi 405 9++vi 405 9++[xi 1,aY (1,1) 1 bh,aY (1,2) 25 bh,aY (1,3) 1 bh,xn 1,xn 0]))::GY⟩,
 ⟨74,[.agg (vi 405 9),xi 1,.rl 1 bh om w],[],.tup [.ptr (1,0) [] 0,xn 0],((1,0),some ([xi 1,aY (1,1) 1 bh,aY (1,2) 25 bh,aY (1,3) 1 bh,xn 1]++vi 405 9++[xl false,xn 0]))::GY⟩]
def dS (w:Bool):List GK:=[⟨51,[.agg (vi 405 9),xi 1,.rl 1 bh om w],[],.tup [.top,xn 1],[]⟩,⟨74,[.agg (vi 405 9),xi 1,.rl 1 bh om w],[],.tup [.k (.pointer none),xn 1],[]⟩]
def jz:List Nat:=[405,406,407,408,409,410,411,412,413]
def mm:List Nat:=jz++[500,501,502,503,504,505,506,507,508]
def qw (ag:Bool):J:=if ag=true then [(.eq (.uf 2 0 dq) (.lit 1),true)]else [(bV 47,false)]
def wT (fr:Nat):Alt:=⟨fr,jz,[],[(440,.lit 0),(443,.len 621)],[(470,.len 621,om),(472,.len 621,zT),(474,.len 621,zn)],[(.lt (.len 621) (.lit 1),false)]⟩
def iA (fr:Nat) (ki:List Nat):Alt:=⟨fr,440::443::ki,[470,474],[],[(472,.len 470,.var 472 gh)],[]⟩
def qd (fr:Nat) (ki:List Nat) (ag:Bool):Alt:=⟨fr,ki,[470,474],[(440,.op .cV .i64 (.var 440) (.lit 1)),(443,.op .fN .i64 (.var 443) (.lit 1))],[(472,.len 470,b9 ag)],(.lt (.var 443) (.lit 2),false)::qw ag⟩
def wU (ag:Bool):Alt:=⟨7,jz,[470],(440,.lit 0)::(443,.len 610)::(List.range 9).map (fun k=>(500+k,.var (600+k))),[(474,.len 610,.var 610 [.i .i64]),(472,.len 470,b9 ag)],(.lt (.len 610) (.lit 1),false)::qw ag⟩
def adB (p q e:Nat) (t:ba):List dm:=[⟨H8 1 405 false p q e t,n7++tQ,[wT 0,wT 1,iA 6 jz,iA 7 jz,qd 7 jz false,qd 7 jz true]⟩,⟨H8 1 405 true p q e t,n7++tQ,[iA 6 jz,iA 7 jz]⟩,
 ⟨H8 2 500 false p q e t,n7++tQ,[iA 8 mm,iA 9 mm,qd 9 mm false,qd 9 mm true,wU false,wU true]⟩,⟨H8 2 500 true p q e t,n7++tQ,[iA 8 mm,iA 9 mm]⟩]
def fc:List Tk:=[.f (.i .i64),.f (.i .i64),.f (.i .i64),.r 1 [.s],.f .s,.f (.i .i64),.f (.i .i64),.f .b,.f .b,.f (.i .i64),.r 22 fb]++List.replicate 9 (.f (.i .i64))
def lv:DT->Bool
 | .leaf=>true
 | .hole _=>false
 | .br _ a b=>lv a&&lv b
 | .kT _ a b=>lv a&&lv b
theorem q8 {aR:Hyp}:∀(d:DT) (B:J),lv d=true->d.lj aR B=[]
 | .leaf,_,_=>rfl
 | .hole _,_,h=>by cases h
 | .br c a b,B,h=>by
  simp only[lv,Bool.and_eq_true]at h
  simp only[DT.lj]
  split
  ·exact q8 a _ h.1
  ·exact q8 b _ h.2
  ·rw[q8 a _ h.1,q8 b _ h.2];rfl
 | .kT k a b,B,h=>by
  simp only[lv,Bool.and_eq_true]at h
  simp only[DT.lj]
  split
  ·split
   ·exact q8 a _ h.1
   ·exact q8 b _ h.2
   ·rw[q8 a _ h.1,q8 b _ h.2];rfl
  ·rfl
theorem Xd {aR:Hyp} (hH:ud aR) {jY:J->Bool} {ρ:aa} {d:DT} {B:J} (hn:lv d=true) (h:d.ok aR jY B=true) (u:J.ok ρ B):∃aS,J.ok ρ aS/\jY aS=true:=by
 rcases DT.rh hH d B h u with g | ⟨p,hp,_⟩
 ·exact g
 ·rw[q8 d B hn]at hp;cases hp
theorem kV (c:BE) (ρ:aa):c.I ρ=true\/c.I ρ=false:=by cases c.I ρ<;>simp
end Go.Proofs.YtpdfmnhgocpkcaaGreat
namespace Go.Proofs.YtpdfmnhgocpkcaaGreat
open Go Go.Proofs.Aw Go.Proofs.Xw
set_option maxRecDepth 100000
inductive PT where
 | lf (d:DT)
 | br (c:BE) (a b:PT)
 | ho
 | hy (k:Nat) (a:PT)
 | eA (b6:J) (a:PT)
def vj (aR:Hyp) (k:Nat):BE×J:=(aR[k]?).getD (.lit false,[])
def PT.parts (aR:Hyp):PT->J->List (DT×J)
 | .lf d,B=>[(d,B)]
 | .br c a b,B=>a.parts aR ((c,true)::B)++b.parts aR ((c,false)::B)
 | .ho,_=>[]
 | .hy k a,B=>a.parts aR ((vj aR k).2++B)
 | .eA b6 a,B=>a.parts aR (b6++B)
def PT.sO (aR:Hyp):PT->J->List J
 | .lf _,_=>[]
 | .br c a b,B=>a.sO aR ((c,true)::B)++b.sO aR ((c,false)::B)
 | .ho,B=>[B]
 | .hy k a,B=>a.sO aR ((vj aR k).2++B)
 | .eA b6 a,B=>a.sO aR (b6++B)
def pI:BE := .eq (.var 443) (.lit 1)
def PT.wf (aR:Hyp):PT->J->Bool
 | .lf _,_=>true
 | .br c a b,B=>a.wf aR ((c,true)::B)&&b.wf aR ((c,false)::B)
 | .ho,_=>true
 | .hy k a,B=>ns B ((vj aR k).1,true)&&a.wf aR ((vj aR k).2++B)
 | .eA b6 a,B=>ns B (pI,false)&&a.wf aR (b6++B)
def PT.qc:PT->List J
 | .lf _ | .ho=>[]
 | .br _ a b=>a.qc++b.qc
 | .hy _ a=>a.qc
 | .eA b6 a=>b6::a.qc
theorem agt {aR:Hyp} (hH:ud aR) {k:Nat} {ρ:aa} (h:(vj aR k).1.I ρ=true):J.ok ρ (vj aR k).2:=by
 unfold vj at h ⊢
 cases G:aR[k]? with
 | none=>exact J.bt ρ
 | some p =>
  rw[G]at h
  exact hH p (List.mem_of_getElem? G) ρ h
theorem PT.aq {aR:Hyp} (hH:ud aR) {ρ:aa}:∀(t:PT) (B:J),(∀b6∈t.qc,pI.I ρ=false->J.ok ρ b6)->t.wf aR B=true->J.ok ρ B->(∃p∈t.parts aR B,J.ok ρ p.2)\/∃q∈t.sO aR B,J.ok ρ q
 | .lf d,B,_,_,u => .inl ⟨_,List.mem_cons_self,u⟩
 | .ho,B,_,_,u => .inr ⟨_,List.mem_cons_self,u⟩
 | .br c a b,B,hA,hw,u=>by
  simp only[PT.wf,Bool.and_eq_true]at hw
  simp only[PT.qc,List.mem_append]at hA
  rcases kV c ρ with h | h
  ·rcases PT.aq hH a _ (fun b6 hp=>hA b6 (.inl hp)) hw.1 (J.av h u)with⟨p,A,E⟩ | ⟨q,A,E⟩
   ·exact .inl ⟨p,List.mem_append_left _ A,E⟩
   ·exact .inr ⟨q,List.mem_append_left _ A,E⟩
  ·rcases PT.aq hH b _ (fun b6 hp=>hA b6 (.inr hp)) hw.2 (J.av h u)with⟨p,A,E⟩ | ⟨q,A,E⟩
   ·exact .inl ⟨p,List.mem_append_right _ A,E⟩
   ·exact .inr ⟨q,List.mem_append_right _ A,E⟩
 | .hy k a,B,hA,hw,u=>by
  simp only[PT.wf,Bool.and_eq_true]at hw
  exact PT.aq hH a _ hA hw.2 (eg (agt hH (rA u hw.1)) u)
 | .eA b6 a,B,hA,hw,u=>by
  simp only[PT.wf,Bool.and_eq_true]at hw
  exact PT.aq hH a _ (fun atQ hp=>hA atQ (List.mem_cons_of_mem _ hp)) hw.2 (eg (hA b6 List.mem_cons_self (rA u hw.1)) u)
def pL:PT := .lf .leaf
def VL (ask han afF tick:PT):PT := .br (ai (cA 0) 1) ask (.br (ai (cA 0) 2) han (.br (ai (cA 0) 3) tick (.br (ai (cA 0) 4) pL (.br (ai (cA 0) 5) afF pL))))
def aii (d:PT):PT := .br (.eq (cM 12) (.var 402)) (.br (.eq (cM 13) (.var 403)) d pL) pL
def Hv:DT := .br (bT (.var 414) 2) .leaf .leaf
def ae8 (sp:Bool) (x:Nat) (puts:Bool) (goal:U):PT :=
 let g:=fun n =>
  let d:=if sp=true then Oj goal n else .leaf
  PT.lf (.kT (1+n) (.kT (x+n) (.br (bV 24) d d) .leaf) .leaf)
 let gt:=PT.br (bT (gM 1) 2) (g 1) (.br (bT (gM 1) 3) (g 2) (.br (bT (gM 1) 4) (g 3) (g 4)))
 .br (.eq (.uf 1 0 mI) (.lit 1)) (.hy 1 (if puts=true then .br (bT (.var 414) 3) (.lf Hv) gt else gt)) pL
def LI (sp:Bool) (x:Nat) (puts:Bool) (goal:U):PT := .br (ai (cM 0) 2) (.br (.eq (cM 10) goal) (ae8 sp x puts goal) pL) pL
def WQ:DT := .br (bT (cA 1002) 1) .leaf .leaf
def acL:PT :=
 let one:=PT.lf (wm Cq (.kT 0 OU .leaf))
 .br (ai (cA 1) 4) .ho (.br (ai (cA 1) 1) (.lf (wm (Cq++[(mb (.ch wz) 32,false)]) OU)) (.br (ai (cA 1) 2) one (.br (ai (cA 1) 3) one (.br (ai (cA 1) 5) (.lf (.br (bT (cA 1002) 1) (.kT 0 (wm [(bT (cA 4) 0,false),(.lt (cA 4) (.var 0),true)] (.kT 16 OU .leaf)) .leaf) .leaf)) (.lf WQ)))))
def acK:PT := .br (ai (cA 1) 4) .ho (.lf WQ)
def QC (ap1:U) (ok:PT):PT := .br (ai (cM 73) 92) (.lf (ahD ap1)) (.br (ai (cM 73) 60) pL (.br (ai (cM 73) 0) ok pL))
def wrP:PT := .lf (.br (bV 47) (Q2 .leaf) .leaf)
def b1P:PT := .br (ai (cM 0) 4) (.lf ad2) (.br (ai (cM 0) 6) (.br (bT (.var 414) 3) (.lf Hv) (QC y9 wrP)) pL)
def m1P:PT := .br (ai (cM 0) 4) pL (.br (ai (cM 0) 6) (QC (.var 431) (.lf (.br (bV 47) (Q2 Ol) Ol))) pL)
def Zm:PT := .br (ai (cM 0) 4) pL (.br (ai (cM 0) 6) (QC wj (.br pI .ho (.eA pn.2 (.eA (ko tR) wrP)))) pL)
def Vp:PT:=VL acL pL pL pL
def ux (h:PT):PT:=VL acK (aii h) h (.lf arW)
def dR (sp:Bool):Nat->PT
 | 0=>Vp
 | 1=>Vp
 | 2=>ux (LI sp 7 true y9)
 | 3=>ux b1P
 | 4=>ux (LI sp 11 false (.var 431))
 | 5=>ux m1P
 | 7=>ux Zm
 | 9=>ux Zm
 | _=>ux (LI sp 16 false wj)
end Go.Proofs.YtpdfmnhgocpkcaaGreat
namespace Go.Proofs.YtpdfmnhgocpkcaaGreat
open Go Go.Proofs.Aw Go.Proofs.Xw
set_option maxRecDepth 100000
def L7:List Nat:=[48,124,30050,30052,30061,30122,30116,20051,20074,12,13,18,47,98,130,16,17,40,26,43,21,44,95,115,88,76,10073,10089,10090,10057,10019,10032,10020,10022,10025,10106,10080,10119,10118,10121,10103]
def Wl:List X:=vi 10 24++[xb 34]++vi 35 8++[xs 43,xs 44,xb 45]++vi 46 11++[xb 57,xs 58,xs 59,xb 60,xb 61]++vi 62 22
abbrev bU:X := .sc (.i .i64 (.lit 0))
abbrev aay:List X:=[(xi 10),(xi 11),(xi 12),(xi 13),(xi 14),(xi 15),(xi 16),(xi 17),(xi 18),(xi 19),(xi 20),(xi 21),(xi 22),(xi 23),(xi 24),(xi 25),(xi 26),(xi 27),(xi 28),(xi 29),(xi 30),(xi 31),(xi 32),(xi 33),(xb 34),(xi 35),(xi 36),(xi 37),(xi 38),(xi 39),(xi 40),(xi 41),(xi 42),(xs 43),(xs 44),(xb 45),(xi 46),(xi 47),(xi 48),(xi 49),(xi 50),(xi 51),(xi 52),(xi 53),(xi 54),(xi 55),(xi 56),(xb 57),(xs 58),(xs 59),(xb 60),(xb 61),(xi 62),(xi 63),(xi 64),(xi 65),(xi 66),(xi 67),(xi 68),(xi 69),(xi 70),(xi 71),(xi 72),(xi 73),(xi 74),(xi 75),(xi 76),(xi 77),(xi 78),(xi 79),(xi 80),(xi 81),(xi 82),(xi 83)]
abbrev tV:X := .sc (.b (.lit false))
abbrev Dv:X := .k (.slice none 0 0)
def Wq:BE:=(.lt (.lit 250) (.op .add .i64 (.lit 1) (.op .quo .i64 (.op .add .i64 (.op .add .i64 (.op .add .i64 (.op .add .i64 (.lit 0) (.ch (.var 58))) (.ch (.var 59))) (.ch (.var 43))) (.ch (.var 44))) (.lit 60))))
def VP:J:=[(Wq,false)]++dh++[(.lt (.var 2) (.lit 1),false),(.lt (.lit 4) (.var 2),false),(.lt (.var 3) (.lit 1),false),(.lt (.lit 4) (.var 3),false),(.lt (.var 4) (.var 3),true)]
noncomputable def lS:Code:=(dP (Tryz.f7.body.getD .skip))[0]?.getD .skip
def qQ:Nat:=32
def Zu:ba:=arP 15 23 13 15 17 [(41,.top),(40,.top),(16,.top),(39,.top),(38,.top),(34,.top),(37,.top),(36,.top),(35,.top),(14,.top),(33,.top),(32,.top),(28,.top),(31,.top),(30,.top),(29,.top),(27,.top),(26,.top),(25,.top),(24,.top),(23,.top),(22,.top),(21,.top),(20,.top),(19,.top),(18,.top),(12,.top),(9,(.ptr (1,0) [] 0)),(6,(.ptr (0,0) [] 0)),(0,(.agg [xi 0,xi 1,xi 2,xi 3])),(1,xi 4),(2,fS),(3,(.agg [xi 10,xi 11,xi 12,xi 13,xi 14,xi 15,xi 16,xi 17,xi 18,xi 19,xi 20,xi 21,xi 22,xi 23,xi 24,xi 25,xi 26,xi 27,xi 28,xi 29,xi 30,xi 31,xi 32,xi 33,xb 34,xi 35,xi 36,xi 37,xi 38,xi 39,xi 40,xi 41,xi 42,xs 43,xs 44,xb 45,xi 46,xi 47,xi 48,xi 49,xi 50,xi 51,xi 52,xi 53,xi 54,xi 55,xi 56,xb 57,xs 58,xs 59,xb 60,xb 61,xi 62,xi 63,xi 64,xi 65,xi 66,xi 67,xi 68,xi 69,xi 70,xi 71,xi 72,xi 73,xi 74,xi 75,xi 76,xi 77,xi 78,xi 79,xi 80,xi 81,xi 82,xi 83])),(4,xi 5),(5,xi 6)]
def hL:au:=[((0,0),[xi 0,xi 1,xi 2,xi 3]),((1,0),[xi 10,xi 11,xi 12,xi 13,xi 14,xi 15,xi 16,xi 17,xi 18,xi 19,xi 20,xi 21,xi 22,xi 23,xi 24,xi 25,xi 26,xi 27,xi 28,xi 29,xi 30,xi 31,xi 32,xi 33,xb 34,xi 35,xi 36,xi 37,xi 38,xi 39,xi 40,xi 41,xi 42,xs 43,xs 44,xb 45,xi 46,xi 47,xi 48,xi 49,xi 50,xi 51,xi 52,xi 53,xi 54,xi 55,xi 56,xb 57,xs 58,xs 59,xb 60,xb 61,xi 62,xi 63,xi 64,xi 65,xi 66,xi 67,xi 68,xi 69,xi 70,xi 71,xi 72,xi 73,xi 74,xi 75,xi 76,xi 77,xi 78,xi 79,xi 80,xi 81,xi 82,xi 83])]
def adH (C:dm):dm:=⟨⟨C.S.t,C.S.h++hL,C.S.nx⟩,C.b6,C.di⟩
def hl:List dm:=(adC 15 23 32 Zu++adB 15 23 32 Zu).map adH
noncomputable def Ew (kh:List GK):h8:=r5 [] NL kh cls [41]
noncomputable def rnL (kh:List GK) (B:J) (S:XS):T (XE×XS):=(ck (Ew kh).ti (eD ⟨Ew kh,h2,L7⟩ 12) [] qQ [] 1000 lS B S).map (dV (S.t.map (·.1)))
def rj (S:XS):XS:=⟨S.t,S.h,90⟩
noncomputable def bS (kh:List GK) (i:Nat) (B:J):Bool:=match hl[i]? with
 | some C=>dB qQ 400 400 ja (460,fc) i hl (rj C.S) (.exit 0) B (rnL kh B C.S)
 | none=>false
def Fs (i:Nat):J:=(match hl[i]? with | some C=>C.b6 | none=>[])++(X'++(if Nat.ble 6 i=true then oS++ko gZ else []))
def a5 (i:Nat):J:=(.lt (.var 400) (.len 2),true)::((if Nat.beq i 0=true then hyE.2 else hyR.2)++Fs i)
def ga (i:Nat):J:=(.lt (.var 400) (.len 2),false)::Fs i
def cO (ρ:aa) (i:Nat):Prop:=∃C,hl[i]? = some C/\(jO Tryz.prog Tryz.f7.ntmps lS qQ C.S (.ret (.exit 0,rj C.S)) ρ\/∃(j:Nat) (bM:dm) (F:aa),hl[j]? = some bM/\ep Tryz.prog Tryz.f7.ntmps lS qQ C.S bM.S ρ F/\J.ok F bM.b6/\F.i 400=IntKind.i64.wrap (ρ.i 400+1)/\az 400 ρ F/\(d' 460 fc ρ->d' 460 fc F)/\(bM.di=[]\/∃a∈bM.di,a.fr=i/\gH a ρ F))
def Ss (i:Nat):XS:=match hl[i]? with
 | some C=>C.S
 | none=>⟨[],[],0⟩
theorem RJ {i:Nat} {C:dm} (h:hl[i]? = some C):Ss i=C.S:=by unfold Ss;rw[h]
structure dW:Prop where
 hyp:ud a'
 sm:∀s∈h2,c4 Tryz.prog s
 k7:oZ Tryz.prog 41
theorem ahZ (ρ:aa) (f:Nat) (N:Nat) (c:Code):a1 Tryz.prog ρ N (NL f) c:=fun dw _ L h=>by
 unfold NL at h
 split at h
 ·unfold jB at h
  split at h
  ·simp[BD,bj.R,jB]at h
  ·cases h
 ·simp[jB]at h
theorem adu (ad:dW) {ρ:aa} {kh:List GK} (j5:∀k∈kh,c' Tryz.prog ρ k):b4 Tryz.prog ρ (Ew kh):=r6 (List.forall_mem_nil _) (fun f _ _=>ahZ ρ f _ _) j5 J9 (List.forall_mem_cons.2 ⟨ad.k7,List.forall_mem_nil _⟩)
theorem part (ad:dW) {ρ:aa} {i:Nat} (kh:List GK) (j5:∀k∈kh,c' Tryz.prog ρ k) {d:DT} {B:J} (hn:lv d=true) (h:d.ok a' (bS kh i) B=true) (u:J.ok ρ B):cO ρ i:=by
 obtain⟨aS,A,E⟩:=Xd ad.hyp hn h u
 unfold bS at E
 split at E
 ·rename_i C hC
  have H:=adu ad j5
  exact⟨C,hC,gC H.mixed H.ti (eU (c:=⟨Ew kh,h2,L7⟩) H ad.sm 12) (a1.nil _ _ _ _) (by kernel_rfl) A E⟩
 ·cases E
noncomputable def ay (i k:Nat):Bool:=match((dR false i).parts a' (a5 i))[k]? with
 | some p=>lv p.1&&p.1.ok a' (bS [] i) p.2
 | none=>true
def kE (i:Nat):Nat->Prop
 | 0=>True
 | n+1=>kE i n/\ay i n=true
theorem Xk {i k:Nat}:∀{n:Nat},kE i n->k<n->ay i k=true
 | 0,_,h=>by omega
 | n+1,h,u=>by
  by_cases e:k=n
  ·rw[e];exact h.2
  ·exact Xk h.1 (by omega)
theorem XM (ad:dW) {ρ:aa} {i n:Nat} (hu:kE i n) (hn:((dR false i).parts a' (a5 i)).length=n) (hw:(dR false i).wf a' (a5 i)=true) (hA:∀b6∈(dR false i).qc,pI.I ρ=false->J.ok ρ b6) (u:J.ok ρ (a5 i)):cO ρ i\/∃q∈(dR false i).sO a' (a5 i),J.ok ρ q:=by
 rcases PT.aq ad.hyp _ _ hA hw u with⟨p,A,E⟩ | h
 ·left
  obtain⟨k,aO⟩:=List.getElem?_of_mem A
  have h3:=Xk hu (k:=k) (by rw[<-hn];exact(List.getElem?_eq_some_iff.1 aO).1)
  unfold ay at h3
  rw[aO]at h3
  simp only[Bool.and_eq_true]at h3
  exact part ad [] (List.forall_mem_nil _) h3.1 h3.2 E
 ·exact .inr h
end Go.Proofs.YtpdfmnhgocpkcaaGreat
namespace Go.Proofs.YtpdfmnhgocpkcaaGreat
open Go Go.Proofs.Aw Go.Proofs.Xw
set_option maxRecDepth 100000
def zg:XS:=⟨([(17,bU),(41,.top),(40,.top),(16,.top),(15,(.ptr (23,0) [] 0))]++[(39,.top),(38,.top),(34,.top),(37,.top),(36,.top),(35,.top),(14,.top)]++[(13,(.ptr (15,0) [] 0))]++[(33,.top),(32,.top),(28,.top),(31,.top),(30,.top),(29,.top),(27,.top),(26,.top),(25,.top),(24,.top),(23,.top),(22,.top),(21,.top),(20,.top),(19,.top),(18,.top),(12,.top)]++[(9,(.ptr (1,0) [] 0)),(6,(.ptr (0,0) [] 0)),(0,(.agg [(xi 0),(xi 1),(xi 2),(xi 3)])),(1,(xi 4)),(2,fS),(3,(.agg aay)),(4,(xi 5)),(5,(xi 6))]),[((0,0),[(xi 0),(xi 1),(xi 2),(xi 3)]),((1,0),aay),((15,0),[(xi 0),(xi 1),(xi 2),(xi 3),(xi 4),bU,bU,bU,bU,bU,bU,bU,bU,bU,bU,bU,bU,bU,tV,bU,Dv,(.sc (.s (.lit ⟨#[]⟩))),bU,bU,bU,tV,tV,bU,bU,bU,bU,bU,bU,bU,bU,bU,bU,tV,bU,bU,bU,(.k (.pointer none)),Dv]),((23,0),[(xi 0),(xi 1),(xi 2),(xi 3),(xi 4),bU,bU,bU,bU,bU,bU,bU,bU,bU,bU,bU,bU,tV,bU,Dv,(.sc (.s (.lit ⟨#[]⟩))),bU,(.k (.pointer none)),bU,bU,bU,bU,tV,tV,bU,bU,bU,bU,bU,bU,bU,bU,bU,bU,tV,bU,bU,Dv,Dv])],32⟩
noncomputable def yp (i:Nat):bj:=⟨(dt lS).getD 0,0,400,zg,gz,[],.ret (.exit 0,rj (Ss i))⟩
end Go.Proofs.YtpdfmnhgocpkcaaGreat
namespace Go.Proofs.YtpdfmnhgocpkcaaGreat
open Go Go.Proofs.Aw Go.Proofs.Xw
set_option maxRecDepth 100000
theorem ai0 {P:Program} {ty e:TypeId} {z:Nat} (hs:bE P ty=some (e,z)) {D:List (List AV)} (h0:D≠[]):gO P [] .eql ty (.ro z D false) (.sc (.slice none 0 0))=some (.sc (.bool false)):=by
 unfold gO
 rw[JK (fun k i h=>by cases h)]
 cases D with
 | nil=>exact absurd rfl h0
 | cons e D=>simp only[kA,hs,mw]
theorem Sz {P:Program} {f:FuncId} {fn:Func} {ty e:TypeId} {z:Nat} (hf:P.funcs[f]? = some fn) (hb:fn.body=some (uA ty)) (hr:fn.results.toList=[.tmp 2]) (hN:fn.ntmps=8) (hs:bE P ty=some (e,z)) (hz:nE P e=some z)
  {D:List (List AV)} (h0:D≠[]) (hn:cp (fun _=>false) D=true) (M:D.length*de P e<=140737488355328) (hm:D.length<=9223372036854775807) (n:Nat) (h:Hp):CY P n f [.ro z D false] h (.ro z D false) []:=by
 have hA:b8 (fun _=>false) (.ro z D false)=true:=hn
 refine Je hf hb (by rw[hN];show 1<=8;decide) (by simp only[a4,hA,Bool.and_self]) hA (fun ac hE _ _ => ?_) n h
 rw[hr]
 exact Sv (b:=false) (by rw[hE,hN]) hs hz (ai0 hs h0) (fun h=>by cases h) fun _=>⟨D,by simp only[et,if_true],M,hm,rfl⟩
def gf (D:List (List AV)):Hp:=[((0,0),D.flatten)]
theorem adx {P:Program} {ac:Env} {ty e:TypeId} {z:Nat} (hN:ac.N=8) (hs:bE P ty=some (e,z)) (hz:nE P e=some z) {D:List (List AV)} (h0:D≠[]) (hw:∀(j:Nat) (r:List AV),D[j]? = some r->r.length=z) (hn:a4 (fun _=>false) D.flatten=true) (M:D.length*de P e<=140737488355328) (hm:D.length<=9223372036854775807) :
  AW P ac (uA ty) (RG P [.tmp 2] 1 (fun _=>(7,0)) (gf D) (aD [((0,0),some D.flatten),((1,0),some D.flatten)] (gf D)) (.sl (1,0) z 0 D.length true)) ⟨gD 0 [.sl (0,0) z 0 D.length true],gf D,2⟩:=by
 unfold uA
 refine oY fun K hK=>t_ [] (by rw[hN];rfl) ?_
 unfold J6
 rw[jN]
 refine hK _ ?_
 refine oY fun K hK=>oY fun K1 LK=>t_ [] (by rw[hN];rfl) ?_
 unfold J7
 rw[jN]
 show iy P [] _ _ K1 _ _ _
 rw[jN]
 have e0:gO P (gf D) .eql ty (.sl (0,0) z 0 D.length true) (.sc (.slice none 0 0))=some (.sc (.bool false)):=by
  unfold gO
  rw[JK (fun k i h=>by cases h)]
  simp only[kA,hs,gf,ae,if_true,Option.isSome_some,mw]
 show lu P _ _ (c6 (gO P (gf D) .eql ty (.sl (0,0) z 0 D.length true) (.sc (.slice none 0 0)))) _
 rw[e0]
 refine LK _ (DJ (b:=false) rfl (fun hb=>by cases hb) (fun _ => ?_))
 refine Jb (hK _ ?_)
 refine oY fun K2 A6=>t_ [7] (by rw[hN];rfl) ?_
 unfold J8
 rw[jN]
 have e1:nR P 5 false ty 0 []=some (.ro z [] true,[]):=by
  unfold nR
  rw[hs]
  simp only[hz,kX]
  rw[if_pos ⟨trivial,by omega,rfl,trivial⟩]
  rfl
 show lu P _ _ (lq (nR P 5 false ty 0 [])) _
 rw[e1]
 show iy P [7] _ _ K2 _ _ _
 rw[jN]
 show iy P [7] _ _ K2 _ _ _
 rw[jN]
 have e2:nN P 7 (gf D) true ty ty (.ro z [] true) (.sl (0,0) z 0 D.length true)=some (.sl (7,0) z 0 D.length true,[((7,0),some D.flatten)]):=by
  unfold nN
  rw[hs]
  have ee:et (gf D) z (.sl (0,0) z 0 D.length true)=some D:=by
   simp only[et,gf,ae,if_true,Option.bind_some]
   rw[if_pos ⟨trivial,by rw[gQ _ hw];omega⟩,List.drop_zero,Af _ _ hw (Nat.le_refl _),List.take_of_length_le (Nat.le_refl _)]
  simp only[hz,ee,and_self,if_true,jk,jl,nM]
  rw[if_pos ⟨by simpa using M,by simpa using hm,fun _=>h0⟩]
  simp
 show lu P _ _ (lq (nN P 7 (gf D) true ty ty (.ro z [] true) (.sl (0,0) z 0 D.length true))) _
 rw[e2]
 show iy P [7] _ _ K2 _ _ _
 rw[jN]
 refine A6 _ (DK ⟨.inl rfl,?_,fun m cs u hp => ?_⟩)
 ·rfl
 ·have e3:∀m,ae (aD [((0,0),some D.flatten),((1,0),some D.flatten)] (gf D)) m=if m=(1,0)then some D.flatten else if m=(0,0)then some D.flatten else none:=fun m=>by
   simp only[aD,dG,gf,ae]
   by_cases A:m=(1,0)
   ·subst A;simp
   ·by_cases E:m=(0,0)
    ·subst E;simp
    ·simp[A,E,Ne.symm A,Ne.symm E]
  rw[e3]at u
  by_cases A:m=(1,0)
  ·subst A
   rw[if_pos rfl]at u
   cases u
   rw[lB _ _ hn]
   show ae (aD [((7,0),some D.flatten)] (gf D)) (7,0)=_
   simp[aD,dG]
  ·rw[if_neg A]at u
   by_cases E:m=(0,0)
   ·subst E
    rw[if_pos rfl]at u
    cases u
    rw[lB _ _ hn]
    show ae (aD [((7,0),some D.flatten)] (gf D)) (0,0)=_
    simp[aD,dG,gf,ae]
   ·rw[if_neg E]at u;cases u
theorem adA {P:Program} {f:FuncId} {fn:Func} {ty e:TypeId} {z:Nat} (hf:P.funcs[f]? = some fn) (hb:fn.body=some (uA ty)) (hr:fn.results.toList=[.tmp 2]) (hN:fn.ntmps=8) (hs:bE P ty=some (e,z)) (hz:nE P e=some z)
  {D:List (List AV)} (h0:D≠[]) (hw:∀(j:Nat) (r:List AV),D[j]? = some r->r.length=z) (hn:a4 (fun _=>false) D.flatten=true) (M:D.length*de P e<=140737488355328) (hm:D.length<=9223372036854775807):CY P 1 f [.sl (0,0) z 0 D.length true] (gf D) (.sl (1,0) z 0 D.length true) [((0,0),some D.flatten),((1,0),some D.flatten)]:=by
 have nmono:∀(p:Nm->Bool) (l:List AV),a4 (fun _=>false) l=true->a4 p l=true:=fun p l h=>pE (p:=fun _=>false) (q:=p) (fun m hm=>by cases hm) l h
 have k9:∀m,ae (gf D) m=if m=(0,0)then some D.flatten else none:=fun m=>by
  by_cases E:m=(0,0)
  ·subst E;simp[gf,ae]
  ·simp[gf,ae,E,Ne.symm E]
 have g1:∀m,ae (aD [((0,0),some D.flatten),((1,0),some D.flatten)] (gf D)) m=if m=(1,0)then some D.flatten else if m=(0,0)then some D.flatten else none:=fun m=>by
  simp only[aD,dG]
  by_cases A:m=(1,0)
  ·subst A;simp
  ·by_cases E:m=(0,0)
   ·subst E;simp
   ·simp[A,E,Ne.symm A,Ne.symm E,k9]
 have one:∀k,(ae (aD [((0,0),some D.flatten),((1,0),some D.flatten)] (gf D)) (1,k)).isSome=true->k=0:=fun k h=>by
  rw[g1]at h
  by_cases u:k=0
  ·exact u
  ·rw[if_neg (by simp[u]),if_neg (by simp)]at h;cases h
 refine RA (fun _=>(7,0)) hf hb (by rw[hN];show 1<=8;decide) (fun m cs h=>h) (fun m cs h => ?_) rfl (fun m hm => ?_) (fun m hm => ?_) rfl (fun m cs hm hp => ?_) (fun k u=>by show 1<7;decide) (fun j k O u _=>by rw[one j O,one k u]) (fun ac hE=>by
  rw[hr]
  exact adx (by rw[hE,hN]) hs hz h0 hw hn M hm)
 ·rw[k9]at h
  split at h
  ·rename_i e;subst e;cases h
   exact⟨by decide,nmono _ _ hn⟩
  ·cases h
 ·simp only[List.map_cons,List.map_nil,List.mem_cons,List.not_mem_nil,or_false]at hm
  rcases hm with rfl | rfl
  ·exact .inr (by rw[k9];rfl)
  ·exact .inl rfl
 ·rw[k9]at hm
  split at hm
  ·rename_i e;subst e;simp
  ·cases hm
 ·rw[g1]at hm
  split at hm
  ·cases hm;exact nmono _ _ hn
  ·split at hm
   ·cases hm;exact nmono _ _ hn
   ·cases hm
end Go.Proofs.YtpdfmnhgocpkcaaGreat
